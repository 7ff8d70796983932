/- Part of a proof that a Go function answers true for every input. No condition. -/
import Derived.Test.YtnoildlijhapaaaGreatDoorE4
import Derived.OpenShut
import Derived.LaidMore
import Derived.MakeChecks
import Derived.LaidSub
import Derived.Lib.ItoaMem
import Derived.Lib.Walk
import Derived.Lib.AppendIntMem
import Derived.WalkKit
import Derived.BigCall
import Derived.BigGuard
set_option linter.unusedVariables false
set_option linter.unusedSimpArgs false
set_option linter.unusedSectionVars false
/- The spots with the least cost, plainly. No condition. -/
namespace Go.Proofs.YtnoildlijhapaaaGreatDoor
attribute [local irreducible] aD

theorem pP (f : Nat -> Rat) : ∀ n : Nat, sm (n + 1) f = f 0 + sm n (fun i => f (i + 1))
 | 0 => by show (0 : Rat) + f 0 = f 0 + 0; grind
 | n + 1 => by rw [cf, pP f n, cf]; grind
def dX (g : GR) (l : LK) : Rat := alX (frN g l) l
def dY (g : GR) (l : LK) : Rat := alY (frN g l) l
theorem s8 (d : LK -> Rat) (v : Nat) (l : LK) : ∀ ls : List LK, rb d v (ls ++ [l]) = rb d v ls + ((l.w : Int) : Rat) * ((dl l.t.toNat v - dl l.f.toNat v) * d l)
 | [] => by simp only [List.nil_append, rb]
 | x :: xs => by simp only [List.cons_append, rb]; rw [s8 d v l xs]; grind
theorem HG {n : Nat} {l : LK} (lv : LV n l) (v : Nat) : ((cfN v l : Int) : Rat) = ((l.w : Int) : Rat) * (dl l.t.toNat v - dl l.f.toNat v) := by
 have h1 := lv.f
 have h2 := lv.t
 have h3 := lv.ne
 unfold cfN dl
 by_cases hf : l.f = (v : Int)
 ·rw [if_pos hf, if_neg (by omega), if_pos (by omega), Rat.intCast_neg]; grind
 ·by_cases ht : l.t = (v : Int)
  ·rw [if_neg hf, if_pos ht, if_pos (by omega), if_neg (by omega)]; grind
  ·rw [if_neg hf, if_neg ht, if_neg (by omega), if_neg (by omega)]
   show (0 : Rat) = _; grind
section
variable {g : GR} (gv : GV g)
include gv
theorem Br (v : Nat) : (nrL g g.links).1 v = rb (dX g) v g.links /\ (nrL g g.links).2 v = rb (dY g) v g.links := by
 have : ∀ k, k <= g.links.length -> (nrL g (g.links.take k)).1 v = rb (dX g) v (g.links.take k) /\ (nrL g (g.links.take k)).2 v = rb (dY g) v (g.links.take k) := by
  intro k
  induction k with
  | zero => intro _; exact ⟨rfl, rfl⟩
  | succ k ih =>
   intro hk
   obtain ⟨i1, i2⟩ := ih (by omega)
   have lv := gLV gv g.links[k] (List.getElem_mem (by omega))
   obtain ⟨a1, a2⟩ := Bq (g := g) (nrL g (g.links.take k)) lv v
   rw [HG lv v] at a1 a2;rw [mC g (by omega), List.take_succ_eq_append_getElem (by omega), s8, s8, a1, a2, i1, i2];refine ⟨?_, ?_⟩
   ·show _ + _ * dX g _ = _; grind
   ·show _ + _ * dY g _ = _; grind
 have h := this g.links.length (Nat.le_refl _)
 rwa [List.take_length] at h
theorem BS : g.nodes.length = (g.nodes.length - 1) + 1 := by have := gv.n1; omega
end
def nmM (g : GR) : List (List RW) := nrM g.nodes.length (lapM g.links) (g.nodes.length - 1)
def nmX (g : GR) : List RW := nrX (nrL g g.links).1 (g.nodes.length - 1)
def nmY (g : GR) : List RW := nrX (nrL g g.links).2 (g.nodes.length - 1)
theorem jM (g : GR) : (nmM g).length = g.nodes.length - 1 := by simp [nmM, nrM]
theorem qh (X : Nat -> Rat) (k : Nat) : (nrX X k).length = k := by simp [nrX]
theorem Bt {g : GR} {a b : Nat} (ha : a < g.nodes.length - 1) (hb : b < g.nodes.length - 1) : mtv (nmM g) a b = qzW ((lapM g.links (a + 1) (b + 1) : Int) : Rat) := by
 have e : (nmM g).getD a [] = ((List.range g.nodes.length).map fun j => qzW ((lapM g.links (a + 1) j : Int) : Rat)).drop 1 := by simp [nmM, nrM, rq, ha]
 unfold mtv
 rw [e, List.getD_eq_getElem?_getD, List.getElem?_drop, List.getElem?_map, List.getElem?_range (by omega)]
 show qzW ((lapM g.links (a + 1) (1 + b) : Int) : Rat) = _
 rw [Nat.add_comm 1 b]
theorem tD {X : Nat -> Rat} {k i : Nat} (h : i < k) : ie (nrX X k) i = X (i + 1) := by
 unfold ie nrX
 rw [List.getD_eq_getElem?_getD, List.getElem?_map, List.getElem?_range h];exact bE _
def cnB (g : GR) : Bool := decide (∀ v, v < g.nodes.length -> lab g v = lab g 0)
def slX (g : GR) (b : List RW) (v : Nat) : Rat := if v = 0 then 0 else slv (cD (nmM g)) (ie b) (g.nodes.length - 1) (v - 1)
section
variable {g : GR} (gv : GV g)
include gv
theorem wF {a b : Nat} (ha : a < g.nodes.length - 1) (hb : b < g.nodes.length - 1) : cD (nmM g) a b = lpl id (wls g.links) (a + 1) (b + 1) := by
 unfold cD; rw [Bt ha hb, bE, DV (gLV gv)]
theorem pi {a b : Nat} (ha : a < g.nodes.length - 1) (hb : b < g.nodes.length - 1) : cD (nmM g) a b = cD (nmM g) b a := by
 rw [wF gv ha hb, wF gv hb ha, vg]
theorem Bs {y : Nat -> Rat} (h0 : y 0 = 0) {a : Nat} (ha : a < g.nodes.length - 1) : sm (g.nodes.length - 1) (fun j => cD (nmM g) a j * y (j + 1)) = LU y (wls g.links) (a + 1) := by
 rw [<- Ae (n := g.nodes.length) (a + 1) (rC gv), BS gv, pP, h0];rw [sm_congr fun j hj => by rw [wF gv ha hj]]; grind
theorem xW {y : Nat -> Rat} (h0 : y 0 = 0) : fm (g.nodes.length - 1) (cD (nmM g)) (fun i => y (i + 1)) = EN y y (wls g.links) := by
 unfold fm
 rw [sm_congr fun i hi => by rw [Bs gv h0 hi], <- Af (n := g.nodes.length) (u := y) (v := y) (rC gv), BS gv, pP, h0];simp only [Nat.add_sub_cancel]; grind
theorem tG : rm (cD (nmM g)) (g.nodes.length - 1) = cnB g := by
 have hn := gv.n1
 rw [Bool.eq_iff_iff]
 constructor
 ·intro h
  have hd := of_decide_eq_true h
  refine decide_eq_true fun v hv => Classical.byContradiction fun hne => ?_
  have hv0 : v ≠ 0 := fun e => hne (by rw [e])
  have p := E3 (B := cD (nmM g)) (n := g.nodes.length - 1) (fun i j hi hj => pi gv hi hj) hd (x := fun i => (fun u => if lab g u = lab g v then (1 : Rat) else 0) (i + 1)) ⟨v - 1, by omega, by
   show (if lab g (v - 1 + 1) = lab g v then (1 : Rat) else 0) ≠ 0
   rw [show v - 1 + 1 = v by omega, if_pos rfl]; grind⟩
  rw [xW gv (y := fun u => if lab g u = lab g v then (1 : Rat) else 0) (if_neg fun e => hne e.symm)] at p
  have z : ∀ ls : List WL, (∀ x ∈ ls, lab g x.f = lab g x.t) -> EN (fun u => if lab g u = lab g v then (1 : Rat) else 0) (fun u => if lab g u = lab g v then (1 : Rat) else 0) ls = 0 := by
   intro ls
   induction ls with
   | nil => intro _; rfl
   | cons x xs ih =>
    intro h
    simp only [EN];rw [ih fun y hy => h y (List.mem_cons_of_mem _ hy), h x List.mem_cons_self]; grind
  rw [z _ fun x hx => BC gv hx] at p;exact absurd p (by decide)
 ·intro h
  have hc := of_decide_eq_true h
  refine decide_eq_true (Gb (fun i j hi hj => pi gv hi hj) fun x hx => ?_)
  obtain ⟨i, hi, hx⟩ := hx
  have e : fm (g.nodes.length - 1) (cD (nmM g)) x = EN (fun v => if v = 0 then 0 else x (v - 1)) (fun v => if v = 0 then 0 else x (v - 1)) (wls g.links) := xW gv (y := fun v => if v = 0 then 0 else x (v - 1)) rfl
  rw [e]
  have nn := vT (u := fun v => if v = 0 then 0 else x (v - 1)) (EK gv)
  refine Classical.byContradiction fun hz => hx ?_
  have f := ng (u := fun v => if v = 0 then 0 else x (v - 1)) (EK gv) (by grind)
  have c := (kQ gv (u := i + 1) (v := 0) (by omega) (by omega)).1 (hc (i + 1) (by omega))
  rw [<- oZ] at c;exact xb (y := fun v => if v = 0 then 0 else x (v - 1)) f c
theorem ET {d : LK -> Rat} {b : List RW} (hb : ∀ i, i < g.nodes.length - 1 -> ie b i = rb d (i + 1) g.links) (hc : cnB g = true) : ∀ v, v < g.nodes.length -> gd d (slX g b) v g.links = 0 := by
 have hn := gv.n1
 rw [<- tG gv] at hc
 have hd := of_decide_eq_true hc
 refine Gr (fun l hl => ⟨(rC gv _ (List.mem_map.2 ⟨l, hl, rfl⟩)).1, (rC gv _ (List.mem_map.2 ⟨l, hl, rfl⟩)).2⟩) fun v hv hne => ?_;rw [Fa d (slX g b) v fun l hl => Fp gv _ (List.mem_map.2 ⟨l, hl, rfl⟩)]
 have r := Bs gv (y := slX g b) (if_pos rfl) (a := v - 1) (by omega)
 have s := sT (B := cD (nmM g)) (n := g.nodes.length - 1) (b := ie b) (fun i j hi hj => pi gv hi hj) (fun k hk => by have := hd k hk; grind) (i := v - 1) (by omega)
 rw [show v - 1 + 1 = v by omega] at r;rw [<- r, (sm_congr fun j _ => rfl : sm (g.nodes.length - 1) (fun j => cD (nmM g) (v - 1) j * slX g b (j + 1)) = sm (g.nodes.length - 1) (fun j => cD (nmM g) (v - 1) j * slv (cD (nmM g)) (ie b) (g.nodes.length - 1) j)), s, hb _ (by omega), show v - 1 + 1 = v by omega]; grind
end
def mnX (g : GR) : Nat -> Rat := slX g (nmX g)
def mnY (g : GR) : Nat -> Rat := slX g (nmY g)
def mnL (g : GR) : List SP := (List.range g.nodes.length).map fun v => szW (mnX g v) (mnY g v)
def wI (g : GR) : List SP × Int := if bQ g = true then (if cnB g = true then (mnL g, 0) else ([], 10)) else ([], 1)
section
variable {g : GR} (gv : GV g)
include gv
theorem Ht (hc : cnB g = true) : (∀ v, v < g.nodes.length -> gd (dX g) (mnX g) v g.links = 0) /\ ∀ v, v < g.nodes.length -> gd (dY g) (mnY g) v g.links = 0 :=
 ⟨ET gv (fun i hi => by rw [nmX, tD hi, (Br gv _).1]) hc, ET gv (fun i hi => by rw [nmY, tD hi, (Br gv _).2]) hc⟩
end
/-! ### Words -/
structure SM (g : GR) : Prop where
 n6 : g.nodes.length <= 6
 l16 : g.links.length <= 16
 ok : ∀ r ∈ g.nodes, r.OK 2
theorem DK {g : GR} (gv : GV g) (ok : ∀ r ∈ g.nodes, r.OK 2) (k : Nat) (hk : k <= g.links.length) (i : Nat) : ql ((nrL g (g.links.take k)).1 i) <= 1 + k * 18 /\ ql ((nrL g (g.links.take k)).2 i) <= 1 + k * 18 := by
 induction k generalizing i with
 | zero => exact ⟨gD, gD⟩
 | succ k ih =>
  have ih := ih (by omega)
  have hm : g.links[k] ∈ g.links := List.getElem_mem (by omega)
  have lv := gLV gv _ hm
  have o := l6 (ok _ (jR lv)) rfl lv.ix lv.iy (m := 15) rfl
  have o1 := o.qx rfl
  have o2 := o.qy rfl
  rw [alS, bT] at o1;rw [alS, bR] at o2
  have lw := lv.w
  have w1 : ql ((cfN i g.links[k] : Int) : Rat) <= 2 := dz (by unfold cfN; (repeat' split) <;> exact ⟨by omega, by omega⟩)
  rw [mC g (by omega)]
  obtain ⟨a1, a2⟩ := Bq (g := g) (nrL g (g.links.take k)) lv i
  rw [a1, a2];exact ⟨Nat.le_trans (br (ih i).1 (aP w1 o1)) (by omega), Nat.le_trans (br (ih i).2 (aP w1 o2)) (by omega)⟩
theorem uL {f : Nat -> Rat} {M : Nat} : ∀ {k : Nat}, (∀ t, t < k -> ql (f t) <= M) -> ql (sm k f) <= 1 + k * (M + 1)
 | 0, _ => by show ql (0 : Rat) <= _; exact Nat.le_trans gD (by omega)
 | k + 1, h => by
  have ih := uL (k := k) fun t ht => h t (by omega)
  rw [cf];exact Nat.le_trans (br ih (h k (by omega))) (by rw [Nat.succ_mul]; omega)
theorem De {B : Nat -> Nat -> Rat} {n m J c : Nat} (hs : ∀ i j, i < n -> j < n -> B i j = B j i) (hB : ∀ i j, i < n -> j < n -> IB m (B i j)) {b : Nat -> Rat} (hb : ∀ i, i < n -> ql (b i) <= c) (hn : n <= 16) (hJ : n * (m + 4) < 32 * J) (hd : ∀ k, k < n -> 0 < DD B k) {i : Nat} (hi : i < n) : ql (slv B b n i) <= 1 + n * (J + c + 1) := by
 have hd' : ∀ k, k < n -> DD B k ≠ 0 := fun k hk => by have := hd k hk; grind
 have e : sm n (fun j => slv B (fun r => if r = j then 1 else 0) n i * b j) = slv B b n i := by
  refine Ag (x := fun i => sm n (fun j => slv B (fun r => if r = j then 1 else 0) n i * b j)) hs hd (fun r hr => ?_) hi;rw [sm_congr (g := fun k => sm n (fun j => B r k * slv B (fun r => if r = j then 1 else 0) n k * b j)) (fun k _ => by rw [<- jE]; exact sm_congr fun j _ => by grind), mm]
  rw [sm_congr (g := fun j => (if r = j then 1 else 0) * b j) (fun j hj => by
   have := sT (B := B) (n := n) (b := fun r => if r = j then 1 else 0) hs hd' hr
   rw [<- this, <- pO])]
  rw [ew (j := r) _ hr fun j _ hne => by rw [if_neg (fun e => hne e.symm)]; grind, if_pos rfl]; grind
 rw [<- e];refine uL fun j hj => aP (FA (m := m) (J := J) hs hB (fun a _ => ?_) hn hJ hd' hi) (hb j hj)
 show IB m (if a = j then 1 else 0)
 split
 ·exact xm.mono (Nat.zero_le _)
 ·exact EJ m
structure NRM (g : GR) : Prop where
 len : (nmM g).length = g.nodes.length - 1
 rows : ∀ r ∈ nmM g, r.length = g.nodes.length - 1
 val : iW (nmM g) = true
 ok : okM 65536 (nmM g)
 fac : Ea (cD (nmM g)) (g.nodes.length - 1)
 sol : rm (cD (nmM g)) (g.nodes.length - 1) = true -> Ac (cD (nmM g)) (ie (nmX g)) (g.nodes.length - 1) /\ Ac (cD (nmM g)) (ie (nmY g)) (g.nodes.length - 1)
 bx : ∀ x ∈ nmX g, x.OK 305
 bY : ∀ x ∈ nmY g, x.OK 305
 qx : cnB g = true -> ∀ v, v < g.nodes.length -> ql (mnX g v) <= 1600 /\ ql (mnY g v) <= 1600
theorem xV {g : GR} (gv : GV g) (sm' : SM g) : NRM g := by
 have n6 := sm'.n6
 have n1 := gv.n1
 have hM : ∀ a b, -50331648 <= lapM g.links a b /\ lapM g.links a b <= 50331648 := fun a b => by
  have h1 := ya g.links (gLV gv) a b
  have h2 := gv.l
  omega
 have hIB : ∀ a b, a < g.nodes.length - 1 -> b < g.nodes.length - 1 -> IB 26 (cD (nmM g) a b) := fun a b ha hb => by
  unfold cD; rw [Bt ha hb, bE]
  have := hM (a + 1) (b + 1)
  exact ⟨_, rfl, by
   have e : (2 : Nat) ^ 26 = 67108864 := by decide
   rw [e]; omega⟩
 have hs : ∀ a b, a < g.nodes.length - 1 -> b < g.nodes.length - 1 -> cD (nmM g) a b = cD (nmM g) b a := fun a b ha hb => pi gv ha hb
 have hJ : (g.nodes.length - 1) * (26 + 4) < 32 * 5 := by omega
 have hn16 : g.nodes.length - 1 <= 16 := by omega
 have qr : ∀ v, ql ((nrL g g.links).1 v) <= 305 /\ ql ((nrL g g.links).2 v) <= 305 := fun v => by
  have h := DK gv sm'.ok g.links.length (Nat.le_refl _) v
  rw [List.take_length] at h
  have := sm'.l16
  exact ⟨by omega, by omega⟩
 have qbx : ∀ i, i < g.nodes.length - 1 -> ql (ie (nmX g) i) <= 305 := fun i hi => by rw [nmX, tD hi]; exact (qr _).1
 have qby : ∀ i, i < g.nodes.length - 1 -> ql (ie (nmY g) i) <= 305 := fun i hi => by rw [nmY, tD hi]; exact (qr _).2
 have hrows : ∀ r ∈ nmM g, r.length = g.nodes.length - 1 := fun r hr => by
  obtain ⟨a, _, rfl⟩ := List.mem_map.1 hr
  simp [rq]
 have sol : ∀ b : Nat -> Rat, (∀ i, i < g.nodes.length - 1 -> ql (b i) <= 305) -> rm (cD (nmM g)) (g.nodes.length - 1) = true -> Ac (cD (nmM g)) b (g.nodes.length - 1) /\ ∀ i, i < g.nodes.length - 1 -> ql (slv (cD (nmM g)) b (g.nodes.length - 1) i) <= 1600 := fun b hb hp => by
  have hd := of_decide_eq_true hp
  have hd' : ∀ k, k < g.nodes.length - 1 -> DD (cD (nmM g)) k ≠ 0 := fun k hk => by have := hd k hk; grind
  have qL : ∀ a b, a < g.nodes.length - 1 -> b < a -> ql (LL (cD (nmM g)) a b) <= 5 := fun a b ha hb => Fj hs hIB hn16 hJ ha hb fun k' hk' => hd' k' (by omega)
  have q2 : ∀ i, i < g.nodes.length - 1 -> ql (slv (cD (nmM g)) b (g.nodes.length - 1) i) <= 1600 := fun i hi => by
   have := De hs hIB hb hn16 hJ hd hi
   have h5 : (g.nodes.length - 1) * (5 + 305 + 1) <= 5 * (5 + 305 + 1) := Nat.mul_le_mul_right _ (by omega)
   omega
  refine ⟨⟨fun a ha => ?_, fun a ha => Nat.le_trans (q2 a ha) (by decide)⟩, q2⟩
  have h1 := Gu qL hb a ha
  have h2 : 2 ^ a <= 2 ^ 5 := Nat.pow_le_pow_right (by decide) (by omega)
  have h3 : (305 + 5 + 1) * 2 ^ a <= 311 * 2 ^ 5 := Nat.mul_le_mul_left _ h2
  have h4 : 311 * 2 ^ 5 = 9952 := by decide
  omega
 refine ⟨jM g, hrows, ?_, ?_, ?_, fun hp => ⟨(sol _ qbx hp).1, (sol _ qby hp).1⟩, ?_, ?_, ?_⟩
 ·refine decide_eq_true ⟨by rw [jM]; omega, fun r hr => by rw [jM]; exact hrows r hr, fun a ha b hb => ?_⟩;rw [jM] at ha;exact hs a b ha (by omega)
 ·intro r hr x hx
  obtain ⟨a, _, rfl⟩ := List.mem_map.1 hr
  obtain ⟨w, _, rfl⟩ := List.mem_map.1 (List.mem_of_mem_drop hx)
  have := hM (a + 1) w
  exact (bi (dz ⟨by omega, by omega⟩)).mono rfl
 ·intro a ha hd
  have hd' : ∀ k, k < a -> DD (cD (nmM g)) k ≠ 0 := fun k hk => by have := hd k hk; grind
  exact ⟨Nat.le_trans (HO hs hIB hn16 hJ ha hd') (by decide), fun b hb => Nat.le_trans (Fj hs hIB hn16 hJ ha hb fun k' hk' => hd' k' (by omega)) (by decide)⟩
 ·intro x hx
  obtain ⟨a, _, rfl⟩ := List.mem_map.1 hx
  exact bi (qr _).1
 ·intro x hx
  obtain ⟨a, _, rfl⟩ := List.mem_map.1 hx
  exact bi (qr _).2
 ·intro hc v hv
  rw [<- tG gv] at hc
  unfold mnX mnY slX
  by_cases e : v = 0
  ·rw [if_pos e, if_pos e]; exact ⟨by decide, by decide⟩
  ·rw [if_neg e, if_neg e];exact ⟨(sol _ qbx hc).2 _ (by omega), (sol _ qby hc).2 _ (by omega)⟩
end Go.Proofs.YtnoildlijhapaaaGreatDoor

/- Costs and gradients by coordinates. No condition. -/
namespace Go.Proofs.YtnoildlijhapaaaGreatDoor
attribute [local irreducible] aD

def xs (s : List SP) (v : Nat) : Rat := (s.getD v sp0).vx
def ys (s : List SP) (v : Nat) : Rat := (s.getD v sp0).vy
theorem Hg {g : GR} {s : List SP} {l : LK} : (rsG g s l).vx = xs s l.t.toNat - xs s l.f.toNat - dX g l /\ (rsG g s l).vy = ys s l.t.toNat - ys s l.f.toNat - dY g l := by
 unfold rsG rsS
 rw [bT, bR];refine ⟨?_, ?_⟩
 ·show (atS s l.t).vx - ((atS s l.f).vx + dX g l) = (atS s l.t).vx - (atS s l.f).vx - dX g l; grind
 ·show (atS s l.t).vy - ((atS s l.f).vy + dY g l) = (atS s l.t).vy - (atS s l.f).vy - dY g l; grind
theorem yr (g : GR) (s : List SP) : ∀ (ls : List LK) (a : Rat), ls.foldl (fun a l => a + csT g s l) a = a + (qe (dX g) (xs s) ls + qe (dY g) (ys s) ls)
 | [], a => by simp only [List.foldl_nil, qe]; grind
 | l :: ls, a => by
  rw [List.foldl_cons, yr g s ls];simp only [qe, csT];rw [Hg.1, Hg.2]; grind
theorem Fh (g : GR) (s : List SP) : csR g s g.links = qe (dX g) (xs s) g.links + qe (dY g) (ys s) g.links := by
 unfold csR; rw [yr]; grind
theorem p6 {d : LK -> Rat} {s m : Nat -> Rat} : ∀ {ls : List LK}, (∀ l ∈ ls, s l.f.toNat = m l.f.toNat /\ s l.t.toNat = m l.t.toNat) -> qe d s ls = qe d m ls
 | [], _ => rfl
 | l :: ls, h => by
  have ih := p6 (d := d) (s := s) (m := m) (ls := ls) fun l hl => h l (List.mem_cons_of_mem _ hl)
  obtain ⟨h1, h2⟩ := h l List.mem_cons_self
  simp only [qe]; rw [ih, h1, h2]
theorem Hu {g : GR} {v : Nat} (h : v < g.nodes.length) : (mnL g).getD v sp0 = szW (mnX g v) (mnY g v) := by
 unfold mnL; rw [List.getD_eq_getElem?_getD, List.getElem?_map, List.getElem?_range h]; rfl
theorem x4 {g : GR} {v : Nat} (h : v < g.nodes.length) : xs (mnL g) v = mnX g v /\ ys (mnL g) v = mnY g v := by
 unfold xs ys; rw [Hu h, bT, bR]; exact ⟨rfl, rfl⟩
theorem qm (g : GR) : (mnL g).length = g.nodes.length := by simp [mnL]
theorem kt {g : GR} (gv : GV g) : ∀ l ∈ g.links, l.f.toNat < g.nodes.length /\ l.t.toNat < g.nodes.length := fun l hl => by
 have lv := gLV gv l hl
 have h1 := lv.f
 have h2 := lv.t
 omega
def lsQ (g : GR) : Rat := qe (dX g) (mnX g) g.links + qe (dY g) (mnY g) g.links
theorem Fi {g : GR} (gv : GV g) : csR g (mnL g) g.links = lsQ g := by
 rw [Fh]; unfold lsQ;rw [p6 fun l hl => ⟨(x4 (kt gv l hl).1).1, (x4 (kt gv l hl).2).1⟩, p6 fun l hl => ⟨(x4 (kt gv l hl).1).2, (x4 (kt gv l hl).2).2⟩]
def zg (g : GR) : RW × Int := if bQ g = true then (if cnB g = true then (qzW (lsQ g), 0) else (gY, 10)) else (gY, 1)
theorem w9 {g : GR} (gv : GV g) (hc : cnB g = true) (s : List SP) :
  lsQ g <= csR g s g.links /\ (csR g s g.links = lsQ g ↔ ∀ v, v < g.nodes.length -> xs s v - mnX g v = xs s 0 - mnX g 0 /\ ys s v - mnY g v = ys s 0 - mnY g 0) := by
 obtain ⟨m1, m2⟩ := Ht gv hc
 have hw : ∀ l ∈ g.links, 1 <= l.w := fun l hl => (gLV gv l hl).w.1
 have a := uO (s := xs s) (kt gv) hw m1
 have b := uO (s := ys s) (kt gv) hw m2
 rw [Fh]; unfold lsQ;refine ⟨by grind, ?_, ?_⟩
 ·intro h v hv
  have h1 := a.2.1 (by grind)
  have h2 := b.2.1 (by grind)
  have c := (kQ gv hv (by have := gv.n1; omega)).1 (of_decide_eq_true hc v hv)
  exact ⟨sH (y := fun v => xs s v - mnX g v) h1 c, sH (y := fun v => ys s v - mnY g v) h2 c⟩
 ·intro h
  rw [a.2.2 fun l hl => ((h _ (kt gv l hl).1).1).trans ((h _ (kt gv l hl).2).1).symm, b.2.2 fun l hl => ((h _ (kt gv l hl).1).2).trans ((h _ (kt gv l hl).2).2).symm]
/-! ### Words of costs -/
theorem E5 {g : GR} (gv : GV g) (sm' : SM g) (hc : cnB g = true) : ∀ p ∈ mnL g, p.OK 1600 := fun p hp => by
 obtain ⟨v, hv, rfl⟩ := List.mem_map.1 hp
 have := (xV gv sm').qx hc v (List.mem_range.1 hv)
 exact d6 this.1 this.2
end Go.Proofs.YtnoildlijhapaaaGreatDoor

/- Graphs with the same costs have the same minimum. No condition. -/
namespace Go.Proofs.YtnoildlijhapaaaGreatDoor
attribute [local irreducible] aD

theorem DQ (g : GR) : mnX g 0 = 0 /\ mnY g 0 = 0 := by
 unfold mnX mnY slX; exact ⟨if_pos rfl, if_pos rfl⟩
/-! ### A link parted -/
end Go.Proofs.YtnoildlijhapaaaGreatDoor

/- adjust: Minimum, Least, Gradient, Worst. No condition. -/
namespace Go.Proofs.YtnoildlijhapaaaGreatDoor
attribute [local irreducible] aD
open Go.RowKit

set_option maxHeartbeats 1000000 in
theorem BU (g : GR) (ok : ∀ r ∈ g.nodes, r.OK 4096) (hs : bQ g = true -> SM g) : Con Tryz.prog 53 [AG g.cs] { v := .tup [.one (.d (dSs (wI g).1)), .one (.d (lI (wI g).2))] } := by
 have cN := zk g ok
 have cz := iZ 0 ⟨by decide, by decide⟩
 refine Z2 Tryz.func53 ?_
 intro w0 X
 rw [ak _ _ [(0, AG g.cs)] rfl rfl];refine gQ fun _ Z9=>?_;refine aJ rfl rfl rfl rfl rfl rfl ?_;refine Z7 ?_;refine Z7 ?_;refine eQ Z9 ?_;clear Z9
 by_cases hv : bQ g = true
 ·have gv := ci.1 hv
  have S := hs hv
  have NR := xV gv S
  have n6 := S.n6
  have n1 := gv.n1
  have eN : nrV g = (nmM g, nmX g, nmY g, 0) := by rw [nrV, if_pos hv]; rfl
  rw [eN] at cN
  have hlX : (nmX g).length = (nmM g).length := by rw [NR.len]; exact qh _ _
  have hlY : (nmY g).length = (nmM g).length := by rw [NR.len]; exact qh _ _
  have cX := uB (nmM g) (nmX g) (by rw [NR.len]; omega) (by rw [hlX, NR.len]; omega) (fun r hr => by rw [NR.rows r hr]; omega) NR.ok (fun x hx => (NR.bx x hx).mono rfl) (fun _ _ => by rw [NR.len]; exact ⟨NR.fac, fun hp => (NR.sol hp).1⟩)
  have cY := uB (nmM g) (nmY g) (by rw [NR.len]; omega) (by rw [hlY, NR.len]; omega) (fun r hr => by rw [NR.rows r hr]; omega) NR.ok (fun x hx => (NR.bY x hx).mono rfl) (fun _ _ => by rw [NR.len]; exact ⟨NR.fac, fun hp => (NR.sol hp).2⟩)
  have eX : jD (nmM g) (nmX g) = if cnB g = true then (nx (cD (nmM g)) (ie (nmX g)) (g.nodes.length - 1), 0) else ([], 10) := by
   rw [jD, if_pos ⟨NR.val, hlX⟩, NR.len, tG gv]
  have eY : jD (nmM g) (nmY g) = if cnB g = true then (nx (cD (nmM g)) (ie (nmY g)) (g.nodes.length - 1), 0) else ([], 10) := by
   rw [jD, if_pos ⟨NR.val, hlY⟩, NR.len, tG gv]
  rw [eX] at cX;rw [eY] at cY;rw [wI, if_pos hv]
  by_cases hc : cnB g = true
  ·rw [if_pos hc] at cX cY;rw [if_pos hc]
   have aX : ∀ i, i < g.nodes.length - 1 -> (nx (cD (nmM g)) (ie (nmX g)) (g.nodes.length - 1))[i]? = some (qzW (mnX g (i + 1))) := fun i hi => by
    unfold nx dO; rw [List.getElem?_map, List.getElem?_range hi]; rfl
   have aY : ∀ i, i < g.nodes.length - 1 -> (nx (cD (nmM g)) (ie (nmY g)) (g.nodes.length - 1))[i]? = some (qzW (mnY g (i + 1))) := fun i hi => by
    unfold nx dO; rw [List.getElem?_map, List.getElem?_range hi]; rfl
   have bX : (nx (cD (nmM g)) (ie (nmX g)) (g.nodes.length - 1)).length = g.nodes.length - 1 := kg _ _
   have bY : (nx (cD (nmM g)) (ie (nmY g)) (g.nodes.length - 1)).length = g.nodes.length - 1 := kg _ _
   have e0 := DQ g
   have en : mnL g = (List.range (g.nodes.length - 1 + 1)).map fun v => szW (mnX g v) (mnY g v) := by
    unfold mnL; rw [<- BS gv]
   have hm : g.nodes.length - 1 <= 5 := by omega
   rw [en];generalize nx (cD (nmM g)) (ie (nmX g)) (g.nodes.length - 1) = LX at cX aX bX;generalize nx (cD (nmM g)) (ie (nmY g)) (g.nodes.length - 1) = LY at cY aY bY;generalize nmM g = M at cN cX cY;generalize nmX g = BX at cN cX;generalize nmY g = BY at cN cY;generalize mnX g = x at aX e0 ⊢;generalize mnY g = y at aY e0 ⊢;generalize g.nodes.length - 1 = m at aX aY bX bY hm ⊢;refine gQ fun _ Z9=>?_;refine Z6 ?_;refine ab rfl rfl (cN) rfl rfl rfl rfl ?_;refine Z8 ?_;refine am rfl rfl rfl ?_;refine am rfl rfl rfl ?_;refine am rfl rfl rfl ?_;refine am rfl rfl rfl ?_;refine Z7 ?_;refine Z7 ?_;refine Z7 ?_;refine Z7 ?_;refine eQ Z9 ?_;clear Z9;refine ac ?_;refine gQ fun _ Z9=>?_;refine Z8 ?_;refine Z5 ?_;refine eQ Z9 ?_;clear Z9;refine al rfl (fun h => by cases h) (fun _ => ?_);refine ae ?_;show AWP _ _ _ _ _ _;refine gQ fun _ Z9=>?_;refine Z8 ?_;refine Z8 ?_;refine ab rfl rfl (cX) rfl rfl rfl rfl ?_;refine Z8 ?_;refine am rfl rfl rfl ?_;refine am rfl rfl rfl ?_;refine Z7 ?_;refine Z7 ?_;refine eQ Z9 ?_;clear Z9;refine ac ?_;refine gQ fun _ Z9=>?_;refine Z8 ?_;refine Z5 ?_;refine eQ Z9 ?_;clear Z9;refine al rfl (fun h => by cases h) (fun _ => ?_);refine ae ?_;show AWP _ _ _ _ _ _;refine gQ fun _ Z9=>?_;refine Z8 ?_;refine Z8 ?_;refine ab rfl rfl (cY) rfl rfl rfl rfl ?_;refine Z8 ?_;refine am rfl rfl rfl ?_;refine am rfl rfl rfl ?_;refine Z7 ?_;refine Z7 ?_;refine eQ Z9 ?_;clear Z9;refine gQ fun _ Z9=>?_;refine ab rfl rfl (cz) rfl rfl rfl rfl ?_;refine ab rfl rfl (cz) rfl rfl rfl rfl ?_;refine aI rfl rfl rfl ?_;refine av rfl rfl rfl rfl ?_;refine Z7 ?_;refine eQ Z9 ?_;clear Z9;refine ac ?_;refine gQ fun _ Z9=>?_;refine Z8 ?_;refine aA rfl (bI RW.dc rfl rfl) rfl ?_;refine Z8 ?_;refine eQ Z9 ?_;clear Z9;refine ai (aN (α := Nat) (fun i => mk 60 [(8, V1 (dRs LX)), (9, V1 (dRs LY)), (11, .val (.one (.own 40 8 0 (i + 1)))), (41, V1 (dRs LX)), (42, dI LX.length), (43, dI i)] [(40, some (.arr 8 ((List.range (i + 1)).map fun v => (szW (x v) (y v)).dc)))] []) (fun i => i <= m) (fun i => m - i) 0 ?_ (Nat.zero_le _) ?_)
   ·refine Wk.mk' ⟨rfl, rfl, rfl, rfl, rfl, rfl, trivial⟩ ⟨?_, trivial⟩
    show _ = some (OO.arr 8 [(szW (x 0) (y 0)).dc])
    rw [e0.1, e0.2]; rfl
   intro i hi
   refine gQ fun _ Z9=>?_;refine Z5 ?_;refine eQ Z9 ?_;clear Z9;refine ac ?_;refine al rfl (fun hg => ?_) (fun hg => ?_)
   ·have hg : i < m := by simp at hg; omega
    have g1 : i < LX.length := by omega
    have g2 : i < LY.length := by omega
    have a1 : LX[i] = qzW (x (i + 1)) := by have := aX i hg; rw [List.getElem?_eq_getElem g1] at this; exact Option.some.inj this
    have a2 : LY[i] = qzW (y (i + 1)) := by have := aY i hg; rw [List.getElem?_eq_getElem g2] at this; exact Option.some.inj this
    have n1 : ((List.range (i + 1)).map fun v => (szW (x v) (y v)).dc) ++ [(SP.mk LX[i] LY[i]).dc] = (List.range (i + 1 + 1)).map fun v => (szW (x v) (y v)).dc := by
     rw [a1, a2, List.range_succ (n := i + 1), List.map_append]; rfl
    have z1 : ((List.range (i + 1)).map fun v => (szW (x v) (y v)).dc).length = i + 1 := by simp
    generalize ((List.range (i + 1)).map fun v => (szW (x v) (y v)).dc) = es at n1 z1 ⊢;refine ae ?_;show AWP _ _ _ _ _ _;refine ac ?_;refine ai ?_;refine gQ fun _ Z9=>?_;refine Z8 ?_;refine Z7 ?_;refine eQ Z9 ?_;clear Z9;refine bg tok mixed (A := [[], [], [], [], [1, 2], [], [], [], [5, 6], [1, 2, 3, 5, 6, 7], [1, 2, 3, 4, 5, 6, 7, 8], [1, 2, 3, 4, 5, 6, 7, 8, 9], []]) (an := [{}, {}, {}, {}, {}, {}, {}, {}, {}, {}, {}, {}, {}]) rfl (by kernel_rfl) rfl fun _ Z9=>?_;refine Z8 ?_;refine Z8 ?_;refine Z8 ?_;refine aa rfl (x_m RW.dc rfl rfl rfl rfl g1 rfl) rfl ?_;refine Z6 ?_;refine Z8 ?_;refine Z8 ?_;refine aa rfl (x_m RW.dc rfl rfl rfl rfl g2 rfl) rfl ?_;refine Z6 ?_;refine aI rfl rfl rfl ?_;refine av rfl rfl rfl rfl ?_;refine aO rfl (gT rfl rfl rfl rfl rfl rfl (by decide) (Nat.le_of_ble_eq_true rfl) rfl (by simp) rfl rfl z1.symm (by simp <;> omega)) rfl rfl rfl ?_;refine Z7 ?_;refine eQ Z9 ?_;clear Z9;show AWP _ _ _ _ _ _;refine gR fun _ Z9=>?_;refine aj rfl (aH (c := ((i + 1 : Nat) : Int)) (by omega) (by omega)) rfl ?_;refine Z8 ?_;refine eQ Z9 ?_;clear Z9;refine ⟨i + 1, by omega, hg, Wk.rn [8, 9, 11, 41, 42, 43] [57] 57 40 rfl rfl rfl ⟨rfl, rfl, ?_, rfl, rfl, rfl, trivial⟩ ⟨?_, trivial⟩⟩
    ·show SV.val (.one (.own 40 8 0 _)) = _
     rw [List.length_append, z1]; rfl
    ·rw [<- n1]; rfl
   have hg : i = m := by simp at hg; omega
   subst hg
   refine az ?_;show AWP _ _ _ _ _ _;refine de [11] [40] 40 [(11, V1 (dSs ((List.range (i + 1)).map fun v => szW (x v) (y v))))] [] rfl ?_ trivial ?_
   ·exact ⟨bw (by rw [List.map_map]; rfl) (by simp), trivial⟩
   refine gQ fun _ Z9=>?_;refine Z8 ?_;refine Z7 ?_;refine Z7 ?_;refine eQ Z9 ?_;clear Z9;exact ag aM
  ·rw [if_neg hc] at cX;rw [if_neg hc];refine gQ fun _ Z9=>?_;refine Z6 ?_;refine ab rfl rfl (cN) rfl rfl rfl rfl ?_;refine Z8 ?_;refine am rfl rfl rfl ?_;refine am rfl rfl rfl ?_;refine am rfl rfl rfl ?_;refine am rfl rfl rfl ?_;refine Z7 ?_;refine Z7 ?_;refine Z7 ?_;refine Z7 ?_;refine eQ Z9 ?_;clear Z9;refine ac ?_;refine gQ fun _ Z9=>?_;refine Z8 ?_;refine Z5 ?_;refine eQ Z9 ?_;clear Z9;refine al rfl (fun h => by cases h) (fun _ => ?_);refine ae ?_;show AWP _ _ _ _ _ _;refine gQ fun _ Z9=>?_;refine Z8 ?_;refine Z8 ?_;refine ab rfl rfl (cX) rfl rfl rfl rfl ?_;refine Z8 ?_;refine am rfl rfl rfl ?_;refine am rfl rfl rfl ?_;refine Z7 ?_;refine Z7 ?_;refine eQ Z9 ?_;clear Z9;refine ac ?_;refine gQ fun _ Z9=>?_;refine Z8 ?_;refine Z5 ?_;refine eQ Z9 ?_;clear Z9;refine al rfl (fun _ => ?_) (fun h => by cases h);refine gQ fun _ Z9=>?_;refine Z7 ?_;refine Z7 ?_;refine eQ Z9 ?_;clear Z9;exact ag aM
 ·have eN : nrV g = ([], [], [], 1) := by rw [nrV, if_neg hv]
  rw [eN] at cN;rw [wI, if_neg hv];refine gQ fun _ Z9=>?_;refine Z6 ?_;refine ab rfl rfl (cN) rfl rfl rfl rfl ?_;refine Z8 ?_;refine am rfl rfl rfl ?_;refine am rfl rfl rfl ?_;refine am rfl rfl rfl ?_;refine am rfl rfl rfl ?_;refine Z7 ?_;refine Z7 ?_;refine Z7 ?_;refine Z7 ?_;refine eQ Z9 ?_;clear Z9;refine ac ?_;refine gQ fun _ Z9=>?_;refine Z8 ?_;refine Z5 ?_;refine eQ Z9 ?_;clear Z9;refine al rfl (fun _ => ?_) (fun h => by cases h);refine gQ fun _ Z9=>?_;refine Z8 ?_;refine Z7 ?_;refine Z7 ?_;refine eQ Z9 ?_;clear Z9;exact ag aM

theorem BV (g : GR) (ok : ∀ r ∈ g.nodes, r.OK 4096) (hs : bQ g = true -> SM g) : Con Tryz.prog 49 [AG g.cs] { v := .tup [.agg (zg g).1.cs, .one (.d (lI (zg g).2))] } := by
 have cM := BU g ok hs
 refine Z2 Tryz.func49 ?_
 intro w0 X
 rw [ak _ _ [(0, AG g.cs)] rfl rfl];refine gQ fun _ Z9=>?_;refine aJ rfl rfl rfl rfl rfl rfl ?_;refine ar rfl rfl rfl rfl rfl rfl ?_;refine Z7 ?_;refine eQ Z9 ?_;clear Z9
 by_cases hv : bQ g = true
 ·have gv := ci.1 hv
  rw [wI, if_pos hv] at cM;rw [zg, if_pos hv]
  by_cases hc : cnB g = true
  ·rw [if_pos hc] at cM;rw [if_pos hc]
   have cC := yf g (mnL g) ok (fun p hp => (E5 gv (hs hv) hc p hp).mono rfl)
   have e : m0 g (mnL g) = (qzW (lsQ g), 0) := by
    rw [m0, if_pos (im.2 ⟨gv, qm g⟩), Fi gv]
   rw [e] at cC;generalize mnL g = s at cM cC;refine gQ fun _ Z9=>?_;refine Z6 ?_;refine ab rfl rfl (cM) rfl rfl rfl rfl ?_;refine Z8 ?_;refine am rfl rfl rfl ?_;refine am rfl rfl rfl ?_;refine Z7 ?_;refine Z7 ?_;refine eQ Z9 ?_;clear Z9;refine ac ?_;refine gQ fun _ Z9=>?_;refine Z8 ?_;refine Z5 ?_;refine eQ Z9 ?_;clear Z9;refine al rfl (fun h => by cases h) (fun _ => ?_);refine ae ?_;show AWP _ _ _ _ _ _;refine gQ fun _ Z9=>?_;refine Z6 ?_;refine Z8 ?_;refine ab rfl rfl (cC) rfl rfl rfl rfl ?_;refine am rfl rfl rfl ?_;refine am rfl rfl rfl ?_;refine ah rfl rfl rfl rfl rfl ?_;refine Z7 ?_;refine eQ Z9 ?_;clear Z9;exact ag aM
  ·rw [if_neg hc] at cM;rw [if_neg hc];refine gQ fun _ Z9=>?_;refine Z6 ?_;refine ab rfl rfl (cM) rfl rfl rfl rfl ?_;refine Z8 ?_;refine am rfl rfl rfl ?_;refine am rfl rfl rfl ?_;refine Z7 ?_;refine Z7 ?_;refine eQ Z9 ?_;clear Z9;refine ac ?_;refine gQ fun _ Z9=>?_;refine Z8 ?_;refine Z5 ?_;refine eQ Z9 ?_;clear Z9;refine al rfl (fun _ => ?_) (fun h => by cases h);refine gQ fun _ Z9=>?_;refine aI rfl rfl rfl ?_;refine Z8 ?_;refine ah rfl rfl rfl rfl rfl ?_;refine Z7 ?_;refine eQ Z9 ?_;clear Z9;exact ag aM
 ·rw [wI, if_neg hv] at cM;rw [zg, if_neg hv];refine gQ fun _ Z9=>?_;refine Z6 ?_;refine ab rfl rfl (cM) rfl rfl rfl rfl ?_;refine Z8 ?_;refine am rfl rfl rfl ?_;refine am rfl rfl rfl ?_;refine Z7 ?_;refine Z7 ?_;refine eQ Z9 ?_;clear Z9;refine ac ?_;refine gQ fun _ Z9=>?_;refine Z8 ?_;refine Z5 ?_;refine eQ Z9 ?_;clear Z9;refine al rfl (fun _ => ?_) (fun h => by cases h);refine gQ fun _ Z9=>?_;refine aI rfl rfl rfl ?_;refine Z8 ?_;refine ah rfl rfl rfl rfl rfl ?_;refine Z7 ?_;refine eQ Z9 ?_;clear Z9;exact ag aM

end Go.Proofs.YtnoildlijhapaaaGreatDoor

/- adjust: Worst, New, Graph; the law's small functions. No condition. -/
namespace Go.Proofs.YtnoildlijhapaaaGreatDoor
attribute [local irreducible] aD
open Go.RowKit

theorem Ce {T : Tab} {t : TypeId} (a b : Nat) : aK T .gtr t (dI a) (dI b) = .set (dB (decide (b < a))) := by
 show bh (.bool (decide ((a : Int) > (b : Int)))) = _
 have : (decide ((a : Int) > (b : Int))) = decide (b < a) := by
  rw [Bool.eq_iff_iff, decide_eq_true_eq, decide_eq_true_eq]; omega
 rw [this]; rfl
theorem HD {T : Tab} {t : TypeId} {a b : Int} {c : Bool} (h : decide (a < b) = c) : aK T .lss t (dI a) (dI b) = .set (dB c) := by subst h; rfl
theorem qV {T : Tab} {t : TypeId} {a b : Int} {c : Bool} (h : (a != b) = c) : aK T .neq t (dI a) (dI b) = .set (dB c) := by subst h; rfl
/-! ### Small inputs -/
def w1 (r : RW) : Bool := decide (r.wp.length <= 1 /\ r.wq.length <= 1)
/-! ### New and Graph -/
end Go.Proofs.YtnoildlijhapaaaGreatDoor

/- adjust: Worst, Graph; awake. No condition. -/
namespace Go.Proofs.YtnoildlijhapaaaGreatDoor
attribute [local irreducible] aD
open Go.RowKit

/-! ### Worst -/
theorem uP (x y : Rat) : wz x y <= 0 ↔ x <= y := by
 have z : ∀ x y : Int, ll x y <= 0 ↔ x <= y := fun x y => by unfold ll; (repeat' split) <;> omega
 unfold wz
 rw [z, Rat.le_iff]
end Go.Proofs.YtnoildlijhapaaaGreatDoor

/- law31: awake; alike; Least. No condition. -/
namespace Go.Proofs.YtnoildlijhapaaaGreatDoor
attribute [local irreducible] aD
open Go.RowKit

theorem Cg {T : Tab} {t : TypeId} (a : ByteArray) : aK T .eql t (V1 (.lit (.string a))) (V1 (.lit (.string a))) = .set (dB true) := by
 show Eff.set (dB (a.toList == a.toList)) = _
 rw [beq_self_eq_true]
def gW : GR := ⟨[gY, gY], [⟨0, 1, 10, 0, 1⟩, ⟨0, 1, 13, 0, 2⟩]⟩
def sW : List SP := [szW 0 0, szW 12 0]
theorem tW1 : wI gW = (sW, 0) := by decide +kernel
theorem tW2 : zg gW = (qzW 6, 0) := by decide +kernel
theorem BT : ∀ r ∈ gW.nodes, r.OK 2 := by
 intro r hr
 have : r = gY := by
  simp only [gW, List.mem_cons, List.not_mem_nil, or_false, or_self] at hr; exact hr
 rw [this];exact ⟨fun x hx => (List.not_mem_nil hx).elim, fun x hx => (List.not_mem_nil hx).elim, Nat.zero_le _, Nat.zero_le _⟩
theorem Fb : bQ gW = true -> SM gW := fun _ => ⟨by decide, by decide, BT⟩
/-! ### alike -/
/-! ### Least -/
end Go.Proofs.YtnoildlijhapaaaGreatDoor

/- law31: Gradient. No condition. -/
namespace Go.Proofs.YtnoildlijhapaaaGreatDoor
attribute [local irreducible] aD
open Go.RowKit

end Go.Proofs.YtnoildlijhapaaaGreatDoor

/- law31: Order, Merges. No condition. -/
namespace Go.Proofs.YtnoildlijhapaaaGreatDoor
attribute [local irreducible] aD
open Go.RowKit

section
variable {T : Tab} {t e : TypeId} {ti ei : TI}
end
end Go.Proofs.YtnoildlijhapaaaGreatDoor

/- law31: Merges. No condition. -/
namespace Go.Proofs.YtnoildlijhapaaaGreatDoor
attribute [local irreducible] aD
open Go.RowKit

end Go.Proofs.YtnoildlijhapaaaGreatDoor

/- solve: dot, Times, Form. law31: Form. No condition. -/
namespace Go.Proofs.YtnoildlijhapaaaGreatDoor
attribute [local irreducible] aD
open Go.RowKit

/-! ### dot -/
/-! ### Times and Form -/
end Go.Proofs.YtnoildlijhapaaaGreatDoor

/- law31: Form. No condition. -/
namespace Go.Proofs.YtnoildlijhapaaaGreatDoor
attribute [local irreducible] aD
open Go.RowKit

section
variable {g : GR} (gv : GV g)
include gv
end
end Go.Proofs.YtnoildlijhapaaaGreatDoor

/- Quarter turns: what turns exactly. No condition. -/
namespace Go.Proofs.YtnoildlijhapaaaGreatDoor
attribute [local irreducible] aD
open Go.RowKit

/-! ### Plainly -/
def qP (t : Nat) : Int := match t % 4 with | 0 => 0 | 1 => 1 | 2 => 1 | _ => -1
def qQ (t : Nat) : Int := match t % 4 with | 0 => 1 | 1 => 1 | 2 => 0 | _ => 1
def qRW (t : Nat) : RW := pzW (qP t) (qQ t)
def rt4 : Nat -> Int × Int -> Int × Int
 | 0, p => p
 | k + 1, p => ((rt4 k p).2, -(rt4 k p).1)
theorem m4 (t : Nat) : t % 4 = 0 \/ t % 4 = 1 \/ t % 4 = 2 \/ t % 4 = 3 := by omega
theorem qPQ (t : Nat) : (t % 4 = 0 /\ qP t = 0 /\ qQ t = 1) \/ (t % 4 = 1 /\ qP t = 1 /\ qQ t = 1) \/ (t % 4 = 2 /\ qP t = 1 /\ qQ t = 0) \/ (t % 4 = 3 /\ qP t = -1 /\ qQ t = 1) := by
 unfold qP qQ
 rcases m4 t with h | h | h | h <;> rw [h]
 ·exact Or.inl ⟨rfl, rfl, rfl⟩
 ·exact Or.inr (Or.inl ⟨rfl, rfl, rfl⟩)
 ·exact Or.inr (Or.inr (Or.inl ⟨rfl, rfl, rfl⟩))
 ·exact Or.inr (Or.inr (Or.inr ⟨rfl, rfl, rfl⟩))
theorem FT (t : Nat) : (qRW t).OK 1 := by
 unfold qRW
 rcases qPQ t with ⟨_, h1, h2⟩ | ⟨_, h1, h2⟩ | ⟨_, h1, h2⟩ | ⟨_, h1, h2⟩ <;> rw [h1, h2] <;> exact A5 (by decide) (by decide)
theorem GN {t : Nat} {l : LK} {x y : Int} (hx : l.x = (rt4 (t % 4) (x, y)).1) (hy : l.y = (rt4 (t % 4) (x, y)).2) : alX (qRW t) l = (x : Rat) /\ alY (qRW t) l = (y : Rat) := by
 unfold alX alY qRW
 rw [Hp, Ho, hx, hy]
 have a1 : lZ 0 1 = 1 /\ lJ 0 1 = 0 := by decide +kernel
 have a2 : lZ 1 1 = 0 /\ lJ 1 1 = 1 := by decide +kernel
 have a3 : lZ 1 0 = -1 /\ lJ 1 0 = 0 := by decide +kernel
 have a4 : lZ (-1) 1 = 0 /\ lJ (-1) 1 = -1 := by decide +kernel
 rcases qPQ t with ⟨h, h1, h2⟩ | ⟨h, h1, h2⟩ | ⟨h, h1, h2⟩ | ⟨h, h1, h2⟩ <;> rw [h, h1, h2]
 ·rw [a1.1, a1.2]; simp only [rt4]; constructor <;> grind
 ·rw [a2.1, a2.2]; simp only [rt4]; push_cast; constructor <;> grind
 ·rw [a3.1, a3.2]; simp only [rt4]; push_cast; constructor <;> grind
 ·rw [a4.1, a4.2]; simp only [rt4]; push_cast; constructor <;> grind
theorem wh {B x y : Int} (hx : -B <= x /\ x <= B) (hy : -B <= y /\ y <= B) : ∀ k, (-B <= (rt4 k (x, y)).1 /\ (rt4 k (x, y)).1 <= B) /\ (-B <= (rt4 k (x, y)).2 /\ (rt4 k (x, y)).2 <= B)
 | 0 => ⟨hx, hy⟩
 | k + 1 => by
  have ih := wh hx hy k
  simp only [rt4]; omega

/-! ### Walks -/
theorem tH {T : Tab} {S : ca} (a b : Int) {ts : List TypeId} : aW T ⟨[], S, []⟩ (.builtin .max) [dI a, dI b] ts = .set (dI (if b > a then b else a)) := by
 simp only [aW, oB, cr, if_true, Bool.false_eq_true, if_false, bh]
theorem DR {T : Tab} {S : ca} (a b : Int) {ts : List TypeId} : aW T ⟨[], S, []⟩ (.builtin .min) [dI a, dI b] ts = .set (dI (if b < a then b else a)) := by
 simp only [aW, oB, cr, if_true, Bool.false_eq_true, if_false, bh]
def clp (n lo hi : Int) : Int := if (if hi < n then hi else n) > lo then (if hi < n then hi else n) else lo
theorem l5 (n lo hi : Int) : Con Tryz.prog 38 [dI n, dI lo, dI hi] { v := dI (clp n lo hi) } := by
 refine Z2 Tryz.func38 ?_
 intro w0 X
 rw [ak _ _ [(0, dI n), (1, dI lo), (2, dI hi)] rfl rfl];refine gQ fun _ Z9=>?_;refine Z7 ?_;refine eQ Z9 ?_;clear Z9;refine gQ fun _ Z9=>?_;refine Z8 ?_;refine Z8 ?_;refine Z8 ?_;refine aA rfl (DR _ _) rfl ?_;refine aA rfl (tH _ _) rfl ?_;refine Z7 ?_;refine eQ Z9 ?_;clear Z9;exact ag aM
theorem kC {n lo hi : Int} (h : lo <= hi) : lo <= clp n lo hi /\ clp n lo hi <= hi := by
 unfold clp; (repeat' split) <;> omega
abbrev u8D (n : Nat) : SV := V1 (.lit (.int .u8 n))
theorem mW {T : Tab} {t : TypeId} {n m : Nat} (h : n < 256) (hm : n % 4 = m) : aK T .rem t (u8D n) (V1 (.lit (.int .u8 4))) = .set (u8D m) := by
 subst hm
 have h1 : (n : Int).tmod 4 = ((n % 4 : Nat) : Int) := by
  rw [Int.tmod_eq_emod_of_nonneg (by omega)]; omega
 have hb : d5 .rem (.int .u8 (n : Int)) (.int .u8 4) = some (.int .u8 ((n % 4 : Nat) : Int)) := by
  simp only [d5, if_true];rw [if_neg (by decide), h1]
 simp only [aK, cv, hb]; rfl
theorem Eg {T : Tab} {t : TypeId} {n : Nat} (h : n < 4) : aK T .add t (u8D n) (V1 (.lit (.int .u8 1))) = .set (u8D (n + 1)) := by
 have : ∀ k : Nat, k < 4 -> IntKind.u8.wrap ((k : Int) + 1) = ((k + 1 : Nat) : Int) := by decide
 show bh (.int .u8 (IntKind.u8.wrap ((n : Int) + 1))) = _
 rw [this n h]; rfl
theorem Ef {T : Tab} {t : TypeId} {n m : Nat} : aK T .lss t (u8D n) (u8D m) = .set (dB (decide (n < m))) := by
 show bh (.bool (decide ((n : Int) < (m : Int)))) = _
 have : decide ((n : Int) < (m : Int)) = decide (n < m) := by rw [Bool.eq_iff_iff, decide_eq_true_eq, decide_eq_true_eq]; omega
 rw [this]; rfl
theorem xr (n : Int) (h : n = 0 \/ n = 1 \/ n = -1) : Con Tryz.prog 85 [dI n] { v := AG (ZC n) } := by
 have c := l5 1 0 9
 rw [show clp 1 0 9 = 1 by decide] at c
 rcases h with rfl | rfl | rfl
 ·refine gy (fn := Tryz.f85) b5 Tryz.func85 (by kernel_rfl) rfl ?_
  intro w0 X
  rw [ak _ _ [(0, dI 0)] rfl rfl];refine aB b5 fun _ Z9=>?_;refine ar rfl rfl rfl rfl rfl rfl ?_;refine eQ Z9 ?_;clear Z9;refine ac ?_;refine aB b5 fun _ Z9=>?_;refine Z8 ?_;refine Z5 ?_;refine eQ Z9 ?_;clear Z9;refine al rfl (fun _ => ?_) (fun h => by cases h);refine aB b5 fun _ Z9=>?_;refine aI rfl rfl rfl ?_;refine ah rfl rfl rfl rfl rfl ?_;refine eQ Z9 ?_;clear Z9;exact ag aM
 ·refine gy (fn := Tryz.f85) b5 Tryz.func85 (by kernel_rfl) rfl ?_
  intro w0 X
  rw [ak _ _ [(0, dI 1)] rfl rfl];refine aB b5 fun _ Z9=>?_;refine ar rfl rfl rfl rfl rfl rfl ?_;refine eQ Z9 ?_;clear Z9;refine ac ?_;refine aB b5 fun _ Z9=>?_;refine Z8 ?_;refine Z5 ?_;refine eQ Z9 ?_;clear Z9;refine al rfl (fun h => by cases h) (fun _ => ?_);refine ae ?_;show AWP _ _ _ _ _ _;refine aB b5 fun _ Z9=>?_;refine Z8 ?_;refine Z5 ?_;refine Z8 ?_;refine Z8 ?_;refine dJ rfl rfl rfl ?_;refine aA rfl (tH _ _) rfl ?_;refine ab rfl rfl (c) rfl rfl rfl rfl ?_;refine aR rfl rfl rfl ?_;refine d8 rfl rfl rfl rfl ?_;refine aI rfl rfl rfl ?_;refine ah rfl rfl rfl rfl rfl ?_;refine eQ Z9 ?_;clear Z9;exact ag aM
 ·refine gy (fn := Tryz.f85) b5 Tryz.func85 (by kernel_rfl) rfl ?_
  intro w0 X
  rw [ak _ _ [(0, dI (-1))] rfl rfl];refine aB b5 fun _ Z9=>?_;refine ar rfl rfl rfl rfl rfl rfl ?_;refine eQ Z9 ?_;clear Z9;refine ac ?_;refine aB b5 fun _ Z9=>?_;refine Z8 ?_;refine Z5 ?_;refine eQ Z9 ?_;clear Z9;refine al rfl (fun h => by cases h) (fun _ => ?_);refine ae ?_;show AWP _ _ _ _ _ _;refine aB b5 fun _ Z9=>?_;refine Z8 ?_;refine Z5 ?_;refine Z8 ?_;refine Z8 ?_;refine dJ rfl rfl rfl ?_;refine aA rfl (tH _ _) rfl ?_;refine ab rfl rfl (c) rfl rfl rfl rfl ?_;refine aR rfl rfl rfl ?_;refine d8 rfl rfl rfl rfl ?_;refine aI rfl rfl rfl ?_;refine ah rfl rfl rfl rfl rfl ?_;refine eQ Z9 ?_;clear Z9;exact ag aM
theorem Al (t : Nat) (a b : PT) (ht : t < 256) (hx : -4000 <= b.x - a.x /\ b.x - a.x <= 4000) (hy : -4000 <= b.y - a.y /\ b.y - a.y <= 4000) : Con Tryz.prog 40 [u8D t, AG [.d (lI a.x), .d (lI a.y)], AG [.d (lI b.x), .d (lI b.y)]] { v := .tup [.one (.d (lI (rt4 (t % 4) (b.x - a.x, b.y - a.y)).1)), .one (.d (lI (rt4 (t % 4) (b.x - a.x, b.y - a.y)).2))] } := by
 have bd := wh (B := 4000) (x := b.x - a.x) (y := b.y - a.y) hx hy
 obtain ⟨f, hf⟩ : ∃ f : Nat -> Int × Int, f = fun k => rt4 k (b.x - a.x, b.y - a.y) := ⟨_, rfl⟩
 have fs : ∀ k, f (k + 1) = ((f k).2, -(f k).1) := fun k => by rw [hf]; rfl
 have f0 : f 0 = (b.x - a.x, b.y - a.y) := by rw [hf]; rfl
 have fe : rt4 (t % 4) (b.x - a.x, b.y - a.y) = f (t % 4) := by rw [hf]
 have bd : ∀ k, (-4000 <= (f k).1 /\ (f k).1 <= 4000) /\ (-4000 <= (f k).2 /\ (f k).2 <= 4000) := fun k => by rw [hf]; exact bd k
 rw [fe];clear hf fe;refine Z2 Tryz.func40 ?_
 intro w0 X
 rw [ak _ _ [(0, u8D t), (1, AG [.d (lI a.x), .d (lI a.y)]), (2, AG [.d (lI b.x), .d (lI b.y)])] rfl rfl];refine gQ fun _ Z9=>?_;refine aJ rfl rfl rfl rfl rfl rfl ?_;refine aJ rfl rfl rfl rfl rfl rfl ?_;refine Z7 ?_;refine Z7 ?_;refine eQ Z9 ?_;clear Z9;refine aG tok mixed (A := [[], [], [], [], [0, 2], [], [], [], [], [5, 7], [], []]) (an := [{}, {}, {}, {}, {}, {}, {}, {}, {}, {}, {}, {}]) rfl (by kernel_rfl) rfl fun _ Z9=>?_;refine Z4 ?_;refine Z6 ?_;refine Z4 ?_;refine Z6 ?_;refine aj rfl (bD (c := b.x - a.x) rfl (by omega)) rfl ?_;refine Z4 ?_;refine Z6 ?_;refine Z4 ?_;refine Z6 ?_;refine aj rfl (bD (c := b.y - a.y) rfl (by omega)) rfl ?_;refine Z7 ?_;refine Z7 ?_;refine eQ Z9 ?_;clear Z9;refine ac ?_;refine gQ fun _ Z9=>?_;refine Z7 ?_;refine eQ Z9 ?_;clear Z9;refine ai (aN (α := Nat) (fun k => mk 32 [(0, u8D t), (8, dI (f k).1), (9, dI (f k).2), (10, u8D k)] [] []) (fun k => k <= t % 4) (fun k => t % 4 - k) 0 ?_ (Nat.zero_le _) ?_)
 ·simp only [f0];exact Wk.mk' ⟨rfl, rfl, rfl, rfl, trivial⟩ trivial
 intro k hk
 have h4 : t % 4 < 4 := Nat.mod_lt _ (by decide)
 have bk := bd k
 have fk := fs k
 refine ac ?_;refine gQ fun _ Z9=>?_;refine Z8 ?_;refine Z8 ?_;refine aj rfl (mW ht rfl) rfl ?_;refine aj rfl Ef rfl ?_;refine eQ Z9 ?_;clear Z9;refine al rfl (fun hg => ?_) (fun hg => ?_)
 ·have hg := of_decide_eq_true hg
  refine ae ?_;show AWP _ _ _ _ _ _;refine ac ?_;refine ai ?_;refine gR fun _ Z9=>?_;refine Z8 ?_;refine Z8 ?_;refine dJ rfl (E4 (by omega)) rfl ?_;refine Z7 ?_;refine Z7 ?_;refine eQ Z9 ?_;clear Z9;show AWP _ _ _ _ _ _;refine gR fun _ Z9=>?_;refine Z8 ?_;refine aj rfl (Eg (by omega)) rfl ?_;refine Z7 ?_;refine eQ Z9 ?_;clear Z9;refine ⟨k + 1, by omega, hg, ?_⟩;rw [fk];exact Wk.mk' ⟨rfl, rfl, rfl, rfl, trivial⟩ trivial
 have hg := of_decide_eq_false hg
 have hg : k = t % 4 := by omega
 subst hg
 refine az ?_;show AWP _ _ _ _ _ _;refine gQ fun _ Z9=>?_;refine Z8 ?_;refine Z8 ?_;refine Z7 ?_;refine Z7 ?_;refine eQ Z9 ?_;clear Z9;exact ag aM
theorem lk4 {c : Nat} {p : Int} (h : [(0 : Int), 1, 1, -1][c]? = some p) : ([[lI 0], [lI 1], [lI 1], [lI (-1)]] : List (List DC))[c]? = some [lI p] := by
 have := congrArg (Option.map fun z : Int => [lI z]) h
 rw [<- List.getElem?_map] at this;exact this
theorem lk5 {c : Nat} {p : Int} (h : [(1 : Int), 1, 0, 1][c]? = some p) : ([[lI 1], [lI 1], [lI 0], [lI 1]] : List (List DC))[c]? = some [lI p] := by
 have := congrArg (Option.map fun z : Int => [lI z]) h
 rw [<- List.getElem?_map] at this;exact this
set_option maxHeartbeats 1000000 in
theorem yW (ts : List Nat) (hts : ∀ t ∈ ts, t < 256) (hl : ts.length <= 1048576) : Con Tryz.prog 39 [V1 (dB8 ts)] { v := V1 (dRs (ts.map qRW)) } := by
 refine Z2 Tryz.func39 ?_
 intro w0 X
 rw [ak _ _ [(0, V1 (dB8 ts))] rfl rfl];refine gQ fun _ Z9=>?_;refine Z7 ?_;refine eQ Z9 ?_;clear Z9;refine gQ fun _ Z9=>?_;refine Z7 ?_;refine eQ Z9 ?_;clear Z9;refine ac ?_;refine gQ fun _ Z9=>?_;refine Z7 ?_;refine eQ Z9 ?_;clear Z9;refine ai (aN (α := Nat) (fun i => mk 38 [(0, V1 (dB8 ts)), (3, b6 200 4 i), (4, dI i)] [(200, bW 4 (((ts.take i).map qRW).map RW.dc) i)] []) (fun i => i <= ts.length) (fun i => ts.length - i) 0 ?_ (Nat.zero_le _) ?_)
 ·exact Wk.mk' ⟨rfl, rfl, rfl, trivial⟩ ⟨rfl, trivial⟩
 intro i hi
 refine ac ?_;refine gQ fun _ Z9=>?_;refine Z8 ?_;refine Z8 ?_;refine aA rfl (bI b8 rfl rfl) rfl ?_;refine Z5 ?_;refine eQ Z9 ?_;clear Z9;refine al rfl (fun hg => ?_) (fun hg => ?_)
 ·have hg : i < ts.length := by simp at hg; omega
  have hb := hts _ (List.getElem_mem hg)
  have n1 : ((ts.take i).map qRW).map RW.dc ++ [(qRW ts[i]).dc] = ((ts.take (i + 1)).map qRW).map RW.dc := by
   rw [List.take_succ_eq_append_getElem hg, List.map_append, List.map_append]; rfl
  have z1 : (((ts.take i).map qRW).map RW.dc).length = i := by simp; omega
  have hpq := qPQ ts[i]
  have cP := xr (qP ts[i]) (by omega)
  have cQ := xr (qQ ts[i]) (by omega)
  have eq : (qRW ts[i]).dc = [.lit (.bool (decide (qP ts[i] < 0))), dW (wof (qP ts[i]).natAbs), .lit (.bool (decide (qQ ts[i] < 0))), dW (wof (qQ ts[i]).natAbs)] := rfl
  generalize ((ts.take i).map qRW).map RW.dc = es at n1 z1 ⊢;refine ae ?_;show AWP _ _ _ _ _ _;refine ac ?_;refine ai ?_
  obtain ⟨c, hc, hlt, x1, x2⟩ : ∃ c : Nat, ts[i] % 4 = c /\ c < 4 /\ [(0 : Int), 1, 1, -1][c]? = some (qP ts[i]) /\ [(1 : Int), 1, 0, 1][c]? = some (qQ ts[i]) := by
   rcases hpq with ⟨h, h1, h2⟩ | ⟨h, h1, h2⟩ | ⟨h, h1, h2⟩ | ⟨h, h1, h2⟩
   ·exact ⟨0, h, by decide, by rw [h1]; rfl, by rw [h2]; rfl⟩
   ·exact ⟨1, h, by decide, by rw [h1]; rfl, by rw [h2]; rfl⟩
   ·exact ⟨2, h, by decide, by rw [h1]; rfl, by rw [h2]; rfl⟩
   ·exact ⟨3, h, by decide, by rw [h1]; rfl, by rw [h2]; rfl⟩
  generalize qP ts[i] = p at cP x1 eq;generalize qQ ts[i] = q at cQ x2 eq;rw [eq] at n1
  rcases i with _ | i
  ·refine gQ fun _ Z9=>?_;refine av rfl rfl rfl rfl ?_;refine Z8 ?_;refine Z8 ?_;refine aa rfl (x_m b8 rfl rfl rfl rfl hg rfl) rfl ?_;refine Z6 ?_;refine aj rfl (mW hb hc) rfl ?_;refine aa rfl (x_o (i := c) (j := c) rfl rfl rfl rfl rfl hlt (Nat.zero_add _)) rfl ?_;refine aT rfl (l_o rfl rfl (lk4 x1) rfl rfl) rfl ?_;refine Z7 ?_;refine eQ Z9 ?_;clear Z9;refine gQ fun _ Z9=>?_;refine av rfl rfl rfl rfl ?_;refine Z8 ?_;refine Z8 ?_;refine aa rfl (x_m b8 rfl rfl rfl rfl hg rfl) rfl ?_;refine Z6 ?_;refine aj rfl (mW hb hc) rfl ?_;refine aa rfl (x_o (i := c) (j := c) rfl rfl rfl rfl rfl hlt (Nat.zero_add _)) rfl ?_;refine aT rfl (l_o rfl rfl (lk5 x2) rfl rfl) rfl ?_;refine Z7 ?_;refine eQ Z9 ?_;clear Z9;refine gR fun _ Z9=>?_;refine Z8 ?_;refine Z8 ?_;refine ab rfl rfl (cP) rfl rfl rfl rfl ?_;refine Z8 ?_;refine ab rfl rfl (cQ) rfl rfl rfl rfl ?_;refine aI rfl rfl rfl ?_;refine av rfl rfl rfl rfl ?_;refine aO rfl (dV rfl rfl rfl rfl rfl (by decide) (Nat.le_of_ble_eq_true rfl) rfl (by simp) rfl (by simp) (by simp)) rfl rfl rfl ?_;refine Z7 ?_;refine eQ Z9 ?_;clear Z9;show AWP _ _ _ _ _ _;refine gR fun _ Z9=>?_;refine Z8 ?_;refine aj rfl (aH (c := ((0 + 1 : Nat) : Int)) (by omega) (by omega)) rfl ?_;refine Z7 ?_;refine eQ Z9 ?_;clear Z9;refine ⟨0 + 1, by omega, hg, Wk.rn [0, 3, 4] [36] 36 200 rfl rfl rfl ⟨rfl, ?_, rfl, trivial⟩ ⟨?_, trivial⟩⟩
   ·first
     | rfl
     | (show SV.val (.one (.own 200 4 0 _)) = _
        rw [List.length_append, z1]; rfl)
   ·first
     | (rw [<- n1, List.length_eq_zero_iff.1 z1]; rfl)
     | (rw [<- n1]; rfl)
  ·refine gQ fun _ Z9=>?_;refine av rfl rfl rfl rfl ?_;refine Z8 ?_;refine Z8 ?_;refine aa rfl (x_m b8 rfl rfl rfl rfl hg rfl) rfl ?_;refine Z6 ?_;refine aj rfl (mW hb hc) rfl ?_;refine aa rfl (x_o (i := c) (j := c) rfl rfl rfl rfl rfl hlt (Nat.zero_add _)) rfl ?_;refine aT rfl (l_o rfl rfl (lk4 x1) rfl rfl) rfl ?_;refine Z7 ?_;refine eQ Z9 ?_;clear Z9;refine gQ fun _ Z9=>?_;refine av rfl rfl rfl rfl ?_;refine Z8 ?_;refine Z8 ?_;refine aa rfl (x_m b8 rfl rfl rfl rfl hg rfl) rfl ?_;refine Z6 ?_;refine aj rfl (mW hb hc) rfl ?_;refine aa rfl (x_o (i := c) (j := c) rfl rfl rfl rfl rfl hlt (Nat.zero_add _)) rfl ?_;refine aT rfl (l_o rfl rfl (lk5 x2) rfl rfl) rfl ?_;refine Z7 ?_;refine eQ Z9 ?_;clear Z9;refine gR fun _ Z9=>?_;refine Z8 ?_;refine Z8 ?_;refine ab rfl rfl (cP) rfl rfl rfl rfl ?_;refine Z8 ?_;refine ab rfl rfl (cQ) rfl rfl rfl rfl ?_;refine aI rfl rfl rfl ?_;refine av rfl rfl rfl rfl ?_;refine aO rfl (gT rfl rfl rfl rfl rfl rfl (by decide) (Nat.le_of_ble_eq_true rfl) rfl (by simp) rfl rfl z1.symm (by simp <;> omega)) rfl rfl rfl ?_;refine Z7 ?_;refine eQ Z9 ?_;clear Z9;show AWP _ _ _ _ _ _;refine gR fun _ Z9=>?_;refine Z8 ?_;refine aj rfl (aH (c := ((i + 1 + 1 : Nat) : Int)) (by omega) (by omega)) rfl ?_;refine Z7 ?_;refine eQ Z9 ?_;clear Z9;refine ⟨i + 1 + 1, by omega, hg, Wk.rn [0, 3, 4] [36] 36 200 rfl rfl rfl ⟨rfl, ?_, rfl, trivial⟩ ⟨?_, trivial⟩⟩
   ·first
     | rfl
     | (show SV.val (.one (.own 200 4 0 _)) = _
        rw [List.length_append, z1]; rfl)
   ·first
     | (rw [<- n1, List.length_eq_zero_iff.1 z1]; rfl)
     | (rw [<- n1]; rfl)
 have hg : i = ts.length := by simp at hg; omega
 subst hg
 rw [List.take_length]
 have zL : (ts.map qRW).length = ts.length := List.length_map _
 generalize (ts.map qRW) = LL at zL ⊢;rw [<- zL];refine az ?_;show AWP _ _ _ _ _ _
 rcases LL with _ | ⟨l, LL⟩
 ·refine gQ fun _ Z9=>?_;refine Z8 ?_;refine Z7 ?_;refine eQ Z9 ?_;clear Z9;exact ag aM
 ·refine de [3] [200] 200 [(3, V1 (dRs (l :: LL)))] [] rfl ?_ trivial ?_
  ·exact ⟨bw rfl (by simp), trivial⟩
  refine gQ fun _ Z9=>?_;refine Z8 ?_;refine Z7 ?_;refine eQ Z9 ?_;clear Z9;exact ag aM
end Go.Proofs.YtnoildlijhapaaaGreatDoor

/- law31: Truth. No condition. -/
namespace Go.Proofs.YtnoildlijhapaaaGreatDoor
attribute [local irreducible] aD
open Go.RowKit

/-! ### Plainly -/
def p00 : PT := ⟨0, 0⟩
def exK (P : Nat -> PT) (ts : List Nat) (a b : Nat) (w : Int) : LK :=
 ⟨a, b, (rt4 (ts.getD a 0 % 4) ((P b).x - (P a).x, (P b).y - (P a).y)).1, (rt4 (ts.getD a 0 % 4) ((P b).x - (P a).x, (P b).y - (P a).y)).2, w⟩
section
variable {P : Nat -> PT} {ts : List Nat} {n : Nat} {pr : List PT}
variable (h1 : 1 <= n) (h5 : n <= 5) (hn : n <= ts.length) (hp : pr.length <= 5) (hP : ∀ i, (-1000 <= (P i).x /\ (P i).x <= 1000) /\ (-1000 <= (P i).y /\ (P i).y <= 1000))
include h1 h5 hn hp hP
end
end Go.Proofs.YtnoildlijhapaaaGreatDoor

/- law31: Truth, the walk. No condition. -/
namespace Go.Proofs.YtnoildlijhapaaaGreatDoor
attribute [local irreducible] aD
open Go.RowKit

theorem Hc {T : Tab} {t : TypeId} {ti : TI} {S : ca} {rb : List Nat} {id i : Nat} {es : List (List DC)} {p : PT} (h1 : T t = some ti) (h4 : ti.size = 2) (hS : S id = some (.arr 2 es)) (hi : i < es.length) (hel : ∀ el ∈ es, el.length = 2) :
  bB T ⟨[], S, rb⟩ t (.pe id 2 i 0) (AG [.d (lI p.x), .d (lI p.y)]) = .upd (bc S id (.arr 2 (es.set i p.dc))) rb :=
 pM (ds := p.dc) h1 hS hi (fun el h => by rw [h4]; exact hel el (List.mem_of_getElem? h)) rfl (by rw [h4]; rfl) (by rw [h4]; rfl)
end Go.Proofs.YtnoildlijhapaaaGreatDoor

/- The tables of numbers that a row's premise lays. No condition. -/
namespace Go.Proofs.YtnoildlijhapaaaGreatDoor
open Go.ChangeShapes Go.WideShapes Go.ChangeAt Go.RowKit
theorem tL {P : Program} {w : World} : ∀ {l : List (String × DataW Unit)} {ps : List MemPlace}, DataW.LaidVars P w l ps -> ∀ {n : String} {d : DataW Unit}, (n, d) ∈ l ->
  ∃ l' ps', DataW.LaidVars P w ((n, d) :: l') ps'
 | [], _, _, n, d, hm => by cases hm
 | (n0, d0) :: r, ps, h, n, d, hm => by
  rcases List.mem_cons.1 hm with e | hm
  ·cases e; exact ⟨r, ps, h⟩
  ·obtain ⟨g, t, cs, fuel, p, q, e1, e2, e3, e4, hr, rfl⟩ := h
   exact tL hr hm
theorem vj {P : Program} {W : World} {l : List (String × DataW Unit)} {n : String} {g t te N : Nat} {nums : List Nat} (h : laidMetH P l W)
  (hm : (n, (.agg (nums.map fun (z : Nat) => .lit (.int .u8 (z : Int))) : DataW Unit)) ∈ l) (hg : P.globalNamed n = some g) (ht : (P.globals[g]?).map (·.type) = some t)
  (hu : P.underlying t = some (.array N te)) (hu8 : P.underlying te = some (.int .u8)) (c5 : P.cellsOf te = 1) (hN : nums.length = N) (h0 : 0 < N) :
  g < W.heap.size /\ (∀ j, j < nums.length -> W.cell? ⟨g, j, none⟩ = some (.int .u8 (nums.getD j 0))) /\ (nums = [] -> ∃ t fr, W.heap[g]? = some (.cells (qt.map fun z => Value.int .u64 z).toArray t fr)) := by
 have key : ∀ j, j < nums.length -> W.cell? ⟨g, j, none⟩ = some (.int .u8 (nums.getD j 0)) := by
  obtain ⟨⟨ps0, hL, _, _⟩, _⟩ := laidMetH_iff.1 h
  obtain ⟨l', ps, g', t', cs, fuel, p, q, hg', ht', hv, hd, _, _⟩ := tL hL (List.mem_filter.2 ⟨hm, rfl⟩)
  obtain rfl := Option.some.inj (hg.symm.trans hg')
  obtain rfl := Option.some.inj (ht.symm.trans ht')
  obtain ⟨xs, m, _, ex, _, hl, hel⟩ := DataW.trod_array hu hd
  intro r hr
  have hE := hel r (by omega)
  rw [c5, Nat.mul_one, List.getElem?_eq_getElem (by omega)] at hE
  obtain ⟨z, e1, e2, _⟩ := DataW.trod_int hu8 hE
  have e3 : (xs.map (·.1)) = nums.map fun (n : Nat) => .lit (.int .u8 (n : Int)) := (DataW.agg.inj (Prod.mk.inj ex).1).symm
  have e4 : (xs.map (·.1))[r]? = (nums.map fun (n : Nat) => (DataW.lit (.int .u8 (n : Int)) : DataW Unit))[r]? := by rw [e3]
  rw [List.getElem?_map, List.getElem?_map, List.getElem?_eq_getElem (by omega : r < xs.length), List.getElem?_eq_getElem hr, e2] at e4
  have hz : z = ((nums.getD r 0 : Nat) : Int) := by
   simp only [Option.map_some, Option.some.injEq, DataW.lit.injEq, Lit.int.injEq, true_and] at e4;rw [e4, List.getD, List.getElem?_eq_getElem hr]; rfl
  rw [World.var?_cell hg hv r, <- hz]
  have : cs.toList[r]? = some (.int .u8 z) := by
   have h0 : ((cs.toList.drop r).take 1)[0]? = some (.int .u8 z) := by rw [e1]; rfl
   simpa using h0
  simpa using this
 refine ⟨?_, key, fun e => by rw [e] at hN; simp at hN; omega⟩
 have := key 0 (by omega)
 unfold World.cell? at this
 split at this
 ·rename_i hh
  rcases Nat.lt_or_ge g W.heap.size with hlt | hge
  ·exact hlt
  ·rw [Array.getElem?_eq_none hge] at hh; cases hh
 ·cases this
theorem BB {P : Program} {W : World} {l : List (String × DataW Unit)} {n : String} {g t te N : Nat} (h : laidMetH P l W)
  (hm : (n, (.agg (qt.map fun (z : Int) => .lit (.int .u64 z)) : DataW Unit)) ∈ l) (hg : P.globalNamed n = some g) (ht : (P.globals[g]?).map (·.type) = some t)
  (hu : P.underlying t = some (.array N te)) (hu8 : P.underlying te = some (.int .u64)) (c5 : P.cellsOf te = 1) (ct : P.cellsOf t = N) (hN : qt.length = N) :
  g < W.heap.size /\ (∀ j, j < ([] : List Nat).length -> W.cell? ⟨g, j, none⟩ = some (.int .u8 (([] : List Nat).getD j 0))) /\ (([] : List Nat) = [] -> ∃ t fr, W.heap[g]? = some (.cells (qt.map fun z => Value.int .u64 z).toArray t fr)) := by
 obtain ⟨⟨ps0, hL, _, _⟩, _⟩ := laidMetH_iff.1 h
 obtain ⟨l', ps, g', t', cs, fuel, p, q, hg', ht', hv, hd, _, _⟩ := tL hL (List.mem_filter.2 ⟨hm, rfl⟩)
 obtain rfl := Option.some.inj (hg.symm.trans hg')
 obtain rfl := Option.some.inj (ht.symm.trans ht')
 obtain ⟨xs, m, _, ex, hcl, hl, hel⟩ := DataW.trod_array hu hd
 have e3 : (xs.map (·.1)) = qt.map fun (n : Int) => .lit (.int .u64 n) := (DataW.agg.inj (Prod.mk.inj ex).1).symm
 have hcs : cs = (qt.map fun z => Value.int .u64 z).toArray := by
  rw [<- Array.toArray_toList (xs := cs)]
  congr 1
  apply List.ext_getElem?
  intro r
  rcases Nat.lt_or_ge r N with hr | hr
  ·have hE := hel r hr
   rw [c5, Nat.mul_one, List.getElem?_eq_getElem (by omega)] at hE
   obtain ⟨z, e1, e2, _⟩ := DataW.trod_int hu8 hE
   have e4 : (xs.map (·.1))[r]? = (qt.map fun (n : Int) => (DataW.lit (.int .u64 n) : DataW Unit))[r]? := by rw [e3]
   rw [List.getElem?_map, List.getElem?_map, List.getElem?_eq_getElem (by omega : r < xs.length), List.getElem?_eq_getElem (by omega : r < qt.length), e2] at e4
   have hz : z = qt[r]'(by omega) := by
    simpa only [Option.map_some, Option.some.injEq, DataW.lit.injEq, Lit.int.injEq, true_and] using e4
   have h0 : ((cs.toList.drop r).take 1)[0]? = some (.int .u64 z) := by rw [e1]; rfl
   rw [List.getElem?_map, List.getElem?_eq_getElem (by omega : r < qt.length), Option.map_some, <- hz]
   simpa using h0
  ·rw [List.getElem?_eq_none (by rw [hcl, ct]; exact hr), List.getElem?_eq_none (by rw [List.length_map, hN]; exact hr)]
 have hh : ∃ t fr, W.heap[g]? = some (.cells cs t fr) := by
  simp only [World.var?, hg, Option.bind_some] at hv
  split at hv
  ·rename_i c t fr hb
   cases hv
   exact ⟨t, fr, hb⟩
  ·cases hv
 rw [hcs] at hh;refine ⟨?_, (fun j hj => (Nat.not_lt_zero j hj).elim), fun _ => hh⟩
 obtain ⟨t, fr, hb⟩ := hh
 rcases Nat.lt_or_ge g W.heap.size with hlt | hge
 ·exact hlt
 ·rw [Array.getElem?_eq_none hge] at hb; cases hb
end Go.Proofs.YtnoildlijhapaaaGreatDoor

/- Patterns: rising pairs, their sets of neighbours. No condition. -/
namespace Go.Proofs.YtnoildlijhapaaaGreatDoor

def prD (p : Nat × Nat) : List DC := [lI p.1, lI p.2]
structure OKp (n : Nat) (ps : List (Nat × Nat)) : Prop where
 n64 : n <= 64
 b : ∀ p ∈ ps, p.1 < p.2 /\ p.2 < n
 up : ∀ i (h : i + 1 < ps.length), ps[i].1 < ps[i + 1].1 \/ ps[i].1 = ps[i + 1].1 /\ ps[i].2 < ps[i + 1].2
def jx (ps : List (Nat × Nat)) : Nat -> Nat -> Nat
 | 0, _ => 0
 | k + 1, w => let p := ps.getD k (0, 0)
  let g := jx ps k
  let g1 := fun w => if w = p.1 then g w ||| 2 ^ p.2 else g w
  if w = p.2 then g1 w ||| 2 ^ p.1 else g1 w
def prR (q : Nat -> Nat -> Bool) (a : Nat) : Nat -> List (Nat × Nat)
 | 0 => []
 | b + 1 => prR q a b ++ if a < b /\ q a b = true then [(a, b)] else []
def prP (q : Nat -> Nat -> Bool) (n : Nat) : Nat -> List (Nat × Nat)
 | 0 => []
 | a + 1 => prP q n a ++ prR q a n
theorem A9 (q : Nat -> Nat -> Bool) (a : Nat) : ∀ b, b <= a + 1 -> prR q a b = []
 | 0, _ => rfl
 | b + 1, h => by rw [prR, A9 q a b (by omega), if_neg (by omega)]; rfl
theorem pk {q : Nat -> Nat -> Bool} {a : Nat} {p : Nat × Nat} : ∀ {n}, p ∈ prR q a n ↔ p.1 = a /\ a < p.2 /\ p.2 < n /\ q a p.2 = true
 | 0 => by simp [prR]
 | n + 1 => by
  rw [prR, List.mem_append, pk (n := n)]
  constructor
  ·rintro (h | h)
   ·exact ⟨h.1, h.2.1, by omega, h.2.2.2⟩
   ·split at h
    ·rename_i hc
     rw [List.mem_singleton] at h
     subst h
     exact ⟨rfl, hc.1, by show n < n + 1; omega, hc.2⟩
    ·cases h
  ·rintro ⟨h1, h2, h3, h4⟩
   by_cases e : p.2 = n
   ·right
    rw [<- e, if_pos ⟨h2, h4⟩, List.mem_singleton]
    obtain ⟨x, y⟩ := p
    simp only at h1; rw [h1]
   ·exact Or.inl ⟨h1, h2, by omega, h4⟩
theorem mG {q : Nat -> Nat -> Bool} {n : Nat} {p : Nat × Nat} : ∀ {m}, p ∈ prP q n m ↔ p.1 < m /\ p.1 < p.2 /\ p.2 < n /\ q p.1 p.2 = true
 | 0 => by simp [prP]
 | m + 1 => by
  rw [prP, List.mem_append, mG (m := m), pk]
  constructor
  ·rintro (h | ⟨h1, h2, h3, h4⟩)
   ·exact ⟨by omega, h.2⟩
   ·exact ⟨by omega, by omega, h3, by rw [h1]; exact h4⟩
  ·rintro ⟨h1, h2, h3, h4⟩
   by_cases e : p.1 = m
   ·right; exact ⟨e, by omega, h3, by rw [<- e]; exact h4⟩
   ·left; exact ⟨by omega, h2, h3, h4⟩
def Hw (p r : Nat × Nat) : Prop := p.1 < r.1 \/ p.1 = r.1 /\ p.2 < r.2
theorem uT (q : Nat -> Nat -> Bool) (a : Nat) : ∀ n, (prR q a n).Pairwise Hw
 | 0 => List.Pairwise.nil
 | n + 1 => by
  rw [prR, List.pairwise_append];refine ⟨uT q a n, by split <;> simp, fun x hx y hy => ?_⟩
  split at hy
  ·rw [List.mem_singleton] at hy
   subst hy
   have := pk.1 hx
   exact Or.inr ⟨this.1, this.2.2.1⟩
  ·cases hy
theorem uU (q : Nat -> Nat -> Bool) (n : Nat) : ∀ m, (prP q n m).Pairwise Hw
 | 0 => List.Pairwise.nil
 | m + 1 => by
  rw [prP, List.pairwise_append];refine ⟨uU q n m, uT q m n, fun x hx y hy => ?_⟩
  have h1 := mG.1 hx
  have h2 := pk.1 hy
  exact Or.inl (by omega)
theorem FY (q : Nat -> Nat -> Bool) {n : Nat} (hn : n <= 64) (m : Nat) : OKp n (prP q n m) where
 n64 := hn
 b := fun p hp => by have := mG.1 hp; exact ⟨this.2.1, this.2.2.1⟩
 up := fun i h => List.pairwise_iff_getElem.1 (uU q n m) i (i + 1) (by omega) h (by omega)
theorem tw (q : Nat -> Nat -> Bool) (a : Nat) : ∀ b, (prR q a b).length <= b
 | 0 => Nat.le_refl _
 | b + 1 => by
  have := tw q a b
  rw [prR, List.length_append]
  split <;> simp <;> omega
theorem tz (q : Nat -> Nat -> Bool) (n : Nat) : ∀ a, (prP q n a).length <= a * n
 | 0 => by simp [prP]
 | a + 1 => by
  have := tz q n a
  have := tw q a n
  rw [prP, List.length_append, Nat.succ_mul]; omega
theorem uf {n : Nat} {ps : List (Nat × Nat)} (ok : OKp n ps) (a b : Nat) : ∀ k, k <= ps.length -> ((jx ps k a).testBit b = true ↔ (a, b) ∈ ps.take k \/ (b, a) ∈ ps.take k)
 | 0, _ => by simp [jx]
 | k + 1, hk => by
  have ih := uf ok a b k (by omega)
  have e : ps.getD k (0, 0) = ps[k] := by rw [List.getD_eq_getElem?_getD, List.getElem?_eq_getElem (by omega)]; rfl
  have hp := ok.b _ (List.getElem_mem (show k < ps.length by omega))
  have et : ps.take (k + 1) = ps.take k ++ [ps[k]] := by rw [List.take_add_one, List.getElem?_eq_getElem (by omega)]; rfl
  rw [et, List.mem_append, List.mem_append, List.mem_singleton, List.mem_singleton];simp only [jx, e];generalize ps[k] = p at hp ⊢
  obtain ⟨x, y⟩ := p
  simp only [Prod.mk.injEq]
  have tx : (2 ^ x).testBit b = decide (x = b) := sL x b
  have ty : (2 ^ y).testBit b = decide (y = b) := sL y b
  by_cases h1 : a = y
  ·rw [if_pos h1]
   by_cases h2 : a = x
   ·rw [if_pos h2, Nat.testBit_or, Nat.testBit_or, tx, ty];simp only [Bool.or_eq_true, decide_eq_true_eq, ih]
    constructor
    ·rintro ((h | h) | h)
     ·rcases h with h | h <;> simp [h]
     ·omega
     ·omega
    ·rintro ((h | h) | (h | h))
     ·simp [h]
     ·omega
     ·simp [h]
     ·omega
   ·rw [if_neg h2, Nat.testBit_or, tx];simp only [Bool.or_eq_true, decide_eq_true_eq, ih]
    constructor
    ·rintro (h | h)
     ·rcases h with h | h <;> simp [h]
     ·right; right; exact ⟨h.symm, h1⟩
    ·rintro ((h | h) | (h | h))
     ·simp [h]
     ·omega
     ·simp [h]
     ·right; omega
  ·rw [if_neg h1]
   by_cases h2 : a = x
   ·rw [if_pos h2, Nat.testBit_or, ty];simp only [Bool.or_eq_true, decide_eq_true_eq, ih]
    constructor
    ·rintro (h | h)
     ·rcases h with h | h <;> simp [h]
     ·left; right; exact ⟨h2, h.symm⟩
    ·rintro ((h | h) | (h | h))
     ·simp [h]
     ·right; omega
     ·simp [h]
     ·omega
   ·rw [if_neg h2, ih]
    constructor
    ·rintro (h | h) <;> simp [h]
    ·rintro ((h | h) | (h | h))
     ·simp [h]
     ·omega
     ·simp [h]
     ·omega
theorem CD {n : Nat} {ps : List (Nat × Nat)} (ok : OKp n ps) (a b : Nat) : (jx ps ps.length a).testBit b = true ↔ (a, b) ∈ ps \/ (b, a) ∈ ps := by
 have := uf ok a b ps.length (Nat.le_refl _)
 rwa [List.take_length] at this

theorem uX {id sz L : Nat} {α : Type} {l : List α} {x : α} (h : l.length = L) : b6 id sz (l ++ [x]).length = .val (.one (.own id sz 0 (L + 1))) := by rw [List.length_append, h]; rfl
theorem vR {sz L : Nat} {α : Type} {f : α -> List DC} {l : List α} {x : α} (h : l.length = L) : bW sz ((l ++ [x]).map f) (l ++ [x]).length = some (.arr sz (l.map f ++ [f x])) := by rw [List.length_append, h, List.map_append]; rfl
theorem A8 {q : Nat -> Nat -> Bool} {a b : Nat} (h : a < b) : prR q a (b + 1) = prR q a b ++ if q a b = true then [(a, b)] else [] := by
 rw [prR]
 by_cases hq : q a b = true
 ·rw [if_pos ⟨h, hq⟩, if_pos hq]
 ·rw [if_neg (fun x => hq x.2), if_neg hq]
end Go.Proofs.YtnoildlijhapaaaGreatDoor

/- Dead reckoning, plainly. No condition. -/
namespace Go.Proofs.YtnoildlijhapaaaGreatDoor

def hfB (pl : Nat -> Bool) (l : LK) : Bool := pl l.f.toNat != pl l.t.toNat
structure RK where
 pl : Nat -> Bool
 x : Nat -> Rat
 y : Nat -> Rat
def eK (p : Nat -> Bool) (v : Nat) : Nat -> Bool := fun u => decide (u = v) || p u
def rk0 : RK := ⟨fun v => decide (v = 0), fun _ => 0, fun _ => 0⟩
def rkS (g : GR) (l : LK) (s : RK) : RK :=
 if s.pl l.f.toNat = true then ⟨eK s.pl l.t.toNat, bZ s.x l.t.toNat (s.x l.f.toNat + dX g l), bZ s.y l.t.toNat (s.y l.f.toNat + dY g l)⟩
 else ⟨eK s.pl l.f.toNat, bZ s.x l.f.toNat (s.x l.t.toNat - dX g l), bZ s.y l.f.toNat (s.y l.t.toNat - dY g l)⟩
def lkZ : LK := ⟨0, 0, 0, 0, 0⟩
def nxK (g : GR) (s : RK) : Option Nat := g.links.findIdx? (hfB s.pl)
def rkN (g : GR) (s : RK) : RK := match nxK g s with
 | some k => rkS g (g.links.getD k lkZ) s
 | none => s
def rk (g : GR) : Nat -> RK
 | 0 => rk0
 | k + 1 => rkN g (rk g k)
def nR (p : Nat -> Bool) (n : Nat) : Nat := ((List.range n).filter p).length
theorem Es (p : Nat -> Bool) (n : Nat) : nR p n <= n := by
 have := List.length_filter_le p (List.range n)
 rwa [List.length_range] at this
theorem su (p : Nat -> Bool) (n : Nat) : nR p (n + 1) = nR p n + if p n = true then 1 else 0 := by
 unfold nR
 rw [List.range_succ, List.filter_append, List.length_append]
 congr 1
 by_cases h : p n = true
 ·rw [if_pos h, List.filter_cons_of_pos h]; rfl
 ·rw [if_neg h, List.filter_cons_of_neg h]; rfl
theorem m7 {p : Nat -> Bool} {v : Nat} : ∀ {n}, v < n -> p v = false -> nR (eK p v) n = nR p n + 1
 | 0, h, _ => by omega
 | n + 1, h, hp => by
  rw [su, su]
  by_cases e : v = n
  ·subst e
   have : nR (eK p v) v = nR p v := by
    unfold nR
    congr 1
    refine List.filter_congr fun u hu => ?_
    have := List.mem_range.1 hu
    simp only [eK]; rw [decide_eq_false (by omega)]; rfl
   rw [this, hp]
   simp [eK]
  ·rw [m7 (n := n) (by omega) hp]
   have : eK p v n = p n := by simp only [eK]; rw [decide_eq_false (by omega)]; rfl
   rw [this]; omega
theorem HV (n : Nat) (h : 1 <= n) : nR rk0.pl n = 1 := by
 have e : rk0.pl = eK (fun _ => false) 0 := by funext u; simp [rk0, eK]
 rw [e, m7 (by omega) rfl]
 unfold nR
 rw [List.filter_eq_nil_iff.2 (by simp)]; rfl

theorem jm {g : GR} {s : RK} {k : Nat} (h : nxK g s = some k) : ∃ hk : k < g.links.length, g.links.getD k lkZ = g.links[k] /\ hfB s.pl g.links[k] = true /\ ∀ j (hj : j < k), hfB s.pl (g.links[j]'(by omega)) = false := by
 unfold nxK at h
 obtain ⟨hk, h1, h2⟩ := List.findIdx?_eq_some_iff_getElem.1 h
 refine ⟨hk, by rw [List.getD_eq_getElem?_getD, List.getElem?_eq_getElem hk]; rfl, h1, fun j hj => ?_⟩
 simpa using h2 j hj
theorem Bn {g : GR} {s : RK} : nxK g s = none ↔ ∀ l ∈ g.links, hfB s.pl l = false := by
 unfold nxK
 rw [List.findIdx?_eq_none_iff]
theorem jl {g : GR} {s : RK} {k : Nat} (h : nxK g s = some k) (hk : k < g.links.length) : rkN g s = rkS g g.links[k] s := by
 unfold rkN
 rw [h]
 show rkS g (g.links.getD k lkZ) s = _
 rw [List.getD_eq_getElem?_getD, List.getElem?_eq_getElem hk]; rfl
theorem ko {g : GR} {s : RK} (h : nxK g s = none) : rkN g s = s := by unfold rkN; rw [h]
theorem sZ {g : GR} {k : Nat} (h : nxK g (rk g k) = none) : ∀ m, rk g (k + m) = rk g k
 | 0 => rfl
 | m + 1 => by
  show rkN g (rk g (k + m)) = _
  rw [sZ h m, ko h]
section
variable {g : GR} (gv : GV g)
include gv
theorem FK {k : Nat} : (∀ j, j < k -> nxK g (rk g j) ≠ none) -> nR (rk g k).pl g.nodes.length = k + 1 := by
 induction k with
 | zero => intro _; exact HV _ gv.n1
 | succ k ih =>
  intro h
  have ih := ih fun j hj => h j (by omega)
  show nR (rkN g (rk g k)).pl _ = _
  cases hn : nxK g (rk g k) with
  | none => exact absurd hn (h k (by omega))
  | some i =>
   obtain ⟨hi, _, hb, _⟩ := jm hn
   rw [jl hn hi]
   obtain ⟨l1, l2⟩ := kt gv _ (List.getElem_mem hi)
   unfold hfB at hb
   unfold rkS
   by_cases hp : (rk g k).pl g.links[i].f.toNat = true
   ·rw [if_pos hp];rw [hp] at hb;rw [m7 l2 (by simpa using hb), ih]
   ·rw [if_neg hp];rw [m7 l1 (by simpa using hp), ih]
theorem EZ {k : Nat} (h : ∀ j, j < k -> nxK g (rk g j) ≠ none) : k + 1 <= g.nodes.length := by
 have := FK gv h
 have := Es (rk g k).pl g.nodes.length
 omega
theorem FJ : nxK g (rk g (g.nodes.length - 1)) = none := by
 cases hn : nxK g (rk g (g.nodes.length - 1)) with
 | none => rfl
 | some i =>
  have all : ∀ j, j < g.nodes.length - 1 + 1 -> nxK g (rk g j) ≠ none := fun j hj e => by
   obtain ⟨m, hm⟩ : ∃ m, g.nodes.length - 1 = j + m := ⟨g.nodes.length - 1 - j, by omega⟩
   rw [hm, sZ e m, e] at hn
   cases hn
  have := EZ gv all
  omega
theorem FI {k : Nat} (h : nxK g (rk g k) = none) (hk : k <= g.nodes.length - 1) : rk g (g.nodes.length - 1) = rk g k := by
 obtain ⟨m, hm⟩ : ∃ m, g.nodes.length - 1 = k + m := ⟨g.nodes.length - 1 - k, by omega⟩
 rw [hm, sZ h m]
end
def alP (g : GR) : Bool := (List.range g.nodes.length).all (rk g (g.nodes.length - 1)).pl
theorem pu {g : GR} : alP g = true ↔ ∀ v, v < g.nodes.length -> (rk g (g.nodes.length - 1)).pl v = true := by
 unfold alP; rw [List.all_eq_true]; simp
section
variable {g : GR} (gv : GV g)
include gv
end
def rkX (g : GR) : Nat -> Rat := (rk g (g.nodes.length - 1)).x
def rkY (g : GR) : Nat -> Rat := (rk g (g.nodes.length - 1)).y
def rkL (g : GR) : List SP := (List.range g.nodes.length).map fun v => szW (rkX g v) (rkY g v)
def AM (g : GR) : List SP × Int := if bQ g = true then (if alP g = true then (rkL g, 0) else ([], 10)) else ([], 1)
theorem lL (g : GR) : (rkL g).length = g.nodes.length := by simp [rkL]
theorem AB {g : GR} {v : Nat} (h : v < g.nodes.length) : (rkL g).getD v sp0 = szW (rkX g v) (rkY g v) := by
 unfold rkL; rw [List.getD_eq_getElem?_getD, List.getElem?_map, List.getElem?_range h]; rfl
structure RKI (g : GR) (s : RK) : Prop where
 z : s.pl 0 = true /\ s.x 0 = 0 /\ s.y 0 = 0
 l : ∀ v, s.pl v = true -> v ≠ 0 -> ∃ k, ∃ hk : k < g.links.length, (g.links[k].f.toNat = v \/ g.links[k].t.toNat = v) /\ s.pl g.links[k].f.toNat = true /\ s.pl g.links[k].t.toNat = true /\
  s.x g.links[k].t.toNat - s.x g.links[k].f.toNat = dX g g.links[k] /\ s.y g.links[k].t.toNat - s.y g.links[k].f.toNat = dY g g.links[k]
theorem Ay {g : GR} {s : RK} (h : RKI g s) : RKI g (rkN g s) := by
 cases hn : nxK g s with
 | none => rw [ko hn]; exact h
 | some k =>
  obtain ⟨hk, _, hb, _⟩ := jm hn
  rw [jl hn hk]
  have key : ∀ (v : Nat) (x y : Rat), s.pl v = false -> (∀ u, s.pl u = true -> (eK s.pl v) u = true /\ bZ s.x v x u = s.x u /\ bZ s.y v y u = s.y u) := fun v x y hv u hu => by
   have : u ≠ v := fun e => by rw [e, hv] at hu; cases hu
   refine ⟨by simp [eK, hu], if_neg this, if_neg this⟩
  unfold hfB at hb
  unfold rkS
  by_cases hp : s.pl g.links[k].f.toNat = true
  ·rw [if_pos hp];rw [hp] at hb
   have ht : s.pl g.links[k].t.toNat = false := by simpa using hb
   have K := key _ (s.x g.links[k].f.toNat + dX g g.links[k]) (s.y g.links[k].f.toNat + dY g g.links[k]) ht
   obtain ⟨z1, z2, z3⟩ := K 0 h.z.1
   refine ⟨⟨z1, z2.trans h.z.2.1, z3.trans h.z.2.2⟩, fun v hv h0 => ?_⟩
   by_cases e : v = g.links[k].t.toNat
   ·obtain ⟨f1, f2, f3⟩ := K _ hp
    refine ⟨k, hk, Or.inr e.symm, f1, by simp [eK], ?_, ?_⟩
    ·show bZ _ _ _ _ - bZ _ _ _ _ = _
     rw [f2]; simp only [bZ, if_true]; grind
    ·show bZ _ _ _ _ - bZ _ _ _ _ = _
     rw [f3]; simp only [bZ, if_true]; grind
   ·have hv' : s.pl v = true := by simpa [eK, e] using hv
    obtain ⟨j, hj, a1, a2, a3, a4, a5⟩ := h.l v hv' h0
    obtain ⟨f1, f2, f3⟩ := K _ a2
    obtain ⟨t1, t2, t3⟩ := K _ a3
    exact ⟨j, hj, a1, f1, t1, by rw [<- a4]; show bZ _ _ _ _ - bZ _ _ _ _ = _; rw [f2, t2], by rw [<- a5]; show bZ _ _ _ _ - bZ _ _ _ _ = _; rw [f3, t3]⟩
  ·rw [if_neg hp]
   have hp : s.pl g.links[k].f.toNat = false := by simpa using hp
   rw [hp] at hb
   have ht : s.pl g.links[k].t.toNat = true := by simpa using hb
   have K := key _ (s.x g.links[k].t.toNat - dX g g.links[k]) (s.y g.links[k].t.toNat - dY g g.links[k]) hp
   obtain ⟨z1, z2, z3⟩ := K 0 h.z.1
   refine ⟨⟨z1, z2.trans h.z.2.1, z3.trans h.z.2.2⟩, fun v hv h0 => ?_⟩
   by_cases e : v = g.links[k].f.toNat
   ·obtain ⟨f1, f2, f3⟩ := K _ ht
    refine ⟨k, hk, Or.inl e.symm, by simp [eK], f1, ?_, ?_⟩
    ·show bZ _ _ _ _ - bZ _ _ _ _ = _
     rw [f2]; simp only [bZ, if_true]; grind
    ·show bZ _ _ _ _ - bZ _ _ _ _ = _
     rw [f3]; simp only [bZ, if_true]; grind
   ·have hv' : s.pl v = true := by simpa [eK, e] using hv
    obtain ⟨j, hj, a1, a2, a3, a4, a5⟩ := h.l v hv' h0
    obtain ⟨f1, f2, f3⟩ := K _ a2
    obtain ⟨t1, t2, t3⟩ := K _ a3
    exact ⟨j, hj, a1, f1, t1, by rw [<- a4]; show bZ _ _ _ _ - bZ _ _ _ _ = _; rw [f2, t2], by rw [<- a5]; show bZ _ _ _ _ - bZ _ _ _ _ = _; rw [f3, t3]⟩
theorem rki (g : GR) : ∀ k, RKI g (rk g k)
 | 0 => ⟨⟨rfl, rfl, rfl⟩, fun v hv h0 => by simp [rk, rk0] at hv; exact absurd hv h0⟩
 | k + 1 => Ay (rki g k)
theorem uD {g : GR} {P Q : Nat -> Rat} (h : ∀ l ∈ g.links, P l.t.toNat - P l.f.toNat = dX g l /\ Q l.t.toNat - Q l.f.toNat = dY g l) : ∀ k v, (rk g k).pl v = true -> (rk g k).x v = P v - P 0 /\ (rk g k).y v = Q v - Q 0
 | 0, v, hv => by
  simp [rk, rk0] at hv; subst hv
  exact ⟨by show (0 : Rat) = _; grind, by show (0 : Rat) = _; grind⟩
 | k + 1, v, hv => by
  have ih := uD h k
  revert hv
  show (rkN g (rk g k)).pl v = true -> (rkN g (rk g k)).x v = _ /\ (rkN g (rk g k)).y v = _
  cases hn : nxK g (rk g k) with
  | none => rw [ko hn]; exact ih v
  | some i =>
   obtain ⟨hi, _, hb, _⟩ := jm hn
   obtain ⟨q1, q2⟩ := h _ (List.getElem_mem hi)
   rw [jl hn hi]
   unfold hfB at hb
   unfold rkS
   intro hv
   by_cases hp : (rk g k).pl g.links[i].f.toNat = true
   ·rw [if_pos hp] at hv ⊢
    by_cases e : v = g.links[i].t.toNat
    ·obtain ⟨a1, a2⟩ := ih _ hp
     subst e
     simp only [bZ, if_true];exact ⟨by grind, by grind⟩
    ·have hv' : (rk g k).pl v = true := by simpa [eK, e] using hv
     simp only [bZ, if_neg e];exact ih v hv'
   ·rw [if_neg hp] at hv ⊢
    have hp : (rk g k).pl g.links[i].f.toNat = false := by simpa using hp
    rw [hp] at hb
    have ht : (rk g k).pl g.links[i].t.toNat = true := by simpa using hb
    by_cases e : v = g.links[i].f.toNat
    ·obtain ⟨a1, a2⟩ := ih _ ht
     subst e
     simp only [bZ, if_true];exact ⟨by grind, by grind⟩
    ·have hv' : (rk g k).pl v = true := by simpa [eK, e] using hv
     simp only [bZ, if_neg e];exact ih v hv'
theorem Az {g : GR} {C : Nat} (gv : GV g) (h : ∀ l ∈ g.links, ql (dX g l) <= C /\ ql (dY g l) <= C) : ∀ k v, ql ((rk g k).x v) <= 1 + k * (C + 1) /\ ql ((rk g k).y v) <= 1 + k * (C + 1)
 | 0, v => ⟨Nat.le_trans gD (by omega), Nat.le_trans gD (by omega)⟩
 | k + 1, v => by
  have ih := Az gv h k
  have e : (k + 1) * (C + 1) = k * (C + 1) + (C + 1) := by rw [Nat.succ_mul]
  rw [e]
  show ql ((rkN g (rk g k)).x v) <= _ /\ ql ((rkN g (rk g k)).y v) <= _
  cases hn : nxK g (rk g k) with
  | none => rw [ko hn]; exact ⟨Nat.le_trans (ih v).1 (by omega), Nat.le_trans (ih v).2 (by omega)⟩
  | some i =>
   obtain ⟨hi, _, hb, _⟩ := jm hn
   obtain ⟨q1, q2⟩ := h _ (List.getElem_mem hi)
   rw [jl hn hi]
   unfold rkS
   split
   ·simp only [bZ]
    have a := ih g.links[i].f.toNat
    have a1 := br a.1 q1
    have a2 := br a.2 q2
    by_cases e : v = g.links[i].t.toNat
    ·rw [if_pos e, if_pos e]; exact ⟨by omega, by omega⟩
    ·rw [if_neg e, if_neg e]; exact ⟨Nat.le_trans (ih v).1 (by omega), Nat.le_trans (ih v).2 (by omega)⟩
   ·simp only [bZ]
    have a := ih g.links[i].t.toNat
    have a1 := cw a.1 q1
    have a2 := cw a.2 q2
    by_cases e : v = g.links[i].f.toNat
    ·rw [if_pos e, if_pos e]; exact ⟨by omega, by omega⟩
    ·rw [if_neg e, if_neg e]; exact ⟨Nat.le_trans (ih v).1 (by omega), Nat.le_trans (ih v).2 (by omega)⟩
theorem AA {g : GR} : ∀ k v, (rk g k).pl v = true -> Cnn (prs g.links) v 0
 | 0, v, hv => by
  simp [rk, rk0] at hv; subst hv
  exact .refl _
 | k + 1, v, hv => by
  have ih := AA (g := g) k
  revert hv
  show (rkN g (rk g k)).pl v = true -> _
  cases hn : nxK g (rk g k) with
  | none => rw [ko hn]; exact ih v
  | some i =>
   obtain ⟨hi, _, hb, _⟩ := jm hn
   have hm : (g.links[i].f.toNat, g.links[i].t.toNat) ∈ prs g.links := List.mem_map.2 ⟨_, List.getElem_mem hi, rfl⟩
   rw [jl hn hi]
   unfold hfB at hb
   unfold rkS
   intro hv
   by_cases hp : (rk g k).pl g.links[i].f.toNat = true
   ·rw [if_pos hp] at hv
    by_cases e : v = g.links[i].t.toNat
    ·rw [e]; exact Cnn.trans (.one (Or.inr hm)) (ih _ hp)
    ·exact ih v (by simpa [eK, e] using hv)
   ·rw [if_neg hp] at hv
    have hp : (rk g k).pl g.links[i].f.toNat = false := by simpa using hp
    rw [hp] at hb
    have ht : (rk g k).pl g.links[i].t.toNat = true := by simpa using hb
    by_cases e : v = g.links[i].f.toNat
    ·rw [e]; exact Cnn.trans (.one (Or.inl hm)) (ih _ ht)
    ·exact ih v (by simpa [eK, e] using hv)
theorem CN {g : GR} (gv : GV g) : alP g = cnB g := by
 have n1 := gv.n1
 rw [Bool.eq_iff_iff]
 constructor
 ·intro h
  exact decide_eq_true fun v hv => (kQ gv hv (by omega)).2 (AA _ v (pu.1 h v hv))
 ·intro h
  have hc := of_decide_eq_true h
  refine pu.2 fun v hv => Classical.byContradiction fun hne => ?_
  have c := (kQ gv (u := 0) (v := v) (by omega) hv).1 (hc v hv).symm
  obtain ⟨p, hp, h2⟩ := HF (D := fun u => (rk g (g.nodes.length - 1)).pl u = true) c (rki g _).z.1 hne
  obtain ⟨l, hl, rfl⟩ := List.mem_map.1 hp
  have := Bn.1 (FJ gv) l hl
  unfold hfB at this
  simp only at h2
  rcases h2 with ⟨a, b⟩ | ⟨a, b⟩
  ·rw [a] at this; simp at this; exact b this
  ·rw [b] at this; simp at this; exact a this
end Go.Proofs.YtnoildlijhapaaaGreatDoor

/- Offsets, near spots, the middle, the pattern, plainly. No condition. -/
namespace Go.Proofs.YtnoildlijhapaaaGreatDoor

def Bl (g : GR) (s : List SP) (l : LK) : Rat := (atS s l.t).vx - (atS s l.f).vx - dX g l
def Bk (g : GR) (s : List SP) (l : LK) : Rat := (atS s l.t).vy - (atS s l.f).vy - dY g l
def qf (g : GR) (s : List SP) (l : LK) : SP := szW (Bl g s l) (Bk g s l)
def rz (g : GR) (l : LK) : GR := ⟨g.nodes, [l]⟩
def jS (g : GR) (l : LK) : Bool := bQ (rz g l)
def oL (g : GR) (s : List SP) (l : LK) : SP × Int := if eJ g s && jS g l then (qf g s l, 0) else (sp0, 1)
theorem qE {g : GR} (gv : GV g) {l : LK} : jS g l = iD g.nodes.length l := by
 unfold jS
 rw [Bool.eq_iff_iff, ci]
 constructor
 ·intro h; exact h.lk l List.mem_cons_self
 ·intro h
  exact ⟨gv.n1, gv.n2, by show 1 <= 48; omega, fun x hx => by rw [List.mem_singleton.1 hx]; exact h⟩

def wiB (d : Rat) (n : Int) : Bool := decide (d <= (n : Rat)) && decide (((-n : Int) : Rat) <= d)
def j9 (t : Int) : Bool := decide (0 <= t /\ t <= 1048576)
def mF (a b : SP) (t : Int) : Bool := j9 t && (wiB (a.vx - b.vx) (2 * t) && wiB (a.vy - b.vy) (2 * t))
theorem sJ {d : Rat} {n : Int} : wiB d n = true ↔ d <= (n : Rat) /\ -(n : Rat) <= d := by
 unfold wiB
 rw [Bool.and_eq_true, decide_eq_true_eq, decide_eq_true_eq, Rat.intCast_neg]
theorem zb {a b : SP} {t : Int} (ht : j9 t = true) : mF a b t = true ↔ (a.vx - b.vx <= 2 * (t : Rat) /\ -(2 * (t : Rat)) <= a.vx - b.vx) /\ (a.vy - b.vy <= 2 * (t : Rat) /\ -(2 * (t : Rat)) <= a.vy - b.vy) := by
 have e : ((2 * t : Int) : Rat) = 2 * (t : Rat) := by rw [Rat.intCast_mul]; rfl
 unfold mF
 rw [ht, Bool.true_and, Bool.and_eq_true, sJ, sJ, e]
def nrP (o : List SP) (t : Int) (i j : Nat) : Bool := mF (o.getD i sp0) (o.getD j sp0) t
def eV (g : GR) (s : List SP) (ls : List LK) : List SP := ls.map (qf g s)
theorem DI {g : GR} {s : List SP} {ls : List LK} {i : Nat} (h : i < ls.length) : (eV g s ls).getD i sp0 = qf g s ls[i] := by
 unfold eV; rw [List.getD_eq_getElem?_getD, List.getElem?_map, List.getElem?_eq_getElem h]; rfl
def i6 (g : GR) (s : List SP) (ls : List LK) (t : Int) : List (Nat × Nat) × Int :=
 if j9 t = false then ([], 2) else if 16 < ls.length then ([], 6) else if eJ g s = false then ([], 1) else if ls.all (jS g) = true then (prP (nrP (eV g s ls) t) ls.length ls.length, 0) else ([], 1)
def tu (ps : List (Nat × Nat)) (a b : Nat) : Bool := decide ((a, b) ∈ ps \/ (b, a) ∈ ps)
def yN (g : GR) (s : List SP) (ls : List LK) (t : Int) : List Nat × Int :=
 if (i6 g s ls t).2 = 0 then (mxC (tu (i6 g s ls t).1) ls.length, 0) else ([], (i6 g s ls t).2)

end Go.Proofs.YtnoildlijhapaaaGreatDoor

/- Largest sets of near links, plainly. No condition. -/
namespace Go.Proofs.YtnoildlijhapaaaGreatDoor

theorem uR {q : Nat -> Nat -> Bool} {n u v : Nat} (huv : u < v) (hv : v < n) : tu (prP q n n) u v = q u v := by
 unfold tu
 rw [Bool.eq_iff_iff, decide_eq_true_eq, mG, mG]
 simp only
 constructor
 ·rintro (⟨_, _, _, h⟩ | ⟨_, h, _⟩)
  ·exact h
  ·omega
 ·intro h; exact Or.inl ⟨by omega, huv, hv, h⟩
theorem Cx {q : Nat -> Nat -> Bool} {n : Nat} {y : List Nat} (hs : y.Sublist (List.range n)) : vL (tu (prP q n n)) y ↔ y.Pairwise fun u v => q u v = true := by
 have hp : y.Pairwise (· < ·) := List.pairwise_lt_range.sublist hs
 have hn : ∀ u ∈ y, u < n := fun u hu => List.mem_range.1 (hs.subset hu)
 unfold vL
 constructor
 ·intro h
  refine (hp.and h).imp_of_mem fun {a b} _ hb hab => ?_;rw [uR hab.1 (hn b hb)] at hab;exact hab.2
 ·intro h
  refine (hp.and h).imp_of_mem fun {a b} _ hb hab => ?_;rw [uR hab.1 (hn b hb)];exact hab.2
theorem DN {A : Nat -> Nat -> Bool} {n : Nat} (h : vL A (List.range n)) : mxC A n = List.range n := by
 have h1 := (Gg (A := A) n).1
 have h2 := DM (A := A) (List.Sublist.refl (List.range n)) h
 refine h1.eq_of_length (Nat.le_antisymm h1.length_le h2)
end Go.Proofs.YtnoildlijhapaaaGreatDoor

/- Chains and closures that are measured exactly, plainly. No condition. -/
namespace Go.Proofs.YtnoildlijhapaaaGreatDoor

def ExL (P : Nat -> PT) (ts : List Nat) (n : Nat) (ls : List LK) : Prop := ∀ l ∈ ls, ∃ a b w, l = exK P ts a b w /\ a < n /\ b < n /\ a ≠ b /\ 1 <= w /\ w <= 1048576
def exG (ts : List Nat) (n : Nat) (ls : List LK) : GR := ⟨(ts.take n).map qRW, ls⟩
def BdP (P : Nat -> PT) : Prop := ∀ i, (-1000 <= (P i).x /\ (P i).x <= 1000) /\ (-1000 <= (P i).y /\ (P i).y <= 1000)
section
variable {P : Nat -> PT} {ts : List Nat} {n : Nat} {ls : List LK}
theorem mR (hn : n <= ts.length) : (exG ts n ls).nodes.length = n := by simp [exG]; omega
theorem B3 (hP : BdP P) {a b : Nat} {w : Int} (ha : a < n) (hb : b < n) (hne : a ≠ b) (h1 : 1 <= w) (h2 : w <= 1048576) : iD n (exK P ts a b w) = true := by
 have pa := hP a
 have pb := hP b
 have r := wh (B := 2000) (x := (P b).x - (P a).x) (y := (P b).y - (P a).y) (by omega) (by omega) (ts.getD a 0 % 4)
 refine cE.2 ⟨?_, ?_, ?_, ?_, ?_, ?_⟩
 ·show 0 <= (a : Int) /\ (a : Int) < n; omega
 ·show 0 <= (b : Int) /\ (b : Int) < n; omega
 ·show ¬ (a : Int) = b; omega
 ·exact ⟨Int.le_trans (by decide) r.1.1, Int.le_trans r.1.2 (by decide)⟩
 ·exact ⟨Int.le_trans (by decide) r.2.1, Int.le_trans r.2.2 (by decide)⟩
 ·show 1 <= w /\ w <= 1048576; omega
theorem B4 (h1 : 1 <= n) (h16 : n <= 16) (hn : n <= ts.length) (hl : ls.length <= 48) (hlk : ∀ l ∈ ls, iD n l = true) : GV (exG ts n ls) := by
 have e := mR (ls := ls) hn
 exact ⟨by rw [e]; omega, by rw [e]; omega, hl, fun l hm => by rw [e]; exact hlk l hm⟩
theorem yj (hP : BdP P) (h : ExL P ts n ls) : ∀ l ∈ ls, iD n l = true := fun l hm => by
 obtain ⟨a, b, w, rfl, ha, hb, hne, h1, h2⟩ := h l hm
 exact B3 hP ha hb hne h1 h2
theorem Gx (hn : n <= ts.length) {l : LK} {a : Nat} (hl : l.f = (a : Int)) (ha : a < n) : frN (exG ts n ls) l = qRW (ts.getD a 0) := by
 show ((ts.take n).map qRW).getD (l.f.toNat) _ = _
 rw [hl, Int.toNat_natCast, List.getD_eq_getElem?_getD, List.getElem?_map, List.getElem?_take_of_lt ha, List.getElem?_eq_getElem (by omega), List.getD_eq_getElem?_getD, List.getElem?_eq_getElem (by omega)]; rfl
theorem Fe (hn : n <= ts.length) {a b : Nat} {w : Int} (ha : a < n) : dX (exG ts n ls) (exK P ts a b w) = (((P b).x - (P a).x : Int) : Rat) /\ dY (exG ts n ls) (exK P ts a b w) = (((P b).y - (P a).y : Int) : Rat) := by
 unfold dX dY
 rw [Gx hn (l := exK P ts a b w) rfl ha];exact GN rfl rfl
def ch1 (P : Nat -> PT) (ts : List Nat) (k : Nat) : List LK := (List.range k).map fun j => exK P ts j (j + 1) 1
theorem m8 (P : Nat -> PT) (ts : List Nat) (k : Nat) : (ch1 P ts k).length = k := by simp [ch1]
theorem GH (h : n <= 16) : ExL P ts n (ch1 P ts (n - 1)) := fun l hl => by
 obtain ⟨j, hj, rfl⟩ := List.mem_map.1 hl
 have := List.mem_range.1 hj
 exact ⟨j, j + 1, 1, rfl, by omega, by omega, by omega, by omega, by omega⟩
theorem vO {ls : List LK} (h1 : 1 <= n) (hn : n <= ts.length) (gv : GV (exG ts n ls)) (hc : ∀ v, v + 1 < n -> ∃ l ∈ ls, l.f = (v : Int) /\ l.t = ((v + 1 : Nat) : Int)) : cnB (exG ts n ls) = true := by
 have e := mR (ls := ls) hn
 refine decide_eq_true fun v hv => ?_;rw [kQ gv hv (by omega)]
 have key : ∀ v, v < n -> Cnn (prs (exG ts n ls).links) v 0 := by
  intro v
  induction v with
  | zero => intro _; exact .refl _
  | succ v ih =>
   intro hv
   obtain ⟨l, hl, e1, e2⟩ := hc v hv
   refine Cnn.trans (.one (Or.inr ?_)) (ih (by omega));refine List.mem_map.2 ⟨l, hl, ?_⟩;rw [e1, e2, Int.toNat_natCast, Int.toNat_natCast]
 exact key v (by omega)
theorem Fd (h1 : 1 <= n) (hn : n <= ts.length) (gv : GV (exG ts n ls)) (h : ExL P ts n ls) (hc : cnB (exG ts n ls) = true) {v : Nat} (hv : v < n) :
  rkX (exG ts n ls) v = (((P v).x - (P 0).x : Int) : Rat) /\ rkY (exG ts n ls) v = (((P v).y - (P 0).y : Int) : Rat) := by
 have e := mR (ls := ls) hn
 rw [<- CN gv] at hc
 have r := uD (g := exG ts n ls) (P := fun v => (((P v).x : Int) : Rat)) (Q := fun v => (((P v).y : Int) : Rat)) (fun l hl => by
  obtain ⟨a, b, w, rfl, ha, hb, _⟩ := h l hl
  obtain ⟨d1, d2⟩ := Fe (P := P) (ls := ls) (b := b) (w := w) hn ha
  rw [d1, d2]
  show (((P ((b : Int).toNat)).x : Int) : Rat) - (((P ((a : Int).toNat)).x : Int) : Rat) = _ /\ (((P ((b : Int).toNat)).y : Int) : Rat) - (((P ((a : Int).toNat)).y : Int) : Rat) = _
  rw [Int.toNat_natCast, Int.toNat_natCast]
  push_cast
  exact ⟨rfl, rfl⟩) _ v (pu.1 hc v (by omega))
 unfold rkX rkY
 rw [r.1, r.2]
 push_cast
 exact ⟨rfl, rfl⟩
theorem Gw (hn : n <= ts.length) {s : List SP} {a b : Nat} {w : Int} (ha : a < n) : Bl (exG ts n ls) s (exK P ts a b w) = (s.getD b sp0).vx - (s.getD a sp0).vx - (((P b).x - (P a).x : Int) : Rat) /\ Bk (exG ts n ls) s (exK P ts a b w) = (s.getD b sp0).vy - (s.getD a sp0).vy - (((P b).y - (P a).y : Int) : Rat) := by
 unfold Bl Bk
 obtain ⟨d1, d2⟩ := Fe (P := P) (ls := ls) (b := b) (w := w) hn ha
 rw [d1, d2]
 have e1 : atS s (exK P ts a b w).t = s.getD b sp0 := by show s.getD ((b : Int).toNat) sp0 = _; rw [Int.toNat_natCast]
 have e2 : atS s (exK P ts a b w).f = s.getD a sp0 := by show s.getD ((a : Int).toNat) sp0 = _; rw [Int.toNat_natCast]
 rw [e1, e2];exact ⟨rfl, rfl⟩
end
end Go.Proofs.YtnoildlijhapaaaGreatDoor

/- Chains with errors, plainly. No condition. -/
namespace Go.Proofs.YtnoildlijhapaaaGreatDoor

def sE (e : Nat -> Int) : Nat -> Int
 | 0 => 0
 | i + 1 => sE e i + e i
def tE (m : Nat) : Nat -> Int
 | 0 => 0
 | i + 1 => tE m i + if i < m then 9 else 0
theorem nW (m : Nat) : ∀ i, 0 <= tE m i /\ tE m i <= 9 * (i : Int)
 | 0 => ⟨by simp [tE], by simp [tE]⟩
 | i + 1 => by
  have := nW m i
  simp only [tE]; split <;> omega
theorem xx (m : Nat) {a : Nat} : ∀ d, tE m a <= tE m (a + d)
 | 0 => Int.le_refl _
 | d + 1 => by
  have := xx m (a := a) d
  show _ <= tE m (a + d) + _
  split <;> omega
theorem EX {e : Nat -> Int} {m : Nat} (h : ∀ i, (i < m -> -9 <= e i /\ e i <= 9) /\ (m <= i -> e i = 0)) (a : Nat) : ∀ d, sE e (a + d) - sE e a <= tE m (a + d) - tE m a /\ -(tE m (a + d) - tE m a) <= sE e (a + d) - sE e a
 | 0 => by simp
 | d + 1 => by
  have ih := EX h a d
  have hi := h (a + d)
  show (sE e (a + d) + e (a + d)) - sE e a <= (tE m (a + d) + if a + d < m then 9 else 0) - tE m a /\ -((tE m (a + d) + if a + d < m then 9 else 0) - tE m a) <= (sE e (a + d) + e (a + d)) - sE e a
  by_cases hlt : a + d < m
  ·have := hi.1 hlt
   rw [if_pos hlt]; omega
  ·have := hi.2 (by omega)
   rw [if_neg hlt]; omega
theorem rN {e : Nat -> Int} {m k : Nat} (h : ∀ i, (i < m -> -9 <= e i /\ e i <= 9) /\ (m <= i -> e i = 0)) {a b : Nat} (ha : a <= k) (hb : b <= k) : sE e b - sE e a <= tE m k /\ -(tE m k) <= sE e b - sE e a := by
 have p : ∀ a b, a <= b -> b <= k -> sE e b - sE e a <= tE m k /\ -(tE m k) <= sE e b - sE e a := fun a b hab hb => by
  obtain ⟨d, rfl⟩ : ∃ d, b = a + d := ⟨b - a, by omega⟩
  obtain ⟨c, rfl⟩ : ∃ c, k = a + d + c := ⟨k - (a + d), by omega⟩
  have h1 := EX h a d
  have h2 := xx m (a := a + d) c
  have h3 := (nW m a).1
  omega
 rcases Nat.le_total a b with hab | hab
 ·exact p a b hab hb
 ·have := p b a hab ha; omega
def iG (P : Nat -> PT) (ex ey : Nat -> Int) (i : Nat) : PT := ⟨(P i).x + sE ex i, (P i).y + sE ey i⟩
section
variable {P : Nat -> PT} {ts : List Nat} {n m : Nat} {ex ey : Nat -> Int} {ls : List LK}
theorem Ec (h1 : 1 <= n) (hn : n <= ts.length) (gv : GV (exG ts n ls)) (h : ExL (iG P ex ey) ts n ls) (hc : cnB (exG ts n ls) = true) {a b : Nat} {w : Int} (ha : a < n) (hb : b < n) :
  qf (exG ts n ls) (rkL (exG ts n ls)) (exK P ts a b w) = szW (((sE ex b - sE ex a : Int)) : Rat) (((sE ey b - sE ey a : Int)) : Rat) := by
 have e := mR (ls := ls) hn
 obtain ⟨o1, o2⟩ := Gw (P := P) (ls := ls) (s := rkL (exG ts n ls)) (a := a) (b := b) (w := w) hn ha
 obtain ⟨a1, a2⟩ := Fd h1 hn gv h hc ha
 obtain ⟨b1, b2⟩ := Fd h1 hn gv h hc hb
 unfold qf
 rw [o1, o2, AB (by omega : a < _), AB (by omega : b < _), bT, bR, bT, bR, a1, a2, b1, b2];simp only [iG]
 push_cast
 congr 1 <;> grind
theorem B5 (hx : ∀ i, (i < m -> -9 <= ex i /\ ex i <= 9) /\ (m <= i -> ex i = 0)) (hy : ∀ i, (i < m -> -9 <= ey i /\ ey i <= 9) /\ (m <= i -> ey i = 0)) (hn : n <= 1000) {a b c d : Nat} (ha : a <= n) (hb : b <= n) (hc : c <= n) (hd : d <= n) :
  mF (szW (((sE ex b - sE ex a : Int)) : Rat) (((sE ey b - sE ey a : Int)) : Rat)) (szW (((sE ex d - sE ex c : Int)) : Rat) (((sE ey d - sE ey c : Int)) : Rat)) (tE m n) = true := by
 have t := nW m n
 have x1 := rN hx ha hb
 have x2 := rN hx hc hd
 have y1 := rN hy ha hb
 have y2 := rN hy hc hd
 have key : ∀ u v : Int, (u <= tE m n /\ -(tE m n) <= u) -> (v <= tE m n /\ -(tE m n) <= v) -> (u : Rat) - (v : Rat) <= 2 * ((tE m n : Int) : Rat) /\ -(2 * ((tE m n : Int) : Rat)) <= (u : Rat) - (v : Rat) := fun u v hu hv => by
  have a1 : (u : Rat) <= ((tE m n : Int) : Rat) := Rat.intCast_le_intCast.2 hu.1
  have a2 : (v : Rat) <= ((tE m n : Int) : Rat) := Rat.intCast_le_intCast.2 hv.1
  have a3 : ((-(tE m n) : Int) : Rat) <= (u : Rat) := Rat.intCast_le_intCast.2 hu.2
  have a4 : ((-(tE m n) : Int) : Rat) <= (v : Rat) := Rat.intCast_le_intCast.2 hv.2
  rw [Rat.intCast_neg] at a3 a4
  constructor <;> grind
 refine (zb (decide_eq_true ⟨t.1, by omega⟩)).2 ?_;rw [bT, bT, bR, bR];exact ⟨key _ _ x1 x2, key _ _ y1 y2⟩
end
end Go.Proofs.YtnoildlijhapaaaGreatDoor

/- Dead reckoning and the minimum; one node moved. No condition. -/
namespace Go.Proofs.YtnoildlijhapaaaGreatDoor

end Go.Proofs.YtnoildlijhapaaaGreatDoor

/- Law 3: guards; fixed calls. No condition. -/
namespace Go.Proofs.YtnoildlijhapaaaGreatDoor
attribute [local irreducible] aD

end Go.Proofs.YtnoildlijhapaaaGreatDoor

/- Law 3: circle, group, rigid motions, actions. No condition. -/
namespace Go.Proofs.YtnoildlijhapaaaGreatDoor
attribute [local irreducible] aD

end Go.Proofs.YtnoildlijhapaaaGreatDoor

/- Law 3: actions, marks. No condition. -/
namespace Go.Proofs.YtnoildlijhapaaaGreatDoor
attribute [local irreducible] aD

end Go.Proofs.YtnoildlijhapaaaGreatDoor

/- Chains as products of transforms, plainly. No condition. -/
namespace Go.Proofs.YtnoildlijhapaaaGreatDoor

section
variable {f : Nat -> RW} {st : List PT}
end
end Go.Proofs.YtnoildlijhapaaaGreatDoor

/- ref02's quotient; ref27: Valid, Order, none, Identity. No condition. -/
namespace Go.Proofs.YtnoildlijhapaaaGreatDoor
attribute [local irreducible] aD

/-! ### Orders -/
def Hr (n : Nat) (l : List Int) : Prop := l.length = n /\ ∀ i (h : i < l.length), 0 <= l[i] /\ l[i] < n /\ l[i] ∉ l.take i
instance (n : Nat) (l : List Int) : Decidable (Hr n l) := by unfold Hr; infer_instance
section
variable {T : Tab} {t e : TypeId} {ti ei : TI}
end

end Go.Proofs.YtnoildlijhapaaaGreatDoor

/- Sets of 32 bits: their operations, how many bits, their lists. No condition. -/
namespace Go.Proofs.YtnoildlijhapaaaGreatDoor
attribute [local irreducible] aD
open Go.RowKit

section
variable {T : Tab} {t : TypeId} {a b : Int} {c : Bool}
theorem oD (h : decide (a < b) = c) : aK T .lss t (dI a) (dI b) = .set (dB c) := by subst h; rfl
theorem j7 (h : decide (a > b) = c) : aK T .gtr t (dI a) (dI b) = .set (dB c) := by subst h; rfl
theorem oH (h : decide (a >= b) = c) : aK T .geq t (dI a) (dI b) = .set (dB c) := by subst h; rfl
theorem oE (h : decide (a <= b) = c) : aK T .leq t (dI a) (dI b) = .set (dB c) := by subst h; rfl
theorem Ch (h : (a == b) = c) : aK T .eql t (dI a) (dI b) = .set (dB c) := by subst h; rfl
theorem yn (h : (a != b) = c) : aK T .neq t (dI a) (dI b) = .set (dB c) := by subst h; rfl
end
section
variable {T : Tab} {t : TypeId} {x y : Nat}
theorem L3b {x : Nat} (h : x < 4294967296) : (BitVec.ofInt 32 (x : Int)).toNat = x := by rw [ph, BitVec.toNat_ofNat]; exact Nat.mod_eq_of_lt h
theorem GC (hx : x < 4294967296) : aK T .and t (dU x) (dU y) = .set (dU (x &&& y % 4294967296)) := by
 have hb : d5 .and (.int .u32 (x : Int)) (.int .u32 (y : Int)) = some (.int .u32 ((x &&& y % 4294967296 : Nat) : Int)) := by
  show some (Value.int .u32 (IntKind.u32.wrap ((BitVec.ofInt 32 (x : Int) &&& BitVec.ofInt 32 (y : Int)).toNat))) = _
  rw [BitVec.toNat_and, L3b hx, ph y, BitVec.toNat_ofNat, IntKind.wrap_u32]
  have := pq (n := 32) (y := y % 4294967296) hx
  congr 2
  show (((x &&& y % 2 ^ 32 : Nat) : Int)) % 4294967296 = ((x &&& y % 4294967296 : Nat) : Int)
  rw [show (2 : Nat) ^ 32 = 4294967296 from rfl]; omega
 simp only [aK, cv, hb]; rfl
theorem Cj (hx : x < 4294967296) (hy : y < 4294967296) : aK T .and t (dU x) (dU y) = .set (dU (x &&& y)) := by
 rw [GC hx, Nat.mod_eq_of_lt hy]
theorem wZ (hx : x < 4294967296) : aK T .and t (dU x) (dU 255) = .set (dU (x % 256)) := by
 rw [Cj hx (by omega), show (255 : Nat) = 2 ^ 8 - 1 from rfl, Nat.and_two_pow_sub_one_eq_mod]
theorem Cc (hx : x < 4294967296) (hy : y < 4294967296) : aK T .or t (dU x) (dU y) = .set (dU (x ||| y)) := by
 have hb : d5 .or (.int .u32 (x : Int)) (.int .u32 (y : Int)) = some (.int .u32 ((x ||| y : Nat) : Int)) := by
  show some (Value.int .u32 (IntKind.u32.wrap ((BitVec.ofInt 32 (x : Int) ||| BitVec.ofInt 32 (y : Int)).toNat))) = _
  rw [BitVec.toNat_or, L3b hx, L3b hy, IntKind.wrap_u32]
  have := xe (n := 32) hx hy
  congr 2
  omega
 simp only [aK, cv, hb]; rfl
theorem GB (hx : x < 4294967296) (hy : y < 4294967296) : aK T .andNot t (dU x) (dU y) = .set (dU (bdif x y)) := by
 have hb : d5 .andNot (.int .u32 (x : Int)) (.int .u32 (y : Int)) = some (.int .u32 ((bdif x y : Nat) : Int)) := by
  show some (Value.int .u32 (IntKind.u32.wrap ((BitVec.ofInt 32 (x : Int) &&& ~~~ BitVec.ofInt 32 (y : Int)).toNat))) = _
  have : (BitVec.ofInt 32 (x : Int) &&& ~~~ BitVec.ofInt 32 (y : Int)).toNat = bdif x y := by
   apply Nat.eq_of_testBit_eq
   intro k
   rw [ug, BitVec.testBit_toNat, BitVec.getLsbD_and, BitVec.getLsbD_not, <- BitVec.testBit_toNat, <- BitVec.testBit_toNat, L3b hx, L3b hy]
   by_cases hk : k < 32
   ·rw [decide_eq_true hk, Bool.true_and]
   ·rw [jj (n := 32) hx (by omega)]; rfl
  rw [this, IntKind.wrap_u32]
  have := Ez (n := 32) (y := y) hx
  congr 2
  omega
 simp only [aK, cv, hb]; rfl
theorem qU {s : Nat} (hs : s < 32) : aK T .shl t (dU 1) (dI s) = .set (dU (2 ^ s)) := by
 refine wW (by omega) ?_;rw [Nat.one_mul];exact Nat.mod_eq_of_lt (pp (n := 32) hs)
theorem B9 (h : 1 <= x) (hx : x < 4294967296) : aK T .sub t (dU x) (dU 1) = .set (dU (x - 1)) := by
 have h1 := wU (T := T) (t := t) (BitVec.ofNat 32 x) (BitVec.ofNat 32 1)
 rw [BitVec.toNat_ofNat, BitVec.toNat_ofNat, BitVec.toNat_sub, BitVec.toNat_ofNat, BitVec.toNat_ofNat, Nat.mod_eq_of_lt (show x < 2 ^ 32 from hx), show 1 % 2 ^ 32 = 1 from rfl] at h1;rw [h1]
 congr 3
 have : (2 ^ 32 - 1 + x) % 2 ^ 32 = x - 1 := by
  have e : (2 : Nat) ^ 32 = 4294967296 := rfl
  rw [e]; omega
 rw [this]
theorem tY {c : Bool} (h : decide (x ≠ 0) = c) : aK T .neq t (dU x) (dU 0) = .set (dB c) := by
 subst h
 have : (!decide ((x : Int) = 0)) = decide (x ≠ 0) := by
  by_cases e : x = 0
  ·simp [e]
  ·simp [e]
 show Eff.set (dB (!decide ((x : Int) = 0))) = _
 rw [this]
theorem w4 (h : x + y < 256) : aK T .add t (V1 (.lit (.int .u8 (x : Int)))) (V1 (.lit (.int .u8 (y : Int)))) = .set (V1 (.lit (.int .u8 ((x + y : Nat) : Int)))) := by
 show bh (.int .u8 (IntKind.u8.wrap ((x : Int) + (y : Int)))) = _
 rw [IntKind.wrap_u8, show ((x : Int) + (y : Int)) % 256 = ((x + y : Nat) : Int) by omega]; rfl
end
theorem FZ {s : Nat} (hs : s < 32) : 2 ^ s < 4294967296 := pp (n := 32) hs
def Hq (s : ByteArray) : Bool := (List.range 256).all fun b => match s[b]? with
 | some u => u.toNat == (bK 8 b).length
 | none => false
theorem xp {T : Tab} {t : TypeId} {ti : TI} {s : ByteArray} {b : Nat} (h1 : T t = some ti) (h2 : ti.und = .string) (hs : Hq s = true) (hb : b < 256) :
  eh T t (V1 (.lit (.string s))) (dU b) = .set (V1 (.lit (.int .u8 ((bK 8 b).length : Int)))) := by
 have := List.all_eq_true.1 hs b (List.mem_range.2 hb)
 simp only [eh, h1, cv, cr, h2];rw [if_pos (Int.natCast_nonneg _)];simp only [Int.toNat_natCast]
 cases hg : s[b]? with
 | none => rw [hg] at this; cases this
 | some u => rw [hg] at this; simp only [beq_iff_eq] at this; simp only [this, bh]

set_option maxRecDepth 20000 in
theorem Ge (x : Nat) (hx : x < 4294967296) : Con Tryz.prog 178 [dU x] { v := dI (pcnt x) } := by
 have e4 := yZ x
 have m1 := jp 8 (x / 16777216)
 have m2 := jp 8 (x / 65536 % 256)
 have m3 := jp 8 (x / 256 % 256)
 have m4 := jp 8 (x % 256)
 rw [Nat.mod_eq_of_lt (show x / 16777216 < 256 by omega)] at e4
 have d1 : x / 2 ^ 24 = x / 16777216 := rfl
 refine Z2 Tryz.func178 ?_
 intro w0 X
 rw [ak _ _ [(0, dU x)] rfl rfl];refine gQ fun _ Z9=>?_;refine Z7 ?_;refine eQ Z9 ?_;clear Z9;refine aG tok mixed (A := [[], [], [0], [], [], [3], [3, 4], [0, 1, 3, 4, 5], [], [], [8], [8, 9], [0, 1, 2, 3, 4, 5, 6, 8, 9, 10], [], [], [13], [0, 1, 2, 3, 4, 5, 6, 7, 8, 9, 10, 11, 13, 14], [0, 1, 2, 3, 4, 5, 6, 7, 8, 9, 10, 11, 12, 13, 14, 15], []]) (an := [{}, {}, {}, {}, {}, {}, {}, {}, {}, {}, {}, {}, {}, {}, {}, {}, {}, {}, {}]) rfl (by kernel_rfl) rfl fun _ Z9=>?_;refine Z8 ?_;refine aj rfl (ky (s := 24) (by omega) rfl) rfl ?_;refine mp rfl (xp rfl rfl (by kernel_rfl) (b := x / 16777216) (by omega)) rfl ?_;refine Z8 ?_;refine aj rfl (ky (s := 16) (by omega) rfl) rfl ?_;refine aj rfl (wZ (by omega)) rfl ?_;refine mp rfl (xp rfl rfl (by kernel_rfl) (b := x / 65536 % 256) (by omega)) rfl ?_;refine aj rfl (w4 (by omega)) rfl ?_;refine Z8 ?_;refine aj rfl (ky (s := 8) (by omega) rfl) rfl ?_;refine aj rfl (wZ (by omega)) rfl ?_;refine mp rfl (xp rfl rfl (by kernel_rfl) (b := x / 256 % 256) (by omega)) rfl ?_;refine aj rfl (w4 (by omega)) rfl ?_;refine Z8 ?_;refine aj rfl (wZ hx) rfl ?_;refine mp rfl (xp rfl rfl (by kernel_rfl) (b := x % 256) (by omega)) rfl ?_;refine aj rfl (w4 (by omega)) rfl ?_;refine aR rfl (aS (m := ((pcnt x : Nat) : Int)) rfl rfl rfl (by rw [e4]; exact IntWalk.i64_in _ (by omega))) rfl ?_;refine Z7 ?_;refine eQ Z9 ?_;clear Z9;exact ag aM
theorem sU (x : Nat) (hx : x < 4294967296) : Con Tryz.prog 153 [dU x] { v := dI (pcnt x) } := by
 refine Z2 Tryz.func153 ?_
 intro w0 X
 rw [ak _ _ [(0, dU x)] rfl rfl];refine gQ fun _ Z9=>?_;refine Z7 ?_;refine eQ Z9 ?_;clear Z9;refine gQ fun _ Z9=>?_;refine Z8 ?_;refine ab rfl rfl (Ge x hx) rfl rfl rfl rfl ?_;refine Z7 ?_;refine eQ Z9 ?_;clear Z9;exact ag aM
theorem zV (x : Nat) (hx : x < 4294967296) : Con Tryz.prog 154 [dU x] { v := dI (Go.Lib.ctz 32 x) } := by
 refine ⟨⟨_, Tryz.func154, rfl, rfl⟩, fun w X μ vs hL hX hl hr => ?_⟩
 obtain ⟨v, h1, h2⟩ := hr 0 _ rfl
 have e1 : vs = [v] := by
  match vs, hl, h1 with
  | [u], _, h1 => cases h1; rfl
 have h2 : RdC w X v (.lit (.int .u32 (x : Nat))) := h2
 have e2 : v = .int .u32 (x : Nat) := by cases h2; rfl
 rw [e1, e2];refine (Any7.bits_TrailingZeros32 sh_tzB x hx w (fun _ => Ha hL (by first | exact .head _ | exact .tail _ (.head _)))).mono ?_
 rintro e w' ⟨he, hw⟩
 subst hw
 exact ⟨_, he, Below.refl _ _, 0, (fun sz es h => by cases h), RdC.lit rfl⟩

set_option maxHeartbeats 1000000 in
theorem Gk (x : Nat) (hx : x < 4294967296) : Con Tryz.prog 112 [dU x] { v := V1 (dNs (bK 32 x)) } := by
 refine Z2 Tryz.func112 ?_
 intro w0 X
 rw [ak _ _ [(0, dU x)] rfl rfl];refine gQ fun _ Z9=>?_;refine Z7 ?_;refine eQ Z9 ?_;clear Z9;refine gQ fun _ Z9=>?_;refine Z7 ?_;refine eQ Z9 ?_;clear Z9;refine ac ?_;refine ai (aN (α := Nat × List Nat) (fun p => mk 16 [(0, dU p.1), (3, b6 200 1 p.2.length)] [(200, bW 1 (p.2.map cN) p.2.length)] []) (fun p => p.1 < 4294967296 /\ p.2 ++ bK 32 p.1 = bK 32 x) (fun p => p.1) (x, []) ?_ ⟨hx, rfl⟩ ?_)
 ·exact Wk.mk' ⟨rfl, rfl, trivial⟩ ⟨rfl, trivial⟩
 rintro ⟨y, l⟩ ⟨hy, hl⟩
 simp only at hy hl ⊢
 refine ac ?_
 by_cases h0 : y = 0
 ·subst h0
  refine gQ fun _ Z9=>?_;refine Z8 ?_;refine aj rfl (tY (c := false) rfl) rfl ?_;refine eQ Z9 ?_;clear Z9;refine al rfl (fun h => by cases h) (fun _ => ?_);refine az ?_;show AWP _ _ _ _ _ _;rw [jo, List.append_nil] at hl;rw [<- hl];clear hl
  rcases l with _ | ⟨v, l⟩
  ·refine gQ fun _ Z9=>?_;refine Z8 ?_;refine Z7 ?_;refine eQ Z9 ?_;clear Z9;exact ag aM
  ·refine de [3] [200] 200 [(3, V1 (dNs (v :: l)))] [] rfl ?_ trivial ?_
   ·exact ⟨bw rfl (by simp), trivial⟩
   refine gQ fun _ Z9=>?_;refine Z8 ?_;refine Z7 ?_;refine eQ Z9 ?_;clear Z9;exact ag aM
 ·have ec := nH (n := 32) h0 hy
  have hle : l.length <= 32 := by
   have := congrArg List.length hl
   rw [List.length_append] at this
   have := jp 32 x
   omega
  rw [ec] at hl
  have hv := (kB (n := 32) h0 hy).1
  have ct := zV y hy
  have hlt := GG h0
  generalize Go.Lib.ctz 32 y = v at hl hv ct;refine gQ fun _ Z9=>?_;refine Z8 ?_;refine aj rfl (tY (c := true) (decide_eq_true h0)) rfl ?_;refine eQ Z9 ?_;clear Z9;refine al rfl (fun _ => ?_) (fun h => by cases h);refine ae ?_;show AWP _ _ _ _ _ _
  obtain ⟨L, hL⟩ : ∃ L, l.length = L := ⟨_, rfl⟩
  rw [hL];rw [hL] at hle;refine ac ?_;refine ai ?_;refine gR fun _ Z9=>?_;refine pU rfl DL rfl ?_;refine Z8 ?_;refine ab rfl rfl (ct) rfl rfl rfl rfl ?_;refine av rfl rfl (by rcases L with _|L <;> rfl) rfl ?_;refine sY rfl rfl rfl rfl rfl rfl rfl rfl rfl (by decide) (Nat.le_of_ble_eq_true rfl) rfl (by simp) (by rw [List.length_map, hL]) (by simp) (by simp <;> omega) (by rcases L with _|L <;> rfl) rfl rfl ?_;refine Z7 ?_;refine eQ Z9 ?_;clear Z9;show AWP _ _ _ _ _ _;refine gR fun _ Z9=>?_;refine Z8 ?_;refine Z8 ?_;refine aj rfl (B9 (by omega) hy) rfl ?_;refine aj rfl (Cj hy (by omega)) rfl ?_;refine Z7 ?_;refine eQ Z9 ?_;clear Z9;refine ⟨(clr y, l ++ [v]), hlt, ⟨by show clr y < _; omega, by rw [List.append_assoc]; exact hl⟩, Wk.rn [0, 3] [14] 14 200 rfl rfl rfl ⟨rfl, ?_, trivial⟩ ⟨?_, trivial⟩⟩
  ·simp only; rw [uX hL]; rfl
  ·simp only; rw [vR hL]; rfl
end Go.Proofs.YtnoildlijhapaaaGreatDoor

/- clique: build, search, Max. No condition. -/
namespace Go.Proofs.YtnoildlijhapaaaGreatDoor
attribute [local irreducible] aD
open Go.RowKit

def u3D (n : Nat) (g : Nat -> Nat) : List (List DC) := (List.range n).map fun i => [.lit (.int .u32 (g i : Nat))]
theorem nt {n : Nat} {g : Nat -> Nat} : (u3D n g).length = n := by simp [u3D]
theorem pG {n i : Nat} {g : Nat -> Nat} (h : i < n) : (u3D n g)[i]? = some [.lit (.int .u32 (g i : Nat))] := by simp [u3D, h]
theorem zU {n i x : Nat} {f g : Nat -> Nat} (hi : i < n) (h : ∀ k, k < n -> g k = if k = i then x else f k) : (u3D n f).set i [.lit (.int .u32 (x : Nat))] = u3D n g := by
 apply List.ext_getElem?
 intro k
 rw [List.getElem?_set, nt]
 rcases Nat.lt_or_ge k n with hk | hk
 ·rw [pG hk, pG hk, h k hk]
  by_cases e : i = k
  ·rw [if_pos e, if_pos (by omega), if_pos e.symm]
  ·rw [if_neg e, if_neg (Ne.symm e)]
 ·rw [if_neg (by omega), List.getElem?_eq_none (by rw [nt]; omega), List.getElem?_eq_none (by rw [nt]; omega)]
theorem EQ {n j : Nat} {g : Nat -> Nat} {el : List DC} (h : (u3D n g)[j]? = some el) : el.length = 1 := by
 simp only [u3D, List.getElem?_map] at h
 cases hr : (List.range n)[j]? with
 | none => rw [hr] at h; cases h
 | some v => rw [hr] at h; cases h; rfl
theorem C2 {n : Nat} : List.replicate n [DC.lit (.int .u32 ((0 : Nat) : Int))] = u3D n fun _ => 0 := by simp [u3D, List.map_const']
theorem yu {n : Nat} {ps : List (Nat × Nat)} (ok : OKp n ps) (h20 : n <= 20) (k w : Nat) (hk : k <= ps.length) : jx ps k w < 2 ^ 20 := by
 refine mI fun b hb => ?_
 cases ht : (jx ps k w).testBit b with
 | false => rfl
 | true =>
  exfalso
  rcases (uf ok w b k hk).1 ht with h | h
  ·have := ok.b _ (List.mem_of_mem_take h); simp only at this; omega
  ·have := ok.b _ (List.mem_of_mem_take h); simp only at this; omega

set_option maxHeartbeats 2000000 in
theorem CA (n : Nat) (ps : List (Nat × Nat)) (ok : OKp n ps) (h20 : n <= 20) (hl : ps.length <= 4096) : Con Tryz.prog 110 [dI n, V1 (.sl (ps.map prD))] { v := .tup [.one (.d (.sl (u3D n (jx ps ps.length)))), .one (.d (.lit (.bool true)))] } := by
 refine Z2 Tryz.func110 ?_
 intro w0 X
 rw [ak _ _ [(0, dI n), (1, V1 (.sl (ps.map prD)))] rfl rfl];refine gQ fun _ Z9=>?_;refine Z7 ?_;refine Z7 ?_;refine eQ Z9 ?_;clear Z9;refine ac ?_;refine gQ fun _ Z9=>?_;refine Z8 ?_;refine aj rfl (oD (c := false) (decide_eq_false (by omega))) rfl ?_;refine Z8 ?_;refine Z8 ?_;refine aj rfl (j7 (c := false) (decide_eq_false (by omega))) rfl ?_;refine Z3 ?_;refine eQ Z9 ?_;clear Z9;refine al rfl (fun h => by cases h) (fun _ => ?_);refine ae ?_;show AWP _ _ _ _ _ _;refine gQ fun _ Z9=>?_;refine Z8 ?_;refine bf (sz := _) (es := _) (f := _) (v := _) rfl (rp (l := n) rfl rfl rfl rfl rfl (Nat.le_of_ble_eq_true rfl) (by decide) rfl rfl (by omega)) rfl rfl ?_;refine Z7 ?_;refine eQ Z9 ?_;clear Z9;refine ac ?_;refine gQ fun _ Z9=>?_;refine Z8 ?_;refine aA rfl (bI prD rfl rfl) rfl ?_;refine Z8 ?_;refine eQ Z9 ?_;clear Z9;refine ai (aN (α := Nat) (fun i => mk 97 [(0, dI n), (1, V1 (.sl (ps.map prD))), (6, .val (.one (.own 16 1 0 n))), (17, V1 (.sl (ps.map prD))), (18, dI ps.length), (19, dI i)] [(16, some (.arr 1 (u3D n (jx ps i))))] []) (fun i => i <= ps.length) (fun i => ps.length - i) 0 ?_ (Nat.zero_le _) ?_)
 ·exact Wk.mk' ⟨rfl, rfl, rfl, rfl, rfl, rfl, trivial⟩ ⟨congrArg (fun x => some (OO.arr 1 x)) C2, trivial⟩
 intro i hi
 refine gQ fun _ Z9=>?_;refine Z5 ?_;refine eQ Z9 ?_;clear Z9;refine ac ?_;refine al rfl (fun hc => ?_) (fun hc => ?_)
 ·have hg : i < ps.length := by simp at hc; omega
  obtain ⟨h1, h2⟩ := ok.b _ (List.getElem_mem hg)
  have e : ps.getD i (0, 0) = ps[i] := by rw [List.getD_eq_getElem?_getD, List.getElem?_eq_getElem hg]; rfl
  have hb : ∀ w, jx ps i w < 4294967296 := fun w => Nat.lt_of_lt_of_le (yu ok h20 i w hi) (by decide)
  generalize hgi : jx ps i = g at hb
  have ha : ps[i].1 < n := by omega
  have pa := FZ (s := ps[i].1) (by omega)
  have pb := FZ (s := ps[i].2) (by omega)
  obtain ⟨g1, hg1⟩ : ∃ g1 : Nat -> Nat, g1 = fun w => if w = ps[i].1 then g w ||| 2 ^ ps[i].2 else g w := ⟨_, rfl⟩
  have hb1 : g1 ps[i].2 < 4294967296 := by rw [hg1]; show (if _ then _ else _) < _; rw [if_neg (by omega)]; exact hb _
  have hs1 : (u3D n g).set ps[i].1 [.lit (.int .u32 (g ps[i].1 ||| 2 ^ ps[i].2 : Nat))] = u3D n g1 := zU ha fun k _ => by
   rw [hg1]; show (if _ then _ else _) = _
   by_cases e : k = ps[i].1
   ·rw [if_pos e, if_pos e, e]
   ·rw [if_neg e, if_neg e]
  have hs2 : (u3D n g1).set ps[i].2 [.lit (.int .u32 (g1 ps[i].2 ||| 2 ^ ps[i].1 : Nat))] = u3D n (jx ps (i + 1)) := zU h2 fun k _ => by
   simp only [jx, e, hgi]; rw [hg1]
   by_cases e : k = ps[i].2
   ·rw [if_pos e, if_pos e, e]
   ·rw [if_neg e, if_neg e]
  have fin : ∀ {Q : Exit -> St -> Prop} {c : Code}, True := trivial
  refine ae ?_;show AWP _ _ _ _ _ _;refine ac ?_;refine ai ?_;refine gQ fun _ Z9=>?_;refine Z8 ?_;refine aa rfl (x_m prD rfl rfl rfl rfl hg rfl) rfl ?_;refine Z6 ?_;refine ar rfl rfl rfl rfl rfl rfl ?_;refine Z7 ?_;refine ah rfl rfl rfl rfl rfl ?_;refine eQ Z9 ?_;clear Z9;refine ac ?_;refine gQ fun _ Z9=>?_;refine Z4 ?_;refine Z6 ?_;refine aj rfl (oD (c := false) (decide_eq_false (by omega))) rfl ?_;refine Z8 ?_;refine Z4 ?_;refine Z6 ?_;refine Z4 ?_;refine Z6 ?_;refine aj rfl (oH (c := false) (decide_eq_false (by omega))) rfl ?_;refine Z3 ?_;refine Z8 ?_;refine Z4 ?_;refine Z6 ?_;refine Z8 ?_;refine aj rfl (oH (c := false) (decide_eq_false (by omega))) rfl ?_;refine Z3 ?_;refine eQ Z9 ?_;clear Z9;refine al rfl (fun h => by cases h) (fun _ => ?_);refine ae ?_;show AWP _ _ _ _ _ _;refine bb (α := Unit) (fun _ => mk 97 [(0, dI n), (1, V1 (.sl (ps.map prD))), (6, .val (.one (.own 16 1 0 n))), (8, .ptr 8 0), (17, V1 (.sl (ps.map prD))), (18, dI ps.length), (19, dI i)] [(16, some (.arr 1 (u3D n g))), (8, some (.box [.d (lI ps[i].1), .d (lI ps[i].2)]))] []) (fun _ => True) ?_ ?_
  ·rcases Nat.eq_zero_or_pos i with h0 | h0
   ·refine aG tok mixed (A := [[], [], [0], [0, 1], [0, 1], [0, 1], [0, 1, 4], [0, 1, 3, 4, 5], [0, 1, 3, 4, 5, 6], [0, 1], [0, 1], [0, 1, 3, 4, 5, 6, 7, 9], [0, 1, 3, 4, 5, 6, 7, 8, 9, 10], [0, 1, 2, 3, 4, 5, 6, 7, 8, 9, 10, 11], [0, 1, 2, 3, 4, 5, 6, 7, 8, 9, 10, 11], [0, 1, 2, 3, 4, 5, 6, 7, 8, 9, 10, 11], [0, 1, 2, 3, 4, 5, 6, 7, 8, 9, 10, 11, 14], [0, 1, 2, 3, 4, 5, 6, 7, 8, 9, 10, 11, 13, 14, 15], [0, 1, 2, 3, 4, 5, 6, 7, 8, 9, 10, 11, 13, 14, 15, 16], [0, 1, 2, 3, 4, 5, 6, 7, 8, 9, 10, 11], [0, 1, 2, 3, 4, 5, 6, 7, 8, 9, 10, 11], [0, 1, 2, 3, 4, 5, 6, 7, 8, 9, 10, 11, 13, 14, 15, 16, 17, 19], [0, 1, 2, 3, 4, 5, 6, 7, 8, 9, 10, 11, 13, 14, 15, 16, 17, 18, 19, 20], [0, 1, 2, 3, 4, 5, 6, 7, 8, 9, 10, 11, 12, 13, 14, 15, 16, 17, 18, 19, 20, 21], [0, 1, 2, 3, 4, 5, 6, 7, 8, 9, 10, 11, 12, 13, 14, 15, 16, 17, 18, 19, 20, 21], [0, 1, 2, 3, 4, 5, 6, 7, 8, 9, 10, 11, 12, 13, 14, 15, 16, 17, 18, 19, 20, 21], [0, 1, 2, 3, 4, 5, 6, 7, 8, 9, 10, 11, 12, 13, 14, 15, 16, 17, 18, 19, 20, 21, 24], [0, 1, 2, 3, 4, 5, 6, 7, 8, 9, 10, 11, 12, 13, 14, 15, 16, 17, 18, 19, 20, 21, 23, 24, 25], [0, 1, 2, 3, 4, 5, 6, 7, 8, 9, 10, 11, 12, 13, 14, 15, 16, 17, 18, 19, 20, 21, 23, 24, 25, 26], [0, 1, 2, 3, 4, 5, 6, 7, 8, 9, 10, 11, 12, 13, 14, 15, 16, 17, 18, 19, 20, 21], [0, 1, 2, 3, 4, 5, 6, 7, 8, 9, 10, 11, 12, 13, 14, 15, 16, 17, 18, 19, 20, 21], [0, 1, 2, 3, 4, 5, 6, 7, 8, 9, 10, 11, 12, 13, 14, 15, 16, 17, 18, 19, 20, 21, 23, 24, 25, 26, 27, 29], [0, 1, 2, 3, 4, 5, 6, 7, 8, 9, 10, 11, 13, 14, 15, 16, 17, 18, 19, 20, 21, 23, 24, 25, 26, 27, 28, 29, 30], [0, 1, 3, 4, 5, 6, 7, 8, 9, 10, 11, 13, 14, 15, 16, 17, 18, 19, 20, 21, 22, 23, 24, 25, 26, 27, 28, 29, 30, 31], [0, 1, 3, 4, 5, 6, 7, 8, 9, 10, 11, 12, 13, 14, 15, 16, 17, 18, 19, 20, 21, 22, 23, 24, 25, 26, 27, 28, 29, 30, 31, 32]]) (an := [{}, {}, {}, {}, {}, {}, {}, {}, {}, {}, {}, {}, {}, {}, {}, {}, {}, {}, {}, {}, {}, {}, {}, {}, {}, {}, {}, {}, {}, {}, {}, {}, {}, {}, {}]) rfl (by kernel_rfl) rfl fun _ Z9=>?_;refine Z8 ?_;refine aj rfl (j7 (c := false) (decide_eq_false (by omega))) rfl ?_;refine Z8 ?_;refine au rfl ?_;refine au rfl ?_;refine au rfl ?_;refine au rfl ?_;refine au rfl ?_;refine au rfl ?_;refine au rfl ?_;refine au rfl ?_;refine au rfl ?_;refine au rfl ?_;refine au rfl ?_;refine au rfl ?_;refine au rfl ?_;refine au rfl ?_;refine au rfl ?_;refine au rfl ?_;refine au rfl ?_;refine au rfl ?_;refine au rfl ?_;refine au rfl ?_;refine au rfl ?_;refine au rfl ?_;refine au rfl ?_;refine au rfl ?_;refine au rfl ?_;refine au rfl ?_;refine au rfl ?_;refine au rfl ?_;refine au rfl ?_;refine au rfl ?_;refine au rfl ?_;refine Z3 ?_;refine eQ Z9 ?_;clear Z9;refine al rfl (fun h => by cases h) (fun _ => ?_);refine ae ?_;exact ⟨(), trivial, Wk.mk' ⟨rfl, rfl, rfl, rfl, rfl, rfl, rfl, trivial⟩ ⟨rfl, rfl, trivial⟩⟩
   obtain ⟨j, hj⟩ : ∃ j, i = j + 1 := ⟨i - 1, by omega⟩
   have hgj : j < ps.length := by omega
   have ej : ((i : Nat) : Int) - 1 = ((j : Nat) : Int) := by omega
   have hup : ps[j].1 < ps[i].1 \/ ps[j].1 = ps[i].1 /\ ps[j].2 < ps[i].2 := by
    have := ok.up j (by omega)
    have ee : ps[j + 1]'(by omega) = ps[i] := by congr 1; omega
    rw [ee] at this; exact this
   rcases hup with hu | ⟨hu, hv⟩
   ·refine aG tok mixed (A := [[], [], [0], [0, 1], [0, 1], [0, 1], [0, 1, 4], [0, 1, 3, 4, 5], [0, 1, 3, 4, 5, 6], [0, 1], [0, 1], [0, 1, 3, 4, 5, 6, 7, 9], [0, 1, 3, 4, 5, 6, 7, 8, 9, 10], [0, 1, 2, 3, 4, 5, 6, 7, 8, 9, 10, 11], [0, 1, 2, 3, 4, 5, 6, 7, 8, 9, 10, 11], [0, 1, 2, 3, 4, 5, 6, 7, 8, 9, 10, 11], [0, 1, 2, 3, 4, 5, 6, 7, 8, 9, 10, 11, 14], [0, 1, 2, 3, 4, 5, 6, 7, 8, 9, 10, 11, 13, 14, 15], [0, 1, 2, 3, 4, 5, 6, 7, 8, 9, 10, 11, 13, 14, 15, 16], [0, 1, 2, 3, 4, 5, 6, 7, 8, 9, 10, 11], [0, 1, 2, 3, 4, 5, 6, 7, 8, 9, 10, 11], [0, 1, 2, 3, 4, 5, 6, 7, 8, 9, 10, 11, 13, 14, 15, 16, 17, 19], [0, 1, 2, 3, 4, 5, 6, 7, 8, 9, 10, 11, 13, 14, 15, 16, 17, 18, 19, 20], [0, 1, 2, 3, 4, 5, 6, 7, 8, 9, 10, 11, 12, 13, 14, 15, 16, 17, 18, 19, 20, 21], [0, 1, 2, 3, 4, 5, 6, 7, 8, 9, 10, 11, 12, 13, 14, 15, 16, 17, 18, 19, 20, 21], [0, 1, 2, 3, 4, 5, 6, 7, 8, 9, 10, 11, 12, 13, 14, 15, 16, 17, 18, 19, 20, 21], [0, 1, 2, 3, 4, 5, 6, 7, 8, 9, 10, 11, 12, 13, 14, 15, 16, 17, 18, 19, 20, 21, 24], [0, 1, 2, 3, 4, 5, 6, 7, 8, 9, 10, 11, 12, 13, 14, 15, 16, 17, 18, 19, 20, 21, 23, 24, 25], [0, 1, 2, 3, 4, 5, 6, 7, 8, 9, 10, 11, 12, 13, 14, 15, 16, 17, 18, 19, 20, 21, 23, 24, 25, 26], [0, 1, 2, 3, 4, 5, 6, 7, 8, 9, 10, 11, 12, 13, 14, 15, 16, 17, 18, 19, 20, 21], [0, 1, 2, 3, 4, 5, 6, 7, 8, 9, 10, 11, 12, 13, 14, 15, 16, 17, 18, 19, 20, 21], [0, 1, 2, 3, 4, 5, 6, 7, 8, 9, 10, 11, 12, 13, 14, 15, 16, 17, 18, 19, 20, 21, 23, 24, 25, 26, 27, 29], [0, 1, 2, 3, 4, 5, 6, 7, 8, 9, 10, 11, 13, 14, 15, 16, 17, 18, 19, 20, 21, 23, 24, 25, 26, 27, 28, 29, 30], [0, 1, 3, 4, 5, 6, 7, 8, 9, 10, 11, 13, 14, 15, 16, 17, 18, 19, 20, 21, 22, 23, 24, 25, 26, 27, 28, 29, 30, 31], [0, 1, 3, 4, 5, 6, 7, 8, 9, 10, 11, 12, 13, 14, 15, 16, 17, 18, 19, 20, 21, 22, 23, 24, 25, 26, 27, 28, 29, 30, 31, 32]]) (an := [{}, {}, {}, {}, {}, {}, {}, {}, {}, {}, {}, {}, {}, {}, {}, {}, {}, {}, {}, {}, {}, {}, {}, {}, {}, {}, {}, {}, {}, {}, {}, {}, {}, {}, {}]) rfl (by kernel_rfl) rfl fun _ Z9=>?_;refine Z8 ?_;refine aj rfl (j7 (c := true) (decide_eq_true (by omega))) rfl ?_;refine Z8 ?_;refine Z8 ?_;refine Z8 ?_;refine aj rfl (bD (c := ((j : Nat) : Int)) ej (by omega)) rfl ?_;refine aa rfl (x_m prD rfl rfl rfl rfl hgj rfl) rfl ?_;refine Z4 ?_;refine Z6 ?_;refine Z4 ?_;refine Z6 ?_;refine aj rfl (j7 (c := false) (decide_eq_false (by omega))) rfl ?_;refine Z8 ?_;refine Z8 ?_;refine Z8 ?_;refine aj rfl (bD (c := ((j : Nat) : Int)) ej (by omega)) rfl ?_;refine aa rfl (x_m prD rfl rfl rfl rfl hgj rfl) rfl ?_;refine Z4 ?_;refine Z6 ?_;refine Z4 ?_;refine Z6 ?_;refine aj rfl (Ch (c := false) (by simp; omega)) rfl ?_;refine Z8 ?_;refine au rfl ?_;refine au rfl ?_;refine au rfl ?_;refine au rfl ?_;refine au rfl ?_;refine au rfl ?_;refine au rfl ?_;refine au rfl ?_;refine au rfl ?_;refine Z3 ?_;refine Z3 ?_;refine Z3 ?_;refine eQ Z9 ?_;clear Z9;refine al rfl (fun h => by cases h) (fun _ => ?_);refine ae ?_;exact ⟨(), trivial, Wk.mk' ⟨rfl, rfl, rfl, rfl, rfl, rfl, rfl, trivial⟩ ⟨rfl, rfl, trivial⟩⟩
   ·refine aG tok mixed (A := [[], [], [0], [0, 1], [0, 1], [0, 1], [0, 1, 4], [0, 1, 3, 4, 5], [0, 1, 3, 4, 5, 6], [0, 1], [0, 1], [0, 1, 3, 4, 5, 6, 7, 9], [0, 1, 3, 4, 5, 6, 7, 8, 9, 10], [0, 1, 2, 3, 4, 5, 6, 7, 8, 9, 10, 11], [0, 1, 2, 3, 4, 5, 6, 7, 8, 9, 10, 11], [0, 1, 2, 3, 4, 5, 6, 7, 8, 9, 10, 11], [0, 1, 2, 3, 4, 5, 6, 7, 8, 9, 10, 11, 14], [0, 1, 2, 3, 4, 5, 6, 7, 8, 9, 10, 11, 13, 14, 15], [0, 1, 2, 3, 4, 5, 6, 7, 8, 9, 10, 11, 13, 14, 15, 16], [0, 1, 2, 3, 4, 5, 6, 7, 8, 9, 10, 11], [0, 1, 2, 3, 4, 5, 6, 7, 8, 9, 10, 11], [0, 1, 2, 3, 4, 5, 6, 7, 8, 9, 10, 11, 13, 14, 15, 16, 17, 19], [0, 1, 2, 3, 4, 5, 6, 7, 8, 9, 10, 11, 13, 14, 15, 16, 17, 18, 19, 20], [0, 1, 2, 3, 4, 5, 6, 7, 8, 9, 10, 11, 12, 13, 14, 15, 16, 17, 18, 19, 20, 21], [0, 1, 2, 3, 4, 5, 6, 7, 8, 9, 10, 11, 12, 13, 14, 15, 16, 17, 18, 19, 20, 21], [0, 1, 2, 3, 4, 5, 6, 7, 8, 9, 10, 11, 12, 13, 14, 15, 16, 17, 18, 19, 20, 21], [0, 1, 2, 3, 4, 5, 6, 7, 8, 9, 10, 11, 12, 13, 14, 15, 16, 17, 18, 19, 20, 21, 24], [0, 1, 2, 3, 4, 5, 6, 7, 8, 9, 10, 11, 12, 13, 14, 15, 16, 17, 18, 19, 20, 21, 23, 24, 25], [0, 1, 2, 3, 4, 5, 6, 7, 8, 9, 10, 11, 12, 13, 14, 15, 16, 17, 18, 19, 20, 21, 23, 24, 25, 26], [0, 1, 2, 3, 4, 5, 6, 7, 8, 9, 10, 11, 12, 13, 14, 15, 16, 17, 18, 19, 20, 21], [0, 1, 2, 3, 4, 5, 6, 7, 8, 9, 10, 11, 12, 13, 14, 15, 16, 17, 18, 19, 20, 21], [0, 1, 2, 3, 4, 5, 6, 7, 8, 9, 10, 11, 12, 13, 14, 15, 16, 17, 18, 19, 20, 21, 23, 24, 25, 26, 27, 29], [0, 1, 2, 3, 4, 5, 6, 7, 8, 9, 10, 11, 13, 14, 15, 16, 17, 18, 19, 20, 21, 23, 24, 25, 26, 27, 28, 29, 30], [0, 1, 3, 4, 5, 6, 7, 8, 9, 10, 11, 13, 14, 15, 16, 17, 18, 19, 20, 21, 22, 23, 24, 25, 26, 27, 28, 29, 30, 31], [0, 1, 3, 4, 5, 6, 7, 8, 9, 10, 11, 12, 13, 14, 15, 16, 17, 18, 19, 20, 21, 22, 23, 24, 25, 26, 27, 28, 29, 30, 31, 32]]) (an := [{}, {}, {}, {}, {}, {}, {}, {}, {}, {}, {}, {}, {}, {}, {}, {}, {}, {}, {}, {}, {}, {}, {}, {}, {}, {}, {}, {}, {}, {}, {}, {}, {}, {}, {}]) rfl (by kernel_rfl) rfl fun _ Z9=>?_;refine Z8 ?_;refine aj rfl (j7 (c := true) (decide_eq_true (by omega))) rfl ?_;refine Z8 ?_;refine Z8 ?_;refine Z8 ?_;refine aj rfl (bD (c := ((j : Nat) : Int)) ej (by omega)) rfl ?_;refine aa rfl (x_m prD rfl rfl rfl rfl hgj rfl) rfl ?_;refine Z4 ?_;refine Z6 ?_;refine Z4 ?_;refine Z6 ?_;refine aj rfl (j7 (c := false) (decide_eq_false (by omega))) rfl ?_;refine Z8 ?_;refine Z8 ?_;refine Z8 ?_;refine aj rfl (bD (c := ((j : Nat) : Int)) ej (by omega)) rfl ?_;refine aa rfl (x_m prD rfl rfl rfl rfl hgj rfl) rfl ?_;refine Z4 ?_;refine Z6 ?_;refine Z4 ?_;refine Z6 ?_;refine aj rfl (Ch (c := true) (by simp; omega)) rfl ?_;refine Z8 ?_;refine Z8 ?_;refine Z8 ?_;refine aj rfl (bD (c := ((j : Nat) : Int)) ej (by omega)) rfl ?_;refine aa rfl (x_m prD rfl rfl rfl rfl hgj rfl) rfl ?_;refine Z4 ?_;refine Z6 ?_;refine Z4 ?_;refine Z6 ?_;refine aj rfl (oH (c := false) (decide_eq_false (by omega))) rfl ?_;refine Z3 ?_;refine Z3 ?_;refine Z3 ?_;refine eQ Z9 ?_;clear Z9;refine al rfl (fun h => by cases h) (fun _ => ?_);refine ae ?_;exact ⟨(), trivial, Wk.mk' ⟨rfl, rfl, rfl, rfl, rfl, rfl, rfl, trivial⟩ ⟨rfl, rfl, trivial⟩⟩
  intro _ _
  refine aG tok mixed (A := [[], [], [], [1], [0, 1, 2], [], [], [5], [0, 1, 2, 3, 5, 6], [], []]) (an := [{}, {}, {}, {}, {}, {}, {}, {}, {}, {}, {}]) rfl (by kernel_rfl) rfl fun _ Z9=>?_;refine Z8 ?_;refine Z4 ?_;refine Z6 ?_;refine aa rfl (x_o (i := ps[i].1) (j := ps[i].1) rfl rfl rfl rfl rfl ha (Nat.zero_add _)) rfl ?_;refine aT rfl (l_o rfl rfl (pG ha) rfl rfl) rfl ?_;refine Z4 ?_;refine Z6 ?_;refine aj rfl (qU (by omega)) rfl ?_;refine aj rfl (Cc (hb _) pb) rfl ?_;refine aa rfl (x_o (i := ps[i].1) (j := ps[i].1) rfl rfl rfl rfl rfl ha (Nat.zero_add _)) rfl ?_;refine ah rfl (pM (ds := [.lit (.int .u32 (g ps[i].1 ||| 2 ^ ps[i].2 : Nat))]) rfl rfl (by rw [nt]; exact ha) (fun _ h => EQ h) rfl rfl rfl) rfl rfl rfl ?_;refine eQ Z9 ?_;clear Z9;rw [hs1];refine bg tok mixed (A := [[], [], [], [1], [0, 1, 2], [], [], [5], [0, 1, 2, 3, 5, 6], [], []]) (an := [{}, {}, {}, {}, {}, {}, {}, {}, {}, {}, {}]) rfl (by kernel_rfl) rfl fun _ Z9=>?_;refine Z8 ?_;refine Z4 ?_;refine Z6 ?_;refine aa rfl (x_o (i := ps[i].2) (j := ps[i].2) rfl rfl rfl rfl rfl h2 (Nat.zero_add _)) rfl ?_;refine aT rfl (l_o rfl rfl (pG h2) rfl rfl) rfl ?_;refine Z4 ?_;refine Z6 ?_;refine aj rfl (qU (by omega)) rfl ?_;refine aj rfl (Cc hb1 pa) rfl ?_;refine aa rfl (x_o (i := ps[i].2) (j := ps[i].2) rfl rfl rfl rfl rfl h2 (Nat.zero_add _)) rfl ?_;refine ah rfl (pM (ds := [.lit (.int .u32 (g1 ps[i].2 ||| 2 ^ ps[i].1 : Nat))]) rfl rfl (by rw [nt]; exact h2) (fun _ h => EQ h) rfl rfl rfl) rfl rfl rfl ?_;refine eQ Z9 ?_;clear Z9;rw [hs2];show AWP _ _ _ _ _ _;refine gR fun _ Z9=>?_;refine aj rfl (aH (c := ((i + 1 : Nat) : Int)) (by omega) (by omega)) rfl ?_;refine Z8 ?_;refine eQ Z9 ?_;clear Z9;exact ⟨i + 1, by omega, hg, Wk.mk' ⟨rfl, rfl, rfl, rfl, rfl, rfl, trivial⟩ ⟨rfl, trivial⟩⟩
 have hf : i = ps.length := by simp at hc; omega
 subst hf
 refine az ?_;show AWP _ _ _ _ _ _;refine de [6] [16] 16 [(6, V1 (.sl (u3D n (jx ps ps.length))))] [] rfl ?_ trivial ?_
 ·exact ⟨bw rfl (by rw [nt]), trivial⟩
 refine gQ fun _ Z9=>?_;refine Z8 ?_;refine Z7 ?_;refine Z7 ?_;refine eQ Z9 ?_;clear Z9;exact ag aM
end Go.Proofs.YtnoildlijhapaaaGreatDoor

/- clique: search, Max. No condition. -/
namespace Go.Proofs.YtnoildlijhapaaaGreatDoor
attribute [local irreducible] aD
open Go.RowKit

theorem x_3 {T : Tab} {t e : TypeId} {ti ei : TI} {k : IntKind} {x : Int} {n i : Nat} {g : Nat -> Nat} (h1 : T t = some ti) (h2 : ti.und = .slice e) (h3 : T e = some ei) (h4 : ei.size = 1) (hx : x = (i : Int)) (hi : i < n) :
  a6 T t (V1 (.sl (u3D n g))) (V1 (.lit (.int k x))) = .set (.pd [.lit (.int .u32 (g i : Nat))]) := by
 subst hx
 simp only [a6, h1, cr, h2, h3];rw [if_pos (Int.natCast_nonneg _)];simp only [Int.toNat_natCast, pG hi, List.length_singleton, h4, if_true]
theorem Ff {T : Tab} {t : TypeId} {a b : Nat} : aK T .gtr t (dI a) (dI b) = .set (dB (decide (b < a))) := by
 refine j7 ?_;rw [Bool.eq_iff_iff, decide_eq_true_eq, decide_eq_true_eq]; omega
abbrev bx3 (b : Nat) : OO := .box [.d (.lit (.int .u32 (b : Nat)))]

set_option maxHeartbeats 4000000 in
theorem Am (n : Nat) (G : Nat -> Nat) (hn : n <= 20) (hG : ∀ w, G w < 4294967296) : ∀ (F cur free b : Nat), cur < 2 ^ n -> free < 2 ^ n -> b < 2 ^ n -> (∀ k ∈ bK 32 cur, ∀ j ∈ bK 32 free, k < j) -> (bK 32 free).length <= F ->
  GP Tryz.prog 111 [V1 (.sl (u3D n G)), dU cur, dU free, .ptr 999 0] (bx3 b) (.tup []) (bx3 (sM G F cur free (kE b cur))) := by
 intro F
 induction F using Nat.strongRecOn with
 | ind F ih =>
 intro cur free b hc hf hb hlt hF
 have p32 : 2 ^ n <= 4294967296 := Nat.pow_le_pow_right (by decide : 2 > 0) (show n <= 32 by omega)
 have cC := sU cur (by omega)
 have cB := sU b (by omega)
 refine xa (fn := Tryz.f111) tok Tryz.func111 (by kernel_rfl) rfl rfl rfl rfl rfl rfl ?_
 intro w0 X
 rw [zo _ _ _ [(0, V1 (.sl (u3D n G))), (1, dU cur), (2, dU free), (3, .ptr 999 0)] rfl rfl];refine bb (α := Unit) (fun _ => mk 52 [(0, V1 (.sl (u3D n G))), (1, dU cur), (2, dU free), (3, .ptr 999 0)] [(999, some (bx3 (kE b cur)))] []) (fun _ => True) ?_ ?_
 ·refine aG tok mixed (A := [[], [], [], [], [2], [0, 2, 3], [0, 2, 3, 4]]) (an := [{}, {}, { c := [10] }, { c := [10] }, { c := [10] }, {}, {}]) rfl (by kernel_rfl) rfl fun _ Z9=>?_;refine Z8 ?_;refine ab rfl rfl (cC) rfl rfl rfl rfl ?_;refine Z8 ?_;refine lK rfl rfl rfl ?_;refine Z6 ?_;refine ab rfl rfl (cB) rfl rfl rfl rfl ?_;refine aj rfl Ff rfl ?_;refine eQ Z9 ?_;clear Z9;refine al rfl (fun hx => ?_) (fun hx => ?_)
  ·have hx := of_decide_eq_true hx
   refine gR fun _ Z9=>?_;refine Z8 ?_;refine Z8 ?_;refine lK rfl rfl rfl ?_;refine ah rfl rfl rfl rfl rfl ?_;refine eQ Z9 ?_;clear Z9;refine ⟨(), trivial, Wk.mk' ⟨rfl, rfl, rfl, rfl, trivial⟩ ⟨?_, trivial⟩⟩
   unfold kE; rw [if_pos hx]; rfl
  ·have hx := of_decide_eq_false hx
   refine ae ?_;refine ⟨(), trivial, Wk.mk' ⟨rfl, rfl, rfl, rfl, trivial⟩ ⟨?_, trivial⟩⟩
   unfold kE; rw [if_neg hx]; rfl
 intro _ _
 have hb0 : kE b cur < 2 ^ n := ue hb hc
 clear cB
 obtain ⟨R, hR⟩ : ∃ R, R = sM G F cur free (kE b cur) := ⟨_, rfl⟩
 rw [<- hR];generalize kE b cur = b0 at hb0 hR ⊢
 refine ai (aN (α := Nat × Nat × Nat) (fun p => mk 52 [(0, V1 (.sl (u3D n G))), (1, dU cur), (2, dU p.2.1), (3, .ptr 999 0)] [(999, some (bx3 p.2.2))] [])
  (fun p => p.1 <= F /\ p.2.1 < 2 ^ n /\ p.2.2 < 2 ^ n /\ (bK 32 p.2.1).length <= p.1 /\ R = sM G p.1 cur p.2.1 p.2.2 /\ (∀ k ∈ bK 32 cur, ∀ j ∈ bK 32 p.2.1, k < j)) (fun p => p.1) (F, free, b0) ?_ ⟨Nat.le_refl _, hf, hb0, hF, hR, hlt⟩ ?_)
 ·exact Wk.mk' ⟨rfl, rfl, rfl, rfl, trivial⟩ ⟨rfl, trivial⟩
 rintro ⟨f, fr, b1⟩ ⟨hfF, hfr, hb1, hlf, hRf, hlt1⟩
 simp only at hfF hfr hb1 hlf hRf hlt1 ⊢
 clear hR hF hlt hf hb0;refine ac ?_
 by_cases h0 : fr = 0
 ·subst h0
  have eR : R = b1 := by rw [hRf]; cases f <;> rfl
  refine aG tok mixed (A := [[], [], [0], [0, 1], [0, 1], [0, 1], [0, 1, 3], [0, 1, 3, 5], [0, 1], [0, 1], [0, 1, 8], [0, 1, 3, 4, 5, 8, 9], [0, 1, 3, 4, 5, 6, 8, 9, 10], [0, 1, 3, 4, 5, 6, 7, 8, 9, 10, 11]]) (an := [{}, {}, {}, {}, {}, { c := [23] }, {}, {}, { c := [23, 25] }, { c := [23, 25] }, { c := [23, 25] }, {}, {}, {}]) rfl (by kernel_rfl) rfl fun _ Z9=>?_;refine Z8 ?_;refine aj rfl (tY (c := false) rfl) rfl ?_;refine Z8 ?_;refine au rfl ?_;refine au rfl ?_;refine au rfl ?_;refine au rfl ?_;refine au rfl ?_;refine au rfl ?_;refine au rfl ?_;refine au rfl ?_;refine au rfl ?_;refine au rfl ?_;refine Z3 ?_;refine eQ Z9 ?_;clear Z9;refine al rfl (fun h => by cases h) (fun _ => ?_);refine az ?_;refine ⟨⟨[], rfl, rfl⟩, ?_⟩;rw [eR]; rfl
 ·have hfr32 : fr < 2 ^ 32 := Nat.lt_of_lt_of_le hfr p32
  have ec := nH h0 hfr32
  obtain ⟨c1, c2, c3, c4⟩ := kB h0 hfr32
  rw [ec] at hlf hlt1;rw [List.length_cons] at hlf
  obtain ⟨f', rfl⟩ : ∃ f', f = f' + 1 := ⟨f - 1, by omega⟩
  have hlf' : (bK 32 (clr fr)).length <= f' := Nat.le_of_succ_le_succ hlf
  have hf' : f' <= F := by omega
  simp only [sM, if_neg h0] at hRf
  have cF := sU fr hfr32
  have cB := sU b1 (by omega)
  have ct := zV fr hfr32
  have vn := z8 hfr c2
  have ecl := Cv h0 hfr32
  have m1 := xO cur
  have m2 := xO fr
  have hcl : clr fr < 2 ^ n := Nat.lt_of_le_of_lt (Cu fr) hfr
  have hs := dS 32 fr
  rw [ec] at hs
  have hp := (List.pairwise_cons.1 hs).1
  generalize Go.Lib.ctz 32 fr = v at *;refine aG tok mixed (A := [[], [], [0], [0, 1], [0, 1], [0, 1], [0, 1, 3], [0, 1, 3, 5], [0, 1], [0, 1], [0, 1, 8], [0, 1, 3, 4, 5, 8, 9], [0, 1, 3, 4, 5, 6, 8, 9, 10], [0, 1, 3, 4, 5, 6, 7, 8, 9, 10, 11]]) (an := [{}, {}, {}, {}, {}, { c := [23] }, {}, {}, { c := [23, 25] }, { c := [23, 25] }, { c := [23, 25] }, {}, {}, {}]) rfl (by kernel_rfl) rfl fun _ Z9=>?_;refine Z8 ?_;refine aj rfl (tY (c := true) (decide_eq_true h0)) rfl ?_;refine Z8 ?_;refine Z8 ?_;refine ab rfl rfl (cC) rfl rfl rfl rfl ?_;refine Z8 ?_;refine ab rfl rfl (cF) rfl rfl rfl rfl ?_;refine aj rfl (aH (c := ((pcnt cur + pcnt fr : Nat) : Int)) (by omega) (by omega)) rfl ?_;refine Z8 ?_;refine lK rfl rfl rfl ?_;refine Z6 ?_;refine ab rfl rfl (cB) rfl rfl rfl rfl ?_;refine aj rfl Ff rfl ?_;refine Z3 ?_;refine eQ Z9 ?_;clear Z9;refine al rfl (fun hx => ?_) (fun hx => ?_)
  ·have hx := of_decide_eq_true hx
   rw [if_pos hx] at hRf
   have hv : ∀ k ∈ bK 32 cur, k < v := fun k hk => hlt1 k hk v List.mem_cons_self
   have e1 := x8 c1 hv
   have hc' : cur ||| 2 ^ v < 2 ^ n := xe hc (pp vn)
   have hfil : (bK 32 (clr fr &&& G v)).length <= f' := by
    rw [mJ];exact Nat.le_trans (List.length_filter_le _ _) (by omega)
   have ord : ∀ k ∈ bK 32 (cur ||| 2 ^ v), ∀ j ∈ bK 32 (clr fr &&& G v), k < j := fun k hk j hj => by
    rw [mJ] at hj
    have hj := hp j (List.mem_filter.1 hj).1
    rw [e1] at hk
    rcases List.mem_append.1 hk with h | h
    ·have := hv k h; omega
    ·rw [List.mem_singleton.1 h]; exact hj
   have cS := ih f' (by omega) (cur ||| 2 ^ v) (clr fr &&& G v) b1 hc' (pq hcl) hb1 ord hfil
   have bS : sM G f' (cur ||| 2 ^ v) (clr fr &&& G v) (kE b1 (cur ||| 2 ^ v)) < 2 ^ n := (o7 (N := n) (by omega) G f' _ _ _ hc' (pq hcl) (ue hb1 hc') ord).1
   generalize sM G f' (cur ||| 2 ^ v) (clr fr &&& G v) (kE b1 (cur ||| 2 ^ v)) = S at hRf cS bS
   have pv := FZ (s := v) (by omega)
   refine ae ?_;show AWP _ _ _ _ _ _;refine ai ?_;refine gQ fun _ Z9=>?_;refine Z8 ?_;refine ab rfl rfl (ct) rfl rfl rfl rfl ?_;refine Z7 ?_;refine eQ Z9 ?_;clear Z9;refine gQ fun _ Z9=>?_;refine Z8 ?_;refine Z8 ?_;refine aj rfl (qU (by omega)) rfl ?_;refine aj rfl (GB hfr32 pv) rfl ?_;refine Z7 ?_;refine eQ Z9 ?_;clear Z9;rw [ecl];refine EG tok mixed (m := 12) (A := [[], [], [], [], [2], [], [], [], [], [6, 7], [6, 7, 8], [], [1, 2, 3, 5, 6, 7, 8, 9]]) (an := [{}, {}, {}, {}, {}, {}, {}, {}, {}, {}, {}, {}, {}]) rfl rfl (by kernel_rfl) (by kernel_rfl) (by kernel_rfl) rfl fun _ Z9=>?_;refine Z8 ?_;refine Z8 ?_;refine Z8 ?_;refine aj rfl (qU (by omega)) rfl ?_;refine aj rfl (Cc (by omega) pv) rfl ?_;refine Z8 ?_;refine Z8 ?_;refine Z8 ?_;refine aa rfl (x_3 rfl rfl rfl rfl rfl vn) rfl ?_;refine Z6 ?_;refine aj rfl (Cj (by omega) (hG v)) rfl ?_;refine Z8 ?_;refine aq ?_;refine xt (id := 999) cS rfl rfl rfl rfl rfl rfl rfl rfl rfl ?_;refine cp rfl (Z9 _ ?_); clear Z9;exact ⟨(f', clr fr, S), by simp, ⟨hf', hcl, bS, hlf', hRf, fun k hk j hj => hlt1 k hk j (List.mem_cons_of_mem _ hj)⟩, Wk.mk' ⟨rfl, rfl, rfl, rfl, trivial⟩ ⟨rfl, trivial⟩⟩
  ·have hx := of_decide_eq_false hx
   rw [if_neg hx] at hRf;refine az ?_;refine ⟨⟨[], rfl, rfl⟩, ?_⟩;rw [hRf]; rfl

set_option maxHeartbeats 2000000 in
theorem GL (n : Nat) (ps : List (Nat × Nat)) (ok : OKp n ps) (h20 : n <= 20) (hl : ps.length <= 4096) : Con Tryz.prog 72 [dI n, V1 (.sl (ps.map prD))] { v := .tup [.one (.d (dNs (mxC (tu ps) n))), .one (.d (lI 0))] } := by
 have cB := CA n ps ok h20 hl
 have hG : ∀ w, jx ps ps.length w < 4294967296 := fun w => Nat.lt_of_lt_of_le (yu ok h20 ps.length w (Nat.le_refl _)) (by decide)
 have hp : 2 ^ n <= 2 ^ 20 := Nat.pow_le_pow_right (by decide) h20
 have h1 : 1 <= 2 ^ n := Nat.pow_pos (by decide)
 have cS := Am n (jx ps ps.length) h20 hG n 0 (2 ^ n - 1) 0 (by omega) (by omega) (by omega) (fun k hk => by rw [jo] at hk; cases hk) (by rw [rY (n := n) (m := 32) (by omega) (by omega), vf, List.length_range]; omega)
 have e0 : kE 0 0 = 0 := by unfold kE; split <;> rfl
 rw [e0] at cS
 obtain ⟨s1, s2⟩ := FF (N := n) (Nat.le_refl _) (by omega) (jx ps ps.length)
 have eA : mxC (fun v k => (jx ps ps.length v).testBit k) n = mxC (tu ps) n := ze fun u v _ _ => by
  rw [Bool.eq_iff_iff, CD ok u v]; unfold tu; rw [decide_eq_true_eq]
 rw [eA] at s2;rw [<- s2];generalize sM (jx ps ps.length) n 0 (2 ^ n - 1) 0 = S at cS s1
 have cL := Gk S (by omega)
 generalize jx ps ps.length = G at cB cS;refine Z2 Tryz.func72 ?_
 intro w0 X
 rw [ak _ _ [(0, dI n), (1, V1 (.sl (ps.map prD)))] rfl rfl];refine gQ fun _ Z9=>?_;refine Z7 ?_;refine Z7 ?_;refine eQ Z9 ?_;clear Z9;refine gQ fun _ Z9=>?_;refine Z8 ?_;refine Z8 ?_;refine ab rfl rfl (cB) rfl rfl rfl rfl ?_;refine Z8 ?_;refine am rfl rfl rfl ?_;refine am rfl rfl rfl ?_;refine Z7 ?_;refine Z7 ?_;refine eQ Z9 ?_;clear Z9;refine ac ?_;refine gQ fun _ Z9=>?_;refine Z8 ?_;refine dJ rfl rfl rfl ?_;refine eQ Z9 ?_;clear Z9;refine al rfl (fun h => by cases h) (fun _ => ?_);refine ae ?_;show AWP _ _ _ _ _ _;refine gQ fun _ Z9=>?_;refine ar rfl rfl rfl rfl rfl rfl ?_;refine eQ Z9 ?_;clear Z9;refine cu fun _ Z9=>?_;refine ap tok rfl ?_;refine Z8 ?_;refine aq ?_;refine ap tok rfl ?_;refine Z8 ?_;refine aq ?_;refine ap tok rfl ?_;refine aj rfl (qU (by omega)) rfl ?_;refine aq ?_;refine ap tok rfl ?_;refine aj rfl (B9 h1 (by omega)) rfl ?_;refine aq ?_;refine xt (id := 8) cS rfl rfl rfl rfl rfl rfl rfl rfl rfl ?_;refine cp rfl (Z9 _ ?_); clear Z9;show AWP _ _ _ _ _ _;refine gQ fun _ Z9=>?_;refine Z6 ?_;refine ab rfl rfl (cL) rfl rfl rfl rfl ?_;refine Z7 ?_;refine Z7 ?_;refine eQ Z9 ?_;clear Z9;exact ag aM
end Go.Proofs.YtnoildlijhapaaaGreatDoor

/- The reference's largest clique. No condition. -/
namespace Go.Proofs.YtnoildlijhapaaaGreatDoor
attribute [local irreducible] aD
open Go.RowKit

end Go.Proofs.YtnoildlijhapaaaGreatDoor

/- The reference's Valid and Max. No condition. -/
namespace Go.Proofs.YtnoildlijhapaaaGreatDoor
attribute [local irreducible] aD
open Go.RowKit

end Go.Proofs.YtnoildlijhapaaaGreatDoor

/- closure: Reckon. No condition. -/
namespace Go.Proofs.YtnoildlijhapaaaGreatDoor
attribute [local irreducible] aD
open Go.RowKit

def bC (b : Bool) : List DC := [.lit (.bool b)]
def plD (n : Nat) (p : Nat -> Bool) : List (List DC) := (List.range n).map fun v => bC (p v)
theorem iO {n : Nat} {p : Nat -> Bool} : (plD n p).length = n := by simp [plD]
theorem jK {n v : Nat} {p : Nat -> Bool} (h : v < n) : (plD n p)[v]? = some (bC (p v)) := by simp [plD, h]
theorem Bb {n j : Nat} {p : Nat -> Bool} {el : List DC} (h : (plD n p)[j]? = some el) : el.length = 1 := by
 simp only [plD, List.getElem?_map] at h
 cases hr : (List.range n)[j]? with
 | none => rw [hr] at h; cases h
 | some v => rw [hr] at h; cases h; rfl
theorem tB {n v : Nat} {p : Nat -> Bool} (h : v < n) : (plD n p).set v (bC true) = plD n (eK p v) := by
 apply List.ext_getElem?
 intro k
 rw [List.getElem?_set, iO]
 rcases Nat.lt_or_ge k n with hk | hk
 ·rw [jK hk, jK hk]
  by_cases e : v = k
  ·rw [if_pos e, if_pos (by omega)]; unfold eK; rw [decide_eq_true e.symm]; rfl
  ·rw [if_neg e]; unfold eK; rw [decide_eq_false (Ne.symm e)]; rfl
 ·rw [if_neg (by omega), List.getElem?_eq_none (by rw [iO]; omega), List.getElem?_eq_none (by rw [iO]; omega)]
theorem HB (a b : Bool) : aK tab .neq 4 (dB a) (dB b) = .set (dB (a != b)) := by cases a <;> cases b <;> rfl

theorem Gp (n : Nat) (l : LK) (p : Nat -> Bool) (lv : LV n l) : Con Tryz.prog 57 [AG l.cs, .pd [.sl (plD n p)]] { v := dB (hfB p l) } := by
 obtain ⟨i, j, hi, hj, e1, e2, _⟩ := lv.lt
 have ef : hfB p l = (p i != p j) := by unfold hfB; rw [e1, e2, Int.toNat_natCast, Int.toNat_natCast]
 rw [ef];refine Z2 Tryz.func57 ?_
 intro w0 X
 rw [ak _ _ [(0, AG l.cs), (1, .pd [.sl (plD n p)])] rfl rfl];refine gQ fun _ Z9=>?_;refine aJ rfl rfl rfl rfl rfl rfl ?_;refine Z7 ?_;refine eQ Z9 ?_;clear Z9;refine aG tok mixed (A := [[], [], [], [1], [0, 1, 2], [], [], [], [6], [5, 6, 7], [0, 1, 2, 3, 5, 6, 7, 8], []]) (an := [{}, {}, {}, {}, {}, {}, {}, {}, {}, {}, {}, {}]) rfl (by kernel_rfl) rfl fun _ Z9=>?_;refine Z6 ?_;refine Z4 ?_;refine Z6 ?_;refine aa rfl (x_d rfl rfl rfl e1 (jK hi) rfl) rfl ?_;refine Z6 ?_;refine Z6 ?_;refine Z4 ?_;refine Z6 ?_;refine aa rfl (x_d rfl rfl rfl e2 (jK hj) rfl) rfl ?_;refine Z6 ?_;refine aj rfl (HB _ _) rfl ?_;refine Z7 ?_;refine eQ Z9 ?_;clear Z9;exact ag aM
def fxI (o : Option Nat) : Int := match o with
 | some k => k
 | none => -1
set_option maxHeartbeats 1000000 in
theorem BJ (n : Nat) (ls : List LK) (p : Nat -> Bool) (lv : ∀ l ∈ ls, LV n l) (hl : ls.length <= 9223372036854775806) :
  Con Tryz.prog 56 [V1 (dLs ls), .fn 57 (some [.sl (plD n p)])] { v := dI (fxI (ls.findIdx? (hfB p))) } := by
 refine Z2 Tryz.func56 ?_
 intro w0 X
 rw [ak _ _ [(0, V1 (dLs ls)), (1, .fn 57 (some [.sl (plD n p)]))] rfl rfl];refine gQ fun _ Z9=>?_;refine Z7 ?_;refine eQ Z9 ?_;clear Z9;refine ac ?_;refine gQ fun _ Z9=>?_;refine Z8 ?_;refine aA rfl (bI LK.dc rfl rfl) rfl ?_;refine Z8 ?_;refine eQ Z9 ?_;clear Z9;refine ai (aN (α := Nat) (fun i => mk 19 [(0, V1 (dLs ls)), (1, .fn 57 (some [.sl (plD n p)])), (7, dI ls.length), (8, dI i)] [] []) (fun i => i <= ls.length /\ ∀ k (hk : k < ls.length), k < i -> hfB p ls[k] = false) (fun i => ls.length - i) 0 ?_ ⟨Nat.zero_le _, fun k hk h => by omega⟩ ?_)
 ·exact Wk.mk' ⟨rfl, rfl, rfl, rfl, trivial⟩ trivial
 rintro i ⟨hi, hno⟩
 refine gQ fun _ Z9=>?_;refine Z5 ?_;refine eQ Z9 ?_;clear Z9;refine ac ?_;refine al rfl (fun hg => ?_) (fun hg => ?_)
 ·have hg : i < ls.length := by simp at hg; omega
  have cH := Gp n ls[i] p (lv _ (List.getElem_mem hg))
  refine ae ?_;show AWP _ _ _ _ _ _;refine ac ?_;refine ai ?_;refine gQ fun _ Z9=>?_;refine Z8 ?_;refine Z7 ?_;refine eQ Z9 ?_;clear Z9
  cases hb : hfB p ls[i] with
  | true =>
   rw [hb] at cH;refine cu fun _ Z9=>?_;refine ap tok rfl ?_;refine Z8 ?_;refine aq ?_;refine ap tok rfl ?_;refine Z8 ?_;refine aq ?_;refine ap tok rfl ?_;refine Z8 ?_;refine aq ?_;refine ap tok rfl ?_;refine aa rfl (x_m LK.dc rfl rfl rfl rfl hg rfl) rfl ?_;refine aq ?_;refine ap tok rfl ?_;refine Z6 ?_;refine aq ?_;refine GX (c := some [.sl (plD n p)]) (args := [AG ls[i].cs]) cH rfl rfl rfl rfl rfl rfl rfl ?_;refine cp rfl (Z9 _ ?_); clear Z9;refine al rfl (fun _ => ?_) (fun h => by cases h)
   have e : ls.findIdx? (hfB p) = some i := List.findIdx?_eq_some_iff_getElem.2 ⟨hg, hb, fun j hj => by simp [hno j (by omega) hj]⟩
   rw [e];refine gQ fun _ Z9=>?_;refine Z8 ?_;refine Z7 ?_;refine eQ Z9 ?_;clear Z9;exact ag aM
  | false =>
   rw [hb] at cH;refine cu fun _ Z9=>?_;refine ap tok rfl ?_;refine Z8 ?_;refine aq ?_;refine ap tok rfl ?_;refine Z8 ?_;refine aq ?_;refine ap tok rfl ?_;refine Z8 ?_;refine aq ?_;refine ap tok rfl ?_;refine aa rfl (x_m LK.dc rfl rfl rfl rfl hg rfl) rfl ?_;refine aq ?_;refine ap tok rfl ?_;refine Z6 ?_;refine aq ?_;refine GX (c := some [.sl (plD n p)]) (args := [AG ls[i].cs]) cH rfl rfl rfl rfl rfl rfl rfl ?_;refine cp rfl (Z9 _ ?_); clear Z9;refine al rfl (fun h => by cases h) (fun _ => ?_);refine ae ?_;show AWP _ _ _ _ _ _;refine gR fun _ Z9=>?_;refine aj rfl (aH (c := ((i + 1 : Nat) : Int)) (by omega) (by omega)) rfl ?_;refine Z8 ?_;refine eQ Z9 ?_;clear Z9
   exact ⟨i + 1, by omega, ⟨hg, fun k hk h => by
    by_cases e : k = i
    ·subst e; exact hb
    ·exact hno k hk (by omega)⟩, Wk.mk' ⟨rfl, rfl, rfl, rfl, trivial⟩ trivial⟩
 have hg : i = ls.length := by simp at hg; omega
 subst hg
 have e : ls.findIdx? (hfB p) = none := by
  rw [List.findIdx?_eq_none_iff]
  intro x hx
  obtain ⟨k, hk, rfl⟩ := List.mem_iff_getElem.1 hx
  exact hno k hk hk
 rw [e];refine az ?_;show AWP _ _ _ _ _ _;refine gQ fun _ Z9=>?_;refine Z7 ?_;refine eQ Z9 ?_;clear Z9;exact ag aM
set_option maxHeartbeats 1000000 in
theorem BK (n : Nat) (p : Nat -> Bool) (hn : n <= 1048576) : Con Tryz.prog 101 [V1 (.sl (plD n p)), dB false] { v := dI (fxI ((List.range n).find? fun v => !p v)) } := by
 refine Z2 Tryz.func101 ?_
 intro w0 X
 rw [ak _ _ [(0, V1 (.sl (plD n p))), (1, dB false)] rfl rfl];refine gQ fun _ Z9=>?_;refine Z7 ?_;refine eQ Z9 ?_;clear Z9;refine ac ?_;refine gQ fun _ Z9=>?_;refine Z8 ?_;refine aA rfl (iQ rfl rfl iO) rfl ?_;refine Z8 ?_;refine eQ Z9 ?_;clear Z9;refine ai (aN (α := Nat) (fun i => mk 19 [(0, V1 (.sl (plD n p))), (1, dB false), (7, dI n), (8, dI i)] [] []) (fun i => i <= n /\ ∀ k, k < i -> p k = true) (fun i => n - i) 0 ?_ ⟨Nat.zero_le _, fun k h => by omega⟩ ?_)
 ·exact Wk.mk' ⟨rfl, rfl, rfl, rfl, trivial⟩ trivial
 rintro i ⟨hi, hno⟩
 refine gQ fun _ Z9=>?_;refine Z5 ?_;refine eQ Z9 ?_;clear Z9;refine ac ?_;refine al rfl (fun hg => ?_) (fun hg => ?_)
 ·have hg : i < n := by simp at hg; omega
  refine ae ?_;show AWP _ _ _ _ _ _;refine ac ?_;refine ai ?_;refine gQ fun _ Z9=>?_;refine Z8 ?_;refine Z7 ?_;refine eQ Z9 ?_;clear Z9
  have hgt := jK (p := p) hg
  cases hb : p i with
  | false =>
   rw [hb] at hgt;refine gQ fun _ Z9=>?_;refine Z8 ?_;refine Z8 ?_;refine Z8 ?_;refine aa rfl (x_d rfl rfl rfl rfl hgt rfl) rfl ?_;refine Z6 ?_;refine Z5 ?_;refine eQ Z9 ?_;clear Z9;refine al rfl (fun _ => ?_) (fun h => by cases h)
   have e : (List.range n).find? (fun v => !p v) = some i := by
    rw [List.find?_range_eq_some];exact ⟨by simp [hb], by simp [hg], fun j hj => by simp [hno j hj]⟩
   rw [e];refine gQ fun _ Z9=>?_;refine Z8 ?_;refine Z7 ?_;refine eQ Z9 ?_;clear Z9;exact ag aM
  | true =>
   rw [hb] at hgt;refine gQ fun _ Z9=>?_;refine Z8 ?_;refine Z8 ?_;refine Z8 ?_;refine aa rfl (x_d rfl rfl rfl rfl hgt rfl) rfl ?_;refine Z6 ?_;refine Z5 ?_;refine eQ Z9 ?_;clear Z9;refine al rfl (fun h => by cases h) (fun _ => ?_);refine ae ?_;show AWP _ _ _ _ _ _;refine gR fun _ Z9=>?_;refine aj rfl (aH (c := ((i + 1 : Nat) : Int)) (by omega) (by omega)) rfl ?_;refine Z8 ?_;refine eQ Z9 ?_;clear Z9
   exact ⟨i + 1, by omega, ⟨hg, fun k h => by
    by_cases e : k = i
    ·subst e; exact hb
    ·exact hno k (by omega)⟩, Wk.mk' ⟨rfl, rfl, rfl, rfl, trivial⟩ trivial⟩
 have hg : i = n := by simp at hg; omega
 subst hg
 have e : (List.range i).find? (fun v => !p v) = none := by
  rw [List.find?_eq_none]
  intro v hv
  simp [hno v (List.mem_range.1 hv)]
 rw [e];refine az ?_;show AWP _ _ _ _ _ _;refine gQ fun _ Z9=>?_;refine Z7 ?_;refine eQ Z9 ?_;clear Z9;exact ag aM
theorem vK (n : Nat) (p : Nat -> Bool) (hn : n <= 1048576) : Con Tryz.prog 61 [V1 (.sl (plD n p)), dB false] { v := dB (!(List.range n).all p) } := by
 have cI := BK n p hn
 have e : decide (fxI ((List.range n).find? fun v => !p v) >= 0) = !(List.range n).all p := by
  cases h : (List.range n).find? (fun v => !p v) with
  | none =>
   have : (List.range n).all p = true := by
    rw [List.all_eq_true]
    intro v hv
    simpa using List.find?_eq_none.1 h v hv
   rw [this]; rfl
  | some k =>
   have h1 := List.find?_some h
   have h2 := List.mem_of_find?_eq_some h
   have : (List.range n).all p = false := by
    rw [List.all_eq_false];exact ⟨k, h2, by simpa using h1⟩
   rw [this];exact decide_eq_true (by show (0 : Int) <= (k : Int); omega)
 refine Z2 Tryz.func61 ?_
 intro w0 X
 rw [ak _ _ [(0, V1 (.sl (plD n p))), (1, dB false)] rfl rfl];refine gQ fun _ Z9=>?_;refine Z7 ?_;refine eQ Z9 ?_;clear Z9;refine gQ fun _ Z9=>?_;refine Z8 ?_;refine Z8 ?_;refine ab rfl rfl (cI) rfl rfl rfl rfl ?_;refine aj rfl (oH e) rfl ?_;refine Z7 ?_;refine eQ Z9 ?_;clear Z9;exact ag aM
end Go.Proofs.YtnoildlijhapaaaGreatDoor

/- closure: Reckon. No condition. -/
namespace Go.Proofs.YtnoildlijhapaaaGreatDoor
attribute [local irreducible] aD
open Go.RowKit

theorem Ew (a b : SP) (x y : Rat) (ha : a.OK 16777215) (hb : b.OK 16777215) (hx : a.vx + b.vx = x) (hy : a.vy + b.vy = y) :
  Con Tryz.prog 59 [AG a.cs, AG b.cs] { v := AG (szW x y).cs } := by
 refine Z2 Tryz.func59 ?_
 intro w0 X
 rw [ak _ _ [(0, AG a.cs), (1, AG b.cs)] rfl rfl];refine gQ fun _ Z9=>?_;refine aJ rfl rfl rfl rfl rfl rfl ?_;refine aJ rfl rfl rfl rfl rfl rfl ?_;refine ar rfl rfl rfl rfl rfl rfl ?_;refine eQ Z9 ?_;clear Z9;refine aG tok mixed (A := [[], [], [], [], [0, 2], [], [], [], [], [0, 1, 2, 3, 5, 7], [0, 1, 2, 3, 5, 6, 7, 8], []]) (an := [{}, {}, {}, {}, {}, { c := [9] }, { c := [9] }, { c := [9] }, { c := [9] }, {}, {}, {}]) rfl (by kernel_rfl) rfl fun _ Z9=>?_;refine Z4 ?_;refine Z6 ?_;refine Z4 ?_;refine Z6 ?_;refine ab rfl rfl (A2 a.x b.x _ (ha.x.mono rfl) (hb.x.mono rfl) hx) rfl rfl rfl rfl ?_;refine Z4 ?_;refine Z6 ?_;refine Z4 ?_;refine Z6 ?_;refine ab rfl rfl (A2 a.y b.y _ (ha.y.mono rfl) (hb.y.mono rfl) hy) rfl rfl rfl rfl ?_;refine aI rfl rfl rfl ?_;refine ah rfl rfl rfl rfl rfl ?_;refine eQ Z9 ?_;clear Z9;exact ag aM
theorem q9 (a b : SP) (x y : Rat) (ha : a.OK 16777215) (hb : b.OK 16777215) (hx : a.vx - b.vx = x) (hy : a.vy - b.vy = y) :
  Con Tryz.prog 60 [AG a.cs, AG b.cs] { v := AG (szW x y).cs } := by
 refine Z2 Tryz.func60 ?_
 intro w0 X
 rw [ak _ _ [(0, AG a.cs), (1, AG b.cs)] rfl rfl];refine gQ fun _ Z9=>?_;refine aJ rfl rfl rfl rfl rfl rfl ?_;refine aJ rfl rfl rfl rfl rfl rfl ?_;refine ar rfl rfl rfl rfl rfl rfl ?_;refine eQ Z9 ?_;clear Z9;refine aG tok mixed (A := [[], [], [], [], [0, 2], [], [], [], [], [0, 1, 2, 3, 5, 7], [0, 1, 2, 3, 5, 6, 7, 8], []]) (an := [{}, {}, {}, {}, {}, { c := [9] }, { c := [9] }, { c := [9] }, { c := [9] }, {}, {}, {}]) rfl (by kernel_rfl) rfl fun _ Z9=>?_;refine Z4 ?_;refine Z6 ?_;refine Z4 ?_;refine Z6 ?_;refine ab rfl rfl (tj a.x b.x _ ha.x hb.x hx) rfl rfl rfl rfl ?_;refine Z4 ?_;refine Z6 ?_;refine Z4 ?_;refine Z6 ?_;refine ab rfl rfl (tj a.y b.y _ ha.y hb.y hy) rfl rfl rfl rfl ?_;refine aI rfl rfl rfl ?_;refine ah rfl rfl rfl rfl rfl ?_;refine eQ Z9 ?_;clear Z9;exact ag aM
def rkD (n : Nat) (s : RK) : List (List DC) := (List.range n).map fun v => if s.pl v = true then (szW (s.x v) (s.y v)).dc else sp0.dc
theorem mr {n : Nat} {s : RK} : (rkD n s).length = n := by simp [rkD]
theorem xC {n v : Nat} {s : RK} (h : v < n) (hp : s.pl v = true) : (rkD n s)[v]? = some (szW (s.x v) (s.y v)).dc := by simp [rkD, h, hp]
theorem AC {n : Nat} {s : RK} : ∀ el ∈ rkD n s, el.length = 8 := fun el h => by
 obtain ⟨v, _, rfl⟩ := List.mem_map.1 h
 split <;> rfl
theorem s4 {n v : Nat} {s : RK} {a b : Rat} : (rkD n s).set v (szW a b).dc = rkD n ⟨eK s.pl v, bZ s.x v a, bZ s.y v b⟩ := by
 apply List.ext_getElem?
 intro k
 rw [List.getElem?_set, mr]
 rcases Nat.lt_or_ge k n with hk | hk
 ·have e1 : ∀ s : RK, (rkD n s)[k]? = some (if s.pl k = true then (szW (s.x k) (s.y k)).dc else sp0.dc) := fun s => by simp [rkD, hk]
  rw [e1, e1]
  by_cases e : v = k
  ·subst e
   rw [if_pos rfl, if_pos hk]
   simp [eK, bZ]
  ·rw [if_neg e]
   simp [eK, bZ, Ne.symm e]
 ·rw [List.getElem?_eq_none (by rw [mr]; omega), List.getElem?_eq_none (by rw [mr]; omega)]
  split
  ·rw [if_neg (by omega)]
  ·rfl
theorem Hh {n : Nat} : List.replicate n sp0.dc = rkD n ⟨fun _ => false, fun _ => 0, fun _ => 0⟩ := by simp [rkD, List.map_const']
theorem Do {g : GR} (h : alP g = true) : rkD g.nodes.length (rk g (g.nodes.length - 1)) = (rkL g).map SP.dc := by
 unfold rkD rkL
 rw [List.map_map];refine List.map_congr_left fun v hv => ?_;rw [if_pos (pu.1 h v (List.mem_range.1 hv))]; rfl
theorem AD : rk0 = ⟨eK (fun _ => false) 0, bZ (fun _ => 0) 0 0, bZ (fun _ => 0) 0 0⟩ := by
 have e1 : (fun v : Nat => decide (v = 0)) = eK (fun _ => false) 0 := by funext v; simp [eK]
 have e2 : (fun _ : Nat => (0 : Rat)) = bZ (fun _ => 0) 0 0 := by funext v; simp [bZ]
 unfold rk0
 rw [e1]
 congr
theorem Fg {g : GR} (gv : GV g) {k : Nat} (ok : ∀ r ∈ g.nodes, r.OK k) (hk : Nat.ble 1 k = true) : ∀ l ∈ g.links, ql (dX g l) <= 4 * k + 7 /\ ql (dY g l) <= 4 * k + 7 := fun l hl => by
 have lv := gLV gv l hl
 have o := l6 (ok _ (jR lv)) hk lv.ix lv.iy (m := 4 * k + 7) (Nat.ble_eq_true_of_le (Nat.le_refl _))
 have k1 := Nat.le_of_ble_eq_true hk
 have o1 := o.qx (Nat.ble_eq_true_of_le (by omega))
 have o2 := o.qy (Nat.ble_eq_true_of_le (by omega))
 rw [alS, bT] at o1;rw [alS, bR] at o2;exact ⟨o1, o2⟩
theorem FL {g : GR} (gv : GV g) {k : Nat} (ok : ∀ r ∈ g.nodes, r.OK k) (hk : Nat.ble 1 k = true) : ∀ p ∈ rkL g, p.OK (1 + 15 * (4 * k + 8)) := fun p hp => by
 obtain ⟨v, _, rfl⟩ := List.mem_map.1 hp
 have h := Az gv (Fg gv ok hk) (g.nodes.length - 1) v
 have : (g.nodes.length - 1) * (4 * k + 7 + 1) <= 15 * (4 * k + 8) := Nat.mul_le_mul (by have := gv.n2; omega) (by omega)
 exact d6 (Nat.le_trans h.1 (by omega)) (Nat.le_trans h.2 (by omega))
section
variable {st : St} {a sz n id : Nat} {es : List (List DC)}
theorem Et (h1 : st.σ id = some (.box [.own a sz 0 n])) (h2 : st.σ a = some (.arr sz es)) (h3 : es.length = n) : m9 st id = some [.sl es] := by
 unfold m9
 rw [h1]
 have e : em st (.own a sz 0 n) = some (.sl es) := by
  simp only [em, h2];rw [if_pos ⟨trivial, by omega⟩, List.drop_zero, List.take_of_length_le (by omega)]
 simp only [b9, e]
 rfl
theorem EB {f : FuncId} {c : SC} {d : DC} {ds : List DC} (hx : em st c = some d) (hc : m9 st id = some ds) : rc st [.val (.one c), .clo f id] = some [.val (.one (.d d)), .fn f (some ds)] := by
 simp only [rc, ED, hZ, hx, hc]
end

set_option maxHeartbeats 4000000 in
theorem Ev (g : GR) (ok : ∀ r ∈ g.nodes, r.OK 4096) : Con Tryz.prog 17 [AG g.cs] { v := .tup [.one (.d (dSs (AM g).1)), .one (.d (lI (AM g).2))] } := by
 have cV := gO g
 have cz := iZ 0 ⟨by decide, by decide⟩
 refine Z2 Tryz.func17 ?_
 intro w0 X
 rw [ak _ _ [(0, AG g.cs)] rfl rfl];refine gQ fun _ Z9=>?_;refine aJ rfl rfl rfl rfl rfl rfl ?_;refine Z7 ?_;refine Z7 ?_;refine eQ Z9 ?_;clear Z9;refine ac ?_
 by_cases hv : bQ g = true
 ·have gv := ci.1 hv
  rw [hv] at cV;rw [AM, if_pos hv]
  have n1 := gv.n1
  have n16 := gv.n2
  have l48 := gv.l
  have lvs := gLV gv
  have qd := Fg gv ok rfl
  obtain ⟨n, hn⟩ : ∃ n, n = g.nodes.length := ⟨_, rfl⟩
  refine gQ fun _ Z9=>?_;refine Z6 ?_;refine ab rfl rfl (cV) rfl rfl rfl rfl ?_;refine dJ rfl rfl rfl ?_;refine eQ Z9 ?_;clear Z9;refine al rfl (fun h => by cases h) (fun _ => ?_);refine ae ?_;show AWP _ _ _ _ _ _;refine gQ fun _ Z9=>?_;refine Z4 ?_;refine Z6 ?_;refine aA rfl (bI (l := g.nodes) RW.dc rfl rfl) rfl ?_;refine bf (sz := _) (es := _) (f := _) (v := _) rfl (rp (l := n) rfl rfl rfl rfl rfl (Nat.le_of_ble_eq_true rfl) (by decide) (by rw [hn]) (by rw [hn]) (by omega)) rfl rfl ?_;refine Z7 ?_;refine eQ Z9 ?_;clear Z9;refine gQ fun _ Z9=>?_;refine Z4 ?_;refine Z6 ?_;refine aA rfl (bI (l := g.nodes) RW.dc rfl rfl) rfl ?_;refine bf (sz := _) (es := _) (f := _) (v := _) rfl (rp (l := n) rfl rfl rfl rfl rfl (Nat.le_of_ble_eq_true rfl) (by decide) (by rw [hn]) (by rw [hn]) (by omega)) rfl rfl ?_;refine ar rfl rfl rfl rfl rfl rfl ?_;refine eL rfl rfl rfl rfl rfl ?_;refine eQ Z9 ?_;clear Z9;refine aG tok mixed (A := [[], [], [], [], [], [], [], [], []]) (an := [{}, {}, {}, {}, {}, {}, { d := [5] }, {}, {}]) rfl (by kernel_rfl) rfl fun _ Z9=>?_;refine Z8 ?_;refine Z6 ?_;refine ab rfl rfl (cz) rfl rfl rfl rfl ?_;refine ab rfl rfl (cz) rfl rfl rfl rfl ?_;refine aI rfl rfl rfl ?_;refine aa rfl (x_o (i := 0) (j := 0) rfl rfl rfl rfl rfl (by omega) rfl) rfl ?_;refine ah rfl (yK (p := szW 0 0) rfl rfl rfl (by simp; omega) (fun el h => by rw [List.eq_of_mem_replicate h]; rfl)) rfl rfl rfl ?_;refine aa rfl (x_o (i := 0) (j := 0) rfl rfl rfl rfl rfl (by omega) rfl) rfl ?_;refine ah rfl (pM (ds := bC true) rfl rfl (by simp; omega) (fun _ h => by rw [List.eq_of_mem_replicate (List.mem_of_getElem? h)]; rfl) rfl rfl rfl) rfl rfl rfl ?_;refine eQ Z9 ?_;clear Z9
  have e5 : (List.replicate n sp0.dc).set 0 (szW 0 0).dc = rkD n (rk g 0) := by
   rw [Hh, s4]
   show _ = rkD n rk0
   rw [AD]
  have e6 : (List.replicate n (bC false)).set 0 (bC true) = plD n (rk g 0).pl := by
   have : List.replicate n (bC false) = plD n fun _ => false := by simp [plD, List.map_const']
   rw [this, tB (by omega)]
   show _ = plD n rk0.pl
   rw [AD]
  refine ac ?_;refine ai (aN (α := Nat) (fun k => mk 83 [(1, .ptr 1 0), (4, .val (.one (.own 16 8 0 n))), (5, .ptr 5 0)] [(1, some (.box g.cs)), (16, some (.arr 8 (rkD n (rk g k)))), (5, some (.box [.own 20 1 0 n])), (20, some (.arr 1 (plD n (rk g k).pl)))] [5]) (fun k => k + 1 <= n /\ ∀ j, j < k -> nxK g (rk g j) ≠ none) (fun k => n - k) 0 ?_ ⟨by omega, fun j hj => by omega⟩ ?_)
  ·exact Wk.mk' ⟨rfl, rfl, rfl, trivial⟩ ⟨rfl, congrArg (fun x => some (OO.arr 8 x)) e5, rfl, congrArg (fun x => some (OO.arr 1 x)) e6, trivial⟩
  rintro k ⟨hk, hj⟩
  have cI := BJ n g.links (rk g k).pl (by rw [hn]; exact lvs) (by omega)
  have hx := Az gv qd k
  have kb : k * (4 * 4096 + 7 + 1) <= 16 * 16392 := Nat.mul_le_mul (by omega) (by decide)
  refine ai ?_;refine cu fun _ Z9=>?_;refine ap tok rfl ?_;refine Z4 ?_;refine aq ?_;refine ap tok rfl ?_;refine Z6 ?_;refine aq ?_;refine ap tok rfl ?_;refine v8 rfl rfl rfl ?_;refine aq ?_;refine CW (args := [V1 (dLs g.links), .fn 57 (some [.sl (plD n (rk g k).pl)])]) cI rfl (EB rfl (Et rfl rfl iO)) ⟨rfl, fun _ _ h => by cases h⟩ rfl rfl rfl ?_;refine ap tok rfl ?_;refine Z7 ?_;refine aq ?_;refine cp rfl (Z9 _ ?_); clear Z9;refine ac ?_
  cases hx0 : nxK g (rk g k) with
  | none =>
   have ee : g.links.findIdx? (hfB (rk g k).pl) = none := hx0
   rw [ee]
   have hf := FI gv hx0 (by omega)
   refine gQ fun _ Z9=>?_;refine Z8 ?_;refine aj rfl (oD (c := true) rfl) rfl ?_;refine eQ Z9 ?_;clear Z9;refine al rfl (fun _ => ?_) (fun h => by cases h);refine az ?_;show AWP _ _ _ _ _ _
   have cC := vK n (rk g k).pl (by omega)
   have ea : alP g = (List.range n).all (rk g k).pl := by unfold alP; rw [hf, hn]
   rw [<- ea] at cC;refine ac ?_;refine de [1, 4, 5] [1, 16, 5, 20] 20 [(1, .ptr 1 0), (4, .val (.one (.own 16 8 0 n))), (5, .ptr 5 0)] [(1, some (.box g.cs)), (16, some (.arr 8 (rkD n (rk g k)))), (5, some (.box [.d (.sl (plD n (rk g k).pl))]))] rfl ⟨rfl, rfl, rfl, trivial⟩ ⟨rfl, rfl, (by show some (OO.box [iF 20 1 _ (.own 20 1 0 _)]) = _; rw [ku rfl iO.symm]), trivial⟩ ?_
   cases ha : alP g with
   | false =>
    rw [ha] at cC;refine gQ fun _ Z9=>?_;refine Z6 ?_;refine ab rfl rfl (cC) rfl rfl rfl rfl ?_;refine eQ Z9 ?_;clear Z9;refine al rfl (fun _ => ?_) (fun h => by cases h);refine gQ fun _ Z9=>?_;refine Z7 ?_;refine Z7 ?_;refine eQ Z9 ?_;clear Z9;exact ag aM
   | true =>
    rw [ha] at cC
    have er : rkD n (rk g k) = (rkL g).map SP.dc := by rw [<- hf, hn, Do ha]
    rw [er];refine gQ fun _ Z9=>?_;refine Z6 ?_;refine ab rfl rfl (cC) rfl rfl rfl rfl ?_;refine eQ Z9 ?_;clear Z9;refine al rfl (fun h => by cases h) (fun _ => ?_);refine ae ?_;show AWP _ _ _ _ _ _;refine de [4] [16] 16 [(4, V1 (dSs (rkL g)))] [] rfl ?_ trivial ?_
    ·exact ⟨bw rfl (by rw [List.length_map, lL, hn]), trivial⟩
    refine gQ fun _ Z9=>?_;refine Z8 ?_;refine Z7 ?_;refine Z7 ?_;refine eQ Z9 ?_;clear Z9;exact ag aM
  | some i =>
   obtain ⟨hi, _, hb, _⟩ := jm hx0
   have ee : g.links.findIdx? (hfB (rk g k).pl) = some i := hx0
   rw [ee]
   have hj' : ∀ j, j < k + 1 -> nxK g (rk g j) ≠ none := fun j hjk => by
    by_cases e : j = k
    ·rw [e, hx0]; simp
    ·exact hj j (by omega)
   have hk' := EZ gv hj'
   rw [<- hn] at hk'
   have es : rk g (k + 1) = rkS g g.links[i] (rk g k) := jl hx0 hi
   obtain ⟨l, hl⟩ : ∃ l, l = g.links[i] := ⟨_, rfl⟩
   have hm : l ∈ g.links := hl ▸ List.getElem_mem hi
   have lv := lvs l hm
   have cA := vw g (i : Int) (fun r hr => (ok r hr).mono rfl) (by omega)
   have eA : g9 g (i : Int) = (szW (dX g l) (dY g l), 0) := by
    unfold g9
    rw [if_pos hv, dif_pos ⟨by omega, by rw [Int.toNat_natCast]; exact hi⟩];simp only [Int.toNat_natCast, <- hl]; rfl
   rw [eA] at cA
   obtain ⟨qx, qy⟩ := qd l hm
   have od : (szW (dX g l) (dY g l)).OK 16777215 := d6 (by omega) (by omega)
   rw [<- hl] at es hb;rw [<- hn] at lv
   obtain ⟨a, b, hla, hlb, e1, e2, hne⟩ := lv.lt
   unfold hfB at hb
   unfold rkS at es
   rw [e1, e2, Int.toNat_natCast, Int.toNat_natCast] at hb es
   have hxx : ∀ v, (rk g k).pl v = (rk g k).pl v := fun _ => rfl
   have qa := hx a
   have qb := hx b
   have oa : (szW ((rk g k).x a) ((rk g k).y a)).OK 16777215 := d6 (by omega) (by omega)
   have ob : (szW ((rk g k).x b) ((rk g k).y b)).OK 16777215 := d6 (by omega) (by omega)
   generalize hdx : dX g l = dx at cA od es;generalize hdy : dY g l = dy at cA od es;generalize hs : rk g k = s at hb es oa ob;refine gQ fun _ Z9=>?_;refine Z8 ?_;refine aj rfl (oD (c := false) (decide_eq_false (by show ¬ (i : Int) < 0; omega))) rfl ?_;refine eQ Z9 ?_;clear Z9;refine al rfl (fun h => by cases h) (fun _ => ?_);refine ae ?_;show AWP _ _ _ _ _ _;refine gQ fun _ Z9=>?_;refine Z4 ?_;refine Z6 ?_;refine Z8 ?_;refine aa rfl (x_m LK.dc rfl rfl rfl rfl hi rfl) rfl ?_;refine Z6 ?_;refine ar rfl rfl rfl rfl rfl rfl ?_;refine ah rfl rfl rfl rfl rfl ?_;refine eQ Z9 ?_;clear Z9;rw [<- hl];refine gQ fun _ Z9=>?_;refine Z6 ?_;refine Z8 ?_;refine ab rfl rfl (cA) rfl rfl rfl rfl ?_;refine Z8 ?_;refine am rfl rfl rfl ?_;refine am rfl rfl rfl ?_;refine ar rfl rfl rfl rfl rfl rfl ?_;refine ah rfl rfl rfl rfl rfl ?_;refine Z7 ?_;refine eQ Z9 ?_;clear Z9
   cases hp : s.pl a with
   | true =>
    rw [if_pos hp] at es
    have ga := xC (s := s) hla hp
    have gp := jK (p := s.pl) hla
    rw [hp] at gp
    have cP := Ew (szW (s.x a) (s.y a)) (szW dx dy) (s.x a + dx) (s.y a + dy) oa od (by rw [bT, bT]) (by rw [bR, bR])
    refine gQ fun _ Z9=>?_;refine Z6 ?_;refine Z4 ?_;refine Z6 ?_;refine aa rfl (x_o (i := a) (j := a) rfl rfl rfl rfl e1 hla (Nat.zero_add _)) rfl ?_;refine aT rfl (l_o rfl rfl gp rfl rfl) rfl ?_;refine eQ Z9 ?_;clear Z9;refine al rfl (fun _ => ?_) (fun h => by cases h);refine bg tok mixed (A := [[], [], [], [], [], [], [], [], [], [7], [6, 7, 8], [], [6, 7, 8, 9], [], [], [], []]) (an := [{}, {}, {}, {}, {}, {}, {}, {}, {}, {}, {}, {}, {}, {}, { d := [5, 54] }, {}, {}]) rfl (by kernel_rfl) rfl fun _ Z9=>?_;refine Z8 ?_;refine Z4 ?_;refine Z6 ?_;refine Z6 ?_;refine Z4 ?_;refine Z6 ?_;refine Z8 ?_;refine Z4 ?_;refine Z6 ?_;refine aa rfl (x_o (i := a) (j := a) rfl rfl rfl rfl e1 hla (Nat.zero_add _)) rfl ?_;refine aT rfl (l_o rfl rfl ga rfl rfl) rfl ?_;refine Z6 ?_;refine ab rfl rfl (cP) rfl rfl rfl rfl ?_;refine aa rfl (x_o (i := b) (j := b) rfl rfl rfl rfl e2 hlb (Nat.zero_add _)) rfl ?_;refine ah rfl (yK (p := szW (s.x a + dx) (s.y a + dy)) rfl rfl rfl (by rw [mr]; exact hlb) AC) rfl rfl rfl ?_;refine aa rfl (x_o (i := b) (j := b) rfl rfl rfl rfl e2 hlb (Nat.zero_add _)) rfl ?_;refine ah rfl (pM (ds := bC true) rfl rfl (by rw [iO]; exact hlb) (fun _ h => Bb h) rfl rfl rfl) rfl rfl rfl ?_;refine eQ Z9 ?_;clear Z9;rw [s4, tB hlb];refine ⟨k + 1, by omega, ⟨hk', hj'⟩, ?_⟩;rw [es];exact Wk.mk' ⟨rfl, rfl, rfl, trivial⟩ ⟨rfl, rfl, rfl, rfl, trivial⟩
   | false =>
    rw [if_neg (by rw [hp]; decide)] at es;rw [hp] at hb
    have hpb : s.pl b = true := by simpa using hb
    have ga := xC (s := s) hlb hpb
    have gp := jK (p := s.pl) hla
    rw [hp] at gp
    have cP := q9 (szW (s.x b) (s.y b)) (szW dx dy) (s.x b - dx) (s.y b - dy) ob od (by rw [bT, bT]) (by rw [bR, bR])
    refine gQ fun _ Z9=>?_;refine Z6 ?_;refine Z4 ?_;refine Z6 ?_;refine aa rfl (x_o (i := a) (j := a) rfl rfl rfl rfl e1 hla (Nat.zero_add _)) rfl ?_;refine aT rfl (l_o rfl rfl gp rfl rfl) rfl ?_;refine eQ Z9 ?_;clear Z9;refine al rfl (fun h => by cases h) (fun _ => ?_);refine bg tok mixed (A := [[], [], [], [], [], [], [], [], [], [7], [6, 7, 8], [], [6, 7, 8, 9], [], [], [], []]) (an := [{}, {}, {}, {}, {}, {}, {}, {}, {}, {}, {}, {}, {}, {}, { d := [5, 69] }, {}, {}]) rfl (by kernel_rfl) rfl fun _ Z9=>?_;refine Z8 ?_;refine Z4 ?_;refine Z6 ?_;refine Z6 ?_;refine Z4 ?_;refine Z6 ?_;refine Z8 ?_;refine Z4 ?_;refine Z6 ?_;refine aa rfl (x_o (i := b) (j := b) rfl rfl rfl rfl e2 hlb (Nat.zero_add _)) rfl ?_;refine aT rfl (l_o rfl rfl ga rfl rfl) rfl ?_;refine Z6 ?_;refine ab rfl rfl (cP) rfl rfl rfl rfl ?_;refine aa rfl (x_o (i := a) (j := a) rfl rfl rfl rfl e1 hla (Nat.zero_add _)) rfl ?_;refine ah rfl (yK (p := szW (s.x b - dx) (s.y b - dy)) rfl rfl rfl (by rw [mr]; exact hla) AC) rfl rfl rfl ?_;refine aa rfl (x_o (i := a) (j := a) rfl rfl rfl rfl e1 hla (Nat.zero_add _)) rfl ?_;refine ah rfl (pM (ds := bC true) rfl rfl (by rw [iO]; exact hla) (fun _ h => Bb h) rfl rfl rfl) rfl rfl rfl ?_;refine eQ Z9 ?_;clear Z9;rw [s4, tB hla];refine ⟨k + 1, by omega, ⟨hk', hj'⟩, ?_⟩;rw [es];exact Wk.mk' ⟨rfl, rfl, rfl, trivial⟩ ⟨rfl, rfl, rfl, rfl, trivial⟩
 ·rw [AM, if_neg hv];rw [Bool.eq_false_iff.2 hv] at cV;refine gQ fun _ Z9=>?_;refine Z6 ?_;refine ab rfl rfl (cV) rfl rfl rfl rfl ?_;refine dJ rfl rfl rfl ?_;refine eQ Z9 ?_;clear Z9;refine al rfl (fun _ => ?_) (fun h => by cases h);refine gQ fun _ Z9=>?_;refine Z7 ?_;refine Z7 ?_;refine eQ Z9 ?_;clear Z9;exact ag aM
end Go.Proofs.YtnoildlijhapaaaGreatDoor

/- Offsets and near spots, the program's and the reference's. No condition. -/
namespace Go.Proofs.YtnoildlijhapaaaGreatDoor
attribute [local irreducible] aD
open Go.RowKit

theorem Cf {T : Tab} {t : TypeId} (a b : Nat) : aK T .eql t (dI a) (dI b) = .set (dB (decide (a = b))) := by
 refine Ch ?_;rw [Bool.eq_iff_iff]; simp only [beq_iff_eq, decide_eq_true_eq]; omega
theorem vP (g : GR) (s : List SP) : Con Tryz.prog 67 [AG g.cs, V1 (dSs s)] { v := dB (eJ g s) } := by
 have cV := gO g
 have e : eJ g s = (bQ g && decide (s.length = g.nodes.length)) := rfl
 rw [e];generalize bQ g = b at cV;refine Z2 Tryz.func67 ?_
 intro w0 X
 rw [ak _ _ [(0, AG g.cs), (1, V1 (dSs s))] rfl rfl];refine gQ fun _ Z9=>?_;refine aJ rfl rfl rfl rfl rfl rfl ?_;refine Z7 ?_;refine eQ Z9 ?_;clear Z9
 cases b with
 | true =>
  refine gQ fun _ Z9=>?_;refine Z6 ?_;refine ab rfl rfl (cV) rfl rfl rfl rfl ?_;refine Z8 ?_;refine Z8 ?_;refine aA rfl (bI SP.dc rfl rfl) rfl ?_;refine Z4 ?_;refine Z6 ?_;refine aA rfl (bI RW.dc rfl rfl) rfl ?_;refine aj rfl (Cf _ _) rfl ?_;refine Z3 ?_;refine Z7 ?_;refine eQ Z9 ?_;clear Z9;exact ag aM
 | false =>
  refine gQ fun _ Z9=>?_;refine Z6 ?_;refine ab rfl rfl (cV) rfl rfl rfl rfl ?_;refine Z8 ?_;refine au rfl ?_;refine au rfl ?_;refine au rfl ?_;refine au rfl ?_;refine au rfl ?_;refine au rfl ?_;refine Z3 ?_;refine Z7 ?_;refine eQ Z9 ?_;clear Z9;exact ag aM
theorem yw (g : GR) (l : LK) : Con Tryz.prog 68 [AG g.cs, AG l.cs] { v := AG (rz g l).cs } := by
 refine Z2 Tryz.func68 ?_
 intro w0 X
 rw [ak _ _ [(0, AG g.cs), (1, AG l.cs)] rfl rfl];refine gQ fun _ Z9=>?_;refine aJ rfl rfl rfl rfl rfl rfl ?_;refine aJ rfl rfl rfl rfl rfl rfl ?_;refine ar rfl rfl rfl rfl rfl rfl ?_;refine eQ Z9 ?_;clear Z9;refine cu fun _ Z9=>?_;refine ap tok rfl ?_;refine Z4 ?_;refine aq ?_;refine ap tok rfl ?_;refine Z6 ?_;refine aq ?_;refine ap tok rfl ?_;refine Z6 ?_;refine aq ?_;refine ap tok rfl ?_;refine av rfl rfl rfl rfl ?_;refine aq ?_;refine zQ (Wk.fzNew rfl rfl rfl) ?_;refine ap tok rfl ?_;refine aI rfl rfl rfl ?_;refine aq ?_;refine ap tok rfl ?_;refine ah rfl rfl rfl rfl rfl ?_;refine aq ?_;refine cp rfl (Z9 _ ?_); clear Z9;exact ag aM
theorem zB {g : GR} {l : LK} (h : jS g l = true) : g9 (rz g l) 0 = (szW (dX g l) (dY g l), 0) := by
 unfold g9
 rw [if_pos (show bQ (rz g l) = true from h), dif_pos ⟨Int.le_refl 0, by show 0 < 1; omega⟩]
 rfl
theorem xS {g : GR} {l : LK} {k m : Nat} (lv : LV g.nodes.length l) (ok : ∀ r ∈ g.nodes, r.OK k) (hk : Nat.ble 1 k = true) (hm : Nat.ble (4 * k + 7) m = true) : (szW (dX g l) (dY g l)).OK m := l6 (ok _ (jR lv)) hk lv.ix lv.iy hm
section
variable {g : GR} {s : List SP} {l : LK}
theorem DG (gs : GS g s) (lv : LV g.nodes.length l) {k m : Nat} (ok : ∀ r ∈ g.nodes, r.OK k) (os : ∀ p ∈ s, p.OK k) (hk : Nat.ble 1 k = true) (hm : 6 * k + 10 <= m) : (qf g s l).OK m := by
 have k1 := Nat.le_of_ble_eq_true hk
 have o := xS lv ok hk (m := 4 * k + 7) (Nat.ble_eq_true_of_le (Nat.le_refl _))
 have o1 := o.qx (Nat.ble_eq_true_of_le (by omega))
 have o2 := o.qy (Nat.ble_eq_true_of_le (by omega))
 rw [bT] at o1;rw [bR] at o2
 have ha := os _ (iT lv.f gs.hs)
 have hb := os _ (iT lv.t gs.hs)
 exact d6 (Nat.le_trans (cw (cw (hb.qx hk) (ha.qx hk)) o1) (by omega)) (Nat.le_trans (cw (cw (hb.qy hk) (ha.qy hk)) o2) (by omega))
end
set_option maxHeartbeats 2000000 in
theorem GK (g : GR) (s : List SP) (l : LK) (ok : ∀ r ∈ g.nodes, r.OK 4096) (os : ∀ p ∈ s, p.OK 4096) : Con Tryz.prog 21 [AG g.cs, V1 (dSs s), AG l.cs] { v := .tup [.agg (oL g s l).1.cs, .one (.d (lI (oL g s l).2))] } := by
 have cR := vP g s
 have cA := yw g l
 have cV := gO (rz g l)
 have cL := vw (rz g l) 0 (fun r hr => (ok r hr).mono rfl) (by show 1 <= 9223372036854775806; omega)
 refine Z2 Tryz.func21 ?_
 intro w0 X
 rw [ak _ _ [(0, AG g.cs), (1, V1 (dSs s)), (2, AG l.cs)] rfl rfl];refine gQ fun _ Z9=>?_;refine aJ rfl rfl rfl rfl rfl rfl ?_;refine aJ rfl rfl rfl rfl rfl rfl ?_;refine ar rfl rfl rfl rfl rfl rfl ?_;refine Z7 ?_;refine eQ Z9 ?_;clear Z9;refine ac ?_
 cases hc : eJ g s with
 | false =>
  have e : oL g s l = (sp0, 1) := by unfold oL; rw [hc]; rfl
  rw [e];rw [hc] at cR;refine gQ fun _ Z9=>?_;refine Z6 ?_;refine Z8 ?_;refine ab rfl rfl (cR) rfl rfl rfl rfl ?_;refine dJ rfl rfl rfl ?_;refine Z8 ?_;refine au rfl ?_;refine au rfl ?_;refine au rfl ?_;refine au rfl ?_;refine au rfl ?_;refine Z3 ?_;refine eQ Z9 ?_;clear Z9;refine al rfl (fun _ => ?_) (fun h => by cases h);refine gQ fun _ Z9=>?_;refine aI rfl rfl rfl ?_;refine ah rfl rfl rfl rfl rfl ?_;refine Z7 ?_;refine eQ Z9 ?_;clear Z9;exact ag aM
 | true =>
  have gs := im.1 hc
  rw [hc] at cR
  cases hf : jS g l with
  | false =>
   have e : oL g s l = (sp0, 1) := by unfold oL; rw [hc, hf]; rfl
   rw [e];rw [show bQ (rz g l) = false from hf] at cV;refine gQ fun _ Z9=>?_;refine Z6 ?_;refine Z8 ?_;refine ab rfl rfl (cR) rfl rfl rfl rfl ?_;refine dJ rfl rfl rfl ?_;refine Z8 ?_;refine Z6 ?_;refine Z6 ?_;refine ab rfl rfl (cA) rfl rfl rfl rfl ?_;refine ab rfl rfl (cV) rfl rfl rfl rfl ?_;refine dJ rfl rfl rfl ?_;refine Z3 ?_;refine eQ Z9 ?_;clear Z9;refine al rfl (fun _ => ?_) (fun h => by cases h);refine gQ fun _ Z9=>?_;refine aI rfl rfl rfl ?_;refine ah rfl rfl rfl rfl rfl ?_;refine Z7 ?_;refine eQ Z9 ?_;clear Z9;exact ag aM
  | true =>
   have e : oL g s l = (qf g s l, 0) := by unfold oL; rw [hc, hf]; rfl
   rw [e];rw [show bQ (rz g l) = true from hf] at cV;rw [zB hf] at cL
   have lv : LV g.nodes.length l := cE.1 ((qE gs.gv).symm.trans hf)
   have od := xS lv ok rfl (m := 16391) rfl
   have oF := os _ (iT lv.f gs.hs)
   have oT := os _ (iT lv.t gs.hs)
   obtain ⟨i, j, hi, hj, e1, e2, _⟩ := lv.lt
   have hi' : i < s.length := by have := gs.hs; omega
   have hj' : j < s.length := by have := gs.hs; omega
   have eF := pt e1 hi'
   have eT := pt e2 hj'
   have c1 := q9 (atS s l.t) (atS s l.f) _ _ (oT.mono rfl) (oF.mono rfl) rfl rfl
   have o1 : (szW ((atS s l.t).vx - (atS s l.f).vx) ((atS s l.t).vy - (atS s l.f).vy)).OK 16777215 := d6 (ba (cw (oT.qx rfl) (oF.qx rfl)) rfl) (ba (cw (oT.qy rfl) (oF.qy rfl)) rfl)
   have c2 := q9 _ (szW (dX g l) (dY g l)) (Bl g s l) (Bk g s l) o1 (od.mono rfl) (by rw [bT, bT]; rfl) (by rw [bR, bR]; rfl)
   rw [eF, eT] at c1;rw [eF, eT] at c2
   unfold qf
   generalize szW (dX g l) (dY g l) = d at cL c2;generalize szW (Bl g s l) (Bk g s l) = r at c2 ⊢;refine gQ fun _ Z9=>?_;refine Z6 ?_;refine Z8 ?_;refine ab rfl rfl (cR) rfl rfl rfl rfl ?_;refine dJ rfl rfl rfl ?_;refine Z8 ?_;refine Z6 ?_;refine Z6 ?_;refine ab rfl rfl (cA) rfl rfl rfl rfl ?_;refine ab rfl rfl (cV) rfl rfl rfl rfl ?_;refine dJ rfl rfl rfl ?_;refine Z3 ?_;refine eQ Z9 ?_;clear Z9;refine al rfl (fun h => by cases h) (fun _ => ?_);refine ae ?_;show AWP _ _ _ _ _ _;refine gQ fun _ Z9=>?_;refine Z6 ?_;refine Z6 ?_;refine ab rfl rfl (cA) rfl rfl rfl rfl ?_;refine ab rfl rfl (cL) rfl rfl rfl rfl ?_;refine Z8 ?_;refine am rfl rfl rfl ?_;refine am rfl rfl rfl ?_;refine ar rfl rfl rfl rfl rfl rfl ?_;refine ah rfl rfl rfl rfl rfl ?_;refine Z7 ?_;refine eQ Z9 ?_;clear Z9;refine aG tok mixed (A := [[], [], [], [1], [0, 1, 2], [], [], [], [6], [5, 6, 7], [0, 1, 2, 3, 5, 6, 7, 8], [], [0, 1, 2, 3, 4, 5, 6, 7, 8, 9], [], []]) (an := [{}, {}, {}, {}, {}, {}, {}, {}, {}, {}, {}, { c := [39] }, {}, {}, {}]) rfl (by kernel_rfl) rfl fun _ Z9=>?_;refine Z8 ?_;refine Z4 ?_;refine Z6 ?_;refine aa rfl (x_m SP.dc rfl rfl rfl e2 hj' rfl) rfl ?_;refine Z6 ?_;refine Z8 ?_;refine Z4 ?_;refine Z6 ?_;refine aa rfl (x_m SP.dc rfl rfl rfl e1 hi' rfl) rfl ?_;refine Z6 ?_;refine ab rfl rfl (c1) rfl rfl rfl rfl ?_;refine Z6 ?_;refine ab rfl rfl (c2) rfl rfl rfl rfl ?_;refine ah rfl rfl rfl rfl rfl ?_;refine Z7 ?_;refine eQ Z9 ?_;clear Z9;exact ag aM

/-! ### Near -/
theorem zZ (t : Int) : Con Tryz.prog 71 [dI t] { v := dB (j9 t) } := by
 refine Z2 Tryz.func71 ?_
 intro w0 X
 rw [ak _ _ [(0, dI t)] rfl rfl];refine gQ fun _ Z9=>?_;refine Z7 ?_;refine eQ Z9 ?_;clear Z9
 by_cases h : 0 <= t
 ·refine gQ fun _ Z9=>?_;refine Z8 ?_;refine aj rfl (oH (c := true) (decide_eq_true h)) rfl ?_;refine Z8 ?_;refine Z8 ?_;refine aj rfl (oE (c := j9 t) (by unfold j9; rw [Bool.eq_iff_iff, decide_eq_true_eq, decide_eq_true_eq]; omega)) rfl ?_;refine Z3 ?_;refine Z7 ?_;refine eQ Z9 ?_;clear Z9;exact ag aM
 ·have e : j9 t = false := decide_eq_false (by omega)
  rw [e];refine gQ fun _ Z9=>?_;refine Z8 ?_;refine aj rfl (oH (c := false) (decide_eq_false (by omega))) rfl ?_;refine Z8 ?_;refine au rfl ?_;refine au rfl ?_;refine Z3 ?_;refine Z7 ?_;refine eQ Z9 ?_;clear Z9;exact ag aM
theorem Dy (a b : Rat) (t : Int) : decide (wz (if (a - b).num.sign < 0 then -(a - b) else a - b) ((2 * t : Int) : Rat) <= 0) = wiB (a - b) (2 * t) := by
 rw [Bool.eq_iff_iff, decide_eq_true_eq, uP, sJ]
 have hs : (a - b).num.sign < 0 ↔ a - b < 0 := by
  rw [Int.sign_neg_iff, <- Int.not_le, <- Rat.not_le, Rat.num_nonneg]
 by_cases h : a - b < 0
 ·rw [if_pos (hs.2 h)]
  constructor
  ·intro h1; exact ⟨by grind, by grind⟩
  ·rintro ⟨h1, h2⟩; grind
 ·rw [if_neg (fun x => h (hs.1 x))]
  constructor
  ·intro h1; exact ⟨by grind, by grind⟩
  ·rintro ⟨h1, h2⟩; grind
theorem C4 {t : Int} (h : j9 t = true) : I64 (2 * t) /\ I64 (-(2 * t)) := by
 have := of_decide_eq_true h
 exact ⟨⟨by omega, by omega⟩, ⟨by omega, by omega⟩⟩
theorem vS (a b : RW) (t : Int) (oa : a.OK 262144) (ob : b.OK 262144) (ht : j9 t = true) : Con Tryz.prog 77 [AG a.cs, AG b.cs, dI t] { v := dB (wiB (a.v - b.v) (2 * t)) } := by
 have hi := (C4 ht).1
 have q := cw (oa.ql rfl) (ob.ql rfl)
 have c1 := tj a b _ (oa.mono rfl) (ob.mono rfl) rfl
 have c2 := xL (qzW (a.v - b.v)) ((bi q).mono rfl)
 have c3 := FV (qzW (a.v - b.v)) ((bi q).mono rfl)
 have c4 := iZ (2 * t) hi
 have q' : ql (-(a.v - b.v)) <= 524289 := by rw [wy]; exact q
 have o4 := bi (dz hi)
 have c5 := tm (qzW (a.v - b.v)) (qzW ((2 * t : Int) : Rat)) ((bi q).mono rfl) (o4.mono rfl)
 have c6 := tm (qzW (-(a.v - b.v))) (qzW ((2 * t : Int) : Rat)) ((bi q').mono rfl) (o4.mono rfl)
 have e := Dy a.v b.v t
 rw [bE] at c2 c3;rw [bE, bE] at c5 c6;rw [<- e]
 have tb := of_decide_eq_true ht
 generalize a.v - b.v = d at *;generalize qzW ((2 * t : Int) : Rat) = w at *;refine Z2 Tryz.func77 ?_
 intro w0 X
 rw [ak _ _ [(0, AG a.cs), (1, AG b.cs), (2, dI t)] rfl rfl];refine gQ fun _ Z9=>?_;refine aJ rfl rfl rfl rfl rfl rfl ?_;refine aJ rfl rfl rfl rfl rfl rfl ?_;refine Z7 ?_;refine eQ Z9 ?_;clear Z9;refine gQ fun _ Z9=>?_;refine Z6 ?_;refine Z6 ?_;refine ab rfl rfl (c1) rfl rfl rfl rfl ?_;refine ar rfl rfl rfl rfl rfl rfl ?_;refine ah rfl rfl rfl rfl rfl ?_;refine eQ Z9 ?_;clear Z9
 by_cases h : d.num.sign < 0
 ·rw [if_pos h];refine bb (α := Unit) (fun _ => mk 22 [(2, dI t), (7, .ptr 7 0)] [(7, some (.box (qzW (-d)).cs))] []) (fun _ => True) ?_ ?_
  ·refine gQ fun _ Z9=>?_;refine Z6 ?_;refine ab rfl rfl (c2) rfl rfl rfl rfl ?_;refine aj rfl (oD (c := true) (decide_eq_true h)) rfl ?_;refine eQ Z9 ?_;clear Z9;refine al rfl (fun _ => ?_) (fun h => by cases h);refine gR fun _ Z9=>?_;refine Z6 ?_;refine ab rfl rfl (c3) rfl rfl rfl rfl ?_;refine ah rfl rfl rfl rfl rfl ?_;refine eQ Z9 ?_;clear Z9;exact ⟨(), trivial, Wk.mk' ⟨rfl, rfl, trivial⟩ ⟨rfl, trivial⟩⟩
  intro _ _
  refine aG tok mixed (A := [[], [], [], [1], [1, 2], [0, 1, 2, 3], []]) (an := [{}, {}, {}, {}, {}, {}, {}]) rfl (by kernel_rfl) rfl fun _ Z9=>?_;refine Z6 ?_;refine Z8 ?_;refine aj rfl (qW (c := 2 * t) rfl ⟨by omega, by omega⟩) rfl ?_;refine ab rfl rfl (c4) rfl rfl rfl rfl ?_;refine ab rfl rfl (c6) rfl rfl rfl rfl ?_;refine aj rfl (oE rfl) rfl ?_;refine Z7 ?_;refine eQ Z9 ?_;clear Z9;exact ag aM
 ·rw [if_neg h];refine bb (α := Unit) (fun _ => mk 22 [(2, dI t), (7, .ptr 7 0)] [(7, some (.box (qzW d).cs))] []) (fun _ => True) ?_ ?_
  ·refine gQ fun _ Z9=>?_;refine Z6 ?_;refine ab rfl rfl (c2) rfl rfl rfl rfl ?_;refine aj rfl (oD (c := false) (decide_eq_false h)) rfl ?_;refine eQ Z9 ?_;clear Z9;refine al rfl (fun h => by cases h) (fun _ => ?_);refine ae ?_;exact ⟨(), trivial, Wk.mk' ⟨rfl, rfl, trivial⟩ ⟨rfl, trivial⟩⟩
  intro _ _
  refine aG tok mixed (A := [[], [], [], [1], [1, 2], [0, 1, 2, 3], []]) (an := [{}, {}, {}, {}, {}, {}, {}]) rfl (by kernel_rfl) rfl fun _ Z9=>?_;refine Z6 ?_;refine Z8 ?_;refine aj rfl (qW (c := 2 * t) rfl ⟨by omega, by omega⟩) rfl ?_;refine ab rfl rfl (c4) rfl rfl rfl rfl ?_;refine ab rfl rfl (c5) rfl rfl rfl rfl ?_;refine aj rfl (oE rfl) rfl ?_;refine Z7 ?_;refine eQ Z9 ?_;clear Z9;exact ag aM
theorem Ex (a b : SP) (t : Int) (oa : a.OK 262144) (ob : b.OK 262144) : Con Tryz.prog 32 [AG a.cs, AG b.cs, dI t] { v := dB (mF a b t) } := by
 have cT := zZ t
 refine Z2 Tryz.func32 ?_
 intro w0 X
 rw [ak _ _ [(0, AG a.cs), (1, AG b.cs), (2, dI t)] rfl rfl];refine gQ fun _ Z9=>?_;refine aJ rfl rfl rfl rfl rfl rfl ?_;refine aJ rfl rfl rfl rfl rfl rfl ?_;refine Z7 ?_;refine eQ Z9 ?_;clear Z9
 cases ht : j9 t with
 | false =>
  have e : mF a b t = false := by unfold mF; rw [ht]; rfl
  rw [e];rw [ht] at cT;refine gQ fun _ Z9=>?_;refine Z8 ?_;refine ab rfl rfl (cT) rfl rfl rfl rfl ?_;refine Z8 ?_;refine au rfl ?_;refine au rfl ?_;refine au rfl ?_;refine au rfl ?_;refine au rfl ?_;refine au rfl ?_;refine Z3 ?_;refine Z8 ?_;refine au rfl ?_;refine au rfl ?_;refine au rfl ?_;refine au rfl ?_;refine au rfl ?_;refine au rfl ?_;refine Z3 ?_;refine Z7 ?_;refine eQ Z9 ?_;clear Z9;exact ag aM
 | true =>
  rw [ht] at cT
  have c1 := vS a.x b.x t oa.x ob.x ht
  have c2 := vS a.y b.y t oa.y ob.y ht
  have e : mF a b t = (wiB (a.x.v - b.x.v) (2 * t) && wiB (a.y.v - b.y.v) (2 * t)) := by unfold mF; rw [ht]; rfl
  rw [e]
  cases hx : wiB (a.x.v - b.x.v) (2 * t) with
  | true =>
   rw [hx] at c1;refine gQ fun _ Z9=>?_;refine Z8 ?_;refine ab rfl rfl (cT) rfl rfl rfl rfl ?_;refine Z8 ?_;refine Z4 ?_;refine Z6 ?_;refine Z4 ?_;refine Z6 ?_;refine Z8 ?_;refine ab rfl rfl (c1) rfl rfl rfl rfl ?_;refine Z3 ?_;refine Z8 ?_;refine Z4 ?_;refine Z6 ?_;refine Z4 ?_;refine Z6 ?_;refine Z8 ?_;refine ab rfl rfl (c2) rfl rfl rfl rfl ?_;refine Z3 ?_;refine Z7 ?_;refine eQ Z9 ?_;clear Z9;exact ag aM
  | false =>
   rw [hx] at c1;refine gQ fun _ Z9=>?_;refine Z8 ?_;refine ab rfl rfl (cT) rfl rfl rfl rfl ?_;refine Z8 ?_;refine Z4 ?_;refine Z6 ?_;refine Z4 ?_;refine Z6 ?_;refine Z8 ?_;refine ab rfl rfl (c1) rfl rfl rfl rfl ?_;refine Z3 ?_;refine Z8 ?_;refine au rfl ?_;refine au rfl ?_;refine au rfl ?_;refine au rfl ?_;refine au rfl ?_;refine au rfl ?_;refine Z3 ?_;refine Z7 ?_;refine eQ Z9 ?_;clear Z9;exact ag aM
end Go.Proofs.YtnoildlijhapaaaGreatDoor

/- law30: small inputs. No condition. -/
namespace Go.Proofs.YtnoildlijhapaaaGreatDoor
attribute [local irreducible] aD
open Go.RowKit

def w2 (r : RW) : Bool := decide (r.wp.length <= 2 /\ r.wq.length <= 2)
end Go.Proofs.YtnoildlijhapaaaGreatDoor

/- The middle: MinFunc, MaxFunc, Common, both. No condition. -/
namespace Go.Proofs.YtnoildlijhapaaaGreatDoor
attribute [local irreducible] aD
open Go.RowKit

end Go.Proofs.YtnoildlijhapaaaGreatDoor

/- Pattern and Select, both. No condition. -/
namespace Go.Proofs.YtnoildlijhapaaaGreatDoor
attribute [local irreducible] aD
open Go.RowKit

theorem Bc {g : GR} {s : List SP} {ls : List LK} {t : Int} (h : j9 t = false) : i6 g s ls t = ([], 2) := by unfold i6; rw [if_pos h]
theorem Be {g : GR} {s : List SP} {ls : List LK} {t : Int} (h : j9 t = true) (h2 : 16 < ls.length) : i6 g s ls t = ([], 6) := by unfold i6; rw [if_neg (by rw [h]; decide), if_pos h2]
theorem y3 {g : GR} {s : List SP} {ls : List LK} {t : Int} (h : j9 t = true) (h2 : ¬ 16 < ls.length) (h3 : eJ g s = false) : i6 g s ls t = ([], 1) := by unfold i6; rw [if_neg (by rw [h]; decide), if_neg h2, if_pos h3]
theorem Bf {g : GR} {s : List SP} {ls : List LK} {t : Int} (h : j9 t = true) (h2 : ¬ 16 < ls.length) (h3 : eJ g s = true) (h4 : ls.all (jS g) = false) : i6 g s ls t = ([], 1) := by
 unfold i6; rw [if_neg (by rw [h]; decide), if_neg h2, if_neg (by rw [h3]; decide), if_neg (by rw [h4]; decide)]
theorem xP {g : GR} {s : List SP} {ls : List LK} {t : Int} (h : j9 t = true) (h2 : ¬ 16 < ls.length) (h3 : eJ g s = true) (h4 : ls.all (jS g) = true) : i6 g s ls t = (prP (nrP (eV g s ls) t) ls.length ls.length, 0) := by
 unfold i6; rw [if_neg (by rw [h]; decide), if_neg h2, if_neg (by rw [h3]; decide), if_pos h4]
theorem GM {g : GR} {ls : List LK} {i : Nat} (h : i < ls.length) (hf : jS g ls[i] = false) : ls.all (jS g) = false := by
 rw [List.all_eq_false]; exact ⟨_, List.getElem_mem h, by rw [hf]; decide⟩
theorem DF {g : GR} {s : List SP} {l : LK} (h3 : eJ g s = true) (hf : jS g l = false) : oL g s l = (sp0, 1) := by unfold oL; rw [h3, hf]; rfl
theorem Bm {g : GR} {s : List SP} {l : LK} (h3 : eJ g s = true) (hf : jS g l = true) : oL g s l = (qf g s l, 0) := by unfold oL; rw [h3, hf]; rfl
theorem DH {g : GR} {s : List SP} {ls : List LK} (h3 : eJ g s = true) (ok : ∀ r ∈ g.nodes, r.OK 4096) (os : ∀ p ∈ s, p.OK 4096) (h4 : ls.all (jS g) = true) : ∀ p ∈ eV g s ls, p.OK 262144 := fun p hp => by
 obtain ⟨l, hl, rfl⟩ := List.mem_map.1 hp
 have gs := im.1 h3
 exact DG gs (cE.1 ((qE gs.gv).symm.trans (List.all_eq_true.1 h4 l hl))) ok os rfl (by omega)

set_option maxHeartbeats 8000000 in
theorem GJ (g : GR) (s : List SP) (ls : List LK) (t : Int) (ok : ∀ r ∈ g.nodes, r.OK 4096) (os : ∀ p ∈ s, p.OK 4096) : Con Tryz.prog 24 [AG g.cs, V1 (dSs s), V1 (dLs ls), dI t] { v := .tup [.one (.d (.sl ((i6 g s ls t).1.map prD))), .one (.d (lI (i6 g s ls t).2))] } := by
 have cT := zZ t
 have cR := vP g s
 refine Z2 Tryz.func24 ?_
 intro w0 X
 rw [ak _ _ [(0, AG g.cs), (1, V1 (dSs s)), (2, V1 (dLs ls)), (3, dI t)] rfl rfl];refine gQ fun _ Z9=>?_;refine aJ rfl rfl rfl rfl rfl rfl ?_;refine Z7 ?_;refine Z7 ?_;refine eQ Z9 ?_;clear Z9;refine ac ?_;refine ai ?_
 cases ht : j9 t with
 | false =>
  rw [ht] at cT;rw [Bc ht];refine gQ fun _ Z9=>?_;refine Z8 ?_;refine ab rfl rfl (cT) rfl rfl rfl rfl ?_;refine dJ rfl rfl rfl ?_;refine Z7 ?_;refine eQ Z9 ?_;clear Z9;refine al rfl (fun _ => ?_) (fun h => by cases h);refine gQ fun _ Z9=>?_;refine Z7 ?_;refine Z7 ?_;refine eQ Z9 ?_;clear Z9;exact ag aM
 | true =>
  rw [ht] at cT;refine gQ fun _ Z9=>?_;refine Z8 ?_;refine ab rfl rfl (cT) rfl rfl rfl rfl ?_;refine dJ rfl rfl rfl ?_;refine Z7 ?_;refine eQ Z9 ?_;clear Z9;refine al rfl (fun h => by cases h) (fun _ => ?_)
  by_cases h16 : 16 < ls.length
  ·rw [Be ht h16];refine gQ fun _ Z9=>?_;refine Z8 ?_;refine aA rfl (bI LK.dc rfl rfl) rfl ?_;refine aj rfl (j7 (c := true) (decide_eq_true (by omega))) rfl ?_;refine Z7 ?_;refine eQ Z9 ?_;clear Z9;refine al rfl (fun _ => ?_) (fun h => by cases h);refine gQ fun _ Z9=>?_;refine Z7 ?_;refine Z7 ?_;refine eQ Z9 ?_;clear Z9;exact ag aM
  refine gQ fun _ Z9=>?_;refine Z8 ?_;refine aA rfl (bI LK.dc rfl rfl) rfl ?_;refine aj rfl (j7 (c := false) (decide_eq_false (by omega))) rfl ?_;refine Z7 ?_;refine eQ Z9 ?_;clear Z9;refine al rfl (fun h => by cases h) (fun _ => ?_)
  cases hc : eJ g s with
  | false =>
   rw [hc] at cR;rw [y3 ht h16 hc];refine gQ fun _ Z9=>?_;refine Z6 ?_;refine Z8 ?_;refine ab rfl rfl (cR) rfl rfl rfl rfl ?_;refine dJ rfl rfl rfl ?_;refine Z7 ?_;refine eQ Z9 ?_;clear Z9;refine al rfl (fun _ => ?_) (fun h => by cases h);refine gQ fun _ Z9=>?_;refine Z7 ?_;refine Z7 ?_;refine eQ Z9 ?_;clear Z9;exact ag aM
  | true =>
   rw [hc] at cR;refine gQ fun _ Z9=>?_;refine Z6 ?_;refine Z8 ?_;refine ab rfl rfl (cR) rfl rfl rfl rfl ?_;refine dJ rfl rfl rfl ?_;refine Z7 ?_;refine eQ Z9 ?_;clear Z9;refine al rfl (fun h => by cases h) (fun _ => ?_);refine ae ?_;show AWP _ _ _ _ _ _;refine gQ fun _ Z9=>?_;refine Z7 ?_;refine eQ Z9 ?_;clear Z9;refine ac ?_;refine gQ fun _ Z9=>?_;refine Z8 ?_;refine aA rfl (bI LK.dc rfl rfl) rfl ?_;refine Z8 ?_;refine eQ Z9 ?_;clear Z9;refine ai (aN (α := Nat) (fun i => mk 83 [(1, V1 (dSs s)), (3, dI t), (4, .ptr 4 0), (10, b6 200 8 i), (31, V1 (dLs ls)), (32, dI ls.length), (33, dI i)] [(4, some (.box g.cs)), (200, bW 8 ((eV g s (ls.take i)).map SP.dc) i)] []) (fun i => i <= ls.length /\ (ls.take i).all (jS g) = true) (fun i => ls.length - i) 0 ?_ ⟨Nat.zero_le _, rfl⟩ ?_)
   ·exact Wk.mk' ⟨rfl, rfl, rfl, rfl, rfl, rfl, rfl, trivial⟩ ⟨rfl, rfl, trivial⟩
   rintro i ⟨hi, hall⟩
   refine gQ fun _ Z9=>?_;refine Z5 ?_;refine eQ Z9 ?_;clear Z9;refine ac ?_;refine al rfl (fun hg => ?_) (fun hg => ?_)
   ·have hg : i < ls.length := by simp at hg; omega
    have cO := GK g s ls[i] ok os
    refine ae ?_;show AWP _ _ _ _ _ _;refine ac ?_;refine ai ?_;refine gQ fun _ Z9=>?_;refine aa rfl (x_m LK.dc rfl rfl rfl rfl hg rfl) rfl ?_;refine Z6 ?_;refine ar rfl rfl rfl rfl rfl (by rcases i with _|i <;> rfl) ?_;refine ah rfl rfl rfl rfl rfl ?_;refine eQ Z9 ?_;clear Z9
    cases hf : jS g ls[i] with
    | false =>
     rw [DF hc hf] at cO;rw [Bf ht h16 hc (GM hg hf)];refine gQ fun _ Z9=>?_;refine Z6 ?_;refine Z8 ?_;refine Z6 ?_;refine ab rfl rfl (cO) rfl rfl rfl rfl ?_;refine Z8 ?_;refine am rfl rfl rfl ?_;refine am rfl rfl rfl ?_;refine ar rfl rfl rfl rfl rfl (by rcases i with _|i <;> rfl) ?_;refine ah rfl rfl rfl rfl rfl ?_;refine Z7 ?_;refine eQ Z9 ?_;clear Z9;refine ac ?_;refine gQ fun _ Z9=>?_;refine Z8 ?_;refine aj rfl (yn (c := true) rfl) rfl ?_;refine eQ Z9 ?_;clear Z9;refine al rfl (fun _ => ?_) (fun h => by cases h);refine gQ fun _ Z9=>?_;refine Z8 ?_;refine Z7 ?_;refine Z7 ?_;refine eQ Z9 ?_;clear Z9;exact ag aM
    | true =>
     rw [Bm hc hf] at cO
     have n1 : (eV g s (ls.take i)).map SP.dc ++ [(qf g s ls[i]).dc] = (eV g s (ls.take (i + 1))).map SP.dc := by
      unfold eV
      rw [List.take_succ_eq_append_getElem hg, List.map_append, List.map_append]; rfl
     have z1 : ((eV g s (ls.take i)).map SP.dc).length = i := by simp [eV]; omega
     generalize (eV g s (ls.take i)).map SP.dc = es at n1 z1 ⊢;generalize qf g s ls[i] = o at cO n1;refine gQ fun _ Z9=>?_;refine Z6 ?_;refine Z8 ?_;refine Z6 ?_;refine ab rfl rfl (cO) rfl rfl rfl rfl ?_;refine Z8 ?_;refine am rfl rfl rfl ?_;refine am rfl rfl rfl ?_;refine ar rfl rfl rfl rfl rfl (by rcases i with _|i <;> rfl) ?_;refine ah rfl rfl rfl rfl rfl ?_;refine Z7 ?_;refine eQ Z9 ?_;clear Z9;refine ac ?_;refine gQ fun _ Z9=>?_;refine Z8 ?_;refine aj rfl (yn (c := false) rfl) rfl ?_;refine eQ Z9 ?_;clear Z9;refine al rfl (fun h => by cases h) (fun _ => ?_);refine ae ?_;show AWP _ _ _ _ _ _;refine gR fun _ Z9=>?_;refine pU rfl DL rfl ?_;refine Z6 ?_;refine av rfl rfl (by rcases i with _|i <;> rfl) rfl ?_;refine sY rfl rfl rfl rfl rfl rfl rfl rfl rfl (by decide) (Nat.le_of_ble_eq_true rfl) rfl (by simp) (z1.symm) (by simp) (by simp <;> omega) (by rcases i with _|i <;> rfl) rfl rfl ?_;refine Z7 ?_;refine eQ Z9 ?_;clear Z9;show AWP _ _ _ _ _ _;refine gR fun _ Z9=>?_;refine aj rfl (aH (c := ((i + 1 : Nat) : Int)) (by omega) (by omega)) rfl ?_;refine Z8 ?_;refine eQ Z9 ?_;clear Z9;refine ⟨i + 1, by omega, ⟨hg, by rw [List.take_succ_eq_append_getElem hg, List.all_append, hall]; simp [hf]⟩, Wk.rn [1, 3, 4, 10, 31, 32, 33] [4, 50] 50 200 rfl rfl rfl ⟨rfl, rfl, rfl, rfl, rfl, rfl, rfl, trivial⟩ ⟨rfl, ?_, trivial⟩⟩;rw [<- n1]; rfl
   have hg : i = ls.length := by simp at hg; omega
   subst hg
   rw [List.take_length] at hall;rw [List.take_length, xP ht h16 hc hall]
   have oo := DH hc ok os hall
   have ol : (eV g s ls).length = ls.length := by simp [eV]
   have nr : ∀ i j (hi : i < (eV g s ls).length) (hj : j < (eV g s ls).length), Con Tryz.prog 32 [AG (eV g s ls)[i].cs, AG (eV g s ls)[j].cs, dI t] { v := dB (nrP (eV g s ls) t i j) } := fun i j hi hj => by
    have c := Ex (eV g s ls)[i] (eV g s ls)[j] t (oo _ (List.getElem_mem hi)) (oo _ (List.getElem_mem hj))
    have e1 : (eV g s ls).getD i sp0 = (eV g s ls)[i] := by rw [List.getD_eq_getElem?_getD, List.getElem?_eq_getElem hi]; rfl
    have e2 : (eV g s ls).getD j sp0 = (eV g s ls)[j] := by rw [List.getD_eq_getElem?_getD, List.getElem?_eq_getElem hj]; rfl
    unfold nrP
    rw [e1, e2]; exact c
   generalize nrP (eV g s ls) t = q at nr ⊢;generalize eV g s ls = O at nr ol ⊢;rw [<- ol] at h16 ⊢;refine az ?_;show AWP _ _ _ _ _ _
   obtain ⟨m, hm⟩ : ∃ m, O.length = m := ⟨_, rfl⟩
   rcases O with _ | ⟨p1, O1⟩
   ·refine gQ fun _ Z9=>?_;refine Z7 ?_;refine eQ Z9 ?_;clear Z9;refine ac ?_;refine gQ fun _ Z9=>?_;refine Z8 ?_;refine aA rfl rfl rfl ?_;refine Z8 ?_;refine eQ Z9 ?_;clear Z9;refine ai (aN (α := Unit) (fun _ => mk 83 [(15, b6 200 2 0), (53, dI 0), (54, dI 0)] [] []) (fun _ => True) (fun _ => 0) () ?_ trivial ?_)
    ·exact Wk.mk' ⟨rfl, rfl, rfl, trivial⟩ trivial
    intro _ _
    refine gQ fun _ Z9=>?_;refine Z5 ?_;refine eQ Z9 ?_;clear Z9;refine ac ?_;refine al rfl (fun h => by cases h) (fun _ => ?_);refine az ?_;show AWP _ _ _ _ _ _;refine gQ fun _ Z9=>?_;refine Z8 ?_;refine Z7 ?_;refine Z7 ?_;refine eQ Z9 ?_;clear Z9;exact ag aM
   refine de [3, 10] [200] 200 [(3, dI t), (10, V1 (dSs (p1 :: O1)))] [] rfl ?_ trivial ?_
   ·exact ⟨rfl, bw rfl (by simp), trivial⟩
   generalize p1 :: O1 = O at nr ol hm h16 ⊢;rw [hm];rw [hm] at h16;refine gQ fun _ Z9=>?_;refine Z7 ?_;refine eQ Z9 ?_;clear Z9;refine ac ?_;refine gQ fun _ Z9=>?_;refine Z8 ?_;refine aA rfl (iQ (n := m) rfl rfl (by rw [List.length_map]; exact hm)) rfl ?_;refine Z8 ?_;refine eQ Z9 ?_;clear Z9;refine ai (aN (α := Nat) (fun a => mk 83 [(3, dI t), (10, V1 (dSs O)), (15, b6 200 2 (prP q m a).length), (53, dI m), (54, dI a)] [(200, bW 2 ((prP q m a).map prD) (prP q m a).length)] []) (fun a => a <= m) (fun a => m - a) 0 ?_ (Nat.zero_le _) ?_)
   ·exact Wk.mk' ⟨rfl, rfl, rfl, rfl, rfl, trivial⟩ ⟨rfl, trivial⟩
   intro a ha
   refine gQ fun _ Z9=>?_;refine Z5 ?_;refine eQ Z9 ?_;clear Z9;refine ac ?_;refine al rfl (fun hg => ?_) (fun hg => ?_)
   ·have hg : a < m := by simp at hg; omega
    have hlen := tz q m a
    refine ae ?_;show AWP _ _ _ _ _ _;refine ac ?_;refine ai ?_;refine gQ fun _ Z9=>?_;refine Z8 ?_;refine Z7 ?_;refine eQ Z9 ?_;clear Z9;refine gQ fun _ Z9=>?_;refine Z8 ?_;refine aj rfl (aH (c := ((a + 1 : Nat) : Int)) (by omega) (by omega)) rfl ?_;refine Z7 ?_;refine eQ Z9 ?_;clear Z9;refine ai (aN (α := Nat) (fun b => mk 83 [(3, dI t), (10, V1 (dSs O)), (15, b6 200 2 (prP q m a ++ prR q a b).length), (16, dI a), (17, dI b), (53, dI m), (54, dI a)] [(200, bW 2 ((prP q m a ++ prR q a b).map prD) (prP q m a ++ prR q a b).length)] []) (fun b => a < b /\ b <= m) (fun b => m - b) (a + 1) ?_ ⟨by omega, by omega⟩ ?_)
    ·rw [A9 q a (a + 1) (Nat.le_refl _), List.append_nil];exact Wk.mk' ⟨rfl, rfl, rfl, rfl, rfl, rfl, rfl, trivial⟩ ⟨rfl, trivial⟩
    rintro b ⟨hab, hb⟩
    have hlr := tw q a b
    have hss := A8 (q := q) hab
    obtain ⟨l, hl⟩ : ∃ l, l = prP q m a ++ prR q a b := ⟨_, rfl⟩
    have hll : l.length <= 8192 := by
     have : a * m <= 16 * 16 := Nat.mul_le_mul (by omega) (by omega)
     rw [hl, List.length_append]; omega
    have hs' : prP q m a ++ prR q a (b + 1) = l ++ if q a b = true then [(a, b)] else [] := by rw [hss, hl, List.append_assoc]
    rw [<- hl]
    obtain ⟨L, hL⟩ : ∃ L, l.length = L := ⟨_, rfl⟩
    rw [hL];rw [hL] at hll;refine ac ?_;refine gQ fun _ Z9=>?_;refine Z8 ?_;refine Z8 ?_;refine aA rfl (iQ (n := m) rfl rfl (by rw [List.length_map]; exact hm)) rfl ?_;refine Z5 ?_;refine eQ Z9 ?_;clear Z9;refine al rfl (fun hf => ?_) (fun hf => ?_)
    ·have hf : b < m := by simp at hf; omega
     have ga : a < O.length := by omega
     have gb : b < O.length := by omega
     have cN := nr a b ga gb
     refine ae ?_;show AWP _ _ _ _ _ _;refine ac ?_;refine ai ?_;refine aG tok mixed (A := [[], [], [], [0, 1], [], [], [], [4, 5], [], [0, 1, 2, 4, 5, 6]]) (an := [{}, {}, {}, {}, {}, {}, {}, {}, {}, {}]) rfl (by kernel_rfl) rfl fun _ Z9=>?_;refine Z8 ?_;refine Z8 ?_;refine aa rfl (x_m SP.dc rfl rfl rfl rfl ga rfl) rfl ?_;refine Z6 ?_;refine Z8 ?_;refine Z8 ?_;refine aa rfl (x_m SP.dc rfl rfl rfl rfl gb rfl) rfl ?_;refine Z6 ?_;refine Z8 ?_;refine ab rfl rfl (cN) rfl rfl rfl rfl ?_;refine eQ Z9 ?_;clear Z9;refine al rfl (fun hx => ?_) (fun hx => ?_)
     ·rw [if_pos hx] at hs';refine gR fun _ Z9=>?_;refine pU rfl DL rfl ?_;refine Z8 ?_;refine Z8 ?_;refine aI rfl rfl rfl ?_;refine av rfl rfl (by rcases L with _|L <;> rfl) rfl ?_;refine sY rfl rfl rfl rfl rfl rfl rfl rfl rfl (by decide) (Nat.le_of_ble_eq_true rfl) rfl (by simp) (by rw [List.length_map, hL]) (by simp) (by simp <;> omega) (by rcases L with _|L <;> rfl) rfl rfl ?_;refine Z7 ?_;refine eQ Z9 ?_;clear Z9;show AWP _ _ _ _ _ _;refine gR fun _ Z9=>?_;refine Z8 ?_;refine aj rfl (aH (c := ((b + 1 : Nat) : Int)) (by omega) (by omega)) rfl ?_;refine Z7 ?_;refine eQ Z9 ?_;clear Z9;refine ⟨b + 1, by omega, ⟨by omega, hf⟩, Wk.rn [3, 10, 15, 16, 17, 53, 54] [80] 80 200 rfl rfl rfl ⟨rfl, rfl, ?_, rfl, rfl, rfl, rfl, trivial⟩ ⟨?_, trivial⟩⟩
      ·rw [hs', uX hL]; rfl
      ·rw [hs', vR hL]; rfl
     ·rw [if_neg (by rw [hx]; decide), List.append_nil] at hs';refine ae ?_;show AWP _ _ _ _ _ _;refine gR fun _ Z9=>?_;refine Z8 ?_;refine aj rfl (aH (c := ((b + 1 : Nat) : Int)) (by omega) (by omega)) rfl ?_;refine Z7 ?_;refine eQ Z9 ?_;clear Z9;refine ⟨b + 1, by omega, ⟨by omega, hf⟩, ?_⟩;rw [hs', hL];exact Wk.mk' ⟨rfl, rfl, rfl, rfl, rfl, rfl, rfl, trivial⟩ ⟨rfl, trivial⟩
    have hf : b = m := by simp at hf; omega
    subst hf
    refine az ?_;show AWP _ _ _ _ _ _;refine gR fun _ Z9=>?_;refine aj rfl (aH (c := ((a + 1 : Nat) : Int)) (by omega) (by omega)) rfl ?_;refine Z8 ?_;refine eQ Z9 ?_;clear Z9;refine ⟨a + 1, by omega, hg, ?_⟩
    have ee : prP q b (a + 1) = l := by rw [hl]; rfl
    rw [ee, hL];exact Wk.mk' ⟨rfl, rfl, rfl, rfl, rfl, trivial⟩ ⟨rfl, trivial⟩
   have hf : a = m := by simp at hg; omega
   subst hf
   refine az ?_;show AWP _ _ _ _ _ _
   obtain ⟨l, hl⟩ : ∃ l, l = prP q a a := ⟨_, rfl⟩
   rw [<- hl]
   rcases l with _ | ⟨p, l⟩
   ·refine gQ fun _ Z9=>?_;refine Z8 ?_;refine Z7 ?_;refine Z7 ?_;refine eQ Z9 ?_;clear Z9;exact ag aM
   ·refine de [15] [200] 200 [(15, V1 (.sl ((p :: l).map prD)))] [] rfl ?_ trivial ?_
    ·exact ⟨bw rfl (by simp), trivial⟩
    refine gQ fun _ Z9=>?_;refine Z8 ?_;refine Z7 ?_;refine Z7 ?_;refine eQ Z9 ?_;clear Z9;exact ag aM
end Go.Proofs.YtnoildlijhapaaaGreatDoor

/- The reference's Pattern; Select, both. No condition. -/
namespace Go.Proofs.YtnoildlijhapaaaGreatDoor
attribute [local irreducible] aD
open Go.RowKit

theorem Bd {g : GR} {s : List SP} {ls : List LK} {t : Int} (h : (i6 g s ls t).2 = 0) : ∃ q, (i6 g s ls t).1 = prP q ls.length ls.length /\ ls.length <= 16 := by
 unfold i6 at h ⊢
 split at h
 ·cases h
 ·rename_i h1
  rw [if_neg h1]
  split at h
  ·cases h
  ·rename_i h2
   rw [if_neg h2]
   split at h
   ·cases h
   ·rename_i h3
    rw [if_neg h3]
    split at h
    ·rename_i h4
     rw [if_pos h4];exact ⟨_, rfl, by omega⟩
    ·cases h
theorem GI (g : GR) (s : List SP) (ls : List LK) (t : Int) (ok : ∀ r ∈ g.nodes, r.OK 4096) (os : ∀ p ∈ s, p.OK 4096) : Con Tryz.prog 26 [AG g.cs, V1 (dSs s), V1 (dLs ls), dI t] { v := .tup [.one (.d (dNs (yN g s ls t).1)), .one (.d (lI (yN g s ls t).2))] } := by
 have cP := GJ g s ls t ok os
 refine Z2 Tryz.func26 ?_
 intro w0 X
 rw [ak _ _ [(0, AG g.cs), (1, V1 (dSs s)), (2, V1 (dLs ls)), (3, dI t)] rfl rfl];refine gQ fun _ Z9=>?_;refine aJ rfl rfl rfl rfl rfl rfl ?_;refine Z7 ?_;refine Z7 ?_;refine eQ Z9 ?_;clear Z9
 unfold yN
 by_cases h : (i6 g s ls t).2 = 0
 ·rw [if_pos h]
  obtain ⟨q, hq, hl⟩ := Bd h
  have ok' : OKp ls.length (prP q ls.length ls.length) := FY q (by omega) _
  have hpl := tz q ls.length ls.length
  have hmm : ls.length * ls.length <= 16 * 16 := Nat.mul_le_mul hl hl
  have cM := GL ls.length (prP q ls.length ls.length) ok' (by omega) (by omega)
  rw [hq] at cP ⊢;rw [h] at cP;generalize mxC (tu (prP q ls.length ls.length)) ls.length = y at cM ⊢;generalize prP q ls.length ls.length = ps at cP cM;refine gQ fun _ Z9=>?_;refine Z6 ?_;refine Z8 ?_;refine Z8 ?_;refine Z8 ?_;refine ab rfl rfl (cP) rfl rfl rfl rfl ?_;refine Z8 ?_;refine am rfl rfl rfl ?_;refine am rfl rfl rfl ?_;refine Z7 ?_;refine Z7 ?_;refine eQ Z9 ?_;clear Z9;refine ac ?_;refine gQ fun _ Z9=>?_;refine Z8 ?_;refine aj rfl (yn (c := false) rfl) rfl ?_;refine eQ Z9 ?_;clear Z9;refine al rfl (fun h => by cases h) (fun _ => ?_);refine ae ?_;show AWP _ _ _ _ _ _;refine gQ fun _ Z9=>?_;refine Z8 ?_;refine aA rfl (bI LK.dc rfl rfl) rfl ?_;refine Z8 ?_;refine ab rfl rfl (cM) rfl rfl rfl rfl ?_;refine am rfl rfl rfl ?_;refine am rfl rfl rfl ?_;refine Z7 ?_;refine Z7 ?_;refine eQ Z9 ?_;clear Z9;exact ag aM
 ·rw [if_neg h];generalize (i6 g s ls t).1 = ps at cP;generalize (i6 g s ls t).2 = e at cP h ⊢;refine gQ fun _ Z9=>?_;refine Z6 ?_;refine Z8 ?_;refine Z8 ?_;refine Z8 ?_;refine ab rfl rfl (cP) rfl rfl rfl rfl ?_;refine Z8 ?_;refine am rfl rfl rfl ?_;refine am rfl rfl rfl ?_;refine Z7 ?_;refine Z7 ?_;refine eQ Z9 ?_;clear Z9;refine ac ?_;refine gQ fun _ Z9=>?_;refine Z8 ?_;refine aj rfl (yn (c := true) (by simpa using h)) rfl ?_;refine eQ Z9 ?_;clear Z9;refine al rfl (fun _ => ?_) (fun h => by cases h);refine gQ fun _ Z9=>?_;refine Z8 ?_;refine Z7 ?_;refine Z7 ?_;refine eQ Z9 ?_;clear Z9;exact ag aM
end Go.Proofs.YtnoildlijhapaaaGreatDoor

/- The reference's Reckon. No condition. -/
namespace Go.Proofs.YtnoildlijhapaaaGreatDoor
attribute [local irreducible] aD
open Go.RowKit

end Go.Proofs.YtnoildlijhapaaaGreatDoor

/- The reference's Common. No condition. -/
namespace Go.Proofs.YtnoildlijhapaaaGreatDoor
attribute [local irreducible] aD
open Go.RowKit

structure LH where
 a : RW
 b : RW
 c : RW
 d : RW
structure LH.OK (s : LH) : Prop where
 a : s.a.OK 262144
 b : s.b.OK 262144
 c : s.c.OK 262144
 d : s.d.OK 262144

end Go.Proofs.YtnoildlijhapaaaGreatDoor

/- strconv.FormatUint at a hundred and above. Lines turned from the kit's Itoa3. No condition. -/
namespace Go.Proofs.YtnoildlijhapaaaGreatDoor
open Go.Shelf Go.RowKit Go.Sort Go.Lib

end Go.Proofs.YtnoildlijhapaaaGreatDoor

/- law30: awake. No condition. -/
namespace Go.Proofs.YtnoildlijhapaaaGreatDoor
attribute [local irreducible] aD
open Go.RowKit

end Go.Proofs.YtnoildlijhapaaaGreatDoor

/- law30: Reckons, Offsets, Selects, Common. No condition. -/
namespace Go.Proofs.YtnoildlijhapaaaGreatDoor
attribute [local irreducible] aD
open Go.RowKit

end Go.Proofs.YtnoildlijhapaaaGreatDoor

/- law30: Helly. No condition. -/
namespace Go.Proofs.YtnoildlijhapaaaGreatDoor
attribute [local irreducible] aD
open Go.RowKit

end Go.Proofs.YtnoildlijhapaaaGreatDoor

/- law30: Residuals. No condition. -/
namespace Go.Proofs.YtnoildlijhapaaaGreatDoor
attribute [local irreducible] aD
open Go.RowKit

end Go.Proofs.YtnoildlijhapaaaGreatDoor

/- A graph as an argument, with the lengths of its lists. No condition. -/
namespace Go.Proofs.YtnoildlijhapaaaGreatDoor
attribute [local irreducible] aD
open Go.ChangeShapes Go.WideShapes Go.ChangeAt Go.RowKit
section
variable {w : World} {H : Type} {enc : TypeId × Value -> H} {sp : Nat -> Bool} {v : Value} {d : DataW H} {ps : List MemPlace} {base : Nat}
end
end Go.Proofs.YtnoildlijhapaaaGreatDoor

/- wayfindertop.short. No condition. -/
namespace Go.Proofs.YtnoildlijhapaaaGreatDoor
attribute [local irreducible] aD
open Go.RowKit

end Go.Proofs.YtnoildlijhapaaaGreatDoor

/- wayfindertop: adjustAwake, tiny; WholeMinimum. No condition. -/
namespace Go.Proofs.YtnoildlijhapaaaGreatDoor
attribute [local irreducible] aD
open Go.RowKit

set_option maxHeartbeats 1000000 in
theorem rh : Con Tryz.prog 48 [] { v := dB true } := by
 have cM := BU gW (fun r hr => (BT r hr).mono rfl) Fb
 have cL := BV gW (fun r hr => (BT r hr).mono rfl) Fb
 rw [tW1] at cM;rw [tW2] at cL
 have t1 := xK (qzW 12) (bi (by decide +kernel)) (by rw [bE]; decide +kernel) (by rw [bE]; decide +kernel)
 have t2 := xK (qzW 6) (bi (by decide +kernel)) (by rw [bE]; decide +kernel) (by rw [bE]; decide +kernel)
 rw [bE, show qtx (12 : Rat) = [49, 50] by decide +kernel] at t1;rw [bE, show qtx (6 : Rat) = [54] by decide +kernel] at t2
 have eS : sW = [⟨qzW 0, qzW 0⟩, ⟨qzW 12, qzW 0⟩] := rfl
 rw [eS] at cM;generalize qzW (12 : Rat) = A at *;generalize qzW (6 : Rat) = B at *;generalize qzW (0 : Rat) = Z at *;refine Z2 Tryz.func48 ?_
 intro w0 X
 rw [ak _ _ [] rfl rfl];refine gQ fun _ Z9=>?_;refine Z7 ?_;refine eQ Z9 ?_;clear Z9;refine gQ fun _ Z9=>?_;refine bf (sz := _) (es := _) (f := _) (v := _) rfl (rp (l := 2) rfl rfl rfl rfl rfl (Nat.le_of_ble_eq_true rfl) (by decide) rfl rfl (by omega)) rfl rfl ?_;refine aI rfl rfl rfl ?_;refine aI rfl rfl rfl ?_;refine av rfl rfl rfl rfl ?_;refine aI rfl rfl rfl ?_;refine ar rfl rfl rfl rfl rfl rfl ?_;refine eL rfl rfl rfl rfl rfl ?_;refine eQ Z9 ?_;clear Z9;refine de [1] [1, 6, 9] 6 [(1, .ptr 1 0)] [(1, some (.box [.d (dRs [gY, gY]), .own 9 5 0 2])), (9, some (.arr 5 [(LK.mk 0 1 10 0 1).dc, (LK.mk 0 1 13 0 2).dc]))] rfl ⟨rfl, trivial⟩ ⟨rfl, rfl, trivial⟩ ?_;refine de [1] [1, 9] 9 [(1, .ptr 1 0)] [(1, some (.box gW.cs))] rfl ⟨rfl, trivial⟩ ⟨rfl, trivial⟩ ?_;refine gQ fun _ Z9=>?_;refine Z6 ?_;refine ab rfl rfl (cM) rfl rfl rfl rfl ?_;refine Z8 ?_;refine am rfl rfl rfl ?_;refine am rfl rfl rfl ?_;refine Z7 ?_;refine Z7 ?_;refine eQ Z9 ?_;clear Z9;refine gQ fun _ Z9=>?_;refine Z6 ?_;refine ab rfl rfl (cL) rfl rfl rfl rfl ?_;refine Z8 ?_;refine am rfl rfl rfl ?_;refine am rfl rfl rfl ?_;refine ar rfl rfl rfl rfl rfl rfl ?_;refine ah rfl rfl rfl rfl rfl ?_;refine Z7 ?_;refine eQ Z9 ?_;clear Z9;refine gQ fun _ Z9=>?_;refine Z8 ?_;refine aj rfl (mX rfl) rfl ?_;refine Z8 ?_;refine Z8 ?_;refine aj rfl (mX rfl) rfl ?_;refine Z3 ?_;refine Z8 ?_;refine Z8 ?_;refine aA rfl (bI SP.dc rfl rfl) rfl ?_;refine aj rfl (mX rfl) rfl ?_;refine Z3 ?_;refine Z8 ?_;refine Z8 ?_;refine aa rfl (x_m SP.dc (i := 1) rfl rfl rfl rfl (by simp) rfl) rfl ?_;refine Z4 ?_;refine Z6 ?_;refine ab rfl rfl (t1) rfl rfl rfl rfl ?_;refine aj rfl (Cg _) rfl ?_;refine Z3 ?_;refine Z8 ?_;refine Z6 ?_;refine ab rfl rfl (t2) rfl rfl rfl rfl ?_;refine aj rfl (Cg _) rfl ?_;refine Z3 ?_;refine Z7 ?_;refine eQ Z9 ?_;clear Z9;exact ag aM
end Go.Proofs.YtnoildlijhapaaaGreatDoor

/- law30: Truth. No condition. -/
namespace Go.Proofs.YtnoildlijhapaaaGreatDoor
attribute [local irreducible] aD
open Go.RowKit

/-! ### Plainly -/
theorem A6 {q : Nat -> Nat -> Bool} {m : Nat} (h : ∀ a b, a < m -> b < m -> q a b = true) : (List.range m).Pairwise fun u v => q u v = true :=
 List.pairwise_lt_range.imp_of_mem fun {a b} ha hb _ => h a b (List.mem_range.1 ha) (List.mem_range.1 hb)
theorem FC {g : GR} {s : List SP} {ls : List LK} {t : Int} (ht : j9 t = true) (h16 : ls.length <= 16) (hc : eJ g s = true) (hf : ls.all (jS g) = true) : yN g s ls t = (mxC (tu (prP (nrP (eV g s ls) t) ls.length ls.length)) ls.length, 0) := by
 unfold yN
 rw [xP ht (by omega) hc hf, if_pos rfl]
def prB (n : Nat) (p : PT) : Nat × Nat := ((p.x % (n : Int)).toNat, if (p.x % (n : Int)).toNat = (p.y % (n : Int)).toNat then ((p.x % (n : Int)).toNat + 1) % n else (p.y % (n : Int)).toNat)
theorem Ba {n : Nat} (h : 2 <= n) (p : PT) : (prB n p).1 < n /\ (prB n p).2 < n /\ (prB n p).1 ≠ (prB n p).2 := by
 have a0 := Int.emod_nonneg p.x (b := (n : Int)) (by omega)
 have a1 := Int.emod_lt_of_pos p.x (b := (n : Int)) (by omega)
 have b0 := Int.emod_nonneg p.y (b := (n : Int)) (by omega)
 have b1 := Int.emod_lt_of_pos p.y (b := (n : Int)) (by omega)
 unfold prB
 generalize p.x % (n : Int) = a at *;generalize p.y % (n : Int) = b at *;refine ⟨by simp only; omega, ?_, ?_⟩
 ·simp only
  split
  ·exact Nat.mod_lt _ (by omega)
  ·omega
 ·simp only
  split
  ·rcases Nat.lt_or_ge (a.toNat + 1) n with h1 | h1
   ·rw [Nat.mod_eq_of_lt h1]; omega
   ·rw [show a.toNat + 1 = n by omega, Nat.mod_self]; omega
  ·assumption
section
variable {P : Nat -> PT} {ts : List Nat} {n : Nat} {pr : List PT}
end
theorem Cz (P : Nat -> PT) (ts : List Nat) (k : Nat) : (ch1 P ts k).map LK.dc ++ [(exK P ts k (k + 1) 1).dc] = (ch1 P ts (k + 1)).map LK.dc := by
 unfold ch1; rw [List.range_succ, List.map_append, List.map_append]; rfl
/-! ### The walk -/
end Go.Proofs.YtnoildlijhapaaaGreatDoor

/- closure.With, where all links are taken. No condition. -/
namespace Go.Proofs.YtnoildlijhapaaaGreatDoor
attribute [local irreducible] aD
open Go.RowKit

theorem wg (ls : List LK) (h0 : 0 < ls.length) (hn : ls.length <= 1048576) : Con Tryz.prog 91 [V1 (dLs ls)] { v := .val (.one (.own 0 5 0 ls.length)), ob := some (5, ls.map LK.dc) } := by
 refine Z2 Tryz.func91 ?_
 intro w0 X
 rw [ak _ _ [(0, V1 (dLs ls))] rfl rfl];refine gQ fun _ Z9=>?_;refine Z7 ?_;refine eQ Z9 ?_;clear Z9;refine ac ?_;refine nU (es := ls.map LK.dc) tok rfl rfl rfl rfl rfl rfl rfl rfl rfl rfl fun b hb => ?_;rw [eP, eP];refine al rfl (fun hc => ?_) (fun hc => ?_)
 ·exact absurd (hb hc) (fun e => by rw [List.map_eq_nil_iff] at e; rw [e] at h0; exact absurd h0 (by decide))
 ·refine ae ?_;show AWP _ _ _ _ _ _;refine gQ fun _ Z9=>?_;refine av rfl rfl rfl rfl ?_;refine Z8 ?_;refine aO rfl (gT (es := []) rfl rfl rfl rfl rfl rfl (by decide) (Nat.le_of_ble_eq_true rfl) rfl (fun e he => by obtain ⟨x, _, rfl⟩ := List.mem_map.1 he; rfl) rfl rfl rfl (by simp; omega)) rfl rfl rfl ?_;refine Z7 ?_;refine eQ Z9 ?_;clear Z9;refine dm [(2, .val (.one (.own 7 5 0 ls.length)))] [(7, some (.arr 5 (ls.map LK.dc)))] ⟨?_, trivial⟩ ⟨?_, trivial⟩ ?_
  ·show SV.val (.one (.own 7 5 0 (([] : List (List DC)) ++ ls.map LK.dc).length)) = _
   rw [List.nil_append, List.length_map]
  ·show some (OO.arr 5 (([] : List (List DC)) ++ ls.map LK.dc)) = _
   rw [List.nil_append]
  refine ag ?_;exact p8 (tS (by rfl) rfl)
theorem we (ls : List RW) (h0 : 0 < ls.length) (hn : ls.length <= 1048576) : Con Tryz.prog 90 [V1 (dRs ls)] { v := .val (.one (.own 0 4 0 ls.length)), ob := some (4, ls.map RW.dc) } := by
 refine Z2 Tryz.func90 ?_
 intro w0 X
 rw [ak _ _ [(0, V1 (dRs ls))] rfl rfl];refine gQ fun _ Z9=>?_;refine Z7 ?_;refine eQ Z9 ?_;clear Z9;refine ac ?_;refine nU (es := ls.map RW.dc) tok rfl rfl rfl rfl rfl rfl rfl rfl rfl rfl fun b hb => ?_;rw [eP, eP];refine al rfl (fun hc => ?_) (fun hc => ?_)
 ·exact absurd (hb hc) (fun e => by rw [List.map_eq_nil_iff] at e; rw [e] at h0; exact absurd h0 (by decide))
 ·refine ae ?_;show AWP _ _ _ _ _ _;refine gQ fun _ Z9=>?_;refine av rfl rfl rfl rfl ?_;refine Z8 ?_;refine aO rfl (gT (es := []) rfl rfl rfl rfl rfl rfl (by decide) (Nat.le_of_ble_eq_true rfl) rfl (fun e he => by obtain ⟨x, _, rfl⟩ := List.mem_map.1 he; rfl) rfl rfl rfl (by simp; omega)) rfl rfl rfl ?_;refine Z7 ?_;refine eQ Z9 ?_;clear Z9;refine dm [(2, .val (.one (.own 7 4 0 ls.length)))] [(7, some (.arr 4 (ls.map RW.dc)))] ⟨?_, trivial⟩ ⟨?_, trivial⟩ ?_
  ·show SV.val (.one (.own 7 4 0 (([] : List (List DC)) ++ ls.map RW.dc).length)) = _
   rw [List.nil_append, List.length_map]
  ·show some (OO.arr 4 (([] : List (List DC)) ++ ls.map RW.dc)) = _
   rw [List.nil_append]
  refine ag ?_;exact p8 (tS (by rfl) rfl)
theorem Hb {T : Tab} {t : TypeId} {ti : TI} {S : ca} {rb : List Nat} {id i : Nat} {es : List (List DC)} {r : RW} (h1 : T t = some ti) (h4 : ti.size = 4) (hS : S id = some (.arr 4 es)) (hi : i < es.length) (hel : ∀ el ∈ es, el.length = 4) :
  bB T ⟨[], S, rb⟩ t (.pe id 4 i 0) (AG r.cs) = .upd (bc S id (.arr 4 (es.set i r.dc))) rb :=
 pM (ds := r.dc) h1 hS hi (fun el h => by rw [h4]; exact hel el (List.mem_of_getElem? h)) rfl (by rw [h4]; rfl) (by rw [h4]; rfl)
theorem vJ (n : Bool) (w : List Nat) (hw : w.length <= 1073741824) : Con Tryz.prog 92 [AG (IC n w)] { v := AG (IC n w) } := by
 have c := jZ w hw
 refine Z2 Tryz.func92 ?_
 intro w0 X
 rw [ak _ _ [(0, AG (IC n w))] rfl rfl];refine gQ fun _ Z9=>?_;refine aJ rfl rfl rfl rfl rfl rfl ?_;refine ar rfl rfl rfl rfl rfl rfl ?_;refine eQ Z9 ?_;clear Z9;refine aG tok mixed (A := [[], [], [], [], [2], [0, 2, 3], []]) (an := [{}, {}, {}, {}, {}, {}, {}]) rfl (by kernel_rfl) rfl fun _ Z9=>?_;refine Z4 ?_;refine Z6 ?_;refine Z4 ?_;refine Z6 ?_;refine ab rfl rfl (c) rfl rfl rfl rfl ?_;refine aI rfl rfl rfl ?_;refine ah rfl rfl rfl rfl rfl ?_;refine eQ Z9 ?_;clear Z9;exact ag aM
theorem Eu (g : GR) (ls : List LK) (ks : List Nat) (hks : ∀ i (h : i < ks.length), ks[i]'h = i) (hkl : ks.length = ls.length) (gv : bQ g = true) (hn0 : 0 < g.links.length) (hf : ∀ l ∈ ls, jS g l = true) (hl48 : g.links.length + ls.length <= 48) (ok : ∀ r ∈ g.nodes, r.OK 4096) :
  Con Tryz.prog 44 [AG g.cs, V1 (dLs ls), V1 (dNs ks)] { v := .tup [.agg (GR.mk g.nodes (g.links ++ ls)).cs, .one (.d (lI 0))] } := by
 have GVg := ci.1 gv
 have n1 := GVg.n1
 have n2 := GVg.n2
 have cV := gO g
 rw [gv] at cV
 have c1 := we g.nodes n1 (by omega)
 have c2 := wg g.links hn0 (by omega)
 refine Z2 Tryz.func44 ?_
 intro w0 X
 rw [ak _ _ [(0, AG g.cs), (1, V1 (dLs ls)), (2, V1 (dNs ks))] rfl rfl];refine gQ fun _ Z9=>?_;refine aJ rfl rfl rfl rfl rfl rfl ?_;refine ar rfl rfl rfl rfl rfl rfl ?_;refine Z7 ?_;refine eQ Z9 ?_;clear Z9;refine ac ?_;refine gQ fun _ Z9=>?_;refine Z6 ?_;refine ab rfl rfl (cV) rfl rfl rfl rfl ?_;refine dJ rfl rfl rfl ?_;refine eQ Z9 ?_;clear Z9;refine al rfl (fun h => by cases h) (fun _ => ?_);refine ae ?_;show AWP _ _ _ _ _ _;refine ac ?_;refine gQ fun _ Z9=>?_;refine Z8 ?_;refine aA rfl (bI cN rfl rfl) rfl ?_;refine Z8 ?_;refine eQ Z9 ?_;clear Z9;refine ai (aN (α := Nat) (fun i => mk 107 [(1, V1 (dLs ls)), (2, V1 (dNs ks)), (3, .ptr 3 0), (6, .ptr 6 0), (7, dI 0), (19, V1 (dNs ks)), (20, dI ks.length), (21, dI i)] [(3, some (.box g.cs)), (6, some (.box [.nil, .nil]))] []) (fun i => i <= ks.length) (fun i => ks.length - i) 0 ?_ (Nat.zero_le _) ?_)
 ·exact Wk.mk' ⟨rfl, rfl, rfl, rfl, rfl, rfl, rfl, rfl, trivial⟩ ⟨rfl, rfl, trivial⟩
 intro i hi
 refine gQ fun _ Z9=>?_;refine Z5 ?_;refine eQ Z9 ?_;clear Z9;refine ac ?_;refine al rfl (fun hg => ?_) (fun hg => ?_)
 ·have hg : i < ks.length := by simp at hg; omega
  have hki := hks i hg
  refine ae ?_;show AWP _ _ _ _ _ _;refine ac ?_;refine ai ?_;refine gQ fun _ Z9=>?_;refine Z8 ?_;refine aa rfl (x_m cN rfl rfl rfl rfl hg rfl) rfl ?_;refine Z6 ?_;refine Z7 ?_;refine Z7 ?_;refine eQ Z9 ?_;clear Z9;rw [hki]
  rcases i with _ | i
  ·refine gQ fun _ Z9=>?_;refine Z8 ?_;refine aj rfl (oD (c := false) rfl) rfl ?_;refine Z8 ?_;refine Z8 ?_;refine Z8 ?_;refine aA rfl (bI LK.dc rfl rfl) rfl ?_;refine aj rfl (oH (c := false) (decide_eq_false (by rw [<- hkl]; omega))) rfl ?_;refine Z3 ?_;refine Z8 ?_;refine Z8 ?_;refine aj rfl (j7 (c := false) rfl) rfl ?_;refine Z8 ?_;refine au rfl ?_;refine au rfl ?_;refine au rfl ?_;refine au rfl ?_;refine au rfl ?_;refine au rfl ?_;refine au rfl ?_;refine Z3 ?_;refine Z3 ?_;refine eQ Z9 ?_;clear Z9;refine al rfl (fun h => by cases h) (fun _ => ?_);refine ae ?_;show AWP _ _ _ _ _ _;refine gR fun _ Z9=>?_;refine aj rfl (aH (c := ((0 + 1 : Nat) : Int)) (by omega) (by omega)) rfl ?_;refine Z8 ?_;refine eQ Z9 ?_;clear Z9;exact ⟨0 + 1, by omega, hg, Wk.mk' ⟨rfl, rfl, rfl, rfl, rfl, rfl, rfl, rfl, trivial⟩ ⟨rfl, rfl, trivial⟩⟩
  ·have hp := hks i (by omega)
   refine gQ fun _ Z9=>?_;refine Z8 ?_;refine aj rfl (oD (c := false) (decide_eq_false (by omega))) rfl ?_;refine Z8 ?_;refine Z8 ?_;refine Z8 ?_;refine aA rfl (bI LK.dc rfl rfl) rfl ?_;refine aj rfl (oH (c := false) (decide_eq_false (by rw [<- hkl]; omega))) rfl ?_;refine Z3 ?_;refine Z8 ?_;refine Z8 ?_;refine aj rfl (j7 (c := true) (decide_eq_true (by omega))) rfl ?_;refine Z8 ?_;refine Z8 ?_;refine Z8 ?_;refine Z8 ?_;refine aj rfl (bD (c := ((i : Nat) : Int)) (by omega) (by omega)) rfl ?_;refine aa rfl (x_m cN rfl rfl rfl rfl (show i < ks.length by omega) rfl) rfl ?_;refine Z6 ?_;refine aj rfl (oE (c := false) (decide_eq_false (by rw [hp]; omega))) rfl ?_;refine Z3 ?_;refine Z3 ?_;refine eQ Z9 ?_;clear Z9;refine al rfl (fun h => by cases h) (fun _ => ?_);refine ae ?_;show AWP _ _ _ _ _ _;refine gR fun _ Z9=>?_;refine aj rfl (aH (c := ((i + 1 + 1 : Nat) : Int)) (by omega) (by omega)) rfl ?_;refine Z8 ?_;refine eQ Z9 ?_;clear Z9;exact ⟨i + 1 + 1, by omega, hg, Wk.mk' ⟨rfl, rfl, rfl, rfl, rfl, rfl, rfl, rfl, trivial⟩ ⟨rfl, rfl, trivial⟩⟩
 refine az ?_;show AWP _ _ _ _ _ _;refine aG tok mixed (A := [[], [], [0], [], [], [0, 1, 3], [0, 1, 3, 4], [], []]) (an := [{}, {}, {}, { c := [51] }, { c := [51] }, {}, {}, { c := [51, 54] }, {}]) rfl (by kernel_rfl) rfl fun _ Z9=>?_;refine Z4 ?_;refine Z6 ?_;refine sX rfl rfl (c1) (Or.inl rfl) rfl rfl rfl rfl ?_;refine Z4 ?_;refine Z6 ?_;refine sX rfl rfl (c2) (Or.inl rfl) rfl rfl rfl rfl ?_;refine aI rfl rfl rfl ?_;refine ar rfl rfl rfl rfl rfl rfl ?_;refine eL rfl rfl rfl rfl rfl ?_;refine eQ Z9 ?_;clear Z9
 have zl0 : (g.links.map LK.dc).length = g.links.length := List.length_map _
 refine ac ?_;refine gQ fun _ Z9=>?_;refine Z8 ?_;refine aA rfl (bI cN rfl rfl) rfl ?_;refine Z8 ?_;refine eQ Z9 ?_;clear Z9;refine ai (aN (α := Nat) (fun i => mk 107 [(1, V1 (dLs ls)), (3, .ptr 3 0), (6, .ptr 6 0), (10, .ptr 10 0), (56, V1 (dNs ks)), (57, dI ks.length), (58, dI i)] [(3, some (.box g.cs)), (6, some (.box [.nil, .nil])), (10, some (.box [.own 51 4 0 g.nodes.length, .own 200 5 0 (g.links.length + i)])), (51, some (.arr 4 (g.nodes.map RW.dc))), (200, some (.arr 5 ((g.links ++ ls.take i).map LK.dc)))] [10]) (fun i => i <= ks.length) (fun i => ks.length - i) 0 ?_ (Nat.zero_le _) ?_)
 ·refine Wk.rnB [1, 3, 6, 10, 56, 57, 58] [3, 6, 10, 51, 54] 54 200 rfl rfl rfl ⟨rfl, rfl, rfl, rfl, rfl, rfl, rfl, trivial⟩ ⟨rfl, rfl, rfl, rfl, ?_, trivial⟩ rfl;rw [List.take_zero, List.append_nil]; rfl
 intro i hi
 refine gQ fun _ Z9=>?_;refine Z5 ?_;refine eQ Z9 ?_;clear Z9;refine ac ?_;refine al rfl (fun hg => ?_) (fun hg => ?_)
 ·have hg : i < ks.length := by simp at hg; omega
  have hgl : i < ls.length := by omega
  have hki := hks i hg
  have cF := gO (rz g ls[i])
  have hfi : bQ (rz g ls[i]) = true := hf _ (List.getElem_mem hgl)
  rw [hfi] at cF
  have n1' : (g.links ++ ls.take i).map LK.dc ++ [ls[i].dc] = (g.links ++ ls.take (i + 1)).map LK.dc := by
   rw [List.take_succ_eq_append_getElem hgl, <- List.append_assoc, List.map_append (l₁ := g.links ++ ls.take i)]; rfl
  have z1 : ((g.links ++ ls.take i).map LK.dc).length = g.links.length + i := by simp; omega
  have cA := yw g ls[i]
  generalize (g.links ++ ls.take i).map LK.dc = es at n1' z1 ⊢;refine ae ?_;show AWP _ _ _ _ _ _;refine ac ?_;refine ai ?_;refine gQ fun _ Z9=>?_;refine aa rfl (x_m cN rfl rfl rfl rfl hg rfl) rfl ?_;refine Z6 ?_;refine Z7 ?_;refine eQ Z9 ?_;clear Z9;rw [hki];refine ac ?_;refine aG tok mixed (A := [[], [], [], [], [1, 2], [1, 2, 3], [0, 1, 2, 3, 4], [0, 1, 2, 3, 4, 5]]) (an := [{}, {}, {}, {}, {}, {}, {}, {}]) rfl (by kernel_rfl) rfl fun _ Z9=>?_;refine Z6 ?_;refine Z8 ?_;refine Z8 ?_;refine aa rfl (x_m LK.dc rfl rfl rfl rfl hgl rfl) rfl ?_;refine Z6 ?_;refine ab rfl rfl (cA) rfl rfl rfl rfl ?_;refine ab rfl rfl (cF) rfl rfl rfl rfl ?_;refine dJ rfl rfl rfl ?_;refine eQ Z9 ?_;clear Z9;refine al rfl (fun h => by cases h) (fun _ => ?_);refine ae ?_;show AWP _ _ _ _ _ _;refine bg tok mixed (A := [[], [], [], [], [], [2, 3], [2, 3, 4], [0, 2, 3, 4, 5], [], []]) (an := [{}, {}, {}, {}, {}, {}, {}, {}, {}, {}]) rfl (by kernel_rfl) rfl fun _ Z9=>?_;refine Z4 ?_;refine Z6 ?_;refine Z8 ?_;refine Z8 ?_;refine aa rfl (x_m LK.dc rfl rfl rfl rfl hgl rfl) rfl ?_;refine Z6 ?_;refine av rfl rfl rfl rfl ?_;refine aO rfl (gT rfl rfl rfl rfl rfl rfl (by decide) (Nat.le_of_ble_eq_true rfl) rfl (by simp) rfl rfl z1.symm (by simp <;> omega)) rfl rfl rfl ?_;refine Z4 ?_;refine eL rfl rfl rfl rfl rfl ?_;refine eQ Z9 ?_;clear Z9;show AWP _ _ _ _ _ _;refine gR fun _ Z9=>?_;refine aj rfl (aH (c := ((i + 1 : Nat) : Int)) (by omega) (by omega)) rfl ?_;refine Z8 ?_;refine eQ Z9 ?_;clear Z9;refine ⟨i + 1, by omega, hg, Wk.rnB [1, 3, 6, 10, 56, 57, 58] [3, 6, 10, 51, 78] 78 200 rfl rfl rfl ⟨rfl, rfl, rfl, rfl, rfl, rfl, rfl, trivial⟩ ⟨rfl, rfl, ?_, rfl, ?_, trivial⟩ rfl⟩
  ·show some (OO.box [_, .own 200 5 0 _]) = _
   rw [List.length_append, z1]; rfl
  ·rw [<- n1']; rfl
 have hg : i = ks.length := by simp at hg; omega
 subst hg
 rw [hkl, List.take_length]
 have zL : ((g.links ++ ls).map LK.dc).length = g.links.length + ls.length := by simp
 generalize hEL : g.links ++ ls = EL at *;refine az ?_;show AWP _ _ _ _ _ _;refine ac ?_;refine gQ fun _ Z9=>?_;refine Z4 ?_;refine Z6 ?_;refine aA rfl rfl rfl ?_;refine aj rfl (j7 (c := false) (decide_eq_false (by omega))) rfl ?_;refine eQ Z9 ?_;clear Z9;refine al rfl (fun h => by cases h) (fun _ => ?_);refine ae ?_;show AWP _ _ _ _ _ _;refine ac ?_;refine gQ fun _ Z9=>?_;refine Z4 ?_;refine Z6 ?_;refine aA rfl rfl rfl ?_;refine Z8 ?_;refine eQ Z9 ?_;clear Z9;refine ai (aN (α := Nat) (fun i => mk 107 [(6, .ptr 6 0), (10, .ptr 10 0), (87, .val (.one (.own 51 4 0 g.nodes.length))), (88, dI g.nodes.length), (89, dI i)] [(6, some (.box [.nil, .nil])), (10, some (.box [.own 51 4 0 g.nodes.length, .own 200 5 0 (g.links.length + ls.length)])), (51, some (.arr 4 (g.nodes.map RW.dc))), (200, some (.arr 5 (EL.map LK.dc)))] [10]) (fun i => i <= g.nodes.length) (fun i => g.nodes.length - i) 0 ?_ (Nat.zero_le _) ?_)
 ·exact Wk.mk' ⟨rfl, rfl, rfl, rfl, rfl, trivial⟩ ⟨rfl, rfl, rfl, rfl, trivial⟩
 intro i hi
 refine gQ fun _ Z9=>?_;refine Z5 ?_;refine eQ Z9 ?_;clear Z9;refine ac ?_;refine al rfl (fun hq => ?_) (fun hq => ?_)
 ·have hq : i < g.nodes.length := by simp at hq; omega
  have ge : (g.nodes.map RW.dc)[i]? = some (g.nodes[i]).dc := by rw [List.getElem?_map, List.getElem?_eq_getElem hq]; rfl
  have or := ok _ (List.getElem_mem hq)
  have k1 := vJ g.nodes[i].np g.nodes[i].wp (Nat.le_trans or.lp (by decide))
  have k2 := vJ g.nodes[i].nq g.nodes[i].wq (Nat.le_trans or.lq (by decide))
  have hel : ∀ el ∈ g.nodes.map RW.dc, el.length = 4 := fun el h => by obtain ⟨_, _, rfl⟩ := List.mem_map.1 h; rfl
  have hset : (g.nodes.map RW.dc).set i (g.nodes[i]).dc = g.nodes.map RW.dc := by
   have : (g.nodes[i]).dc = (g.nodes.map RW.dc)[i]'(by simpa using hq) := by simp
   rw [this, List.set_getElem_self]
  have hlm : i < (g.nodes.map RW.dc).length := by simpa using hq
  generalize g.nodes.map RW.dc = NS at *;generalize g.nodes[i] = r at *;refine ae ?_;show AWP _ _ _ _ _ _;refine ac ?_;refine ai ?_;refine gQ fun _ Z9=>?_;refine Z8 ?_;refine aa rfl (x_o (i := i) (j := i) rfl rfl rfl rfl rfl hq (Nat.zero_add _)) rfl ?_;refine aT rfl (l_o rfl rfl ge rfl rfl) rfl ?_;refine ar rfl rfl rfl rfl rfl rfl ?_;refine Z7 ?_;refine ah rfl rfl rfl rfl rfl ?_;refine eQ Z9 ?_;clear Z9;refine bg tok mixed (A := [[], [], [], [], [], [3], [], [], [3, 4, 6], [3, 4, 6, 7], [], []]) (an := [{}, {}, {}, {}, {}, {}, { c := [99] }, { c := [99] }, {}, {}, {}, {}]) rfl (by kernel_rfl) rfl fun _ Z9=>?_;refine Z4 ?_;refine Z6 ?_;refine Z8 ?_;refine Z4 ?_;refine Z6 ?_;refine ab rfl rfl (k1) rfl rfl rfl rfl ?_;refine Z4 ?_;refine Z6 ?_;refine ab rfl rfl (k2) rfl rfl rfl rfl ?_;refine aI rfl rfl rfl ?_;refine aa rfl (x_o (i := i) (j := i) rfl rfl rfl rfl rfl hq (Nat.zero_add _)) rfl ?_;refine ah rfl (Hb (r := r) rfl rfl rfl hlm hel) rfl rfl rfl ?_;refine eQ Z9 ?_;clear Z9;rw [hset];show AWP _ _ _ _ _ _;refine gR fun _ Z9=>?_;refine aj rfl (aH (c := ((i + 1 : Nat) : Int)) (by omega) (by omega)) rfl ?_;refine Z8 ?_;refine eQ Z9 ?_;clear Z9;exact ⟨i + 1, by omega, hq, Wk.mk' ⟨rfl, rfl, rfl, rfl, rfl, trivial⟩ ⟨rfl, rfl, rfl, rfl, trivial⟩⟩
 refine az ?_;show AWP _ _ _ _ _ _;refine de [6, 10] [6, 10, 51, 200] 51 [(6, .ptr 6 0), (10, .ptr 10 0)] [(6, some (.box [.nil, .nil])), (10, some (.box [.d (dRs g.nodes), .own 200 5 0 (g.links.length + ls.length)])), (200, some (.arr 5 (EL.map LK.dc)))] rfl ⟨rfl, rfl, trivial⟩ ⟨rfl, (by show some (OO.box [iF 51 4 _ (.own 51 4 0 _), iF 51 4 _ (.own 200 5 0 _)]) = _; rw [ku rfl (by simp)]; rfl), rfl, trivial⟩ ?_;refine de [6, 10] [6, 10, 200] 200 [(6, .ptr 6 0), (10, .ptr 10 0)] [(6, some (.box [.nil, .nil])), (10, some (.box (GR.mk g.nodes EL).cs))] rfl ⟨rfl, rfl, trivial⟩ ⟨rfl, (by show some (OO.box [.d _, iF 200 5 _ (.own 200 5 0 _)]) = _; rw [ku rfl zL.symm]; rfl), trivial⟩ ?_;refine gQ fun _ Z9=>?_;refine Z6 ?_;refine ah rfl rfl rfl rfl rfl ?_;refine Z7 ?_;refine eQ Z9 ?_;clear Z9;exact ag aM
end Go.Proofs.YtnoildlijhapaaaGreatDoor

/- WholeClosures, plainly; ref30.Spots. No condition. -/
namespace Go.Proofs.YtnoildlijhapaaaGreatDoor
attribute [local irreducible] aD
open Go.RowKit

theorem yJ (m : Nat) : ∀ i, tE m i <= 9 * (m : Int) /\ tE m i <= 9 * (i : Int)
 | 0 => ⟨by simp [tE]; omega, by simp [tE]⟩
 | i + 1 => by
  have := yJ m i
  simp only [tE]
  split <;> omega
def dC (P : Nat -> PT) (ts : List Nat) (n : Nat) (pr : List PT) (k : Nat) : List LK := (List.range k).map fun i => exK P ts (prB n (pr.getD i ⟨0, 0⟩)).1 (prB n (pr.getD i ⟨0, 0⟩)).2 (1 + (i : Int))
theorem ju (P : Nat -> PT) (ts : List Nat) (n : Nat) (pr : List PT) (k : Nat) : (dC P ts n pr k).length = k := by simp [dC]
theorem zn (P : Nat -> PT) (ts : List Nat) (n : Nat) {pr : List PT} {k : Nat} (hk : k < pr.length) : (dC P ts n pr k).map LK.dc ++ [(exK P ts (prB n pr[k]).1 (prB n pr[k]).2 (1 + (k : Int))).dc] = (dC P ts n pr (k + 1)).map LK.dc := by
 have e : pr.getD k ⟨0, 0⟩ = pr[k] := by rw [List.getD_eq_getElem?_getD, List.getElem?_eq_getElem hk]; rfl
 unfold dC
 rw [List.range_succ, List.map_append, List.map_append, <- e]; rfl
section
variable {P : Nat -> PT} {ts : List Nat} {n m q : Nat} {pr : List PT} {ex ey : Nat -> Int}
theorem Eb (h : 2 <= n) (hq : q <= 1000) : ExL P ts n (dC P ts n pr q) := fun l hl => by
 obtain ⟨i, hi, rfl⟩ := List.mem_map.1 hl
 have hi := List.mem_range.1 hi
 obtain ⟨h1, h2, h3⟩ := Ba h (pr.getD i ⟨0, 0⟩)
 exact ⟨_, _, _, rfl, h1, h2, h3, by omega, by omega⟩
theorem Ed (hP : ∀ i, (-500 <= (P i).x /\ (P i).x <= 500) /\ (-500 <= (P i).y /\ (P i).y <= 500)) (hm : m <= 5)
  (hx : ∀ i, (i < m -> -9 <= ex i /\ ex i <= 9) /\ (m <= i -> ex i = 0)) (hy : ∀ i, (i < m -> -9 <= ey i /\ ey i <= 9) /\ (m <= i -> ey i = 0)) : BdP (iG P ex ey) := fun i => by
 have a := rN hx (Nat.zero_le i) (Nat.le_refl i)
 have b := rN hy (Nat.zero_le i) (Nat.le_refl i)
 have t := (yJ m i).1
 have p := hP i
 simp only [sE] at a b
 show (-1000 <= (P i).x + sE ex i /\ (P i).x + sE ex i <= 1000) /\ (-1000 <= (P i).y + sE ey i /\ (P i).y + sE ey i <= 1000)
 omega
theorem Cw (hP : ∀ i, (-500 <= (P i).x /\ (P i).x <= 500) /\ (-500 <= (P i).y /\ (P i).y <= 500)) (hm : m <= 5)
  (hx : ∀ i, (i < m -> -9 <= ex i /\ ex i <= 9) /\ (m <= i -> ex i = 0)) (hy : ∀ i, (i < m -> -9 <= ey i /\ ey i <= 9) /\ (m <= i -> ey i = 0))
  (h2 : 2 <= n) (h5 : n <= 5) (hn : n <= ts.length) (hq : q <= 5) :
  (bQ (exG ts n (ch1 (iG P ex ey) ts (n - 1))) = true /\ alP (exG ts n (ch1 (iG P ex ey) ts (n - 1))) = true) /\
  yN (exG ts n (ch1 (iG P ex ey) ts (n - 1))) (rkL (exG ts n (ch1 (iG P ex ey) ts (n - 1)))) (dC P ts n pr q) (tE m (n - 1)) = (List.range q, 0) /\
  (∀ l ∈ dC P ts n pr q, jS (exG ts n (ch1 (iG P ex ey) ts (n - 1))) l = true) /\
  GV (exG ts n (ch1 (iG P ex ey) ts (n - 1) ++ dC P ts n pr q)) /\ cnB (exG ts n (ch1 (iG P ex ey) ts (n - 1) ++ dC P ts n pr q)) = true := by
 have hb := Ed hP hm hx hy
 have hb0 : BdP P := fun i => by have := hP i; omega
 have hxE : ExL (iG P ex ey) ts n (ch1 (iG P ex ey) ts (n - 1)) := GH (by omega)
 have hl1 := yj hb hxE
 have gv : GV (exG ts n (ch1 (iG P ex ey) ts (n - 1))) := B4 (by omega) (by omega) hn (by rw [m8]; omega) hl1
 have hch : ∀ v, v + 1 < n -> ∃ l ∈ ch1 (iG P ex ey) ts (n - 1), l.f = (v : Int) /\ l.t = ((v + 1 : Nat) : Int) := fun v hv => ⟨exK (iG P ex ey) ts v (v + 1) 1, List.mem_map.2 ⟨v, List.mem_range.2 (by omega), rfl⟩, rfl, rfl⟩
 have cn := vO (by omega) hn gv hch
 have e := mR (ls := ch1 (iG P ex ey) ts (n - 1)) hn
 have hc : eJ (exG ts n (ch1 (iG P ex ey) ts (n - 1))) (rkL (exG ts n (ch1 (iG P ex ey) ts (n - 1)))) = true := im.2 ⟨gv, lL _⟩
 have hxC := Eb (P := P) (ts := ts) (pr := pr) h2 (show q <= 1000 by omega)
 have hl2 := yj hb0 hxC
 have hf : ∀ l ∈ dC P ts n pr q, jS (exG ts n (ch1 (iG P ex ey) ts (n - 1))) l = true := fun l hl => by
  rw [qE gv, e]; exact hl2 l hl
 have hT := nW m (n - 1)
 have ht : j9 (tE m (n - 1)) = true := decide_eq_true ⟨hT.1, by omega⟩
 have hlq := ju P ts n pr q
 have gvA : GV (exG ts n (ch1 (iG P ex ey) ts (n - 1) ++ dC P ts n pr q)) := B4 (by omega) (by omega) hn (by rw [List.length_append, m8, hlq]; omega) fun l hl => by
  rcases List.mem_append.1 hl with h | h
  ·exact hl1 l h
  ·exact hl2 l h
 refine ⟨⟨ci.2 gv, by rw [CN gv]; exact cn⟩, ?_, hf, gvA, vO (by omega) hn gvA fun v hv => ?_⟩
 ·rw [FC ht (by rw [hlq]; omega) hc (List.all_eq_true.2 hf), DN ((Cx (List.Sublist.refl _)).2 (A6 fun a b ha hb => ?_)), hlq]
  have go : ∀ i (h : i < (dC P ts n pr q).length), ∃ u v, u < n /\ v < n /\ (eV (exG ts n (ch1 (iG P ex ey) ts (n - 1))) (rkL (exG ts n (ch1 (iG P ex ey) ts (n - 1)))) (dC P ts n pr q)).getD i sp0 = szW (((sE ex v - sE ex u : Int)) : Rat) (((sE ey v - sE ey u : Int)) : Rat) := fun i h => by
   obtain ⟨u, v, w, he, hu, hv, _⟩ := hxC _ (List.getElem_mem h)
   refine ⟨u, v, hu, hv, ?_⟩;rw [DI h, he, Ec (by omega) hn gv hxE cn hu hv]
  obtain ⟨u, v, hu, hv, e1⟩ := go a ha
  obtain ⟨u', v', hu', hv', e2⟩ := go b hb
  unfold nrP
  rw [e1, e2];exact B5 hx hy (by omega) (by omega) (by omega) (by omega) (by omega)
 ·obtain ⟨l, hl, h⟩ := hch v hv
  exact ⟨l, List.mem_append_left _ hl, h⟩
end
theorem AQ (l : List PT) (hI : ∀ p ∈ l, p.I) (h0 : 0 < l.length) (hl : l.length <= 1048576) : Con Tryz.prog 51 [V1 (dPs l)] { v := V1 (dSs (l.map fun p => szW (p.x : Rat) (p.y : Rat))) } := by
 refine Z2 Tryz.func51 ?_
 intro w0 X
 rw [ak _ _ [(0, V1 (dPs l))] rfl rfl];refine gQ fun _ Z9=>?_;refine Z7 ?_;refine eQ Z9 ?_;clear Z9;refine gQ fun _ Z9=>?_;refine Z7 ?_;refine eQ Z9 ?_;clear Z9;refine ac ?_;refine gQ fun _ Z9=>?_;refine Z7 ?_;refine eQ Z9 ?_;clear Z9;refine ai (aN (α := Nat) (fun i => mk 28 [(0, V1 (dPs l)), (3, b6 200 8 i), (4, dI i)] [(200, bW 8 (((l.take i).map fun p => szW (p.x : Rat) (p.y : Rat)).map SP.dc) i)] []) (fun i => i <= l.length) (fun i => l.length - i) 0 ?_ (Nat.zero_le _) ?_)
 ·exact Wk.mk' ⟨rfl, rfl, rfl, trivial⟩ ⟨rfl, trivial⟩
 intro i hi
 refine ac ?_;refine gQ fun _ Z9=>?_;refine Z8 ?_;refine Z8 ?_;refine aA rfl (bI PT.dc rfl rfl) rfl ?_;refine Z5 ?_;refine eQ Z9 ?_;clear Z9;refine al rfl (fun hg => ?_) (fun hg => ?_)
 ·have hg : i < l.length := by simp at hg; omega
  have hp := hI _ (List.getElem_mem hg)
  have c1 := xG l[i].x hp.1
  have c2 := xG l[i].y hp.2
  have n1 : ((l.take i).map fun p => szW (p.x : Rat) (p.y : Rat)).map SP.dc ++ [(SP.mk (qzW (l[i].x : Rat)) (qzW (l[i].y : Rat))).dc] = ((l.take (i + 1)).map fun p => szW (p.x : Rat) (p.y : Rat)).map SP.dc := by
   rw [List.take_succ_eq_append_getElem hg, List.map_append, List.map_append]; rfl
  have z1 : (((l.take i).map fun p => szW (p.x : Rat) (p.y : Rat)).map SP.dc).length = i := by simp; omega
  generalize ((l.take i).map fun p => szW (p.x : Rat) (p.y : Rat)).map SP.dc = es at n1 z1 ⊢;generalize qzW (l[i].x : Rat) = u at c1 n1;generalize qzW (l[i].y : Rat) = v at c2 n1;refine ae ?_;show AWP _ _ _ _ _ _;refine ac ?_;refine ai ?_
  rcases i with _ | i
  ·refine bg tok mixed (A := [[], [], [], [], [1, 2], [1, 2, 3], [1, 2, 3, 4], [], [], [], [7, 8], [7, 8, 9], [1, 2, 3, 4, 5, 7, 8, 9, 10], [1, 2, 3, 4, 5, 7, 8, 9, 10, 11], [1, 2, 3, 4, 5, 6, 7, 8, 9, 10, 11, 12], [1, 2, 3, 4, 5, 6, 7, 8, 9, 10, 11, 13], []]) (an := [{}, {}, {}, {}, {}, {}, {}, { c := [17] }, { c := [17] }, { c := [17] }, { c := [17] }, { c := [17] }, {}, {}, {}, {}, {}]) rfl (by kernel_rfl) rfl fun _ Z9=>?_;refine Z8 ?_;refine Z8 ?_;refine Z8 ?_;refine aa rfl (x_m PT.dc rfl rfl rfl rfl hg rfl) rfl ?_;refine Z4 ?_;refine Z6 ?_;refine ab rfl rfl (c1) rfl rfl rfl rfl ?_;refine Z8 ?_;refine Z8 ?_;refine aa rfl (x_m PT.dc rfl rfl rfl rfl hg rfl) rfl ?_;refine Z4 ?_;refine Z6 ?_;refine ab rfl rfl (c2) rfl rfl rfl rfl ?_;refine aI rfl rfl rfl ?_;refine av rfl rfl rfl rfl ?_;refine aO rfl (dV rfl rfl rfl rfl rfl (by decide) (Nat.le_of_ble_eq_true rfl) rfl (by simp) rfl (by simp) (by simp)) rfl rfl rfl ?_;refine Z7 ?_;refine eQ Z9 ?_;clear Z9;show AWP _ _ _ _ _ _;refine gR fun _ Z9=>?_;refine Z8 ?_;refine aj rfl (aH (c := ((0 + 1 : Nat) : Int)) (by omega) (by omega)) rfl ?_;refine Z7 ?_;refine eQ Z9 ?_;clear Z9;refine ⟨0 + 1, by omega, hg, Wk.rn [0, 3, 4] [26] 26 200 rfl rfl rfl ⟨rfl, ?_, rfl, trivial⟩ ⟨?_, trivial⟩⟩
   ·first
     | rfl
     | (show SV.val (.one (.own 200 8 0 _)) = _
        rw [List.length_append, z1]; rfl)
   ·first
     | (rw [<- n1, List.length_eq_zero_iff.1 z1]; rfl)
     | (rw [<- n1]; rfl)
  ·refine bg tok mixed (A := [[], [], [], [], [1, 2], [1, 2, 3], [1, 2, 3, 4], [], [], [], [7, 8], [7, 8, 9], [1, 2, 3, 4, 5, 7, 8, 9, 10], [1, 2, 3, 4, 5, 7, 8, 9, 10, 11], [1, 2, 3, 4, 5, 6, 7, 8, 9, 10, 11, 12], [1, 2, 3, 4, 5, 6, 7, 8, 9, 10, 11, 13], []]) (an := [{}, {}, {}, {}, {}, {}, {}, { c := [17] }, { c := [17] }, { c := [17] }, { c := [17] }, { c := [17] }, {}, {}, {}, {}, {}]) rfl (by kernel_rfl) rfl fun _ Z9=>?_;refine Z8 ?_;refine Z8 ?_;refine Z8 ?_;refine aa rfl (x_m PT.dc rfl rfl rfl rfl hg rfl) rfl ?_;refine Z4 ?_;refine Z6 ?_;refine ab rfl rfl (c1) rfl rfl rfl rfl ?_;refine Z8 ?_;refine Z8 ?_;refine aa rfl (x_m PT.dc rfl rfl rfl rfl hg rfl) rfl ?_;refine Z4 ?_;refine Z6 ?_;refine ab rfl rfl (c2) rfl rfl rfl rfl ?_;refine aI rfl rfl rfl ?_;refine av rfl rfl rfl rfl ?_;refine aO rfl (gT rfl rfl rfl rfl rfl rfl (by decide) (Nat.le_of_ble_eq_true rfl) rfl (by simp) rfl rfl z1.symm (by simp <;> omega)) rfl rfl rfl ?_;refine Z7 ?_;refine eQ Z9 ?_;clear Z9;show AWP _ _ _ _ _ _;refine gR fun _ Z9=>?_;refine Z8 ?_;refine aj rfl (aH (c := ((i + 1 + 1 : Nat) : Int)) (by omega) (by omega)) rfl ?_;refine Z7 ?_;refine eQ Z9 ?_;clear Z9;refine ⟨i + 1 + 1, by omega, hg, Wk.rn [0, 3, 4] [26] 26 200 rfl rfl rfl ⟨rfl, ?_, rfl, trivial⟩ ⟨?_, trivial⟩⟩
   ·first
     | rfl
     | (show SV.val (.one (.own 200 8 0 _)) = _
        rw [List.length_append, z1]; rfl)
   ·first
     | (rw [<- n1, List.length_eq_zero_iff.1 z1]; rfl)
     | (rw [<- n1]; rfl)
 have hg : i = l.length := by simp at hg; omega
 subst hg
 rw [List.take_length]
 obtain ⟨n, hn⟩ : ∃ n, l.length = n + 1 := ⟨l.length - 1, by omega⟩
 rw [hn];refine az ?_;show AWP _ _ _ _ _ _;refine de [3] [200] 200 [(3, V1 (dSs (l.map fun p => szW (p.x : Rat) (p.y : Rat))))] [] rfl ?_ trivial ?_
 ·exact ⟨bw rfl (by simp [hn]), trivial⟩
 refine gQ fun _ Z9=>?_;refine Z8 ?_;refine Z7 ?_;refine eQ Z9 ?_;clear Z9;exact ag aM
end Go.Proofs.YtnoildlijhapaaaGreatDoor

/- WholeClosures, the walk. No condition. -/
namespace Go.Proofs.YtnoildlijhapaaaGreatDoor
attribute [local irreducible] aD
open Go.RowKit

def ptC (p : PL) : PT := ⟨clp p.at'.x (-500) 500, clp p.at'.y (-500) 500⟩
def erC (er : List PT) (i : Nat) : PT := if i < er.length then ⟨clp (er.getD i ⟨0, 0⟩).x (-9) 9, clp (er.getD i ⟨0, 0⟩).y (-9) 9⟩ else ⟨0, 0⟩
set_option maxHeartbeats 8000000 in
theorem D1 (pl : List PL) (er pr : List PT) (hpl : ∀ p ∈ pl, p.I) (hpr : ∀ p ∈ pr, p.I) : Con Tryz.prog 13 [V1 (dPl pl), V1 (dPs er), V1 (dPs pr)] { v := dB true } := by
 obtain ⟨n, hn⟩ : ∃ n, n = pl.length := ⟨_, rfl⟩
 refine Z2 Tryz.func13 ?_
 intro w0 X
 rw [ak _ _ [(0, V1 (dPl pl)), (1, V1 (dPs er)), (2, V1 (dPs pr))] rfl rfl];refine gQ fun _ Z9=>?_;refine Z7 ?_;refine eQ Z9 ?_;clear Z9;refine gQ fun _ Z9=>?_;refine Z8 ?_;refine aA rfl (bI PL.dc rfl rfl) rfl ?_;refine Z7 ?_;refine eQ Z9 ?_;clear Z9;rw [<- hn];refine ac ?_;refine bb (α := Bool) (fun c => mk 314 [(0, V1 (dPl pl)), (1, V1 (dPs er)), (2, V1 (dPs pr)), (7, dI n), (58, dB c)] [] []) (fun c => c = !decide (2 <= n /\ n <= 5 /\ er.length <= 5 /\ pr.length <= 5)) ?_ ?_
 ·refine gf fun _ Z9=>?_;refine ap tok rfl ?_;refine ab rfl rfl (rh) rfl rfl rfl rfl ?_;refine aq ?_;refine ap tok rfl ?_;refine dJ rfl rfl rfl ?_;refine aq ?_;refine ap tok rfl ?_;refine Z8 ?_;refine aq ?_;refine dw (fun h0 => ?_) (fun h0 => ?_)
  ·refine aC rfl rfl ?_;refine aC rfl rfl ?_;refine ap tok rfl ?_;refine Z3 ?_;refine aq ?_;refine ap tok rfl ?_;refine Z8 ?_;refine aq ?_;refine aC rfl rfl ?_;refine aC rfl rfl ?_;refine ap tok rfl ?_;refine Z3 ?_;refine aq ?_;refine ap tok rfl ?_;refine Z8 ?_;refine aq ?_;refine aC rfl rfl ?_;refine aC rfl rfl ?_;refine aC rfl rfl ?_;refine ap tok rfl ?_;refine Z3 ?_;refine aq ?_;refine ap tok rfl ?_;refine Z8 ?_;refine aq ?_;refine aC rfl rfl ?_;refine aC rfl rfl ?_;refine aC rfl rfl ?_;refine ap tok rfl ?_;refine Z3 ?_;refine aq ?_;refine cp rfl (Z9 _ ?_); clear Z9
   first|(exact absurd h0 (by decide))|exact ⟨_, (by simp only [decide_eq_true_eq, decide_eq_false_iff_not] at h0; rw [Bool.eq_iff_iff]; simp only [decide_eq_true_eq, Bool.not_eq_true', decide_eq_false_iff_not, reduceCtorEq, false_iff, true_iff]; omega), Wk.mk' ⟨rfl, rfl, rfl, rfl, rfl, trivial⟩ trivial⟩
  ·refine ap tok rfl ?_;refine Z8 ?_;refine aq ?_;refine ap tok rfl ?_;refine aj rfl (HD (c := decide (n < 2)) (by rw [Bool.eq_iff_iff, decide_eq_true_eq, decide_eq_true_eq]; omega)) rfl ?_;refine aq ?_;refine ap tok rfl ?_;refine Z3 ?_;refine aq ?_;refine ap tok rfl ?_;refine Z8 ?_;refine aq ?_;refine dw (fun h1 => ?_) (fun h1 => ?_)
   ·refine aC rfl rfl ?_;refine aC rfl rfl ?_;refine ap tok rfl ?_;refine Z3 ?_;refine aq ?_;refine ap tok rfl ?_;refine Z8 ?_;refine aq ?_;refine aC rfl rfl ?_;refine aC rfl rfl ?_;refine aC rfl rfl ?_;refine ap tok rfl ?_;refine Z3 ?_;refine aq ?_;refine ap tok rfl ?_;refine Z8 ?_;refine aq ?_;refine aC rfl rfl ?_;refine aC rfl rfl ?_;refine aC rfl rfl ?_;refine ap tok rfl ?_;refine Z3 ?_;refine aq ?_;refine cp rfl (Z9 _ ?_); clear Z9
    first|(exact absurd h0 (by decide))|exact ⟨_, (by simp only [decide_eq_true_eq, decide_eq_false_iff_not] at h0 h1; rw [Bool.eq_iff_iff]; simp only [decide_eq_true_eq, Bool.not_eq_true', decide_eq_false_iff_not, reduceCtorEq, false_iff, true_iff]; omega), Wk.mk' ⟨rfl, rfl, rfl, rfl, rfl, trivial⟩ trivial⟩
   ·refine ap tok rfl ?_;refine Z8 ?_;refine aq ?_;refine ap tok rfl ?_;refine aj rfl (Ce _ 5) rfl ?_;refine aq ?_;refine ap tok rfl ?_;refine Z3 ?_;refine aq ?_;refine ap tok rfl ?_;refine Z8 ?_;refine aq ?_;refine dw (fun h2 => ?_) (fun h2 => ?_)
    ·refine aC rfl rfl ?_;refine aC rfl rfl ?_;refine aC rfl rfl ?_;refine ap tok rfl ?_;refine Z3 ?_;refine aq ?_;refine ap tok rfl ?_;refine Z8 ?_;refine aq ?_;refine aC rfl rfl ?_;refine aC rfl rfl ?_;refine aC rfl rfl ?_;refine ap tok rfl ?_;refine Z3 ?_;refine aq ?_;refine cp rfl (Z9 _ ?_); clear Z9
     first|(exact absurd h0 (by decide))|exact ⟨_, (by simp only [decide_eq_true_eq, decide_eq_false_iff_not] at h0 h1 h2; rw [Bool.eq_iff_iff]; simp only [decide_eq_true_eq, Bool.not_eq_true', decide_eq_false_iff_not, reduceCtorEq, false_iff, true_iff]; omega), Wk.mk' ⟨rfl, rfl, rfl, rfl, rfl, trivial⟩ trivial⟩
    ·refine ap tok rfl ?_;refine Z8 ?_;refine aq ?_;refine ap tok rfl ?_;refine aA rfl (bI PT.dc rfl rfl) rfl ?_;refine aq ?_;refine ap tok rfl ?_;refine aj rfl (Ce _ 5) rfl ?_;refine aq ?_;refine ap tok rfl ?_;refine Z3 ?_;refine aq ?_;refine ap tok rfl ?_;refine Z8 ?_;refine aq ?_;refine dw (fun h3 => ?_) (fun h3 => ?_)
     ·refine aC rfl rfl ?_;refine aC rfl rfl ?_;refine aC rfl rfl ?_;refine ap tok rfl ?_;refine Z3 ?_;refine aq ?_;refine cp rfl (Z9 _ ?_); clear Z9
      first|(exact absurd h0 (by decide))|exact ⟨_, (by simp only [decide_eq_true_eq, decide_eq_false_iff_not] at h0 h1 h2 h3; rw [Bool.eq_iff_iff]; simp only [decide_eq_true_eq, Bool.not_eq_true', decide_eq_false_iff_not, reduceCtorEq, false_iff, true_iff]; omega), Wk.mk' ⟨rfl, rfl, rfl, rfl, rfl, trivial⟩ trivial⟩
     ·refine ap tok rfl ?_;refine Z8 ?_;refine aq ?_;refine ap tok rfl ?_;refine aA rfl (bI PT.dc rfl rfl) rfl ?_;refine aq ?_;refine ap tok rfl ?_;refine aj rfl (Ce _ 5) rfl ?_;refine aq ?_;refine ap tok rfl ?_;refine Z3 ?_;refine aq ?_;refine cp rfl (Z9 _ ?_); clear Z9
      first|(exact absurd h0 (by decide))|exact ⟨_, (by simp only [decide_eq_true_eq, decide_eq_false_iff_not] at h0 h1 h2 h3; rw [Bool.eq_iff_iff]; simp only [decide_eq_true_eq, Bool.not_eq_true', decide_eq_false_iff_not, reduceCtorEq, false_iff, true_iff]; omega), Wk.mk' ⟨rfl, rfl, rfl, rfl, rfl, trivial⟩ trivial⟩
 rintro c rfl
 refine al rfl (fun hd => ?_) (fun hd => ?_)
 ·refine gQ fun _ Z9=>?_;refine ab rfl rfl (rh) rfl rfl rfl rfl ?_;refine Z7 ?_;refine eQ Z9 ?_;clear Z9;exact ag aM
 rw [Bool.not_eq_false'] at hd
 obtain ⟨h2, h5, he5, hp5⟩ := of_decide_eq_true hd
 refine ae ?_;show AWP _ _ _ _ _ _;refine gQ fun _ Z9=>?_;refine Z7 ?_;refine eQ Z9 ?_;clear Z9;refine gQ fun _ Z9=>?_;refine Z7 ?_;refine eQ Z9 ?_;clear Z9;refine ac ?_;refine gQ fun _ Z9=>?_;refine Z7 ?_;refine eQ Z9 ?_;clear Z9;refine ai (aN (α := Nat) (fun i => mk 314 [(0, V1 (dPl pl)), (1, V1 (dPs er)), (2, V1 (dPs pr)), (7, dI n), (8, b6 200 1 i), (9, b6 201 2 i), (10, dI i)] [(200, bW 1 (((pl.take i).map PL.tn).map b8) i), (201, bW 2 (((pl.take i).map ptC).map PT.dc) i)] []) (fun i => i <= n) (fun i => n - i) 0 ?_ (Nat.zero_le _) ?_)
 ·exact Wk.mk' ⟨rfl, rfl, rfl, rfl, rfl, rfl, rfl, trivial⟩ ⟨rfl, rfl, trivial⟩
 intro i hi
 refine ac ?_;refine gQ fun _ Z9=>?_;refine Z8 ?_;refine Z8 ?_;refine Z5 ?_;refine eQ Z9 ?_;clear Z9;refine al rfl (fun hg => ?_) (fun hg => ?_)
 ·have hg : i < n := by simp at hg; omega
  have hgp : i < pl.length := by omega
  have c1 := l5 pl[i].at'.x (-500) 500
  have c2 := l5 pl[i].at'.y (-500) 500
  have n1 : ((pl.take i).map PL.tn).map b8 ++ [b8 pl[i].tn] = ((pl.take (i + 1)).map PL.tn).map b8 := by
   rw [List.take_succ_eq_append_getElem hgp, List.map_append, List.map_append]; rfl
  have n2 : ((pl.take i).map ptC).map PT.dc ++ [(PT.mk (clp pl[i].at'.x (-500) 500) (clp pl[i].at'.y (-500) 500)).dc] = ((pl.take (i + 1)).map ptC).map PT.dc := by
   rw [List.take_succ_eq_append_getElem hgp, List.map_append, List.map_append]; rfl
  have z1 : (((pl.take i).map PL.tn).map b8).length = i := by simp; omega
  have z2 : (((pl.take i).map ptC).map PT.dc).length = i := by simp; omega
  generalize ((pl.take i).map PL.tn).map b8 = es at n1 z1 ⊢;generalize ((pl.take i).map ptC).map PT.dc = fs at n2 z2 ⊢;generalize clp pl[i].at'.x (-500) 500 = u at c1 n2;generalize clp pl[i].at'.y (-500) 500 = v at c2 n2;refine ae ?_;show AWP _ _ _ _ _ _;refine ac ?_;refine ai ?_
  rcases i with _ | i
  ·refine gQ fun _ Z9=>?_;refine Z8 ?_;refine Z8 ?_;refine Z8 ?_;refine aa rfl (x_m PL.dc rfl rfl rfl rfl hgp rfl) rfl ?_;refine Z4 ?_;refine Z6 ?_;refine av rfl rfl rfl rfl ?_;refine aO rfl (dV rfl rfl rfl rfl rfl (by decide) (Nat.le_of_ble_eq_true rfl) rfl (by simp) rfl (by simp) (by simp)) rfl rfl rfl ?_;refine Z7 ?_;refine eQ Z9 ?_;clear Z9;refine bg tok mixed (A := [[], [], [], [], [1, 2], [1, 2, 3], [1, 2, 3, 4], [1, 2, 3, 4, 5], [], [], [], [8, 9], [8, 9, 10], [8, 9, 10, 11], [1, 2, 3, 4, 5, 6, 8, 9, 10, 11, 12], [1, 2, 3, 4, 5, 6, 8, 9, 10, 11, 12, 13], [1, 2, 3, 4, 5, 6, 7, 8, 9, 10, 11, 12, 13, 14], [1, 2, 3, 4, 5, 6, 7, 8, 9, 10, 11, 12, 13, 15], []]) (an := [{}, {}, {}, {}, {}, {}, {}, {}, { c := [80] }, { c := [80] }, { c := [80] }, { c := [80] }, { c := [80] }, { c := [80] }, {}, {}, {}, {}, {}]) rfl (by kernel_rfl) rfl fun _ Z9=>?_;refine Z8 ?_;refine Z8 ?_;refine Z8 ?_;refine aa rfl (x_m PL.dc rfl rfl rfl rfl hgp rfl) rfl ?_;refine Z4 ?_;refine Z4 ?_;refine Z6 ?_;refine ab rfl rfl (c1) rfl rfl rfl rfl ?_;refine Z8 ?_;refine Z8 ?_;refine aa rfl (x_m PL.dc rfl rfl rfl rfl hgp rfl) rfl ?_;refine Z4 ?_;refine Z4 ?_;refine Z6 ?_;refine ab rfl rfl (c2) rfl rfl rfl rfl ?_;refine aI rfl rfl rfl ?_;refine av rfl rfl rfl rfl ?_;refine aO rfl (dV rfl rfl rfl rfl rfl (by decide) (Nat.le_of_ble_eq_true rfl) rfl (by simp) rfl (by simp) (by simp)) rfl rfl rfl ?_;refine Z7 ?_;refine eQ Z9 ?_;clear Z9;show AWP _ _ _ _ _ _;refine gR fun _ Z9=>?_;refine Z8 ?_;refine aj rfl (aH (c := ((0 + 1 : Nat) : Int)) (by omega) (by omega)) rfl ?_;refine Z7 ?_;refine eQ Z9 ?_;clear Z9;refine ⟨0 + 1, by omega, hg, Wk.trans (Wk.rn [0, 1, 2, 7, 8, 9, 10] [72, 90] 72 200 (E' := [(0, V1 (dPl pl)), (1, V1 (dPs er)), (2, V1 (dPs pr)), (7, dI n), (8, b6 200 1 (0 + 1)), (9, b6 90 2 (0 + 1)), (10, dI (0 + 1 : Nat))]) (S' := [(200, bW 1 (((pl.take (0 + 1)).map PL.tn).map b8) (0 + 1)), (90, bW 2 (((pl.take (0 + 1)).map ptC).map PT.dc) (0 + 1))]) rfl rfl rfl ⟨rfl, rfl, rfl, rfl, ?_, ?_, rfl, trivial⟩ ⟨?_, ?_, trivial⟩) (Wk.rn [0, 1, 2, 7, 8, 9, 10] [200, 90] 90 201 rfl rfl rfl ⟨rfl, rfl, rfl, rfl, rfl, rfl, rfl, trivial⟩ ⟨rfl, rfl, trivial⟩)⟩
   ·first
     | rfl
     | (show SV.val (.one (.own 200 1 0 _)) = _
        rw [List.length_append, z1]; rfl)
   ·first
     | rfl
     | (show SV.val (.one (.own 90 2 0 _)) = _
        rw [List.length_append, z2]; rfl)
   ·first
     | (rw [<- n1, List.length_eq_zero_iff.1 z1]; rfl)
     | (rw [<- n1]; rfl)
   ·first
     | (rw [<- n2, List.length_eq_zero_iff.1 z2]; rfl)
     | (rw [<- n2]; rfl)
  ·refine gQ fun _ Z9=>?_;refine Z8 ?_;refine Z8 ?_;refine Z8 ?_;refine aa rfl (x_m PL.dc rfl rfl rfl rfl hgp rfl) rfl ?_;refine Z4 ?_;refine Z6 ?_;refine av rfl rfl rfl rfl ?_;refine aO rfl (gT rfl rfl rfl rfl rfl rfl (by decide) (Nat.le_of_ble_eq_true rfl) rfl (by simp) rfl rfl z1.symm (by simp <;> omega)) rfl rfl rfl ?_;refine Z7 ?_;refine eQ Z9 ?_;clear Z9;refine bg tok mixed (A := [[], [], [], [], [1, 2], [1, 2, 3], [1, 2, 3, 4], [1, 2, 3, 4, 5], [], [], [], [8, 9], [8, 9, 10], [8, 9, 10, 11], [1, 2, 3, 4, 5, 6, 8, 9, 10, 11, 12], [1, 2, 3, 4, 5, 6, 8, 9, 10, 11, 12, 13], [1, 2, 3, 4, 5, 6, 7, 8, 9, 10, 11, 12, 13, 14], [1, 2, 3, 4, 5, 6, 7, 8, 9, 10, 11, 12, 13, 15], []]) (an := [{}, {}, {}, {}, {}, {}, {}, {}, { c := [80] }, { c := [80] }, { c := [80] }, { c := [80] }, { c := [80] }, { c := [80] }, {}, {}, {}, {}, {}]) rfl (by kernel_rfl) rfl fun _ Z9=>?_;refine Z8 ?_;refine Z8 ?_;refine Z8 ?_;refine aa rfl (x_m PL.dc rfl rfl rfl rfl hgp rfl) rfl ?_;refine Z4 ?_;refine Z4 ?_;refine Z6 ?_;refine ab rfl rfl (c1) rfl rfl rfl rfl ?_;refine Z8 ?_;refine Z8 ?_;refine aa rfl (x_m PL.dc rfl rfl rfl rfl hgp rfl) rfl ?_;refine Z4 ?_;refine Z4 ?_;refine Z6 ?_;refine ab rfl rfl (c2) rfl rfl rfl rfl ?_;refine aI rfl rfl rfl ?_;refine av rfl rfl rfl rfl ?_;refine aO rfl (gT rfl rfl rfl rfl rfl rfl (by decide) (Nat.le_of_ble_eq_true rfl) rfl (by simp) rfl rfl z2.symm (by simp <;> omega)) rfl rfl rfl ?_;refine Z7 ?_;refine eQ Z9 ?_;clear Z9;show AWP _ _ _ _ _ _;refine gR fun _ Z9=>?_;refine Z8 ?_;refine aj rfl (aH (c := ((i + 1 + 1 : Nat) : Int)) (by omega) (by omega)) rfl ?_;refine Z7 ?_;refine eQ Z9 ?_;clear Z9;refine ⟨i + 1 + 1, by omega, hg, Wk.trans (Wk.rn [0, 1, 2, 7, 8, 9, 10] [72, 90] 72 200 (E' := [(0, V1 (dPl pl)), (1, V1 (dPs er)), (2, V1 (dPs pr)), (7, dI n), (8, b6 200 1 (i + 1 + 1)), (9, b6 90 2 (i + 1 + 1)), (10, dI (i + 1 + 1 : Nat))]) (S' := [(200, bW 1 (((pl.take (i + 1 + 1)).map PL.tn).map b8) (i + 1 + 1)), (90, bW 2 (((pl.take (i + 1 + 1)).map ptC).map PT.dc) (i + 1 + 1))]) rfl rfl rfl ⟨rfl, rfl, rfl, rfl, ?_, ?_, rfl, trivial⟩ ⟨?_, ?_, trivial⟩) (Wk.rn [0, 1, 2, 7, 8, 9, 10] [200, 90] 90 201 rfl rfl rfl ⟨rfl, rfl, rfl, rfl, rfl, rfl, rfl, trivial⟩ ⟨rfl, rfl, trivial⟩)⟩
   ·first
     | rfl
     | (show SV.val (.one (.own 200 1 0 _)) = _
        rw [List.length_append, z1]; rfl)
   ·first
     | rfl
     | (show SV.val (.one (.own 90 2 0 _)) = _
        rw [List.length_append, z2]; rfl)
   ·first
     | (rw [<- n1, List.length_eq_zero_iff.1 z1]; rfl)
     | (rw [<- n1]; rfl)
   ·first
     | (rw [<- n2, List.length_eq_zero_iff.1 z2]; rfl)
     | (rw [<- n2]; rfl)
 have hg : i = n := by simp at hg; omega
 subst hg
 rw [show pl.take i = pl by rw [hn, List.take_length]]
 obtain ⟨n', hn'⟩ : ∃ n', i = n' + 1 := ⟨i - 1, by omega⟩
 subst hn'
 refine az ?_;show AWP _ _ _ _ _ _;refine de [1, 2, 7, 8, 9] [200, 201] 200 [(1, V1 (dPs er)), (2, V1 (dPs pr)), (7, dI (n' + 1 : Nat)), (8, V1 (dB8 (pl.map PL.tn))), (9, b6 201 2 (n' + 1))] [(201, bW 2 ((pl.map ptC).map PT.dc) (n' + 1))] rfl ?_ ⟨rfl, trivial⟩ ?_
 ·exact ⟨rfl, rfl, rfl, bw rfl (by simp [hn]), rfl, trivial⟩
 refine de [1, 2, 7, 8, 9] [201] 201 [(1, V1 (dPs er)), (2, V1 (dPs pr)), (7, dI (n' + 1 : Nat)), (8, V1 (dB8 (pl.map PL.tn))), (9, V1 (dPs (pl.map ptC)))] [] rfl ?_ trivial ?_
 ·exact ⟨rfl, rfl, rfl, rfl, bw rfl (by simp [hn]), trivial⟩
 obtain ⟨n, hnn⟩ : ∃ n, n = n' + 1 := ⟨_, rfl⟩
 rw [<- hnn] at h2 h5 hn ⊢;clear hi hnn
 have hts : ∀ t ∈ pl.map PL.tn, t < 256 := fun t ht => by obtain ⟨p, hp, rfl⟩ := List.mem_map.1 ht; exact (hpl p hp).2
 have htl : (pl.map PL.tn).length = n := by rw [List.length_map, hn]
 have hAl : (pl.map ptC).length = n := by rw [List.length_map, hn]
 have hAb : ∀ p ∈ pl.map ptC, (-500 <= p.x /\ p.x <= 500) /\ (-500 <= p.y /\ p.y <= 500) := fun p hp => by
  obtain ⟨a, _, rfl⟩ := List.mem_map.1 hp
  exact ⟨kC (by decide), kC (by decide)⟩
 generalize pl.map PL.tn = ts at *;generalize pl.map ptC = AL at *;clear hpl hn
 obtain ⟨P, hP⟩ : ∃ P : Nat -> PT, P = fun i => AL.getD i ⟨0, 0⟩ := ⟨_, rfl⟩
 have hPA : ∀ i (h : i < AL.length), AL[i]'h = P i := fun i h => by rw [hP]; show _ = AL.getD i _; rw [List.getD_eq_getElem?_getD, List.getElem?_eq_getElem h]; rfl
 have bP : ∀ i, (-500 <= (P i).x /\ (P i).x <= 500) /\ (-500 <= (P i).y /\ (P i).y <= 500) := fun i => by
  rcases Nat.lt_or_ge i AL.length with h | h
  ·rw [<- hPA i h]; exact hAb _ (List.getElem_mem h)
  ·have e : AL.getD i ⟨0, 0⟩ = ⟨0, 0⟩ := by rw [List.getD_eq_getElem?_getD, List.getElem?_eq_none h]; rfl
   have e' : P i = ⟨0, 0⟩ := by rw [hP]; exact e
   rw [e']; exact ⟨⟨by decide, by decide⟩, by decide, by decide⟩
 clear hP hAb
 have hex : ∀ i, (i < er.length -> -9 <= (erC er i).x /\ (erC er i).x <= 9) /\ (er.length <= i -> (erC er i).x = 0) := fun i => ⟨fun h => by unfold erC; rw [if_pos h]; exact kC (by decide), fun h => by unfold erC; rw [if_neg (by omega)]⟩
 have hey : ∀ i, (i < er.length -> -9 <= (erC er i).y /\ (erC er i).y <= 9) /\ (er.length <= i -> (erC er i).y = 0) := fun i => ⟨fun h => by unfold erC; rw [if_pos h]; exact kC (by decide), fun h => by unfold erC; rw [if_neg (by omega)]⟩
 obtain ⟨⟨gV, gA⟩, gS, gF, gvA, gC⟩ := Cw (P := P) (ts := ts) (n := n) (m := er.length) (q := pr.length) (pr := pr) (ex := fun i => (erC er i).x) (ey := fun i => (erC er i).y) bP he5 hex hey h2 h5 (by omega) hp5
 obtain ⟨E, hE⟩ : ∃ E : Nat -> PT, E = iG P (fun i => (erC er i).x) (fun i => (erC er i).y) := ⟨_, rfl⟩
 have hEd : ∀ i, (E (i + 1)).x - (E i).x = (P (i + 1)).x + (erC er i).x - (P i).x /\ (E (i + 1)).y - (E i).y = (P (i + 1)).y + (erC er i).y - (P i).y := fun i => by
  rw [hE]
  show (P (i + 1)).x + (sE _ i + (erC er i).x) - ((P i).x + sE _ i) = _ /\ (P (i + 1)).y + (sE _ i + (erC er i).y) - ((P i).y + sE _ i) = _
  constructor <;> omega
 rw [<- hE] at gV gA gS gF gvA gC
 have eG : ∀ ls, exG ts n ls = ⟨ts.map qRW, ls⟩ := fun ls => by unfold exG; rw [List.take_of_length_le (by omega)]
 rw [eG] at gV gA gS gF gvA gC
 have cQ := yW ts hts (by omega)
 have okN : ∀ r ∈ ts.map qRW, r.OK 1 := fun r hr => by obtain ⟨t, _, rfl⟩ := List.mem_map.1 hr; exact FT t
 have hNl : (ts.map qRW).length = n := by rw [List.length_map, htl]
 generalize ts.map qRW = nodes at *;clear eG hE
 -- what the calls answer
 have gvV := ci.1 gV
 have cR := Ev ⟨nodes, ch1 E ts (n - 1)⟩ (fun r hr => (okN r hr).mono rfl)
 rw [AM, if_pos gV, if_pos gA] at cR
 have oS : ∀ p ∈ rkL ⟨nodes, ch1 E ts (n - 1)⟩, p.OK 4096 := fun p hp => (FL gvV (k := 1) okN rfl p hp).mono rfl
 have lS : (rkL ⟨nodes, ch1 E ts (n - 1)⟩).length = n := by rw [lL]; exact hNl
 have cS := GI ⟨nodes, ch1 E ts (n - 1)⟩ (rkL ⟨nodes, ch1 E ts (n - 1)⟩) (dC P ts n pr pr.length) (tE er.length (n - 1)) (fun r hr => (okN r hr).mono rfl) oS
 rw [gS] at cS
 have cW := Eu ⟨nodes, ch1 E ts (n - 1)⟩ (dC P ts n pr pr.length) (List.range pr.length) (fun i h => List.getElem_range h) (by rw [List.length_range, ju]) gV (by show 0 < (ch1 E ts (n - 1)).length; rw [m8]; omega) gF (by show (ch1 E ts (n - 1)).length + _ <= 48; rw [m8, ju]; omega) (fun r hr => (okN r hr).mono rfl)
 have smA : SM ⟨nodes, ch1 E ts (n - 1) ++ dC P ts n pr pr.length⟩ := ⟨by show nodes.length <= 6; omega, by show (ch1 E ts (n - 1) ++ dC P ts n pr pr.length).length <= 16; rw [List.length_append, m8, ju]; omega, fun r hr => (okN r hr).mono rfl⟩
 have cL := BV ⟨nodes, ch1 E ts (n - 1) ++ dC P ts n pr pr.length⟩ (fun r hr => (okN r hr).mono rfl) (fun _ => smA)
 rw [zg, if_pos (ci.2 gvA), if_pos gC] at cL
 have oT : ∀ l : List PT, (∀ p ∈ l, p.I) -> ∀ p ∈ l.map (fun p => szW (p.x : Rat) (p.y : Rat)), p.OK 4096 := fun l hl p hp => by
  obtain ⟨a, ha, rfl⟩ := List.mem_map.1 hp
  exact d6 (Nat.le_trans (dz (hl a ha).1) (by decide)) (Nat.le_trans (dz (hl a ha).2) (by decide))
 have cC : ∀ s : List SP, s.length = n -> (∀ p ∈ s, p.OK 4096) -> Con Tryz.prog 50 [AG (GR.mk nodes (ch1 E ts (n - 1) ++ dC P ts n pr pr.length)).cs, V1 (dSs s)] { v := .tup [.agg (qzW (csR ⟨nodes, ch1 E ts (n - 1) ++ dC P ts n pr pr.length⟩ s (ch1 E ts (n - 1) ++ dC P ts n pr pr.length))).cs, .one (.d (lI 0))] } := fun s h1 h2 => by
  have c := yf ⟨nodes, ch1 E ts (n - 1) ++ dC P ts n pr pr.length⟩ s (fun r hr => (okN r hr).mono rfl) h2
  rw [m0, if_pos (im.2 ⟨gvA, by rw [h1]; exact hNl.symm⟩)] at c;exact c
 have qS : ∀ s : List SP, s.length = n -> (∀ p ∈ s, p.OK 4096) -> ql (csR ⟨nodes, ch1 E ts (n - 1) ++ dC P ts n pr pr.length⟩ s (ch1 E ts (n - 1) ++ dC P ts n pr pr.length)) <= 16777000 := fun s h1 h2 => by
  have := Cs (g := ⟨nodes, ch1 E ts (n - 1) ++ dC P ts n pr pr.length⟩) (s := s) ⟨gvA, by rw [h1]; exact hNl.symm⟩ (fun r hr => (okN r hr).mono rfl) h2 (ch1 E ts (n - 1) ++ dC P ts n pr pr.length) (fun l hl => hl) 0
  have z : ql (0 : Rat) <= 1 := gD
  have l := smA.l16
  have l : (ch1 E ts (n - 1) ++ dC P ts n pr pr.length).length <= 16 := l
  unfold csR; omega
 have cK : ∀ s : List SP, s.length = n -> (∀ p ∈ s, p.OK 4096) -> ∃ z : Int, z <= 0 /\ Con Tryz.prog 37 [AG (qzW (lsQ ⟨nodes, ch1 E ts (n - 1) ++ dC P ts n pr pr.length⟩)).cs, AG (qzW (csR ⟨nodes, ch1 E ts (n - 1) ++ dC P ts n pr pr.length⟩ s (ch1 E ts (n - 1) ++ dC P ts n pr pr.length))).cs] { v := dI z } := fun s h1 h2 => by
  have om := E5 gvA smA gC
  have qL : ql (lsQ ⟨nodes, ch1 E ts (n - 1) ++ dC P ts n pr pr.length⟩) <= 16777000 := by
   rw [<- Fi gvA]; exact qS _ (by rw [qm]; exact hNl) (fun p hp => (om p hp).mono rfl)
  have c := tm (qzW (lsQ ⟨nodes, ch1 E ts (n - 1) ++ dC P ts n pr pr.length⟩)) (qzW (csR ⟨nodes, ch1 E ts (n - 1) ++ dC P ts n pr pr.length⟩ s (ch1 E ts (n - 1) ++ dC P ts n pr pr.length))) ((bi qL).mono rfl) ((bi (qS s h1 h2)).mono rfl)
  rw [bE, bE] at c;exact ⟨_, (uP _ _).2 (w9 gvA gC s).1, c⟩
 clear qS smA gvA gC gF gS gV gA gvV;refine gQ fun _ Z9=>?_;refine Z8 ?_;refine ab rfl rfl (cQ) rfl rfl rfl rfl ?_;refine aI rfl rfl rfl ?_;refine ar rfl rfl rfl rfl rfl rfl ?_;refine ah rfl rfl rfl rfl rfl ?_;refine eQ Z9 ?_;clear Z9;refine gQ fun _ Z9=>?_;refine Z7 ?_;refine eQ Z9 ?_;clear Z9;refine ac ?_;refine gQ fun _ Z9=>?_;refine Z7 ?_;refine eQ Z9 ?_;clear Z9;refine ai (aN (α := Nat) (fun i => mk 314 [(1, V1 (dPs er)), (2, V1 (dPs pr)), (7, dI n), (8, V1 (dB8 ts)), (9, V1 (dPs AL)), (11, .ptr 11 0), (12, dI (tE er.length i)), (13, dI i)] [(11, some (.box [.d (dRs nodes), DE 200 5 i])), (200, bW 5 ((ch1 E ts i).map LK.dc) i)] [11]) (fun i => i + 1 <= n) (fun i => n - i) 0 ?_ (by omega) ?_)
 ·exact Wk.trans (Wk.rbE rfl) (Wk.mk' ⟨rfl, rfl, rfl, rfl, rfl, rfl, rfl, rfl, trivial⟩ ⟨rfl, rfl, trivial⟩)
 intro i hi
 refine ac ?_;refine gQ fun _ Z9=>?_;refine Z8 ?_;refine aj rfl (aH (c := ((i + 1 : Nat) : Int)) (by omega) (by omega)) rfl ?_;refine Z8 ?_;refine Z5 ?_;refine eQ Z9 ?_;clear Z9;refine al rfl (fun hg => ?_) (fun hg => ?_)
 ·have hg : i + 1 < n := by simp at hg; omega
  have t1 : i < ts.length := by omega
  have g1 : i < AL.length := by omega
  have g2 : i + 1 < AL.length := by omega
  have b1 := bP i
  have b2 := bP (i + 1)
  have b3 := hex i
  have b4 := hey i
  have e1 := hPA i g1
  have e2 := hPA (i + 1) g2
  have hT := yJ er.length i
  have hT0 := (nW er.length i).1
  have eT : tE er.length (i + 1) = tE er.length i + if i < er.length then 9 else 0 := rfl
  have hz : ¬ i < er.length -> (erC er i).x = 0 /\ (erC er i).y = 0 := fun h => ⟨b3.2 (by omega), b4.2 (by omega)⟩
  have hbx : -9 <= (erC er i).x /\ (erC er i).x <= 9 := by
   by_cases h : i < er.length
   ·exact b3.1 h
   ·rw [(hz h).1]; decide
  have hby : -9 <= (erC er i).y /\ (erC er i).y <= 9 := by
   by_cases h : i < er.length
   ·exact b4.1 h
   ·rw [(hz h).2]; decide
  have cSn := Al ts[i] AL[i] ⟨(AL[i + 1]).x + (erC er i).x, (AL[i + 1]).y + (erC er i).y⟩ (hts _ (List.getElem_mem t1)) (by rw [e1, e2]; show -4000 <= (P (i + 1)).x + (erC er i).x - (P i).x /\ (P (i + 1)).x + (erC er i).x - (P i).x <= 4000; omega) (by rw [e1, e2]; show -4000 <= (P (i + 1)).y + (erC er i).y - (P i).y /\ (P (i + 1)).y + (erC er i).y - (P i).y <= 4000; omega)
  have ek : exK E ts i (i + 1) 1 = ⟨i, ((i + 1 : Nat) : Int), (rt4 (ts[i] % 4) ((AL[i + 1]).x + (erC er i).x - AL[i].x, (AL[i + 1]).y + (erC er i).y - AL[i].y)).1, (rt4 (ts[i] % 4) ((AL[i + 1]).x + (erC er i).x - AL[i].x, (AL[i + 1]).y + (erC er i).y - AL[i].y)).2, 1⟩ := by
   unfold exK; rw [(hEd i).1, (hEd i).2, e1, e2, List.getD_eq_getElem?_getD, List.getElem?_eq_getElem t1]; rfl
  have n1 := Cz E ts i
  rw [ek] at n1
  have z1 : ((ch1 E ts i).map LK.dc).length = i := by simp [ch1]
  have ax : -500 <= (AL[i + 1]).x /\ (AL[i + 1]).x <= 500 := by rw [e2]; omega
  have ay : -500 <= (AL[i + 1]).y /\ (AL[i + 1]).y <= 500 := by rw [e2]; omega
  generalize (rt4 (ts[i] % 4) ((AL[i + 1]).x + (erC er i).x - AL[i].x, (AL[i + 1]).y + (erC er i).y - AL[i].y)).1 = sx at cSn n1;generalize (rt4 (ts[i] % 4) ((AL[i + 1]).x + (erC er i).x - AL[i].x, (AL[i + 1]).y + (erC er i).y - AL[i].y)).2 = sy at cSn n1;generalize (ch1 E ts i).map LK.dc = es at n1 z1 ⊢;clear ek;refine ae ?_;show AWP _ _ _ _ _ _;refine ac ?_;refine ai ?_
  rcases i with _ | i
  ·refine gQ fun _ Z9=>?_;refine Z8 ?_;refine Z8 ?_;refine aj rfl (aH (c := ((0 + 1 : Nat) : Int)) (by omega) (by omega)) rfl ?_;refine aa rfl (x_m PT.dc rfl rfl rfl rfl g2 rfl) rfl ?_;refine Z6 ?_;refine ar rfl rfl rfl rfl rfl rfl ?_;refine ah rfl rfl rfl rfl rfl ?_;refine eQ Z9 ?_;clear Z9;refine bb (α := Unit) (fun _ => mk 314 [(1, V1 (dPs er)), (2, V1 (dPs pr)), (7, dI n), (8, V1 (dB8 ts)), (9, V1 (dPs AL)), (11, .ptr 11 0), (12, dI (tE er.length (0 + 1))), (13, dI (0 : Nat)), (14, .ptr 14 0)] [(11, some (.box [.d (dRs nodes), DE 200 5 (0)])), (14, some (.box [.d (lI ((AL[0 + 1]).x + (erC er (0)).x)), .d (lI ((AL[0 + 1]).y + (erC er (0)).y))])), (200, bW 5 es (0))] [11]) (fun _ => True) ?_ ?_
   ·refine gQ fun _ Z9=>?_;refine Z8 ?_;refine Z8 ?_;refine aA rfl (bI PT.dc rfl rfl) rfl ?_;refine Z5 ?_;refine eQ Z9 ?_;clear Z9;refine al rfl (fun hq => ?_) (fun hq => ?_)
    ·have hq : 0 < er.length := by simp at hq; omega
     have k1 := l5 (er[0]'hq).x (-9) 9
     have k2 := l5 (er[0]'hq).y (-9) 9
     have ee : erC er (0) = ⟨clp (er[0]'hq).x (-9) 9, clp (er[0]'hq).y (-9) 9⟩ := by
      unfold erC
      rw [if_pos hq, List.getD_eq_getElem?_getD, List.getElem?_eq_getElem hq]; rfl
     have hu : -9 <= clp (er[0]'hq).x (-9) 9 /\ clp (er[0]'hq).x (-9) 9 <= 9 := kC (by decide)
     have hv : -9 <= clp (er[0]'hq).y (-9) 9 /\ clp (er[0]'hq).y (-9) 9 <= 9 := kC (by decide)
     rw [eT, if_pos hq, ee];generalize clp (er[0]'hq).x (-9) 9 = u at k1 hu ⊢;generalize clp (er[0]'hq).y (-9) 9 = v at k2 hv ⊢;refine aG tok mixed (A := [[], [], [], [], [], [2, 3], [2, 3, 4], [2, 3, 4, 5], [0, 2, 3, 4, 5, 6], [], []]) (an := [{}, {}, {}, {}, {}, {}, {}, {}, {}, {}, {}]) rfl (by kernel_rfl) rfl fun _ Z9=>?_;refine Z4 ?_;refine Z6 ?_;refine Z8 ?_;refine Z8 ?_;refine aa rfl (x_m PT.dc rfl rfl rfl rfl hq rfl) rfl ?_;refine Z4 ?_;refine Z6 ?_;refine ab rfl rfl (k1) rfl rfl rfl rfl ?_;refine aj rfl (aH (c := (AL[0 + 1]).x + u) rfl (by omega)) rfl ?_;refine Z4 ?_;refine ah rfl rfl rfl rfl rfl ?_;refine eQ Z9 ?_;clear Z9;refine aG tok mixed (A := [[], [], [], [], [], [2, 3], [2, 3, 4], [2, 3, 4, 5], [0, 2, 3, 4, 5, 6], [], []]) (an := [{}, {}, {}, {}, {}, {}, {}, {}, {}, {}, {}]) rfl (by kernel_rfl) rfl fun _ Z9=>?_;refine Z4 ?_;refine Z6 ?_;refine Z8 ?_;refine Z8 ?_;refine aa rfl (x_m PT.dc rfl rfl rfl rfl hq rfl) rfl ?_;refine Z4 ?_;refine Z6 ?_;refine ab rfl rfl (k2) rfl rfl rfl rfl ?_;refine aj rfl (aH (c := (AL[0 + 1]).y + v) rfl (by omega)) rfl ?_;refine Z4 ?_;refine ah rfl rfl rfl rfl rfl ?_;refine eQ Z9 ?_;clear Z9
     have ht9 : -9223372036854775808 <= tE er.length (0) + 9 /\ tE er.length (0) + 9 <= 9223372036854775807 := by
      have := yJ er.length (0)
      have := (nW er.length (0)).1
      constructor <;> omega
     refine gR fun _ Z9=>?_;refine Z8 ?_;refine aj rfl (aH (c := tE er.length (0) + 9) rfl ht9) rfl ?_;refine Z7 ?_;refine eQ Z9 ?_;clear Z9;exact ⟨(), trivial, Wk.mk' ⟨rfl, rfl, rfl, rfl, rfl, rfl, rfl, rfl, rfl, trivial⟩ ⟨rfl, rfl, rfl, trivial⟩⟩
    ·have hq : ¬ 0 < er.length := fun h => of_decide_eq_false hq (by omega)
     rw [eT, if_neg hq, (hz hq).1, (hz hq).2, Int.add_zero, Int.add_zero, Int.add_zero];refine ae ?_;exact ⟨(), trivial, Wk.mk' ⟨rfl, rfl, rfl, rfl, rfl, rfl, rfl, rfl, rfl, trivial⟩ ⟨rfl, rfl, rfl, trivial⟩⟩
   rintro - -
   refine aG tok mixed (A := [[], [], [], [0, 1], [], [], [], [4, 5], [], [0, 1, 2, 4, 5, 6], [0, 1, 2, 3, 4, 5, 6, 7, 8], [0, 1, 2, 3, 4, 5, 6, 7, 8, 9], [0, 1, 2, 3, 4, 5, 6, 7, 8, 9], [], []]) (an := [{}, {}, {}, {}, {}, {}, {}, {}, {}, {}, {}, {}, {}, {}, {}]) rfl (by kernel_rfl) rfl fun _ Z9=>?_;refine Z8 ?_;refine Z8 ?_;refine aa rfl (x_m b8 rfl rfl rfl rfl t1 rfl) rfl ?_;refine Z6 ?_;refine Z8 ?_;refine Z8 ?_;refine aa rfl (x_m PT.dc rfl rfl rfl rfl g1 rfl) rfl ?_;refine Z6 ?_;refine Z6 ?_;refine ab rfl rfl (cSn) rfl rfl rfl rfl ?_;refine Z8 ?_;refine am rfl rfl rfl ?_;refine am rfl rfl rfl ?_;refine Z7 ?_;refine Z7 ?_;refine eQ Z9 ?_;clear Z9;refine gR fun _ Z9=>?_;refine Z4 ?_;refine Z6 ?_;refine Z8 ?_;refine Z8 ?_;refine aj rfl (aH (c := ((0 + 1 : Nat) : Int)) (by omega) (by omega)) rfl ?_;refine Z8 ?_;refine Z8 ?_;refine aI rfl rfl rfl ?_;refine av rfl rfl rfl rfl ?_;refine aO rfl (dV rfl rfl rfl rfl rfl (by decide) (Nat.le_of_ble_eq_true rfl) rfl (by simp) rfl (by simp) (by simp)) rfl rfl rfl ?_;refine Z4 ?_;refine eL rfl rfl rfl rfl rfl ?_;refine eQ Z9 ?_;clear Z9;show AWP _ _ _ _ _ _;refine gR fun _ Z9=>?_;refine Z8 ?_;refine aj rfl (aH (c := ((0 + 1 : Nat) : Int)) (by omega) (by omega)) rfl ?_;refine Z7 ?_;refine eQ Z9 ?_;clear Z9;refine ⟨0 + 1, by omega, hg, Wk.rnB [1, 2, 7, 8, 9, 11, 12, 13] [11, 153] 153 200 rfl rfl rfl ⟨rfl, rfl, rfl, rfl, rfl, rfl, rfl, rfl, trivial⟩ ⟨?_, ?_, trivial⟩ rfl⟩
   ·first
     | rfl
     | (show some (OO.box [_, .own 200 5 0 _]) = _
        rw [List.length_append, z1]; rfl)
   ·first
     | (rw [<- n1, List.length_eq_zero_iff.1 z1]; rfl)
     | (rw [<- n1]; rfl)
  ·refine gQ fun _ Z9=>?_;refine Z8 ?_;refine Z8 ?_;refine aj rfl (aH (c := ((i + 1 + 1 : Nat) : Int)) (by omega) (by omega)) rfl ?_;refine aa rfl (x_m PT.dc rfl rfl rfl rfl g2 rfl) rfl ?_;refine Z6 ?_;refine ar rfl rfl rfl rfl rfl rfl ?_;refine ah rfl rfl rfl rfl rfl ?_;refine eQ Z9 ?_;clear Z9;refine bb (α := Unit) (fun _ => mk 314 [(1, V1 (dPs er)), (2, V1 (dPs pr)), (7, dI n), (8, V1 (dB8 ts)), (9, V1 (dPs AL)), (11, .ptr 11 0), (12, dI (tE er.length (i + 1 + 1))), (13, dI (i + 1 : Nat)), (14, .ptr 14 0)] [(11, some (.box [.d (dRs nodes), DE 200 5 (i + 1)])), (14, some (.box [.d (lI ((AL[i + 1 + 1]).x + (erC er (i + 1)).x)), .d (lI ((AL[i + 1 + 1]).y + (erC er (i + 1)).y))])), (200, bW 5 es (i + 1))] [11]) (fun _ => True) ?_ ?_
   ·refine gQ fun _ Z9=>?_;refine Z8 ?_;refine Z8 ?_;refine aA rfl (bI PT.dc rfl rfl) rfl ?_;refine Z5 ?_;refine eQ Z9 ?_;clear Z9;refine al rfl (fun hq => ?_) (fun hq => ?_)
    ·have hq : i + 1 < er.length := by simp at hq; omega
     have k1 := l5 (er[i + 1]'hq).x (-9) 9
     have k2 := l5 (er[i + 1]'hq).y (-9) 9
     have ee : erC er (i + 1) = ⟨clp (er[i + 1]'hq).x (-9) 9, clp (er[i + 1]'hq).y (-9) 9⟩ := by
      unfold erC
      rw [if_pos hq, List.getD_eq_getElem?_getD, List.getElem?_eq_getElem hq]; rfl
     have hu : -9 <= clp (er[i + 1]'hq).x (-9) 9 /\ clp (er[i + 1]'hq).x (-9) 9 <= 9 := kC (by decide)
     have hv : -9 <= clp (er[i + 1]'hq).y (-9) 9 /\ clp (er[i + 1]'hq).y (-9) 9 <= 9 := kC (by decide)
     rw [eT, if_pos hq, ee];generalize clp (er[i + 1]'hq).x (-9) 9 = u at k1 hu ⊢;generalize clp (er[i + 1]'hq).y (-9) 9 = v at k2 hv ⊢;refine aG tok mixed (A := [[], [], [], [], [], [2, 3], [2, 3, 4], [2, 3, 4, 5], [0, 2, 3, 4, 5, 6], [], []]) (an := [{}, {}, {}, {}, {}, {}, {}, {}, {}, {}, {}]) rfl (by kernel_rfl) rfl fun _ Z9=>?_;refine Z4 ?_;refine Z6 ?_;refine Z8 ?_;refine Z8 ?_;refine aa rfl (x_m PT.dc rfl rfl rfl rfl hq rfl) rfl ?_;refine Z4 ?_;refine Z6 ?_;refine ab rfl rfl (k1) rfl rfl rfl rfl ?_;refine aj rfl (aH (c := (AL[i + 1 + 1]).x + u) rfl (by omega)) rfl ?_;refine Z4 ?_;refine ah rfl rfl rfl rfl rfl ?_;refine eQ Z9 ?_;clear Z9;refine aG tok mixed (A := [[], [], [], [], [], [2, 3], [2, 3, 4], [2, 3, 4, 5], [0, 2, 3, 4, 5, 6], [], []]) (an := [{}, {}, {}, {}, {}, {}, {}, {}, {}, {}, {}]) rfl (by kernel_rfl) rfl fun _ Z9=>?_;refine Z4 ?_;refine Z6 ?_;refine Z8 ?_;refine Z8 ?_;refine aa rfl (x_m PT.dc rfl rfl rfl rfl hq rfl) rfl ?_;refine Z4 ?_;refine Z6 ?_;refine ab rfl rfl (k2) rfl rfl rfl rfl ?_;refine aj rfl (aH (c := (AL[i + 1 + 1]).y + v) rfl (by omega)) rfl ?_;refine Z4 ?_;refine ah rfl rfl rfl rfl rfl ?_;refine eQ Z9 ?_;clear Z9
     have ht9 : -9223372036854775808 <= tE er.length (i + 1) + 9 /\ tE er.length (i + 1) + 9 <= 9223372036854775807 := by
      have := yJ er.length (i + 1)
      have := (nW er.length (i + 1)).1
      constructor <;> omega
     refine gR fun _ Z9=>?_;refine Z8 ?_;refine aj rfl (aH (c := tE er.length (i + 1) + 9) rfl ht9) rfl ?_;refine Z7 ?_;refine eQ Z9 ?_;clear Z9;exact ⟨(), trivial, Wk.mk' ⟨rfl, rfl, rfl, rfl, rfl, rfl, rfl, rfl, rfl, trivial⟩ ⟨rfl, rfl, rfl, trivial⟩⟩
    ·have hq : ¬ i + 1 < er.length := fun h => of_decide_eq_false hq (by omega)
     rw [eT, if_neg hq, (hz hq).1, (hz hq).2, Int.add_zero, Int.add_zero, Int.add_zero];refine ae ?_;exact ⟨(), trivial, Wk.mk' ⟨rfl, rfl, rfl, rfl, rfl, rfl, rfl, rfl, rfl, trivial⟩ ⟨rfl, rfl, rfl, trivial⟩⟩
   rintro - -
   refine aG tok mixed (A := [[], [], [], [0, 1], [], [], [], [4, 5], [], [0, 1, 2, 4, 5, 6], [0, 1, 2, 3, 4, 5, 6, 7, 8], [0, 1, 2, 3, 4, 5, 6, 7, 8, 9], [0, 1, 2, 3, 4, 5, 6, 7, 8, 9], [], []]) (an := [{}, {}, {}, {}, {}, {}, {}, {}, {}, {}, {}, {}, {}, {}, {}]) rfl (by kernel_rfl) rfl fun _ Z9=>?_;refine Z8 ?_;refine Z8 ?_;refine aa rfl (x_m b8 rfl rfl rfl rfl t1 rfl) rfl ?_;refine Z6 ?_;refine Z8 ?_;refine Z8 ?_;refine aa rfl (x_m PT.dc rfl rfl rfl rfl g1 rfl) rfl ?_;refine Z6 ?_;refine Z6 ?_;refine ab rfl rfl (cSn) rfl rfl rfl rfl ?_;refine Z8 ?_;refine am rfl rfl rfl ?_;refine am rfl rfl rfl ?_;refine Z7 ?_;refine Z7 ?_;refine eQ Z9 ?_;clear Z9;refine gR fun _ Z9=>?_;refine Z4 ?_;refine Z6 ?_;refine Z8 ?_;refine Z8 ?_;refine aj rfl (aH (c := ((i + 1 + 1 : Nat) : Int)) (by omega) (by omega)) rfl ?_;refine Z8 ?_;refine Z8 ?_;refine aI rfl rfl rfl ?_;refine av rfl rfl rfl rfl ?_;refine aO rfl (gT rfl rfl rfl rfl rfl rfl (by decide) (Nat.le_of_ble_eq_true rfl) rfl (by simp) rfl rfl z1.symm (by simp <;> omega)) rfl rfl rfl ?_;refine Z4 ?_;refine eL rfl rfl rfl rfl rfl ?_;refine eQ Z9 ?_;clear Z9;show AWP _ _ _ _ _ _;refine gR fun _ Z9=>?_;refine Z8 ?_;refine aj rfl (aH (c := ((i + 1 + 1 : Nat) : Int)) (by omega) (by omega)) rfl ?_;refine Z7 ?_;refine eQ Z9 ?_;clear Z9;refine ⟨i + 1 + 1, by omega, hg, Wk.rnB [1, 2, 7, 8, 9, 11, 12, 13] [11, 153] 153 200 rfl rfl rfl ⟨rfl, rfl, rfl, rfl, rfl, rfl, rfl, rfl, trivial⟩ ⟨?_, ?_, trivial⟩ rfl⟩
   ·first
     | rfl
     | (show some (OO.box [_, .own 200 5 0 _]) = _
        rw [List.length_append, z1]; rfl)
   ·first
     | (rw [<- n1, List.length_eq_zero_iff.1 z1]; rfl)
     | (rw [<- n1]; rfl)
 have hg : i = n - 1 := by simp at hg; omega
 subst hg
 refine az ?_;show AWP _ _ _ _ _ _
 obtain ⟨m, hm⟩ : ∃ m, n - 1 = m + 1 := ⟨n - 2, by omega⟩
 have zc : ((ch1 E ts (n - 1)).map LK.dc).length = m + 1 := by simp [ch1]; omega
 rw [hm] at zc cR cS cW cL cC cK lS oS ⊢;generalize ch1 E ts (m + 1) = CL at zc cR cS cW cL cC cK lS oS ⊢
 have hT := yJ er.length (m + 1)
 have hT0 := (nW er.length (m + 1)).1
 generalize tE er.length (m + 1) = T0 at *;refine de [1, 2, 7, 8, 9, 11, 12] [11, 200] 200 [(2, V1 (dPs pr)), (7, dI n), (8, V1 (dB8 ts)), (9, V1 (dPs AL)), (11, .ptr 11 0), (12, dI T0)] [(11, some (.box (GR.mk nodes CL).cs))] rfl ⟨rfl, rfl, rfl, rfl, rfl, rfl, trivial⟩ ⟨(by show some (OO.box [.d (dRs nodes), iF 200 5 _ (.own 200 5 0 _)]) = _; rw [ku rfl (by rw [zc])]; rfl), trivial⟩ ?_;generalize rkL ⟨nodes, CL⟩ = ml at *;clear zc;refine gQ fun _ Z9=>?_;refine Z6 ?_;refine ab rfl rfl (cR) rfl rfl rfl rfl ?_;refine Z8 ?_;refine am rfl rfl rfl ?_;refine am rfl rfl rfl ?_;refine Z7 ?_;refine Z7 ?_;refine eQ Z9 ?_;clear Z9;refine ac ?_;refine gQ fun _ Z9=>?_;refine Z8 ?_;refine aj rfl (qV (c := false) rfl) rfl ?_;refine eQ Z9 ?_;clear Z9;refine al rfl (fun h => by cases h) (fun _ => ?_);refine ae ?_;show AWP _ _ _ _ _ _;refine gQ fun _ Z9=>?_;refine Z7 ?_;refine eQ Z9 ?_;clear Z9;refine ac ?_;refine gQ fun _ Z9=>?_;refine Z7 ?_;refine eQ Z9 ?_;clear Z9;refine ai (aN (α := Nat) (fun k => mk 314 [(2, V1 (dPs pr)), (7, dI n), (8, V1 (dB8 ts)), (9, V1 (dPs AL)), (11, .ptr 11 0), (12, dI T0), (17, V1 (dSs ml)), (19, b6 200 5 k), (20, dI k)] [(11, some (.box (GR.mk nodes CL).cs)), (200, bW 5 ((dC P ts n pr k).map LK.dc) k)] [11]) (fun k => k <= pr.length) (fun k => pr.length - k) 0 ?_ (Nat.zero_le _) ?_)
 ·exact Wk.mk' ⟨rfl, rfl, rfl, rfl, rfl, rfl, rfl, rfl, rfl, trivial⟩ ⟨rfl, rfl, trivial⟩
 intro k hk
 refine ac ?_;refine gQ fun _ Z9=>?_;refine Z8 ?_;refine Z8 ?_;refine aA rfl (bI PT.dc rfl rfl) rfl ?_;refine Z5 ?_;refine eQ Z9 ?_;clear Z9;refine al rfl (fun hg => ?_) (fun hg => ?_)
 ·have hg : k < pr.length := by simp at hg; omega
  have hI := hpr _ (List.getElem_mem hg)
  have a0 := Int.emod_nonneg pr[k].x (b := (n : Int)) (by omega)
  have a1 := Int.emod_lt_of_pos pr[k].x (b := (n : Int)) (by omega)
  have b0 := Int.emod_nonneg pr[k].y (b := (n : Int)) (by omega)
  have b1 := Int.emod_lt_of_pos pr[k].y (b := (n : Int)) (by omega)
  have m1 := CJ pr[k].x n hI.1 (by omega) (by omega)
  have m2 := CJ pr[k].y n hI.2 (by omega) (by omega)
  have pok := Ba h2 pr[k]
  have n1 := zn P ts n hg
  have z1 : ((dC P ts n pr k).map LK.dc).length = k := by rw [List.length_map, ju]
  obtain ⟨a, ha⟩ : ∃ a : Nat, pr[k].x % (n : Int) = a := ⟨(pr[k].x % (n : Int)).toNat, by omega⟩
  obtain ⟨b', hb⟩ : ∃ b : Nat, pr[k].y % (n : Int) = b := ⟨(pr[k].y % (n : Int)).toNat, by omega⟩
  have pe : prB n pr[k] = (a, if a = b' then (a + 1) % n else b') := by unfold prB; rw [ha, hb, Int.toNat_natCast, Int.toNat_natCast]
  rw [ha] at m1 a1;rw [hb] at m2 b1;rw [pe] at n1 pok
  obtain ⟨p1, p2, _⟩ := pok
  simp only at p1 p2
  refine ae ?_;show AWP _ _ _ _ _ _;refine ac ?_;refine ai ?_;refine aG tok mixed (A := [[], [], [], [0, 1], [0, 1, 2], [], [0, 1, 2, 3], [], [], [], [7, 8], [7, 8, 9], [], [0, 1, 2, 3, 4, 5, 7, 8, 9, 10], [7, 8, 9, 10, 11, 12], []]) (an := [{}, {}, {}, {}, {}, {}, {}, { c := [174] }, { c := [174] }, { c := [174] }, { c := [174] }, { c := [174] }, { c := [174] }, {}, {}, {}]) rfl (by kernel_rfl) rfl fun _ Z9=>?_;refine Z8 ?_;refine Z8 ?_;refine aa rfl (x_m PT.dc rfl rfl rfl rfl hg rfl) rfl ?_;refine Z4 ?_;refine Z6 ?_;refine Z8 ?_;refine ab rfl rfl (m1) rfl rfl rfl rfl ?_;refine Z8 ?_;refine Z8 ?_;refine aa rfl (x_m PT.dc rfl rfl rfl rfl hg rfl) rfl ?_;refine Z4 ?_;refine Z6 ?_;refine Z8 ?_;refine ab rfl rfl (m2) rfl rfl rfl rfl ?_;refine Z7 ?_;refine Z7 ?_;refine eQ Z9 ?_;clear Z9;generalize (dC P ts n pr k).map LK.dc = es at n1 z1 ⊢;refine bb (α := Nat) (fun b => mk 314 [(2, V1 (dPs pr)), (7, dI n), (8, V1 (dB8 ts)), (9, V1 (dPs AL)), (11, .ptr 11 0), (12, dI T0), (17, V1 (dSs ml)), (19, b6 200 5 k), (20, dI k), (21, dI a), (22, dI b)] [(11, some (.box (GR.mk nodes CL).cs)), (200, bW 5 es k)] [11]) (fun b => b = if a = b' then (a + 1) % n else b') ?_ ?_
  ·refine gQ fun _ Z9=>?_;refine Z8 ?_;refine Z8 ?_;refine aj rfl (Cf _ _) rfl ?_;refine eQ Z9 ?_;clear Z9;refine al rfl (fun hab => ?_) (fun hab => ?_)
   ·have hab := of_decide_eq_true hab
    refine gR fun _ Z9=>?_;refine Z8 ?_;refine aj rfl (aH (c := ((a + 1 : Nat) : Int)) (by omega) (by omega)) rfl ?_;refine Z8 ?_;refine aj rfl (wX (z := (a + 1) % n) (by omega) (by omega) rfl) rfl ?_;refine Z7 ?_;refine eQ Z9 ?_;clear Z9;exact ⟨_, (if_pos hab).symm, Wk.mk' ⟨rfl, rfl, rfl, rfl, rfl, rfl, rfl, rfl, rfl, rfl, rfl, trivial⟩ ⟨rfl, rfl, trivial⟩⟩
   ·have hab := of_decide_eq_false hab
    refine ae ?_;exact ⟨_, (if_neg hab).symm, Wk.mk' ⟨rfl, rfl, rfl, rfl, rfl, rfl, rfl, rfl, rfl, rfl, rfl, trivial⟩ ⟨rfl, rfl, trivial⟩⟩
  rintro b rfl
  obtain ⟨b, hbb⟩ : ∃ b, b = if a = b' then (a + 1) % n else b' := ⟨_, rfl⟩
  rw [<- hbb] at n1 p2 ⊢
  have ta : a < ts.length := by omega
  have g1 : a < AL.length := by omega
  have g2 : b < AL.length := by omega
  have q1 := bP a
  have q2 := bP b
  have e1 := hPA a g1
  have e2 := hPA b g2
  have cSn := Al ts[a] AL[a] AL[b] (hts _ (List.getElem_mem ta)) (by rw [e1, e2]; omega) (by rw [e1, e2]; omega)
  have ek : exK P ts a b (1 + (k : Int)) = ⟨a, b, (rt4 (ts[a] % 4) (AL[b].x - AL[a].x, AL[b].y - AL[a].y)).1, (rt4 (ts[a] % 4) (AL[b].x - AL[a].x, AL[b].y - AL[a].y)).2, 1 + (k : Int)⟩ := by
   unfold exK; rw [e1, e2, List.getD_eq_getElem?_getD, List.getElem?_eq_getElem ta]; rfl
  rw [ek] at n1;generalize (rt4 (ts[a] % 4) (AL[b].x - AL[a].x, AL[b].y - AL[a].y)).1 = sx at cSn n1;generalize (rt4 (ts[a] % 4) (AL[b].x - AL[a].x, AL[b].y - AL[a].y)).2 = sy at cSn n1;refine aG tok mixed (A := [[], [], [], [0, 1], [], [], [], [4, 5], [], [], [], [8, 9], [0, 1, 2, 4, 5, 6, 8, 9, 10], [0, 1, 2, 3, 4, 5, 6, 7, 8, 9, 10, 11], [0, 1, 2, 3, 4, 5, 6, 7, 8, 9, 10, 11, 12], [0, 1, 2, 3, 4, 5, 6, 7, 8, 9, 10, 11, 12], [], []]) (an := [{}, {}, {}, {}, {}, {}, {}, {}, {}, {}, {}, {}, {}, {}, {}, {}, {}, {}]) rfl (by kernel_rfl) rfl fun _ Z9=>?_;refine Z8 ?_;refine Z8 ?_;refine aa rfl (x_m b8 rfl rfl rfl rfl ta rfl) rfl ?_;refine Z6 ?_;refine Z8 ?_;refine Z8 ?_;refine aa rfl (x_m PT.dc rfl rfl rfl rfl g1 rfl) rfl ?_;refine Z6 ?_;refine Z8 ?_;refine Z8 ?_;refine aa rfl (x_m PT.dc rfl rfl rfl rfl g2 rfl) rfl ?_;refine Z6 ?_;refine ab rfl rfl (cSn) rfl rfl rfl rfl ?_;refine Z8 ?_;refine am rfl rfl rfl ?_;refine am rfl rfl rfl ?_;refine Z7 ?_;refine Z7 ?_;refine eQ Z9 ?_;clear Z9;refine gR fun _ Z9=>?_;refine pU rfl DL rfl ?_;refine Z8 ?_;refine Z8 ?_;refine Z8 ?_;refine Z8 ?_;refine Z8 ?_;refine aj rfl (aH (c := 1 + (k : Int)) rfl (by omega)) rfl ?_;refine aI rfl rfl rfl ?_;refine av rfl rfl (by rcases k with _|k <;> rfl) rfl ?_;refine sY rfl rfl rfl rfl rfl rfl rfl rfl rfl (by decide) (Nat.le_of_ble_eq_true rfl) rfl (by simp) (z1.symm) (by simp) (by simp <;> omega) (by rcases k with _|k <;> rfl) rfl rfl ?_;refine Z7 ?_;refine eQ Z9 ?_;clear Z9;show AWP _ _ _ _ _ _;refine gR fun _ Z9=>?_;refine Z8 ?_;refine aj rfl (aH (c := ((k + 1 : Nat) : Int)) (by omega) (by omega)) rfl ?_;refine Z7 ?_;refine eQ Z9 ?_;clear Z9;refine ⟨k + 1, by omega, hg, Wk.rnB [2, 7, 8, 9, 11, 12, 17, 19, 20] [11, 214] 214 200 rfl rfl rfl ⟨rfl, rfl, rfl, rfl, rfl, rfl, rfl, rfl, rfl, trivial⟩ ⟨rfl, ?_, trivial⟩ rfl⟩;rw [<- n1]; rfl
 have hg : k = pr.length := by simp at hg; omega
 subst hg
 refine az ?_;show AWP _ _ _ _ _ _
 have gL := ju P ts n pr pr.length
 generalize dC P ts n pr pr.length = EL at *
 -- the true positions
 obtain ⟨TL, hTL⟩ : ∃ TL : List PT, TL = (List.range n).map fun i => (⟨(P i).x - (P 0).x, (P i).y - (P 0).y⟩ : PT) := ⟨_, rfl⟩
 have hTn : TL.length = n := by rw [hTL]; simp
 have hTI : ∀ p ∈ TL, p.I := fun p hp => by
  rw [hTL] at hp
  obtain ⟨i, _, rfl⟩ := List.mem_map.1 hp
  have := bP i
  have := bP 0
  exact ⟨⟨by show _ <= (P i).x - (P 0).x; omega, by show (P i).x - (P 0).x <= _; omega⟩, ⟨by show _ <= (P i).y - (P 0).y; omega, by show (P i).y - (P 0).y <= _; omega⟩⟩
 have cSp := AQ TL hTI (by omega) (by omega)
 have lT : (TL.map fun p => szW (p.x : Rat) (p.y : Rat)).length = n := by rw [List.length_map, hTn]
 have cC1 := cC _ lT (oT TL hTI)
 have cC2 := cC ml lS oS
 obtain ⟨z1, hz1, cK1⟩ := cK _ lT (oT TL hTI)
 obtain ⟨z2, hz2, cK2⟩ := cK ml lS oS
 clear cC cK oT;generalize csR ⟨nodes, CL ++ EL⟩ (TL.map fun p => szW (p.x : Rat) (p.y : Rat)) (CL ++ EL) = w1q at *;generalize csR ⟨nodes, CL ++ EL⟩ ml (CL ++ EL) = w2q at *;generalize lsQ ⟨nodes, CL ++ EL⟩ = w3q at *;generalize qzW w1q = W1 at *;generalize qzW w2q = W2 at *;generalize qzW w3q = W3 at *;generalize (TL.map fun p => szW (p.x : Rat) (p.y : Rat)) = TS at *;generalize GR.mk nodes (CL ++ EL) = GA at *;generalize GR.mk nodes CL = G1 at *
 have dle1 : decide (z1 <= 0) = true := decide_eq_true hz1
 have dle2 : decide (z2 <= 0) = true := decide_eq_true hz2
 obtain ⟨q, hq⟩ : ∃ q, pr.length = q := ⟨_, rfl⟩
 rw [hq] at cS cW gL ⊢
 have hq5 : q <= 5 := by omega
 clear hq hk
 rcases q with _ | q
 ·obtain rfl : EL = [] := List.eq_nil_of_length_eq_zero gL
  skip
  skip
  refine gQ fun _ Z9=>?_;refine Z6 ?_;refine Z8 ?_;refine Z8 ?_;refine Z8 ?_;refine ab rfl rfl (cS) rfl rfl rfl rfl ?_;refine Z8 ?_;refine am rfl rfl rfl ?_;refine am rfl rfl rfl ?_;refine Z7 ?_;refine Z7 ?_;refine eQ Z9 ?_;clear Z9;refine gQ fun _ Z9=>?_;refine Z6 ?_;refine Z8 ?_;refine Z8 ?_;refine ab rfl rfl (cW) rfl rfl rfl rfl ?_;refine Z8 ?_;refine am rfl rfl rfl ?_;refine am rfl rfl rfl ?_;refine ar rfl rfl rfl rfl rfl rfl ?_;refine ah rfl rfl rfl rfl rfl ?_;refine Z7 ?_;refine eQ Z9 ?_;clear Z9;refine ac ?_;refine gQ fun _ Z9=>?_;refine Z8 ?_;refine aj rfl (qV (c := false) rfl) rfl ?_;refine Z8 ?_;refine Z8 ?_;refine aj rfl (qV (c := false) rfl) rfl ?_;refine Z3 ?_;refine Z8 ?_;refine Z8 ?_;refine aA rfl (bI cN rfl rfl) rfl ?_;refine Z8 ?_;refine aA rfl rfl rfl ?_;refine aj rfl (qV (c := false) rfl) rfl ?_;refine Z3 ?_;refine eQ Z9 ?_;clear Z9;refine al rfl (fun h => by cases h) (fun _ => ?_);refine ae ?_;show AWP _ _ _ _ _ _;refine gQ fun _ Z9=>?_;refine Z8 ?_;refine bf (sz := _) (es := _) (f := _) (v := _) rfl (rp (l := n) rfl rfl rfl rfl rfl (Nat.le_of_ble_eq_true rfl) (by decide) rfl rfl (by omega)) rfl rfl ?_;refine Z7 ?_;refine eQ Z9 ?_;clear Z9;refine ac ?_;refine gQ fun _ Z9=>?_;refine Z7 ?_;refine eQ Z9 ?_;clear Z9;refine ai (aN (α := Nat) (fun i => mk 314 [(7, dI n), (9, V1 (dPs AL)), (17, V1 (dSs ml)), (27, .ptr 27 0), (29, .val (.one (.own 244 2 0 n))), (30, dI i)] [(27, some (.box GA.cs)), (244, some (.arr 2 ((List.range i).map (fun j => (PT.mk ((P j).x - (P 0).x) ((P j).y - (P 0).y)).dc) ++ List.replicate (n - i) p00.dc)))] [11]) (fun i => i <= n) (fun i => n - i) 0 ?_ (Nat.zero_le _) ?_)
  ·exact Wk.mk' ⟨rfl, rfl, rfl, rfl, rfl, rfl, trivial⟩ ⟨rfl, rfl, trivial⟩
  intro i hi
  refine ac ?_;refine gQ fun _ Z9=>?_;refine Z8 ?_;refine Z8 ?_;refine Z5 ?_;refine eQ Z9 ?_;clear Z9;refine al rfl (fun hg => ?_) (fun hg => ?_)
  ·have hg : i < n := by simp at hg; omega
   have g1 : i < AL.length := by omega
   have g0 : 0 < AL.length := by omega
   have e1 := hPA i g1
   have e0 := hPA 0 g0
   have b1 := bP i
   have b0 := bP 0
   have hel : ∀ el ∈ (List.range i).map (fun j => (PT.mk ((P j).x - (P 0).x) ((P j).y - (P 0).y)).dc) ++ List.replicate (n - i) p00.dc, el.length = 2 := by
    intro el h
    rcases List.mem_append.1 h with h | h
    ·obtain ⟨_, _, rfl⟩ := List.mem_map.1 h; rfl
    ·rw [List.eq_of_mem_replicate h]; rfl
   have hlen : i < ((List.range i).map (fun j => (PT.mk ((P j).x - (P 0).x) ((P j).y - (P 0).y)).dc) ++ List.replicate (n - i) p00.dc).length := by simp; omega
   have hset : ((List.range i).map (fun j => (PT.mk ((P j).x - (P 0).x) ((P j).y - (P 0).y)).dc) ++ List.replicate (n - i) p00.dc).set i (PT.mk (AL[i].x - AL[0].x) (AL[i].y - AL[0].y)).dc = (List.range (i + 1)).map (fun j => (PT.mk ((P j).x - (P 0).x) ((P j).y - (P 0).y)).dc) ++ List.replicate (n - (i + 1)) p00.dc := by
    obtain ⟨k, hk⟩ : ∃ k, n - i = k + 1 := ⟨n - i - 1, by omega⟩
    rw [hk, List.replicate_succ, mo (by simp), show n - (i + 1) = k by omega, List.range_succ, List.map_append, List.append_assoc, e1, e0]; rfl
   have r1 : -4000 <= AL[i].x - AL[0].x /\ AL[i].x - AL[0].x <= 4000 := by rw [e1, e0]; omega
   have r2 : -4000 <= AL[i].y - AL[0].y /\ AL[i].y - AL[0].y <= 4000 := by rw [e1, e0]; omega
   generalize (List.range i).map (fun j => (PT.mk ((P j).x - (P 0).x) ((P j).y - (P 0).y)).dc) ++ List.replicate (n - i) p00.dc = es at hel hlen hset ⊢;refine ae ?_;show AWP _ _ _ _ _ _;refine ac ?_;refine ai ?_;refine bg tok mixed (A := [[], [], [], [], [], [2, 3], [2, 3, 4], [], [], [7], [7, 8], [2, 3, 4, 5, 7, 8, 9], [], [], [], [12, 13], [12, 13, 14], [], [], [17], [17, 18], [12, 13, 14, 15, 17, 18, 19], [2, 3, 4, 5, 6, 7, 8, 9, 10, 12, 13, 14, 15, 16, 17, 18, 19, 20], [], []]) (an := [{}, {}, {}, {}, {}, {}, {}, {}, {}, {}, {}, {}, {}, {}, {}, {}, {}, {}, {}, {}, {}, {}, {}, {}, {}]) rfl (by kernel_rfl) rfl fun _ Z9=>?_;refine Z8 ?_;refine Z8 ?_;refine Z8 ?_;refine Z8 ?_;refine aa rfl (x_m PT.dc rfl rfl rfl rfl g1 rfl) rfl ?_;refine Z4 ?_;refine Z6 ?_;refine Z8 ?_;refine aa rfl (x_m PT.dc (i := 0) rfl rfl rfl rfl g0 rfl) rfl ?_;refine Z4 ?_;refine Z6 ?_;refine aj rfl (bD (c := AL[i].x - AL[0].x) rfl (by omega)) rfl ?_;refine Z8 ?_;refine Z8 ?_;refine aa rfl (x_m PT.dc rfl rfl rfl rfl g1 rfl) rfl ?_;refine Z4 ?_;refine Z6 ?_;refine Z8 ?_;refine aa rfl (x_m PT.dc (i := 0) rfl rfl rfl rfl g0 rfl) rfl ?_;refine Z4 ?_;refine Z6 ?_;refine aj rfl (bD (c := AL[i].y - AL[0].y) rfl (by omega)) rfl ?_;refine aI rfl rfl rfl ?_;refine aa rfl (x_o (i := i) (j := i) rfl rfl rfl rfl rfl hg (Nat.zero_add _)) rfl ?_;refine ah rfl (Hc (p := ⟨AL[i].x - AL[0].x, AL[i].y - AL[0].y⟩) rfl rfl rfl hlen hel) rfl rfl rfl ?_;refine eQ Z9 ?_;clear Z9;rw [hset];show AWP _ _ _ _ _ _;refine gR fun _ Z9=>?_;refine Z8 ?_;refine aj rfl (aH (c := ((i + 1 : Nat) : Int)) (by omega) (by omega)) rfl ?_;refine Z7 ?_;refine eQ Z9 ?_;clear Z9;exact ⟨i + 1, by omega, hg, Wk.mk' ⟨rfl, rfl, rfl, rfl, rfl, rfl, trivial⟩ ⟨rfl, rfl, trivial⟩⟩
  have hg : n = i := by simp at hg; omega
  subst hg
  rw [Nat.sub_self, List.replicate_zero, List.append_nil];refine az ?_;show AWP _ _ _ _ _ _;refine de [17, 27, 29] [27, 244] 244 [(17, V1 (dSs ml)), (27, .ptr 27 0), (29, V1 (dPs TL))] [(27, some (.box GA.cs))] rfl ?_ ⟨rfl, trivial⟩ ?_
  ·exact ⟨rfl, rfl, bw (by rw [hTL, List.map_map]; rfl) (by rw [hTL]; simp), trivial⟩
  refine gQ fun _ Z9=>?_;refine Z6 ?_;refine ab rfl rfl (cL) rfl rfl rfl rfl ?_;refine Z8 ?_;refine am rfl rfl rfl ?_;refine am rfl rfl rfl ?_;refine ar rfl rfl rfl rfl rfl rfl ?_;refine ah rfl rfl rfl rfl rfl ?_;refine Z7 ?_;refine eQ Z9 ?_;clear Z9;refine aG tok mixed (A := [[], [], [], [1], [0, 1, 2], [0, 1, 2, 3], [0, 1, 2, 3], [], [], []]) (an := [{}, {}, {}, {}, {}, {}, {}, { c := [282, 283] }, {}, {}]) rfl (by kernel_rfl) rfl fun _ Z9=>?_;refine Z6 ?_;refine Z8 ?_;refine ab rfl rfl (cSp) rfl rfl rfl rfl ?_;refine ab rfl rfl (cC1) rfl rfl rfl rfl ?_;refine Z8 ?_;refine am rfl rfl rfl ?_;refine am rfl rfl rfl ?_;refine ar rfl rfl rfl rfl rfl rfl ?_;refine ah rfl rfl rfl rfl rfl ?_;refine Z7 ?_;refine eQ Z9 ?_;clear Z9;refine gQ fun _ Z9=>?_;refine Z6 ?_;refine Z8 ?_;refine ab rfl rfl (cC2) rfl rfl rfl rfl ?_;refine Z8 ?_;refine am rfl rfl rfl ?_;refine am rfl rfl rfl ?_;refine ar rfl rfl rfl rfl rfl rfl ?_;refine ah rfl rfl rfl rfl rfl ?_;refine Z7 ?_;refine eQ Z9 ?_;clear Z9;refine gQ fun _ Z9=>?_;refine Z8 ?_;refine aj rfl (mX rfl) rfl ?_;refine Z8 ?_;refine Z8 ?_;refine aj rfl (mX rfl) rfl ?_;refine Z3 ?_;refine Z8 ?_;refine Z8 ?_;refine aj rfl (mX rfl) rfl ?_;refine Z3 ?_;refine Z8 ?_;refine Z6 ?_;refine Z6 ?_;refine ab rfl rfl (cK1) rfl rfl rfl rfl ?_;refine aj rfl (oE dle1) rfl ?_;refine Z3 ?_;refine Z8 ?_;refine Z6 ?_;refine Z6 ?_;refine ab rfl rfl (cK2) rfl rfl rfl rfl ?_;refine aj rfl (oE dle2) rfl ?_;refine Z3 ?_;refine Z7 ?_;refine eQ Z9 ?_;clear Z9;exact ag aM
 ·skip
  refine de [2, 7, 8, 9, 11, 12, 17, 19] [11, 200] 200 [(7, dI n), (9, V1 (dPs AL)), (11, .ptr 11 0), (12, dI T0), (17, V1 (dSs ml)), (19, V1 (dLs EL))] [(11, some (.box G1.cs))] rfl ?_ ⟨rfl, trivial⟩ ?_;exact ⟨rfl, rfl, rfl, rfl, rfl, bw rfl (by rw [List.length_map, gL]), trivial⟩;refine gQ fun _ Z9=>?_;refine Z6 ?_;refine Z8 ?_;refine Z8 ?_;refine Z8 ?_;refine ab rfl rfl (cS) rfl rfl rfl rfl ?_;refine Z8 ?_;refine am rfl rfl rfl ?_;refine am rfl rfl rfl ?_;refine Z7 ?_;refine Z7 ?_;refine eQ Z9 ?_;clear Z9;refine gQ fun _ Z9=>?_;refine Z6 ?_;refine Z8 ?_;refine Z8 ?_;refine ab rfl rfl (cW) rfl rfl rfl rfl ?_;refine Z8 ?_;refine am rfl rfl rfl ?_;refine am rfl rfl rfl ?_;refine ar rfl rfl rfl rfl rfl rfl ?_;refine ah rfl rfl rfl rfl rfl ?_;refine Z7 ?_;refine eQ Z9 ?_;clear Z9;refine ac ?_;refine gQ fun _ Z9=>?_;refine Z8 ?_;refine aj rfl (qV (c := false) rfl) rfl ?_;refine Z8 ?_;refine Z8 ?_;refine aj rfl (qV (c := false) rfl) rfl ?_;refine Z3 ?_;refine Z8 ?_;refine Z8 ?_;refine aA rfl (bI cN rfl rfl) rfl ?_;refine Z8 ?_;refine aA rfl (bI LK.dc rfl rfl) rfl ?_;refine aj rfl (qV (c := false) (by rw [gL]; simp)) rfl ?_;refine Z3 ?_;refine eQ Z9 ?_;clear Z9;refine al rfl (fun h => by cases h) (fun _ => ?_);refine ae ?_;show AWP _ _ _ _ _ _;refine gQ fun _ Z9=>?_;refine Z8 ?_;refine bf (sz := _) (es := _) (f := _) (v := _) rfl (rp (l := n) rfl rfl rfl rfl rfl (Nat.le_of_ble_eq_true rfl) (by decide) rfl rfl (by omega)) rfl rfl ?_;refine Z7 ?_;refine eQ Z9 ?_;clear Z9;refine ac ?_;refine gQ fun _ Z9=>?_;refine Z7 ?_;refine eQ Z9 ?_;clear Z9;refine ai (aN (α := Nat) (fun i => mk 314 [(7, dI n), (9, V1 (dPs AL)), (17, V1 (dSs ml)), (27, .ptr 27 0), (29, .val (.one (.own 244 2 0 n))), (30, dI i)] [(27, some (.box GA.cs)), (244, some (.arr 2 ((List.range i).map (fun j => (PT.mk ((P j).x - (P 0).x) ((P j).y - (P 0).y)).dc) ++ List.replicate (n - i) p00.dc)))] [11]) (fun i => i <= n) (fun i => n - i) 0 ?_ (Nat.zero_le _) ?_)
  ·exact Wk.mk' ⟨rfl, rfl, rfl, rfl, rfl, rfl, trivial⟩ ⟨rfl, rfl, trivial⟩
  intro i hi
  refine ac ?_;refine gQ fun _ Z9=>?_;refine Z8 ?_;refine Z8 ?_;refine Z5 ?_;refine eQ Z9 ?_;clear Z9;refine al rfl (fun hg => ?_) (fun hg => ?_)
  ·have hg : i < n := by simp at hg; omega
   have g1 : i < AL.length := by omega
   have g0 : 0 < AL.length := by omega
   have e1 := hPA i g1
   have e0 := hPA 0 g0
   have b1 := bP i
   have b0 := bP 0
   have hel : ∀ el ∈ (List.range i).map (fun j => (PT.mk ((P j).x - (P 0).x) ((P j).y - (P 0).y)).dc) ++ List.replicate (n - i) p00.dc, el.length = 2 := by
    intro el h
    rcases List.mem_append.1 h with h | h
    ·obtain ⟨_, _, rfl⟩ := List.mem_map.1 h; rfl
    ·rw [List.eq_of_mem_replicate h]; rfl
   have hlen : i < ((List.range i).map (fun j => (PT.mk ((P j).x - (P 0).x) ((P j).y - (P 0).y)).dc) ++ List.replicate (n - i) p00.dc).length := by simp; omega
   have hset : ((List.range i).map (fun j => (PT.mk ((P j).x - (P 0).x) ((P j).y - (P 0).y)).dc) ++ List.replicate (n - i) p00.dc).set i (PT.mk (AL[i].x - AL[0].x) (AL[i].y - AL[0].y)).dc = (List.range (i + 1)).map (fun j => (PT.mk ((P j).x - (P 0).x) ((P j).y - (P 0).y)).dc) ++ List.replicate (n - (i + 1)) p00.dc := by
    obtain ⟨k, hk⟩ : ∃ k, n - i = k + 1 := ⟨n - i - 1, by omega⟩
    rw [hk, List.replicate_succ, mo (by simp), show n - (i + 1) = k by omega, List.range_succ, List.map_append, List.append_assoc, e1, e0]; rfl
   have r1 : -4000 <= AL[i].x - AL[0].x /\ AL[i].x - AL[0].x <= 4000 := by rw [e1, e0]; omega
   have r2 : -4000 <= AL[i].y - AL[0].y /\ AL[i].y - AL[0].y <= 4000 := by rw [e1, e0]; omega
   generalize (List.range i).map (fun j => (PT.mk ((P j).x - (P 0).x) ((P j).y - (P 0).y)).dc) ++ List.replicate (n - i) p00.dc = es at hel hlen hset ⊢;refine ae ?_;show AWP _ _ _ _ _ _;refine ac ?_;refine ai ?_;refine bg tok mixed (A := [[], [], [], [], [], [2, 3], [2, 3, 4], [], [], [7], [7, 8], [2, 3, 4, 5, 7, 8, 9], [], [], [], [12, 13], [12, 13, 14], [], [], [17], [17, 18], [12, 13, 14, 15, 17, 18, 19], [2, 3, 4, 5, 6, 7, 8, 9, 10, 12, 13, 14, 15, 16, 17, 18, 19, 20], [], []]) (an := [{}, {}, {}, {}, {}, {}, {}, {}, {}, {}, {}, {}, {}, {}, {}, {}, {}, {}, {}, {}, {}, {}, {}, {}, {}]) rfl (by kernel_rfl) rfl fun _ Z9=>?_;refine Z8 ?_;refine Z8 ?_;refine Z8 ?_;refine Z8 ?_;refine aa rfl (x_m PT.dc rfl rfl rfl rfl g1 rfl) rfl ?_;refine Z4 ?_;refine Z6 ?_;refine Z8 ?_;refine aa rfl (x_m PT.dc (i := 0) rfl rfl rfl rfl g0 rfl) rfl ?_;refine Z4 ?_;refine Z6 ?_;refine aj rfl (bD (c := AL[i].x - AL[0].x) rfl (by omega)) rfl ?_;refine Z8 ?_;refine Z8 ?_;refine aa rfl (x_m PT.dc rfl rfl rfl rfl g1 rfl) rfl ?_;refine Z4 ?_;refine Z6 ?_;refine Z8 ?_;refine aa rfl (x_m PT.dc (i := 0) rfl rfl rfl rfl g0 rfl) rfl ?_;refine Z4 ?_;refine Z6 ?_;refine aj rfl (bD (c := AL[i].y - AL[0].y) rfl (by omega)) rfl ?_;refine aI rfl rfl rfl ?_;refine aa rfl (x_o (i := i) (j := i) rfl rfl rfl rfl rfl hg (Nat.zero_add _)) rfl ?_;refine ah rfl (Hc (p := ⟨AL[i].x - AL[0].x, AL[i].y - AL[0].y⟩) rfl rfl rfl hlen hel) rfl rfl rfl ?_;refine eQ Z9 ?_;clear Z9;rw [hset];show AWP _ _ _ _ _ _;refine gR fun _ Z9=>?_;refine Z8 ?_;refine aj rfl (aH (c := ((i + 1 : Nat) : Int)) (by omega) (by omega)) rfl ?_;refine Z7 ?_;refine eQ Z9 ?_;clear Z9;exact ⟨i + 1, by omega, hg, Wk.mk' ⟨rfl, rfl, rfl, rfl, rfl, rfl, trivial⟩ ⟨rfl, rfl, trivial⟩⟩
  have hg : n = i := by simp at hg; omega
  subst hg
  rw [Nat.sub_self, List.replicate_zero, List.append_nil];refine az ?_;show AWP _ _ _ _ _ _;refine de [17, 27, 29] [27, 244] 244 [(17, V1 (dSs ml)), (27, .ptr 27 0), (29, V1 (dPs TL))] [(27, some (.box GA.cs))] rfl ?_ ⟨rfl, trivial⟩ ?_
  ·exact ⟨rfl, rfl, bw (by rw [hTL, List.map_map]; rfl) (by rw [hTL]; simp), trivial⟩
  refine gQ fun _ Z9=>?_;refine Z6 ?_;refine ab rfl rfl (cL) rfl rfl rfl rfl ?_;refine Z8 ?_;refine am rfl rfl rfl ?_;refine am rfl rfl rfl ?_;refine ar rfl rfl rfl rfl rfl rfl ?_;refine ah rfl rfl rfl rfl rfl ?_;refine Z7 ?_;refine eQ Z9 ?_;clear Z9;refine aG tok mixed (A := [[], [], [], [1], [0, 1, 2], [0, 1, 2, 3], [0, 1, 2, 3], [], [], []]) (an := [{}, {}, {}, {}, {}, {}, {}, { c := [282, 283] }, {}, {}]) rfl (by kernel_rfl) rfl fun _ Z9=>?_;refine Z6 ?_;refine Z8 ?_;refine ab rfl rfl (cSp) rfl rfl rfl rfl ?_;refine ab rfl rfl (cC1) rfl rfl rfl rfl ?_;refine Z8 ?_;refine am rfl rfl rfl ?_;refine am rfl rfl rfl ?_;refine ar rfl rfl rfl rfl rfl rfl ?_;refine ah rfl rfl rfl rfl rfl ?_;refine Z7 ?_;refine eQ Z9 ?_;clear Z9;refine gQ fun _ Z9=>?_;refine Z6 ?_;refine Z8 ?_;refine ab rfl rfl (cC2) rfl rfl rfl rfl ?_;refine Z8 ?_;refine am rfl rfl rfl ?_;refine am rfl rfl rfl ?_;refine ar rfl rfl rfl rfl rfl rfl ?_;refine ah rfl rfl rfl rfl rfl ?_;refine Z7 ?_;refine eQ Z9 ?_;clear Z9;refine gQ fun _ Z9=>?_;refine Z8 ?_;refine aj rfl (mX rfl) rfl ?_;refine Z8 ?_;refine Z8 ?_;refine aj rfl (mX rfl) rfl ?_;refine Z3 ?_;refine Z8 ?_;refine Z8 ?_;refine aj rfl (mX rfl) rfl ?_;refine Z3 ?_;refine Z8 ?_;refine Z6 ?_;refine Z6 ?_;refine ab rfl rfl (cK1) rfl rfl rfl rfl ?_;refine aj rfl (oE dle1) rfl ?_;refine Z3 ?_;refine Z8 ?_;refine Z6 ?_;refine Z6 ?_;refine ab rfl rfl (cK2) rfl rfl rfl rfl ?_;refine aj rfl (oE dle2) rfl ?_;refine Z3 ?_;refine Z7 ?_;refine eQ Z9 ?_;clear Z9;exact ag aM
end Go.Proofs.YtnoildlijhapaaaGreatDoor
