/- Part of a proof that a Go function answers true for every input. No condition. -/
import Derived.Test.YtceacleokgoooaaGreatDoorA4
import Derived.Laws.Strings2
import Derived.Shelf.Slices.Cells
import Derived.Shelf.Strings.OnBuilder
import Derived.Test.YtceacleokgoooaaGreatDoorProg
import Derived.Shelf.Strconv.Itoa1
import Derived.Shelf.Strconv.Itoa2
import Derived.OpenShut
import Derived.LaidMore
import Derived.MakeChecks
import Derived.LaidSub
import Derived.Lib.ItoaMem
set_option linter.unusedVariables false
set_option linter.unusedSimpArgs false
set_option linter.unusedSectionVars false
/- The spots with the least cost, plainly. No condition. -/
namespace Go.Proofs.YtceacleokgoooaaGreatDoor
attribute [local irreducible] aD

theorem oz (f : Nat -> Rat) : ∀ n : Nat, sm (n + 1) f = f 0 + sm n (fun i => f (i + 1))
 | 0 => by show (0 : Rat) + f 0 = f 0 + 0; grind
 | n + 1 => by rw [bW, oz f n, bW]; grind
def dX (g : GR) (l : LK) : Rat := alX (frN g l) l
def dY (g : GR) (l : LK) : Rat := alY (frN g l) l
section
variable {g : GR} (gv : GV g)
include gv
theorem zM : g.nodes.length = (g.nodes.length - 1) + 1 := by have := gv.n1; omega
end
def nmM (g : GR) : List (List RW) := nrM g.nodes.length (lapM g.links) (g.nodes.length - 1)
def nmX (g : GR) : List RW := nrX (nrL g g.links).1 (g.nodes.length - 1)
def nmY (g : GR) : List RW := nrX (nrL g g.links).2 (g.nodes.length - 1)
theorem jl (g : GR) : (nmM g).length = g.nodes.length - 1 := by simp [nmM, nrM]
theorem oW (X : Nat -> Rat) (k : Nat) : (nrX X k).length = k := by simp [nrX]
theorem zk {g : GR} {a b : Nat} (ha : a < g.nodes.length - 1) (hb : b < g.nodes.length - 1) : mtv (nmM g) a b = qzW ((lapM g.links (a + 1) (b + 1) : Int) : Rat) := by
 have e : (nmM g).getD a [] = ((List.range g.nodes.length).map fun j => qzW ((lapM g.links (a + 1) j : Int) : Rat)).drop 1 := by simp [nmM, nrM, pR, ha]
 unfold mtv
 rw [e, List.getD_eq_getElem?_getD, List.getElem?_drop, List.getElem?_map, List.getElem?_range (by omega)]
 show qzW ((lapM g.links (a + 1) (1 + b) : Int) : Rat) = _
 rw [Nat.add_comm 1 b]
theorem zj {X : Nat -> Rat} {k i : Nat} (h : i < k) : iB (nrX X k) i = X (i + 1) := by
 unfold iB nrX
 rw [List.getD_eq_getElem?_getD, List.getElem?_map, List.getElem?_range h];exact bq _
def cnB (g : GR) : Bool := decide (∀ v, v < g.nodes.length -> lab g v = lab g 0)
def slX (g : GR) (b : List RW) (v : Nat) : Rat := if v = 0 then 0 else slv (cH (nmM g)) (iB b) (g.nodes.length - 1) (v - 1)
section
variable {g : GR} (gv : GV g)
include gv
theorem uO {a b : Nat} (ha : a < g.nodes.length - 1) (hb : b < g.nodes.length - 1) : cH (nmM g) a b = lpl id (wls g.links) (a + 1) (b + 1) := by
 unfold cH; rw [zk ha hb, bq, BA (gLV gv)]
theorem rK {a b : Nat} (ha : a < g.nodes.length - 1) (hb : b < g.nodes.length - 1) : cH (nmM g) a b = cH (nmM g) b a := by
 rw [uO gv ha hb, uO gv hb ha, tv]
theorem Dx {y : Nat -> Rat} (h0 : y 0 = 0) {a : Nat} (ha : a < g.nodes.length - 1) : sm (g.nodes.length - 1) (fun j => cH (nmM g) a j * y (j + 1)) = LU y (wls g.links) (a + 1) := by
 rw [<- yn (n := g.nodes.length) (a + 1) (vC gv), zM gv, oz, h0];rw [aE fun j hj => by rw [uO gv ha hj]]; grind
theorem vZ {y : Nat -> Rat} (h0 : y 0 = 0) : fm (g.nodes.length - 1) (cH (nmM g)) (fun i => y (i + 1)) = EN y y (wls g.links) := by
 unfold fm
 rw [aE fun i hi => by rw [Dx gv h0 hi], <- yo (n := g.nodes.length) (u := y) (v := y) (vC gv), zM gv, oz, h0];simp only [Nat.add_sub_cancel]; grind
theorem uN : pP (cH (nmM g)) (g.nodes.length - 1) = cnB g := by
 have hn := gv.n1
 rw [Bool.eq_iff_iff]
 constructor
 ·intro h
  have hd := of_decide_eq_true h
  refine decide_eq_true fun v hv => Classical.byContradiction fun hne => ?_
  have hv0 : v ≠ 0 := fun e => hne (by rw [e])
  have p := CA (B := cH (nmM g)) (n := g.nodes.length - 1) (fun i j hi hj => rK gv hi hj) hd (x := fun i => (fun u => if lab g u = lab g v then (1 : Rat) else 0) (i + 1)) ⟨v - 1, by omega, by
   show (if lab g (v - 1 + 1) = lab g v then (1 : Rat) else 0) ≠ 0
   rw [show v - 1 + 1 = v by omega, if_pos rfl]; grind⟩
  rw [vZ gv (y := fun u => if lab g u = lab g v then (1 : Rat) else 0) (if_neg fun e => hne e.symm)] at p
  have z : ∀ ls : List WL, (∀ x ∈ ls, lab g x.f = lab g x.t) -> EN (fun u => if lab g u = lab g v then (1 : Rat) else 0) (fun u => if lab g u = lab g v then (1 : Rat) else 0) ls = 0 := by
   intro ls
   induction ls with
   | nil => intro _; rfl
   | cons x xs ih =>
    intro h
    simp only [EN];rw [ih fun y hy => h y (List.mem_cons_of_mem _ hy), h x List.mem_cons_self]; grind
  rw [z _ fun x hx => zw gv hx] at p;exact absurd p (by decide)
 ·intro h
  have hc := of_decide_eq_true h
  refine decide_eq_true (Dr (fun i j hi hj => rK gv hi hj) fun x hx => ?_)
  obtain ⟨i, hi, hx⟩ := hx
  have e : fm (g.nodes.length - 1) (cH (nmM g)) x = EN (fun v => if v = 0 then 0 else x (v - 1)) (fun v => if v = 0 then 0 else x (v - 1)) (wls g.links) := vZ gv (y := fun v => if v = 0 then 0 else x (v - 1)) rfl
  rw [e]
  have nn := wT (u := fun v => if v = 0 then 0 else x (v - 1)) (Cn gv)
  refine Classical.byContradiction fun hz => hx ?_
  have f := nT (u := fun v => if v = 0 then 0 else x (v - 1)) (Cn gv) (by grind)
  have c := (wt gv (u := i + 1) (v := 0) (by omega) (by omega)).1 (hc (i + 1) (by omega))
  rw [<- rc] at c;exact Ak (y := fun v => if v = 0 then 0 else x (v - 1)) f c
end
def mnX (g : GR) : Nat -> Rat := slX g (nmX g)
def mnY (g : GR) : Nat -> Rat := slX g (nmY g)
def mnL (g : GR) : List SP := (List.range g.nodes.length).map fun v => szW (mnX g v) (mnY g v)
def iC (g : GR) : List SP × Int := if bz g = true then (if cnB g = true then (mnL g, 0) else ([], 10)) else ([], 1)
section
variable {g : GR} (gv : GV g)
include gv
end
/-! ### Words -/
structure SM (g : GR) : Prop where
 n6 : g.nodes.length <= 6
 l16 : g.links.length <= 16
 ok : ∀ r ∈ g.nodes, r.OK 2
theorem Bt {g : GR} (gv : GV g) (ok : ∀ r ∈ g.nodes, r.OK 2) (k : Nat) (hk : k <= g.links.length) (i : Nat) : ql ((nrL g (g.links.take k)).1 i) <= 1 + k * 18 /\ ql ((nrL g (g.links.take k)).2 i) <= 1 + k * 18 := by
 induction k generalizing i with
 | zero => exact ⟨jh, jh⟩
 | succ k ih =>
  have ih := ih (by omega)
  have hm : g.links[k] ∈ g.links := List.getElem_mem (by omega)
  have lv := gLV gv _ hm
  have o := pK (ok _ (lQ lv)) rfl lv.ix lv.iy (m := 15) rfl
  have o1 := o.qx rfl
  have o2 := o.qy rfl
  rw [alS, dZ] at o1;rw [alS, dV] at o2
  have lw := lv.w
  have w1 : ql ((cfN i g.links[k] : Int) : Rat) <= 2 := dH (by unfold cfN; (repeat' split) <;> exact ⟨by omega, by omega⟩)
  rw [oX g (by omega)]
  obtain ⟨a1, a2⟩ := Dv (g := g) (nrL g (g.links.take k)) lv i
  rw [a1, a2];exact ⟨Nat.le_trans (bA (ih i).1 (aJ w1 o1)) (by omega), Nat.le_trans (bA (ih i).2 (aJ w1 o2)) (by omega)⟩
theorem sZ {f : Nat -> Rat} {M : Nat} : ∀ {k : Nat}, (∀ t, t < k -> ql (f t) <= M) -> ql (sm k f) <= 1 + k * (M + 1)
 | 0, _ => by show ql (0 : Rat) <= _; exact Nat.le_trans jh (by omega)
 | k + 1, h => by
  have ih := sZ (k := k) fun t ht => h t (by omega)
  rw [bW];exact Nat.le_trans (bA ih (h k (by omega))) (by rw [Nat.succ_mul]; omega)
theorem A1 {B : Nat -> Nat -> Rat} {n m J c : Nat} (hs : ∀ i j, i < n -> j < n -> B i j = B j i) (hB : ∀ i j, i < n -> j < n -> IB m (B i j)) {b : Nat -> Rat} (hb : ∀ i, i < n -> ql (b i) <= c) (hn : n <= 16) (hJ : n * (m + 4) < 32 * J) (hd : ∀ k, k < n -> 0 < DD B k) {i : Nat} (hi : i < n) : ql (slv B b n i) <= 1 + n * (J + c + 1) := by
 have hd' : ∀ k, k < n -> DD B k ≠ 0 := fun k hk => by have := hd k hk; grind
 have e : sm n (fun j => slv B (fun r => if r = j then 1 else 0) n i * b j) = slv B b n i := by
  refine yp (x := fun i => sm n (fun j => slv B (fun r => if r = j then 1 else 0) n i * b j)) hs hd (fun r hr => ?_) hi;rw [aE (g := fun k => sm n (fun j => B r k * slv B (fun r => if r = j then 1 else 0) n k * b j)) (fun k _ => by rw [<- jd]; exact aE fun j _ => by grind), lh]
  rw [aE (g := fun j => (if r = j then 1 else 0) * b j) (fun j hj => by
   have := uv (B := B) (n := n) (b := fun r => if r = j then 1 else 0) hs hd' hr
   rw [<- this, <- ow])]
  rw [et (j := r) _ hr fun j _ hne => by rw [if_neg (fun e => hne e.symm)]; grind, if_pos rfl]; grind
 rw [<- e];refine sZ fun j hj => aJ (C5 (m := m) (J := J) hs hB (fun a _ => ?_) hn hJ hd' hi) (hb j hj)
 show IB m (if a = j then 1 else 0)
 split
 ·exact vu.mono (Nat.zero_le _)
 ·exact Cm m
structure NRM (g : GR) : Prop where
 len : (nmM g).length = g.nodes.length - 1
 rows : ∀ r ∈ nmM g, r.length = g.nodes.length - 1
 val : iz (nmM g) = true
 ok : okM 65536 (nmM g)
 fac : BV (cH (nmM g)) (g.nodes.length - 1)
 sol : pP (cH (nmM g)) (g.nodes.length - 1) = true -> yl (cH (nmM g)) (iB (nmX g)) (g.nodes.length - 1) /\ yl (cH (nmM g)) (iB (nmY g)) (g.nodes.length - 1)
 bx : ∀ x ∈ nmX g, x.OK 305
 bY : ∀ x ∈ nmY g, x.OK 305
 qx : cnB g = true -> ∀ v, v < g.nodes.length -> ql (mnX g v) <= 1600 /\ ql (mnY g v) <= 1600
theorem vY {g : GR} (gv : GV g) (sm' : SM g) : NRM g := by
 have n6 := sm'.n6
 have n1 := gv.n1
 have hM : ∀ a b, -50331648 <= lapM g.links a b /\ lapM g.links a b <= 50331648 := fun a b => by
  have h1 := wo g.links (gLV gv) a b
  have h2 := gv.l
  omega
 have hIB : ∀ a b, a < g.nodes.length - 1 -> b < g.nodes.length - 1 -> IB 26 (cH (nmM g) a b) := fun a b ha hb => by
  unfold cH; rw [zk ha hb, bq]
  have := hM (a + 1) (b + 1)
  exact ⟨_, rfl, by
   have e : (2 : Nat) ^ 26 = 67108864 := by decide
   rw [e]; omega⟩
 have hs : ∀ a b, a < g.nodes.length - 1 -> b < g.nodes.length - 1 -> cH (nmM g) a b = cH (nmM g) b a := fun a b ha hb => rK gv ha hb
 have hJ : (g.nodes.length - 1) * (26 + 4) < 32 * 5 := by omega
 have hn16 : g.nodes.length - 1 <= 16 := by omega
 have qr : ∀ v, ql ((nrL g g.links).1 v) <= 305 /\ ql ((nrL g g.links).2 v) <= 305 := fun v => by
  have h := Bt gv sm'.ok g.links.length (Nat.le_refl _) v
  rw [List.take_length] at h
  have := sm'.l16
  exact ⟨by omega, by omega⟩
 have qbx : ∀ i, i < g.nodes.length - 1 -> ql (iB (nmX g) i) <= 305 := fun i hi => by rw [nmX, zj hi]; exact (qr _).1
 have qby : ∀ i, i < g.nodes.length - 1 -> ql (iB (nmY g) i) <= 305 := fun i hi => by rw [nmY, zj hi]; exact (qr _).2
 have hrows : ∀ r ∈ nmM g, r.length = g.nodes.length - 1 := fun r hr => by
  obtain ⟨a, _, rfl⟩ := List.mem_map.1 hr
  simp [pR]
 have sol : ∀ b : Nat -> Rat, (∀ i, i < g.nodes.length - 1 -> ql (b i) <= 305) -> pP (cH (nmM g)) (g.nodes.length - 1) = true -> yl (cH (nmM g)) b (g.nodes.length - 1) /\ ∀ i, i < g.nodes.length - 1 -> ql (slv (cH (nmM g)) b (g.nodes.length - 1) i) <= 1600 := fun b hb hp => by
  have hd := of_decide_eq_true hp
  have hd' : ∀ k, k < g.nodes.length - 1 -> DD (cH (nmM g)) k ≠ 0 := fun k hk => by have := hd k hk; grind
  have qL : ∀ a b, a < g.nodes.length - 1 -> b < a -> ql (LL (cH (nmM g)) a b) <= 5 := fun a b ha hb => CM hs hIB hn16 hJ ha hb fun k' hk' => hd' k' (by omega)
  have q2 : ∀ i, i < g.nodes.length - 1 -> ql (slv (cH (nmM g)) b (g.nodes.length - 1) i) <= 1600 := fun i hi => by
   have := A1 hs hIB hb hn16 hJ hd hi
   have h5 : (g.nodes.length - 1) * (5 + 305 + 1) <= 5 * (5 + 305 + 1) := Nat.mul_le_mul_right _ (by omega)
   omega
  refine ⟨⟨fun a ha => ?_, fun a ha => Nat.le_trans (q2 a ha) (by decide)⟩, q2⟩
  have h1 := DM qL hb a ha
  have h2 : 2 ^ a <= 2 ^ 5 := Nat.pow_le_pow_right (by decide) (by omega)
  have h3 : (305 + 5 + 1) * 2 ^ a <= 311 * 2 ^ 5 := Nat.mul_le_mul_left _ h2
  have h4 : 311 * 2 ^ 5 = 9952 := by decide
  omega
 refine ⟨jl g, hrows, ?_, ?_, ?_, fun hp => ⟨(sol _ qbx hp).1, (sol _ qby hp).1⟩, ?_, ?_, ?_⟩
 ·refine decide_eq_true ⟨by rw [jl]; omega, fun r hr => by rw [jl]; exact hrows r hr, fun a ha b hb => ?_⟩;rw [jl] at ha;exact hs a b ha (by omega)
 ·intro r hr x hx
  obtain ⟨a, _, rfl⟩ := List.mem_map.1 hr
  obtain ⟨w, _, rfl⟩ := List.mem_map.1 (List.mem_of_mem_drop hx)
  have := hM (a + 1) w
  exact (bd (dH ⟨by omega, by omega⟩)).mono rfl
 ·intro a ha hd
  have hd' : ∀ k, k < a -> DD (cH (nmM g)) k ≠ 0 := fun k hk => by have := hd k hk; grind
  exact ⟨Nat.le_trans (EQ hs hIB hn16 hJ ha hd') (by decide), fun b hb => Nat.le_trans (CM hs hIB hn16 hJ ha hb fun k' hk' => hd' k' (by omega)) (by decide)⟩
 ·intro x hx
  obtain ⟨a, _, rfl⟩ := List.mem_map.1 hx
  exact bd (qr _).1
 ·intro x hx
  obtain ⟨a, _, rfl⟩ := List.mem_map.1 hx
  exact bd (qr _).2
 ·intro hc v hv
  rw [<- uN gv] at hc
  unfold mnX mnY slX
  by_cases e : v = 0
  ·rw [if_pos e, if_pos e]; exact ⟨by decide, by decide⟩
  ·rw [if_neg e, if_neg e];exact ⟨(sol _ qbx hc).2 _ (by omega), (sol _ qby hc).2 _ (by omega)⟩
end Go.Proofs.YtceacleokgoooaaGreatDoor

/- Costs and gradients by coordinates. No condition. -/
namespace Go.Proofs.YtceacleokgoooaaGreatDoor
attribute [local irreducible] aD

def xs (s : List SP) (v : Nat) : Rat := (s.getD v sp0).vx
def ys (s : List SP) (v : Nat) : Rat := (s.getD v sp0).vy
theorem Eb {g : GR} {s : List SP} {l : LK} : (rsG g s l).vx = xs s l.t.toNat - xs s l.f.toNat - dX g l /\ (rsG g s l).vy = ys s l.t.toNat - ys s l.f.toNat - dY g l := by
 unfold rsG rsS
 rw [dZ, dV];refine ⟨?_, ?_⟩
 ·show (atS s l.t).vx - ((atS s l.f).vx + dX g l) = (atS s l.t).vx - (atS s l.f).vx - dX g l; grind
 ·show (atS s l.t).vy - ((atS s l.f).vy + dY g l) = (atS s l.t).vy - (atS s l.f).vy - dY g l; grind
theorem wJ (g : GR) (s : List SP) : ∀ (ls : List LK) (a : Rat), ls.foldl (fun a l => a + csT g s l) a = a + (qe (dX g) (xs s) ls + qe (dY g) (ys s) ls)
 | [], a => by simp only [List.foldl_nil, qe]; grind
 | l :: ls, a => by
  rw [List.foldl_cons, wJ g s ls];simp only [qe, csT];rw [Eb.1, Eb.2]; grind
theorem Ey (g : GR) (s : List SP) : csR g s g.links = qe (dX g) (xs s) g.links + qe (dY g) (ys s) g.links := by
 unfold csR; rw [wJ]; grind
theorem oS {d : LK -> Rat} {s m : Nat -> Rat} : ∀ {ls : List LK}, (∀ l ∈ ls, s l.f.toNat = m l.f.toNat /\ s l.t.toNat = m l.t.toNat) -> qe d s ls = qe d m ls
 | [], _ => rfl
 | l :: ls, h => by
  have ih := oS (d := d) (s := s) (m := m) (ls := ls) fun l hl => h l (List.mem_cons_of_mem _ hl)
  obtain ⟨h1, h2⟩ := h l List.mem_cons_self
  simp only [qe]; rw [ih, h1, h2]
theorem Eh {g : GR} {v : Nat} (h : v < g.nodes.length) : (mnL g).getD v sp0 = szW (mnX g v) (mnY g v) := by
 unfold mnL; rw [List.getD_eq_getElem?_getD, List.getElem?_map, List.getElem?_range h]; rfl
theorem wg {g : GR} {v : Nat} (h : v < g.nodes.length) : xs (mnL g) v = mnX g v /\ ys (mnL g) v = mnY g v := by
 unfold xs ys; rw [Eh h, dZ, dV]; exact ⟨rfl, rfl⟩
theorem o5 (g : GR) : (mnL g).length = g.nodes.length := by simp [mnL]
theorem wm {g : GR} (gv : GV g) : ∀ l ∈ g.links, l.f.toNat < g.nodes.length /\ l.t.toNat < g.nodes.length := fun l hl => by
 have lv := gLV gv l hl
 have h1 := lv.f
 have h2 := lv.t
 omega
def lsQ (g : GR) : Rat := qe (dX g) (mnX g) g.links + qe (dY g) (mnY g) g.links
theorem Ez {g : GR} (gv : GV g) : csR g (mnL g) g.links = lsQ g := by
 rw [Ey]; unfold lsQ;rw [oS fun l hl => ⟨(wg (wm gv l hl).1).1, (wg (wm gv l hl).2).1⟩, oS fun l hl => ⟨(wg (wm gv l hl).1).2, (wg (wm gv l hl).2).2⟩]
def zr (g : GR) : RW × Int := if bz g = true then (if cnB g = true then (qzW (lsQ g), 0) else (eh, 10)) else (eh, 1)
/-! ### Words of costs -/
theorem CB {g : GR} (gv : GV g) (sm' : SM g) (hc : cnB g = true) : ∀ p ∈ mnL g, p.OK 1600 := fun p hp => by
 obtain ⟨v, hv, rfl⟩ := List.mem_map.1 hp
 have := (vY gv sm').qx hc v (List.mem_range.1 hv)
 exact gO this.1 this.2
end Go.Proofs.YtceacleokgoooaaGreatDoor

/- Graphs with the same costs have the same minimum. No condition. -/
namespace Go.Proofs.YtceacleokgoooaaGreatDoor
attribute [local irreducible] aD

theorem Bu (g : GR) : mnX g 0 = 0 /\ mnY g 0 = 0 := by
 unfold mnX mnY slX; exact ⟨if_pos rfl, if_pos rfl⟩
/-! ### A link parted -/
end Go.Proofs.YtceacleokgoooaaGreatDoor

/- adjust: Minimum, Least, Gradient, Worst. No condition. -/
namespace Go.Proofs.YtceacleokgoooaaGreatDoor
attribute [local irreducible] aD
open Go.RowKit

set_option maxHeartbeats 1000000 in
theorem rZ (g : GR) (ok : ∀ r ∈ g.nodes, r.OK 4096) (hs : bz g = true -> SM g) : Con Tryz.prog 9 [AG g.cs] { v := .tup [.one (.d (dSs (iC g).1)), .one (.d (lI (iC g).2))] } := by
 have cN := xx g ok
 have cz := ji 0 ⟨by decide, by decide⟩
 refine Z3 Tryz.func9 ?_
 intro w0 X
 rw [am _ _ [(0, AG g.cs)] rfl rfl];refine gQ fun _ O=>?_;refine aF rfl rfl rfl rfl rfl rfl ?_;refine Z8 ?_;refine Z8 ?_;refine eQ O ?_;clear O
 by_cases hv : bz g = true
 ·have gv := b6.1 hv
  have S := hs hv
  have NR := vY gv S
  have n6 := S.n6
  have n1 := gv.n1
  have eN : nrV g = (nmM g, nmX g, nmY g, 0) := by rw [nrV, if_pos hv]; rfl
  rw [eN] at cN
  have hlX : (nmX g).length = (nmM g).length := by rw [NR.len]; exact oW _ _
  have hlY : (nmY g).length = (nmM g).length := by rw [NR.len]; exact oW _ _
  have cX := sL (nmM g) (nmX g) (by rw [NR.len]; omega) (by rw [hlX, NR.len]; omega) (fun r hr => by rw [NR.rows r hr]; omega) NR.ok (fun x hx => (NR.bx x hx).mono rfl) (fun _ _ => by rw [NR.len]; exact ⟨NR.fac, fun hp => (NR.sol hp).1⟩)
  have cY := sL (nmM g) (nmY g) (by rw [NR.len]; omega) (by rw [hlY, NR.len]; omega) (fun r hr => by rw [NR.rows r hr]; omega) NR.ok (fun x hx => (NR.bY x hx).mono rfl) (fun _ _ => by rw [NR.len]; exact ⟨NR.fac, fun hp => (NR.sol hp).2⟩)
  have eX : jc (nmM g) (nmX g) = if cnB g = true then (mg (cH (nmM g)) (iB (nmX g)) (g.nodes.length - 1), 0) else ([], 10) := by
   rw [jc, if_pos ⟨NR.val, hlX⟩, NR.len, uN gv]
  have eY : jc (nmM g) (nmY g) = if cnB g = true then (mg (cH (nmM g)) (iB (nmY g)) (g.nodes.length - 1), 0) else ([], 10) := by
   rw [jc, if_pos ⟨NR.val, hlY⟩, NR.len, uN gv]
  rw [eX] at cX;rw [eY] at cY;rw [iC, if_pos hv]
  by_cases hc : cnB g = true
  ·rw [if_pos hc] at cX cY;rw [if_pos hc]
   have aX : ∀ i, i < g.nodes.length - 1 -> (mg (cH (nmM g)) (iB (nmX g)) (g.nodes.length - 1))[i]? = some (qzW (mnX g (i + 1))) := fun i hi => by
    unfold mg dz; rw [List.getElem?_map, List.getElem?_range hi]; rfl
   have aY : ∀ i, i < g.nodes.length - 1 -> (mg (cH (nmM g)) (iB (nmY g)) (g.nodes.length - 1))[i]? = some (qzW (mnY g (i + 1))) := fun i hi => by
    unfold mg dz; rw [List.getElem?_map, List.getElem?_range hi]; rfl
   have bX : (mg (cH (nmM g)) (iB (nmX g)) (g.nodes.length - 1)).length = g.nodes.length - 1 := jC _ _
   have bY : (mg (cH (nmM g)) (iB (nmY g)) (g.nodes.length - 1)).length = g.nodes.length - 1 := jC _ _
   have e0 := Bu g
   have en : mnL g = (List.range (g.nodes.length - 1 + 1)).map fun v => szW (mnX g v) (mnY g v) := by
    unfold mnL; rw [<- zM gv]
   have hm : g.nodes.length - 1 <= 5 := by omega
   rw [en];generalize mg (cH (nmM g)) (iB (nmX g)) (g.nodes.length - 1) = LX at cX aX bX;generalize mg (cH (nmM g)) (iB (nmY g)) (g.nodes.length - 1) = LY at cY aY bY;generalize nmM g = M at cN cX cY;generalize nmX g = BX at cN cX;generalize nmY g = BY at cN cY;generalize mnX g = x at aX e0 ⊢;generalize mnY g = y at aY e0 ⊢;generalize g.nodes.length - 1 = m at aX aY bX bY hm ⊢;refine gQ fun _ O=>?_;refine Z7 ?_;refine ac rfl rfl (cN) rfl rfl rfl rfl ?_;refine Z9 ?_;refine aq rfl rfl rfl ?_;refine aq rfl rfl rfl ?_;refine aq rfl rfl rfl ?_;refine aq rfl rfl rfl ?_;refine Z8 ?_;refine Z8 ?_;refine Z8 ?_;refine Z8 ?_;refine eQ O ?_;clear O;refine ae ?_;refine gQ fun _ O=>?_;refine Z9 ?_;refine Z6 ?_;refine eQ O ?_;clear O;refine al rfl (fun h => by cases h) (fun _ => ?_);refine ah ?_;show AWP _ _ _ _ _ _;refine gQ fun _ O=>?_;refine Z9 ?_;refine Z9 ?_;refine ac rfl rfl (cX) rfl rfl rfl rfl ?_;refine Z9 ?_;refine aq rfl rfl rfl ?_;refine aq rfl rfl rfl ?_;refine Z8 ?_;refine Z8 ?_;refine eQ O ?_;clear O;refine ae ?_;refine gQ fun _ O=>?_;refine Z9 ?_;refine Z6 ?_;refine eQ O ?_;clear O;refine al rfl (fun h => by cases h) (fun _ => ?_);refine ah ?_;show AWP _ _ _ _ _ _;refine gQ fun _ O=>?_;refine Z9 ?_;refine Z9 ?_;refine ac rfl rfl (cY) rfl rfl rfl rfl ?_;refine Z9 ?_;refine aq rfl rfl rfl ?_;refine aq rfl rfl rfl ?_;refine Z8 ?_;refine Z8 ?_;refine eQ O ?_;clear O;refine gQ fun _ O=>?_;refine ac rfl rfl (cz) rfl rfl rfl rfl ?_;refine ac rfl rfl (cz) rfl rfl rfl rfl ?_;refine aK rfl rfl rfl ?_;refine ay rfl rfl rfl rfl ?_;refine Z8 ?_;refine eQ O ?_;clear O;refine ae ?_;refine gQ fun _ O=>?_;refine Z9 ?_;refine aw rfl (br RW.dc rfl rfl) rfl ?_;refine Z9 ?_;refine eQ O ?_;clear O;refine ai (aM (α := Nat) (fun i => mk 60 [(8, V1 (dRs LX)), (9, V1 (dRs LY)), (11, .val (.one (.own 40 8 0 (i + 1)))), (41, V1 (dRs LX)), (42, dI LX.length), (43, dI i)] [(40, some (.arr 8 ((List.range (i + 1)).map fun v => (szW (x v) (y v)).dc)))] []) (fun i => i <= m) (fun i => m - i) 0 ?_ (Nat.zero_le _) ?_)
   ·refine Wk.mk' ⟨rfl, rfl, rfl, rfl, rfl, rfl, trivial⟩ ⟨?_, trivial⟩
    show _ = some (OO.arr 8 [(szW (x 0) (y 0)).dc])
    rw [e0.1, e0.2]; rfl
   intro i hi
   refine gQ fun _ O=>?_;refine Z6 ?_;refine eQ O ?_;clear O;refine ae ?_;refine al rfl (fun hg => ?_) (fun hg => ?_)
   ·have hg : i < m := by simp at hg; omega
    have g1 : i < LX.length := by omega
    have g2 : i < LY.length := by omega
    have a1 : LX[i] = qzW (x (i + 1)) := by have := aX i hg; rw [List.getElem?_eq_getElem g1] at this; exact Option.some.inj this
    have a2 : LY[i] = qzW (y (i + 1)) := by have := aY i hg; rw [List.getElem?_eq_getElem g2] at this; exact Option.some.inj this
    have n1 : ((List.range (i + 1)).map fun v => (szW (x v) (y v)).dc) ++ [(SP.mk LX[i] LY[i]).dc] = (List.range (i + 1 + 1)).map fun v => (szW (x v) (y v)).dc := by
     rw [a1, a2, List.range_succ (n := i + 1), List.map_append]; rfl
    have z1 : ((List.range (i + 1)).map fun v => (szW (x v) (y v)).dc).length = i + 1 := by simp
    generalize ((List.range (i + 1)).map fun v => (szW (x v) (y v)).dc) = es at n1 z1 ⊢;refine ah ?_;show AWP _ _ _ _ _ _;refine ae ?_;refine ai ?_;refine gQ fun _ O=>?_;refine Z9 ?_;refine Z8 ?_;refine eQ O ?_;clear O;refine bB tok mixed (A := [[], [], [], [], [1, 2], [], [], [], [5, 6], [1, 2, 3, 5, 6, 7], [1, 2, 3, 4, 5, 6, 7, 8], [1, 2, 3, 4, 5, 6, 7, 8, 9], []]) (an := [{}, {}, {}, {}, {}, {}, {}, {}, {}, {}, {}, {}, {}]) rfl (by kernel_rfl) rfl fun _ O=>?_;refine Z9 ?_;refine Z9 ?_;refine Z9 ?_;refine aa rfl (x_m RW.dc rfl rfl rfl rfl g1 rfl) rfl ?_;refine Z7 ?_;refine Z9 ?_;refine Z9 ?_;refine aa rfl (x_m RW.dc rfl rfl rfl rfl g2 rfl) rfl ?_;refine Z7 ?_;refine aK rfl rfl rfl ?_;refine ay rfl rfl rfl rfl ?_;refine aQ rfl (ib rfl rfl rfl rfl rfl rfl (by decide) (Nat.le_of_ble_eq_true rfl) rfl (by simp) rfl rfl z1.symm (by simp <;> omega)) rfl rfl rfl ?_;refine Z8 ?_;refine eQ O ?_;clear O;show AWP _ _ _ _ _ _;refine gR fun _ O=>?_;refine ap rfl (aL (c := ((i + 1 : Nat) : Int)) (by omega) (by omega)) rfl ?_;refine Z9 ?_;refine eQ O ?_;clear O;refine ⟨i + 1, by omega, hg, Wk.rn [8, 9, 11, 41, 42, 43] [57] 57 40 rfl rfl rfl ⟨rfl, rfl, ?_, rfl, rfl, rfl, trivial⟩ ⟨?_, trivial⟩⟩
    ·show SV.val (.one (.own 40 8 0 _)) = _
     rw [List.length_append, z1]; rfl
    ·rw [<- n1]; rfl
   have hg : i = m := by simp at hg; omega
   subst hg
   refine aA ?_;show AWP _ _ _ _ _ _;refine dT [11] [40] 40 [(11, V1 (dSs ((List.range (i + 1)).map fun v => szW (x v) (y v))))] [] rfl ?_ trivial ?_
   ·exact ⟨cI (by rw [List.map_map]; rfl) (by simp), trivial⟩
   refine gQ fun _ O=>?_;refine Z9 ?_;refine Z8 ?_;refine Z8 ?_;refine eQ O ?_;clear O;exact aj aS
  ·rw [if_neg hc] at cX;rw [if_neg hc];refine gQ fun _ O=>?_;refine Z7 ?_;refine ac rfl rfl (cN) rfl rfl rfl rfl ?_;refine Z9 ?_;refine aq rfl rfl rfl ?_;refine aq rfl rfl rfl ?_;refine aq rfl rfl rfl ?_;refine aq rfl rfl rfl ?_;refine Z8 ?_;refine Z8 ?_;refine Z8 ?_;refine Z8 ?_;refine eQ O ?_;clear O;refine ae ?_;refine gQ fun _ O=>?_;refine Z9 ?_;refine Z6 ?_;refine eQ O ?_;clear O;refine al rfl (fun h => by cases h) (fun _ => ?_);refine ah ?_;show AWP _ _ _ _ _ _;refine gQ fun _ O=>?_;refine Z9 ?_;refine Z9 ?_;refine ac rfl rfl (cX) rfl rfl rfl rfl ?_;refine Z9 ?_;refine aq rfl rfl rfl ?_;refine aq rfl rfl rfl ?_;refine Z8 ?_;refine Z8 ?_;refine eQ O ?_;clear O;refine ae ?_;refine gQ fun _ O=>?_;refine Z9 ?_;refine Z6 ?_;refine eQ O ?_;clear O;refine al rfl (fun _ => ?_) (fun h => by cases h);refine gQ fun _ O=>?_;refine Z8 ?_;refine Z8 ?_;refine eQ O ?_;clear O;exact aj aS
 ·have eN : nrV g = ([], [], [], 1) := by rw [nrV, if_neg hv]
  rw [eN] at cN;rw [iC, if_neg hv];refine gQ fun _ O=>?_;refine Z7 ?_;refine ac rfl rfl (cN) rfl rfl rfl rfl ?_;refine Z9 ?_;refine aq rfl rfl rfl ?_;refine aq rfl rfl rfl ?_;refine aq rfl rfl rfl ?_;refine aq rfl rfl rfl ?_;refine Z8 ?_;refine Z8 ?_;refine Z8 ?_;refine Z8 ?_;refine eQ O ?_;clear O;refine ae ?_;refine gQ fun _ O=>?_;refine Z9 ?_;refine Z6 ?_;refine eQ O ?_;clear O;refine al rfl (fun _ => ?_) (fun h => by cases h);refine gQ fun _ O=>?_;refine Z9 ?_;refine Z8 ?_;refine Z8 ?_;refine eQ O ?_;clear O;exact aj aS

theorem DL (g : GR) (ok : ∀ r ∈ g.nodes, r.OK 4096) (hs : bz g = true -> SM g) : Con Tryz.prog 42 [AG g.cs] { v := .tup [.agg (zr g).1.cs, .one (.d (lI (zr g).2))] } := by
 have cM := rZ g ok hs
 refine Z3 Tryz.func42 ?_
 intro w0 X
 rw [am _ _ [(0, AG g.cs)] rfl rfl];refine gQ fun _ O=>?_;refine aF rfl rfl rfl rfl rfl rfl ?_;refine au rfl rfl rfl rfl rfl rfl ?_;refine Z8 ?_;refine eQ O ?_;clear O
 by_cases hv : bz g = true
 ·have gv := b6.1 hv
  rw [iC, if_pos hv] at cM;rw [zr, if_pos hv]
  by_cases hc : cnB g = true
  ·rw [if_pos hc] at cM;rw [if_pos hc]
   have cC := BS g (mnL g) ok (fun p hp => (CB gv (hs hv) hc p hp).mono rfl)
   have e : nk g (mnL g) = (qzW (lsQ g), 0) := by
    rw [nk, if_pos (kh.2 ⟨gv, o5 g⟩), Ez gv]
   rw [e] at cC;generalize mnL g = s at cM cC;refine gQ fun _ O=>?_;refine Z7 ?_;refine ac rfl rfl (cM) rfl rfl rfl rfl ?_;refine Z9 ?_;refine aq rfl rfl rfl ?_;refine aq rfl rfl rfl ?_;refine Z8 ?_;refine Z8 ?_;refine eQ O ?_;clear O;refine ae ?_;refine gQ fun _ O=>?_;refine Z9 ?_;refine Z6 ?_;refine eQ O ?_;clear O;refine al rfl (fun h => by cases h) (fun _ => ?_);refine ah ?_;show AWP _ _ _ _ _ _;refine gQ fun _ O=>?_;refine Z7 ?_;refine Z9 ?_;refine ac rfl rfl (cC) rfl rfl rfl rfl ?_;refine aq rfl rfl rfl ?_;refine aq rfl rfl rfl ?_;refine ak rfl rfl rfl rfl rfl ?_;refine Z8 ?_;refine eQ O ?_;clear O;exact aj aS
  ·rw [if_neg hc] at cM;rw [if_neg hc];refine gQ fun _ O=>?_;refine Z7 ?_;refine ac rfl rfl (cM) rfl rfl rfl rfl ?_;refine Z9 ?_;refine aq rfl rfl rfl ?_;refine aq rfl rfl rfl ?_;refine Z8 ?_;refine Z8 ?_;refine eQ O ?_;clear O;refine ae ?_;refine gQ fun _ O=>?_;refine Z9 ?_;refine Z6 ?_;refine eQ O ?_;clear O;refine al rfl (fun _ => ?_) (fun h => by cases h);refine gQ fun _ O=>?_;refine aK rfl rfl rfl ?_;refine Z9 ?_;refine ak rfl rfl rfl rfl rfl ?_;refine Z8 ?_;refine eQ O ?_;clear O;exact aj aS
 ·rw [iC, if_neg hv] at cM;rw [zr, if_neg hv];refine gQ fun _ O=>?_;refine Z7 ?_;refine ac rfl rfl (cM) rfl rfl rfl rfl ?_;refine Z9 ?_;refine aq rfl rfl rfl ?_;refine aq rfl rfl rfl ?_;refine Z8 ?_;refine Z8 ?_;refine eQ O ?_;clear O;refine ae ?_;refine gQ fun _ O=>?_;refine Z9 ?_;refine Z6 ?_;refine eQ O ?_;clear O;refine al rfl (fun _ => ?_) (fun h => by cases h);refine gQ fun _ O=>?_;refine aK rfl rfl rfl ?_;refine Z9 ?_;refine ak rfl rfl rfl rfl rfl ?_;refine Z8 ?_;refine eQ O ?_;clear O;exact aj aS

theorem CI {T : Tab} {t : TypeId} (a b : Nat) : aO T .eql t (dI a) (dI b) = .set (dB (decide (a = b))) := by
 show a7 (.bool ((a : Int) == (b : Int))) = _
 have : ((a : Int) == (b : Int)) = decide (a = b) := by rw [Bool.eq_iff_iff]; simp only [beq_iff_eq, decide_eq_true_eq]; omega
 rw [this]; rfl

theorem Az (g : GR) (s : List SP) : Con Tryz.prog 90 [AG g.cs, V1 (dSs s)] { v := dB (iZ g s) } := by
 have cV := gZ g
 have e : iZ g s = (bz g && decide (s.length = g.nodes.length)) := rfl
 rw [e];generalize bz g = b at cV;refine Z3 Tryz.func90 ?_
 intro w0 X
 rw [am _ _ [(0, AG g.cs), (1, V1 (dSs s))] rfl rfl];refine gQ fun _ O=>?_;refine aF rfl rfl rfl rfl rfl rfl ?_;refine Z8 ?_;refine eQ O ?_;clear O
 cases b with
 | true =>
  refine gQ fun _ O=>?_;refine Z7 ?_;refine ac rfl rfl (cV) rfl rfl rfl rfl ?_;refine Z9 ?_;refine Z9 ?_;refine aw rfl (br SP.dc rfl rfl) rfl ?_;refine Z5 ?_;refine Z7 ?_;refine aw rfl (br RW.dc rfl rfl) rfl ?_;refine ap rfl (CI _ _) rfl ?_;refine Z4 ?_;refine Z8 ?_;refine eQ O ?_;clear O;exact aj aS
 | false =>
  refine gQ fun _ O=>?_;refine Z7 ?_;refine ac rfl rfl (cV) rfl rfl rfl rfl ?_;refine Z9 ?_;refine az rfl ?_;refine az rfl ?_;refine az rfl ?_;refine az rfl ?_;refine az rfl ?_;refine az rfl ?_;refine Z4 ?_;refine Z8 ?_;refine eQ O ?_;clear O;exact aj aS

end Go.Proofs.YtceacleokgoooaaGreatDoor

/- adjust: Worst, New, Graph; the law's small functions. No condition. -/
namespace Go.Proofs.YtceacleokgoooaaGreatDoor
attribute [local irreducible] aD
open Go.RowKit

theorem Aa {T : Tab} {t : TypeId} (a b : Nat) : aO T .neq t (dI a) (dI b) = .set (dB (decide (a ≠ b))) := by
 show a7 (.bool (!((a : Int) == (b : Int)))) = _
 have : (!((a : Int) == (b : Int))) = decide (a ≠ b) := by
  rw [Bool.eq_iff_iff]; simp only [Bool.not_eq_true', beq_eq_false_iff_ne, ne_eq, decide_eq_true_eq]; omega
 rw [this]; rfl
theorem pA {T : Tab} {t : TypeId} (a b : Nat) : aO T .gtr t (dI a) (dI b) = .set (dB (decide (b < a))) := by
 show a7 (.bool (decide ((a : Int) > (b : Int)))) = _
 have : (decide ((a : Int) > (b : Int))) = decide (b < a) := by
  rw [Bool.eq_iff_iff, decide_eq_true_eq, decide_eq_true_eq]; omega
 rw [this]; rfl
theorem Ev {T : Tab} {t : TypeId} {a b : Int} {c : Bool} (h : decide (a > b) = c) : aO T .gtr t (dI a) (dI b) = .set (dB c) := by subst h; rfl
theorem wF {T : Tab} {t : TypeId} {a b : Int} {c : Bool} (h : decide (a < b) = c) : aO T .lss t (dI a) (dI b) = .set (dB c) := by subst h; rfl
theorem ng {T : Tab} {t : TypeId} {a b : Int} {c : Bool} (h : (a != b) = c) : aO T .neq t (dI a) (dI b) = .set (dB c) := by subst h; rfl
theorem wG {T : Tab} {t : TypeId} {a b : Int} {c : Bool} (h : (a == b) = c) : aO T .eql t (dI a) (dI b) = .set (dB c) := by subst h; rfl

/-! ### Small inputs -/
def w1 (r : RW) : Bool := decide (r.wp.length <= 1 /\ r.wq.length <= 1)
def uY (g : GR) : Bool := decide ((g.nodes.length <= 5 \/ g.nodes.length = 17) /\ (g.links.length <= 9 \/ g.links.length = 49))
def m8 (g : GR) : Bool := uY g && g.nodes.all w1
theorem BU (g : GR) : Con Tryz.prog 7 [AG g.cs] { v := dB (m8 g) } := by
 refine Z3 Tryz.func7 ?_
 intro w0 X
 rw [am _ _ [(0, AG g.cs)] rfl rfl];refine gQ fun _ O=>?_;refine aF rfl rfl rfl rfl rfl rfl ?_;refine Z8 ?_;refine eQ O ?_;clear O;refine ae ?_;refine a8 (α := Bool) (fun c => mk 53 [(1, .ptr 1 0), (25, dB c)] [(1, some (.box g.cs))] []) (fun c => c = !uY g) ?_ ?_
 ·refine cw fun _ O=>?_;refine ab tok rfl ?_;refine Z5 ?_;refine ag ?_;refine ab tok rfl ?_;refine Z7 ?_;refine ag ?_;refine ab tok rfl ?_;refine aw rfl (br RW.dc rfl rfl) rfl ?_;refine ag ?_;refine ab tok rfl ?_;refine ap rfl (pA _ 5) rfl ?_;refine ag ?_;refine ab tok rfl ?_;refine Z9 ?_;refine ag ?_;refine b9 (fun h0 => ?_) (fun h0 => ?_)
  ·refine ab tok rfl ?_;refine Z5 ?_;refine ag ?_;refine ab tok rfl ?_;refine Z7 ?_;refine ag ?_;refine ab tok rfl ?_;refine aw rfl (br RW.dc rfl rfl) rfl ?_;refine ag ?_;refine ab tok rfl ?_;refine ap rfl (Aa _ 17) rfl ?_;refine ag ?_;refine ab tok rfl ?_;refine Z4 ?_;refine ag ?_;refine ab tok rfl ?_;refine Z9 ?_;refine ag ?_;refine b9 (fun h1 => ?_) (fun h1 => ?_)
   ·refine av rfl rfl ?_;refine av rfl rfl ?_;refine av rfl rfl ?_;refine av rfl rfl ?_;refine av rfl rfl ?_;refine er rfl rfl rfl ?_;refine er rfl rfl rfl ?_;refine er rfl rfl rfl ?_;refine er rfl rfl rfl ?_;refine av rfl rfl ?_;refine ab tok rfl ?_;refine Z4 ?_;refine ag ?_;refine bn rfl (O _ ?_); clear O;exact ⟨_, (by simp only [decide_eq_true_eq, decide_eq_false_iff_not] at h0 h1; unfold uY; rw [Bool.eq_iff_iff]; simp only [decide_eq_true_eq, Bool.not_eq_true', decide_eq_false_iff_not, reduceCtorEq, false_iff, true_iff]; omega), Wk.mk' ⟨rfl, rfl, trivial⟩ ⟨rfl, trivial⟩⟩
   ·refine ab tok rfl ?_;refine Z5 ?_;refine ag ?_;refine ab tok rfl ?_;refine Z7 ?_;refine ag ?_;refine ab tok rfl ?_;refine aw rfl (br LK.dc rfl rfl) rfl ?_;refine ag ?_;refine ab tok rfl ?_;refine ap rfl (pA _ 9) rfl ?_;refine ag ?_;refine ab tok rfl ?_;refine Z9 ?_;refine ag ?_;refine b9 (fun h2 => ?_) (fun h2 => ?_)
    ·refine ab tok rfl ?_;refine Z5 ?_;refine ag ?_;refine ab tok rfl ?_;refine Z7 ?_;refine ag ?_;refine ab tok rfl ?_;refine aw rfl (br LK.dc rfl rfl) rfl ?_;refine ag ?_;refine ab tok rfl ?_;refine ap rfl (Aa _ 49) rfl ?_;refine ag ?_;refine ab tok rfl ?_;refine Z4 ?_;refine ag ?_;refine ab tok rfl ?_;refine Z4 ?_;refine ag ?_;refine bn rfl (O _ ?_); clear O;exact ⟨_, (by simp only [decide_eq_true_eq, decide_eq_false_iff_not] at h0 h1 h2; unfold uY; rw [Bool.eq_iff_iff]; simp only [decide_eq_true_eq, Bool.not_eq_true', decide_eq_false_iff_not, reduceCtorEq, false_iff, true_iff]; omega), Wk.mk' ⟨rfl, rfl, trivial⟩ ⟨rfl, trivial⟩⟩
    ·refine av rfl rfl ?_;refine av rfl rfl ?_;refine av rfl rfl ?_;refine av rfl rfl ?_;refine ab tok rfl ?_;refine Z4 ?_;refine ag ?_;refine ab tok rfl ?_;refine Z4 ?_;refine ag ?_;refine bn rfl (O _ ?_); clear O;exact ⟨_, (by simp only [decide_eq_true_eq, decide_eq_false_iff_not] at h0 h1 h2; unfold uY; rw [Bool.eq_iff_iff]; simp only [decide_eq_true_eq, Bool.not_eq_true', decide_eq_false_iff_not, reduceCtorEq, false_iff, true_iff]; omega), Wk.mk' ⟨rfl, rfl, trivial⟩ ⟨rfl, trivial⟩⟩
  ·refine av rfl rfl ?_;refine av rfl rfl ?_;refine av rfl rfl ?_;refine av rfl rfl ?_;refine ab tok rfl ?_;refine Z4 ?_;refine ag ?_;refine ab tok rfl ?_;refine Z9 ?_;refine ag ?_;refine ab tok rfl ?_;refine Z5 ?_;refine ag ?_;refine ab tok rfl ?_;refine Z7 ?_;refine ag ?_;refine ab tok rfl ?_;refine aw rfl (br LK.dc rfl rfl) rfl ?_;refine ag ?_;refine ab tok rfl ?_;refine ap rfl (pA _ 9) rfl ?_;refine ag ?_;refine ab tok rfl ?_;refine Z9 ?_;refine ag ?_;refine b9 (fun h1 => ?_) (fun h1 => ?_)
   ·refine ab tok rfl ?_;refine Z5 ?_;refine ag ?_;refine ab tok rfl ?_;refine Z7 ?_;refine ag ?_;refine ab tok rfl ?_;refine aw rfl (br LK.dc rfl rfl) rfl ?_;refine ag ?_;refine ab tok rfl ?_;refine ap rfl (Aa _ 49) rfl ?_;refine ag ?_;refine ab tok rfl ?_;refine Z4 ?_;refine ag ?_;refine ab tok rfl ?_;refine Z4 ?_;refine ag ?_;refine bn rfl (O _ ?_); clear O;exact ⟨_, (by simp only [decide_eq_true_eq, decide_eq_false_iff_not] at h0 h1; unfold uY; rw [Bool.eq_iff_iff]; simp only [decide_eq_true_eq, Bool.not_eq_true', decide_eq_false_iff_not, reduceCtorEq, false_iff, true_iff]; omega), Wk.mk' ⟨rfl, rfl, trivial⟩ ⟨rfl, trivial⟩⟩
   ·refine av rfl rfl ?_;refine av rfl rfl ?_;refine av rfl rfl ?_;refine av rfl rfl ?_;refine ab tok rfl ?_;refine Z4 ?_;refine ag ?_;refine ab tok rfl ?_;refine Z4 ?_;refine ag ?_;refine bn rfl (O _ ?_); clear O;exact ⟨_, (by simp only [decide_eq_true_eq, decide_eq_false_iff_not] at h0 h1; unfold uY; rw [Bool.eq_iff_iff]; simp only [decide_eq_true_eq, Bool.not_eq_true', decide_eq_false_iff_not, reduceCtorEq, false_iff, true_iff]; omega), Wk.mk' ⟨rfl, rfl, trivial⟩ ⟨rfl, trivial⟩⟩
 rintro c rfl
 refine al rfl (fun hd => ?_) (fun hd => ?_)
 ·rw [Bool.not_eq_true'] at hd;rw [m8, hd];refine gQ fun _ O=>?_;refine Z8 ?_;refine eQ O ?_;clear O;exact aj aS
 rw [Bool.not_eq_false'] at hd
 have h17 : g.nodes.length <= 17 := by have := (of_decide_eq_true hd).1; omega
 rw [m8, hd, Bool.true_and];refine ah ?_;show AWP _ _ _ _ _ _;refine ae ?_;refine gQ fun _ O=>?_;refine Z8 ?_;refine eQ O ?_;clear O;refine ai (aM (α := Nat) (fun i => mk 53 [(1, .ptr 1 0), (3, dI i)] [(1, some (.box g.cs))] []) (fun i => i <= g.nodes.length /\ (g.nodes.take i).all w1 = true) (fun i => g.nodes.length - i) 0 ?_ ⟨Nat.zero_le _, rfl⟩ ?_)
 ·exact Wk.mk' ⟨rfl, rfl, trivial⟩ ⟨rfl, trivial⟩
 rintro i ⟨hi, ht⟩
 refine ae ?_;refine gQ fun _ O=>?_;refine Z9 ?_;refine Z5 ?_;refine Z7 ?_;refine aw rfl (br RW.dc rfl rfl) rfl ?_;refine Z6 ?_;refine eQ O ?_;clear O;refine al rfl (fun hg => ?_) (fun hg => ?_)
 ·have hg : i < g.nodes.length := by simp at hg; omega
  obtain ⟨r, hr⟩ : ∃ r, r = g.nodes[i] := ⟨_, rfl⟩
  refine ah ?_;show AWP _ _ _ _ _ _;refine ae ?_;refine ai ?_;refine a8 (α := Bool) (fun c => mk 53 [(1, .ptr 1 0), (3, dI i), (52, dB c)] [(1, some (.box g.cs))] []) (fun c => c = !w1 r) ?_ ?_
  ·refine cw fun _ O=>?_;refine ab tok rfl ?_;refine Z5 ?_;refine ag ?_;refine ab tok rfl ?_;refine Z7 ?_;refine ag ?_;refine ab tok rfl ?_;refine Z9 ?_;refine ag ?_;refine ab tok rfl ?_;refine aa rfl (x_m RW.dc rfl rfl rfl rfl hg rfl) rfl ?_;refine ag ?_;refine ab tok rfl ?_;refine Z5 ?_;refine ag ?_;refine ab tok rfl ?_;refine Z5 ?_;refine ag ?_;refine ab tok rfl ?_;refine Z7 ?_;refine ag ?_;refine ab tok rfl ?_;refine aw rfl (aR (ws := g.nodes[i].wp) rfl rfl rfl) rfl ?_;refine ag ?_;refine ab tok rfl ?_;refine ap rfl (pA _ 1) rfl ?_;refine ag ?_;refine ab tok rfl ?_;refine Z9 ?_;refine ag ?_;refine b9 (fun h0 => ?_) (fun h0 => ?_)
   ·refine av rfl rfl ?_;refine av rfl rfl ?_;refine av rfl rfl ?_;refine av rfl rfl ?_;refine av rfl rfl ?_;refine av rfl rfl ?_;refine av rfl rfl ?_;refine av rfl rfl ?_;refine av rfl rfl ?_;refine ab tok rfl ?_;refine Z4 ?_;refine ag ?_;refine bn rfl (O _ ?_); clear O;exact ⟨_, (by simp only [decide_eq_true_eq, decide_eq_false_iff_not] at h0; unfold w1; rw [hr, Bool.eq_iff_iff]; simp only [decide_eq_true_eq, Bool.not_eq_true', decide_eq_false_iff_not, reduceCtorEq, false_iff, true_iff]; omega), Wk.mk' ⟨rfl, rfl, rfl, trivial⟩ ⟨rfl, trivial⟩⟩
   ·refine ab tok rfl ?_;refine Z5 ?_;refine ag ?_;refine ab tok rfl ?_;refine Z7 ?_;refine ag ?_;refine ab tok rfl ?_;refine Z9 ?_;refine ag ?_;refine ab tok rfl ?_;refine aa rfl (x_m RW.dc rfl rfl rfl rfl hg rfl) rfl ?_;refine ag ?_;refine ab tok rfl ?_;refine Z5 ?_;refine ag ?_;refine ab tok rfl ?_;refine Z5 ?_;refine ag ?_;refine ab tok rfl ?_;refine Z7 ?_;refine ag ?_;refine ab tok rfl ?_;refine aw rfl (aR (ws := g.nodes[i].wq) rfl rfl rfl) rfl ?_;refine ag ?_;refine ab tok rfl ?_;refine ap rfl (pA _ 1) rfl ?_;refine ag ?_;refine ab tok rfl ?_;refine Z4 ?_;refine ag ?_;refine bn rfl (O _ ?_); clear O;exact ⟨_, (by simp only [decide_eq_true_eq, decide_eq_false_iff_not] at h0; unfold w1; rw [hr, Bool.eq_iff_iff]; simp only [decide_eq_true_eq, Bool.not_eq_true', decide_eq_false_iff_not, reduceCtorEq, false_iff, true_iff]; omega), Wk.mk' ⟨rfl, rfl, rfl, trivial⟩ ⟨rfl, trivial⟩⟩
  rintro c rfl
  refine al rfl (fun hd => ?_) (fun hd => ?_)
  ·refine gQ fun _ O=>?_;refine Z8 ?_;refine eQ O ?_;clear O;exact aj (bK (h3 := by exact kq (by rw [Bool.not_eq_true'] at hd; rw [List.all_eq_false]; exact ⟨r, hr ▸ List.getElem_mem hg, by rw [hd]; simp⟩)))
  ·refine ah ?_;show AWP _ _ _ _ _ _;refine gR fun _ O=>?_;refine Z9 ?_;refine ap rfl (aL rfl (by omega)) rfl ?_;refine Z8 ?_;refine eQ O ?_;clear O;refine ⟨i + 1, by omega, ⟨hg, ?_⟩, Wk.mk' ⟨rfl, rfl, trivial⟩ ⟨rfl, trivial⟩⟩;rw [List.take_succ_eq_append_getElem hg, List.all_append, ht, <- hr];rw [Bool.not_eq_false'] at hd
   simp [hd]
 ·have hg : i = g.nodes.length := by simp at hg; omega
  subst hg
  rw [List.take_length] at ht;rw [ht];refine aA ?_;show AWP _ _ _ _ _ _;refine gQ fun _ O=>?_;refine Z8 ?_;refine eQ O ?_;clear O;exact aj aS

theorem zR {g : GR} (hg : ∀ r ∈ g.nodes, r.W) (h : m8 g = true) : (∀ r ∈ g.nodes, r.OK 1) /\ (bz g = true -> SM g) /\ g.links.length <= 49 := by
 rw [m8, Bool.and_eq_true] at h
 obtain ⟨h1, h2⟩ := h
 have h1 := of_decide_eq_true h1
 have ok : ∀ r ∈ g.nodes, r.OK 1 := fun r hr => by
  have := of_decide_eq_true (List.all_eq_true.1 h2 r hr)
  exact ⟨(hg r hr).1, (hg r hr).2, this.1, this.2⟩
 refine ⟨ok, fun hv => ?_, by omega⟩
 have gv := b6.1 hv
 have := gv.n2
 have := gv.l
 exact ⟨by omega, by omega, fun r hr => (ok r hr).mono rfl⟩
/-! ### New and Graph -/
def EV : Tab := { tab with dat := fun t => Nat.beq t 22 }
theorem kZ : TOK Tryz.prog EV := ⟨tok.ty, tok.clo, tok.eqs⟩
theorem DW (r : RW) (ok : r.OK 268435456) : Con Tryz.prog 10 [AG r.cs] { v := .pd [dRs [pz2 r.cn], .sl []] } := by
 have cN := lf r ok
 generalize pz2 r.cn = q at cN ⊢;refine vj (fn := Tryz.f10) Tryz.func10 (by kernel_rfl) rfl ?_
 intro w0 X
 rw [am _ _ [(0, AG r.cs)] rfl rfl];refine ax kZ fun _ O=>?_;refine aF rfl rfl rfl rfl rfl rfl ?_;refine Z8 ?_;refine eQ O ?_;clear O;refine ax kZ fun _ O=>?_;refine Z7 ?_;refine ac rfl rfl (cN) rfl rfl rfl rfl ?_;refine dm rfl rfl rfl rfl ?_;refine aK rfl rfl rfl ?_;refine aK rfl rfl rfl ?_;refine aF rfl rfl rfl rfl rfl rfl ?_;refine Z8 ?_;refine eQ O ?_;clear O;refine aj ?_;exact ⟨2, 8, [.d (dRs [q]), .nil], rfl, by rw [dK]; rfl, rfl, rfl⟩
end Go.Proofs.YtceacleokgoooaaGreatDoor

/- Powers, orders and marks of rotations; transforms. No condition. -/
namespace Go.Proofs.YtceacleokgoooaaGreatDoor
attribute [local irreducible] aD

end Go.Proofs.YtceacleokgoooaaGreatDoor

/- Rigid transforms. No condition. -/
namespace Go.Proofs.YtceacleokgoooaaGreatDoor
attribute [local irreducible] aD

structure TR.OK (k : Nat) (t : TR) : Prop where
 r : t.r.OK k
 x : t.x.OK k
 y : t.y.OK k
theorem TR.OK.mono {t : TR} {k m : Nat} (h : t.OK k) (hk : Nat.ble k m = true) : t.OK m := ⟨h.r.mono hk, h.x.mono hk, h.y.mono hk⟩
end Go.Proofs.YtceacleokgoooaaGreatDoor

/- Small numbers as text. No condition. -/
namespace Go.Proofs.YtceacleokgoooaaGreatDoor
attribute [local irreducible] aD

theorem p8 {d : Nat} (h : d ≠ 0) : dC [d] = [d] := by
 unfold dC; simp [h]
def DU : List UInt8 := [48, 49, 50, 51, 52, 53, 54, 55, 56, 57, 97, 98, 99, 100, 101, 102, 103, 104, 105, 106, 107, 108, 109, 110, 111, 112, 113, 114, 115, 116, 117, 118, 119, 120, 121, 122]
def ut : List UInt8 := [48, 48, 48, 49, 48, 50, 48, 51, 48, 52, 48, 53, 48, 54, 48, 55, 48, 56, 48, 57, 49, 48, 49, 49, 49, 50, 49, 51, 49, 52, 49, 53, 49, 54, 49, 55, 49, 56, 49, 57, 50, 48, 50, 49, 50, 50, 50, 51, 50, 52] ++ [50, 53, 50, 54, 50, 55, 50, 56, 50, 57, 51, 48, 51, 49, 51, 50, 51, 51, 51, 52, 51, 53, 51, 54, 51, 55, 51, 56, 51, 57, 52, 48, 52, 49, 52, 50, 52, 51, 52, 52, 52, 53, 52, 54, 52, 55, 52, 56, 52, 57] ++ [53, 48, 53, 49, 53, 50, 53, 51, 53, 52, 53, 53, 53, 54, 53, 55, 53, 56, 53, 57, 54, 48, 54, 49, 54, 50, 54, 51, 54, 52, 54, 53, 54, 54, 54, 55, 54, 56, 54, 57, 55, 48, 55, 49, 55, 50, 55, 51, 55, 52] ++ [55, 53, 55, 54, 55, 55, 55, 56, 55, 57, 56, 48, 56, 49, 56, 50, 56, 51, 56, 52, 56, 53, 56, 54, 56, 55, 56, 56, 56, 57, 57, 48, 57, 49, 57, 50, 57, 51, 57, 52, 57, 53, 57, 54, 57, 55, 57, 56, 57, 57]
def txL (d : Nat) : List UInt8 := if d < 10 then (DU.drop d).take 1 else (ut.drop (2 * d)).take 2
abbrev sB (l : List UInt8) : DC := .lit (.string ⟨l.toArray⟩)
theorem zW {T : Tab} {t : TypeId} {ti : TI} {s : ByteArray} {l : List UInt8} {i j : Int} {a b : Nat} (h1 : T t = some ti) (h2 : ti.und = .string) (hs : s = ⟨l.toArray⟩) (hi : i = (a : Int)) (hj : j = (b : Int)) (hab : a <= b) (hb : b <= l.length) :
  cU T t (V1 (.lit (.string s))) i j = .set (V1 (sB ((l.drop a).take (b - a)))) := by
 subst hs hi hj
 have e : (ByteArray.mk l.toArray).size = l.length := by simp [ByteArray.size]
 simp only [cU, h1, h2, vH];rw [if_pos ⟨by omega, by omega, by rw [e]; omega⟩]
 show a7 (.string ((ByteArray.mk l.toArray).extract ((a : Int)).toNat ((b : Int)).toNat)) = _
 rw [show ((a : Int)).toNat = a from rfl, show ((b : Int)).toNat = b from rfl, Go.ByteArray.extract_mk]
 rfl

theorem A0 (d : Nat) (hd : d < 100) : Con Tryz.prog 158 [dI d] { v := V1 (sB (txL d)) } := by
 have l1 : DU.length = 36 := rfl
 have l2 : ut.length = 200 := rfl
 refine Z3 Tryz.func158 ?_
 intro w0 X
 rw [am _ _ [(0, dI d)] rfl rfl];refine gQ fun _ O=>?_;refine Z8 ?_;refine eQ O ?_;clear O;refine ae ?_;refine gQ fun _ O=>?_;refine Z9 ?_;refine Z6 ?_;refine eQ O ?_;clear O;refine al rfl (fun hc => ?_) (fun hc => ?_)
 ·have hc : d < 10 := by have := of_decide_eq_true hc; omega
  refine gQ fun _ O=>?_;refine Z9 ?_;refine Z9 ?_;refine ap rfl (aL (c := ((d + 1 : Nat) : Int)) (by omega) (by omega)) rfl ?_;refine jf rfl rfl rfl (zW (l := DU) (a := d) (b := d + 1) rfl rfl rfl rfl rfl (by omega) (by omega)) rfl ?_;refine Z8 ?_;refine eQ O ?_;clear O;exact aj (bK (h3 := by unfold txL; rw [if_pos hc, Nat.add_sub_cancel_left]; rfl))
 ·have hc : ¬ d < 10 := by have := of_decide_eq_false hc; omega
  refine ah ?_;show AWP _ _ _ _ _ _;refine gQ fun _ O=>?_;refine Z9 ?_;refine ap rfl (tX (c := ((2 * d : Nat) : Int)) (by omega) (by omega)) rfl ?_;refine Z9 ?_;refine ap rfl (tX (c := ((2 * d : Nat) : Int)) (by omega) (by omega)) rfl ?_;refine ap rfl (aL (c := ((2 * d + 2 : Nat) : Int)) (by omega) (by omega)) rfl ?_;refine jf rfl rfl rfl (zW (l := ut) (a := 2 * d) (b := 2 * d + 2) rfl rfl rfl rfl rfl (by omega) (by omega)) rfl ?_;refine Z8 ?_;refine eQ O ?_;clear O;exact aj (bK (h3 := by unfold txL; rw [if_neg hc, Nat.add_sub_cancel_left]; rfl))

theorem DN (d : Nat) (hd : d < 100) : Con Tryz.prog 138 [dL d, dI 10] { v := V1 (sB (txL d)) } := by
 refine Z3 Tryz.func138 ?_
 intro w0 X
 rw [am _ _ [(0, dL d), (1, dI 10)] rfl rfl];refine gQ fun _ O=>?_;refine Z8 ?_;refine eQ O ?_;clear O;refine ae ?_;refine gQ fun _ O=>?_;refine Z9 ?_;refine Z6 ?_;refine eQ O ?_;clear O;refine al rfl (fun _ => ?_) (fun hc => by cases hc);refine ae ?_;refine gQ fun _ O=>?_;refine Z9 ?_;refine Z6 ?_;refine eQ O ?_;clear O;refine al rfl (fun _ => ?_) (fun hc => by have := of_decide_eq_false hc; omega);refine gQ fun _ O=>?_;refine Z9 ?_;refine aN rfl (aP rfl rfl rfl (by show IntKind.i64.wrap (d : Int) = (d : Int); exact IntWalk.i64_in _ (by omega))) rfl ?_;refine ac rfl rfl (A0 d hd) rfl rfl rfl rfl ?_;refine Z8 ?_;refine eQ O ?_;clear O;exact aj aS
theorem CH (d : Nat) (hd : d < 100) : Con Tryz.prog 107 [dL d, dI 10] { v := V1 (sB (txL d)) } := by
 show Con _ _ _ _
 refine Z3 Tryz.func107 ?_
 intro w0 X
 rw [am _ _ [(0, dL d), (1, dI 10)] rfl rfl];refine gQ fun _ O=>?_;refine Z8 ?_;refine eQ O ?_;clear O;refine gQ fun _ O=>?_;refine Z9 ?_;refine Z9 ?_;refine ac rfl rfl (DN d hd) rfl rfl rfl rfl ?_;refine Z8 ?_;refine eQ O ?_;clear O;exact aj aS

theorem De (s : DC) : Con Tryz.prog 109 [V1 (.sl [[s]])] { v := .tup [] } := by
 refine Z3 Tryz.func109 ?_
 intro w0 X
 rw [am _ _ [(0, V1 (.sl [[s]]))] rfl rfl];refine gQ fun _ O=>?_;refine Z9 ?_;refine aw rfl (jN (n := 1) rfl rfl rfl) rfl ?_;refine Z6 ?_;refine Z8 ?_;refine Z8 ?_;refine eQ O ?_;clear O;refine ai (aM (α := Unit) (fun _ => mk 28 [(2, dI 0), (3, dI 0)] [] []) (fun _ => True) (fun _ => 0) () ?_ trivial ?_)
 ·exact Wk.mk' ⟨rfl, rfl, trivial⟩ trivial
 rintro - -
 refine ae ?_;refine gQ fun _ O=>?_;refine Z9 ?_;refine Z9 ?_;refine Z6 ?_;refine eQ O ?_;clear O;refine al rfl (fun hc => by cases hc) (fun _ => ?_);refine aA ?_;exact (uX (by rfl) (by rfl) (by rfl) : Fin tab Tryz.f109 _ _)
theorem BH (s sep : ByteArray) : Con Tryz.prog 110 [V1 (.sl [[.lit (.string s)]]), V1 (.lit (.string sep))] { v := V1 (.lit (.string s)) } := by
 refine Z3 Tryz.func110 ?_
 intro w0 X
 rw [am _ _ [(0, V1 (.sl [[.lit (.string s)]])), (1, V1 (.lit (.string sep)))] rfl rfl];refine gQ fun _ O=>?_;refine Z8 ?_;refine eQ O ?_;clear O;refine ae ?_;refine gQ fun _ O=>?_;refine Z9 ?_;refine aw rfl (jN (n := 1) rfl rfl rfl) rfl ?_;refine eQ O ?_;clear O;refine ai ?_;refine gQ fun _ O=>?_;refine Z6 ?_;refine Z8 ?_;refine eQ O ?_;clear O;refine al rfl (fun hc => by cases hc) (fun _ => ?_);refine gQ fun _ O=>?_;refine Z6 ?_;refine Z8 ?_;refine eQ O ?_;clear O;refine al rfl (fun _ => ?_) (fun hc => by cases hc);refine gQ fun _ O=>?_;refine Z9 ?_;refine aa rfl (x_d (i := 0) rfl rfl rfl rfl rfl rfl) rfl ?_;refine Z7 ?_;refine Z8 ?_;refine eQ O ?_;clear O;exact aj aS

theorem Dk (x : Int) (hx : zl x <= 536870912) : Con Tryz.prog 93 [AG (ZC x)] { v := dB (decide (x = 1)) } := by
 have c1 := wu x 1 hx (by decide)
 refine Z3 Tryz.func93 ?_
 intro w0 X
 rw [am _ _ [(0, AG (ZC x))] rfl rfl];refine gQ fun _ O=>?_;refine aF rfl rfl rfl rfl rfl rfl ?_;refine Z8 ?_;refine eQ O ?_;clear O;refine aI tok mixed (A := [[], [], [], [0, 1], []]) (an := [{}, {}, {}, {}, {}]) rfl (by kernel_rfl) rfl fun _ O=>?_;refine Z7 ?_;refine ac rfl rfl (qG 1 (by unfold I64; omega)) rfl rfl rfl rfl ?_;refine ac rfl rfl (c1) rfl rfl rfl rfl ?_;refine Z6 ?_;refine Z8 ?_;refine eQ O ?_;clear O;exact aj (bK (h3 := by rw [<- vA]; rfl))

def EU : Tab := { tab with dat := fun _ => true }
theorem cJ : TOK Tryz.prog EU := ⟨tok.ty, tok.clo, tok.eqs⟩
theorem BJ (d : Nat) (hd : d < 100) : Con Tryz.prog 58 [AG (ZC d)] { v := V1 (sB (txL d)) } := by
 refine i5 (fn := Tryz.f58) cJ Tryz.func58 (by kernel_rfl) rfl ?_
 intro w0 X
 rw [am _ _ [(0, AG (ZC d))] rfl rfl]
 rcases Nat.eq_zero_or_pos d with h0 | h0
 ·subst h0
  refine ax cJ fun _ O=>?_;refine aF rfl rfl rfl rfl rfl rfl ?_;refine Z8 ?_;refine eQ O ?_;clear O;refine ax cJ fun _ O=>?_;refine Z5 ?_;refine Z7 ?_;refine ac rfl rfl (cO [] wOK.nil (by decide)) rfl rfl rfl rfl ?_;refine ac rfl rfl (ki [] (by decide)) rfl rfl rfl rfl ?_;refine Z8 ?_;refine eQ O ?_;clear O;refine ae ?_;refine ax cJ fun _ O=>?_;refine Z9 ?_;refine aw rfl (aR rfl rfl rfl) rfl ?_;refine Z6 ?_;refine eQ O ?_;clear O;refine al rfl (fun _ => ?_) (fun hc => by cases hc);refine ax cJ fun _ O=>?_;refine Z8 ?_;refine eQ O ?_;clear O;exact aj aS
 have hw : wof d = [d] := by
  have e : wv [d] = d := by simp [wv]
  rw [<- e, <- gN (wOK.one (by omega))];exact p8 (by omega)
 have hz : ZC (d : Int) = IC false [d] := by unfold ZC; rw [Int.natAbs_natCast, hw, decide_eq_false (by omega)]
 have hok : wOK [d] := wOK.one (by omega)
 have hv : wv [d] = d := by simp [wv]
 have cs := rp [d] 1000000000 hok (by decide) (by decide) (by simp)
 rw [hv, Nat.div_eq_of_lt (show d < 1000000000 by omega), Nat.mod_eq_of_lt (show d < 1000000000 by omega)] at cs
 have ct := cO (aV [d].length 0) (bS _ _) (by simp [aV])
 rw [bU, Nat.zero_mod] at ct
 have c0 := cO [d] hok (by simp)
 rw [hv, hw] at c0;rw [hz];refine ax cJ fun _ O=>?_;refine aF rfl rfl rfl rfl rfl rfl ?_;refine Z8 ?_;refine eQ O ?_;clear O;refine ax cJ fun _ O=>?_;refine Z5 ?_;refine Z7 ?_;refine ac rfl rfl (c0) rfl rfl rfl rfl ?_;refine ac rfl rfl (ki [d] (by simp)) rfl rfl rfl rfl ?_;refine Z8 ?_;refine eQ O ?_;clear O;refine ae ?_;refine ax cJ fun _ O=>?_;refine Z9 ?_;refine aw rfl (aR rfl rfl rfl) rfl ?_;refine Z6 ?_;refine eQ O ?_;clear O;refine al rfl (fun hc => by cases hc) (fun _ => ?_);refine ah ?_;show AWP _ _ _ _ _ _;refine ax cJ fun _ O=>?_;refine Z8 ?_;refine eQ O ?_;clear O;refine ae ?_;refine ai (aM (α := Nat) (fun i => mk 49 [(1, .ptr 1 0), (3, V1 (dW ([d].drop i))), (4, d5 4 1 i)] [(1, some (.box (IC false [d]))), (4, dP 1 [[sB (txL d)]] i)] []) (fun i => i <= 1) (fun i => 1 - i) 0 ?_ (Nat.zero_le _) ?_)
 ·exact Wk.mk' ⟨rfl, rfl, rfl, trivial⟩ ⟨rfl, rfl, trivial⟩
 intro i hi
 refine ae ?_
 rcases i with _ | i
 ·refine ax cJ fun _ O=>?_;refine Z9 ?_;refine aw rfl (aR rfl rfl rfl) rfl ?_;refine Z6 ?_;refine eQ O ?_;clear O;refine al rfl (fun _ => ?_) (fun hc => by cases hc);refine ah ?_;show AWP _ _ _ _ _ _;refine ai ?_;refine ax cJ fun _ O=>?_;refine Z8 ?_;refine eQ O ?_;clear O;refine ax cJ fun _ O=>?_;refine Z9 ?_;refine ac rfl rfl (cs) rfl rfl rfl rfl ?_;refine Z9 ?_;refine aq rfl rfl rfl ?_;refine aq rfl rfl rfl ?_;refine Z8 ?_;refine Z8 ?_;refine eQ O ?_;clear O;refine ax cJ fun _ O=>?_;refine Z9 ?_;refine ac rfl rfl (ct) rfl rfl rfl rfl ?_;refine Z8 ?_;refine eQ O ?_;clear O;refine ax cJ fun _ O=>?_;refine Z9 ?_;refine aN rfl (aP rfl rfl rfl (by show IntKind.u64.wrap (d : Int) = (d : Int); rw [nY]; omega)) rfl ?_;refine ac rfl rfl (CH d hd) rfl rfl rfl rfl ?_;refine Z8 ?_;refine eQ O ?_;clear O;refine ae ?_;refine ax cJ fun _ O=>?_;refine Z9 ?_;refine aw rfl (aR rfl rfl rfl) rfl ?_;refine Z6 ?_;refine eQ O ?_;clear O;refine al rfl (fun hc => by cases hc) (fun _ => ?_);refine ah ?_;show AWP _ _ _ _ _ _;refine kj cJ fun _ O=>?_;refine Z9 ?_;refine Z9 ?_;refine dm rfl rfl rfl rfl ?_;refine aQ rfl (gd rfl rfl rfl rfl rfl (by decide) (Nat.le_of_ble_eq_true rfl) rfl (by simp) rfl (by simp) (by simp)) rfl rfl rfl ?_;refine Z8 ?_;refine eQ O ?_;clear O;refine ⟨1, by omega, by omega, Wk.rn [1, 3, 4] [1, 39] 39 4 rfl rfl rfl ⟨rfl, rfl, rfl, trivial⟩ ⟨rfl, rfl, trivial⟩⟩
 ·obtain rfl : i = 0 := by omega
  refine ax cJ fun _ O=>?_;refine Z9 ?_;refine aw rfl (aR rfl rfl rfl) rfl ?_;refine Z6 ?_;refine eQ O ?_;clear O;refine al rfl (fun hc => by cases hc) (fun _ => ?_);refine aA ?_;show AWP _ _ _ _ _ _;refine ae ?_;refine ax cJ fun _ O=>?_;refine Z5 ?_;refine Z7 ?_;refine eQ O ?_;clear O;refine al rfl (fun hc => by cases hc) (fun _ => ?_);refine ah ?_;show AWP _ _ _ _ _ _;refine dT [4] [4] 4 [(4, V1 (.sl [[sB (txL d)]]))] [] rfl ?_ trivial ?_
  ·exact ⟨cI rfl rfl, trivial⟩
  refine ax cJ fun _ O=>?_;refine Z9 ?_;refine ac rfl rfl (De (sB (txL d))) rfl rfl rfl rfl ?_;refine eQ O ?_;clear O;refine ax cJ fun _ O=>?_;refine Z9 ?_;refine ac rfl rfl (BH _ _) rfl rfl rfl rfl ?_;refine Z8 ?_;refine eQ O ?_;clear O;exact aj aS
end Go.Proofs.YtceacleokgoooaaGreatDoor

/- A call that turns an own array of two strings round. No condition. -/
namespace Go.Proofs.YtceacleokgoooaaGreatDoor
open Go.RowKit

def EG (P : Program) (f : FuncId) : Prop :=
 (∃ fn, P.funcs[f]? = some fn /\ (fn.name == "runtime.NumGoroutine") = false /\ fn.body.isSome = true) /\
  ∀ (w : World) (b cap : Nat) (x y : ByteArray) (cs : Array Value) (E : TypeId), w.heap[b]? = some (.cells cs E (0, 0)) -> cs[0]? = some (.string x) -> cs[1]? = some (.string y) ->
   Calls P f #[.slice (some ⟨b, 0, none⟩) 2 cap] w (fun e w' => e = .returned (.tuple #[]) /\ ∃ w1, Below w.heap.size w w1 /\ w1.heap[b]? = w.heap[b]? /\ w' = setRow w1 b ((cs.setIfInBounds 0 (.string y)).setIfInBounds 1 (.string x)))

section
variable {P : Program} {w0 : Base} {X : Nat -> Prop} {ops : List Oper} {K : St -> Prop} {k n : Nat} {E : List (Nat × SV)} {S : List (Nat × Option OO)} {rb : List Nat}
theorem D1 {f : FuncId} {d t id : Nat} {x y : ByteArray} {ts : Array TypeId} {ty : TypeId} {ps : String} {af : Array Edge} (hf : EG P f) (ho : ops[k]? = some ⟨some d, .call ⟨.value (.func f), #[.tmp t], ts⟩, ty, ps, af, none⟩)
  (ht : rd n E (.tmp t) = .val (.one (.own id 1 0 2))) (hS : so S id = some (.arr 1 [[.lit (.string x)], [.lit (.string y)]]))
  (h : cZ P w0 X ops (k + 1) K (mk n ((d, .tup []) :: E) ((id, some (.arr 1 [[.lit (.string y)], [.lit (.string x)]])) :: S) rb)) : cZ P w0 X ops k K (mk n E S rb) := by
 intro μ a w Q hQ hs
 have hk : k < ops.length := by
  rcases Nat.lt_or_ge k ops.length with h' | h'
  ·exact h'
  ·rw [List.getElem?_eq_none h'] at ho; cases ho
 rw [List.drop_eq_getElem_cons (by simpa using hk), List.getElem_range, wpOps_cons]
 have ho' : ops.toArray[k]? = some ⟨some d, .call ⟨.value (.func f), #[.tmp t], ts⟩, ty, ps, af, none⟩ := by simpa using ho
 unfold wpOp
 rw [ho']
 simp only
 rw [if_pos (by rfl)];refine Or.inl ?_
 unfold Oper.wp
 simp only [execOp]
 obtain ⟨⟨fn, h1, h2, h3⟩, hcall⟩ := hf
 have hsl := hs.slots t
 rw [dK, ht] at hsl
 obtain ⟨cap, cs, E1, fr, hv, hle, hh, hcap⟩ := hsl
 obtain ⟨hid, cs2, E2, hh2, hrel⟩ := hs.objs id _ (show (mk n E S rb).σ id = _ from hS)
 rw [hh] at hh2
 obtain ⟨rfl, rfl, rfl⟩ : cs = cs2 /\ E1 = E2 /\ fr = (0, 0) := by cases hh2; exact ⟨rfl, rfl, rfl⟩
 obtain ⟨hr0, hr1, hr2⟩ := hrel
 have g0 : cs[0]? = some (.string x) := by
  obtain ⟨u, e1, e2⟩ := hr2 0 0 (.lit (.string x)) rfl
  have : u = .string x := by cases e2; rfl
  rw [this] at e1; simpa using e1
 have g1 : cs[1]? = some (.string y) := by
  obtain ⟨u, e1, e2⟩ := hr2 1 0 (.lit (.string y)) rfl
  have : u = .string y := by cases e2; rfl
  rw [this] at e1; simpa using e1
 refine l9 (c := ⟨.value (.func f), #[.tmp t], ts⟩) rfl h1 h2 h3 ?_
 have ea : (#[Operand.tmp t] : Array Operand).map a.eval = #[.slice (some ⟨μ id, 0, none⟩) 2 cap] := by
  rw [<- hv, List.map_toArray, List.map_cons, List.map_nil]; rfl
 show Calls P f ((#[Operand.tmp t] : Array Operand).map a.eval) w _
 rw [ea];refine (hcall w (μ id) cap x y cs E1 hh g0 g1).mono fun e w' ⟨he, w1, hb, hw1, hw'⟩ => ⟨_, he, ?_⟩
 subst hw'
 have hs1 := hs.below hb
 have hh1 : w1.heap[μ id]? = some (.cells cs E1 (0, 0)) := by rw [hw1]; exact hh
 have hs2 := hs1.upd (id := id) (o' := .arr 1 [[.lit (.string y)], [.lit (.string x)]]) (show (mk n E S rb).σ id = _ from hS) hh1 (cs' := (cs.setIfInBounds 0 (.string y)).setIfInBounds 1 (.string x)) (by simp) ?_ (rb' := rb) (fun k h => h) (fun l hl => by cases hl)
 ·have e : (⟨(mk n E S rb).ρ, bg (mk n E S rb).σ id (.arr 1 [[.lit (.string y)], [.lit (.string x)]]), rb⟩ : St) = mk n E ((id, some (.arr 1 [[.lit (.string y)], [.lit (.string x)]])) :: S) rb := by
   show (⟨_, bg (so S) id _, rb⟩ : St) = _
   rw [kY]; rfl
  rw [e] at hs2
  have hs3 := hs2.put (dst := some d) (u := .tuple #[]) (v := .tup []) ⟨[], rfl, rfl, fun i x hx => by simp at hx⟩
  rw [eO] at hs3;exact h μ _ _ Q hQ hs3
 ·have z0 : 0 < cs.size := (Array.getElem?_eq_some_iff.1 g0).1
  have z1 : 1 < cs.size := (Array.getElem?_eq_some_iff.1 g1).1
  refine ⟨by simpa using hr0, fun i e he => ?_, fun i j dd hd => ?_⟩
  ·match i, he with
   | 0, he => cases he; rfl
   | 1, he => cases he; rfl
   | i + 2, he => cases he
  ·match i, j, hd with
   | 0, 0, hd => cases hd; exact ⟨.string y, by simp [z0], RdC.lit rfl⟩
   | 1, 0, hd => cases hd; exact ⟨.string x, by simp [z1], RdC.lit rfl⟩
   | 0, j + 1, hd => simp [at2] at hd
   | 1, j + 1, hd => simp [at2] at hd
   | i + 2, j, hd => simp [at2] at hd
end
end Go.Proofs.YtceacleokgoooaaGreatDoor

/- The library functions Join and Reverse at this program: what the kit proves of them over any program. No condition. -/
namespace Go.Proofs.YtceacleokgoooaaGreatDoor
open Go.Shelf
def sh_lays156_ren : Go.Shelf.Ren := ⟨fun | 156 => 110 | 165 => 141 | 166 => 142 | 169 => 144 | 240 => 165 | 241 => 166 | 276 => 178 | 277 => 179 | n => n, fun | 31 => 160 | 9 => 9 | 3 => 3 | 4 => 4 | 0 => 0 | 20 => 20 | 72 => 192 | 76 => 196 | 70 => 189 | 37 => 190 | 75 => 195 | 127 => 214 | 164 => 223 | 5 => 5 | 80 => 199 | n => n, fun | n => n⟩
theorem sh_lays156 : Go.Proofs.Lays.n156 Tryz.prog sh_lays156_ren := {
 mixed := by kernel_rfl
 f156 := Tryz.func110.trans (congrArg some (by kernel_rfl))
 f165 := Tryz.func141.trans (congrArg some (by kernel_rfl))
 f166 := Tryz.func142.trans (congrArg some (by kernel_rfl))
 f169 := Tryz.func144.trans (congrArg some (by kernel_rfl))
 f240 := Tryz.func165.trans (congrArg some (by kernel_rfl))
 f241 := Tryz.func166.trans (congrArg some (by kernel_rfl))
 f276 := Tryz.func178.trans (congrArg some (by kernel_rfl))
 f277 := Tryz.func179.trans (congrArg some (by kernel_rfl))
 t0 := Tryz.underlying0
 a0 := Tryz.isAgg0
 z0 := Tryz.sizeOf0
 v0 := Tryz.zeroValue0
 t3 := Tryz.underlying3
 a3 := Tryz.isAgg3
 z3 := Tryz.sizeOf3
 v3 := Tryz.zeroValue3
 t4 := Tryz.underlying4
 a4 := Tryz.isAgg4
 z4 := Tryz.sizeOf4
 v4 := Tryz.zeroValue4
 t9 := Tryz.underlying9
 a9 := Tryz.isAgg9
 z9 := Tryz.sizeOf9
 v9 := Tryz.zeroValue9
 t20 := Tryz.underlying20
 a20 := Tryz.isAgg20
 z20 := Tryz.sizeOf20
 v20 := Tryz.zeroValue20
 t31 := Tryz.underlying160
 a31 := Tryz.isAgg160
 z31 := Tryz.sizeOf160
 v31 := Tryz.zeroValue160
 t37 := Tryz.underlying190
 a37 := Tryz.isAgg190
 z37 := Tryz.sizeOf190
 v37 := Tryz.zeroValue190
 t70 := Tryz.underlying189
 a70 := Tryz.isAgg189
 z70 := Tryz.sizeOf189
 v70 := Tryz.zeroValue189
 t72 := Tryz.underlying192
 a72 := Tryz.isAgg192
 z72 := Tryz.sizeOf192
 v72 := Tryz.zeroValue192
 t75 := Tryz.underlying195
 a75 := Tryz.isAgg195
 z75 := Tryz.sizeOf195
 v75 := Tryz.zeroValue195
 t76 := Tryz.underlying196
 a76 := Tryz.isAgg196
 z76 := Tryz.sizeOf196
 v76 := Tryz.zeroValue196
 t127 := Tryz.underlying214
 a127 := Tryz.isAgg214
 z127 := Tryz.sizeOf214
 v127 := Tryz.zeroValue214
 t164 := Tryz.underlying223
 a164 := Tryz.isAgg223
 z164 := Tryz.sizeOf223
 v164 := Tryz.zeroValue223 }
theorem sh_Builder_Extra_156 : Builder.Extra Tryz.prog sh_lays156_ren := {
 sizeBuilder := by kernel_rfl
 liesBuilder := by kernel_rfl
 t5 := Tryz.underlying5
 a5 := Tryz.isAgg5
 z5 := Tryz.sizeOf5
 v5 := Tryz.zeroValue5
 infoByte := by kernel_rfl
 cellsByte := by kernel_rfl
 sizeByte := by kernel_rfl
 neB5 := by decide }
open Go.RowKit in
theorem sh_strings_Join (bk o c : Nat) (xs : List ByteArray) (sep : ByteArray) (w : World) (hcells : ∀ (j : Nat) x, xs[j]? = some x -> w.cell? ⟨bk, o + j, none⟩ = some (.string x)) (hbk : bk < w.heap.size) (hN : xs.length <= 140737488355328) (hcap : xs.length <= c) (hlen : (Lib.join (xs.map (·.data.toList)) sep.data.toList).length <= 140737488355328) :
  Calls Tryz.prog 110 #[.slice (some ⟨bk, o, none⟩) xs.length c, .string sep] w fun e w' => e = .returned (.string ⟨(Lib.join (xs.map (·.data.toList)) sep.data.toList).toArray⟩) /\ Below w.heap.size w w' := Any.strings_Join sh_lays156 sh_Builder_Extra_156 bk o c xs sep w hcells hbk hN hcap hlen
def sh_laysNm217_ren : Go.Shelf.Ren := ⟨fun | 17 => 109 | n => n, fun | 24 => 160 | 9 => 9 | 3 => 3 | 4 => 4 | 0 => 0 | n => n, fun | n => n⟩
theorem sh_laysNm217 : Go.Proofs.Lays2.n17 Tryz.prog sh_laysNm217_ren := {
 mixed := by kernel_rfl
 f17 := Tryz.func109.trans (congrArg some (by kernel_rfl))
 t0 := Tryz.underlying0
 a0 := Tryz.isAgg0
 z0 := Tryz.sizeOf0
 v0 := Tryz.zeroValue0
 t3 := Tryz.underlying3
 a3 := Tryz.isAgg3
 z3 := Tryz.sizeOf3
 v3 := Tryz.zeroValue3
 t4 := Tryz.underlying4
 a4 := Tryz.isAgg4
 z4 := Tryz.sizeOf4
 v4 := Tryz.zeroValue4
 t9 := Tryz.underlying9
 a9 := Tryz.isAgg9
 z9 := Tryz.sizeOf9
 v9 := Tryz.zeroValue9
 t24 := Tryz.underlying160
 a24 := Tryz.isAgg160
 z24 := Tryz.sizeOf160
 v24 := Tryz.zeroValue160 }
open Go.RowKit Go.Lib Go.Sort in
theorem sh_slices_Reverse_string_cells (b off n c : Nat) (Sx : Nat -> ByteArray) (w : World) (hbig : n <= 9223372036854775807) (hc : ∀ i, i < n -> w.cell? ⟨b, off + i, none⟩ = some (.string (Sx i))) (hf : ∀ j, j < n -> w.frozen? ⟨b, off + j, none⟩ = false) :
  Calls Tryz.prog 109 #[.slice (some ⟨b, off, none⟩) n c] w fun e w' => e = .returned (.tuple #[]) /\ ∃ q, w' = (w.drewN q).setCells b off ((Lib.strsOf Sx n).reverse.map encStr) := Any.slices_Reverse_string_cells sh_laysNm217 b off n c Sx w hbig hc hf
end Go.Proofs.YtceacleokgoooaaGreatDoor

/- Numbers as text: negative ones, fractions. No condition. -/
namespace Go.Proofs.YtceacleokgoooaaGreatDoor
attribute [local irreducible] aD
open Go.RowKit

theorem wL (y : ByteArray) : (⟨y.data.toList.toArray⟩ : ByteArray) = y := by cases y; simp
theorem qZ {w : World} {b : Nat} {cs : Array Value} {E : TypeId} {fr : Nat × Nat} (h : w.heap[b]? = some (.cells cs E fr)) (i : Nat) : w.cell? ⟨b, i, none⟩ = cs[i]? := by
 simp [World.cell?, h]
theorem Dd : EG Tryz.prog 109 := by
 refine ⟨⟨Tryz.f109, Tryz.func109, by kernel_rfl, rfl⟩, fun w b cap x y cs E hh h0 h1 => ?_⟩;refine (sh_slices_Reverse_string_cells b 0 2 cap (fun i => if i = 0 then x else y) w (by decide) (fun i hi => ?_) (fun j _ => g7 hh _)).mono fun e w' ⟨he, q, hw⟩ => ⟨he, w.drewN q, ⟨rfl, rfl, rfl, Nat.le_refl _, fun _ _ => rfl⟩, rfl, ?_⟩
 ·rw [qZ hh]
  match i, hi with
  | 0, _ => exact h0
  | 1, _ => exact h1
 ·rw [hw]
  have hh' : (w.drewN q).heap[b]? = some (.cells cs E (0, 0)) := hh
  show ((w.drewN q).setCell ⟨b, 0, none⟩ (.string ⟨y.data.toList.toArray⟩)).setCell ⟨b, 1, none⟩ (.string ⟨x.data.toList.toArray⟩) = _
  rw [wL, wL, ii hh', ii (ce hh' _), gf hh']
theorem BG (x y : List UInt8) (hx : x.length <= 1000) (hy : y.length <= 1000) : Con Tryz.prog 110 [V1 (.sl [[sB x], [sB y]]), V1 (sB [])] { v := V1 (sB (x ++ y)) } := by
 refine ⟨⟨Tryz.f110, Tryz.func110, by kernel_rfl, rfl⟩, fun w X μ vs _ hX hl ha => ?_⟩
 obtain ⟨v0, e0, r0⟩ := ha 0 _ rfl
 obtain ⟨v1, e1, r1⟩ := ha 1 _ rfl
 obtain ⟨u0, u1, rfl⟩ : ∃ u0 u1, vs = [u0, u1] := by
  match vs, hl with
  | [u0, u1], _ => exact ⟨u0, u1, rfl⟩
 have r0 : RdC w X u0 (.sl [[sB x], [sB y]]) := by cases e0; exact r0
 have r1 : RdC w X u1 (sB []) := by cases e1; exact r1
 obtain rfl : u1 = .string ⟨#[]⟩ := by cases r1; rfl
 cases r0 with
 | sl gs hh hxx hlen hcap hs hv hr =>
  rename_i b off len cap sz cs E fr
  subst hlen
  have hsz : 1 = sz := hs 0 [sB x] rfl
  subst hsz
  have key : ∀ v s, RdC w X v (.lit (.string s)) -> v = .string s := fun v s h => by cases h; rfl
  have g0 : gs 0 0 = .string ⟨x.toArray⟩ := key _ _ (hr 0 0 (sB x) rfl)
  have g1 : gs 1 0 = .string ⟨y.toArray⟩ := key _ _ (hr 1 0 (sB y) rfl)
  have v0 := hv 0 0 (sB x) rfl
  have v1 := hv 1 0 (sB y) rfl
  rw [g0] at v0;rw [g1] at v1
  have hj : Lib.join ([(⟨x.toArray⟩ : ByteArray), ⟨y.toArray⟩].map (·.data.toList)) (⟨#[]⟩ : ByteArray).data.toList = x ++ y := by
   simp [Lib.join, List.intercalate]
  have := sh_strings_Join b off cap [⟨x.toArray⟩, ⟨y.toArray⟩] ⟨#[]⟩ w (fun j z hz => by
   rw [qZ hh]
   match j, hz with
   | 0, hz => cases hz; simpa using v0
   | 1, hz => cases hz; simpa using v1
   | j + 2, hz => cases hz) (bi hh) (by simp) hcap (by rw [hj, List.length_append]; omega)
  rw [hj] at this;exact this.mono fun e w' ⟨he, hb⟩ => ⟨_, he, hb, 0, fun _ _ h => (by cases h), RdC.lit rfl⟩
theorem zF (d : Nat) (h0 : 0 < d) (hd : d < 100) : Con Tryz.prog 58 [AG (ZC (-(d : Int)))] { v := V1 (sB (45 :: txL d)) } := by
 have ltx : (txL d).length <= 2 := by unfold txL; split <;> simp <;> omega
 refine i5 (fn := Tryz.f58) cJ Tryz.func58 (by kernel_rfl) rfl ?_
 intro w0 X
 rw [am _ _ [(0, AG (ZC (-(d : Int))))] rfl rfl]
 have hw : wof d = [d] := by
  have e : wv [d] = d := by simp [wv]
  rw [<- e, <- gN (wOK.one (by omega))];exact p8 (by omega)
 have hz : ZC (-(d : Int)) = IC true [d] := by unfold ZC; rw [Int.natAbs_neg, Int.natAbs_natCast, hw, decide_eq_true (by omega)]
 have hok : wOK [d] := wOK.one (by omega)
 have hv : wv [d] = d := by simp [wv]
 have cs := rp [d] 1000000000 hok (by decide) (by decide) (by simp)
 rw [hv, Nat.div_eq_of_lt (show d < 1000000000 by omega), Nat.mod_eq_of_lt (show d < 1000000000 by omega)] at cs
 have ct := cO (aV [d].length 0) (bS _ _) (by simp [aV])
 rw [bU, Nat.zero_mod] at ct
 have c0 := cO [d] hok (by simp)
 rw [hv, hw] at c0
 have cj := BG [45] (txL d) (by simp) (by omega)
 rw [hz];refine ax cJ fun _ O=>?_;refine aF rfl rfl rfl rfl rfl rfl ?_;refine Z8 ?_;refine eQ O ?_;clear O;refine ax cJ fun _ O=>?_;refine Z5 ?_;refine Z7 ?_;refine ac rfl rfl (c0) rfl rfl rfl rfl ?_;refine ac rfl rfl (ki [d] (by simp)) rfl rfl rfl rfl ?_;refine Z8 ?_;refine eQ O ?_;clear O;refine ae ?_;refine ax cJ fun _ O=>?_;refine Z9 ?_;refine aw rfl (aR rfl rfl rfl) rfl ?_;refine Z6 ?_;refine eQ O ?_;clear O;refine al rfl (fun hc => by cases hc) (fun _ => ?_);refine ah ?_;show AWP _ _ _ _ _ _;refine ax cJ fun _ O=>?_;refine Z8 ?_;refine eQ O ?_;clear O;refine ae ?_;refine ai (aM (α := Nat) (fun i => mk 49 [(1, .ptr 1 0), (3, V1 (dW ([d].drop i))), (4, d5 4 1 i)] [(1, some (.box (IC true [d]))), (4, dP 1 [[sB (txL d)]] i)] []) (fun i => i <= 1) (fun i => 1 - i) 0 ?_ (Nat.zero_le _) ?_)
 ·exact Wk.mk' ⟨rfl, rfl, rfl, trivial⟩ ⟨rfl, rfl, trivial⟩
 intro i hi
 refine ae ?_
 rcases i with _ | i
 ·refine ax cJ fun _ O=>?_;refine Z9 ?_;refine aw rfl (aR rfl rfl rfl) rfl ?_;refine Z6 ?_;refine eQ O ?_;clear O;refine al rfl (fun _ => ?_) (fun hc => by cases hc);refine ah ?_;show AWP _ _ _ _ _ _;refine ai ?_;refine ax cJ fun _ O=>?_;refine Z8 ?_;refine eQ O ?_;clear O;refine ax cJ fun _ O=>?_;refine Z9 ?_;refine ac rfl rfl (cs) rfl rfl rfl rfl ?_;refine Z9 ?_;refine aq rfl rfl rfl ?_;refine aq rfl rfl rfl ?_;refine Z8 ?_;refine Z8 ?_;refine eQ O ?_;clear O;refine ax cJ fun _ O=>?_;refine Z9 ?_;refine ac rfl rfl (ct) rfl rfl rfl rfl ?_;refine Z8 ?_;refine eQ O ?_;clear O;refine ax cJ fun _ O=>?_;refine Z9 ?_;refine aN rfl (aP rfl rfl rfl (by show IntKind.u64.wrap (d : Int) = (d : Int); rw [nY]; omega)) rfl ?_;refine ac rfl rfl (CH d hd) rfl rfl rfl rfl ?_;refine Z8 ?_;refine eQ O ?_;clear O;refine ae ?_;refine ax cJ fun _ O=>?_;refine Z9 ?_;refine aw rfl (aR rfl rfl rfl) rfl ?_;refine Z6 ?_;refine eQ O ?_;clear O;refine al rfl (fun hc => by cases hc) (fun _ => ?_);refine ah ?_;show AWP _ _ _ _ _ _;refine kj cJ fun _ O=>?_;refine Z9 ?_;refine Z9 ?_;refine dm rfl rfl rfl rfl ?_;refine aQ rfl (gd rfl rfl rfl rfl rfl (by decide) (Nat.le_of_ble_eq_true rfl) rfl (by simp) rfl (by simp) (by simp)) rfl rfl rfl ?_;refine Z8 ?_;refine eQ O ?_;clear O;refine ⟨1, by omega, by omega, Wk.rn [1, 3, 4] [1, 39] 39 4 rfl rfl rfl ⟨rfl, rfl, rfl, trivial⟩ ⟨rfl, rfl, trivial⟩⟩
 ·obtain rfl : i = 0 := by omega
  refine ax cJ fun _ O=>?_;refine Z9 ?_;refine aw rfl (aR rfl rfl rfl) rfl ?_;refine Z6 ?_;refine eQ O ?_;clear O;refine al rfl (fun hc => by cases hc) (fun _ => ?_);refine aA ?_;show AWP _ _ _ _ _ _;refine a8 (α := Unit) (fun _ => mk 49 [(4, .val (.one (.own 4 1 0 2)))] [(4, some (.arr 1 [[sB (txL d)], [sB [45]]]))] []) (fun _ => True) ?_ ?_
  ·refine ax cJ fun _ O=>?_;refine Z5 ?_;refine Z7 ?_;refine eQ O ?_;clear O;refine al rfl (fun _ => ?_) (fun hc => by cases hc);refine kj cJ fun _ O=>?_;refine Z9 ?_;refine dm rfl rfl rfl rfl ?_;refine aQ rfl (ib rfl rfl rfl rfl rfl rfl (by decide) (Nat.le_of_ble_eq_true rfl) rfl (by simp) rfl rfl rfl (by simp)) rfl rfl rfl ?_;refine Z8 ?_;refine eQ O ?_;clear O;exact ⟨(), trivial, Wk.rn [4] [44] 44 4 rfl rfl rfl ⟨rfl, trivial⟩ ⟨rfl, trivial⟩⟩
  rintro - -
  refine bw fun _ O=>?_;refine ab cJ rfl ?_;refine Z9 ?_;refine ag ?_;refine D1 (x := ⟨(txL d).toArray⟩) (y := ⟨[45].toArray⟩) Dd rfl rfl rfl ?_;refine bn rfl (O _ ?_); clear O;refine dT [4] [4] 4 [(4, V1 (.sl [[sB [45]], [sB (txL d)]]))] [] rfl ?_ trivial ?_
  ·exact ⟨cI rfl rfl, trivial⟩
  refine ax cJ fun _ O=>?_;refine Z9 ?_;refine ac rfl rfl (cj) rfl rfl rfl rfl ?_;refine Z8 ?_;refine eQ O ?_;clear O;exact aj aS

def ztx (z : Int) : List UInt8 := if z < 0 then 45 :: txL z.natAbs else txL z.natAbs
theorem tH (z : Int) (h : -100 < z /\ z < 100) : Con Tryz.prog 58 [AG (ZC z)] { v := V1 (sB (ztx z)) } := by
 unfold ztx
 split
 ·have e : z = -((z.natAbs : Nat) : Int) := by omega
  have := zF z.natAbs (by omega) (by omega)
  rw [<- e] at this; exact this
 ·have e : z = ((z.natAbs : Nat) : Int) := by omega
  have := BJ z.natAbs (by omega)
  rw [<- e] at this; exact this
def qtx (q : Rat) : List UInt8 := if q.den = 1 then ztx q.num else ztx q.num ++ [47] ++ ztx q.den
theorem vz (z : Int) : (ztx z).length <= 3 := by
 have h : ∀ d, (txL d).length <= 2 := fun d => by unfold txL; split <;> simp <;> omega
 unfold ztx; split
 ·have := h z.natAbs; simp; omega
 ·have := h z.natAbs; omega
theorem Ac {T : Tab} {t : TypeId} (a b : List UInt8) (h : a.length + b.length <= 1000) : aO T .add t (V1 (sB a)) (V1 (sB b)) = .set (V1 (sB (a ++ b))) := by
 have hb : gb .add (.string ⟨a.toArray⟩) (.string ⟨b.toArray⟩) = some (.string ⟨(a ++ b).toArray⟩) := by
  have e1 : (ByteArray.mk a.toArray).size = a.length := by simp [ByteArray.size]
  have e2 : (ByteArray.mk b.toArray).size = b.length := by simp [ByteArray.size]
  simp only [gb];rw [if_pos (by rw [e1, e2]; omega)]
  congr 2
 simp only [aO, cQ, hb]; rfl
theorem rB (a : RW) (ok : a.OK 16777216) (hn : -100 < a.v.num /\ a.v.num < 100) (hd : (a.v.den : Int) < 100) : Con Tryz.prog 44 [AG a.cs] { v := V1 (sB (qtx a.v)) } := by
 have c1 := jj a ok
 have h1 := ok.ql rfl
 generalize a.v = x at *
 have c2 := Dk (x.den : Int) (a6 (cg h1) rfl)
 have c3 := tH x.num hn
 have c4 := tH (x.den : Int) (by omega)
 have l1 := vz x.num
 have l2 := vz (x.den : Int)
 refine i5 (fn := Tryz.f44) cJ Tryz.func44 (by kernel_rfl) rfl ?_
 intro w0 X
 rw [am _ _ [(0, AG a.cs)] rfl rfl];refine ax cJ fun _ O=>?_;refine aF rfl rfl rfl rfl rfl rfl ?_;refine Z8 ?_;refine eQ O ?_;clear O;refine ax cJ fun _ O=>?_;refine Z7 ?_;refine ac rfl rfl (c1) rfl rfl rfl rfl ?_;refine ak rfl rfl rfl rfl rfl ?_;refine eQ O ?_;clear O;refine ae ?_;refine ax cJ fun _ O=>?_;refine Z5 ?_;refine Z7 ?_;refine ac rfl rfl (c2) rfl rfl rfl rfl ?_;refine eQ O ?_;clear O;refine al rfl (fun hc => ?_) (fun hc => ?_)
 ·have hc : x.den = 1 := by have := of_decide_eq_true hc; omega
  refine ax cJ fun _ O=>?_;refine Z5 ?_;refine Z7 ?_;refine ac rfl rfl (c3) rfl rfl rfl rfl ?_;refine Z8 ?_;refine eQ O ?_;clear O;exact aj (bK (h3 := by unfold qtx; rw [if_pos hc]; rfl))
 ·have hc : ¬ x.den = 1 := by have := of_decide_eq_false hc; omega
  refine ah ?_;show AWP _ _ _ _ _ _;refine aI cJ mixed (A := [[], [], [0], [0, 1], [], [], [0, 1, 4], [0, 1, 2, 4, 5], []]) (an := [{}, {}, {}, {}, { c := [13] }, { c := [13] }, {}, {}, {}]) rfl (by kernel_rfl) rfl fun _ O=>?_;refine Z5 ?_;refine Z7 ?_;refine ac rfl rfl (c3) rfl rfl rfl rfl ?_;refine ap rfl (Ac _ [47] (by simp; omega)) rfl ?_;refine Z5 ?_;refine Z7 ?_;refine ac rfl rfl (c4) rfl rfl rfl rfl ?_;refine ap rfl (Ac _ _ (by simp; omega)) rfl ?_;refine Z8 ?_;refine eQ O ?_;clear O;exact aj (bK (h3 := by unfold qtx; rw [if_neg hc]; rfl))
end Go.Proofs.YtceacleokgoooaaGreatDoor

/- adjust: Worst, Graph; awake. No condition. -/
namespace Go.Proofs.YtceacleokgoooaaGreatDoor
attribute [local irreducible] aD
open Go.RowKit

theorem xb (ls : List LK) (hn : ls.length <= 1048576) : Con Tryz.prog 49 [V1 (dLs ls)] { v := V1 (dLs ls) } := by
 refine Z3 Tryz.func49 ?_
 intro w0 X
 rw [am _ _ [(0, V1 (dLs ls))] rfl rfl];refine gQ fun _ O=>?_;refine Z8 ?_;refine eQ O ?_;clear O;refine ae ?_;refine q7 (es := ls.map LK.dc) tok rfl rfl rfl rfl rfl rfl rfl rfl rfl rfl fun b hb => ?_;rw [eO, eO];refine al rfl (fun hc => ?_) (fun hc => ?_)
 ·have : ls = [] := by have := hb hc; simpa using this
  subst this
  refine gQ fun _ O=>?_;refine Z8 ?_;refine eQ O ?_;clear O;exact aj aS
 ·refine ah ?_;show AWP _ _ _ _ _ _;refine gQ fun _ O=>?_;refine ay rfl rfl rfl rfl ?_;refine Z9 ?_;refine aQ rfl (ib (es := []) rfl rfl rfl rfl rfl rfl (by decide) (Nat.le_of_ble_eq_true rfl) rfl (fun e he => by obtain ⟨x, _, rfl⟩ := List.mem_map.1 he; rfl) rfl rfl rfl (by simp; omega)) rfl rfl rfl ?_;refine Z8 ?_;refine eQ O ?_;clear O;refine dT [2] [7] 7 [(2, V1 (dLs ls))] [] rfl ?_ trivial ?_
  ·exact ⟨cI (List.nil_append _) (by simp), trivial⟩
  exact aj aS
set_option maxHeartbeats 1000000 in
theorem ug (ns : List RW) (ls : List LK) (ok : ∀ r ∈ ns, r.OK 268435456) (hn : ns.length <= 1048576) (hl : ls.length <= 1048576) : Con Tryz.prog 15 [.pd [dRs ns, dLs ls]] { v := AG (GR.mk (ns.map fun r => pz2 r.cn) ls).cs } := by
 have cC := xb ls hl
 refine Z3 Tryz.func15 ?_
 intro w0 X
 rw [am _ _ [(0, .pd [dRs ns, dLs ls])] rfl rfl];refine gQ fun _ O=>?_;refine au rfl rfl rfl rfl rfl rfl ?_;refine eQ O ?_;clear O;refine ae ?_;refine bw fun _ O=>?_;refine ab tok rfl ?_;refine Z9 ?_;refine ag ?_;refine D3 (e := 101) rfl rfl rfl (by kernel_rfl) ?_;refine bn rfl (O _ ?_); clear O;refine al rfl (fun h => by cases h) (fun _ => ?_);refine ah ?_;show AWP _ _ _ _ _ _;refine bw fun _ O=>?_;refine ab tok rfl ?_;refine Z9 ?_;refine ag ?_;refine Cq rfl rfl rfl ?_;refine ab tok rfl ?_;refine Z5 ?_;refine ag ?_;refine ab tok rfl ?_;refine Z5 ?_;refine ag ?_;refine ab tok rfl ?_;refine Z7 ?_;refine ag ?_;refine ab tok rfl ?_;refine ac rfl rfl (cC) rfl rfl rfl rfl ?_;refine ag ?_;refine ab tok rfl ?_;refine aK rfl rfl rfl ?_;refine ag ?_;refine ab tok rfl ?_;refine au rfl rfl rfl rfl rfl rfl ?_;refine ag ?_;refine ab tok rfl ?_;refine ak rfl rfl rfl rfl rfl ?_;refine ag ?_;refine bn rfl (O _ ?_); clear O;refine ae ?_;refine bw fun _ O=>?_;refine ab tok rfl ?_;refine Z9 ?_;refine ag ?_;refine Cq rfl rfl rfl ?_;refine ab tok rfl ?_;refine Z5 ?_;refine ag ?_;refine ab tok rfl ?_;refine Z5 ?_;refine ag ?_;refine ab tok rfl ?_;refine Z7 ?_;refine ag ?_;refine ab tok rfl ?_;refine aw rfl (br RW.dc rfl rfl) rfl ?_;refine ag ?_;refine ab tok rfl ?_;refine Z9 ?_;refine ag ?_;refine bn rfl (O _ ?_); clear O;refine ai (aM (α := Nat) (fun i => mk 35 [(2, .ptr 2 0), (3, .ptr 3 0), (20, V1 (dRs ns)), (21, dI ns.length), (22, dI i)] [(2, some (.box [.nil, .nil])), (3, some (.box [Ef 200 4 i, .d (dLs ls)])), (200, dP 4 (((ns.take i).map fun r => pz2 r.cn).map RW.dc) i)] [3]) (fun i => i <= ns.length) (fun i => ns.length - i) 0 ?_ (Nat.zero_le _) ?_)
 ·exact Wk.trans (Wk.rbE rfl) (Wk.mk' ⟨rfl, rfl, rfl, rfl, rfl, trivial⟩ ⟨rfl, rfl, rfl, trivial⟩)
 intro i hi
 refine gQ fun _ O=>?_;refine Z6 ?_;refine eQ O ?_;clear O;refine ae ?_;refine al rfl (fun hg => ?_) (fun hg => ?_)
 ·have hg : i < ns.length := by simp at hg; omega
  have cN := lf ns[i] (ok _ (List.getElem_mem hg))
  have n1 : ((ns.take i).map fun r => pz2 r.cn).map RW.dc ++ [(pz2 (ns[i]).cn).dc] = ((ns.take (i + 1)).map fun r => pz2 r.cn).map RW.dc := by
   rw [List.take_succ_eq_append_getElem hg, List.map_append, List.map_append]; rfl
  have z1 : (((ns.take i).map fun r => pz2 r.cn).map RW.dc).length = i := by simp; omega
  generalize pz2 (ns[i]).cn = q at cN n1;generalize ((ns.take i).map fun r => pz2 r.cn).map RW.dc = es at n1 z1 ⊢;refine ah ?_;show AWP _ _ _ _ _ _;refine ae ?_;refine ai ?_
  rcases i with _ | i
  ·refine gQ fun _ O=>?_;refine aa rfl (x_m RW.dc rfl rfl rfl rfl hg rfl) rfl ?_;refine Z7 ?_;refine au rfl rfl rfl rfl rfl rfl ?_;refine ak rfl rfl rfl rfl rfl ?_;refine eQ O ?_;clear O;refine bB tok mixed (A := [[], [], [], [], [2], [0, 2], [], []]) (an := [{}, {}, {}, {}, {}, {}, {}, {}]) rfl (by kernel_rfl) rfl fun _ O=>?_;refine Z5 ?_;refine Z7 ?_;refine Z7 ?_;refine ac rfl rfl (cN) rfl rfl rfl rfl ?_;refine ay rfl rfl rfl rfl ?_;refine aQ rfl (gd rfl rfl rfl rfl rfl (by decide) (Nat.le_of_ble_eq_true rfl) rfl (by simp) rfl (by simp) (by simp)) rfl rfl rfl ?_;refine Z5 ?_;refine dF rfl rfl rfl rfl rfl ?_;refine eQ O ?_;clear O;show AWP _ _ _ _ _ _;refine gR fun _ O=>?_;refine ap rfl (aL (c := ((0 + 1 : Nat) : Int)) (by omega) (by omega)) rfl ?_;refine Z9 ?_;refine eQ O ?_;clear O;refine ⟨0 + 1, by omega, hg, Wk.rnB [2, 3, 20, 21, 22] [2, 3, 31] 31 200 rfl rfl rfl ⟨rfl, rfl, rfl, rfl, rfl, trivial⟩ ⟨rfl, ?_, ?_, trivial⟩ rfl⟩
   ·first
     | rfl
     | (show some (OO.box [.own 200 4 0 _, _]) = _
        rw [List.length_append, z1]; rfl)
   ·first
     | (rw [<- n1, List.length_eq_zero_iff.1 z1]; rfl)
     | (rw [<- n1]; rfl)
  ·refine gQ fun _ O=>?_;refine aa rfl (x_m RW.dc rfl rfl rfl rfl hg rfl) rfl ?_;refine Z7 ?_;refine au rfl rfl rfl rfl rfl rfl ?_;refine ak rfl rfl rfl rfl rfl ?_;refine eQ O ?_;clear O;refine bB tok mixed (A := [[], [], [], [], [2], [0, 2], [], []]) (an := [{}, {}, {}, {}, {}, {}, {}, {}]) rfl (by kernel_rfl) rfl fun _ O=>?_;refine Z5 ?_;refine Z7 ?_;refine Z7 ?_;refine ac rfl rfl (cN) rfl rfl rfl rfl ?_;refine ay rfl rfl rfl rfl ?_;refine aQ rfl (ib rfl rfl rfl rfl rfl rfl (by decide) (Nat.le_of_ble_eq_true rfl) rfl (by simp) rfl rfl z1.symm (by simp <;> omega)) rfl rfl rfl ?_;refine Z5 ?_;refine dF rfl rfl rfl rfl rfl ?_;refine eQ O ?_;clear O;show AWP _ _ _ _ _ _;refine gR fun _ O=>?_;refine ap rfl (aL (c := ((i + 1 + 1 : Nat) : Int)) (by omega) (by omega)) rfl ?_;refine Z9 ?_;refine eQ O ?_;clear O;refine ⟨i + 1 + 1, by omega, hg, Wk.rnB [2, 3, 20, 21, 22] [2, 3, 31] 31 200 rfl rfl rfl ⟨rfl, rfl, rfl, rfl, rfl, trivial⟩ ⟨rfl, ?_, ?_, trivial⟩ rfl⟩
   ·first
     | rfl
     | (show some (OO.box [.own 200 4 0 _, _]) = _
        rw [List.length_append, z1]; rfl)
   ·first
     | (rw [<- n1, List.length_eq_zero_iff.1 z1]; rfl)
     | (rw [<- n1]; rfl)
 have hg : i = ns.length := by simp at hg; omega
 subst hg
 rw [List.take_length]
 have zL : (ns.map fun r => pz2 r.cn).length = ns.length := List.length_map _
 rw [<- zL];generalize (ns.map fun r => pz2 r.cn) = LL;refine aA ?_;show AWP _ _ _ _ _ _
 rcases LL with _ | ⟨l, LL⟩
 ·refine gQ fun _ O=>?_;refine Z7 ?_;refine ak rfl rfl rfl rfl rfl ?_;refine eQ O ?_;clear O;exact aj aS
 ·refine dT [2, 3] [2, 3, 200] 200 [(2, .ptr 2 0), (3, .ptr 3 0)] [(2, some (.box [.nil, .nil])), (3, some (.box (GR.mk (l :: LL) ls).cs))] rfl ⟨rfl, rfl, trivial⟩ ⟨rfl, ?_, trivial⟩ ?_
  ·show some (OO.box [gq 200 4 _ (.own 200 4 0 _), _]) = _
   rw [g6 rfl (by simp)]; rfl
  refine gQ fun _ O=>?_;refine Z7 ?_;refine ak rfl rfl rfl rfl rfl ?_;refine eQ O ?_;clear O;exact aj aS

/-! ### Worst -/
def wrN (q : Nat -> Rat) : Nat -> Nat
 | 0 => 0
 | k + 1 => if q (wrN q k) < q k then k else wrN q k
theorem xV (q : Nat -> Rat) : ∀ {k n : Nat}, k <= n -> 0 < n -> wrN q k < n
 | 0, _, _, h => h
 | k + 1, n, h, hn => by
  rw [wrN]; split
  ·omega
  ·exact xV q (by omega) hn
def csN (g : GR) (s : List SP) (i : Nat) : Rat := csT g s (g.links.getD i ⟨0, 0, 0, 0, 0⟩)
def uj (g : GR) (s : List SP) : Int × RW × Int :=
 if iZ g s = true then (if g.links.length = 0 then (0, eh, 7) else ((wrN (csN g s) g.links.length : Nat), qzW (csN g s (wrN (csN g s) g.links.length)), 0)) else (0, eh, 1)
theorem yX (x y : Rat) : rA x y <= 0 ↔ x <= y := by
 have z : ∀ x y : Int, kt x y <= 0 ↔ x <= y := fun x y => by unfold kt; (repeat' split) <;> omega
 unfold rA
 rw [z, Rat.le_iff]
theorem yY (x y : Rat) : decide (rA x y > 0) = decide (y < x) := by
 rw [Bool.eq_iff_iff, decide_eq_true_eq, decide_eq_true_eq]
 have := yX x y
 constructor
 ·intro h
  exact Rat.not_le.1 fun h' => by have := this.2 h'; omega
 ·intro h
  have h' := Rat.not_le.2 h
  have : ¬ rA x y <= 0 := fun h2 => h' (this.1 h2)
  omega
def pI (q : Nat -> Rat) (i : Nat) : Int := if i = 0 then -1 else (wrN q i : Nat)
def zcs : List SC := [.d (.lit (.bool false)), .nil, .d (.lit (.bool false)), .nil]
def o3 (q : Nat -> Rat) (i : Nat) : List SC := if i = 0 then zcs else (qzW (q (wrN q i))).cs
set_option maxHeartbeats 1000000 in
theorem DJ (g : GR) (s : List SP) (ok : ∀ r ∈ g.nodes, r.OK 4096) (os : ∀ p ∈ s, p.OK 4096) : Con Tryz.prog 43 [AG g.cs, V1 (dSs s)] { v := .tup [.one (.d (lI (uj g s).1)), .agg (uj g s).2.1.cs, .one (.d (lI (uj g s).2.2))] } := by
 have cR := Az g s
 refine Z3 Tryz.func43 ?_
 intro w0 X
 rw [am _ _ [(0, AG g.cs), (1, V1 (dSs s))] rfl rfl];refine gQ fun _ O=>?_;refine aF rfl rfl rfl rfl rfl rfl ?_;refine Z8 ?_;refine au rfl rfl rfl rfl rfl rfl ?_;refine Z8 ?_;refine eQ O ?_;clear O;refine ae ?_;refine ai ?_;refine gQ fun _ O=>?_;refine Z7 ?_;refine Z9 ?_;refine ac rfl rfl (cR) rfl rfl rfl rfl ?_;refine dE rfl rfl rfl ?_;refine Z8 ?_;refine eQ O ?_;clear O;refine al rfl (fun hc => ?_) (fun hc => ?_)
 ·rw [Bool.not_eq_true'] at hc
  have e : uj g s = (0, eh, 1) := by rw [uj, if_neg (by rw [hc]; simp)]
  rw [e];refine gQ fun _ O=>?_;refine aK rfl rfl rfl ?_;refine Z8 ?_;refine ak rfl rfl rfl rfl rfl ?_;refine Z8 ?_;refine eQ O ?_;clear O;exact aj aS
 rw [Bool.not_eq_false'] at hc
 have h := kh.1 hc
 have gv := h.gv
 have l48 := gv.l
 rw [uj, if_pos hc];refine gQ fun _ O=>?_;refine Z5 ?_;refine Z7 ?_;refine aw rfl (br LK.dc rfl rfl) rfl ?_;refine ap rfl (CI _ 0) rfl ?_;refine Z8 ?_;refine eQ O ?_;clear O;refine al rfl (fun hd => ?_) (fun hd => ?_)
 ·rw [if_pos (of_decide_eq_true hd)];refine gQ fun _ O=>?_;refine aK rfl rfl rfl ?_;refine Z8 ?_;refine ak rfl rfl rfl rfl rfl ?_;refine Z8 ?_;refine eQ O ?_;clear O;exact aj aS
 have hd := of_decide_eq_false hd
 rw [if_neg hd];refine ah ?_;show AWP _ _ _ _ _ _;refine gQ fun _ O=>?_;refine aK rfl rfl rfl ?_;refine au rfl rfl rfl rfl rfl rfl ?_;refine Z8 ?_;refine ak rfl rfl rfl rfl rfl ?_;refine eQ O ?_;clear O;refine ae ?_;refine gQ fun _ O=>?_;refine Z5 ?_;refine Z7 ?_;refine aw rfl (br LK.dc rfl rfl) rfl ?_;refine Z9 ?_;refine eQ O ?_;clear O;refine ai (aM (α := Nat) (fun i => mk 71 [(1, V1 (dSs s)), (2, .ptr 2 0), (5, .ptr 5 0), (7, dI (pI (csN g s) i)), (8, .ptr 8 0), (28, V1 (dLs g.links)), (29, dI g.links.length), (30, dI i)] [(2, some (.box g.cs)), (5, some (.box zcs)), (8, some (.box (o3 (csN g s) i)))] []) (fun i => i <= g.links.length) (fun i => g.links.length - i) 0 ?_ (Nat.zero_le _) ?_)
 ·have b0 : pI (csN g s) 0 = -1 := if_pos rfl
  have b1 : o3 (csN g s) 0 = zcs := if_pos rfl
  simp only [b0, b1];exact Wk.mk' ⟨rfl, rfl, rfl, rfl, rfl, rfl, rfl, rfl, trivial⟩ ⟨rfl, rfl, rfl, trivial⟩
 intro i hi
 refine gQ fun _ O=>?_;refine Z6 ?_;refine eQ O ?_;clear O;refine ae ?_;refine al rfl (fun hg => ?_) (fun hg => ?_)
 ·have hg : i < g.links.length := by simp at hg; omega
  obtain ⟨l, hl⟩ : ∃ l, l = g.links[i] := ⟨_, rfl⟩
  have hm : l ∈ g.links := hl ▸ List.getElem_mem hg
  have lv := gLV gv l hm
  have o := ux h hm ok os
  have cR := tM g s (i : Int) (fun r hr => (ok r hr).mono rfl) (fun p hp => (os p hp).mono rfl)
  have eR : pO g s (i : Int) = (rsG g s l, 0) := by
   rw [pO, if_pos hc, dif_pos ⟨by omega, by simpa using hg⟩];simp only [Int.toNat_natCast, <- hl]
  rw [eR] at cR
  have eq1 : csN g s i = ((rsG g s l).vx * (rsG g s l).vx + (rsG g s l).vy * (rsG g s l).vy) * ((l.w : Int) : Rat) := by
   unfold csN; rw [List.getD_eq_getElem?_getD, List.getElem?_eq_getElem hg, <- hl]; rfl
  have hql : ∀ k, k < g.links.length -> ql (csN g s k) <= 98400 := fun k hk => by
   unfold csN; rw [List.getD_eq_getElem?_getD, List.getElem?_eq_getElem hk]
   exact vf h (List.getElem_mem hk) ok os
  have hwr := xV (csN g s) hi (by omega)
  have qi := hql i hg
  have qw := hql _ hwr
  have ws : wrN (csN g s) (i + 1) = if csN g s (wrN (csN g s) i) < csN g s i then i else wrN (csN g s) i := rfl
  generalize rsG g s l = r at cR o eq1
  have x1 := o.qx rfl
  have x2 := o.qy rfl
  have m1 := aJ x1 x1
  have m2 := aJ x2 x2
  have m3 := bA m1 m2
  have c1 := ml r.x r.x (r.vx * r.vx) (o.x.mono rfl) (o.x.mono rfl) rfl
  have c2 := ml r.y r.y (r.vy * r.vy) (o.y.mono rfl) (o.y.mono rfl) rfl
  have c3 := Dn (qzW (r.vx * r.vx)) (qzW (r.vy * r.vy)) (r.vx * r.vx + r.vy * r.vy) ((bd m1).mono rfl) ((bd m2).mono rfl) (by rw [bq, bq])
  have c4 := ji l.w lv.iw
  have c5 := ml (qzW (r.vx * r.vx + r.vy * r.vy)) (qzW ((l.w : Int) : Rat)) (csN g s i) ((bd m3).mono rfl) ((bd (dH lv.iw)).mono rfl) (by rw [bq, bq, eq1])
  have c6 := y4 (qzW (csN g s i)) (qzW (csN g s (wrN (csN g s) i))) ((bd qi).mono rfl) ((bd qw).mono rfl)
  rw [bq, bq] at c6
  have hgt := yY (csN g s i) (csN g s (wrN (csN g s) i))
  have b1 : ∀ k, pI (csN g s) (k + 1) = (wrN (csN g s) (k + 1) : Nat) := fun k => if_neg (by omega)
  have b2 : ∀ k, o3 (csN g s) (k + 1) = (qzW (csN g s (wrN (csN g s) (k + 1)))).cs := fun k => if_neg (by omega)
  refine ah ?_;show AWP _ _ _ _ _ _;refine ae ?_;refine ai ?_;refine gQ fun _ O=>?_;refine Z9 ?_;refine aa rfl (x_m LK.dc rfl rfl rfl rfl hg rfl) rfl ?_;refine Z7 ?_;refine au rfl rfl rfl rfl rfl rfl ?_;refine Z8 ?_;refine ak rfl rfl rfl rfl rfl ?_;refine eQ O ?_;clear O;rw [<- hl];refine gQ fun _ O=>?_;refine Z7 ?_;refine Z9 ?_;refine Z9 ?_;refine ac rfl rfl (cR) rfl rfl rfl rfl ?_;refine Z9 ?_;refine aq rfl rfl rfl ?_;refine aq rfl rfl rfl ?_;refine au rfl rfl rfl rfl rfl rfl ?_;refine ak rfl rfl rfl rfl rfl ?_;refine Z8 ?_;refine eQ O ?_;clear O;refine aI tok mixed (A := [[], [], [], [], [0, 2], [], [], [], [], [0, 1, 2, 3, 5, 7], [0, 1, 2, 3, 5, 6, 7, 8], [], []]) (an := [{}, {}, {}, {}, {}, { c := [46] }, { c := [46] }, { c := [46] }, { c := [46] }, {}, {}, { c := [46, 51, 52] }, {}]) rfl (by kernel_rfl) rfl fun _ O=>?_;refine Z5 ?_;refine Z7 ?_;refine Z5 ?_;refine Z7 ?_;refine ac rfl rfl (c1) rfl rfl rfl rfl ?_;refine Z5 ?_;refine Z7 ?_;refine Z5 ?_;refine Z7 ?_;refine ac rfl rfl (c2) rfl rfl rfl rfl ?_;refine ac rfl rfl (c3) rfl rfl rfl rfl ?_;refine au rfl rfl rfl rfl rfl rfl ?_;refine ak rfl rfl rfl rfl rfl ?_;refine eQ O ?_;clear O;refine aI tok mixed (A := [[], [], [], [1], [1, 2], []]) (an := [{}, {}, {}, {}, {}, {}]) rfl (by kernel_rfl) rfl fun _ O=>?_;refine Z7 ?_;refine Z5 ?_;refine Z7 ?_;refine ac rfl rfl (c4) rfl rfl rfl rfl ?_;refine ac rfl rfl (c5) rfl rfl rfl rfl ?_;refine ak rfl rfl rfl rfl rfl ?_;refine eQ O ?_;clear O
  rcases i with _ | i
  ·have w1 : wrN (csN g s) (0 + 1) = 0 := by rw [ws]; split <;> rfl
   have b0 : pI (csN g s) 0 = -1 := if_pos rfl
   have b3 : o3 (csN g s) 0 = zcs := if_pos rfl
   rw [b0, b3];refine gQ fun _ O=>?_;refine Z9 ?_;refine Z6 ?_;refine Z9 ?_;refine az rfl ?_;refine az rfl ?_;refine az rfl ?_;refine az rfl ?_;refine Z4 ?_;refine eQ O ?_;clear O;refine al rfl (fun _ => ?_) (fun h => by cases h);refine bB tok mixed (A := [[], [], [], []]) (an := [{}, {}, {}, {}]) rfl (by kernel_rfl) rfl fun _ O=>?_;refine Z9 ?_;refine Z7 ?_;refine Z8 ?_;refine ak rfl rfl rfl rfl rfl ?_;refine eQ O ?_;clear O;show AWP _ _ _ _ _ _;refine gR fun _ O=>?_;refine ap rfl (aL (c := ((0 + 1 : Nat) : Int)) (by omega) (by omega)) rfl ?_;refine Z9 ?_;refine eQ O ?_;clear O;refine ⟨0 + 1, by omega, hg, ?_⟩
   have a1 : pI (csN g s) (0 + 1) = ((0 : Nat) : Int) := by rw [pI, if_neg (by omega), w1]
   have a2 : o3 (csN g s) (0 + 1) = (qzW (csN g s 0)).cs := by rw [o3, if_neg (by omega), w1]
   rw [a1, a2];exact Wk.mk' ⟨rfl, rfl, rfl, rfl, rfl, rfl, rfl, rfl, trivial⟩ ⟨rfl, rfl, rfl, trivial⟩
  ·rw [b1, b2];generalize hw0 : wrN (csN g s) (i + 1) = w0' at *;generalize rA (csN g s (i + 1)) (csN g s w0') = kk at c6 hgt;refine gQ fun _ O=>?_;refine Z9 ?_;refine ap rfl (wF (c := false) (decide_eq_false (by omega))) rfl ?_;refine Z9 ?_;refine Z7 ?_;refine Z7 ?_;refine ac rfl rfl (c6) rfl rfl rfl rfl ?_;refine ap rfl (Ev hgt) rfl ?_;refine Z4 ?_;refine eQ O ?_;clear O;refine al rfl (fun he => ?_) (fun he => ?_)
   ·rw [if_pos (of_decide_eq_true he)] at ws;refine bB tok mixed (A := [[], [], [], []]) (an := [{}, {}, {}, {}]) rfl (by kernel_rfl) rfl fun _ O=>?_;refine Z9 ?_;refine Z7 ?_;refine Z8 ?_;refine ak rfl rfl rfl rfl rfl ?_;refine eQ O ?_;clear O;show AWP _ _ _ _ _ _;refine gR fun _ O=>?_;refine ap rfl (aL (c := ((i + 1 + 1 : Nat) : Int)) (by omega) (by omega)) rfl ?_;refine Z9 ?_;refine eQ O ?_;clear O;refine ⟨i + 1 + 1, by omega, hg, ?_⟩;rw [b1, b2, ws];exact Wk.mk' ⟨rfl, rfl, rfl, rfl, rfl, rfl, rfl, rfl, trivial⟩ ⟨rfl, rfl, rfl, trivial⟩
   ·rw [if_neg (of_decide_eq_false he)] at ws;refine ah ?_;show AWP _ _ _ _ _ _;refine gR fun _ O=>?_;refine ap rfl (aL (c := ((i + 1 + 1 : Nat) : Int)) (by omega) (by omega)) rfl ?_;refine Z9 ?_;refine eQ O ?_;clear O;refine ⟨i + 1 + 1, by omega, hg, ?_⟩;rw [b1, b2, ws];exact Wk.mk' ⟨rfl, rfl, rfl, rfl, rfl, rfl, rfl, rfl, trivial⟩ ⟨rfl, rfl, rfl, trivial⟩
 have hg : i = g.links.length := by simp at hg; omega
 subst hg
 have a1 : pI (csN g s) g.links.length = (wrN (csN g s) g.links.length : Nat) := if_neg hd
 have a2 : o3 (csN g s) g.links.length = (qzW (csN g s (wrN (csN g s) g.links.length))).cs := if_neg hd
 rw [a1, a2];refine aA ?_;show AWP _ _ _ _ _ _;refine aI tok mixed (A := [[], [], [], [], []]) (an := [{}, {}, {}, {}, {}]) rfl (by kernel_rfl) rfl fun _ O=>?_;refine Z9 ?_;refine Z7 ?_;refine Z8 ?_;refine ak rfl rfl rfl rfl rfl ?_;refine Z8 ?_;refine eQ O ?_;clear O;exact aj aS
end Go.Proofs.YtceacleokgoooaaGreatDoor

/- adjust: the methods of an adjuster that is an own variable with two own arrays. No condition. -/
namespace Go.Proofs.YtceacleokgoooaaGreatDoor
attribute [local irreducible] aD
open Go.RowKit

theorem tY {T : Tab} {t : TypeId} {a b : Int} {c : Bool} (h : decide (a >= b) = c) : aO T .geq t (dI a) (dI b) = .set (dB c) := by subst h; rfl

def lkC : Bool -> Nat -> SC
 | false, _ => .nil
 | true, n => .own 997 5 0 n
def adS (b : Bool) (ns es : List (List DC)) : List (Nat × Option OO) :=
 (999, some (.box [.own 998 4 0 ns.length, lkC b es.length])) :: (998, some (.arr 4 ns)) :: (match b with | true => [(997, some (.arr 5 es))] | false => [])
theorem sn (b : Bool) (ns es : List (List DC)) : ∀ id cs, so (adS b ns es) id = some (.box cs) -> id ∉ [999] -> ∀ k, cs.all (SC.noRef k) = true := by
 intro id cs h hn
 have h9 : 999 ≠ id := fun e => hn (by rw [e]; exact List.mem_singleton.2 rfl)
 cases b <;> (simp only [adS, aG] at h; (repeat' split at h) <;> first | (exact absurd ‹_› h9) | cases h)
theorem eU {T : Tab} {fn : Func} {r : SV} {S' : List (Nat × Option OO)} {st : St} {n : Nat} {E' : List (Nat × SV)} {rb : List Nat} {xs : List VV} (hw : Wk st (mk n E' S' rb)) (hx : nm T (mk n E' S' rb) fn.results.toList = some xs) (hr : r = mV xs) : AB T fn r S' .ret st := ⟨_, hw, rfl, Or.inl ⟨xs, hx, hr⟩⟩
def QN (r : RW) : RW := pz2 r.cn

set_option maxHeartbeats 1000000 in
theorem BI (b : Bool) (ns es : List (List DC)) (r : RW) (ok : r.OK 268435456) (hn : ns.length < 16) :
  pY Tryz.prog 11 [.ptr 999 0, AG r.cs] (adS b ns es) (.tup [.one (.d (lI ns.length)), .one (.d (lI 0))]) (adS b (ns ++ [(QN r).dc]) es) := by
 have cN := lf r ok
 change Con _ _ _ { v := AG (QN r).cs } at cN
 generalize QN r = q at cN ⊢;refine hH (rb := [999]) (fn := Tryz.f11) tok Tryz.func11 (by kernel_rfl) rfl (sn _ _ _) ?_
 intro w0 X _
 rw [iW _ _ _ _ [(0, .ptr 999 0), (1, AG r.cs)] rfl rfl]
 unfold adS lkC
 cases b
 ·refine gQ fun _ O=>?_;refine aF rfl rfl rfl rfl rfl rfl ?_;refine Z8 ?_;refine Z8 ?_;refine eQ O ?_;clear O;refine ae ?_;refine ai ?_;refine gQ fun _ O=>?_;refine Z9 ?_;refine Z6 ?_;refine Z8 ?_;refine eQ O ?_;clear O;refine al rfl (fun h => by cases h) (fun _ => ?_);refine gQ fun _ O=>?_;refine Z9 ?_;refine aZ rfl rfl rfl ?_;refine Z5 ?_;refine Z5 ?_;refine Z7 ?_;refine aw rfl rfl rfl ?_;refine ap rfl (tY (c := false) (decide_eq_false (by omega))) rfl ?_;refine Z8 ?_;refine eQ O ?_;clear O;refine al rfl (fun h => by cases h) (fun _ => ?_);refine ah ?_;show AWP _ _ _ _ _ _;refine iq kZ mixed (m := 10) (A := [[], [], [], [1], [1, 2], [1, 2, 3], [], [], [6], [1, 2, 3, 4, 6], [], [], [10], [10, 11]]) (an := [{}, {}, {}, {}, {}, {}, {}, {}, {}, {}, {}, {}, {}, {}]) rfl rfl (by kernel_rfl) (by kernel_rfl) (by kernel_rfl) rfl fun _ O=>?_;refine Z9 ?_;refine Z9 ?_;refine aZ rfl rfl rfl ?_;refine Z5 ?_;refine Z5 ?_;refine Z7 ?_;refine Z7 ?_;refine ac rfl rfl (cN) rfl rfl rfl rfl ?_;refine dm rfl rfl rfl rfl ?_;refine aQ rfl (ib rfl rfl rfl rfl rfl rfl (by decide) (Nat.le_of_ble_eq_true rfl) rfl (by simp) rfl rfl rfl (by simp <;> omega)) rfl rfl rfl ?_;refine ag ?_;refine ab kZ rfl ?_;refine aZ rfl rfl rfl ?_;refine ag ?_;refine ab kZ rfl ?_;refine Z5 ?_;refine ag ?_;refine ab kZ rfl ?_;refine Z5 ?_;refine ag ?_;refine ab kZ rfl ?_;refine dF rfl rfl rfl rfl rfl ?_;refine ag ?_;refine bn rfl (O _ ?_); clear O;refine ax kZ fun _ O=>?_;refine Z9 ?_;refine aZ rfl rfl rfl ?_;refine Z5 ?_;refine Z5 ?_;refine Z7 ?_;refine aw rfl rfl rfl ?_;refine ap rfl (bQ (c := ((ns.length : Nat) : Int)) (by simp) (by omega)) rfl ?_;refine Z8 ?_;refine Z8 ?_;refine eQ O ?_;clear O;refine aj ?_;exact eU (rb := [999]) (E' := [(4, dI ns.length), (5, dI 0)]) (Wk.rnB [4, 5] [999, 26] 26 998 rfl rfl rfl ⟨rfl, rfl, trivial⟩ ⟨rfl, rfl, trivial⟩ rfl) rfl rfl
 ·refine gQ fun _ O=>?_;refine aF rfl rfl rfl rfl rfl rfl ?_;refine Z8 ?_;refine Z8 ?_;refine eQ O ?_;clear O;refine ae ?_;refine ai ?_;refine gQ fun _ O=>?_;refine Z9 ?_;refine Z6 ?_;refine Z8 ?_;refine eQ O ?_;clear O;refine al rfl (fun h => by cases h) (fun _ => ?_);refine gQ fun _ O=>?_;refine Z9 ?_;refine aZ rfl rfl rfl ?_;refine Z5 ?_;refine Z5 ?_;refine Z7 ?_;refine aw rfl rfl rfl ?_;refine ap rfl (tY (c := false) (decide_eq_false (by omega))) rfl ?_;refine Z8 ?_;refine eQ O ?_;clear O;refine al rfl (fun h => by cases h) (fun _ => ?_);refine ah ?_;show AWP _ _ _ _ _ _;refine iq kZ mixed (m := 10) (A := [[], [], [], [1], [1, 2], [1, 2, 3], [], [], [6], [1, 2, 3, 4, 6], [], [], [10], [10, 11]]) (an := [{}, {}, {}, {}, {}, {}, {}, {}, {}, {}, {}, {}, {}, {}]) rfl rfl (by kernel_rfl) (by kernel_rfl) (by kernel_rfl) rfl fun _ O=>?_;refine Z9 ?_;refine Z9 ?_;refine aZ rfl rfl rfl ?_;refine Z5 ?_;refine Z5 ?_;refine Z7 ?_;refine Z7 ?_;refine ac rfl rfl (cN) rfl rfl rfl rfl ?_;refine dm rfl rfl rfl rfl ?_;refine aQ rfl (ib rfl rfl rfl rfl rfl rfl (by decide) (Nat.le_of_ble_eq_true rfl) rfl (by simp) rfl rfl rfl (by simp <;> omega)) rfl rfl rfl ?_;refine ag ?_;refine ab kZ rfl ?_;refine aZ rfl rfl rfl ?_;refine ag ?_;refine ab kZ rfl ?_;refine Z5 ?_;refine ag ?_;refine ab kZ rfl ?_;refine Z5 ?_;refine ag ?_;refine ab kZ rfl ?_;refine dF rfl rfl rfl rfl rfl ?_;refine ag ?_;refine bn rfl (O _ ?_); clear O;refine ax kZ fun _ O=>?_;refine Z9 ?_;refine aZ rfl rfl rfl ?_;refine Z5 ?_;refine Z5 ?_;refine Z7 ?_;refine aw rfl rfl rfl ?_;refine ap rfl (bQ (c := ((ns.length : Nat) : Int)) (by simp) (by omega)) rfl ?_;refine Z8 ?_;refine Z8 ?_;refine eQ O ?_;clear O;refine aj ?_;exact eU (rb := [999]) (E' := [(4, dI ns.length), (5, dI 0)]) (Wk.rnB [4, 5] [999, 26, 997] 26 998 rfl rfl rfl ⟨rfl, rfl, trivial⟩ ⟨rfl, rfl, rfl, trivial⟩ rfl) rfl rfl

theorem nR {S : List (Nat × Option OO)} {ns : List (List DC)} {c2 : SC} {d2 : DC} (h1 : so S 998 = some (.arr 4 ns)) (h2 : d9 ⟨[], so S, []⟩ c2 = some d2) : ca ⟨[], so S, []⟩ [.val (.agg [.own 998 4 0 ns.length, c2])] = some [.val (.agg [.d (.sl ns), .d d2])] := by
 have h3 : d9 ⟨[], so S, []⟩ (.own 998 4 0 ns.length) = some (.sl ns) := by
  unfold d9
  show (match so S 998 with | some (.arr sz' es) => if sz' = 4 /\ 0 + ns.length <= es.length then some (DC.sl ((es.drop 0).take ns.length)) else none | _ => none) = _
  rw [h1]
  show (if 4 = 4 /\ 0 + ns.length <= ns.length then some (DC.sl ((ns.drop 0).take ns.length)) else none) = _
  rw [if_pos ⟨rfl, by omega⟩]; simp
 unfold ca hZ
 show (match (match bR _ [.own 998 4 0 ns.length, c2] with | some ds => some (SV.val (.agg ds)) | none => none), ca _ [] with | some y, some ys => some (y :: ys) | _, _ => none) = _
 unfold bR
 rw [h3]
 unfold bR
 rw [h2]
 rfl

set_option maxHeartbeats 1000000 in
theorem zB (b : Bool) (ns : List RW) (es : List (List DC)) (l : LK) (hv : bz (.mk ns [l]) = false) :
  pY Tryz.prog 12 [.ptr 999 0, AG l.cs] (adS b (ns.map RW.dc) es) (dI 1) (adS b (ns.map RW.dc) es) := by
 have cV := gZ (.mk ns [l])
 rw [hv] at cV;refine hH (rb := [999]) (fn := Tryz.f12) tok Tryz.func12 (by kernel_rfl) rfl (sn _ _ _) ?_
 intro w0 X _
 rw [iW _ _ _ _ [(0, .ptr 999 0), (1, AG l.cs)] rfl rfl]
 unfold adS lkC
 cases b
 ·refine gQ fun _ O=>?_;refine aF rfl rfl rfl rfl rfl rfl ?_;refine Z8 ?_;refine eQ O ?_;clear O;refine ae ?_;refine ai ?_;refine aI tok mixed (A := [[], [], [0], [0, 1], [0, 1], [0, 1, 3], [0, 1, 3, 4], [0, 1, 3, 4, 5], [0, 1], [0, 1], [0, 1, 3, 4, 5, 6, 8], [0, 1, 3, 4, 5, 6, 7, 8, 9], [0, 1, 3, 4, 5, 6, 7, 8, 9, 10], [0, 1, 3, 4, 5, 6, 7, 8, 9, 10, 11], [0, 1, 2, 3, 4, 5, 6, 7, 8, 9, 10, 12]]) (an := [{}, {}, {}, {}, {}, {}, {}, {}, {}, {}, {}, {}, {}, {}, {}]) rfl (by kernel_rfl) rfl fun _ O=>?_;refine Z9 ?_;refine Z6 ?_;refine Z9 ?_;refine Z9 ?_;refine aZ rfl rfl rfl ?_;refine Z5 ?_;refine Z5 ?_;refine Z7 ?_;refine Z7 ?_;refine ay rfl rfl rfl rfl ?_;refine aK rfl rfl rfl ?_;refine nG rfl (nR rfl rfl) (cV) ⟨rfl, fun _ _ h => by cases h⟩ rfl rfl rfl ?_;refine dE rfl rfl rfl ?_;refine Z4 ?_;refine Z8 ?_;refine eQ O ?_;clear O;refine al rfl (fun _ => ?_) (fun h => by cases h);refine gQ fun _ O=>?_;refine Z8 ?_;refine eQ O ?_;clear O;refine aj ?_;exact eU (rb := [999]) (E' := [(4, dI 1)]) (Wk.mk' ⟨rfl, trivial⟩ ⟨rfl, rfl, trivial⟩) rfl rfl
 ·refine gQ fun _ O=>?_;refine aF rfl rfl rfl rfl rfl rfl ?_;refine Z8 ?_;refine eQ O ?_;clear O;refine ae ?_;refine ai ?_;refine aI tok mixed (A := [[], [], [0], [0, 1], [0, 1], [0, 1, 3], [0, 1, 3, 4], [0, 1, 3, 4, 5], [0, 1], [0, 1], [0, 1, 3, 4, 5, 6, 8], [0, 1, 3, 4, 5, 6, 7, 8, 9], [0, 1, 3, 4, 5, 6, 7, 8, 9, 10], [0, 1, 3, 4, 5, 6, 7, 8, 9, 10, 11], [0, 1, 2, 3, 4, 5, 6, 7, 8, 9, 10, 12]]) (an := [{}, {}, {}, {}, {}, {}, {}, {}, {}, {}, {}, {}, {}, {}, {}]) rfl (by kernel_rfl) rfl fun _ O=>?_;refine Z9 ?_;refine Z6 ?_;refine Z9 ?_;refine Z9 ?_;refine aZ rfl rfl rfl ?_;refine Z5 ?_;refine Z5 ?_;refine Z7 ?_;refine Z7 ?_;refine ay rfl rfl rfl rfl ?_;refine aK rfl rfl rfl ?_;refine nG rfl (nR rfl rfl) (cV) ⟨rfl, fun _ _ h => by cases h⟩ rfl rfl rfl ?_;refine dE rfl rfl rfl ?_;refine Z4 ?_;refine Z8 ?_;refine eQ O ?_;clear O;refine al rfl (fun _ => ?_) (fun h => by cases h);refine gQ fun _ O=>?_;refine Z8 ?_;refine eQ O ?_;clear O;refine aj ?_;exact eU (rb := [999]) (E' := [(4, dI 1)]) (Wk.mk' ⟨rfl, trivial⟩ ⟨rfl, rfl, rfl, trivial⟩) rfl rfl
set_option maxHeartbeats 1000000 in
theorem tF (b : Bool) (ns : List RW) (es : List (List DC)) (l : LK) (hv : bz (.mk ns [l]) = true) (hn : es.length < 48) (hb : b = false -> es = []) :
  pY Tryz.prog 12 [.ptr 999 0, AG l.cs] (adS b (ns.map RW.dc) es) (dI 0) (adS true (ns.map RW.dc) (es ++ [l.dc])) := by
 have cV := gZ (.mk ns [l])
 rw [hv] at cV;refine hH (rb := [999]) (fn := Tryz.f12) tok Tryz.func12 (by kernel_rfl) rfl (sn _ _ _) ?_
 intro w0 X _
 rw [iW _ _ _ _ [(0, .ptr 999 0), (1, AG l.cs)] rfl rfl]
 unfold adS lkC
 cases b
 have hb := hb rfl
 subst hb
 ·refine gQ fun _ O=>?_;refine aF rfl rfl rfl rfl rfl rfl ?_;refine Z8 ?_;refine eQ O ?_;clear O;refine ae ?_;refine ai ?_;refine aI tok mixed (A := [[], [], [0], [0, 1], [0, 1], [0, 1, 3], [0, 1, 3, 4], [0, 1, 3, 4, 5], [0, 1], [0, 1], [0, 1, 3, 4, 5, 6, 8], [0, 1, 3, 4, 5, 6, 7, 8, 9], [0, 1, 3, 4, 5, 6, 7, 8, 9, 10], [0, 1, 3, 4, 5, 6, 7, 8, 9, 10, 11], [0, 1, 2, 3, 4, 5, 6, 7, 8, 9, 10, 12]]) (an := [{}, {}, {}, {}, {}, {}, {}, {}, {}, {}, {}, {}, {}, {}, {}]) rfl (by kernel_rfl) rfl fun _ O=>?_;refine Z9 ?_;refine Z6 ?_;refine Z9 ?_;refine Z9 ?_;refine aZ rfl rfl rfl ?_;refine Z5 ?_;refine Z5 ?_;refine Z7 ?_;refine Z7 ?_;refine ay rfl rfl rfl rfl ?_;refine aK rfl rfl rfl ?_;refine nG rfl (nR rfl rfl) (cV) ⟨rfl, fun _ _ h => by cases h⟩ rfl rfl rfl ?_;refine dE rfl rfl rfl ?_;refine Z4 ?_;refine Z8 ?_;refine eQ O ?_;clear O;refine al rfl (fun h => by cases h) (fun _ => ?_);refine gQ fun _ O=>?_;refine Z9 ?_;refine aZ rfl rfl rfl ?_;refine Z5 ?_;refine Z5 ?_;refine Z7 ?_;refine aw rfl rfl rfl ?_;refine ap rfl (tY (c := false) rfl) rfl ?_;refine Z8 ?_;refine eQ O ?_;clear O;refine al rfl (fun h => by cases h) (fun _ => ?_);refine ah ?_;show AWP _ _ _ _ _ _;refine iq tok mixed (m := 9) (A := [[], [], [], [1], [1, 2], [1, 2, 3], [], [], [1, 2, 3, 4, 6], [], [], [9], [9, 10]]) (an := [{}, {}, {}, {}, {}, {}, {}, {}, {}, {}, {}, {}, {}]) rfl rfl (by kernel_rfl) (by kernel_rfl) (by kernel_rfl) rfl fun _ O=>?_;refine Z9 ?_;refine Z9 ?_;refine aZ rfl rfl rfl ?_;refine Z5 ?_;refine Z5 ?_;refine Z7 ?_;refine Z7 ?_;refine ay rfl rfl rfl rfl ?_;refine aQ rfl (gd rfl rfl rfl rfl rfl (by decide) (Nat.le_of_ble_eq_true rfl) rfl (by simp) rfl (by simp) (by simp)) rfl rfl rfl ?_;refine ag ?_;refine ab tok rfl ?_;refine aZ rfl rfl rfl ?_;refine ag ?_;refine ab tok rfl ?_;refine Z5 ?_;refine ag ?_;refine ab tok rfl ?_;refine Z5 ?_;refine ag ?_;refine ab tok rfl ?_;refine dF rfl rfl rfl rfl rfl ?_;refine ag ?_;refine bn rfl (O _ ?_); clear O;refine gQ fun _ O=>?_;refine Z8 ?_;refine eQ O ?_;clear O;refine aj ?_;exact eU (rb := [999]) (E' := [(4, dI 0)]) (Wk.rnB [4] [999, 998, 36] 36 997 rfl rfl rfl ⟨rfl, trivial⟩ ⟨rfl, rfl, rfl, trivial⟩ rfl) rfl rfl
 ·refine gQ fun _ O=>?_;refine aF rfl rfl rfl rfl rfl rfl ?_;refine Z8 ?_;refine eQ O ?_;clear O;refine ae ?_;refine ai ?_;refine aI tok mixed (A := [[], [], [0], [0, 1], [0, 1], [0, 1, 3], [0, 1, 3, 4], [0, 1, 3, 4, 5], [0, 1], [0, 1], [0, 1, 3, 4, 5, 6, 8], [0, 1, 3, 4, 5, 6, 7, 8, 9], [0, 1, 3, 4, 5, 6, 7, 8, 9, 10], [0, 1, 3, 4, 5, 6, 7, 8, 9, 10, 11], [0, 1, 2, 3, 4, 5, 6, 7, 8, 9, 10, 12]]) (an := [{}, {}, {}, {}, {}, {}, {}, {}, {}, {}, {}, {}, {}, {}, {}]) rfl (by kernel_rfl) rfl fun _ O=>?_;refine Z9 ?_;refine Z6 ?_;refine Z9 ?_;refine Z9 ?_;refine aZ rfl rfl rfl ?_;refine Z5 ?_;refine Z5 ?_;refine Z7 ?_;refine Z7 ?_;refine ay rfl rfl rfl rfl ?_;refine aK rfl rfl rfl ?_;refine nG rfl (nR rfl rfl) (cV) ⟨rfl, fun _ _ h => by cases h⟩ rfl rfl rfl ?_;refine dE rfl rfl rfl ?_;refine Z4 ?_;refine Z8 ?_;refine eQ O ?_;clear O;refine al rfl (fun h => by cases h) (fun _ => ?_);refine gQ fun _ O=>?_;refine Z9 ?_;refine aZ rfl rfl rfl ?_;refine Z5 ?_;refine Z5 ?_;refine Z7 ?_;refine aw rfl rfl rfl ?_;refine ap rfl (tY (c := false) (decide_eq_false (by omega))) rfl ?_;refine Z8 ?_;refine eQ O ?_;clear O;refine al rfl (fun h => by cases h) (fun _ => ?_);refine ah ?_;show AWP _ _ _ _ _ _;refine iq tok mixed (m := 9) (A := [[], [], [], [1], [1, 2], [1, 2, 3], [], [], [1, 2, 3, 4, 6], [], [], [9], [9, 10]]) (an := [{}, {}, {}, {}, {}, {}, {}, {}, {}, {}, {}, {}, {}]) rfl rfl (by kernel_rfl) (by kernel_rfl) (by kernel_rfl) rfl fun _ O=>?_;refine Z9 ?_;refine Z9 ?_;refine aZ rfl rfl rfl ?_;refine Z5 ?_;refine Z5 ?_;refine Z7 ?_;refine Z7 ?_;refine ay rfl rfl rfl rfl ?_;refine aQ rfl (ib rfl rfl rfl rfl rfl rfl (by decide) (Nat.le_of_ble_eq_true rfl) rfl (by simp) rfl rfl rfl (by simp <;> omega)) rfl rfl rfl ?_;refine ag ?_;refine ab tok rfl ?_;refine aZ rfl rfl rfl ?_;refine ag ?_;refine ab tok rfl ?_;refine Z5 ?_;refine ag ?_;refine ab tok rfl ?_;refine Z5 ?_;refine ag ?_;refine ab tok rfl ?_;refine dF rfl rfl rfl rfl rfl ?_;refine ag ?_;refine bn rfl (O _ ?_); clear O;refine gQ fun _ O=>?_;refine Z8 ?_;refine eQ O ?_;clear O;refine aj ?_;exact eU (rb := [999]) (E' := [(4, dI 0)]) (Wk.rnB [4] [999, 998, 36] 36 997 rfl rfl rfl ⟨rfl, trivial⟩ ⟨rfl, rfl, rfl, trivial⟩ rfl) rfl rfl

set_option maxHeartbeats 1000000 in
theorem zC (ns es : List (List DC)) (k : Nat) (hk : k < es.length) (hn : es.length <= 1048576) :
  pY Tryz.prog 14 [.ptr 999 0, dI k] (adS true ns es) (dI 0) (adS true ns (es.eraseIdx k)) := by
 have cD := Db ns es k hk hn
 have e1 := List.length_eraseIdx_of_lt hk
 generalize es.eraseIdx k = es2 at cD e1 ⊢;refine hH (rb := [999]) (fn := Tryz.f14) tok Tryz.func14 (by kernel_rfl) rfl (sn _ _ _) ?_
 intro w0 X _
 rw [iW _ _ _ _ [(0, .ptr 999 0), (1, dI k)] rfl rfl]
 unfold adS lkC
 rw [e1];refine gQ fun _ O=>?_;refine Z8 ?_;refine eQ O ?_;clear O;refine ae ?_;refine ai ?_;refine gQ fun _ O=>?_;refine Z9 ?_;refine Z6 ?_;refine Z8 ?_;refine eQ O ?_;clear O;refine al rfl (fun h => by cases h) (fun _ => ?_);refine gQ fun _ O=>?_;refine Z9 ?_;refine ap rfl (wF (c := false) (decide_eq_false (by omega))) rfl ?_;refine Z9 ?_;refine Z9 ?_;refine Z9 ?_;refine aZ rfl rfl rfl ?_;refine Z5 ?_;refine Z5 ?_;refine Z7 ?_;refine aw rfl rfl rfl ?_;refine ap rfl (tY (c := false) (decide_eq_false (by omega))) rfl ?_;refine Z4 ?_;refine Z8 ?_;refine eQ O ?_;clear O;refine al rfl (fun h => by cases h) (fun _ => ?_);refine ah ?_;show AWP _ _ _ _ _ _;refine bw fun _ O=>?_;refine ab tok rfl ?_;refine Z9 ?_;refine ag ?_;refine ab tok rfl ?_;refine Z9 ?_;refine ag ?_;refine ab tok rfl ?_;refine aZ rfl rfl rfl ?_;refine ag ?_;refine ab tok rfl ?_;refine Z5 ?_;refine ag ?_;refine ab tok rfl ?_;refine Z5 ?_;refine ag ?_;refine ab tok rfl ?_;refine Z7 ?_;refine ag ?_;refine ab tok rfl ?_;refine Z9 ?_;refine ag ?_;refine ab tok rfl ?_;refine Z9 ?_;refine ag ?_;refine ab tok rfl ?_;refine ap rfl (aL (c := ((k : Int) + 1)) rfl (by omega)) rfl ?_;refine ag ?_;refine re [(21, .ptr 999 0)] [] cD rfl rfl (fun id o h => h) (fun _ => Or.inl rfl) rfl rfl rfl ⟨rfl, trivial⟩ rfl rfl (fun _ => Or.inl rfl) rfl ?_;refine ab tok rfl ?_;refine aZ rfl rfl rfl ?_;refine ag ?_;refine ab tok rfl ?_;refine Z5 ?_;refine ag ?_;refine ab tok rfl ?_;refine Z5 ?_;refine ag ?_;refine ab tok rfl ?_;refine dF rfl rfl rfl rfl rfl ?_;refine ag ?_;refine bn rfl (O _ ?_); clear O;refine gQ fun _ O=>?_;refine Z8 ?_;refine eQ O ?_;clear O;refine aj ?_;exact eU (rb := [999, 999]) (E' := [(4, dI 0)]) (Wk.mk' ⟨rfl, trivial⟩ ⟨rfl, rfl, rfl, trivial⟩) rfl rfl

/-! ### New, and the nil adjuster -/
set_option maxHeartbeats 1000000 in
theorem DF (r : RW) (ok : r.OK 268435456) : pY Tryz.prog 10 [AG r.cs] [] (.ptr 999 0) (adS false [(QN r).dc] []) := by
 have cN := lf r ok
 change Con _ _ _ { v := AG (QN r).cs } at cN
 generalize QN r = q at cN ⊢;refine hH (rb := []) (fn := Tryz.f10) tok Tryz.func10 (by kernel_rfl) rfl (fun id cs h => by cases h) ?_
 intro w0 X hp
 have hp := hp rfl
 rw [iW _ _ _ _ [(0, AG r.cs)] rfl rfl];refine gQ fun _ O=>?_;refine aF rfl rfl rfl rfl rfl rfl ?_;refine Z8 ?_;refine eQ O ?_;clear O;refine gQ fun _ O=>?_;refine Z7 ?_;refine ac rfl rfl (cN) rfl rfl rfl rfl ?_;refine ay rfl rfl rfl rfl ?_;refine aK rfl rfl rfl ?_;refine aK rfl rfl rfl ?_;refine C9 rfl rfl rfl rfl rfl rfl ?_;refine Z8 ?_;refine eQ O ?_;clear O;refine CJ hp [2] [5, 8] 5 998 [(2, .ptr 8 0)] [(8, some (.box [.own 998 4 0 1, .nil])), (998, some (.arr 4 [q.dc]))] [8] rfl rfl rfl rfl ⟨rfl, trivial⟩ ⟨rfl, rfl, trivial⟩ rfl ?_;refine CJ hp [2] [998, 8] 8 999 [(2, .ptr 999 0)] (adS false [q.dc] []) [999] rfl rfl rfl rfl ⟨rfl, trivial⟩ ⟨rfl, rfl, trivial⟩ rfl ?_;refine aj ?_;exact ⟨_, Wk.refl _, rfl, Or.inr ⟨2, rfl, by rw [dK]; rfl⟩⟩
/-! ### Spots and Clone of an adjuster that is data -/
theorem tE (g : GR) (ok : ∀ r ∈ g.nodes, r.OK 4096) (hs : bz g = true -> SM g) : Con Tryz.prog 13 [.pd [dRs g.nodes, dLs g.links]] { v := .tup [.one (.d (dSs (iC g).1)), .one (.d (lI (iC g).2))] } := by
 have cM := rZ g ok hs
 refine Z3 Tryz.func13 ?_
 intro w0 X
 rw [am _ _ [(0, .pd [dRs g.nodes, dLs g.links])] rfl rfl];refine gQ fun _ O=>?_;refine Z8 ?_;refine Z8 ?_;refine eQ O ?_;clear O;refine ae ?_;refine gQ fun _ O=>?_;refine Z9 ?_;refine Z6 ?_;refine eQ O ?_;clear O;refine al rfl (fun h => by cases h) (fun _ => ?_);refine ah ?_;show AWP _ _ _ _ _ _;refine gQ fun _ O=>?_;refine Z9 ?_;refine aZ rfl rfl rfl ?_;refine Z5 ?_;refine Z7 ?_;refine ac rfl rfl (cM) rfl rfl rfl rfl ?_;refine aq rfl rfl rfl ?_;refine aq rfl rfl rfl ?_;refine Z8 ?_;refine Z8 ?_;refine eQ O ?_;clear O;exact aj aS

/-! ### The caller's side -/
def Bq (k : Nat) : Bool := Nat.blt k 900 || Nat.beq k 999
def okR (R : List (Nat × Option OO)) : Bool := R.all fun p => Nat.blt p.1 900 && (match p.2 with | some o => o.refs (fun k => Nat.blt k 900) | none => true)
theorem nS (b : Bool) (ns es : List (List DC)) : (adS b ns es).all (fun p => p.2.isSome) = true := by cases b <;> rfl
theorem Cj (b : Bool) (ns es : List (List DC)) (R : List (Nat × Option OO)) {id : Nat} {o : OO} (h : so (adS b ns es) id = some o) : so (adS b ns es ++ R) id = some o := by
 rw [ur _ (nS b ns es), h]
theorem wO (b : Bool) (ns es : List (List DC)) {k : Nat} (hk : k < 900) : so (adS b ns es) k = none := by
 have h9 : ¬ 999 = k := by omega
 have h8 : ¬ 998 = k := by omega
 have h7 : ¬ 997 = k := by omega
 cases b
 ·show so [(999, _), (998, _)] k = none
  rw [aG, if_neg h9, aG, if_neg h8]; rfl
 ·show so [(999, _), (998, _), (997, _)] k = none
  rw [aG, if_neg h9, aG, if_neg h8, aG, if_neg h7]; rfl
theorem l6 (b : Bool) (ns es : List (List DC)) {k : Nat} (hk : k < 900) : dom (adS b ns es) k = false := by unfold dom; rw [wO b ns es hk]; rfl
theorem Ay (b : Bool) (ns es : List (List DC)) (R : List (Nat × Option OO)) (h : okR R = true) (k : Nat) : so R k = none \/ so R k = so (adS b ns es ++ R) k := by
 cases e : so R k with
 | none => exact Or.inl rfl
 | some o =>
  right
  have hm := List.all_eq_true.1 h _ (oo e)
  simp only [Bool.and_eq_true, Nat.blt_eq] at hm;rw [ur _ (nS b ns es), wO b ns es hm.1, e]
theorem qq {p q : Nat -> Bool} (h : ∀ k, p k = true -> q k = true) : ∀ {o : OO}, o.refs p = true -> o.refs q = true := by
 intro o ho
 cases o with
 | arr sz es => rfl
 | box cs =>
  refine List.all_eq_true.2 fun c hc => ?_
  have := List.all_eq_true.1 ho c hc
  cases c with
  | own id sz off len => exact h _ this
  | d c => rfl
  | nil => rfl
  | bad => rfl
theorem kC {p q : Nat -> Bool} (h : ∀ k, p k = true -> q k = true) {x : SV} (hx : x.refs p = true) : x.refs q = true := by
 have hc : ∀ c : SC, c.refs p = true -> c.refs q = true := by
  intro c hc
  cases c with
  | own id sz off len => exact h _ hc
  | _ => rfl
 have hv : ∀ v : VV, v.refs p = true -> v.refs q = true := by
  intro v hv
  cases v with
  | one c => exact hc c hv
  | agg cs => exact List.all_eq_true.2 fun c hm => hc c (List.all_eq_true.1 hv c hm)
 cases x with
 | none => rfl
 | val x => exact hv x hx
 | tup xs => exact List.all_eq_true.2 fun v hm => hv v (List.all_eq_true.1 hx v hm)
 | ptr id off => exact h _ hx
 | pe id sz i j => exact h _ hx
 | clo f id => exact h _ hx
 | fn f c => rfl
 | pd cs => rfl
theorem tL {b b' : Bool} {ns es ns' es' : List (List DC)} {k : Nat} (h : Bq k = true) : kn (adS b ns es) (adS b' ns' es') k = true := by
 unfold Bq at h
 simp only [Bool.or_eq_true, Nat.blt_eq, Nat.beq_eq] at h
 unfold kn
 rcases h with h | h
 ·rw [l6 b' ns' es' h]; rfl
 ·subst h
  have : dom (adS b ns es) 999 = true := rfl
  rw [this]; simp
theorem qK {b' : Bool} {ns' es' : List (List DC)} {k : Nat} (h : Nat.blt k 900 = true) : kn [] (adS b' ns' es') k = true := by
 unfold kn
 rw [l6 b' ns' es' (by simpa using h)]; rfl
theorem wy {b : Bool} {ns es : List (List DC)} {rb : List Nat} (h : rb.contains 999 = true) : DK (adS b ns es) rb = true := by
 cases b <;> (unfold DK; simp only [adS, List.all_cons, List.all_nil, h]; rfl)
section
variable {P : Program} {w0 : Base} {X : Nat -> Prop} {ops : List Oper} {K : St -> Prop} {k n : Nat} {E : List (Nat × SV)} {rb : List Nat}
theorem jX {f : FuncId} {d : Nat} {xs : Array Operand} {b b' : Bool} {ns es ns' es' : List (List DC)} {R : List (Nat × Option OO)} {r r' : SV} {args : List SV} {ts : Array TypeId} {ty : TypeId} {ps : String} {af : Array Edge} (E2 : List (Nat × SV))
  (hf : pY P f args (adS b ns es) r (adS b' ns' es')) (ho : ops[k]? = some ⟨some d, .call ⟨.value (.func f), xs, ts⟩, ty, ps, af, none⟩) (hm : xs.toList.map (rd n E) = args) (hR : okR R = true) (hKE : Known n E E2)
  (hE : E2.all (fun p => p.2.refs Bq) = true) (hrb : rb.contains 999 = true) (hr1 : r.refs (fun _ => false) = true) (hr' : r' = r)
  (h : cZ P w0 X ops (k + 1) K (mk n ((d, r') :: E2) (adS b' ns' es' ++ R) rb)) : cZ P w0 X ops k K (mk n E (adS b ns es ++ R) rb) := by
 refine re E2 R hf ho hm (fun id o h => Cj b ns es R h) (Ay b ns es R hR) ?_ (wy hrb) (nS _ _ _) hKE ?_ (kC (fun _ h => by cases h) hr1) (fun _ => Or.inl rfl) hr' h
 ·refine List.all_eq_true.2 fun p hp => ?_
  have h1 := List.all_eq_true.1 hR p hp
  simp only [Bool.and_eq_true] at h1
  have hlt : p.1 < 900 := by simpa using h1.1
  rw [l6 b ns es hlt, l6 b' ns' es' hlt]
  cases e : p.2 with
  | none => rfl
  | some o =>
   rw [e] at h1;exact qq (fun k hk => tL (by unfold Bq; rw [hk]; rfl)) h1.2
 ·refine List.all_eq_true.2 fun p hp => kC (fun k hk => tL hk) (List.all_eq_true.1 hE p hp)
theorem x7 (hp : ∀ k, ¬ w0.p k) {f : FuncId} {d : Nat} {xs : Array Operand} {b' : Bool} {ns' es' : List (List DC)} {R : List (Nat × Option OO)} {args : List SV} {ts : Array TypeId} {ty : TypeId} {ps : String} {af : Array Edge} (E2 : List (Nat × SV))
  (hf : pY P f args [] (.ptr 999 0) (adS b' ns' es')) (ho : ops[k]? = some ⟨some d, .call ⟨.value (.func f), xs, ts⟩, ty, ps, af, none⟩) (hm : xs.toList.map (rd n E) = args) (hR : okR R = true) (hKE : Known n E E2)
  (hE : E2.all (fun p => p.2.refs (fun k => Nat.blt k 900)) = true) (hrb : rb.contains 999 = true)
  (h : cZ P w0 X ops (k + 1) K (mk n ((d, .ptr 999 0) :: E2) (adS b' ns' es' ++ R) rb)) : cZ P w0 X ops k K (mk n E R rb) := by
 refine re E2 R hf ho hm (fun id o h => by cases h) (fun _ => Or.inr rfl) ?_ (wy hrb) (nS _ _ _) hKE ?_ ?_ (fun _ => Or.inr hp) rfl h
 ·refine List.all_eq_true.2 fun p hp => ?_
  have h1 := List.all_eq_true.1 hR p hp
  simp only [Bool.and_eq_true] at h1
  have hlt : p.1 < 900 := by simpa using h1.1
  rw [l6 b' ns' es' hlt]
  cases e : p.2 with
  | none => rfl
  | some o =>
   rw [e] at h1;exact qq (fun k hk => qK hk) h1.2
 ·exact List.all_eq_true.2 fun p hp => kC (fun k hk => qK hk) (List.all_eq_true.1 hE p hp)
 ·cases b' <;> rfl
end
theorem CU (ns : List RW) (ls : List LK) (R : List (Nat × Option OO)) : w3 (adS true (ns.map RW.dc) (ls.map LK.dc) ++ R) [.ptr 999 0] = some [.pd [dRs ns, dLs ls]] := by
 have h1 : gq 998 4 (ns.map RW.dc) (.own 998 4 0 (ns.map RW.dc).length) = .d (dRs ns) := g6 rfl rfl
 have h2 : gq 997 5 (ls.map LK.dc) (.own 997 5 0 (ls.map LK.dc).length) = .d (dLs ls) := g6 rfl rfl
 generalize hS : adS true (ns.map RW.dc) (ls.map LK.dc) ++ R = S
 have e9 : so S 999 = some (.box [.own 998 4 0 (ns.map RW.dc).length, .own 997 5 0 (ls.map LK.dc).length]) := by rw [<- hS]; rfl
 have e8 : so S 998 = some (.arr 4 (ns.map RW.dc)) := by rw [<- hS]; rfl
 have e7 : so S 997 = some (.arr 5 (ls.map LK.dc)) := by rw [<- hS]; rfl
 have c8 : vwC S (.own 998 4 0 (ns.map RW.dc).length) = some (dRs ns) := by unfold vwC; simp only [e8]; rw [h1]; rfl
 have c7 : vwC S (.own 997 5 0 (ls.map LK.dc).length) = some (dLs ls) := by unfold vwC; simp only [e7]; rw [h2]; rfl
 simp only [w3, AM, e9, vwL, c8, c7, Option.map_some]
end Go.Proofs.YtceacleokgoooaaGreatDoor

/- The reference's rotations and transforms. No condition. -/
namespace Go.Proofs.YtceacleokgoooaaGreatDoor
attribute [local irreducible] aD

theorem xD {a b : RW} : pz2 a.cn = pz2 b.cn ↔ a.cn = b.cn := by
 constructor
 ·intro h
  have h1 := y8 a.cn.1 a.cn.2
  have h2 := y7 a.cn.1 a.cn.2
  have h3 := y8 b.cn.1 b.cn.2
  have h4 := y7 b.cn.1 b.cn.2
  unfold pz2 at h
  rw [h] at h1 h2;exact Prod.ext (h1.symm.trans h3) (h2.symm.trans h4)
 ·intro h; rw [h]
theorem yN (a b : RW) (ha : a.OK 67108864) (hb : b.OK 67108864) : Con Tryz.prog 50 [AG a.cs, AG b.cs] { v := dB (decide (a.cn = b.cn)) } := by
 have c1 := sV a (ha.mono rfl)
 have c2 := sV b (hb.mono rfl)
 have oa : (pz2 a.cn).OK 67108864 := uK (ha.cn (by decide))
 have c3 := Av (pz2 a.cn) (pz2 b.cn) (Nat.le_trans oa.lp (by decide)) (Nat.le_trans oa.lq (by decide))
 rw [decide_eq_decide.2 (xD (a := a) (b := b))] at c3;generalize decide (a.cn = b.cn) = d at *;generalize pz2 a.cn = x at *;generalize pz2 b.cn = y at *;refine Z3 Tryz.func50 ?_
 intro w0 X
 rw [am _ _ [(0, AG a.cs), (1, AG b.cs)] rfl rfl];refine gQ fun _ O=>?_;refine aF rfl rfl rfl rfl rfl rfl ?_;refine aF rfl rfl rfl rfl rfl rfl ?_;refine Z8 ?_;refine eQ O ?_;clear O;refine aI tok mixed (A := [[], [], [], [0], [0, 2], []]) (an := [{}, {}, { c := [6] }, {}, {}, {}]) rfl (by kernel_rfl) rfl fun _ O=>?_;refine Z7 ?_;refine ac rfl rfl (c1) rfl rfl rfl rfl ?_;refine Z7 ?_;refine ac rfl rfl (c2) rfl rfl rfl rfl ?_;refine ac rfl rfl (c3) rfl rfl rfl rfl ?_;refine Z8 ?_;refine eQ O ?_;clear O;exact aj aS

end Go.Proofs.YtceacleokgoooaaGreatDoor

/- Law 3: guards; fixed calls. No condition. -/
namespace Go.Proofs.YtceacleokgoooaaGreatDoor
attribute [local irreducible] aD

end Go.Proofs.YtceacleokgoooaaGreatDoor

/- Law 3: circle, group, rigid motions, actions. No condition. -/
namespace Go.Proofs.YtceacleokgoooaaGreatDoor
attribute [local irreducible] aD

theorem RW.OK.big {r : RW} {k : Nat} (h : r.OK k) (hk : Nat.ble k 16777216 = true) : r.wp.length <= 9223372036854775806 /\ r.wq.length <= 9223372036854775806 :=
 ⟨Nat.le_trans (h.mono hk).lp (by decide), Nat.le_trans (h.mono hk).lq (by decide)⟩
theorem uy (a : RW) {k : Nat} (h : a.OK k) (hk : Nat.ble k 16777216 = true) : Con Tryz.prog 17 [AG a.cs, AG a.cs] { v := dB true } := by
 have c := Av a a (h.big hk).1 (h.big hk).2
 rwa [decide_eq_true rfl] at c
end Go.Proofs.YtceacleokgoooaaGreatDoor

/- Slices as arguments, with their lengths; bytes. No condition. -/
namespace Go.Proofs.YtceacleokgoooaaGreatDoor
open Go.RowKit

section
variable {P : Program} {T : Tab} {w : World} {t : TypeId} {ti : TI} {H : Type} {enc : TypeId × Value -> H} {sp : Nat -> Bool} {v : Value} {d : DataW H} {ps : List MemPlace} {base : Nat}
theorem w6 {e : TypeId} (hT : TOK P T) (h : T t = some ti) (hu : ti.und = .slice e) (hv : Value.okWide P w .any base t v) {X : Nat -> Prop} {μ : Nat -> Nat} {es : List (List DC)} (hr : RelV w X μ v (.val (.one (.d (.sl es))))) : es.length <= 9223372036854775807 := by
 have hP := mc hT h hu
 unfold Value.okWide at hv
 rw [hP] at hv
 simp only at hv
 unfold Cell.okWide at hv
 rw [hP] at hv
 simp only at hv
 have hr : RdC w X v (.sl es) := hr
 cases hr with
 | nil => exact Nat.zero_le _
 | sl vs hh hx hl hcap hs hv' hr' =>
  unfold Cell.ok at hv
  rw [hP] at hv
  simp only at hv
  obtain ⟨h1, h2, _⟩ := hv
  have e : IntKind.i64.max = 9223372036854775807 := by decide
  rw [e] at h2
  omega
theorem vn {e : TypeId} {α : Type} {f : α -> List DC} {Q : α -> Prop} (hT : TOK P T) (h : T t = some ti) (hu : ti.und = .slice e) (hr : Reads P w t (fun ds => ∃ l : List α, (∀ x ∈ l, Q x) /\ ds = [.sl (l.map f)])) (hv : Value.okWide P w .any base t v) (hd : DataW.Trod enc P w 0 sp true t v d ps) (μ : Nat -> Nat) :
  ∃ l : List α, ((∀ x ∈ l, Q x) /\ l.length <= 9223372036854775807) /\ RelV w (fun _ => False) μ v (.val (.one (.d (.sl (l.map f))))) := by
 obtain ⟨l, h1, h2⟩ := xL hT h hu hr hv hd μ
 have := w6 hT h hu hv h2
 rw [List.length_map] at this;exact ⟨l, ⟨h1, this⟩, h2⟩
end
section
variable {w : World} {H : Type} {enc : TypeId × Value -> H} {sp : Nat -> Bool} {v : Value} {d : DataW H} {ps : List MemPlace} {base : Nat}
end
end Go.Proofs.YtceacleokgoooaaGreatDoor

/- law31: awake; alike; Least. No condition. -/
namespace Go.Proofs.YtceacleokgoooaaGreatDoor
attribute [local irreducible] aD
open Go.RowKit

theorem u5 {T : Tab} {t : TypeId} (a : ByteArray) : aO T .eql t (V1 (.lit (.string a))) (V1 (.lit (.string a))) = .set (dB true) := by
 show Eff.set (dB (a.toList == a.toList)) = _
 rw [beq_self_eq_true]
def gW : GR := ⟨[eh, eh], [⟨0, 1, 10, 0, 1⟩, ⟨0, 1, 13, 0, 2⟩]⟩
def sW : List SP := [szW 0 0, szW 12 0]
theorem tW1 : iC gW = (sW, 0) := by decide +kernel
theorem tW2 : zr gW = (qzW 6, 0) := by decide +kernel
theorem tW3 : uj gW sW = (0, qzW 4, 0) := by decide +kernel
theorem wx : ∀ r ∈ gW.nodes, r.OK 2 := by
 intro r hr
 have : r = eh := by
  simp only [gW, List.mem_cons, List.not_mem_nil, or_false, or_self] at hr; exact hr
 rw [this];exact ⟨fun x hx => (List.not_mem_nil hx).elim, fun x hx => (List.not_mem_nil hx).elim, Nat.zero_le _, Nat.zero_le _⟩
theorem CG : bz gW = true -> SM gW := fun _ => ⟨by decide, by decide, wx⟩
theorem D9 : ∀ p ∈ sW, p.OK 4096 := by
 intro p hp
 simp only [sW, List.mem_cons, List.not_mem_nil, or_false] at hp
 rcases hp with rfl | rfl
 ·exact gO (by decide +kernel) (by decide +kernel)
 ·exact gO (by decide +kernel) (by decide +kernel)
set_option maxHeartbeats 1000000 in
theorem mD : Con Tryz.prog 6 [] { v := dB true } := by
 have cM := rZ gW (fun r hr => (wx r hr).mono rfl) CG
 have cL := DL gW (fun r hr => (wx r hr).mono rfl) CG
 have cW := DJ gW sW (fun r hr => (wx r hr).mono rfl) D9
 rw [tW1] at cM;rw [tW2] at cL;rw [tW3] at cW
 have cN := DW eh ⟨fun x hx => (List.not_mem_nil hx).elim, fun x hx => (List.not_mem_nil hx).elim, Nat.zero_le _, Nat.zero_le _⟩
 have o1 : (pz2 eh.cn).OK 268435456 := uK (by decide +kernel)
 generalize pz2 eh.cn = q at cN o1
 have cG := ug [q] [] (fun r hr => by rw [List.mem_singleton.1 hr]; exact o1) (by simp) (by simp)
 have t1 := rB (qzW 12) (bd (by decide +kernel)) (by rw [bq]; decide +kernel) (by rw [bq]; decide +kernel)
 have t2 := rB (qzW 6) (bd (by decide +kernel)) (by rw [bq]; decide +kernel) (by rw [bq]; decide +kernel)
 have t3 := rB (qzW 4) (bd (by decide +kernel)) (by rw [bq]; decide +kernel) (by rw [bq]; decide +kernel)
 rw [bq, show qtx (12 : Rat) = [49, 50] by decide +kernel] at t1;rw [bq, show qtx (6 : Rat) = [54] by decide +kernel] at t2;rw [bq, show qtx (4 : Rat) = [52] by decide +kernel] at t3
 have eS : sW = [⟨qzW 0, qzW 0⟩, ⟨qzW 12, qzW 0⟩] := rfl
 rw [eS] at cM cW;generalize qzW (12 : Rat) = A at *;generalize qzW (6 : Rat) = B at *;generalize qzW (4 : Rat) = C at *;generalize qzW (0 : Rat) = Z at *;refine Z3 Tryz.func6 ?_
 intro w0 X
 rw [am _ _ [] rfl rfl];refine gQ fun _ O=>?_;refine Z8 ?_;refine eQ O ?_;clear O;refine gQ fun _ O=>?_;refine bN (sz := _) (es := _) (f := _) (v := _) rfl (zp (l := 2) rfl rfl rfl rfl rfl (Nat.le_of_ble_eq_true rfl) (by decide) rfl rfl (by omega)) rfl rfl ?_;refine aK rfl rfl rfl ?_;refine aK rfl rfl rfl ?_;refine ay rfl rfl rfl rfl ?_;refine aK rfl rfl rfl ?_;refine au rfl rfl rfl rfl rfl rfl ?_;refine dF rfl rfl rfl rfl rfl ?_;refine eQ O ?_;clear O;refine dT [1] [1, 10, 13] 10 [(1, .ptr 1 0)] [(1, some (.box [.d (dRs [eh, eh]), .own 13 5 0 2])), (13, some (.arr 5 [(LK.mk 0 1 10 0 1).dc, (LK.mk 0 1 13 0 2).dc]))] rfl ⟨rfl, trivial⟩ ⟨rfl, rfl, trivial⟩ ?_;refine dT [1] [1, 13] 13 [(1, .ptr 1 0)] [(1, some (.box gW.cs))] rfl ⟨rfl, trivial⟩ ⟨rfl, trivial⟩ ?_;refine gQ fun _ O=>?_;refine Z7 ?_;refine ac rfl rfl (cM) rfl rfl rfl rfl ?_;refine Z9 ?_;refine aq rfl rfl rfl ?_;refine aq rfl rfl rfl ?_;refine Z8 ?_;refine Z8 ?_;refine eQ O ?_;clear O;refine gQ fun _ O=>?_;refine Z7 ?_;refine ac rfl rfl (cL) rfl rfl rfl rfl ?_;refine Z9 ?_;refine aq rfl rfl rfl ?_;refine aq rfl rfl rfl ?_;refine au rfl rfl rfl rfl rfl rfl ?_;refine ak rfl rfl rfl rfl rfl ?_;refine Z8 ?_;refine eQ O ?_;clear O;refine ae ?_;refine gQ fun _ O=>?_;refine Z9 ?_;refine Z6 ?_;refine Z9 ?_;refine Z9 ?_;refine Z6 ?_;refine Z4 ?_;refine Z9 ?_;refine Z9 ?_;refine aw rfl (br SP.dc rfl rfl) rfl ?_;refine ap rfl (ng (c := false) rfl) rfl ?_;refine Z4 ?_;refine eQ O ?_;clear O;refine al rfl (fun h => by cases h) (fun _ => ?_);refine ah ?_;show AWP _ _ _ _ _ _;refine gQ fun _ O=>?_;refine Z7 ?_;refine Z9 ?_;refine ac rfl rfl (cW) rfl rfl rfl rfl ?_;refine Z9 ?_;refine aq rfl rfl rfl ?_;refine aq rfl rfl rfl ?_;refine aq rfl rfl rfl ?_;refine au rfl rfl rfl rfl rfl rfl ?_;refine Z8 ?_;refine ak rfl rfl rfl rfl rfl ?_;refine Z8 ?_;refine eQ O ?_;clear O;refine gQ fun _ O=>?_;refine aK rfl rfl rfl ?_;refine ac rfl rfl (cN) rfl rfl rfl rfl ?_;refine Z8 ?_;refine eQ O ?_;clear O;refine bw fun _ O=>?_;refine ab tok rfl ?_;refine Z9 ?_;refine ag ?_;refine ab tok rfl ?_;refine aa rfl (x_m SP.dc (i := 1) rfl rfl rfl rfl (by simp) rfl) rfl ?_;refine ag ?_;refine ab tok rfl ?_;refine Z5 ?_;refine ag ?_;refine ab tok rfl ?_;refine Z7 ?_;refine ag ?_;refine ab tok rfl ?_;refine ac rfl rfl (t1) rfl rfl rfl rfl ?_;refine ag ?_;refine ab tok rfl ?_;refine ap rfl (u5 _) rfl ?_;refine ag ?_;refine ab tok rfl ?_;refine Z9 ?_;refine ag ?_;refine ab tok rfl ?_;refine Z7 ?_;refine ag ?_;refine ab tok rfl ?_;refine ac rfl rfl (t2) rfl rfl rfl rfl ?_;refine ag ?_;refine ab tok rfl ?_;refine ap rfl (u5 _) rfl ?_;refine ag ?_;refine ab tok rfl ?_;refine Z4 ?_;refine ag ?_;refine ab tok rfl ?_;refine Z9 ?_;refine ag ?_;refine ab tok rfl ?_;refine Z9 ?_;refine ag ?_;refine ab tok rfl ?_;refine Z6 ?_;refine ag ?_;refine ab tok rfl ?_;refine Z4 ?_;refine ag ?_;refine ab tok rfl ?_;refine Z9 ?_;refine ag ?_;refine ab tok rfl ?_;refine Z7 ?_;refine ag ?_;refine ab tok rfl ?_;refine ac rfl rfl (t3) rfl rfl rfl rfl ?_;refine ag ?_;refine ab tok rfl ?_;refine ap rfl (u5 _) rfl ?_;refine ag ?_;refine ab tok rfl ?_;refine Z4 ?_;refine ag ?_;refine ab tok rfl ?_;refine Z9 ?_;refine ag ?_;refine ab tok rfl ?_;refine Z9 ?_;refine ag ?_;refine ab tok rfl ?_;refine Z6 ?_;refine ag ?_;refine ab tok rfl ?_;refine Z4 ?_;refine ag ?_;refine ab tok rfl ?_;refine Z9 ?_;refine ag ?_;refine ab tok rfl ?_;refine Z9 ?_;refine ag ?_;refine D2 (e := 101) rfl rfl rfl (by kernel_rfl) ?_;refine ab tok rfl ?_;refine Z4 ?_;refine ag ?_;refine ab tok rfl ?_;refine Z9 ?_;refine ag ?_;refine ab tok rfl ?_;refine Z9 ?_;refine ag ?_;refine ab tok rfl ?_;refine ac rfl rfl (cG) rfl rfl rfl rfl ?_;refine ag ?_;refine ab tok rfl ?_;refine rr rfl rfl rfl ?_;refine ag ?_;refine ab tok rfl ?_;refine aw rfl (br RW.dc rfl rfl) rfl ?_;refine ag ?_;refine ab tok rfl ?_;refine ap rfl (Ew rfl) rfl ?_;refine ag ?_;refine ab tok rfl ?_;refine Z4 ?_;refine ag ?_;refine ab tok rfl ?_;refine Z8 ?_;refine ag ?_;refine bn rfl (O _ ?_); clear O;exact aj aS

/-! ### alike -/
/-! ### Least -/
end Go.Proofs.YtceacleokgoooaaGreatDoor

/- adjust: graphs whose rotations are made canonical; ref31.Same. No condition. -/
namespace Go.Proofs.YtceacleokgoooaaGreatDoor
attribute [local irreducible] aD
open Go.RowKit

theorem AA (r : RW) : (QN r).cn = r.cn := by unfold QN; rw [Do, RW.cn_gc]
theorem EJ (r : RW) : QN (QN r) = QN r := by show pz2 (QN r).cn = _; rw [AA]; rfl
theorem EH {r : RW} {k : Nat} (hk : 1 <= k) (h : r.OK k) : (QN r).OK k := by
 exact uK (h.cn hk)
def gJQ (g : GR) : GR := .mk (g.nodes.map QN) g.links
theorem pb (g : GR) : bz (gJQ g) = bz g := by unfold bz gJQ; rw [List.length_map]

set_option maxHeartbeats 1000000 in
theorem yv (ns ms : List RW) (ls : List LK) (hl : ns.length = ms.length) (on : ∀ r ∈ ns, r.OK 67108864) (om : ∀ r ∈ ms, r.OK 67108864) (he : ∀ i (h1 : i < ns.length) (h2 : i < ms.length), ns[i].cn = ms[i].cn) (b1 : ns.length <= 1048576) (b2 : ls.length <= 1048576) :
  Con Tryz.prog 16 [AG (GR.mk ns ls).cs, AG (GR.mk ms ls).cs] { v := dB true } := by
 refine i5 (fn := Tryz.f16) nl Tryz.func16 (by kernel_rfl) rfl ?_
 intro w0 X
 rw [am _ _ [(0, AG (GR.mk ns ls).cs), (1, AG (GR.mk ms ls).cs)] rfl rfl];refine ax nl fun _ O=>?_;refine aF rfl rfl rfl rfl rfl rfl ?_;refine aF rfl rfl rfl rfl rfl rfl ?_;refine Z8 ?_;refine eQ O ?_;clear O;refine ae ?_;refine ax nl fun _ O=>?_;refine Z5 ?_;refine Z7 ?_;refine aw rfl (br RW.dc rfl rfl) rfl ?_;refine Z5 ?_;refine Z7 ?_;refine aw rfl (br RW.dc rfl rfl) rfl ?_;refine ap rfl (ng (c := false) (by simp [hl])) rfl ?_;refine Z9 ?_;refine Z5 ?_;refine Z7 ?_;refine aw rfl (br LK.dc rfl rfl) rfl ?_;refine Z5 ?_;refine Z7 ?_;refine aw rfl (br LK.dc rfl rfl) rfl ?_;refine ap rfl (ng (c := false) (by simp)) rfl ?_;refine Z4 ?_;refine eQ O ?_;clear O;refine al rfl (fun hc => by cases hc) (fun hc => ?_);refine ah ?_;show AWP _ _ _ _ _ _;refine ae ?_;refine ax nl fun _ O=>?_;refine Z8 ?_;refine eQ O ?_;clear O;refine ai (aM (α := Nat) (fun i => mk 60 [(2, .ptr 2 0), (3, .ptr 3 0), (5, dI i)] [(2, some (.box (GR.mk ns ls).cs)), (3, some (.box (GR.mk ms ls).cs))] []) (fun i => i <= ns.length) (fun i => ns.length - i) 0 ?_ (Nat.zero_le _) ?_)
 ·exact Wk.mk' ⟨rfl, rfl, rfl, trivial⟩ ⟨rfl, rfl, trivial⟩
 intro i hi
 refine ae ?_;refine ax nl fun _ O=>?_;refine Z9 ?_;refine Z5 ?_;refine Z7 ?_;refine aw rfl (br RW.dc rfl rfl) rfl ?_;refine Z6 ?_;refine eQ O ?_;clear O;refine al rfl (fun hc => ?_) (fun hc => ?_)
 ·have hi : i < ns.length := by simp at hc; omega
  have hi2 : i < ms.length := by omega
  have c := yN ns[i] ms[i] (on _ (List.getElem_mem hi)) (om _ (List.getElem_mem hi2))
  rw [decide_eq_true (he i hi hi2)] at c;refine ah ?_;show AWP _ _ _ _ _ _;refine ae ?_;refine ai ?_;refine aI nl mixed (A := [[], [], [], [0], [0, 1, 2], [], [], [], [5], [5, 6, 7], [0, 1, 2, 3, 5, 6, 7, 8], [0, 1, 2, 3, 4, 5, 6, 7, 8, 9]]) (an := [{}, {}, {}, {}, {}, {}, {}, {}, {}, {}, {}, {}]) rfl (by kernel_rfl) rfl fun _ O=>?_;refine Z5 ?_;refine Z7 ?_;refine Z9 ?_;refine aa rfl (x_m RW.dc rfl rfl rfl rfl hi rfl) rfl ?_;refine Z7 ?_;refine Z5 ?_;refine Z7 ?_;refine Z9 ?_;refine aa rfl (x_m RW.dc rfl rfl rfl rfl hi2 rfl) rfl ?_;refine Z7 ?_;refine ac rfl rfl (c) rfl rfl rfl rfl ?_;refine dE rfl rfl rfl ?_;refine eQ O ?_;clear O;refine al rfl (fun hd => ?_) (fun hd => ?_)
  ·cases hd
  refine ah ?_;show AWP _ _ _ _ _ _;refine kj nl fun _ O=>?_;refine Z9 ?_;refine ap rfl (aL (c := ((i + 1 : Nat) : Int)) (by omega) (by omega)) rfl ?_;refine Z8 ?_;refine eQ O ?_;clear O;exact ⟨i + 1, by omega, hi, Wk.mk' ⟨rfl, rfl, rfl, trivial⟩ ⟨rfl, rfl, trivial⟩⟩
 refine aA ?_;show AWP _ _ _ _ _ _;refine ae ?_;refine ax nl fun _ O=>?_;refine Z8 ?_;refine eQ O ?_;clear O;refine ai (aM (α := Nat) (fun i => mk 60 [(2, .ptr 2 0), (3, .ptr 3 0), (6, dI i)] [(2, some (.box (GR.mk ns ls).cs)), (3, some (.box (GR.mk ms ls).cs))] []) (fun i => i <= ls.length) (fun i => ls.length - i) 0 ?_ (Nat.zero_le _) ?_)
 ·exact Wk.mk' ⟨rfl, rfl, rfl, trivial⟩ ⟨rfl, rfl, trivial⟩
 clear hc hi i
 intro i hi
 refine ae ?_;refine ax nl fun _ O=>?_;refine Z9 ?_;refine Z5 ?_;refine Z7 ?_;refine aw rfl (br LK.dc rfl rfl) rfl ?_;refine Z6 ?_;refine eQ O ?_;clear O;refine al rfl (fun hc => ?_) (fun hc => ?_)
 ·have hi : i < ls.length := by simp at hc; omega
  refine ah ?_;show AWP _ _ _ _ _ _;refine ae ?_;refine ai ?_;refine aI nl mixed (A := [[], [], [], [0], [0, 1, 2], [], [], [], [5], [5, 6, 7], [0, 1, 2, 3, 5, 6, 7, 8]]) (an := [{}, {}, {}, {}, {}, {}, {}, {}, {}, {}, {}]) rfl (by kernel_rfl) rfl fun _ O=>?_;refine Z5 ?_;refine Z7 ?_;refine Z9 ?_;refine aa rfl (x_m LK.dc rfl rfl rfl rfl hi rfl) rfl ?_;refine Z7 ?_;refine Z5 ?_;refine Z7 ?_;refine Z9 ?_;refine aa rfl (x_m LK.dc rfl rfl rfl rfl hi rfl) rfl ?_;refine Z7 ?_;refine ap rfl (Eu (l := ls[i]) rfl) rfl ?_;refine eQ O ?_;clear O;refine al rfl (fun hd => ?_) (fun hd => ?_)
  ·cases hd
  refine ah ?_;show AWP _ _ _ _ _ _;refine kj nl fun _ O=>?_;refine Z9 ?_;refine ap rfl (aL (c := ((i + 1 : Nat) : Int)) (by omega) (by omega)) rfl ?_;refine Z8 ?_;refine eQ O ?_;clear O;exact ⟨i + 1, by omega, hi, Wk.mk' ⟨rfl, rfl, rfl, trivial⟩ ⟨rfl, rfl, trivial⟩⟩
 refine aA ?_;show AWP _ _ _ _ _ _;refine ax nl fun _ O=>?_;refine Z8 ?_;refine eQ O ?_;clear O;exact aj aS

/-! ### Minimum looks at the canonical rotations alone -/
theorem sr (r : RW) : kL (QN r).p (QN r).q = kL r.p r.q /\ kA (QN r).p (QN r).q = kA r.p r.q := by
 have a := wK (QN r)
 have b := wK r
 rw [AA] at a;exact ⟨a.1.trans b.1.symm, a.2.trans b.2.symm⟩
theorem EC (r : RW) (l : LK) : alX (QN r) l = alX r l := by unfold alX; rw [(sr r).1, (sr r).2]
theorem EB (r : RW) (l : LK) : alY (QN r) l = alY r l := by unfold alY; rw [(sr r).1, (sr r).2]
theorem Es {g : GR} (gv : GV g) {l : LK} (hl : l ∈ g.links) : frN (gJQ g) l = QN (frN g l) := by
 have h := (gLV gv l hl)
 have hf : l.f.toNat < g.nodes.length := by
  have := h.f; omega
 unfold frN gJQ
 rw [List.getD_eq_getElem?_getD, List.getD_eq_getElem?_getD, List.getElem?_map, List.getElem?_eq_getElem hf]
 rfl
theorem Dy (g : GR) : iC (gJQ g) = iC g := by
 by_cases hv : bz g = true
 ·have gv := b6.1 hv
  have hN : nrL (gJQ g) (gJQ g).links = nrL g g.links := by
   show nrL (gJQ g) g.links = _
   unfold nrL
   have : ∀ (ls : List LK) (a : (Nat -> Rat) × (Nat -> Rat)), (∀ l ∈ ls, l ∈ g.links) -> ls.foldl (nrS (gJQ g)) a = ls.foldl (nrS g) a := by
    intro ls
    induction ls with
    | nil => intro a _; rfl
    | cons l ls ih =>
     intro a h
     rw [List.foldl_cons, List.foldl_cons, ih _ fun l hl => h l (List.mem_cons_of_mem _ hl)]
     congr 1
     have e := Es gv (h l List.mem_cons_self)
     unfold nrS
     rw [e];simp only [EC, EB]
   exact this _ _ fun l h => h
  have hM : nmM (gJQ g) = nmM g := by unfold nmM; show nrM (g.nodes.map QN).length (lapM g.links) ((g.nodes.map QN).length - 1) = _; rw [List.length_map]
  have hX : nmX (gJQ g) = nmX g := by unfold nmX; rw [hN]; show nrX _ ((g.nodes.map QN).length - 1) = _; rw [List.length_map]
  have hY : nmY (gJQ g) = nmY g := by unfold nmY; rw [hN]; show nrX _ ((g.nodes.map QN).length - 1) = _; rw [List.length_map]
  have hlab : ∀ v, lab (gJQ g) v = lab g v := fun v => by
   have hR : jK (gJQ g) = jK g := by unfold jK; show mn (g.nodes.map QN).length g.links = _; rw [List.length_map]
   unfold lab uL
   rw [pb, hR]
   show (if bz g = true then ((num (jK g) (g.nodes.map QN).length).1, (0 : Int)) else ([], 1)).1.getD v 0 = _
   rw [List.length_map]
  have hc : cnB (gJQ g) = cnB g := by
   unfold cnB
   apply decide_eq_decide.2
   simp only [hlab]
   show (∀ v, v < (g.nodes.map QN).length -> lab g v = lab g 0) ↔ _
   rw [List.length_map]
  have hL : mnL (gJQ g) = mnL g := by
   unfold mnL
   show (List.range (g.nodes.map QN).length).map _ = _
   rw [List.length_map]
   have sl : ∀ b v, slX (gJQ g) b v = slX g b v := fun b v => by unfold slX; rw [hM]; show (if v = 0 then 0 else slv _ _ ((g.nodes.map QN).length - 1) _) = _; rw [List.length_map]
   unfold mnX mnY
   rw [hX, hY];simp only [sl]
  unfold iC
  rw [pb, hc, hL]
 ·unfold iC
  rw [pb, if_neg hv, if_neg hv]
end Go.Proofs.YtceacleokgoooaaGreatDoor

/- law31: Gradient. No condition. -/
namespace Go.Proofs.YtceacleokgoooaaGreatDoor
attribute [local irreducible] aD
open Go.RowKit

end Go.Proofs.YtceacleokgoooaaGreatDoor

/- law31: Order, Merges. No condition. -/
namespace Go.Proofs.YtceacleokgoooaaGreatDoor
attribute [local irreducible] aD
open Go.RowKit

section
variable {T : Tab} {t e : TypeId} {ti ei : TI}
end
theorem xr {g : GR} (hsm : bz g = true -> SM g) : ∀ p ∈ (iC g).1, p.small := by
 unfold iC
 split
 ·rename_i hv
  split
  ·rename_i hc
   intro p hp
   have o := CB (b6.1 hv) (hsm hv) hc p hp
   exact ⟨⟨Nat.le_trans o.x.lp (by decide), Nat.le_trans o.x.lq (by decide)⟩, ⟨Nat.le_trans o.y.lp (by decide), Nat.le_trans o.y.lq (by decide)⟩⟩
  ·intro p hp; cases hp
 ·intro p hp; cases hp
theorem Bv (g : GR) : (iC g).1.length <= 16 := by
 unfold iC
 split
 ·rename_i hv
  split
  ·show (mnL g).length <= 16
   rw [o5]; exact (b6.1 hv).n2
  ·exact Nat.zero_le _
 ·exact Nat.zero_le _
end Go.Proofs.YtceacleokgoooaaGreatDoor

/- The law AdjustGrows. No condition. -/
namespace Go.Proofs.YtceacleokgoooaaGreatDoor
attribute [local irreducible] aD
open Go.RowKit

def kR (ns : List RW) (ls : List LK) : List LK := ls.filter fun l => bz (.mk ns [l])
theorem wP (ns : List RW) (ls : List LK) : (kR ns ls).length <= ls.length := List.length_filter_le _ _
theorem xN (ns : List RW) {ls : List LK} {i : Nat} (h : i < ls.length) : kR ns (ls.take (i + 1)) = kR ns (ls.take i) ++ if bz (.mk ns [ls[i]]) = true then [ls[i]] else [] := by
 unfold kR
 rw [List.take_succ_eq_append_getElem h, List.filter_append]
 congr 1
 cases hv : bz (.mk ns [ls[i]]) <;> simp [List.filter, hv]
theorem DO {g : GR} (hv : bz g = true) {ns : List RW} (hn : ns.length = g.nodes.length) {l : LK} (hl : l ∈ g.links) : bz (.mk ns [l]) = true := by
 have gv := b6.1 hv
 refine b6.2 ⟨by show 1 <= ns.length; rw [hn]; exact gv.n1, by show ns.length <= 16; rw [hn]; exact gv.n2, by show 1 <= 48; decide, fun x hx => ?_⟩;rw [List.mem_singleton.1 hx]
 show jv ns.length l = true
 rw [hn]; exact gv.lk l hl
theorem xz {l : List LK} {k : Nat} {A B : List LK} (h : l = A ++ B) (hk : k + 1 = A.length) : (l.map LK.dc).eraseIdx k = (A.take k ++ B).map LK.dc := by
 subst h
 apply List.ext_getElem?
 intro i
 rw [List.getElem?_eraseIdx, List.getElem?_map, List.getElem?_map, List.getElem?_map]
 by_cases hi : i < k
 ·rw [if_pos hi, List.getElem?_append_left (by omega), List.getElem?_append_left (by rw [List.length_take]; omega), List.getElem?_take_of_lt hi]
 ·rw [if_neg hi, List.getElem?_append_right (by omega), List.getElem?_append_right (by rw [List.length_take]; omega), List.length_take]
  congr 2; omega
theorem w5 {A : List LK} {k i : Nat} (h : k <= i) : (A.take i).take k = A.take k := by rw [List.take_take, Nat.min_eq_left h]

section
variable {P : Program} {w0 : Base} {X : Nat -> Prop}
theorem EF {b : Bool} {NQ : List RW} {ls : List LK} {g : GR} {E : List (Nat × SV)} {rb : List Nat} {c : Code} {Q : Exit -> St -> Prop} (h2 : rd 159 E (.tmp 2) = .ptr 2 0) (h7 : rd 159 E (.tmp 7) = .ptr 999 0) (hb : b = false -> ls = [])
  (fin : AWP P w0 X c Q (mk 159 [(2, .ptr 2 0), (7, .pd [dRs NQ, dLs ls])] [(2, some (.box g.cs))] rb)) : AWP P w0 X c Q (mk 159 E (adS b (NQ.map RW.dc) (ls.map LK.dc) ++ [(2, some (.box g.cs))]) rb) := by
 refine CL [(2, .ptr 2 0), (7, .ptr 999 0)] ⟨h2, h7, trivial⟩ ?_
 cases b
 ·have hb := hb rfl
  subst hb
  refine dT [2, 7] [2, 999, 998] 998 [(2, .ptr 2 0), (7, .ptr 999 0)] [(2, some (.box g.cs)), (999, some (.box [.d (dRs NQ), .nil]))] rfl ⟨rfl, rfl, trivial⟩ ⟨rfl, ?_, trivial⟩ ?_
  ·show some (OO.box [gq 998 4 _ (.own 998 4 0 _), _]) = _
   rw [g6 rfl rfl]; rfl
  refine CK (ds := [dRs NQ, dLs []]) [(2, .ptr 2 0), (7, .pd [dRs NQ, dLs []])] [(2, some (.box g.cs))] rfl rfl ⟨Or.inr ⟨rfl, rfl⟩, Or.inl ⟨rfl, rfl⟩, trivial⟩ ⟨rfl, trivial⟩ rfl ?_;exact fin
 ·refine dT [2, 7] [2, 999, 998, 997] 998 [(2, .ptr 2 0), (7, .ptr 999 0)] [(2, some (.box g.cs)), (999, some (.box [.d (dRs NQ), .own 997 5 0 (ls.map LK.dc).length])), (997, some (.arr 5 (ls.map LK.dc)))] rfl ⟨rfl, rfl, trivial⟩ ⟨rfl, ?_, rfl, trivial⟩ ?_
  ·show some (OO.box [gq 998 4 _ (.own 998 4 0 _), _]) = _
   rw [g6 rfl rfl]; rfl
  refine dT [2, 7] [2, 999, 997] 997 [(2, .ptr 2 0), (7, .ptr 999 0)] [(2, some (.box g.cs)), (999, some (.box [.d (dRs NQ), .d (dLs ls)]))] rfl ⟨rfl, rfl, trivial⟩ ⟨rfl, ?_, trivial⟩ ?_
  ·show some (OO.box [_, gq 997 5 _ (.own 997 5 0 _)]) = _
   rw [g6 rfl rfl]; rfl
  refine CK (ds := [dRs NQ, dLs ls]) [(2, .ptr 2 0), (7, .pd [dRs NQ, dLs ls])] [(2, some (.box g.cs))] rfl rfl ⟨Or.inr ⟨rfl, rfl⟩, Or.inl ⟨rfl, rfl⟩, trivial⟩ ⟨rfl, trivial⟩ rfl ?_;exact fin
end

set_option maxHeartbeats 4000000 in
theorem zz (g : GR) (more : List LK) (hg : ∀ r ∈ g.nodes, r.W) (hml : more.length <= 9223372036854775807) : Con Tryz.prog 3 [AG g.cs, V1 (dLs more)] { v := dB true } := by
 refine vh (fn := Tryz.f3) tok Tryz.func3 (by kernel_rfl) rfl ?_
 intro w0 X hp0
 rw [am _ _ [(0, AG g.cs), (1, V1 (dLs more))] rfl rfl];refine gQ fun _ O=>?_;refine aF rfl rfl rfl rfl rfl rfl ?_;refine Z8 ?_;refine eQ O ?_;clear O;refine ae ?_;refine a8 (α := Bool) (fun c => mk 159 [(1, V1 (dLs more)), (2, .ptr 2 0), (32, dB c)] [(2, some (.box g.cs))] []) (fun c => c = !(m8 g && decide (more.length <= 4))) ?_ ?_
 ·have cF := BU g
  cases hf : m8 g with
  | false =>
   rw [hf] at cF;refine gR fun _ O=>?_;refine ac rfl rfl (mD) rfl rfl rfl rfl ?_;refine dE rfl rfl rfl ?_;refine Z9 ?_;refine Z7 ?_;refine ac rfl rfl (cF) rfl rfl rfl rfl ?_;refine dE rfl rfl rfl ?_;refine Z4 ?_;refine Z9 ?_;refine az rfl ?_;refine az rfl ?_;refine az rfl ?_;refine Z4 ?_;refine eQ O ?_;clear O;exact ⟨_, rfl, Wk.mk' ⟨rfl, rfl, rfl, trivial⟩ ⟨rfl, trivial⟩⟩
  | true =>
   rw [hf] at cF;refine gR fun _ O=>?_;refine ac rfl rfl (mD) rfl rfl rfl rfl ?_;refine dE rfl rfl rfl ?_;refine Z9 ?_;refine Z7 ?_;refine ac rfl rfl (cF) rfl rfl rfl rfl ?_;refine dE rfl rfl rfl ?_;refine Z4 ?_;refine Z9 ?_;refine Z9 ?_;refine aw rfl (br LK.dc rfl rfl) rfl ?_;refine ap rfl (pA _ 4) rfl ?_;refine Z4 ?_;refine eQ O ?_;clear O;refine ⟨_, ?_, Wk.mk' ⟨rfl, rfl, rfl, trivial⟩ ⟨rfl, trivial⟩⟩
   show decide (4 < more.length) = _
   rw [Bool.true_and, Bool.eq_iff_iff]; simp
 rintro c rfl
 refine al rfl (fun hc => ?_) (fun hc => ?_)
 ·refine gQ fun _ O=>?_;refine ac rfl rfl (mD) rfl rfl rfl rfl ?_;refine Z8 ?_;refine eQ O ?_;clear O;exact aj aS
 rw [Bool.not_eq_false', Bool.and_eq_true] at hc
 obtain ⟨hc, h4⟩ := hc
 have h4 := of_decide_eq_true h4
 obtain ⟨ok1, hsm, h49⟩ := zR hg hc
 have ok : ∀ r ∈ g.nodes, r.OK 4096 := fun r hr => (ok1 r hr).mono rfl
 refine ah ?_;show AWP _ _ _ _ _ _
 have cV := gZ g
 have cM := rZ g ok hsm
 refine ae ?_
 cases hv : bz g with
 | false =>
  rw [hv] at cV
  have eM : iC g = ([], 1) := by unfold iC; rw [if_neg (by rw [hv]; simp)]
  rw [eM] at cM;refine gQ fun _ O=>?_;refine Z7 ?_;refine ac rfl rfl (cV) rfl rfl rfl rfl ?_;refine dE rfl rfl rfl ?_;refine eQ O ?_;clear O;refine al rfl (fun _ => ?_) (fun h => by cases h);refine gQ fun _ O=>?_;refine Z7 ?_;refine ac rfl rfl (cM) rfl rfl rfl rfl ?_;refine Z9 ?_;refine aq rfl rfl rfl ?_;refine aq rfl rfl rfl ?_;refine Z8 ?_;refine Z8 ?_;refine eQ O ?_;clear O;refine gQ fun _ O=>?_;refine Z9 ?_;refine ap rfl (wG (c := true) rfl) rfl ?_;refine Z8 ?_;refine eQ O ?_;clear O;exact aj aS
 | true =>
 rw [hv] at cV;refine gQ fun _ O=>?_;refine Z7 ?_;refine ac rfl rfl (cV) rfl rfl rfl rfl ?_;refine dE rfl rfl rfl ?_;refine eQ O ?_;clear O;refine al rfl (fun h => by cases h) (fun _ => ?_);refine ah ?_;show AWP _ _ _ _ _ _
 have gv := b6.1 hv
 have S0 := hsm hv
 have n1 := gv.n1
 have n6 := S0.n6
 have l16 : g.links.length <= 9 := by
  rw [m8, Bool.and_eq_true] at hc
  have := (of_decide_eq_true hc.1).2
  have := gv.l
  omega
 refine cK (Wk.rbE (rb' := [999]) rfl) ?_
 have hn0 : 0 < g.nodes.length := by omega
 have cW := DF g.nodes[0] ((ok1 _ (List.getElem_mem hn0)).mono rfl)
 have t1 : [(QN g.nodes[0]).dc] = ((g.nodes.take 1).map QN).map RW.dc := by
  rw [show g.nodes.take 1 = [g.nodes[0]] by rw [List.take_succ_eq_append_getElem hn0]; simp]; rfl
 rw [t1] at cW;refine bw fun _ O=>?_;refine ab tok rfl ?_;refine Z5 ?_;refine ag ?_;refine ab tok rfl ?_;refine Z7 ?_;refine ag ?_;refine ab tok rfl ?_;refine aa rfl (x_m RW.dc (i := 0) rfl rfl rfl rfl hn0 rfl) rfl ?_;refine ag ?_;refine ab tok rfl ?_;refine Z7 ?_;refine ag ?_;refine x7 hp0 [(1, V1 (dLs more)), (2, .ptr 2 0)] cW rfl rfl rfl ⟨rfl, rfl, trivial⟩ rfl rfl ?_;refine ab tok rfl ?_;refine Z8 ?_;refine ag ?_;refine bn rfl (O _ ?_); clear O
 -- the nodes
 refine ae ?_;refine gQ fun _ O=>?_;refine Z8 ?_;refine eQ O ?_;clear O;refine ai (aM (α := Nat) (fun i => mk 159 [(1, V1 (dLs more)), (2, .ptr 2 0), (7, .ptr 999 0), (8, dI i)] (adS false (((g.nodes.take i).map QN).map RW.dc) [] ++ [(2, some (.box g.cs))]) [999]) (fun i => 1 <= i /\ i <= g.nodes.length) (fun i => g.nodes.length - i) 1 ?_ ⟨Nat.le_refl _, n1⟩ ?_)
 ·exact Wk.mk' ⟨rfl, rfl, rfl, rfl, trivial⟩ ⟨rfl, rfl, rfl, trivial⟩
 rintro i ⟨hi1, hi⟩
 refine ae ?_;refine gQ fun _ O=>?_;refine Z9 ?_;refine Z5 ?_;refine Z7 ?_;refine aw rfl (br RW.dc rfl rfl) rfl ?_;refine Z6 ?_;refine eQ O ?_;clear O;refine al rfl (fun hc => ?_) (fun hc => ?_)
 ·have hi : i < g.nodes.length := by simp at hc; omega
  have zl : (((g.nodes.take i).map QN).map RW.dc).length = i := by simp; omega
  have cN := BI false (((g.nodes.take i).map QN).map RW.dc) [] g.nodes[i] ((ok1 _ (List.getElem_mem hi)).mono rfl) (by rw [zl]; omega)
  have n1 : ((g.nodes.take i).map QN).map RW.dc ++ [(QN g.nodes[i]).dc] = ((g.nodes.take (i + 1)).map QN).map RW.dc := by
   rw [List.take_succ_eq_append_getElem hi, List.map_append, List.map_append]; rfl
  rw [n1, zl] at cN;refine ah ?_;show AWP _ _ _ _ _ _;refine ae ?_;refine ai ?_;refine bw fun _ O=>?_;refine ab tok rfl ?_;refine Z9 ?_;refine ag ?_;refine ab tok rfl ?_;refine Z5 ?_;refine ag ?_;refine ab tok rfl ?_;refine Z7 ?_;refine ag ?_;refine ab tok rfl ?_;refine Z9 ?_;refine ag ?_;refine ab tok rfl ?_;refine aa rfl (x_m RW.dc rfl rfl rfl rfl hi rfl) rfl ?_;refine ag ?_;refine ab tok rfl ?_;refine Z7 ?_;refine ag ?_;refine jX [(1, V1 (dLs more)), (2, .ptr 2 0), (7, .ptr 999 0), (8, dI i)] cN rfl rfl rfl ⟨rfl, rfl, rfl, rfl, trivial⟩ rfl rfl rfl rfl ?_;refine ab tok rfl ?_;refine Z9 ?_;refine ag ?_;refine ab tok rfl ?_;refine aq rfl rfl rfl ?_;refine ag ?_;refine ab tok rfl ?_;refine aq rfl rfl rfl ?_;refine ag ?_;refine ab tok rfl ?_;refine Z8 ?_;refine ag ?_;refine ab tok rfl ?_;refine Z8 ?_;refine ag ?_;refine bn rfl (O _ ?_); clear O;refine gQ fun _ O=>?_;refine Z9 ?_;refine Z9 ?_;refine ap rfl (ng (c := false) (by simp)) rfl ?_;refine Z9 ?_;refine Z9 ?_;refine ap rfl (ng (c := false) rfl) rfl ?_;refine Z4 ?_;refine eQ O ?_;clear O;refine al rfl (fun h => by cases h) (fun _ => ?_);refine ah ?_;show AWP _ _ _ _ _ _;refine gR fun _ O=>?_;refine Z9 ?_;refine ap rfl (aL (c := ((i + 1 : Nat) : Int)) (by omega) (by omega)) rfl ?_;refine Z8 ?_;refine eQ O ?_;clear O;exact ⟨i + 1, by omega, ⟨by omega, hi⟩, Wk.mk' ⟨rfl, rfl, rfl, rfl, trivial⟩ ⟨rfl, rfl, rfl, trivial⟩⟩
 have hi : i = g.nodes.length := by simp at hc; omega
 subst hi
 rw [List.take_length]
 obtain ⟨NQ, hNQ⟩ : ∃ NQ, NQ = g.nodes.map QN := ⟨_, rfl⟩
 have hNl : NQ.length = g.nodes.length := by rw [hNQ, List.length_map]
 have hNo : ∀ r ∈ NQ, r.OK 1 := fun r hr => by
  rw [hNQ] at hr
  obtain ⟨x, hx, rfl⟩ := List.mem_map.1 hr
  exact EH (Nat.le_refl _) (ok1 x hx)
 rw [<- hNQ];refine aA ?_;show AWP _ _ _ _ _ _
 -- the links besides
 refine gQ fun _ O=>?_;refine Z8 ?_;refine eQ O ?_;clear O;refine ae ?_;refine gQ fun _ O=>?_;refine Z8 ?_;refine eQ O ?_;clear O;refine ai (aM (α := Nat × Bool) (fun p => mk 159 [(1, V1 (dLs more)), (2, .ptr 2 0), (7, .ptr 999 0), (11, dI (kR NQ (more.take p.1)).length), (12, dI p.1)] (adS p.2 (NQ.map RW.dc) ((kR NQ (more.take p.1)).map LK.dc) ++ [(2, some (.box g.cs))]) [999]) (fun p => p.1 <= more.length /\ (p.2 = false -> kR NQ (more.take p.1) = [])) (fun p => more.length - p.1) (0, false) ?_ ⟨Nat.zero_le _, fun _ => rfl⟩ ?_)
 ·exact Wk.mk' ⟨rfl, rfl, rfl, rfl, rfl, trivial⟩ ⟨rfl, rfl, rfl, trivial⟩
 clear hc hi1
 rintro ⟨i, b⟩ ⟨hi, hb⟩
 simp only at hi hb ⊢
 refine ae ?_;refine gQ fun _ O=>?_;refine Z9 ?_;refine Z9 ?_;refine aw rfl (br LK.dc rfl rfl) rfl ?_;refine Z6 ?_;refine eQ O ?_;clear O;refine al rfl (fun hc => ?_) (fun hc => ?_)
 ·have hi : i < more.length := by simp at hc; omega
  have za := wP NQ (more.take i)
  rw [List.length_take] at za
  have zs := xN NQ hi
  refine ah ?_;show AWP _ _ _ _ _ _;refine ae ?_;refine ai ?_
  cases hf : bz (.mk NQ [more[i]]) with
  | true =>
   rw [hf, if_pos rfl] at zs
   have cL := tF b NQ ((kR NQ (more.take i)).map LK.dc) more[i] hf (by rw [List.length_map]; omega) (fun h => by rw [hb h]; rfl)
   rw [show (kR NQ (more.take i)).map LK.dc ++ [(more[i]).dc] = (kR NQ (more.take (i + 1))).map LK.dc by rw [zs, List.map_append]; rfl] at cL;refine bw fun _ O=>?_;refine ab tok rfl ?_;refine Z9 ?_;refine ag ?_;refine ab tok rfl ?_;refine Z9 ?_;refine ag ?_;refine ab tok rfl ?_;refine Z9 ?_;refine ag ?_;refine ab tok rfl ?_;refine aa rfl (x_m LK.dc rfl rfl rfl rfl hi rfl) rfl ?_;refine ag ?_;refine ab tok rfl ?_;refine Z7 ?_;refine ag ?_;refine jX [(1, V1 (dLs more)), (2, .ptr 2 0), (7, .ptr 999 0), (11, dI (kR NQ (more.take i)).length), (12, dI i)] cL rfl rfl rfl ⟨rfl, rfl, rfl, rfl, rfl, trivial⟩ rfl rfl rfl rfl ?_;refine ab tok rfl ?_;refine ap rfl (wG (c := true) rfl) rfl ?_;refine ag ?_;refine bn rfl (O _ ?_); clear O;refine al rfl (fun _ => ?_) (fun h => by cases h);refine gR fun _ O=>?_;refine Z9 ?_;refine ap rfl (aL (c := (((kR NQ (more.take (i + 1))).length : Nat) : Int)) (by rw [zs]; simp) (by rw [zs, List.length_append]; simp; omega)) rfl ?_;refine Z8 ?_;refine eQ O ?_;clear O;show AWP _ _ _ _ _ _;refine gR fun _ O=>?_;refine Z9 ?_;refine ap rfl (aL (c := ((i + 1 : Nat) : Int)) (by omega) (by omega)) rfl ?_;refine Z8 ?_;refine eQ O ?_;clear O;exact ⟨(i + 1, true), by show more.length - (i + 1) < more.length - i; omega, ⟨hi, fun h => by cases h⟩, Wk.mk' ⟨rfl, rfl, rfl, rfl, rfl, trivial⟩ ⟨rfl, rfl, rfl, rfl, trivial⟩⟩
  | false =>
   rw [hf, if_neg (by decide), List.append_nil] at zs
   have cL := zB b NQ ((kR NQ (more.take i)).map LK.dc) more[i] hf
   rw [<- zs] at hb cL ⊢;refine bw fun _ O=>?_;refine ab tok rfl ?_;refine Z9 ?_;refine ag ?_;refine ab tok rfl ?_;refine Z9 ?_;refine ag ?_;refine ab tok rfl ?_;refine Z9 ?_;refine ag ?_;refine ab tok rfl ?_;refine aa rfl (x_m LK.dc rfl rfl rfl rfl hi rfl) rfl ?_;refine ag ?_;refine ab tok rfl ?_;refine Z7 ?_;refine ag ?_;refine jX [(1, V1 (dLs more)), (2, .ptr 2 0), (7, .ptr 999 0), (11, dI (kR NQ (more.take (i + 1))).length), (12, dI i)] cL rfl rfl rfl ⟨rfl, rfl, rfl, rfl, rfl, trivial⟩ rfl rfl rfl rfl ?_;refine ab tok rfl ?_;refine ap rfl (wG (c := false) rfl) rfl ?_;refine ag ?_;refine bn rfl (O _ ?_); clear O;refine al rfl (fun h => by cases h) (fun _ => ?_);refine ah ?_;show AWP _ _ _ _ _ _;refine gR fun _ O=>?_;refine Z9 ?_;refine ap rfl (aL (c := ((i + 1 : Nat) : Int)) (by omega) (by omega)) rfl ?_;refine Z8 ?_;refine eQ O ?_;clear O;refine ⟨(i + 1, b), by show more.length - (i + 1) < more.length - i; omega, ⟨hi, hb⟩, ?_⟩
   cases b
   ·exact Wk.mk' ⟨rfl, rfl, rfl, rfl, rfl, trivial⟩ ⟨rfl, rfl, rfl, trivial⟩
   ·exact Wk.mk' ⟨rfl, rfl, rfl, rfl, rfl, trivial⟩ ⟨rfl, rfl, rfl, rfl, trivial⟩
 have hi : i = more.length := by simp at hc; omega
 subst hi
 rw [List.take_length] at hb ⊢
 obtain ⟨L, hL⟩ : ∃ L, L = kR NQ more := ⟨_, rfl⟩
 have hLl : L.length <= 4 := by rw [hL]; exact Nat.le_trans (wP _ _) h4
 rw [<- hL] at hb ⊢;refine aA ?_;show AWP _ _ _ _ _ _
 -- the graph's links
 refine ae ?_;refine gQ fun _ O=>?_;refine Z8 ?_;refine eQ O ?_;clear O;refine ai (aM (α := Nat × Bool) (fun p => mk 159 [(2, .ptr 2 0), (7, .ptr 999 0), (11, dI L.length), (13, dI p.1)] (adS p.2 (NQ.map RW.dc) ((L ++ g.links.take p.1).map LK.dc) ++ [(2, some (.box g.cs))]) [999]) (fun p => p.1 <= g.links.length /\ (p.2 = false -> L ++ g.links.take p.1 = [])) (fun p => g.links.length - p.1) (0, b) ?_ ⟨Nat.zero_le _, fun h => by rw [hb h]; rfl⟩ ?_)
 ·rw [show L ++ g.links.take (0, b).1 = L by simp]
  cases b
  ·exact Wk.mk' ⟨rfl, rfl, rfl, rfl, trivial⟩ ⟨rfl, rfl, rfl, trivial⟩
  ·exact Wk.mk' ⟨rfl, rfl, rfl, rfl, trivial⟩ ⟨rfl, rfl, rfl, rfl, trivial⟩
 clear hc hb
 rintro ⟨j, b⟩ ⟨hj, hb⟩
 simp only at hj hb ⊢
 refine ae ?_;refine a8 (α := Unit) (fun _ => mk 159 [(2, .ptr 2 0), (7, .ptr 999 0), (11, dI L.length), (13, dI j), (92, dB (decide (j < g.links.length)))] (adS b (NQ.map RW.dc) ((L ++ g.links.take j).map LK.dc) ++ [(2, some (.box g.cs))]) [999]) (fun _ => True) ?_ ?_
 ·cases b
  ·refine gR fun _ O=>?_;refine Z9 ?_;refine Z5 ?_;refine Z7 ?_;refine aw rfl (br LK.dc rfl rfl) rfl ?_;refine ap rfl (wF (c := decide (j < g.links.length)) (by rw [Bool.eq_iff_iff]; simp)) rfl ?_;refine eQ O ?_;clear O;exact ⟨(), trivial, Wk.mk' ⟨rfl, rfl, rfl, rfl, rfl, trivial⟩ ⟨rfl, rfl, rfl, trivial⟩⟩
  ·refine gR fun _ O=>?_;refine Z9 ?_;refine Z5 ?_;refine Z7 ?_;refine aw rfl (br LK.dc rfl rfl) rfl ?_;refine ap rfl (wF (c := decide (j < g.links.length)) (by rw [Bool.eq_iff_iff]; simp)) rfl ?_;refine eQ O ?_;clear O;exact ⟨(), trivial, Wk.mk' ⟨rfl, rfl, rfl, rfl, rfl, trivial⟩ ⟨rfl, rfl, rfl, rfl, trivial⟩⟩
 rintro ⟨⟩ -
 refine al rfl (fun hc => ?_) (fun hc => ?_)
 ·have hj := of_decide_eq_true hc
  have hf := DO hv hNl (List.getElem_mem hj)
  have zl : (L ++ g.links.take j).length <= 13 := by rw [List.length_append, List.length_take]; omega
  have cL := tF b NQ ((L ++ g.links.take j).map LK.dc) g.links[j] hf (by rw [List.length_map]; omega) (fun h => by rw [hb h]; rfl)
  have zs : L ++ g.links.take (j + 1) = L ++ g.links.take j ++ [g.links[j]] := by rw [List.take_succ_eq_append_getElem hj, List.append_assoc]
  rw [show (L ++ g.links.take j).map LK.dc ++ [(g.links[j]).dc] = (L ++ g.links.take (j + 1)).map LK.dc by rw [zs]; exact (List.map_append (l₁ := L ++ g.links.take j) (l₂ := [g.links[j]])).symm] at cL
  have cS := tE (.mk NQ (L ++ g.links.take (j + 1))) (fun r hr => (hNo r hr).mono rfl) (fun hv => ⟨by show NQ.length <= 6; omega, by show (L ++ g.links.take (j + 1)).length <= 16; rw [List.length_append, List.length_take]; omega, fun r hr => (hNo r hr).mono rfl⟩)
  refine ah ?_;show AWP _ _ _ _ _ _;refine ae ?_;refine ai ?_;refine ae ?_;refine a8 (α := Unit) (fun _ => mk 159 [(2, .ptr 2 0), (7, .ptr 999 0), (11, dI L.length), (13, dI j), (102, dB false)] (adS true (NQ.map RW.dc) ((L ++ g.links.take (j + 1)).map LK.dc) ++ [(2, some (.box g.cs))]) [999]) (fun _ => True) ?_ ?_
  ·cases b
   ·refine cw fun _ O=>?_;refine ab tok rfl ?_;refine Z9 ?_;refine ag ?_;refine ab tok rfl ?_;refine Z5 ?_;refine ag ?_;refine ab tok rfl ?_;refine Z7 ?_;refine ag ?_;refine ab tok rfl ?_;refine Z9 ?_;refine ag ?_;refine ab tok rfl ?_;refine aa rfl (x_m LK.dc rfl rfl rfl rfl hj rfl) rfl ?_;refine ag ?_;refine ab tok rfl ?_;refine Z7 ?_;refine ag ?_;refine jX [(2, .ptr 2 0), (7, .ptr 999 0), (11, dI L.length), (13, dI j)] cL rfl rfl rfl ⟨rfl, rfl, rfl, rfl, trivial⟩ rfl rfl rfl rfl ?_;refine ab tok rfl ?_;refine ap rfl (ng (c := false) rfl) rfl ?_;refine ag ?_;refine bn rfl (O _ ?_); clear O;exact ⟨(), trivial, Wk.mk' ⟨rfl, rfl, rfl, rfl, rfl, trivial⟩ ⟨rfl, rfl, rfl, rfl, trivial⟩⟩
   ·refine cw fun _ O=>?_;refine ab tok rfl ?_;refine Z9 ?_;refine ag ?_;refine ab tok rfl ?_;refine Z5 ?_;refine ag ?_;refine ab tok rfl ?_;refine Z7 ?_;refine ag ?_;refine ab tok rfl ?_;refine Z9 ?_;refine ag ?_;refine ab tok rfl ?_;refine aa rfl (x_m LK.dc rfl rfl rfl rfl hj rfl) rfl ?_;refine ag ?_;refine ab tok rfl ?_;refine Z7 ?_;refine ag ?_;refine jX [(2, .ptr 2 0), (7, .ptr 999 0), (11, dI L.length), (13, dI j)] cL rfl rfl rfl ⟨rfl, rfl, rfl, rfl, trivial⟩ rfl rfl rfl rfl ?_;refine ab tok rfl ?_;refine ap rfl (ng (c := false) rfl) rfl ?_;refine ag ?_;refine bn rfl (O _ ?_); clear O;exact ⟨(), trivial, Wk.mk' ⟨rfl, rfl, rfl, rfl, rfl, trivial⟩ ⟨rfl, rfl, rfl, rfl, trivial⟩⟩
  rintro ⟨⟩ -
  refine al rfl (fun h => by cases h) (fun _ => ?_);refine ah ?_;show AWP _ _ _ _ _ _;refine cw fun _ O=>?_;refine ab tok rfl ?_;refine Z9 ?_;refine ag ?_;refine AL cS rfl (CU NQ _ _) (Or.inl rfl) ?_;refine bn rfl (O _ ?_); clear O;show AWP _ _ _ _ _ _;refine gR fun _ O=>?_;refine Z9 ?_;refine ap rfl (aL (c := ((j + 1 : Nat) : Int)) (by omega) (by omega)) rfl ?_;refine Z8 ?_;refine eQ O ?_;clear O;exact ⟨(j + 1, true), by show g.links.length - (j + 1) < g.links.length - j; omega, ⟨hj, fun h => by cases h⟩, Wk.mk' ⟨rfl, rfl, rfl, rfl, trivial⟩ ⟨rfl, rfl, rfl, rfl, trivial⟩⟩
 have hj : j = g.links.length := by have := of_decide_eq_false hc; omega
 subst hj
 rw [List.take_length] at hb ⊢;refine aA ?_;show AWP _ _ _ _ _ _
 -- what was added besides is dropped
 refine ae ?_;refine gQ fun _ O=>?_;refine Z9 ?_;refine Z8 ?_;refine eQ O ?_;clear O;refine ai (aM (α := Nat × Bool) (fun p => mk 159 [(2, .ptr 2 0), (7, .ptr 999 0), (14, dI p.1)] (adS p.2 (NQ.map RW.dc) ((L.take p.1 ++ g.links).map LK.dc) ++ [(2, some (.box g.cs))]) [999]) (fun p => p.1 <= L.length /\ (p.2 = false -> L.take p.1 ++ g.links = [])) (fun p => p.1) (L.length, b) ?_ ⟨Nat.le_refl _, fun h => by rw [List.take_length]; exact hb h⟩ ?_)
 ·rw [show L.take (L.length, b).1 = L from List.take_length]
  cases b
  ·exact Wk.mk' ⟨rfl, rfl, rfl, trivial⟩ ⟨rfl, rfl, rfl, trivial⟩
  ·exact Wk.mk' ⟨rfl, rfl, rfl, trivial⟩ ⟨rfl, rfl, rfl, rfl, trivial⟩
 clear hc hb
 rintro ⟨i, b⟩ ⟨hi, hb⟩
 simp only at hi hb ⊢
 refine ae ?_;refine gQ fun _ O=>?_;refine Z9 ?_;refine ap rfl (pA _ 0) rfl ?_;refine eQ O ?_;clear O;refine al rfl (fun hc => ?_) (fun hc => ?_)
 ·have hi0 : 0 < i := by simp at hc; omega
  obtain ⟨k, rfl⟩ : ∃ k, i = k + 1 := ⟨i - 1, by omega⟩
  have hLk : (L.take (k + 1)).length = k + 1 := by rw [List.length_take]; omega
  have hbt : b = true := by
   cases b with
   | true => rfl
   | false =>
    have := congrArg List.length (hb rfl)
    rw [List.length_append, hLk] at this
    simp at this
  subst hbt
  have cD := zC (NQ.map RW.dc) ((L.take (k + 1) ++ g.links).map LK.dc) k (by rw [List.length_map, List.length_append, hLk]; omega) (by rw [List.length_map, List.length_append, hLk]; omega)
  rw [xz rfl hLk.symm, w5 (Nat.le_succ k)] at cD;refine ah ?_;show AWP _ _ _ _ _ _;refine ae ?_;refine ai ?_;refine bw fun _ O=>?_;refine ab tok rfl ?_;refine Z9 ?_;refine ag ?_;refine ab tok rfl ?_;refine Z9 ?_;refine ag ?_;refine ab tok rfl ?_;refine ap rfl (bQ (c := ((k : Nat) : Int)) (by omega) (by omega)) rfl ?_;refine ag ?_;refine jX [(2, .ptr 2 0), (7, .ptr 999 0), (14, dI ((k + 1 : Nat) : Int))] cD rfl rfl rfl ⟨rfl, rfl, rfl, trivial⟩ rfl rfl rfl rfl ?_;refine ab tok rfl ?_;refine ap rfl (ng (c := false) rfl) rfl ?_;refine ag ?_;refine bn rfl (O _ ?_); clear O;refine al rfl (fun h => by cases h) (fun _ => ?_);refine ah ?_;show AWP _ _ _ _ _ _;refine gR fun _ O=>?_;refine Z9 ?_;refine ap rfl (bQ (c := ((k : Nat) : Int)) (by omega) (by omega)) rfl ?_;refine Z8 ?_;refine eQ O ?_;clear O;exact ⟨(k, true), Nat.lt_succ_self _, ⟨by show k <= L.length; omega, fun h => by cases h⟩, Wk.mk' ⟨rfl, rfl, rfl, trivial⟩ ⟨rfl, rfl, rfl, rfl, trivial⟩⟩
 have hi : i = 0 := by simp at hc; omega
 subst hi
 rw [List.take_zero, List.nil_append] at hb ⊢;refine aA ?_;show AWP _ _ _ _ _ _
 -- it becomes data
 refine EF rfl rfl hb ?_;clear hb
 have cP := tE (gJQ g) (fun r hr => (hNo r (by rw [hNQ]; exact hr)).mono rfl) (fun _ => ⟨by show (g.nodes.map QN).length <= 6; rw [List.length_map]; exact n6, S0.l16, fun r hr => (hNo r (by rw [hNQ]; exact hr)).mono rfl⟩)
 rw [Dy] at cP
 change Con _ _ [.pd [dRs (g.nodes.map QN), dLs g.links]] _ at cP
 rw [<- hNQ] at cP
 have cG := ug NQ g.links (fun r hr => (hNo r hr).mono rfl) (by omega) (by omega)
 have hEQ : NQ.map (fun r => pz2 r.cn) = NQ := by
  rw [hNQ, List.map_map];exact List.map_congr_left fun r _ => EJ r
 rw [hEQ] at cG
 have cE := yv NQ g.nodes g.links hNl (fun r hr => (hNo r hr).mono rfl) (fun r hr => (ok1 r hr).mono rfl) (fun i h1 h2 => by subst hNQ; rw [List.getElem_map, AA]) (by omega) (by omega)
 have cB := uq (iC g).1 (Nat.le_trans (Bv _) (by decide)) (xr hsm)
 generalize iC g = m at cM cP cB
 obtain ⟨m, e1⟩ := m
 refine gQ fun _ O=>?_;refine Z9 ?_;refine ac rfl rfl (cP) rfl rfl rfl rfl ?_;refine Z9 ?_;refine aq rfl rfl rfl ?_;refine aq rfl rfl rfl ?_;refine Z8 ?_;refine Z8 ?_;refine eQ O ?_;clear O;refine gQ fun _ O=>?_;refine Z7 ?_;refine ac rfl rfl (cM) rfl rfl rfl rfl ?_;refine Z9 ?_;refine aq rfl rfl rfl ?_;refine aq rfl rfl rfl ?_;refine Z8 ?_;refine Z8 ?_;refine eQ O ?_;clear O;refine gQ fun _ O=>?_;refine Z9 ?_;refine ac rfl rfl (cG) rfl rfl rfl rfl ?_;refine au rfl rfl rfl rfl rfl rfl ?_;refine ak rfl rfl rfl rfl rfl ?_;refine eQ O ?_;clear O;refine ae ?_;refine gQ fun _ O=>?_;refine Z7 ?_;refine Z7 ?_;refine ac rfl rfl (cE) rfl rfl rfl rfl ?_;refine dE rfl rfl rfl ?_;refine eQ O ?_;clear O;refine al rfl (fun h => by cases h) (fun _ => ?_);refine ah ?_;show AWP _ _ _ _ _ _;refine ae ?_;refine gQ fun _ O=>?_;refine Z8 ?_;refine eQ O ?_;clear O;refine ai (aM (α := Nat) (fun i => mk 159 [(2, .ptr 2 0), (15, V1 (dSs m)), (16, dI e1), (17, V1 (dSs m)), (18, dI e1), (19, .ptr 19 0), (20, dI i)] [(2, some (.box g.cs)), (19, some (.box (GR.mk NQ g.links).cs))] [999]) (fun i => i <= NQ.length) (fun i => NQ.length - i) 0 ?_ (Nat.zero_le _) ?_)
 ·exact Wk.mk' ⟨rfl, rfl, rfl, rfl, rfl, rfl, rfl, trivial⟩ ⟨rfl, rfl, trivial⟩
 intro i hi
 refine ae ?_;refine gQ fun _ O=>?_;refine Z9 ?_;refine Z5 ?_;refine Z7 ?_;refine aw rfl (br RW.dc rfl rfl) rfl ?_;refine Z6 ?_;refine eQ O ?_;clear O;refine al rfl (fun hc => ?_) (fun hc => ?_)
 ·have hi : i < NQ.length := by simp at hc; omega
  have hi2 : i < g.nodes.length := by omega
  have cN := lf g.nodes[i] ((ok1 _ (List.getElem_mem hi2)).mono rfl)
  have eN : pz2 (g.nodes[i]).cn = NQ[i] := by subst hNQ; rw [List.getElem_map]; rfl
  rw [eN] at cN
  have cR := uy NQ[i] (hNo _ (List.getElem_mem hi)) rfl
  refine ah ?_;show AWP _ _ _ _ _ _;refine ae ?_;refine ai ?_;refine aI tok mixed (A := [[], [], [], [0], [0, 1, 2], [], [], [], [5], [5, 6, 7], [5, 6, 7, 8], [0, 1, 2, 3, 5, 6, 7, 8, 9], [0, 1, 2, 3, 4, 5, 6, 7, 8, 9, 10]]) (an := [{}, {}, {}, {}, {}, {}, {}, {}, {}, {}, {}, {}, {}]) rfl (by kernel_rfl) rfl fun _ O=>?_;refine Z5 ?_;refine Z7 ?_;refine Z9 ?_;refine aa rfl (x_m RW.dc rfl rfl rfl rfl hi rfl) rfl ?_;refine Z7 ?_;refine Z5 ?_;refine Z7 ?_;refine Z9 ?_;refine aa rfl (x_m RW.dc rfl rfl rfl rfl hi2 rfl) rfl ?_;refine Z7 ?_;refine ac rfl rfl (cN) rfl rfl rfl rfl ?_;refine ac rfl rfl (cR) rfl rfl rfl rfl ?_;refine dE rfl rfl rfl ?_;refine eQ O ?_;clear O;refine al rfl (fun h => by cases h) (fun _ => ?_);refine ah ?_;show AWP _ _ _ _ _ _;refine gR fun _ O=>?_;refine Z9 ?_;refine ap rfl (aL (c := ((i + 1 : Nat) : Int)) (by omega) (by omega)) rfl ?_;refine Z8 ?_;refine eQ O ?_;clear O;exact ⟨i + 1, by omega, hi, Wk.mk' ⟨rfl, rfl, rfl, rfl, rfl, rfl, rfl, trivial⟩ ⟨rfl, rfl, trivial⟩⟩
 refine aA ?_;show AWP _ _ _ _ _ _;refine gQ fun _ O=>?_;refine Z9 ?_;refine Z9 ?_;refine ap rfl (wG (c := true) (by simp)) rfl ?_;refine Z9 ?_;refine Z9 ?_;refine Z9 ?_;refine ac rfl rfl (cB) rfl rfl rfl rfl ?_;refine Z4 ?_;refine Z8 ?_;refine eQ O ?_;clear O;exact aj aS
end Go.Proofs.YtceacleokgoooaaGreatDoor

/- Matrices and lists of small integers as arguments, with their lengths. No condition. -/
namespace Go.Proofs.YtceacleokgoooaaGreatDoor
open Go.RowKit

section
variable {P : Program} {T : Tab} {w : World} {t e : TypeId} {ti ei : TI}
end
def I8 (n : Int) : Prop := -128 <= n /\ n <= 127
def c8 (n : Int) : List DC := [.lit (.int .i8 n)]
def L8 (l : List Int) : Prop := (∀ x ∈ l, I8 x) /\ l.length <= 9223372036854775807
section
variable {w : World} {H : Type} {enc : TypeId × Value -> H} {sp : Nat -> Bool} {v : Value} {d : DataW H} {ps : List MemPlace} {base : Nat}
end
end Go.Proofs.YtceacleokgoooaaGreatDoor

/- Arrays of numbers as arguments. No condition. -/
namespace Go.Proofs.YtceacleokgoooaaGreatDoor
open Go.RowKit

section
variable {P : Program} {w : World} {t e : TypeId}
end
section
variable {w : World} {H : Type} {enc : TypeId × Value -> H} {sp : Nat -> Bool} {v : Value} {d : DataW H} {ps : List MemPlace} {base : Nat}

end
end Go.Proofs.YtceacleokgoooaaGreatDoor

/- Arguments of law30's and of the last ones. No condition. -/
namespace Go.Proofs.YtceacleokgoooaaGreatDoor
open Go.RowKit

section
variable {P : Program} {w : World} {t e : TypeId}
end
structure PL where
 at' : PT
 tn : Nat
def PL.dc (p : PL) : List DC := [lI p.at'.x, lI p.at'.y, .lit (.int .u8 p.tn)]
def PL.I (p : PL) : Prop := p.at'.I /\ p.tn < 256
section
variable {w : World} {H : Type} {enc : TypeId × Value -> H} {sp : Nat -> Bool} {v : Value} {d : DataW H} {ps : List MemPlace} {base : Nat}
set_option maxRecDepth 100000 in
theorem vo (hv : Value.okWide Tryz.prog w .any base 23 v) (hd : DataW.Trod enc Tryz.prog w 0 sp true 23 v d ps) : ∃ l : List LK, ((∀ r ∈ l, r.I) /\ l.length <= 9223372036854775807) /\ RelV w (fun _ => False) (fun _ => 0) v (V1 (dLs l)) := by
 obtain ⟨ti, e, a, b⟩ : ∃ ti e, tab.ty 23 = some ti /\ ti.und = .slice e := ⟨_, _, rfl, rfl⟩
 exact vn tok a b sU hv hd _
end
end Go.Proofs.YtceacleokgoooaaGreatDoor

/- The tables of numbers that a row's premise lays. No condition. -/
namespace Go.Proofs.YtceacleokgoooaaGreatDoor
open Go.ChangeShapes Go.WideShapes Go.ChangeAt Go.RowKit
theorem rS {P : Program} {w : World} : ∀ {l : List (String × DataW Unit)} {ps : List MemPlace}, DataW.LaidVars P w l ps -> ∀ {n : String} {d : DataW Unit}, (n, d) ∈ l ->
  ∃ l' ps', DataW.LaidVars P w ((n, d) :: l') ps'
 | [], _, _, n, d, hm => by cases hm
 | (n0, d0) :: r, ps, h, n, d, hm => by
  rcases List.mem_cons.1 hm with e | hm
  ·cases e; exact ⟨r, ps, h⟩
  ·obtain ⟨g, t, cs, fuel, p, q, e1, e2, e3, e4, hr, rfl⟩ := h
   exact rS hr hm
theorem tz {P : Program} {W : World} {l : List (String × DataW Unit)} {n : String} {g t te N : Nat} {nums : List Nat} (h : laidMetH P l W)
  (hm : (n, (.agg (nums.map fun (z : Nat) => .lit (.int .u8 (z : Int))) : DataW Unit)) ∈ l) (hg : P.globalNamed n = some g) (ht : (P.globals[g]?).map (·.type) = some t)
  (hu : P.underlying t = some (.array N te)) (hu8 : P.underlying te = some (.int .u8)) (c5 : P.cellsOf te = 1) (hN : nums.length = N) (h0 : 0 < N) :
  g < W.heap.size /\ (∀ j, j < nums.length -> W.cell? ⟨g, j, none⟩ = some (.int .u8 (nums.getD j 0))) /\ (nums = [] -> ∃ t fr, W.heap[g]? = some (.cells (pc.map fun z => Value.int .u64 z).toArray t fr)) := by
 have key : ∀ j, j < nums.length -> W.cell? ⟨g, j, none⟩ = some (.int .u8 (nums.getD j 0)) := by
  obtain ⟨⟨ps0, hL, _, _⟩, _⟩ := laidMetH_iff.1 h
  obtain ⟨l', ps, g', t', cs, fuel, p, q, hg', ht', hv, hd, _, _⟩ := rS hL (List.mem_filter.2 ⟨hm, rfl⟩)
  obtain rfl := Option.some.inj (hg.symm.trans hg')
  obtain rfl := Option.some.inj (ht.symm.trans ht')
  obtain ⟨xs, m, _, ex, _, hl, hel⟩ := DataW.trod_array hu hd
  intro r hr
  have hE := hel r (by omega)
  rw [c5, Nat.mul_one, List.getElem?_eq_getElem (by omega)] at hE
  obtain ⟨z, e1, e2, _⟩ := DataW.trod_int hu8 hE
  have e3 : (xs.map (·.1)) = nums.map fun (n : Nat) => .lit (.int .u8 (n : Int)) := (DataW.agg.inj (Prod.mk.inj ex).1).symm
  have e4 : (xs.map (·.1))[r]? = (nums.map fun (n : Nat) => (DataW.lit (.int .u8 (n : Int)) : DataW Unit))[r]? := by rw [e3]
  rw [List.getElem?_map, List.getElem?_map, List.getElem?_eq_getElem (by omega : r < xs.length), List.getElem?_eq_getElem hr, e2] at e4
  have hz : z = ((nums.getD r 0 : Nat) : Int) := by
   simp only [Option.map_some, Option.some.injEq, DataW.lit.injEq, Lit.int.injEq, true_and] at e4;rw [e4, List.getD, List.getElem?_eq_getElem hr]; rfl
  rw [World.var?_cell hg hv r, <- hz]
  have : cs.toList[r]? = some (.int .u8 z) := by
   have h0 : ((cs.toList.drop r).take 1)[0]? = some (.int .u8 z) := by rw [e1]; rfl
   simpa using h0
  simpa using this
 refine ⟨?_, key, fun e => by rw [e] at hN; simp at hN; omega⟩
 have := key 0 (by omega)
 unfold World.cell? at this
 split at this
 ·rename_i hh
  rcases Nat.lt_or_ge g W.heap.size with hlt | hge
  ·exact hlt
  ·rw [Array.getElem?_eq_none hge] at hh; cases hh
 ·cases this
theorem zu {P : Program} {W : World} {l : List (String × DataW Unit)} {n : String} {g t te N : Nat} (h : laidMetH P l W)
  (hm : (n, (.agg (pc.map fun (z : Int) => .lit (.int .u64 z)) : DataW Unit)) ∈ l) (hg : P.globalNamed n = some g) (ht : (P.globals[g]?).map (·.type) = some t)
  (hu : P.underlying t = some (.array N te)) (hu8 : P.underlying te = some (.int .u64)) (c5 : P.cellsOf te = 1) (ct : P.cellsOf t = N) (hN : pc.length = N) :
  g < W.heap.size /\ (∀ j, j < ([] : List Nat).length -> W.cell? ⟨g, j, none⟩ = some (.int .u8 (([] : List Nat).getD j 0))) /\ (([] : List Nat) = [] -> ∃ t fr, W.heap[g]? = some (.cells (pc.map fun z => Value.int .u64 z).toArray t fr)) := by
 obtain ⟨⟨ps0, hL, _, _⟩, _⟩ := laidMetH_iff.1 h
 obtain ⟨l', ps, g', t', cs, fuel, p, q, hg', ht', hv, hd, _, _⟩ := rS hL (List.mem_filter.2 ⟨hm, rfl⟩)
 obtain rfl := Option.some.inj (hg.symm.trans hg')
 obtain rfl := Option.some.inj (ht.symm.trans ht')
 obtain ⟨xs, m, _, ex, hcl, hl, hel⟩ := DataW.trod_array hu hd
 have e3 : (xs.map (·.1)) = pc.map fun (n : Int) => .lit (.int .u64 n) := (DataW.agg.inj (Prod.mk.inj ex).1).symm
 have hcs : cs = (pc.map fun z => Value.int .u64 z).toArray := by
  rw [<- Array.toArray_toList (xs := cs)]
  congr 1
  apply List.ext_getElem?
  intro r
  rcases Nat.lt_or_ge r N with hr | hr
  ·have hE := hel r hr
   rw [c5, Nat.mul_one, List.getElem?_eq_getElem (by omega)] at hE
   obtain ⟨z, e1, e2, _⟩ := DataW.trod_int hu8 hE
   have e4 : (xs.map (·.1))[r]? = (pc.map fun (n : Int) => (DataW.lit (.int .u64 n) : DataW Unit))[r]? := by rw [e3]
   rw [List.getElem?_map, List.getElem?_map, List.getElem?_eq_getElem (by omega : r < xs.length), List.getElem?_eq_getElem (by omega : r < pc.length), e2] at e4
   have hz : z = pc[r]'(by omega) := by
    simpa only [Option.map_some, Option.some.injEq, DataW.lit.injEq, Lit.int.injEq, true_and] using e4
   have h0 : ((cs.toList.drop r).take 1)[0]? = some (.int .u64 z) := by rw [e1]; rfl
   rw [List.getElem?_map, List.getElem?_eq_getElem (by omega : r < pc.length), Option.map_some, <- hz]
   simpa using h0
  ·rw [List.getElem?_eq_none (by rw [hcl, ct]; exact hr), List.getElem?_eq_none (by rw [List.length_map, hN]; exact hr)]
 have hh : ∃ t fr, W.heap[g]? = some (.cells cs t fr) := by
  simp only [World.var?, hg, Option.bind_some] at hv
  split at hv
  ·rename_i c t fr hb
   cases hv
   exact ⟨t, fr, hb⟩
  ·cases hv
 rw [hcs] at hh;refine ⟨?_, (fun j hj => (Nat.not_lt_zero j hj).elim), fun _ => hh⟩
 obtain ⟨t, fr, hb⟩ := hh
 rcases Nat.lt_or_ge g W.heap.size with hlt | hge
 ·exact hlt
 ·rw [Array.getElem?_eq_none hge] at hb; cases hb
end Go.Proofs.YtceacleokgoooaaGreatDoor
