/- Part of a proof that a Go function answers true for every input. No condition. -/
import Derived.Test.YtceacleokgoooaaGreatDoorB4
import Derived.Laws.Strings2
import Derived.Shelf.Slices.Cells
import Derived.Shelf.Strings.OnBuilder
import Derived.Test.YtceacleokgoooaaGreatDoorProg
import Derived.Shelf.Strconv.Itoa1
import Derived.Shelf.Strconv.Itoa2
import Derived.OpenShut
import Derived.LaidMore
import Derived.MakeChecks
import Derived.LaidSub
import Derived.Lib.ItoaMem
set_option linter.unusedVariables false
set_option linter.unusedSimpArgs false
set_option linter.unusedSectionVars false
/- The graph's resistances, plainly. No condition. -/
namespace Go.Proofs.YtceacleokgoooaaGreatDoor
attribute [local irreducible] aF

def wlk (l : LK) : WL := ⟨l.f.toNat, l.t.toNat, ((l.w : Int) : Rat)⟩
def wls (ls : List LK) : List WL := ls.map wlk
theorem tH (p : Nat -> Nat) (x : WL) (i j : Nat) : ∀ xs : List WL, lpl p (xs ++ [x]) i j = lpl p xs i j + x.w * (uu p x i * uu p x j)
 | [] => by simp only [List.nil_append, lpl]
 | y :: ys => by simp only [List.cons_append, lpl]; rw [tH p x i j ys]; grind
theorem BU {f t : Nat} {w : Int} (h : f ≠ t) (i j : Nat) : ((lapD f t w i j : Int) : Rat) = (w : Rat) * (uu id ⟨f, t, (w : Rat)⟩ i * uu id ⟨f, t, (w : Rat)⟩ j) := by
 unfold lapD uu
 simp only [id]
 repeat' split
 all_goals first
  | (exfalso; omega)
  | (try simp only [Rat.intCast_neg, Rat.intCast_zero]
     grind)
theorem BS {n : Nat} {ls : List LK} (h : ∀ l ∈ ls, LV n l) (i j : Nat) : ((lapM ls i j : Int) : Rat) = lpl id (wls ls) i j := by
 have : ∀ k, k <= ls.length -> ((lapM (ls.take k) i j : Int) : Rat) = lpl id (wls (ls.take k)) i j := by
  intro k
  induction k with
  | zero => intro _; rfl
  | succ k ih =>
   intro hk
   have lv := h ls[k] (List.getElem_mem (by omega))
   have hne : ls[k].f.toNat ≠ ls[k].t.toNat := by have := lv.f; have := lv.t; have := lv.ne; omega
   have e : wls (ls.take (k + 1)) = wls (ls.take k) ++ [wlk ls[k]] := by rw [wls, List.take_succ_eq_append_getElem (by omega), List.map_append]; rfl
   rw [mG (by omega), wJ hne, e, tH, Rat.intCast_add, ih (by omega), BU hne]
   rfl
 have h := this ls.length (Nat.le_refl _)
 rwa [List.take_length] at h
section
variable {g : GR} (gv : GV g)
include gv
theorem gLV : ∀ l ∈ g.links, LV g.nodes.length l := fun l hl => df.1 (gv.lk l hl)
theorem CC : ∀ x ∈ wls g.links, 0 < x.w := fun x hx => by
 obtain ⟨l, hl, rfl⟩ := List.mem_map.1 hx
 have := (gLV gv l hl).w
 show (0 : Rat) < ((l.w : Int) : Rat)
 have h : (0 : Int) < l.w := by omega
 exact_mod_cast h
theorem vS : ∀ x ∈ wls g.links, x.f < g.nodes.length /\ x.t < g.nodes.length := fun x hx => by
 obtain ⟨l, hl, rfl⟩ := List.mem_map.1 hx
 have h1 := (gLV gv l hl).f
 have h2 := (gLV gv l hl).t
 exact ⟨by show l.f.toNat < _; omega, by show l.t.toNat < _; omega⟩
end
theorem rp (ls : List LK) : (wls ls).map (fun x => (x.f, x.t)) = prs ls := by rw [wls, List.map_map]; rfl
def lab (g : GR) (v : Nat) : Nat := (zz g).1.getD v 0
def yW (g : GR) (v : Nat) : Nat := fd (rS g) v
section
variable {g : GR} (gv : GV g)
include gv
theorem tK (v : Nat) : lab g v = r7 (rS g) g.nodes.length v := by
 unfold lab r7; rw [zz, if_pos (g6.2 gv)]
theorem DF : ∀ p ∈ prs g.links, p.1 < g.nodes.length /\ p.2 < g.nodes.length := fun p hp => by
 rw [<- rp] at hp
 obtain ⟨x, hx, rfl⟩ := List.mem_map.1 hp
 exact vS gv x hx
theorem zS {u v : Nat} (hu : u < g.nodes.length) (hv : v < g.nodes.length) : lab g u = lab g v ↔ yW g u = yW g v := by
 rw [tK gv, tK gv]; exact BW (xB _ _).1 hu hv
theorem wL {u v : Nat} (hu : u < g.nodes.length) (hv : v < g.nodes.length) : lab g u = lab g v ↔ Cnn (prs g.links) u v := by
 rw [zS gv hu hv]
 unfold yW rS
 rw [tu];exact yu _ _ (DF gv) u v hu hv
theorem zR {x : WL} (hx : x ∈ wls g.links) : lab g x.f = lab g x.t := by
 obtain ⟨h1, h2⟩ := vS gv x hx
 rw [wL gv h1 h2, <- rp];exact .one (Or.inl (List.mem_map.2 ⟨x, hx, rfl⟩))
end
def grS (g : GR) (j v : Nat) : Bool := decide (lab g v = lab g j) && decide (v ≠ j)
def grL (g : GR) (j k : Nat) : List Nat := (List.range k).filter (grS g j)
def Dt (g : GR) (j v : Nat) : List RW := (grL g j g.nodes.length).map fun w => qzW ((lapM g.links v w : Int) : Rat)
def xq (g : GR) (j : Nat) : List (List RW) := (grL g j g.nodes.length).map (Dt g j)
def xr (g : GR) (j : Nat) : Nat := kN g.nodes.length (grS g j)
def Du (g : GR) (i j : Nat) : Nat := kN i (grS g j)
def Eu (g : GR) (i j : Nat) : List RW := dM (xr g j) fun t => if t = Du g i j then qzW 1 else qzW 0
def Et (g : GR) (i j : Nat) : Rat := if i = j then 0 else slv (cQ (xq g j)) (iL (Eu g i j)) (xr g j) (Du g i j)
structure RES (g : GR) (i j : Nat) : Prop where
 val : iJ (xq g j) = true
 ok : okM 65536 (xq g j)
 fac : Cd (cQ (xq g j)) (xr g j)
 pos : pZ (cQ (xq g j)) (xr g j) = true
 sol : yG (cQ (xq g j)) (iL (Eu g i j)) (xr g j)
 at_ : Du g i j < xr g j
 res : IsR g.nodes.length (wls g.links) i j (Et g i j)
 bnd : ql (Et g i j) <= 65536
end Go.Proofs.YtceacleokgoooaaGreatDoor

/- Least squares on a graph, plainly: one coordinate. No condition. -/
namespace Go.Proofs.YtceacleokgoooaaGreatDoor
attribute [local irreducible] aF

def qe (d : LK -> Rat) (s : Nat -> Rat) : List LK -> Rat
 | [] => 0
 | l :: ls => qe d s ls + ((l.w : Int) : Rat) * ((s l.t.toNat - s l.f.toNat - d l) * (s l.t.toNat - s l.f.toNat - d l))
def rb (d : LK -> Rat) (v : Nat) : List LK -> Rat
 | [] => 0
 | l :: ls => rb d v ls + ((l.w : Int) : Rat) * ((dl l.t.toNat v - dl l.f.toNat v) * d l)
/-! ### Connected along links -/
end Go.Proofs.YtceacleokgoooaaGreatDoor

/- The reference's normal equations. No condition. -/
namespace Go.Proofs.YtceacleokgoooaaGreatDoor
attribute [local irreducible] aF

def cfN (i : Nat) (l : LK) : Int := if l.f = (i : Int) then -l.w else if l.t = (i : Int) then l.w else 0
theorem BL (x a : Rat) (w : Int) : x + a * (w : Rat) = x + (w : Rat) * a := by rw [Rat.mul_comm]
theorem DM {g : GR} {n : Nat} (p : (Nat -> Rat) × (Nat -> Rat)) {l : LK} (lv : LV n l) (i : Nat) :
  (nrS g p l).1 i = p.1 i + ((cfN i l : Int) : Rat) * alX (frN g l) l /\ (nrS g p l).2 i = p.2 i + ((cfN i l : Int) : Rat) * alY (frN g l) l := by
 have h1 := lv.f
 have h2 := lv.t
 have h3 := lv.fn.1
 simp only [nrS, kG, cfN]
 by_cases hf : l.f = (i : Int)
 ·have hi : i = l.f.toNat := by omega
  rw [if_pos hf, if_pos hi, if_neg (by omega), if_pos hi, if_neg (by omega), hi];exact ⟨BL _ _ _, BL _ _ _⟩
 ·by_cases ht : l.t = (i : Int)
  ·have hi : i = l.t.toNat := by omega
   rw [if_neg hf, if_pos ht, if_neg (by omega), if_pos hi, if_neg (by omega), if_pos hi, hi];exact ⟨BL _ _ _, BL _ _ _⟩
  ·rw [if_neg hf, if_neg ht, if_neg (by omega), if_neg (by omega), if_neg (by omega), if_neg (by omega)]
   constructor <;> grind
end Go.Proofs.YtceacleokgoooaaGreatDoor

/- The spots with the least cost, plainly. No condition. -/
namespace Go.Proofs.YtceacleokgoooaaGreatDoor
attribute [local irreducible] aF

theorem oL (f : Nat -> Rat) : ∀ n : Nat, sm (n + 1) f = f 0 + sm n (fun i => f (i + 1))
 | 0 => by show (0 : Rat) + f 0 = f 0 + 0; grind
 | n + 1 => by rw [ca, oL f n, ca]; grind
def dX (g : GR) (l : LK) : Rat := alX (frN g l) l
def dY (g : GR) (l : LK) : Rat := alY (frN g l) l
section
variable {g : GR} (gv : GV g)
include gv
theorem Af : g.nodes.length = (g.nodes.length - 1) + 1 := by have := gv.n1; omega
end
def nmM (g : GR) : List (List RW) := nrM g.nodes.length (lapM g.links) (g.nodes.length - 1)
def nmX (g : GR) : List RW := nrX (nrL g g.links).1 (g.nodes.length - 1)
def nmY (g : GR) : List RW := nrX (nrL g g.links).2 (g.nodes.length - 1)
theorem ju (g : GR) : (nmM g).length = g.nodes.length - 1 := by simp [nmM, nrM]
theorem pb (X : Nat -> Rat) (k : Nat) : (nrX X k).length = k := by simp [nrX]
theorem zH {g : GR} {a b : Nat} (ha : a < g.nodes.length - 1) (hb : b < g.nodes.length - 1) : mtv (nmM g) a b = qzW ((lapM g.links (a + 1) (b + 1) : Int) : Rat) := by
 have e : (nmM g).getD a [] = ((List.range g.nodes.length).map fun j => qzW ((lapM g.links (a + 1) j : Int) : Rat)).drop 1 := by simp [nmM, nrM, p6, ha]
 unfold mtv
 rw [e, List.getD_eq_getElem?_getD, List.getElem?_drop, List.getElem?_map, List.getElem?_range (by omega)]
 show qzW ((lapM g.links (a + 1) (1 + b) : Int) : Rat) = _
 rw [Nat.add_comm 1 b]
theorem zF {X : Nat -> Rat} {k i : Nat} (h : i < k) : iL (nrX X k) i = X (i + 1) := by
 unfold iL nrX
 rw [List.getD_eq_getElem?_getD, List.getElem?_map, List.getElem?_range h];exact bA _
def cnB (g : GR) : Bool := decide (∀ v, v < g.nodes.length -> lab g v = lab g 0)
def slX (g : GR) (b : List RW) (v : Nat) : Rat := if v = 0 then 0 else slv (cQ (nmM g)) (iL b) (g.nodes.length - 1) (v - 1)
section
variable {g : GR} (gv : GV g)
include gv
theorem uX {a b : Nat} (ha : a < g.nodes.length - 1) (hb : b < g.nodes.length - 1) : cQ (nmM g) a b = lpl id (wls g.links) (a + 1) (b + 1) := by
 unfold cQ; rw [zH ha hb, bA, BS (gLV gv)]
theorem rU {a b : Nat} (ha : a < g.nodes.length - 1) (hb : b < g.nodes.length - 1) : cQ (nmM g) a b = cQ (nmM g) b a := by
 rw [uX gv ha hb, uX gv hb ha, tG]
theorem DO {y : Nat -> Rat} (h0 : y 0 = 0) {a : Nat} (ha : a < g.nodes.length - 1) : sm (g.nodes.length - 1) (fun j => cQ (nmM g) a j * y (j + 1)) = LU y (wls g.links) (a + 1) := by
 rw [<- yJ (n := g.nodes.length) (a + 1) (vS gv), Af gv, oL, h0];rw [aH fun j hj => by rw [uX gv ha hj]]; grind
theorem wy {y : Nat -> Rat} (h0 : y 0 = 0) : fm (g.nodes.length - 1) (cQ (nmM g)) (fun i => y (i + 1)) = EN y y (wls g.links) := by
 unfold fm
 rw [aH fun i hi => by rw [DO gv h0 hi], <- yK (n := g.nodes.length) (u := y) (v := y) (vS gv), Af gv, oL, h0];simp only [Nat.add_sub_cancel]; grind
theorem uW : pZ (cQ (nmM g)) (g.nodes.length - 1) = cnB g := by
 have hn := gv.n1
 rw [Bool.eq_iff_iff]
 constructor
 ·intro h
  have hd := of_decide_eq_true h
  refine decide_eq_true fun v hv => Classical.byContradiction fun hne => ?_
  have hv0 : v ≠ 0 := fun e => hne (by rw [e])
  have p := CP (B := cQ (nmM g)) (n := g.nodes.length - 1) (fun i j hi hj => rU gv hi hj) hd (x := fun i => (fun u => if lab g u = lab g v then (1 : Rat) else 0) (i + 1)) ⟨v - 1, by omega, by
   show (if lab g (v - 1 + 1) = lab g v then (1 : Rat) else 0) ≠ 0
   rw [show v - 1 + 1 = v by omega, if_pos rfl]; grind⟩
  rw [wy gv (y := fun u => if lab g u = lab g v then (1 : Rat) else 0) (if_neg fun e => hne e.symm)] at p
  have z : ∀ ls : List WL, (∀ x ∈ ls, lab g x.f = lab g x.t) -> EN (fun u => if lab g u = lab g v then (1 : Rat) else 0) (fun u => if lab g u = lab g v then (1 : Rat) else 0) ls = 0 := by
   intro ls
   induction ls with
   | nil => intro _; rfl
   | cons x xs ih =>
    intro h
    simp only [EN];rw [ih fun y hy => h y (List.mem_cons_of_mem _ hy), h x List.mem_cons_self]; grind
  rw [z _ fun x hx => zR gv hx] at p;exact absurd p (by decide)
 ·intro h
  have hc := of_decide_eq_true h
  refine decide_eq_true (DH (fun i j hi hj => rU gv hi hj) fun x hx => ?_)
  obtain ⟨i, hi, hx⟩ := hx
  have e : fm (g.nodes.length - 1) (cQ (nmM g)) x = EN (fun v => if v = 0 then 0 else x (v - 1)) (fun v => if v = 0 then 0 else x (v - 1)) (wls g.links) := wy gv (y := fun v => if v = 0 then 0 else x (v - 1)) rfl
  rw [e]
  have nn := xb (u := fun v => if v = 0 then 0 else x (v - 1)) (CC gv)
  refine Classical.byContradiction fun hz => hx ?_
  have f := n7 (u := fun v => if v = 0 then 0 else x (v - 1)) (CC gv) (by grind)
  have c := (wL gv (u := i + 1) (v := 0) (by omega) (by omega)).1 (hc (i + 1) (by omega))
  rw [<- rp] at c;exact AJ (y := fun v => if v = 0 then 0 else x (v - 1)) f c
end
def mnX (g : GR) : Nat -> Rat := slX g (nmX g)
def mnY (g : GR) : Nat -> Rat := slX g (nmY g)
def mnL (g : GR) : List SP := (List.range g.nodes.length).map fun v => szW (mnX g v) (mnY g v)
def u5 (g : GR) : List SP × Int := if bG g = true then (if cnB g = true then (mnL g, 0) else ([], 10)) else ([], 1)
section
variable {g : GR} (gv : GV g)
include gv
end
/-! ### Words -/
structure SM (g : GR) : Prop where
 n6 : g.nodes.length <= 6
 l16 : g.links.length <= 16
 ok : ∀ r ∈ g.nodes, r.OK 2
theorem BM {g : GR} (gv : GV g) (ok : ∀ r ∈ g.nodes, r.OK 2) (k : Nat) (hk : k <= g.links.length) (i : Nat) : ql ((nrL g (g.links.take k)).1 i) <= 1 + k * 18 /\ ql ((nrL g (g.links.take k)).2 i) <= 1 + k * 18 := by
 induction k generalizing i with
 | zero => exact ⟨jp, jp⟩
 | succ k ih =>
  have ih := ih (by omega)
  have hm : g.links[k] ∈ g.links := List.getElem_mem (by omega)
  have lv := gLV gv _ hm
  have o := pU (ok _ (lX lv)) rfl lv.ix lv.iy (m := 15) rfl
  have o1 := o.qx rfl
  have o2 := o.qy rfl
  rw [alS, d9] at o1;rw [alS, d8] at o2
  have lw := lv.w
  have w1 : ql ((cfN i g.links[k] : Int) : Rat) <= 2 := dQ (by unfold cfN; (repeat' split) <;> exact ⟨by omega, by omega⟩)
  rw [pc g (by omega)]
  obtain ⟨a1, a2⟩ := DM (g := g) (nrL g (g.links.take k)) lv i
  rw [a1, a2];exact ⟨Nat.le_trans (bC (ih i).1 (aO w1 o1)) (by omega), Nat.le_trans (bC (ih i).2 (aO w1 o2)) (by omega)⟩
theorem tc {f : Nat -> Rat} {M : Nat} : ∀ {k : Nat}, (∀ t, t < k -> ql (f t) <= M) -> ql (sm k f) <= 1 + k * (M + 1)
 | 0, _ => by show ql (0 : Rat) <= _; exact Nat.le_trans jp (by omega)
 | k + 1, h => by
  have ih := tc (k := k) fun t ht => h t (by omega)
  rw [ca];exact Nat.le_trans (bC ih (h k (by omega))) (by rw [Nat.succ_mul]; omega)
theorem Bj {B : Nat -> Nat -> Rat} {n m J c : Nat} (hs : ∀ i j, i < n -> j < n -> B i j = B j i) (hB : ∀ i j, i < n -> j < n -> IB m (B i j)) {b : Nat -> Rat} (hb : ∀ i, i < n -> ql (b i) <= c) (hn : n <= 16) (hJ : n * (m + 4) < 32 * J) (hd : ∀ k, k < n -> 0 < DD B k) {i : Nat} (hi : i < n) : ql (slv B b n i) <= 1 + n * (J + c + 1) := by
 have hd' : ∀ k, k < n -> DD B k ≠ 0 := fun k hk => by have := hd k hk; grind
 have e : sm n (fun j => slv B (fun r => if r = j then 1 else 0) n i * b j) = slv B b n i := by
  refine yL (x := fun i => sm n (fun j => slv B (fun r => if r = j then 1 else 0) n i * b j)) hs hd (fun r hr => ?_) hi;rw [aH (g := fun k => sm n (fun j => B r k * slv B (fun r => if r = j then 1 else 0) n k * b j)) (fun k _ => by rw [<- jm]; exact aH fun j _ => by grind), lC]
  rw [aH (g := fun j => (if r = j then 1 else 0) * b j) (fun j hj => by
   have := uE (B := B) (n := n) (b := fun r => if r = j then 1 else 0) hs hd' hr
   rw [<- this, <- oK])]
  rw [eE (j := r) _ hr fun j _ hne => by rw [if_neg (fun e => hne e.symm)]; grind, if_pos rfl]; grind
 rw [<- e];refine tc fun j hj => aO (Dj (m := m) (J := J) hs hB (fun a _ => ?_) hn hJ hd' hi) (hb j hj)
 show IB m (if a = j then 1 else 0)
 split
 ·exact vN.mono (Nat.zero_le _)
 ·exact CB m
structure NRM (g : GR) : Prop where
 len : (nmM g).length = g.nodes.length - 1
 rows : ∀ r ∈ nmM g, r.length = g.nodes.length - 1
 val : iJ (nmM g) = true
 ok : okM 65536 (nmM g)
 fac : Cd (cQ (nmM g)) (g.nodes.length - 1)
 sol : pZ (cQ (nmM g)) (g.nodes.length - 1) = true -> yG (cQ (nmM g)) (iL (nmX g)) (g.nodes.length - 1) /\ yG (cQ (nmM g)) (iL (nmY g)) (g.nodes.length - 1)
 bx : ∀ x ∈ nmX g, x.OK 305
 bY : ∀ x ∈ nmY g, x.OK 305
 qx : cnB g = true -> ∀ v, v < g.nodes.length -> ql (mnX g v) <= 1600 /\ ql (mnY g v) <= 1600
theorem wx {g : GR} (gv : GV g) (sm' : SM g) : NRM g := by
 have n6 := sm'.n6
 have n1 := gv.n1
 have hM : ∀ a b, -50331648 <= lapM g.links a b /\ lapM g.links a b <= 50331648 := fun a b => by
  have h1 := wK g.links (gLV gv) a b
  have h2 := gv.l
  omega
 have hIB : ∀ a b, a < g.nodes.length - 1 -> b < g.nodes.length - 1 -> IB 26 (cQ (nmM g) a b) := fun a b ha hb => by
  unfold cQ; rw [zH ha hb, bA]
  have := hM (a + 1) (b + 1)
  exact ⟨_, rfl, by
   have e : (2 : Nat) ^ 26 = 67108864 := by decide
   rw [e]; omega⟩
 have hs : ∀ a b, a < g.nodes.length - 1 -> b < g.nodes.length - 1 -> cQ (nmM g) a b = cQ (nmM g) b a := fun a b ha hb => rU gv ha hb
 have hJ : (g.nodes.length - 1) * (26 + 4) < 32 * 5 := by omega
 have hn16 : g.nodes.length - 1 <= 16 := by omega
 have qr : ∀ v, ql ((nrL g g.links).1 v) <= 305 /\ ql ((nrL g g.links).2 v) <= 305 := fun v => by
  have h := BM gv sm'.ok g.links.length (Nat.le_refl _) v
  rw [List.take_length] at h
  have := sm'.l16
  exact ⟨by omega, by omega⟩
 have qbx : ∀ i, i < g.nodes.length - 1 -> ql (iL (nmX g) i) <= 305 := fun i hi => by rw [nmX, zF hi]; exact (qr _).1
 have qby : ∀ i, i < g.nodes.length - 1 -> ql (iL (nmY g) i) <= 305 := fun i hi => by rw [nmY, zF hi]; exact (qr _).2
 have hrows : ∀ r ∈ nmM g, r.length = g.nodes.length - 1 := fun r hr => by
  obtain ⟨a, _, rfl⟩ := List.mem_map.1 hr
  simp [p6]
 have sol : ∀ b : Nat -> Rat, (∀ i, i < g.nodes.length - 1 -> ql (b i) <= 305) -> pZ (cQ (nmM g)) (g.nodes.length - 1) = true -> yG (cQ (nmM g)) b (g.nodes.length - 1) /\ ∀ i, i < g.nodes.length - 1 -> ql (slv (cQ (nmM g)) b (g.nodes.length - 1) i) <= 1600 := fun b hb hp => by
  have hd := of_decide_eq_true hp
  have hd' : ∀ k, k < g.nodes.length - 1 -> DD (cQ (nmM g)) k ≠ 0 := fun k hk => by have := hd k hk; grind
  have qL : ∀ a b, a < g.nodes.length - 1 -> b < a -> ql (LL (cQ (nmM g)) a b) <= 5 := fun a b ha hb => C1 hs hIB hn16 hJ ha hb fun k' hk' => hd' k' (by omega)
  have q2 : ∀ i, i < g.nodes.length - 1 -> ql (slv (cQ (nmM g)) b (g.nodes.length - 1) i) <= 1600 := fun i hi => by
   have := Bj hs hIB hb hn16 hJ hd hi
   have h5 : (g.nodes.length - 1) * (5 + 305 + 1) <= 5 * (5 + 305 + 1) := Nat.mul_le_mul_right _ (by omega)
   omega
  refine ⟨⟨fun a ha => ?_, fun a ha => Nat.le_trans (q2 a ha) (by decide)⟩, q2⟩
  have h1 := DZ qL hb a ha
  have h2 : 2 ^ a <= 2 ^ 5 := Nat.pow_le_pow_right (by decide) (by omega)
  have h3 : (305 + 5 + 1) * 2 ^ a <= 311 * 2 ^ 5 := Nat.mul_le_mul_left _ h2
  have h4 : 311 * 2 ^ 5 = 9952 := by decide
  omega
 refine ⟨ju g, hrows, ?_, ?_, ?_, fun hp => ⟨(sol _ qbx hp).1, (sol _ qby hp).1⟩, ?_, ?_, ?_⟩
 ·refine decide_eq_true ⟨by rw [ju]; omega, fun r hr => by rw [ju]; exact hrows r hr, fun a ha b hb => ?_⟩;rw [ju] at ha;exact hs a b ha (by omega)
 ·intro r hr x hx
  obtain ⟨a, _, rfl⟩ := List.mem_map.1 hr
  obtain ⟨w, _, rfl⟩ := List.mem_map.1 (List.mem_of_mem_drop hx)
  have := hM (a + 1) w
  exact (bi (dQ ⟨by omega, by omega⟩)).mono rfl
 ·intro a ha hd
  have hd' : ∀ k, k < a -> DD (cQ (nmM g)) k ≠ 0 := fun k hk => by have := hd k hk; grind
  exact ⟨Nat.le_trans (E7 hs hIB hn16 hJ ha hd') (by decide), fun b hb => Nat.le_trans (C1 hs hIB hn16 hJ ha hb fun k' hk' => hd' k' (by omega)) (by decide)⟩
 ·intro x hx
  obtain ⟨a, _, rfl⟩ := List.mem_map.1 hx
  exact bi (qr _).1
 ·intro x hx
  obtain ⟨a, _, rfl⟩ := List.mem_map.1 hx
  exact bi (qr _).2
 ·intro hc v hv
  rw [<- uW gv] at hc
  unfold mnX mnY slX
  by_cases e : v = 0
  ·rw [if_pos e, if_pos e]; exact ⟨by decide, by decide⟩
  ·rw [if_neg e, if_neg e];exact ⟨(sol _ qbx hc).2 _ (by omega), (sol _ qby hc).2 _ (by omega)⟩
end Go.Proofs.YtceacleokgoooaaGreatDoor

/- Costs and gradients by coordinates. No condition. -/
namespace Go.Proofs.YtceacleokgoooaaGreatDoor
attribute [local irreducible] aF

def xs (s : List SP) (v : Nat) : Rat := (s.getD v sp0).vx
def ys (s : List SP) (v : Nat) : Rat := (s.getD v sp0).vy
theorem Es {g : GR} {s : List SP} {l : LK} : (rsG g s l).vx = xs s l.t.toNat - xs s l.f.toNat - dX g l /\ (rsG g s l).vy = ys s l.t.toNat - ys s l.f.toNat - dY g l := by
 unfold rsG rsS
 rw [d9, d8];refine ⟨?_, ?_⟩
 ·show (atS s l.t).vx - ((atS s l.f).vx + dX g l) = (atS s l.t).vx - (atS s l.f).vx - dX g l; grind
 ·show (atS s l.t).vy - ((atS s l.f).vy + dY g l) = (atS s l.t).vy - (atS s l.f).vy - dY g l; grind
theorem wZ (g : GR) (s : List SP) : ∀ (ls : List LK) (a : Rat), ls.foldl (fun a l => a + csT g s l) a = a + (qe (dX g) (xs s) ls + qe (dY g) (ys s) ls)
 | [], a => by simp only [List.foldl_nil, qe]; grind
 | l :: ls, a => by
  rw [List.foldl_cons, wZ g s ls];simp only [qe, csT];rw [Es.1, Es.2]; grind
theorem EQ (g : GR) (s : List SP) : csR g s g.links = qe (dX g) (xs s) g.links + qe (dY g) (ys s) g.links := by
 unfold csR; rw [wZ]; grind
theorem o6 {d : LK -> Rat} {s m : Nat -> Rat} : ∀ {ls : List LK}, (∀ l ∈ ls, s l.f.toNat = m l.f.toNat /\ s l.t.toNat = m l.t.toNat) -> qe d s ls = qe d m ls
 | [], _ => rfl
 | l :: ls, h => by
  have ih := o6 (d := d) (s := s) (m := m) (ls := ls) fun l hl => h l (List.mem_cons_of_mem _ hl)
  obtain ⟨h1, h2⟩ := h l List.mem_cons_self
  simp only [qe]; rw [ih, h1, h2]
theorem Ez {g : GR} {v : Nat} (h : v < g.nodes.length) : (mnL g).getD v sp0 = szW (mnX g v) (mnY g v) := by
 unfold mnL; rw [List.getD_eq_getElem?_getD, List.getElem?_map, List.getElem?_range h]; rfl
theorem wE {g : GR} {v : Nat} (h : v < g.nodes.length) : xs (mnL g) v = mnX g v /\ ys (mnL g) v = mnY g v := by
 unfold xs ys; rw [Ez h, d9, d8]; exact ⟨rfl, rfl⟩
theorem uZ (g : GR) : (mnL g).length = g.nodes.length := by simp [mnL]
theorem wI {g : GR} (gv : GV g) : ∀ l ∈ g.links, l.f.toNat < g.nodes.length /\ l.t.toNat < g.nodes.length := fun l hl => by
 have lv := gLV gv l hl
 have h1 := lv.f
 have h2 := lv.t
 omega
def lsQ (g : GR) : Rat := qe (dX g) (mnX g) g.links + qe (dY g) (mnY g) g.links
theorem ES {g : GR} (gv : GV g) : csR g (mnL g) g.links = lsQ g := by
 rw [EQ]; unfold lsQ;rw [o6 fun l hl => ⟨(wE (wI gv l hl).1).1, (wE (wI gv l hl).2).1⟩, o6 fun l hl => ⟨(wE (wI gv l hl).1).2, (wE (wI gv l hl).2).2⟩]
def zO (g : GR) : RW × Int := if bG g = true then (if cnB g = true then (qzW (lsQ g), 0) else (er, 10)) else (er, 1)
/-! ### Words of costs -/
theorem Ey {g : GR} (gv : GV g) (sm' : SM g) (hc : cnB g = true) : ∀ p ∈ mnL g, p.OK 1600 := fun p hp => by
 obtain ⟨v, hv, rfl⟩ := List.mem_map.1 hp
 have := (wx gv sm').qx hc v (List.mem_range.1 hv)
 exact g9 this.1 this.2
end Go.Proofs.YtceacleokgoooaaGreatDoor

/- Graphs with the same costs have the same minimum. No condition. -/
namespace Go.Proofs.YtceacleokgoooaaGreatDoor
attribute [local irreducible] aF

theorem BN (g : GR) : mnX g 0 = 0 /\ mnY g 0 = 0 := by
 unfold mnX mnY slX; exact ⟨if_pos rfl, if_pos rfl⟩
/-! ### A link parted -/
end Go.Proofs.YtceacleokgoooaaGreatDoor

/- adjust: Minimum, Least, Gradient, Worst. No condition. -/
namespace Go.Proofs.YtceacleokgoooaaGreatDoor
attribute [local irreducible] aF
open Go.RowKit

set_option maxHeartbeats 1000000 in
theorem Ag (g : GR) (ok : ∀ r ∈ g.nodes, r.OK 4096) (hs : bG g = true -> SM g) : Con Tryz.prog 9 [AG g.cs] { v := .tup [.one (.d (dSs (u5 g).1)), .one (.d (lI (u5 g).2))] } := by
 have cN := xR g ok
 have cz := jq 0 ⟨by decide, by decide⟩
 refine Z3 Tryz.func9 ?_
 intro w0 X
 rw [aq _ _ [(0, AG g.cs)] rfl rfl];refine gQ fun _ O=>?_;refine aG rfl rfl rfl rfl rfl rfl ?_;refine Z8 ?_;refine Z8 ?_;refine eQ O ?_;clear O
 by_cases hv : bG g = true
 ·have gv := g6.1 hv
  have S := hs hv
  have NR := wx gv S
  have n6 := S.n6
  have n1 := gv.n1
  have eN : nrV g = (nmM g, nmX g, nmY g, 0) := by rw [nrV, if_pos hv]; rfl
  rw [eN] at cN
  have hlX : (nmX g).length = (nmM g).length := by rw [NR.len]; exact pb _ _
  have hlY : (nmY g).length = (nmM g).length := by rw [NR.len]; exact pb _ _
  have cX := sT (nmM g) (nmX g) (by rw [NR.len]; omega) (by rw [hlX, NR.len]; omega) (fun r hr => by rw [NR.rows r hr]; omega) NR.ok (fun x hx => (NR.bx x hx).mono rfl) (fun _ _ => by rw [NR.len]; exact ⟨NR.fac, fun hp => (NR.sol hp).1⟩)
  have cY := sT (nmM g) (nmY g) (by rw [NR.len]; omega) (by rw [hlY, NR.len]; omega) (fun r hr => by rw [NR.rows r hr]; omega) NR.ok (fun x hx => (NR.bY x hx).mono rfl) (fun _ _ => by rw [NR.len]; exact ⟨NR.fac, fun hp => (NR.sol hp).2⟩)
  have eX : jl (nmM g) (nmX g) = if cnB g = true then (mq (cQ (nmM g)) (iL (nmX g)) (g.nodes.length - 1), 0) else ([], 10) := by
   rw [jl, if_pos ⟨NR.val, hlX⟩, NR.len, uW gv]
  have eY : jl (nmM g) (nmY g) = if cnB g = true then (mq (cQ (nmM g)) (iL (nmY g)) (g.nodes.length - 1), 0) else ([], 10) := by
   rw [jl, if_pos ⟨NR.val, hlY⟩, NR.len, uW gv]
  rw [eX] at cX;rw [eY] at cY;rw [u5, if_pos hv]
  by_cases hc : cnB g = true
  ·rw [if_pos hc] at cX cY;rw [if_pos hc]
   have aX : ∀ i, i < g.nodes.length - 1 -> (mq (cQ (nmM g)) (iL (nmX g)) (g.nodes.length - 1))[i]? = some (qzW (mnX g (i + 1))) := fun i hi => by
    unfold mq dM; rw [List.getElem?_map, List.getElem?_range hi]; rfl
   have aY : ∀ i, i < g.nodes.length - 1 -> (mq (cQ (nmM g)) (iL (nmY g)) (g.nodes.length - 1))[i]? = some (qzW (mnY g (i + 1))) := fun i hi => by
    unfold mq dM; rw [List.getElem?_map, List.getElem?_range hi]; rfl
   have bX : (mq (cQ (nmM g)) (iL (nmX g)) (g.nodes.length - 1)).length = g.nodes.length - 1 := jN _ _
   have bY : (mq (cQ (nmM g)) (iL (nmY g)) (g.nodes.length - 1)).length = g.nodes.length - 1 := jN _ _
   have e0 := BN g
   have en : mnL g = (List.range (g.nodes.length - 1 + 1)).map fun v => szW (mnX g v) (mnY g v) := by
    unfold mnL; rw [<- Af gv]
   have hm : g.nodes.length - 1 <= 5 := by omega
   rw [en];generalize mq (cQ (nmM g)) (iL (nmX g)) (g.nodes.length - 1) = LX at cX aX bX;generalize mq (cQ (nmM g)) (iL (nmY g)) (g.nodes.length - 1) = LY at cY aY bY;generalize nmM g = M at cN cX cY;generalize nmX g = BX at cN cX;generalize nmY g = BY at cN cY;generalize mnX g = x at aX e0 ⊢;generalize mnY g = y at aY e0 ⊢;generalize g.nodes.length - 1 = m at aX aY bX bY hm ⊢;refine gQ fun _ O=>?_;refine Z7 ?_;refine ac rfl rfl (cN) rfl rfl rfl rfl ?_;refine Z9 ?_;refine au rfl rfl rfl ?_;refine au rfl rfl rfl ?_;refine au rfl rfl rfl ?_;refine au rfl rfl rfl ?_;refine Z8 ?_;refine Z8 ?_;refine Z8 ?_;refine Z8 ?_;refine eQ O ?_;clear O;refine ag ?_;refine gQ fun _ O=>?_;refine Z9 ?_;refine Z6 ?_;refine eQ O ?_;clear O;refine ap rfl (fun h => by cases h) (fun _ => ?_);refine ak ?_;show AWP _ _ _ _ _ _;refine gQ fun _ O=>?_;refine Z9 ?_;refine Z9 ?_;refine ac rfl rfl (cX) rfl rfl rfl rfl ?_;refine Z9 ?_;refine au rfl rfl rfl ?_;refine au rfl rfl rfl ?_;refine Z8 ?_;refine Z8 ?_;refine eQ O ?_;clear O;refine ag ?_;refine gQ fun _ O=>?_;refine Z9 ?_;refine Z6 ?_;refine eQ O ?_;clear O;refine ap rfl (fun h => by cases h) (fun _ => ?_);refine ak ?_;show AWP _ _ _ _ _ _;refine gQ fun _ O=>?_;refine Z9 ?_;refine Z9 ?_;refine ac rfl rfl (cY) rfl rfl rfl rfl ?_;refine Z9 ?_;refine au rfl rfl rfl ?_;refine au rfl rfl rfl ?_;refine Z8 ?_;refine Z8 ?_;refine eQ O ?_;clear O;refine gQ fun _ O=>?_;refine ac rfl rfl (cz) rfl rfl rfl rfl ?_;refine ac rfl rfl (cz) rfl rfl rfl rfl ?_;refine aI rfl rfl rfl ?_;refine ax rfl rfl rfl rfl ?_;refine Z8 ?_;refine eQ O ?_;clear O;refine ag ?_;refine gQ fun _ O=>?_;refine Z9 ?_;refine az rfl (bD RW.dc rfl rfl) rfl ?_;refine Z9 ?_;refine eQ O ?_;clear O;refine al (aS (α := Nat) (fun i => mk 60 [(8, V1 (dRs LX)), (9, V1 (dRs LY)), (11, .val (.one (.own 40 8 0 (i + 1)))), (41, V1 (dRs LX)), (42, dI LX.length), (43, dI i)] [(40, some (.arr 8 ((List.range (i + 1)).map fun v => (szW (x v) (y v)).dc)))] []) (fun i => i <= m) (fun i => m - i) 0 ?_ (Nat.zero_le _) ?_)
   ·refine Wk.mk' ⟨rfl, rfl, rfl, rfl, rfl, rfl, trivial⟩ ⟨?_, trivial⟩
    show _ = some (OO.arr 8 [(szW (x 0) (y 0)).dc])
    rw [e0.1, e0.2]; rfl
   intro i hi
   refine gQ fun _ O=>?_;refine Z6 ?_;refine eQ O ?_;clear O;refine ag ?_;refine ap rfl (fun hg => ?_) (fun hg => ?_)
   ·have hg : i < m := by simp at hg; omega
    have g1 : i < LX.length := by omega
    have g2 : i < LY.length := by omega
    have a1 : LX[i] = qzW (x (i + 1)) := by have := aX i hg; rw [List.getElem?_eq_getElem g1] at this; exact Option.some.inj this
    have a2 : LY[i] = qzW (y (i + 1)) := by have := aY i hg; rw [List.getElem?_eq_getElem g2] at this; exact Option.some.inj this
    have n1 : ((List.range (i + 1)).map fun v => (szW (x v) (y v)).dc) ++ [(SP.mk LX[i] LY[i]).dc] = (List.range (i + 1 + 1)).map fun v => (szW (x v) (y v)).dc := by
     rw [a1, a2, List.range_succ (n := i + 1), List.map_append]; rfl
    have z1 : ((List.range (i + 1)).map fun v => (szW (x v) (y v)).dc).length = i + 1 := by simp
    generalize ((List.range (i + 1)).map fun v => (szW (x v) (y v)).dc) = es at n1 z1 ⊢;refine ak ?_;show AWP _ _ _ _ _ _;refine ag ?_;refine al ?_;refine gQ fun _ O=>?_;refine Z9 ?_;refine Z8 ?_;refine eQ O ?_;clear O;refine br tok mixed (A := [[], [], [], [], [1, 2], [], [], [], [5, 6], [1, 2, 3, 5, 6, 7], [1, 2, 3, 4, 5, 6, 7, 8], [1, 2, 3, 4, 5, 6, 7, 8, 9], []]) (an := [{}, {}, {}, {}, {}, {}, {}, {}, {}, {}, {}, {}, {}]) rfl (by kernel_rfl) rfl fun _ O=>?_;refine Z9 ?_;refine Z9 ?_;refine Z9 ?_;refine ae rfl (x_m RW.dc rfl rfl rfl rfl g1 rfl) rfl ?_;refine Z7 ?_;refine Z9 ?_;refine Z9 ?_;refine ae rfl (x_m RW.dc rfl rfl rfl rfl g2 rfl) rfl ?_;refine Z7 ?_;refine aI rfl rfl rfl ?_;refine ax rfl rfl rfl rfl ?_;refine aN rfl (et rfl rfl rfl rfl rfl rfl (by decide) (Nat.le_of_ble_eq_true rfl) rfl (by simp) rfl rfl z1.symm (by simp <;> omega)) rfl rfl rfl ?_;refine Z8 ?_;refine eQ O ?_;clear O;show AWP _ _ _ _ _ _;refine gR fun _ O=>?_;refine av rfl (aP (c := ((i + 1 : Nat) : Int)) (by omega) (by omega)) rfl ?_;refine Z9 ?_;refine eQ O ?_;clear O;refine ⟨i + 1, by omega, hg, Wk.rn [8, 9, 11, 41, 42, 43] [57] 57 40 rfl rfl rfl ⟨rfl, rfl, ?_, rfl, rfl, rfl, trivial⟩ ⟨?_, trivial⟩⟩
    ·show SV.val (.one (.own 40 8 0 _)) = _
     rw [List.length_append, z1]; rfl
    ·rw [<- n1]; rfl
   have hg : i = m := by simp at hg; omega
   subst hg
   refine aD ?_;show AWP _ _ _ _ _ _;refine dK [11] [40] 40 [(11, V1 (dSs ((List.range (i + 1)).map fun v => szW (x v) (y v))))] [] rfl ?_ trivial ?_
   ·exact ⟨cT (by rw [List.map_map]; rfl) (by simp), trivial⟩
   refine gQ fun _ O=>?_;refine Z9 ?_;refine Z8 ?_;refine Z8 ?_;refine eQ O ?_;clear O;exact ah aT
  ·rw [if_neg hc] at cX;rw [if_neg hc];refine gQ fun _ O=>?_;refine Z7 ?_;refine ac rfl rfl (cN) rfl rfl rfl rfl ?_;refine Z9 ?_;refine au rfl rfl rfl ?_;refine au rfl rfl rfl ?_;refine au rfl rfl rfl ?_;refine au rfl rfl rfl ?_;refine Z8 ?_;refine Z8 ?_;refine Z8 ?_;refine Z8 ?_;refine eQ O ?_;clear O;refine ag ?_;refine gQ fun _ O=>?_;refine Z9 ?_;refine Z6 ?_;refine eQ O ?_;clear O;refine ap rfl (fun h => by cases h) (fun _ => ?_);refine ak ?_;show AWP _ _ _ _ _ _;refine gQ fun _ O=>?_;refine Z9 ?_;refine Z9 ?_;refine ac rfl rfl (cX) rfl rfl rfl rfl ?_;refine Z9 ?_;refine au rfl rfl rfl ?_;refine au rfl rfl rfl ?_;refine Z8 ?_;refine Z8 ?_;refine eQ O ?_;clear O;refine ag ?_;refine gQ fun _ O=>?_;refine Z9 ?_;refine Z6 ?_;refine eQ O ?_;clear O;refine ap rfl (fun _ => ?_) (fun h => by cases h);refine gQ fun _ O=>?_;refine Z8 ?_;refine Z8 ?_;refine eQ O ?_;clear O;exact ah aT
 ·have eN : nrV g = ([], [], [], 1) := by rw [nrV, if_neg hv]
  rw [eN] at cN;rw [u5, if_neg hv];refine gQ fun _ O=>?_;refine Z7 ?_;refine ac rfl rfl (cN) rfl rfl rfl rfl ?_;refine Z9 ?_;refine au rfl rfl rfl ?_;refine au rfl rfl rfl ?_;refine au rfl rfl rfl ?_;refine au rfl rfl rfl ?_;refine Z8 ?_;refine Z8 ?_;refine Z8 ?_;refine Z8 ?_;refine eQ O ?_;clear O;refine ag ?_;refine gQ fun _ O=>?_;refine Z9 ?_;refine Z6 ?_;refine eQ O ?_;clear O;refine ap rfl (fun _ => ?_) (fun h => by cases h);refine gQ fun _ O=>?_;refine Z9 ?_;refine Z8 ?_;refine Z8 ?_;refine eQ O ?_;clear O;exact ah aT

theorem DY (g : GR) (ok : ∀ r ∈ g.nodes, r.OK 4096) (hs : bG g = true -> SM g) : Con Tryz.prog 42 [AG g.cs] { v := .tup [.agg (zO g).1.cs, .one (.d (lI (zO g).2))] } := by
 have cM := Ag g ok hs
 refine Z3 Tryz.func42 ?_
 intro w0 X
 rw [aq _ _ [(0, AG g.cs)] rfl rfl];refine gQ fun _ O=>?_;refine aG rfl rfl rfl rfl rfl rfl ?_;refine aw rfl rfl rfl rfl rfl rfl ?_;refine Z8 ?_;refine eQ O ?_;clear O
 by_cases hv : bG g = true
 ·have gv := g6.1 hv
  rw [u5, if_pos hv] at cM;rw [zO, if_pos hv]
  by_cases hc : cnB g = true
  ·rw [if_pos hc] at cM;rw [if_pos hc]
   have cC := Cc g (mnL g) ok (fun p hp => (Ey gv (hs hv) hc p hp).mono rfl)
   have e : nB g (mnL g) = (qzW (lsQ g), 0) := by
    rw [nB, if_pos (ku.2 ⟨gv, uZ g⟩), ES gv]
   rw [e] at cC;generalize mnL g = s at cM cC;refine gQ fun _ O=>?_;refine Z7 ?_;refine ac rfl rfl (cM) rfl rfl rfl rfl ?_;refine Z9 ?_;refine au rfl rfl rfl ?_;refine au rfl rfl rfl ?_;refine Z8 ?_;refine Z8 ?_;refine eQ O ?_;clear O;refine ag ?_;refine gQ fun _ O=>?_;refine Z9 ?_;refine Z6 ?_;refine eQ O ?_;clear O;refine ap rfl (fun h => by cases h) (fun _ => ?_);refine ak ?_;show AWP _ _ _ _ _ _;refine gQ fun _ O=>?_;refine Z7 ?_;refine Z9 ?_;refine ac rfl rfl (cC) rfl rfl rfl rfl ?_;refine au rfl rfl rfl ?_;refine au rfl rfl rfl ?_;refine aj rfl rfl rfl rfl rfl ?_;refine Z8 ?_;refine eQ O ?_;clear O;exact ah aT
  ·rw [if_neg hc] at cM;rw [if_neg hc];refine gQ fun _ O=>?_;refine Z7 ?_;refine ac rfl rfl (cM) rfl rfl rfl rfl ?_;refine Z9 ?_;refine au rfl rfl rfl ?_;refine au rfl rfl rfl ?_;refine Z8 ?_;refine Z8 ?_;refine eQ O ?_;clear O;refine ag ?_;refine gQ fun _ O=>?_;refine Z9 ?_;refine Z6 ?_;refine eQ O ?_;clear O;refine ap rfl (fun _ => ?_) (fun h => by cases h);refine gQ fun _ O=>?_;refine aI rfl rfl rfl ?_;refine Z9 ?_;refine aj rfl rfl rfl rfl rfl ?_;refine Z8 ?_;refine eQ O ?_;clear O;exact ah aT
 ·rw [u5, if_neg hv] at cM;rw [zO, if_neg hv];refine gQ fun _ O=>?_;refine Z7 ?_;refine ac rfl rfl (cM) rfl rfl rfl rfl ?_;refine Z9 ?_;refine au rfl rfl rfl ?_;refine au rfl rfl rfl ?_;refine Z8 ?_;refine Z8 ?_;refine eQ O ?_;clear O;refine ag ?_;refine gQ fun _ O=>?_;refine Z9 ?_;refine Z6 ?_;refine eQ O ?_;clear O;refine ap rfl (fun _ => ?_) (fun h => by cases h);refine gQ fun _ O=>?_;refine aI rfl rfl rfl ?_;refine Z9 ?_;refine aj rfl rfl rfl rfl rfl ?_;refine Z8 ?_;refine eQ O ?_;clear O;exact ah aT

theorem CX {T : Tab} {t : TypeId} (a b : Nat) : aR T .eql t (dI a) (dI b) = .set (dB (decide (a = b))) := by
 show bf (.bool ((a : Int) == (b : Int))) = _
 have : ((a : Int) == (b : Int)) = decide (a = b) := by rw [Bool.eq_iff_iff]; simp only [beq_iff_eq, decide_eq_true_eq]; omega
 rw [this]; rfl

theorem AV (g : GR) (s : List SP) : Con Tryz.prog 90 [AG g.cs, V1 (dSs s)] { v := dB (jd g s) } := by
 have cV := ii g
 have e : jd g s = (bG g && decide (s.length = g.nodes.length)) := rfl
 rw [e];generalize bG g = b at cV;refine Z3 Tryz.func90 ?_
 intro w0 X
 rw [aq _ _ [(0, AG g.cs), (1, V1 (dSs s))] rfl rfl];refine gQ fun _ O=>?_;refine aG rfl rfl rfl rfl rfl rfl ?_;refine Z8 ?_;refine eQ O ?_;clear O
 cases b with
 | true =>
  refine gQ fun _ O=>?_;refine Z7 ?_;refine ac rfl rfl (cV) rfl rfl rfl rfl ?_;refine Z9 ?_;refine Z9 ?_;refine az rfl (bD SP.dc rfl rfl) rfl ?_;refine Z5 ?_;refine Z7 ?_;refine az rfl (bD RW.dc rfl rfl) rfl ?_;refine av rfl (CX _ _) rfl ?_;refine Z4 ?_;refine Z8 ?_;refine eQ O ?_;clear O;exact ah aT
 | false =>
  refine gQ fun _ O=>?_;refine Z7 ?_;refine ac rfl rfl (cV) rfl rfl rfl rfl ?_;refine Z9 ?_;refine aA rfl ?_;refine aA rfl ?_;refine aA rfl ?_;refine aA rfl ?_;refine aA rfl ?_;refine aA rfl ?_;refine Z4 ?_;refine Z8 ?_;refine eQ O ?_;clear O;exact ah aT

end Go.Proofs.YtceacleokgoooaaGreatDoor

/- adjust: Worst, New, Graph; the law's small functions. No condition. -/
namespace Go.Proofs.YtceacleokgoooaaGreatDoor
attribute [local irreducible] aF
open Go.RowKit

theorem CW {T : Tab} {t : TypeId} (a b : Nat) : aR T .gtr t (dI a) (dI b) = .set (dB (decide (b < a))) := by
 show bf (.bool (decide ((a : Int) > (b : Int)))) = _
 have : (decide ((a : Int) > (b : Int))) = decide (b < a) := by
  rw [Bool.eq_iff_iff, decide_eq_true_eq, decide_eq_true_eq]; omega
 rw [this]; rfl
theorem Ax {T : Tab} {t : TypeId} (a b : Nat) : aR T .leq t (dI a) (dI b) = .set (dB (decide (a <= b))) := by
 show bf (.bool (decide ((a : Int) <= (b : Int)))) = _
 have : (decide ((a : Int) <= (b : Int))) = decide (a <= b) := by
  rw [Bool.eq_iff_iff, decide_eq_true_eq, decide_eq_true_eq]; omega
 rw [this]; rfl
theorem EM {T : Tab} {t : TypeId} {a b : Int} {c : Bool} (h : decide (a > b) = c) : aR T .gtr t (dI a) (dI b) = .set (dB c) := by subst h; rfl
theorem mc {T : Tab} {t : TypeId} {a b : Int} {c : Bool} (h : decide (a < b) = c) : aR T .lss t (dI a) (dI b) = .set (dB c) := by subst h; rfl
theorem jI {T : Tab} {t : TypeId} {a b : Int} {c : Bool} (h : (a != b) = c) : aR T .neq t (dI a) (dI b) = .set (dB c) := by subst h; rfl
theorem pJ {T : Tab} {t : TypeId} {a b : Int} {c : Bool} (h : (a == b) = c) : aR T .eql t (dI a) (dI b) = .set (dB c) := by subst h; rfl

/-! ### Small inputs -/
def w1 (r : RW) : Bool := decide (r.wp.length <= 1 /\ r.wq.length <= 1)
/-! ### New and Graph -/
def Fc : Tab := { tab with dat := fun t => Nat.beq t 22 }
theorem jP : TOK Tryz.prog Fc := ⟨tok.ty, tok.clo, tok.eqs⟩
theorem Eb (r : RW) (ok : r.OK 268435456) : Con Tryz.prog 10 [AG r.cs] { v := .pd [dRs [pz2 r.cn], .sl []] } := by
 have cN := lA r ok
 generalize pz2 r.cn = q at cN ⊢;refine vF (fn := Tryz.f10) Tryz.func10 (by kernel_rfl) rfl ?_
 intro w0 X
 rw [aq _ _ [(0, AG r.cs)] rfl rfl];refine aB jP fun _ O=>?_;refine aG rfl rfl rfl rfl rfl rfl ?_;refine Z8 ?_;refine eQ O ?_;clear O;refine aB jP fun _ O=>?_;refine Z7 ?_;refine ac rfl rfl (cN) rfl rfl rfl rfl ?_;refine cZ rfl rfl rfl rfl ?_;refine aI rfl rfl rfl ?_;refine aI rfl rfl rfl ?_;refine aG rfl rfl rfl rfl rfl rfl ?_;refine Z8 ?_;refine eQ O ?_;clear O;refine ah ?_;exact ⟨2, 8, [.d (dRs [q]), .nil], rfl, by rw [dE]; rfl, rfl, rfl⟩
end Go.Proofs.YtceacleokgoooaaGreatDoor

/- Powers, orders and marks of rotations; transforms. No condition. -/
namespace Go.Proofs.YtceacleokgoooaaGreatDoor
attribute [local irreducible] aF

end Go.Proofs.YtceacleokgoooaaGreatDoor

/- Rigid transforms. No condition. -/
namespace Go.Proofs.YtceacleokgoooaaGreatDoor
attribute [local irreducible] aF

structure TR.OK (k : Nat) (t : TR) : Prop where
 r : t.r.OK k
 x : t.x.OK k
 y : t.y.OK k
theorem TR.OK.mono {t : TR} {k m : Nat} (h : t.OK k) (hk : Nat.ble k m = true) : t.OK m := ⟨h.r.mono hk, h.x.mono hk, h.y.mono hk⟩
end Go.Proofs.YtceacleokgoooaaGreatDoor

/- Small numbers as text. No condition. -/
namespace Go.Proofs.YtceacleokgoooaaGreatDoor
attribute [local irreducible] aF

theorem qo {d : Nat} (h : d ≠ 0) : dN [d] = [d] := by
 unfold dN; simp [h]
def D7 : List UInt8 := [48, 49, 50, 51, 52, 53, 54, 55, 56, 57, 97, 98, 99, 100, 101, 102, 103, 104, 105, 106, 107, 108, 109, 110, 111, 112, 113, 114, 115, 116, 117, 118, 119, 120, 121, 122]
def uD : List UInt8 := [48, 48, 48, 49, 48, 50, 48, 51, 48, 52, 48, 53, 48, 54, 48, 55, 48, 56, 48, 57, 49, 48, 49, 49, 49, 50, 49, 51, 49, 52, 49, 53, 49, 54, 49, 55, 49, 56, 49, 57, 50, 48, 50, 49, 50, 50, 50, 51, 50, 52] ++ [50, 53, 50, 54, 50, 55, 50, 56, 50, 57, 51, 48, 51, 49, 51, 50, 51, 51, 51, 52, 51, 53, 51, 54, 51, 55, 51, 56, 51, 57, 52, 48, 52, 49, 52, 50, 52, 51, 52, 52, 52, 53, 52, 54, 52, 55, 52, 56, 52, 57] ++ [53, 48, 53, 49, 53, 50, 53, 51, 53, 52, 53, 53, 53, 54, 53, 55, 53, 56, 53, 57, 54, 48, 54, 49, 54, 50, 54, 51, 54, 52, 54, 53, 54, 54, 54, 55, 54, 56, 54, 57, 55, 48, 55, 49, 55, 50, 55, 51, 55, 52] ++ [55, 53, 55, 54, 55, 55, 55, 56, 55, 57, 56, 48, 56, 49, 56, 50, 56, 51, 56, 52, 56, 53, 56, 54, 56, 55, 56, 56, 56, 57, 57, 48, 57, 49, 57, 50, 57, 51, 57, 52, 57, 53, 57, 54, 57, 55, 57, 56, 57, 57]
def txL (d : Nat) : List UInt8 := if d < 10 then (D7.drop d).take 1 else (uD.drop (2 * d)).take 2
abbrev sB (l : List UInt8) : DC := .lit (.string ⟨l.toArray⟩)
theorem Aq {T : Tab} {t : TypeId} {ti : TI} {s : ByteArray} {l : List UInt8} {i j : Int} {a b : Nat} (h1 : T t = some ti) (h2 : ti.und = .string) (hs : s = ⟨l.toArray⟩) (hi : i = (a : Int)) (hj : j = (b : Int)) (hab : a <= b) (hb : b <= l.length) :
  dh T t (V1 (.lit (.string s))) i j = .set (V1 (sB ((l.drop a).take (b - a)))) := by
 subst hs hi hj
 have e : (ByteArray.mk l.toArray).size = l.length := by simp [ByteArray.size]
 simp only [dh, h1, h2, vX];rw [if_pos ⟨by omega, by omega, by rw [e]; omega⟩]
 show bf (.string ((ByteArray.mk l.toArray).extract ((a : Int)).toNat ((b : Int)).toNat)) = _
 rw [show ((a : Int)).toNat = a from rfl, show ((b : Int)).toNat = b from rfl, Go.ByteArray.extract_mk]
 rfl

theorem Bi (d : Nat) (hd : d < 100) : Con Tryz.prog 158 [dI d] { v := V1 (sB (txL d)) } := by
 have l1 : D7.length = 36 := rfl
 have l2 : uD.length = 200 := rfl
 refine Z3 Tryz.func158 ?_
 intro w0 X
 rw [aq _ _ [(0, dI d)] rfl rfl];refine gQ fun _ O=>?_;refine Z8 ?_;refine eQ O ?_;clear O;refine ag ?_;refine gQ fun _ O=>?_;refine Z9 ?_;refine Z6 ?_;refine eQ O ?_;clear O;refine ap rfl (fun hc => ?_) (fun hc => ?_)
 ·have hc : d < 10 := by have := of_decide_eq_true hc; omega
  refine gQ fun _ O=>?_;refine Z9 ?_;refine Z9 ?_;refine av rfl (aP (c := ((d + 1 : Nat) : Int)) (by omega) (by omega)) rfl ?_;refine gP rfl rfl rfl (Aq (l := D7) (a := d) (b := d + 1) rfl rfl rfl rfl rfl (by omega) (by omega)) rfl ?_;refine Z8 ?_;refine eQ O ?_;clear O;exact ah (bz (h3 := by unfold txL; rw [if_pos hc, Nat.add_sub_cancel_left]; rfl))
 ·have hc : ¬ d < 10 := by have := of_decide_eq_false hc; omega
  refine ak ?_;show AWP _ _ _ _ _ _;refine gQ fun _ O=>?_;refine Z9 ?_;refine av rfl (uf (c := ((2 * d : Nat) : Int)) (by omega) (by omega)) rfl ?_;refine Z9 ?_;refine av rfl (uf (c := ((2 * d : Nat) : Int)) (by omega) (by omega)) rfl ?_;refine av rfl (aP (c := ((2 * d + 2 : Nat) : Int)) (by omega) (by omega)) rfl ?_;refine gP rfl rfl rfl (Aq (l := uD) (a := 2 * d) (b := 2 * d + 2) rfl rfl rfl rfl rfl (by omega) (by omega)) rfl ?_;refine Z8 ?_;refine eQ O ?_;clear O;exact ah (bz (h3 := by unfold txL; rw [if_neg hc, Nat.add_sub_cancel_left]; rfl))

theorem D0 (d : Nat) (hd : d < 100) : Con Tryz.prog 138 [dL d, dI 10] { v := V1 (sB (txL d)) } := by
 refine Z3 Tryz.func138 ?_
 intro w0 X
 rw [aq _ _ [(0, dL d), (1, dI 10)] rfl rfl];refine gQ fun _ O=>?_;refine Z8 ?_;refine eQ O ?_;clear O;refine ag ?_;refine gQ fun _ O=>?_;refine Z9 ?_;refine Z6 ?_;refine eQ O ?_;clear O;refine ap rfl (fun _ => ?_) (fun hc => by cases hc);refine ag ?_;refine gQ fun _ O=>?_;refine Z9 ?_;refine Z6 ?_;refine eQ O ?_;clear O;refine ap rfl (fun _ => ?_) (fun hc => by have := of_decide_eq_false hc; omega);refine gQ fun _ O=>?_;refine Z9 ?_;refine aV rfl (aW rfl rfl rfl (by show IntKind.i64.wrap (d : Int) = (d : Int); exact IntWalk.i64_in _ (by omega))) rfl ?_;refine ac rfl rfl (Bi d hd) rfl rfl rfl rfl ?_;refine Z8 ?_;refine eQ O ?_;clear O;exact ah aT
theorem CV (d : Nat) (hd : d < 100) : Con Tryz.prog 107 [dL d, dI 10] { v := V1 (sB (txL d)) } := by
 show Con _ _ _ _
 refine Z3 Tryz.func107 ?_
 intro w0 X
 rw [aq _ _ [(0, dL d), (1, dI 10)] rfl rfl];refine gQ fun _ O=>?_;refine Z8 ?_;refine eQ O ?_;clear O;refine gQ fun _ O=>?_;refine Z9 ?_;refine Z9 ?_;refine ac rfl rfl (D0 d hd) rfl rfl rfl rfl ?_;refine Z8 ?_;refine eQ O ?_;clear O;exact ah aT

theorem Ds (s : DC) : Con Tryz.prog 109 [V1 (.sl [[s]])] { v := .tup [] } := by
 refine Z3 Tryz.func109 ?_
 intro w0 X
 rw [aq _ _ [(0, V1 (.sl [[s]]))] rfl rfl];refine gQ fun _ O=>?_;refine Z9 ?_;refine az rfl (jZ (n := 1) rfl rfl rfl) rfl ?_;refine Z6 ?_;refine Z8 ?_;refine Z8 ?_;refine eQ O ?_;clear O;refine al (aS (α := Unit) (fun _ => mk 28 [(2, dI 0), (3, dI 0)] [] []) (fun _ => True) (fun _ => 0) () ?_ trivial ?_)
 ·exact Wk.mk' ⟨rfl, rfl, trivial⟩ trivial
 rintro - -
 refine ag ?_;refine gQ fun _ O=>?_;refine Z9 ?_;refine Z9 ?_;refine Z6 ?_;refine eQ O ?_;clear O;refine ap rfl (fun hc => by cases hc) (fun _ => ?_);refine aD ?_;exact (vp (by rfl) (by rfl) (by rfl) : Fin tab Tryz.f109 _ _)
theorem B1 (s sep : ByteArray) : Con Tryz.prog 110 [V1 (.sl [[.lit (.string s)]]), V1 (.lit (.string sep))] { v := V1 (.lit (.string s)) } := by
 refine Z3 Tryz.func110 ?_
 intro w0 X
 rw [aq _ _ [(0, V1 (.sl [[.lit (.string s)]])), (1, V1 (.lit (.string sep)))] rfl rfl];refine gQ fun _ O=>?_;refine Z8 ?_;refine eQ O ?_;clear O;refine ag ?_;refine gQ fun _ O=>?_;refine Z9 ?_;refine az rfl (jZ (n := 1) rfl rfl rfl) rfl ?_;refine eQ O ?_;clear O;refine al ?_;refine gQ fun _ O=>?_;refine Z6 ?_;refine Z8 ?_;refine eQ O ?_;clear O;refine ap rfl (fun hc => by cases hc) (fun _ => ?_);refine gQ fun _ O=>?_;refine Z6 ?_;refine Z8 ?_;refine eQ O ?_;clear O;refine ap rfl (fun _ => ?_) (fun hc => by cases hc);refine gQ fun _ O=>?_;refine Z9 ?_;refine ae rfl (x_d (i := 0) rfl rfl rfl rfl rfl rfl) rfl ?_;refine Z7 ?_;refine Z8 ?_;refine eQ O ?_;clear O;exact ah aT

theorem Dy (x : Int) (hx : zl x <= 536870912) : Con Tryz.prog 93 [AG (ZC x)] { v := dB (decide (x = 1)) } := by
 have c1 := wM x 1 hx (by decide)
 refine Z3 Tryz.func93 ?_
 intro w0 X
 rw [aq _ _ [(0, AG (ZC x))] rfl rfl];refine gQ fun _ O=>?_;refine aG rfl rfl rfl rfl rfl rfl ?_;refine Z8 ?_;refine eQ O ?_;clear O;refine aL tok mixed (A := [[], [], [], [0, 1], []]) (an := [{}, {}, {}, {}, {}]) rfl (by kernel_rfl) rfl fun _ O=>?_;refine Z7 ?_;refine ac rfl rfl (qS 1 (by unfold I64; omega)) rfl rfl rfl rfl ?_;refine ac rfl rfl (c1) rfl rfl rfl rfl ?_;refine Z6 ?_;refine Z8 ?_;refine eQ O ?_;clear O;exact ah (bz (h3 := by rw [<- vQ]; rfl))

def Fb : Tab := { tab with dat := fun _ => true }
theorem cU : TOK Tryz.prog Fb := ⟨tok.ty, tok.clo, tok.eqs⟩
theorem B3 (d : Nat) (hd : d < 100) : Con Tryz.prog 58 [AG (ZC d)] { v := V1 (sB (txL d)) } := by
 refine gY (fn := Tryz.f58) cU Tryz.func58 (by kernel_rfl) rfl ?_
 intro w0 X
 rw [aq _ _ [(0, AG (ZC d))] rfl rfl]
 rcases Nat.eq_zero_or_pos d with h0 | h0
 ·subst h0
  refine aB cU fun _ O=>?_;refine aG rfl rfl rfl rfl rfl rfl ?_;refine Z8 ?_;refine eQ O ?_;clear O;refine aB cU fun _ O=>?_;refine Z5 ?_;refine Z7 ?_;refine ac rfl rfl (de [] wOK.nil (by decide)) rfl rfl rfl rfl ?_;refine ac rfl rfl (kv [] (by decide)) rfl rfl rfl rfl ?_;refine Z8 ?_;refine eQ O ?_;clear O;refine ag ?_;refine aB cU fun _ O=>?_;refine Z9 ?_;refine az rfl (aZ rfl rfl rfl) rfl ?_;refine Z6 ?_;refine eQ O ?_;clear O;refine ap rfl (fun _ => ?_) (fun hc => by cases hc);refine aB cU fun _ O=>?_;refine Z8 ?_;refine eQ O ?_;clear O;exact ah aT
 have hw : wof d = [d] := by
  have e : wv [d] = d := by simp [wv]
  rw [<- e, <- g8 (wOK.one (by omega))];exact qo (by omega)
 have hz : ZC (d : Int) = IC false [d] := by unfold ZC; rw [Int.natAbs_natCast, hw, decide_eq_false (by omega)]
 have hok : wOK [d] := wOK.one (by omega)
 have hv : wv [d] = d := by simp [wv]
 have cs := rz [d] 1000000000 hok (by decide) (by decide) (by simp)
 rw [hv, Nat.div_eq_of_lt (show d < 1000000000 by omega), Nat.mod_eq_of_lt (show d < 1000000000 by omega)] at cs
 have ct := de (a8 [d].length 0) (bV _ _) (by simp [a8])
 rw [b7, Nat.zero_mod] at ct
 have c0 := de [d] hok (by simp)
 rw [hv, hw] at c0;rw [hz];refine aB cU fun _ O=>?_;refine aG rfl rfl rfl rfl rfl rfl ?_;refine Z8 ?_;refine eQ O ?_;clear O;refine aB cU fun _ O=>?_;refine Z5 ?_;refine Z7 ?_;refine ac rfl rfl (c0) rfl rfl rfl rfl ?_;refine ac rfl rfl (kv [d] (by simp)) rfl rfl rfl rfl ?_;refine Z8 ?_;refine eQ O ?_;clear O;refine ag ?_;refine aB cU fun _ O=>?_;refine Z9 ?_;refine az rfl (aZ rfl rfl rfl) rfl ?_;refine Z6 ?_;refine eQ O ?_;clear O;refine ap rfl (fun hc => by cases hc) (fun _ => ?_);refine ak ?_;show AWP _ _ _ _ _ _;refine aB cU fun _ O=>?_;refine Z8 ?_;refine eQ O ?_;clear O;refine ag ?_;refine al (aS (α := Nat) (fun i => mk 49 [(1, .ptr 1 0), (3, V1 (dW ([d].drop i))), (4, ec 4 1 i)] [(1, some (.box (IC false [d]))), (4, dJ 1 [[sB (txL d)]] i)] []) (fun i => i <= 1) (fun i => 1 - i) 0 ?_ (Nat.zero_le _) ?_)
 ·exact Wk.mk' ⟨rfl, rfl, rfl, trivial⟩ ⟨rfl, rfl, trivial⟩
 intro i hi
 refine ag ?_
 rcases i with _ | i
 ·refine aB cU fun _ O=>?_;refine Z9 ?_;refine az rfl (aZ rfl rfl rfl) rfl ?_;refine Z6 ?_;refine eQ O ?_;clear O;refine ap rfl (fun _ => ?_) (fun hc => by cases hc);refine ak ?_;show AWP _ _ _ _ _ _;refine al ?_;refine aB cU fun _ O=>?_;refine Z8 ?_;refine eQ O ?_;clear O;refine aB cU fun _ O=>?_;refine Z9 ?_;refine ac rfl rfl (cs) rfl rfl rfl rfl ?_;refine Z9 ?_;refine au rfl rfl rfl ?_;refine au rfl rfl rfl ?_;refine Z8 ?_;refine Z8 ?_;refine eQ O ?_;clear O;refine aB cU fun _ O=>?_;refine Z9 ?_;refine ac rfl rfl (ct) rfl rfl rfl rfl ?_;refine Z8 ?_;refine eQ O ?_;clear O;refine aB cU fun _ O=>?_;refine Z9 ?_;refine aV rfl (aW rfl rfl rfl (by show IntKind.u64.wrap (d : Int) = (d : Int); rw [oh]; omega)) rfl ?_;refine ac rfl rfl (CV d hd) rfl rfl rfl rfl ?_;refine Z8 ?_;refine eQ O ?_;clear O;refine ag ?_;refine aB cU fun _ O=>?_;refine Z9 ?_;refine az rfl (aZ rfl rfl rfl) rfl ?_;refine Z6 ?_;refine eQ O ?_;clear O;refine ap rfl (fun hc => by cases hc) (fun _ => ?_);refine ak ?_;show AWP _ _ _ _ _ _;refine kx cU fun _ O=>?_;refine Z9 ?_;refine Z9 ?_;refine cZ rfl rfl rfl rfl ?_;refine aN rfl (eu rfl rfl rfl rfl rfl (by decide) (Nat.le_of_ble_eq_true rfl) rfl (by simp) rfl (by simp) (by simp)) rfl rfl rfl ?_;refine Z8 ?_;refine eQ O ?_;clear O;refine ⟨1, by omega, by omega, Wk.rn [1, 3, 4] [1, 39] 39 4 rfl rfl rfl ⟨rfl, rfl, rfl, trivial⟩ ⟨rfl, rfl, trivial⟩⟩
 ·obtain rfl : i = 0 := by omega
  refine aB cU fun _ O=>?_;refine Z9 ?_;refine az rfl (aZ rfl rfl rfl) rfl ?_;refine Z6 ?_;refine eQ O ?_;clear O;refine ap rfl (fun hc => by cases hc) (fun _ => ?_);refine aD ?_;show AWP _ _ _ _ _ _;refine ag ?_;refine aB cU fun _ O=>?_;refine Z5 ?_;refine Z7 ?_;refine eQ O ?_;clear O;refine ap rfl (fun hc => by cases hc) (fun _ => ?_);refine ak ?_;show AWP _ _ _ _ _ _;refine dK [4] [4] 4 [(4, V1 (.sl [[sB (txL d)]]))] [] rfl ?_ trivial ?_
  ·exact ⟨cT rfl rfl, trivial⟩
  refine aB cU fun _ O=>?_;refine Z9 ?_;refine ac rfl rfl (Ds (sB (txL d))) rfl rfl rfl rfl ?_;refine eQ O ?_;clear O;refine aB cU fun _ O=>?_;refine Z9 ?_;refine ac rfl rfl (B1 _ _) rfl rfl rfl rfl ?_;refine Z8 ?_;refine eQ O ?_;clear O;exact ah aT
end Go.Proofs.YtceacleokgoooaaGreatDoor

/- A call that turns an own array of two strings round. No condition. -/
namespace Go.Proofs.YtceacleokgoooaaGreatDoor
open Go.RowKit

def EY (P : Program) (f : FuncId) : Prop :=
 (∃ fn, P.funcs[f]? = some fn /\ (fn.name == "runtime.NumGoroutine") = false /\ fn.body.isSome = true) /\
  ∀ (w : World) (b cap : Nat) (x y : ByteArray) (cs : Array Value) (E : TypeId), w.heap[b]? = some (.cells cs E (0, 0)) -> cs[0]? = some (.string x) -> cs[1]? = some (.string y) ->
   Calls P f #[.slice (some ⟨b, 0, none⟩) 2 cap] w (fun e w' => e = .returned (.tuple #[]) /\ ∃ w1, Below w.heap.size w w1 /\ w1.heap[b]? = w.heap[b]? /\ w' = setRow w1 b ((cs.setIfInBounds 0 (.string y)).setIfInBounds 1 (.string x)))

section
variable {P : Program} {w0 : Base} {X : Nat -> Prop} {ops : List Oper} {K : St -> Prop} {k n : Nat} {E : List (Nat × SV)} {S : List (Nat × Option OO)} {rb : List Nat}
theorem Eh {f : FuncId} {d t id : Nat} {x y : ByteArray} {ts : Array TypeId} {ty : TypeId} {ps : String} {af : Array Edge} (hf : EY P f) (ho : ops[k]? = some ⟨some d, .call ⟨.value (.func f), #[.tmp t], ts⟩, ty, ps, af, none⟩)
  (ht : rd n E (.tmp t) = .val (.one (.own id 1 0 2))) (hS : so S id = some (.arr 1 [[.lit (.string x)], [.lit (.string y)]]))
  (h : cK P w0 X ops (k + 1) K (mk n ((d, .tup []) :: E) ((id, some (.arr 1 [[.lit (.string y)], [.lit (.string x)]])) :: S) rb)) : cK P w0 X ops k K (mk n E S rb) := by
 intro μ a w Q hQ hs
 have hk : k < ops.length := by
  rcases Nat.lt_or_ge k ops.length with h' | h'
  ·exact h'
  ·rw [List.getElem?_eq_none h'] at ho; cases ho
 rw [List.drop_eq_getElem_cons (by simpa using hk), List.getElem_range, wpOps_cons]
 have ho' : ops.toArray[k]? = some ⟨some d, .call ⟨.value (.func f), #[.tmp t], ts⟩, ty, ps, af, none⟩ := by simpa using ho
 unfold wpOp
 rw [ho']
 simp only
 rw [if_pos (by rfl)];refine Or.inl ?_
 unfold Oper.wp
 simp only [execOp]
 obtain ⟨⟨fn, h1, h2, h3⟩, hcall⟩ := hf
 have hsl := hs.slots t
 rw [dE, ht] at hsl
 obtain ⟨cap, cs, E1, fr, hv, hle, hh, hcap⟩ := hsl
 obtain ⟨hid, cs2, E2, hh2, hrel⟩ := hs.objs id _ (show (mk n E S rb).σ id = _ from hS)
 rw [hh] at hh2
 obtain ⟨rfl, rfl, rfl⟩ : cs = cs2 /\ E1 = E2 /\ fr = (0, 0) := by cases hh2; exact ⟨rfl, rfl, rfl⟩
 obtain ⟨hr0, hr1, hr2⟩ := hrel
 have g0 : cs[0]? = some (.string x) := by
  obtain ⟨u, e1, e2⟩ := hr2 0 0 (.lit (.string x)) rfl
  have : u = .string x := by cases e2; rfl
  rw [this] at e1; simpa using e1
 have g1 : cs[1]? = some (.string y) := by
  obtain ⟨u, e1, e2⟩ := hr2 1 0 (.lit (.string y)) rfl
  have : u = .string y := by cases e2; rfl
  rw [this] at e1; simpa using e1
 refine ml (c := ⟨.value (.func f), #[.tmp t], ts⟩) rfl h1 h2 h3 ?_
 have ea : (#[Operand.tmp t] : Array Operand).map a.eval = #[.slice (some ⟨μ id, 0, none⟩) 2 cap] := by
  rw [<- hv, List.map_toArray, List.map_cons, List.map_nil]; rfl
 show Calls P f ((#[Operand.tmp t] : Array Operand).map a.eval) w _
 rw [ea];refine (hcall w (μ id) cap x y cs E1 hh g0 g1).mono fun e w' ⟨he, w1, hb, hw1, hw'⟩ => ⟨_, he, ?_⟩
 subst hw'
 have hs1 := hs.below hb
 have hh1 : w1.heap[μ id]? = some (.cells cs E1 (0, 0)) := by rw [hw1]; exact hh
 have hs2 := hs1.upd (id := id) (o' := .arr 1 [[.lit (.string y)], [.lit (.string x)]]) (show (mk n E S rb).σ id = _ from hS) hh1 (cs' := (cs.setIfInBounds 0 (.string y)).setIfInBounds 1 (.string x)) (by simp) ?_ (rb' := rb) (fun k h => h) (fun l hl => by cases hl)
 ·have e : (⟨(mk n E S rb).ρ, bn (mk n E S rb).σ id (.arr 1 [[.lit (.string y)], [.lit (.string x)]]), rb⟩ : St) = mk n E ((id, some (.arr 1 [[.lit (.string y)], [.lit (.string x)]])) :: S) rb := by
   show (⟨_, bn (so S) id _, rb⟩ : St) = _
   rw [ln]; rfl
  rw [e] at hs2
  have hs3 := hs2.put (dst := some d) (u := .tuple #[]) (v := .tup []) ⟨[], rfl, rfl, fun i x hx => by simp at hx⟩
  rw [eI] at hs3;exact h μ _ _ Q hQ hs3
 ·have z0 : 0 < cs.size := (Array.getElem?_eq_some_iff.1 g0).1
  have z1 : 1 < cs.size := (Array.getElem?_eq_some_iff.1 g1).1
  refine ⟨by simpa using hr0, fun i e he => ?_, fun i j dd hd => ?_⟩
  ·match i, he with
   | 0, he => cases he; rfl
   | 1, he => cases he; rfl
   | i + 2, he => cases he
  ·match i, j, hd with
   | 0, 0, hd => cases hd; exact ⟨.string y, by simp [z0], RdC.lit rfl⟩
   | 1, 0, hd => cases hd; exact ⟨.string x, by simp [z1], RdC.lit rfl⟩
   | 0, j + 1, hd => simp [at2] at hd
   | 1, j + 1, hd => simp [at2] at hd
   | i + 2, j, hd => simp [at2] at hd
end
end Go.Proofs.YtceacleokgoooaaGreatDoor

/- The library functions Join and Reverse at this program: what the kit proves of them over any program. No condition. -/
namespace Go.Proofs.YtceacleokgoooaaGreatDoor
open Go.Shelf
def sh_lays156_ren : Go.Shelf.Ren := ⟨fun | 156 => 110 | 165 => 141 | 166 => 142 | 169 => 144 | 240 => 165 | 241 => 166 | 276 => 178 | 277 => 179 | n => n, fun | 31 => 160 | 9 => 9 | 3 => 3 | 4 => 4 | 0 => 0 | 20 => 20 | 72 => 192 | 76 => 196 | 70 => 189 | 37 => 190 | 75 => 195 | 127 => 214 | 164 => 223 | 5 => 5 | 80 => 199 | n => n, fun | n => n⟩
theorem sh_lays156 : Go.Proofs.Lays.n156 Tryz.prog sh_lays156_ren := {
 mixed := by kernel_rfl
 f156 := Tryz.func110.trans (congrArg some (by kernel_rfl))
 f165 := Tryz.func141.trans (congrArg some (by kernel_rfl))
 f166 := Tryz.func142.trans (congrArg some (by kernel_rfl))
 f169 := Tryz.func144.trans (congrArg some (by kernel_rfl))
 f240 := Tryz.func165.trans (congrArg some (by kernel_rfl))
 f241 := Tryz.func166.trans (congrArg some (by kernel_rfl))
 f276 := Tryz.func178.trans (congrArg some (by kernel_rfl))
 f277 := Tryz.func179.trans (congrArg some (by kernel_rfl))
 t0 := Tryz.underlying0
 a0 := Tryz.isAgg0
 z0 := Tryz.sizeOf0
 v0 := Tryz.zeroValue0
 t3 := Tryz.underlying3
 a3 := Tryz.isAgg3
 z3 := Tryz.sizeOf3
 v3 := Tryz.zeroValue3
 t4 := Tryz.underlying4
 a4 := Tryz.isAgg4
 z4 := Tryz.sizeOf4
 v4 := Tryz.zeroValue4
 t9 := Tryz.underlying9
 a9 := Tryz.isAgg9
 z9 := Tryz.sizeOf9
 v9 := Tryz.zeroValue9
 t20 := Tryz.underlying20
 a20 := Tryz.isAgg20
 z20 := Tryz.sizeOf20
 v20 := Tryz.zeroValue20
 t31 := Tryz.underlying160
 a31 := Tryz.isAgg160
 z31 := Tryz.sizeOf160
 v31 := Tryz.zeroValue160
 t37 := Tryz.underlying190
 a37 := Tryz.isAgg190
 z37 := Tryz.sizeOf190
 v37 := Tryz.zeroValue190
 t70 := Tryz.underlying189
 a70 := Tryz.isAgg189
 z70 := Tryz.sizeOf189
 v70 := Tryz.zeroValue189
 t72 := Tryz.underlying192
 a72 := Tryz.isAgg192
 z72 := Tryz.sizeOf192
 v72 := Tryz.zeroValue192
 t75 := Tryz.underlying195
 a75 := Tryz.isAgg195
 z75 := Tryz.sizeOf195
 v75 := Tryz.zeroValue195
 t76 := Tryz.underlying196
 a76 := Tryz.isAgg196
 z76 := Tryz.sizeOf196
 v76 := Tryz.zeroValue196
 t127 := Tryz.underlying214
 a127 := Tryz.isAgg214
 z127 := Tryz.sizeOf214
 v127 := Tryz.zeroValue214
 t164 := Tryz.underlying223
 a164 := Tryz.isAgg223
 z164 := Tryz.sizeOf223
 v164 := Tryz.zeroValue223 }
theorem sh_Builder_Extra_156 : Builder.Extra Tryz.prog sh_lays156_ren := {
 sizeBuilder := by kernel_rfl
 liesBuilder := by kernel_rfl
 t5 := Tryz.underlying5
 a5 := Tryz.isAgg5
 z5 := Tryz.sizeOf5
 v5 := Tryz.zeroValue5
 infoByte := by kernel_rfl
 cellsByte := by kernel_rfl
 sizeByte := by kernel_rfl
 neB5 := by decide }
open Go.RowKit in
theorem sh_strings_Join (bk o c : Nat) (xs : List ByteArray) (sep : ByteArray) (w : World) (hcells : ∀ (j : Nat) x, xs[j]? = some x -> w.cell? ⟨bk, o + j, none⟩ = some (.string x)) (hbk : bk < w.heap.size) (hN : xs.length <= 140737488355328) (hcap : xs.length <= c) (hlen : (Lib.join (xs.map (·.data.toList)) sep.data.toList).length <= 140737488355328) :
  Calls Tryz.prog 110 #[.slice (some ⟨bk, o, none⟩) xs.length c, .string sep] w fun e w' => e = .returned (.string ⟨(Lib.join (xs.map (·.data.toList)) sep.data.toList).toArray⟩) /\ Below w.heap.size w w' := Any.strings_Join sh_lays156 sh_Builder_Extra_156 bk o c xs sep w hcells hbk hN hcap hlen
def sh_laysNm217_ren : Go.Shelf.Ren := ⟨fun | 17 => 109 | n => n, fun | 24 => 160 | 9 => 9 | 3 => 3 | 4 => 4 | 0 => 0 | n => n, fun | n => n⟩
theorem sh_laysNm217 : Go.Proofs.Lays2.n17 Tryz.prog sh_laysNm217_ren := {
 mixed := by kernel_rfl
 f17 := Tryz.func109.trans (congrArg some (by kernel_rfl))
 t0 := Tryz.underlying0
 a0 := Tryz.isAgg0
 z0 := Tryz.sizeOf0
 v0 := Tryz.zeroValue0
 t3 := Tryz.underlying3
 a3 := Tryz.isAgg3
 z3 := Tryz.sizeOf3
 v3 := Tryz.zeroValue3
 t4 := Tryz.underlying4
 a4 := Tryz.isAgg4
 z4 := Tryz.sizeOf4
 v4 := Tryz.zeroValue4
 t9 := Tryz.underlying9
 a9 := Tryz.isAgg9
 z9 := Tryz.sizeOf9
 v9 := Tryz.zeroValue9
 t24 := Tryz.underlying160
 a24 := Tryz.isAgg160
 z24 := Tryz.sizeOf160
 v24 := Tryz.zeroValue160 }
open Go.RowKit Go.Lib Go.Sort in
theorem sh_slices_Reverse_string_cells (b off n c : Nat) (Sx : Nat -> ByteArray) (w : World) (hbig : n <= 9223372036854775807) (hc : ∀ i, i < n -> w.cell? ⟨b, off + i, none⟩ = some (.string (Sx i))) (hf : ∀ j, j < n -> w.frozen? ⟨b, off + j, none⟩ = false) :
  Calls Tryz.prog 109 #[.slice (some ⟨b, off, none⟩) n c] w fun e w' => e = .returned (.tuple #[]) /\ ∃ q, w' = (w.drewN q).setCells b off ((Lib.strsOf Sx n).reverse.map encStr) := Any.slices_Reverse_string_cells sh_laysNm217 b off n c Sx w hbig hc hf
end Go.Proofs.YtceacleokgoooaaGreatDoor

/- Numbers as text: negative ones, fractions. No condition. -/
namespace Go.Proofs.YtceacleokgoooaaGreatDoor
attribute [local irreducible] aF
open Go.RowKit

theorem w3 (y : ByteArray) : (⟨y.data.toList.toArray⟩ : ByteArray) = y := by cases y; simp
theorem rh {w : World} {b : Nat} {cs : Array Value} {E : TypeId} {fr : Nat × Nat} (h : w.heap[b]? = some (.cells cs E fr)) (i : Nat) : w.cell? ⟨b, i, none⟩ = cs[i]? := by
 simp [World.cell?, h]
theorem Dr : EY Tryz.prog 109 := by
 refine ⟨⟨Tryz.f109, Tryz.func109, by kernel_rfl, rfl⟩, fun w b cap x y cs E hh h0 h1 => ?_⟩;refine (sh_slices_Reverse_string_cells b 0 2 cap (fun i => if i = 0 then x else y) w (by decide) (fun i hi => ?_) (fun j _ => ij hh _)).mono fun e w' ⟨he, q, hw⟩ => ⟨he, w.drewN q, ⟨rfl, rfl, rfl, Nat.le_refl _, fun _ _ => rfl⟩, rfl, ?_⟩
 ·rw [rh hh]
  match i, hi with
  | 0, _ => exact h0
  | 1, _ => exact h1
 ·rw [hw]
  have hh' : (w.drewN q).heap[b]? = some (.cells cs E (0, 0)) := hh
  show ((w.drewN q).setCell ⟨b, 0, none⟩ (.string ⟨y.data.toList.toArray⟩)).setCell ⟨b, 1, none⟩ (.string ⟨x.data.toList.toArray⟩) = _
  rw [w3, w3, ir hh', ir (co hh' _), gh hh']
theorem B0 (x y : List UInt8) (hx : x.length <= 1000) (hy : y.length <= 1000) : Con Tryz.prog 110 [V1 (.sl [[sB x], [sB y]]), V1 (sB [])] { v := V1 (sB (x ++ y)) } := by
 refine ⟨⟨Tryz.f110, Tryz.func110, by kernel_rfl, rfl⟩, fun w X μ vs _ hX hl ha => ?_⟩
 obtain ⟨v0, e0, r0⟩ := ha 0 _ rfl
 obtain ⟨v1, e1, r1⟩ := ha 1 _ rfl
 obtain ⟨u0, u1, rfl⟩ : ∃ u0 u1, vs = [u0, u1] := by
  match vs, hl with
  | [u0, u1], _ => exact ⟨u0, u1, rfl⟩
 have r0 : RdC w X u0 (.sl [[sB x], [sB y]]) := by cases e0; exact r0
 have r1 : RdC w X u1 (sB []) := by cases e1; exact r1
 obtain rfl : u1 = .string ⟨#[]⟩ := by cases r1; rfl
 cases r0 with
 | sl gs hh hxx hlen hcap hs hv hr =>
  rename_i b off len cap sz cs E fr
  subst hlen
  have hsz : 1 = sz := hs 0 [sB x] rfl
  subst hsz
  have key : ∀ v s, RdC w X v (.lit (.string s)) -> v = .string s := fun v s h => by cases h; rfl
  have g0 : gs 0 0 = .string ⟨x.toArray⟩ := key _ _ (hr 0 0 (sB x) rfl)
  have g1 : gs 1 0 = .string ⟨y.toArray⟩ := key _ _ (hr 1 0 (sB y) rfl)
  have v0 := hv 0 0 (sB x) rfl
  have v1 := hv 1 0 (sB y) rfl
  rw [g0] at v0;rw [g1] at v1
  have hj : Lib.join ([(⟨x.toArray⟩ : ByteArray), ⟨y.toArray⟩].map (·.data.toList)) (⟨#[]⟩ : ByteArray).data.toList = x ++ y := by
   simp [Lib.join, List.intercalate]
  have := sh_strings_Join b off cap [⟨x.toArray⟩, ⟨y.toArray⟩] ⟨#[]⟩ w (fun j z hz => by
   rw [rh hh]
   match j, hz with
   | 0, hz => cases hz; simpa using v0
   | 1, hz => cases hz; simpa using v1
   | j + 2, hz => cases hz) (bq hh) (by simp) hcap (by rw [hj, List.length_append]; omega)
  rw [hj] at this;exact this.mono fun e w' ⟨he, hb⟩ => ⟨_, he, hb, 0, fun _ _ h => (by cases h), RdC.lit rfl⟩
theorem Aa (d : Nat) (h0 : 0 < d) (hd : d < 100) : Con Tryz.prog 58 [AG (ZC (-(d : Int)))] { v := V1 (sB (45 :: txL d)) } := by
 have ltx : (txL d).length <= 2 := by unfold txL; split <;> simp <;> omega
 refine gY (fn := Tryz.f58) cU Tryz.func58 (by kernel_rfl) rfl ?_
 intro w0 X
 rw [aq _ _ [(0, AG (ZC (-(d : Int))))] rfl rfl]
 have hw : wof d = [d] := by
  have e : wv [d] = d := by simp [wv]
  rw [<- e, <- g8 (wOK.one (by omega))];exact qo (by omega)
 have hz : ZC (-(d : Int)) = IC true [d] := by unfold ZC; rw [Int.natAbs_neg, Int.natAbs_natCast, hw, decide_eq_true (by omega)]
 have hok : wOK [d] := wOK.one (by omega)
 have hv : wv [d] = d := by simp [wv]
 have cs := rz [d] 1000000000 hok (by decide) (by decide) (by simp)
 rw [hv, Nat.div_eq_of_lt (show d < 1000000000 by omega), Nat.mod_eq_of_lt (show d < 1000000000 by omega)] at cs
 have ct := de (a8 [d].length 0) (bV _ _) (by simp [a8])
 rw [b7, Nat.zero_mod] at ct
 have c0 := de [d] hok (by simp)
 rw [hv, hw] at c0
 have cj := B0 [45] (txL d) (by simp) (by omega)
 rw [hz];refine aB cU fun _ O=>?_;refine aG rfl rfl rfl rfl rfl rfl ?_;refine Z8 ?_;refine eQ O ?_;clear O;refine aB cU fun _ O=>?_;refine Z5 ?_;refine Z7 ?_;refine ac rfl rfl (c0) rfl rfl rfl rfl ?_;refine ac rfl rfl (kv [d] (by simp)) rfl rfl rfl rfl ?_;refine Z8 ?_;refine eQ O ?_;clear O;refine ag ?_;refine aB cU fun _ O=>?_;refine Z9 ?_;refine az rfl (aZ rfl rfl rfl) rfl ?_;refine Z6 ?_;refine eQ O ?_;clear O;refine ap rfl (fun hc => by cases hc) (fun _ => ?_);refine ak ?_;show AWP _ _ _ _ _ _;refine aB cU fun _ O=>?_;refine Z8 ?_;refine eQ O ?_;clear O;refine ag ?_;refine al (aS (α := Nat) (fun i => mk 49 [(1, .ptr 1 0), (3, V1 (dW ([d].drop i))), (4, ec 4 1 i)] [(1, some (.box (IC true [d]))), (4, dJ 1 [[sB (txL d)]] i)] []) (fun i => i <= 1) (fun i => 1 - i) 0 ?_ (Nat.zero_le _) ?_)
 ·exact Wk.mk' ⟨rfl, rfl, rfl, trivial⟩ ⟨rfl, rfl, trivial⟩
 intro i hi
 refine ag ?_
 rcases i with _ | i
 ·refine aB cU fun _ O=>?_;refine Z9 ?_;refine az rfl (aZ rfl rfl rfl) rfl ?_;refine Z6 ?_;refine eQ O ?_;clear O;refine ap rfl (fun _ => ?_) (fun hc => by cases hc);refine ak ?_;show AWP _ _ _ _ _ _;refine al ?_;refine aB cU fun _ O=>?_;refine Z8 ?_;refine eQ O ?_;clear O;refine aB cU fun _ O=>?_;refine Z9 ?_;refine ac rfl rfl (cs) rfl rfl rfl rfl ?_;refine Z9 ?_;refine au rfl rfl rfl ?_;refine au rfl rfl rfl ?_;refine Z8 ?_;refine Z8 ?_;refine eQ O ?_;clear O;refine aB cU fun _ O=>?_;refine Z9 ?_;refine ac rfl rfl (ct) rfl rfl rfl rfl ?_;refine Z8 ?_;refine eQ O ?_;clear O;refine aB cU fun _ O=>?_;refine Z9 ?_;refine aV rfl (aW rfl rfl rfl (by show IntKind.u64.wrap (d : Int) = (d : Int); rw [oh]; omega)) rfl ?_;refine ac rfl rfl (CV d hd) rfl rfl rfl rfl ?_;refine Z8 ?_;refine eQ O ?_;clear O;refine ag ?_;refine aB cU fun _ O=>?_;refine Z9 ?_;refine az rfl (aZ rfl rfl rfl) rfl ?_;refine Z6 ?_;refine eQ O ?_;clear O;refine ap rfl (fun hc => by cases hc) (fun _ => ?_);refine ak ?_;show AWP _ _ _ _ _ _;refine kx cU fun _ O=>?_;refine Z9 ?_;refine Z9 ?_;refine cZ rfl rfl rfl rfl ?_;refine aN rfl (eu rfl rfl rfl rfl rfl (by decide) (Nat.le_of_ble_eq_true rfl) rfl (by simp) rfl (by simp) (by simp)) rfl rfl rfl ?_;refine Z8 ?_;refine eQ O ?_;clear O;refine ⟨1, by omega, by omega, Wk.rn [1, 3, 4] [1, 39] 39 4 rfl rfl rfl ⟨rfl, rfl, rfl, trivial⟩ ⟨rfl, rfl, trivial⟩⟩
 ·obtain rfl : i = 0 := by omega
  refine aB cU fun _ O=>?_;refine Z9 ?_;refine az rfl (aZ rfl rfl rfl) rfl ?_;refine Z6 ?_;refine eQ O ?_;clear O;refine ap rfl (fun hc => by cases hc) (fun _ => ?_);refine aD ?_;show AWP _ _ _ _ _ _;refine bd (α := Unit) (fun _ => mk 49 [(4, .val (.one (.own 4 1 0 2)))] [(4, some (.arr 1 [[sB (txL d)], [sB [45]]]))] []) (fun _ => True) ?_ ?_
  ·refine aB cU fun _ O=>?_;refine Z5 ?_;refine Z7 ?_;refine eQ O ?_;clear O;refine ap rfl (fun _ => ?_) (fun hc => by cases hc);refine kx cU fun _ O=>?_;refine Z9 ?_;refine cZ rfl rfl rfl rfl ?_;refine aN rfl (et rfl rfl rfl rfl rfl rfl (by decide) (Nat.le_of_ble_eq_true rfl) rfl (by simp) rfl rfl rfl (by simp)) rfl rfl rfl ?_;refine Z8 ?_;refine eQ O ?_;clear O;exact ⟨(), trivial, Wk.rn [4] [44] 44 4 rfl rfl rfl ⟨rfl, trivial⟩ ⟨rfl, trivial⟩⟩
  rintro - -
  refine aU fun _ O=>?_;refine aa cU rfl ?_;refine Z9 ?_;refine ab ?_;refine Eh (x := ⟨(txL d).toArray⟩) (y := ⟨[45].toArray⟩) Dr rfl rfl rfl ?_;refine aM rfl (O _ ?_); clear O;refine dK [4] [4] 4 [(4, V1 (.sl [[sB [45]], [sB (txL d)]]))] [] rfl ?_ trivial ?_
  ·exact ⟨cT rfl rfl, trivial⟩
  refine aB cU fun _ O=>?_;refine Z9 ?_;refine ac rfl rfl (cj) rfl rfl rfl rfl ?_;refine Z8 ?_;refine eQ O ?_;clear O;exact ah aT

def ztx (z : Int) : List UInt8 := if z < 0 then 45 :: txL z.natAbs else txL z.natAbs
theorem tP (z : Int) (h : -100 < z /\ z < 100) : Con Tryz.prog 58 [AG (ZC z)] { v := V1 (sB (ztx z)) } := by
 unfold ztx
 split
 ·have e : z = -((z.natAbs : Nat) : Int) := by omega
  have := Aa z.natAbs (by omega) (by omega)
  rw [<- e] at this; exact this
 ·have e : z = ((z.natAbs : Nat) : Int) := by omega
  have := B3 z.natAbs (by omega)
  rw [<- e] at this; exact this
def qtx (q : Rat) : List UInt8 := if q.den = 1 then ztx q.num else ztx q.num ++ [47] ++ ztx q.den
theorem vP (z : Int) : (ztx z).length <= 3 := by
 have h : ∀ d, (txL d).length <= 2 := fun d => by unfold txL; split <;> simp <;> omega
 unfold ztx; split
 ·have := h z.natAbs; simp; omega
 ·have := h z.natAbs; omega
theorem Az {T : Tab} {t : TypeId} (a b : List UInt8) (h : a.length + b.length <= 1000) : aR T .add t (V1 (sB a)) (V1 (sB b)) = .set (V1 (sB (a ++ b))) := by
 have hb : eW .add (.string ⟨a.toArray⟩) (.string ⟨b.toArray⟩) = some (.string ⟨(a ++ b).toArray⟩) := by
  have e1 : (ByteArray.mk a.toArray).size = a.length := by simp [ByteArray.size]
  have e2 : (ByteArray.mk b.toArray).size = b.length := by simp [ByteArray.size]
  simp only [eW];rw [if_pos (by rw [e1, e2]; omega)]
  congr 2
 simp only [aR, db, hb]; rfl
theorem rK (a : RW) (ok : a.OK 16777216) (hn : -100 < a.v.num /\ a.v.num < 100) (hd : (a.v.den : Int) < 100) : Con Tryz.prog 44 [AG a.cs] { v := V1 (sB (qtx a.v)) } := by
 have c1 := jr a ok
 have h1 := ok.ql rfl
 generalize a.v = x at *
 have c2 := Dy (x.den : Int) (bc (cr h1) rfl)
 have c3 := tP x.num hn
 have c4 := tP (x.den : Int) (by omega)
 have l1 := vP x.num
 have l2 := vP (x.den : Int)
 refine gY (fn := Tryz.f44) cU Tryz.func44 (by kernel_rfl) rfl ?_
 intro w0 X
 rw [aq _ _ [(0, AG a.cs)] rfl rfl];refine aB cU fun _ O=>?_;refine aG rfl rfl rfl rfl rfl rfl ?_;refine Z8 ?_;refine eQ O ?_;clear O;refine aB cU fun _ O=>?_;refine Z7 ?_;refine ac rfl rfl (c1) rfl rfl rfl rfl ?_;refine aj rfl rfl rfl rfl rfl ?_;refine eQ O ?_;clear O;refine ag ?_;refine aB cU fun _ O=>?_;refine Z5 ?_;refine Z7 ?_;refine ac rfl rfl (c2) rfl rfl rfl rfl ?_;refine eQ O ?_;clear O;refine ap rfl (fun hc => ?_) (fun hc => ?_)
 ·have hc : x.den = 1 := by have := of_decide_eq_true hc; omega
  refine aB cU fun _ O=>?_;refine Z5 ?_;refine Z7 ?_;refine ac rfl rfl (c3) rfl rfl rfl rfl ?_;refine Z8 ?_;refine eQ O ?_;clear O;exact ah (bz (h3 := by unfold qtx; rw [if_pos hc]; rfl))
 ·have hc : ¬ x.den = 1 := by have := of_decide_eq_false hc; omega
  refine ak ?_;show AWP _ _ _ _ _ _;refine aL cU mixed (A := [[], [], [0], [0, 1], [], [], [0, 1, 4], [0, 1, 2, 4, 5], []]) (an := [{}, {}, {}, {}, { c := [13] }, { c := [13] }, {}, {}, {}]) rfl (by kernel_rfl) rfl fun _ O=>?_;refine Z5 ?_;refine Z7 ?_;refine ac rfl rfl (c3) rfl rfl rfl rfl ?_;refine av rfl (Az _ [47] (by simp; omega)) rfl ?_;refine Z5 ?_;refine Z7 ?_;refine ac rfl rfl (c4) rfl rfl rfl rfl ?_;refine av rfl (Az _ _ (by simp; omega)) rfl ?_;refine Z8 ?_;refine eQ O ?_;clear O;exact ah (bz (h3 := by unfold qtx; rw [if_neg hc]; rfl))
end Go.Proofs.YtceacleokgoooaaGreatDoor

/- adjust: Worst, Graph; awake. No condition. -/
namespace Go.Proofs.YtceacleokgoooaaGreatDoor
attribute [local irreducible] aF
open Go.RowKit

theorem qB (ls : List LK) (hn : ls.length <= 1048576) : Con Tryz.prog 49 [V1 (dLs ls)] { v := V1 (dLs ls) } := by
 refine Z3 Tryz.func49 ?_
 intro w0 X
 rw [aq _ _ [(0, V1 (dLs ls))] rfl rfl];refine gQ fun _ O=>?_;refine Z8 ?_;refine eQ O ?_;clear O;refine ag ?_;refine mV (es := ls.map LK.dc) tok rfl rfl rfl rfl rfl rfl rfl rfl rfl rfl fun b hb => ?_;rw [eI, eI];refine ap rfl (fun hc => ?_) (fun hc => ?_)
 ·have : ls = [] := by have := hb hc; simpa using this
  subst this
  refine gQ fun _ O=>?_;refine Z8 ?_;refine eQ O ?_;clear O;exact ah aT
 ·refine ak ?_;show AWP _ _ _ _ _ _;refine gQ fun _ O=>?_;refine ax rfl rfl rfl rfl ?_;refine Z9 ?_;refine aN rfl (et (es := []) rfl rfl rfl rfl rfl rfl (by decide) (Nat.le_of_ble_eq_true rfl) rfl (fun e he => by obtain ⟨x, _, rfl⟩ := List.mem_map.1 he; rfl) rfl rfl rfl (by simp; omega)) rfl rfl rfl ?_;refine Z8 ?_;refine eQ O ?_;clear O;refine dK [2] [7] 7 [(2, V1 (dLs ls))] [] rfl ?_ trivial ?_
  ·exact ⟨cT (List.nil_append _) (by simp), trivial⟩
  exact ah aT
set_option maxHeartbeats 1000000 in
theorem uq (ns : List RW) (ls : List LK) (ok : ∀ r ∈ ns, r.OK 268435456) (hn : ns.length <= 1048576) (hl : ls.length <= 1048576) : Con Tryz.prog 15 [.pd [dRs ns, dLs ls]] { v := AG (GR.mk (ns.map fun r => pz2 r.cn) ls).cs } := by
 have cC := qB ls hl
 refine Z3 Tryz.func15 ?_
 intro w0 X
 rw [aq _ _ [(0, .pd [dRs ns, dLs ls])] rfl rfl];refine gQ fun _ O=>?_;refine aw rfl rfl rfl rfl rfl rfl ?_;refine eQ O ?_;clear O;refine ag ?_;refine aU fun _ O=>?_;refine aa tok rfl ?_;refine Z9 ?_;refine ab ?_;refine Ek (e := 101) rfl rfl rfl (by kernel_rfl) ?_;refine aM rfl (O _ ?_); clear O;refine ap rfl (fun h => by cases h) (fun _ => ?_);refine ak ?_;show AWP _ _ _ _ _ _;refine aU fun _ O=>?_;refine aa tok rfl ?_;refine Z9 ?_;refine ab ?_;refine CF rfl rfl rfl ?_;refine aa tok rfl ?_;refine Z5 ?_;refine ab ?_;refine aa tok rfl ?_;refine Z5 ?_;refine ab ?_;refine aa tok rfl ?_;refine Z7 ?_;refine ab ?_;refine aa tok rfl ?_;refine ac rfl rfl (cC) rfl rfl rfl rfl ?_;refine ab ?_;refine aa tok rfl ?_;refine aI rfl rfl rfl ?_;refine ab ?_;refine aa tok rfl ?_;refine aw rfl rfl rfl rfl rfl rfl ?_;refine ab ?_;refine aa tok rfl ?_;refine aj rfl rfl rfl rfl rfl ?_;refine ab ?_;refine aM rfl (O _ ?_); clear O;refine ag ?_;refine aU fun _ O=>?_;refine aa tok rfl ?_;refine Z9 ?_;refine ab ?_;refine CF rfl rfl rfl ?_;refine aa tok rfl ?_;refine Z5 ?_;refine ab ?_;refine aa tok rfl ?_;refine Z5 ?_;refine ab ?_;refine aa tok rfl ?_;refine Z7 ?_;refine ab ?_;refine aa tok rfl ?_;refine az rfl (bD RW.dc rfl rfl) rfl ?_;refine ab ?_;refine aa tok rfl ?_;refine Z9 ?_;refine ab ?_;refine aM rfl (O _ ?_); clear O;refine al (aS (α := Nat) (fun i => mk 35 [(2, .ptr 2 0), (3, .ptr 3 0), (20, V1 (dRs ns)), (21, dI ns.length), (22, dI i)] [(2, some (.box [.nil, .nil])), (3, some (.box [DI 200 4 i, .d (dLs ls)])), (200, dJ 4 (((ns.take i).map fun r => pz2 r.cn).map RW.dc) i)] [3]) (fun i => i <= ns.length) (fun i => ns.length - i) 0 ?_ (Nat.zero_le _) ?_)
 ·exact Wk.trans (Wk.rbE rfl) (Wk.mk' ⟨rfl, rfl, rfl, rfl, rfl, trivial⟩ ⟨rfl, rfl, rfl, trivial⟩)
 intro i hi
 refine gQ fun _ O=>?_;refine Z6 ?_;refine eQ O ?_;clear O;refine ag ?_;refine ap rfl (fun hg => ?_) (fun hg => ?_)
 ·have hg : i < ns.length := by simp at hg; omega
  have cN := lA ns[i] (ok _ (List.getElem_mem hg))
  have n1 : ((ns.take i).map fun r => pz2 r.cn).map RW.dc ++ [(pz2 (ns[i]).cn).dc] = ((ns.take (i + 1)).map fun r => pz2 r.cn).map RW.dc := by
   rw [List.take_succ_eq_append_getElem hg, List.map_append, List.map_append]; rfl
  have z1 : (((ns.take i).map fun r => pz2 r.cn).map RW.dc).length = i := by simp; omega
  generalize pz2 (ns[i]).cn = q at cN n1;generalize ((ns.take i).map fun r => pz2 r.cn).map RW.dc = es at n1 z1 ⊢;refine ak ?_;show AWP _ _ _ _ _ _;refine ag ?_;refine al ?_
  rcases i with _ | i
  ·refine gQ fun _ O=>?_;refine ae rfl (x_m RW.dc rfl rfl rfl rfl hg rfl) rfl ?_;refine Z7 ?_;refine aw rfl rfl rfl rfl rfl rfl ?_;refine aj rfl rfl rfl rfl rfl ?_;refine eQ O ?_;clear O;refine br tok mixed (A := [[], [], [], [], [2], [0, 2], [], []]) (an := [{}, {}, {}, {}, {}, {}, {}, {}]) rfl (by kernel_rfl) rfl fun _ O=>?_;refine Z5 ?_;refine Z7 ?_;refine Z7 ?_;refine ac rfl rfl (cN) rfl rfl rfl rfl ?_;refine ax rfl rfl rfl rfl ?_;refine aN rfl (eu rfl rfl rfl rfl rfl (by decide) (Nat.le_of_ble_eq_true rfl) rfl (by simp) rfl (by simp) (by simp)) rfl rfl rfl ?_;refine Z5 ?_;refine bT rfl rfl rfl rfl rfl ?_;refine eQ O ?_;clear O;show AWP _ _ _ _ _ _;refine gR fun _ O=>?_;refine av rfl (aP (c := ((0 + 1 : Nat) : Int)) (by omega) (by omega)) rfl ?_;refine Z9 ?_;refine eQ O ?_;clear O;refine ⟨0 + 1, by omega, hg, Wk.rnB [2, 3, 20, 21, 22] [2, 3, 31] 31 200 rfl rfl rfl ⟨rfl, rfl, rfl, rfl, rfl, trivial⟩ ⟨rfl, ?_, ?_, trivial⟩ rfl⟩
   ·first
     | rfl
     | (show some (OO.box [.own 200 4 0 _, _]) = _
        rw [List.length_append, z1]; rfl)
   ·first
     | (rw [<- n1, List.length_eq_zero_iff.1 z1]; rfl)
     | (rw [<- n1]; rfl)
  ·refine gQ fun _ O=>?_;refine ae rfl (x_m RW.dc rfl rfl rfl rfl hg rfl) rfl ?_;refine Z7 ?_;refine aw rfl rfl rfl rfl rfl rfl ?_;refine aj rfl rfl rfl rfl rfl ?_;refine eQ O ?_;clear O;refine br tok mixed (A := [[], [], [], [], [2], [0, 2], [], []]) (an := [{}, {}, {}, {}, {}, {}, {}, {}]) rfl (by kernel_rfl) rfl fun _ O=>?_;refine Z5 ?_;refine Z7 ?_;refine Z7 ?_;refine ac rfl rfl (cN) rfl rfl rfl rfl ?_;refine ax rfl rfl rfl rfl ?_;refine aN rfl (et rfl rfl rfl rfl rfl rfl (by decide) (Nat.le_of_ble_eq_true rfl) rfl (by simp) rfl rfl z1.symm (by simp <;> omega)) rfl rfl rfl ?_;refine Z5 ?_;refine bT rfl rfl rfl rfl rfl ?_;refine eQ O ?_;clear O;show AWP _ _ _ _ _ _;refine gR fun _ O=>?_;refine av rfl (aP (c := ((i + 1 + 1 : Nat) : Int)) (by omega) (by omega)) rfl ?_;refine Z9 ?_;refine eQ O ?_;clear O;refine ⟨i + 1 + 1, by omega, hg, Wk.rnB [2, 3, 20, 21, 22] [2, 3, 31] 31 200 rfl rfl rfl ⟨rfl, rfl, rfl, rfl, rfl, trivial⟩ ⟨rfl, ?_, ?_, trivial⟩ rfl⟩
   ·first
     | rfl
     | (show some (OO.box [.own 200 4 0 _, _]) = _
        rw [List.length_append, z1]; rfl)
   ·first
     | (rw [<- n1, List.length_eq_zero_iff.1 z1]; rfl)
     | (rw [<- n1]; rfl)
 have hg : i = ns.length := by simp at hg; omega
 subst hg
 rw [List.take_length]
 have zL : (ns.map fun r => pz2 r.cn).length = ns.length := List.length_map _
 rw [<- zL];generalize (ns.map fun r => pz2 r.cn) = LL;refine aD ?_;show AWP _ _ _ _ _ _
 rcases LL with _ | ⟨l, LL⟩
 ·refine gQ fun _ O=>?_;refine Z7 ?_;refine aj rfl rfl rfl rfl rfl ?_;refine eQ O ?_;clear O;exact ah aT
 ·refine dK [2, 3] [2, 3, 200] 200 [(2, .ptr 2 0), (3, .ptr 3 0)] [(2, some (.box [.nil, .nil])), (3, some (.box (GR.mk (l :: LL) ls).cs))] rfl ⟨rfl, rfl, trivial⟩ ⟨rfl, ?_, trivial⟩ ?_
  ·show some (OO.box [gF 200 4 _ (.own 200 4 0 _), _]) = _
   rw [gu rfl (by simp)]; rfl
  refine gQ fun _ O=>?_;refine Z7 ?_;refine aj rfl rfl rfl rfl rfl ?_;refine eQ O ?_;clear O;exact ah aT

/-! ### Worst -/
def wrN (q : Nat -> Rat) : Nat -> Nat
 | 0 => 0
 | k + 1 => if q (wrN q k) < q k then k else wrN q k
theorem yl (q : Nat -> Rat) : ∀ {k n : Nat}, k <= n -> 0 < n -> wrN q k < n
 | 0, _, _, h => h
 | k + 1, n, h, hn => by
  rw [wrN]; split
  ·omega
  ·exact yl q (by omega) hn
def csN (g : GR) (s : List SP) (i : Nat) : Rat := csT g s (g.links.getD i ⟨0, 0, 0, 0, 0⟩)
def uv (g : GR) (s : List SP) : Int × RW × Int :=
 if jd g s = true then (if g.links.length = 0 then (0, er, 7) else ((wrN (csN g s) g.links.length : Nat), qzW (csN g s (wrN (csN g s) g.links.length)), 0)) else (0, er, 1)
theorem zk (x y : Rat) : rJ x y <= 0 ↔ x <= y := by
 have z : ∀ x y : Int, kD x y <= 0 ↔ x <= y := fun x y => by unfold kD; (repeat' split) <;> omega
 unfold rJ
 rw [z, Rat.le_iff]
theorem zm (x y : Rat) : decide (rJ x y > 0) = decide (y < x) := by
 rw [Bool.eq_iff_iff, decide_eq_true_eq, decide_eq_true_eq]
 have := zk x y
 constructor
 ·intro h
  exact Rat.not_le.1 fun h' => by have := this.2 h'; omega
 ·intro h
  have h' := Rat.not_le.2 h
  have : ¬ rJ x y <= 0 := fun h2 => h' (this.1 h2)
  omega
def pS (q : Nat -> Rat) (i : Nat) : Int := if i = 0 then -1 else (wrN q i : Nat)
def zcs : List SC := [.d (.lit (.bool false)), .nil, .d (.lit (.bool false)), .nil]
def ph (q : Nat -> Rat) (i : Nat) : List SC := if i = 0 then zcs else (qzW (q (wrN q i))).cs
set_option maxHeartbeats 1000000 in
theorem DX (g : GR) (s : List SP) (ok : ∀ r ∈ g.nodes, r.OK 4096) (os : ∀ p ∈ s, p.OK 4096) : Con Tryz.prog 43 [AG g.cs, V1 (dSs s)] { v := .tup [.one (.d (lI (uv g s).1)), .agg (uv g s).2.1.cs, .one (.d (lI (uv g s).2.2))] } := by
 have cR := AV g s
 refine Z3 Tryz.func43 ?_
 intro w0 X
 rw [aq _ _ [(0, AG g.cs), (1, V1 (dSs s))] rfl rfl];refine gQ fun _ O=>?_;refine aG rfl rfl rfl rfl rfl rfl ?_;refine Z8 ?_;refine aw rfl rfl rfl rfl rfl rfl ?_;refine Z8 ?_;refine eQ O ?_;clear O;refine ag ?_;refine al ?_;refine gQ fun _ O=>?_;refine Z7 ?_;refine Z9 ?_;refine ac rfl rfl (cR) rfl rfl rfl rfl ?_;refine dr rfl rfl rfl ?_;refine Z8 ?_;refine eQ O ?_;clear O;refine ap rfl (fun hc => ?_) (fun hc => ?_)
 ·rw [Bool.not_eq_true'] at hc
  have e : uv g s = (0, er, 1) := by rw [uv, if_neg (by rw [hc]; simp)]
  rw [e];refine gQ fun _ O=>?_;refine aI rfl rfl rfl ?_;refine Z8 ?_;refine aj rfl rfl rfl rfl rfl ?_;refine Z8 ?_;refine eQ O ?_;clear O;exact ah aT
 rw [Bool.not_eq_false'] at hc
 have h := ku.1 hc
 have gv := h.gv
 have l48 := gv.l
 rw [uv, if_pos hc];refine gQ fun _ O=>?_;refine Z5 ?_;refine Z7 ?_;refine az rfl (bD LK.dc rfl rfl) rfl ?_;refine av rfl (CX _ 0) rfl ?_;refine Z8 ?_;refine eQ O ?_;clear O;refine ap rfl (fun hd => ?_) (fun hd => ?_)
 ·rw [if_pos (of_decide_eq_true hd)];refine gQ fun _ O=>?_;refine aI rfl rfl rfl ?_;refine Z8 ?_;refine aj rfl rfl rfl rfl rfl ?_;refine Z8 ?_;refine eQ O ?_;clear O;exact ah aT
 have hd := of_decide_eq_false hd
 rw [if_neg hd];refine ak ?_;show AWP _ _ _ _ _ _;refine gQ fun _ O=>?_;refine aI rfl rfl rfl ?_;refine aw rfl rfl rfl rfl rfl rfl ?_;refine Z8 ?_;refine aj rfl rfl rfl rfl rfl ?_;refine eQ O ?_;clear O;refine ag ?_;refine gQ fun _ O=>?_;refine Z5 ?_;refine Z7 ?_;refine az rfl (bD LK.dc rfl rfl) rfl ?_;refine Z9 ?_;refine eQ O ?_;clear O;refine al (aS (α := Nat) (fun i => mk 71 [(1, V1 (dSs s)), (2, .ptr 2 0), (5, .ptr 5 0), (7, dI (pS (csN g s) i)), (8, .ptr 8 0), (28, V1 (dLs g.links)), (29, dI g.links.length), (30, dI i)] [(2, some (.box g.cs)), (5, some (.box zcs)), (8, some (.box (ph (csN g s) i)))] []) (fun i => i <= g.links.length) (fun i => g.links.length - i) 0 ?_ (Nat.zero_le _) ?_)
 ·have b0 : pS (csN g s) 0 = -1 := if_pos rfl
  have b1 : ph (csN g s) 0 = zcs := if_pos rfl
  simp only [b0, b1];exact Wk.mk' ⟨rfl, rfl, rfl, rfl, rfl, rfl, rfl, rfl, trivial⟩ ⟨rfl, rfl, rfl, trivial⟩
 intro i hi
 refine gQ fun _ O=>?_;refine Z6 ?_;refine eQ O ?_;clear O;refine ag ?_;refine ap rfl (fun hg => ?_) (fun hg => ?_)
 ·have hg : i < g.links.length := by simp at hg; omega
  obtain ⟨l, hl⟩ : ∃ l, l = g.links[i] := ⟨_, rfl⟩
  have hm : l ∈ g.links := hl ▸ List.getElem_mem hg
  have lv := gLV gv l hm
  have o := uG h hm ok os
  have cR := tU g s (i : Int) (fun r hr => (ok r hr).mono rfl) (fun p hp => (os p hp).mono rfl)
  have eR : pY g s (i : Int) = (rsG g s l, 0) := by
   rw [pY, if_pos hc, dif_pos ⟨by omega, by simpa using hg⟩];simp only [Int.toNat_natCast, <- hl]
  rw [eR] at cR
  have eq1 : csN g s i = ((rsG g s l).vx * (rsG g s l).vx + (rsG g s l).vy * (rsG g s l).vy) * ((l.w : Int) : Rat) := by
   unfold csN; rw [List.getD_eq_getElem?_getD, List.getElem?_eq_getElem hg, <- hl]; rfl
  have hql : ∀ k, k < g.links.length -> ql (csN g s k) <= 98400 := fun k hk => by
   unfold csN; rw [List.getD_eq_getElem?_getD, List.getElem?_eq_getElem hk]
   exact vC h (List.getElem_mem hk) ok os
  have hwr := yl (csN g s) hi (by omega)
  have qi := hql i hg
  have qw := hql _ hwr
  have ws : wrN (csN g s) (i + 1) = if csN g s (wrN (csN g s) i) < csN g s i then i else wrN (csN g s) i := rfl
  generalize rsG g s l = r at cR o eq1
  have x1 := o.qx rfl
  have x2 := o.qy rfl
  have m1 := aO x1 x1
  have m2 := aO x2 x2
  have m3 := bC m1 m2
  have c1 := mz r.x r.x (r.vx * r.vx) (o.x.mono rfl) (o.x.mono rfl) rfl
  have c2 := mz r.y r.y (r.vy * r.vy) (o.y.mono rfl) (o.y.mono rfl) rfl
  have c3 := DB (qzW (r.vx * r.vx)) (qzW (r.vy * r.vy)) (r.vx * r.vx + r.vy * r.vy) ((bi m1).mono rfl) ((bi m2).mono rfl) (by rw [bA, bA])
  have c4 := jq l.w lv.iw
  have c5 := mz (qzW (r.vx * r.vx + r.vy * r.vy)) (qzW ((l.w : Int) : Rat)) (csN g s i) ((bi m3).mono rfl) ((bi (dQ lv.iw)).mono rfl) (by rw [bA, bA, eq1])
  have c6 := zp (qzW (csN g s i)) (qzW (csN g s (wrN (csN g s) i))) ((bi qi).mono rfl) ((bi qw).mono rfl)
  rw [bA, bA] at c6
  have hgt := zm (csN g s i) (csN g s (wrN (csN g s) i))
  have b1 : ∀ k, pS (csN g s) (k + 1) = (wrN (csN g s) (k + 1) : Nat) := fun k => if_neg (by omega)
  have b2 : ∀ k, ph (csN g s) (k + 1) = (qzW (csN g s (wrN (csN g s) (k + 1)))).cs := fun k => if_neg (by omega)
  refine ak ?_;show AWP _ _ _ _ _ _;refine ag ?_;refine al ?_;refine gQ fun _ O=>?_;refine Z9 ?_;refine ae rfl (x_m LK.dc rfl rfl rfl rfl hg rfl) rfl ?_;refine Z7 ?_;refine aw rfl rfl rfl rfl rfl rfl ?_;refine Z8 ?_;refine aj rfl rfl rfl rfl rfl ?_;refine eQ O ?_;clear O;rw [<- hl];refine gQ fun _ O=>?_;refine Z7 ?_;refine Z9 ?_;refine Z9 ?_;refine ac rfl rfl (cR) rfl rfl rfl rfl ?_;refine Z9 ?_;refine au rfl rfl rfl ?_;refine au rfl rfl rfl ?_;refine aw rfl rfl rfl rfl rfl rfl ?_;refine aj rfl rfl rfl rfl rfl ?_;refine Z8 ?_;refine eQ O ?_;clear O;refine aL tok mixed (A := [[], [], [], [], [0, 2], [], [], [], [], [0, 1, 2, 3, 5, 7], [0, 1, 2, 3, 5, 6, 7, 8], [], []]) (an := [{}, {}, {}, {}, {}, { c := [46] }, { c := [46] }, { c := [46] }, { c := [46] }, {}, {}, { c := [46, 51, 52] }, {}]) rfl (by kernel_rfl) rfl fun _ O=>?_;refine Z5 ?_;refine Z7 ?_;refine Z5 ?_;refine Z7 ?_;refine ac rfl rfl (c1) rfl rfl rfl rfl ?_;refine Z5 ?_;refine Z7 ?_;refine Z5 ?_;refine Z7 ?_;refine ac rfl rfl (c2) rfl rfl rfl rfl ?_;refine ac rfl rfl (c3) rfl rfl rfl rfl ?_;refine aw rfl rfl rfl rfl rfl rfl ?_;refine aj rfl rfl rfl rfl rfl ?_;refine eQ O ?_;clear O;refine aL tok mixed (A := [[], [], [], [1], [1, 2], []]) (an := [{}, {}, {}, {}, {}, {}]) rfl (by kernel_rfl) rfl fun _ O=>?_;refine Z7 ?_;refine Z5 ?_;refine Z7 ?_;refine ac rfl rfl (c4) rfl rfl rfl rfl ?_;refine ac rfl rfl (c5) rfl rfl rfl rfl ?_;refine aj rfl rfl rfl rfl rfl ?_;refine eQ O ?_;clear O
  rcases i with _ | i
  ·have w1 : wrN (csN g s) (0 + 1) = 0 := by rw [ws]; split <;> rfl
   have b0 : pS (csN g s) 0 = -1 := if_pos rfl
   have b3 : ph (csN g s) 0 = zcs := if_pos rfl
   rw [b0, b3];refine gQ fun _ O=>?_;refine Z9 ?_;refine Z6 ?_;refine Z9 ?_;refine aA rfl ?_;refine aA rfl ?_;refine aA rfl ?_;refine aA rfl ?_;refine Z4 ?_;refine eQ O ?_;clear O;refine ap rfl (fun _ => ?_) (fun h => by cases h);refine br tok mixed (A := [[], [], [], []]) (an := [{}, {}, {}, {}]) rfl (by kernel_rfl) rfl fun _ O=>?_;refine Z9 ?_;refine Z7 ?_;refine Z8 ?_;refine aj rfl rfl rfl rfl rfl ?_;refine eQ O ?_;clear O;show AWP _ _ _ _ _ _;refine gR fun _ O=>?_;refine av rfl (aP (c := ((0 + 1 : Nat) : Int)) (by omega) (by omega)) rfl ?_;refine Z9 ?_;refine eQ O ?_;clear O;refine ⟨0 + 1, by omega, hg, ?_⟩
   have a1 : pS (csN g s) (0 + 1) = ((0 : Nat) : Int) := by rw [pS, if_neg (by omega), w1]
   have a2 : ph (csN g s) (0 + 1) = (qzW (csN g s 0)).cs := by rw [ph, if_neg (by omega), w1]
   rw [a1, a2];exact Wk.mk' ⟨rfl, rfl, rfl, rfl, rfl, rfl, rfl, rfl, trivial⟩ ⟨rfl, rfl, rfl, trivial⟩
  ·rw [b1, b2];generalize hw0 : wrN (csN g s) (i + 1) = w0' at *;generalize rJ (csN g s (i + 1)) (csN g s w0') = kk at c6 hgt;refine gQ fun _ O=>?_;refine Z9 ?_;refine av rfl (mc (c := false) (decide_eq_false (by omega))) rfl ?_;refine Z9 ?_;refine Z7 ?_;refine Z7 ?_;refine ac rfl rfl (c6) rfl rfl rfl rfl ?_;refine av rfl (EM hgt) rfl ?_;refine Z4 ?_;refine eQ O ?_;clear O;refine ap rfl (fun he => ?_) (fun he => ?_)
   ·rw [if_pos (of_decide_eq_true he)] at ws;refine br tok mixed (A := [[], [], [], []]) (an := [{}, {}, {}, {}]) rfl (by kernel_rfl) rfl fun _ O=>?_;refine Z9 ?_;refine Z7 ?_;refine Z8 ?_;refine aj rfl rfl rfl rfl rfl ?_;refine eQ O ?_;clear O;show AWP _ _ _ _ _ _;refine gR fun _ O=>?_;refine av rfl (aP (c := ((i + 1 + 1 : Nat) : Int)) (by omega) (by omega)) rfl ?_;refine Z9 ?_;refine eQ O ?_;clear O;refine ⟨i + 1 + 1, by omega, hg, ?_⟩;rw [b1, b2, ws];exact Wk.mk' ⟨rfl, rfl, rfl, rfl, rfl, rfl, rfl, rfl, trivial⟩ ⟨rfl, rfl, rfl, trivial⟩
   ·rw [if_neg (of_decide_eq_false he)] at ws;refine ak ?_;show AWP _ _ _ _ _ _;refine gR fun _ O=>?_;refine av rfl (aP (c := ((i + 1 + 1 : Nat) : Int)) (by omega) (by omega)) rfl ?_;refine Z9 ?_;refine eQ O ?_;clear O;refine ⟨i + 1 + 1, by omega, hg, ?_⟩;rw [b1, b2, ws];exact Wk.mk' ⟨rfl, rfl, rfl, rfl, rfl, rfl, rfl, rfl, trivial⟩ ⟨rfl, rfl, rfl, trivial⟩
 have hg : i = g.links.length := by simp at hg; omega
 subst hg
 have a1 : pS (csN g s) g.links.length = (wrN (csN g s) g.links.length : Nat) := if_neg hd
 have a2 : ph (csN g s) g.links.length = (qzW (csN g s (wrN (csN g s) g.links.length))).cs := if_neg hd
 rw [a1, a2];refine aD ?_;show AWP _ _ _ _ _ _;refine aL tok mixed (A := [[], [], [], [], []]) (an := [{}, {}, {}, {}, {}]) rfl (by kernel_rfl) rfl fun _ O=>?_;refine Z9 ?_;refine Z7 ?_;refine Z8 ?_;refine aj rfl rfl rfl rfl rfl ?_;refine Z8 ?_;refine eQ O ?_;clear O;exact ah aT
end Go.Proofs.YtceacleokgoooaaGreatDoor

/- adjust: the methods of an adjuster that is an own variable with two own arrays. No condition. -/
namespace Go.Proofs.YtceacleokgoooaaGreatDoor
attribute [local irreducible] aF
open Go.RowKit

theorem gJ {T : Tab} {t : TypeId} {a b : Int} {c : Bool} (h : decide (a >= b) = c) : aR T .geq t (dI a) (dI b) = .set (dB c) := by subst h; rfl

def lkC : Bool -> Nat -> SC
 | false, _ => .nil
 | true, n => .own 997 5 0 n
def adS (b : Bool) (ns es : List (List DC)) : List (Nat × Option OO) :=
 (999, some (.box [.own 998 4 0 ns.length, lkC b es.length])) :: (998, some (.arr 4 ns)) :: (match b with | true => [(997, some (.arr 5 es))] | false => [])
theorem jD (b : Bool) (ns es : List (List DC)) : ∀ id cs, so (adS b ns es) id = some (.box cs) -> id ∉ [999] -> ∀ k, cs.all (SC.noRef k) = true := by
 intro id cs h hn
 have h9 : 999 ≠ id := fun e => hn (by rw [e]; exact List.mem_singleton.2 rfl)
 cases b <;> (simp only [adS, aJ] at h; (repeat' split at h) <;> first | (exact absurd ‹_› h9) | cases h)
theorem cb {T : Tab} {fn : Func} {r : SV} {S' : List (Nat × Option OO)} {st : St} {n : Nat} {E' : List (Nat × SV)} {rb : List Nat} {xs : List VV} (hw : Wk st (mk n E' S' rb)) (hx : nD T (mk n E' S' rb) fn.results.toList = some xs) (hr : r = nj xs) : AW T fn r S' .ret st := ⟨_, hw, rfl, Or.inl ⟨xs, hx, hr⟩⟩
def QN (r : RW) : RW := pz2 r.cn

set_option maxHeartbeats 1000000 in
theorem B2 (b : Bool) (ns es : List (List DC)) (r : RW) (ok : r.OK 268435456) (hn : ns.length < 16) :
  jL Tryz.prog 11 [.ptr 999 0, AG r.cs] (adS b ns es) (.tup [.one (.d (lI ns.length)), .one (.d (lI 0))]) (adS b (ns ++ [(QN r).dc]) es) := by
 have cN := lA r ok
 change Con _ _ _ { v := AG (QN r).cs } at cN
 generalize QN r = q at cN ⊢;refine c7 (rb := [999]) (fn := Tryz.f11) tok Tryz.func11 (by kernel_rfl) rfl (jD _ _ _) ?_
 intro w0 X _
 rw [dC _ _ _ _ [(0, .ptr 999 0), (1, AG r.cs)] rfl rfl]
 unfold adS lkC
 cases b
 ·refine gQ fun _ O=>?_;refine aG rfl rfl rfl rfl rfl rfl ?_;refine Z8 ?_;refine Z8 ?_;refine eQ O ?_;clear O;refine ag ?_;refine al ?_;refine gQ fun _ O=>?_;refine Z9 ?_;refine Z6 ?_;refine Z8 ?_;refine eQ O ?_;clear O;refine ap rfl (fun h => by cases h) (fun _ => ?_);refine gQ fun _ O=>?_;refine Z9 ?_;refine aQ rfl rfl rfl ?_;refine Z5 ?_;refine Z5 ?_;refine Z7 ?_;refine az rfl rfl rfl ?_;refine av rfl (gJ (c := false) (decide_eq_false (by omega))) rfl ?_;refine Z8 ?_;refine eQ O ?_;clear O;refine ap rfl (fun h => by cases h) (fun _ => ?_);refine ak ?_;show AWP _ _ _ _ _ _;refine gA jP mixed (m := 10) (A := [[], [], [], [1], [1, 2], [1, 2, 3], [], [], [6], [1, 2, 3, 4, 6], [], [], [10], [10, 11]]) (an := [{}, {}, {}, {}, {}, {}, {}, {}, {}, {}, {}, {}, {}, {}]) rfl rfl (by kernel_rfl) (by kernel_rfl) (by kernel_rfl) rfl fun _ O=>?_;refine Z9 ?_;refine Z9 ?_;refine aQ rfl rfl rfl ?_;refine Z5 ?_;refine Z5 ?_;refine Z7 ?_;refine Z7 ?_;refine ac rfl rfl (cN) rfl rfl rfl rfl ?_;refine cZ rfl rfl rfl rfl ?_;refine aN rfl (et rfl rfl rfl rfl rfl rfl (by decide) (Nat.le_of_ble_eq_true rfl) rfl (by simp) rfl rfl rfl (by simp <;> omega)) rfl rfl rfl ?_;refine ab ?_;refine aa jP rfl ?_;refine aQ rfl rfl rfl ?_;refine ab ?_;refine aa jP rfl ?_;refine Z5 ?_;refine ab ?_;refine aa jP rfl ?_;refine Z5 ?_;refine ab ?_;refine aa jP rfl ?_;refine bT rfl rfl rfl rfl rfl ?_;refine ab ?_;refine aM rfl (O _ ?_); clear O;refine aB jP fun _ O=>?_;refine Z9 ?_;refine aQ rfl rfl rfl ?_;refine Z5 ?_;refine Z5 ?_;refine Z7 ?_;refine az rfl rfl rfl ?_;refine av rfl (bZ (c := ((ns.length : Nat) : Int)) (by simp) (by omega)) rfl ?_;refine Z8 ?_;refine Z8 ?_;refine eQ O ?_;clear O;refine ah ?_;exact cb (rb := [999]) (E' := [(4, dI ns.length), (5, dI 0)]) (Wk.rnB [4, 5] [999, 26] 26 998 rfl rfl rfl ⟨rfl, rfl, trivial⟩ ⟨rfl, rfl, trivial⟩ rfl) rfl rfl
 ·refine gQ fun _ O=>?_;refine aG rfl rfl rfl rfl rfl rfl ?_;refine Z8 ?_;refine Z8 ?_;refine eQ O ?_;clear O;refine ag ?_;refine al ?_;refine gQ fun _ O=>?_;refine Z9 ?_;refine Z6 ?_;refine Z8 ?_;refine eQ O ?_;clear O;refine ap rfl (fun h => by cases h) (fun _ => ?_);refine gQ fun _ O=>?_;refine Z9 ?_;refine aQ rfl rfl rfl ?_;refine Z5 ?_;refine Z5 ?_;refine Z7 ?_;refine az rfl rfl rfl ?_;refine av rfl (gJ (c := false) (decide_eq_false (by omega))) rfl ?_;refine Z8 ?_;refine eQ O ?_;clear O;refine ap rfl (fun h => by cases h) (fun _ => ?_);refine ak ?_;show AWP _ _ _ _ _ _;refine gA jP mixed (m := 10) (A := [[], [], [], [1], [1, 2], [1, 2, 3], [], [], [6], [1, 2, 3, 4, 6], [], [], [10], [10, 11]]) (an := [{}, {}, {}, {}, {}, {}, {}, {}, {}, {}, {}, {}, {}, {}]) rfl rfl (by kernel_rfl) (by kernel_rfl) (by kernel_rfl) rfl fun _ O=>?_;refine Z9 ?_;refine Z9 ?_;refine aQ rfl rfl rfl ?_;refine Z5 ?_;refine Z5 ?_;refine Z7 ?_;refine Z7 ?_;refine ac rfl rfl (cN) rfl rfl rfl rfl ?_;refine cZ rfl rfl rfl rfl ?_;refine aN rfl (et rfl rfl rfl rfl rfl rfl (by decide) (Nat.le_of_ble_eq_true rfl) rfl (by simp) rfl rfl rfl (by simp <;> omega)) rfl rfl rfl ?_;refine ab ?_;refine aa jP rfl ?_;refine aQ rfl rfl rfl ?_;refine ab ?_;refine aa jP rfl ?_;refine Z5 ?_;refine ab ?_;refine aa jP rfl ?_;refine Z5 ?_;refine ab ?_;refine aa jP rfl ?_;refine bT rfl rfl rfl rfl rfl ?_;refine ab ?_;refine aM rfl (O _ ?_); clear O;refine aB jP fun _ O=>?_;refine Z9 ?_;refine aQ rfl rfl rfl ?_;refine Z5 ?_;refine Z5 ?_;refine Z7 ?_;refine az rfl rfl rfl ?_;refine av rfl (bZ (c := ((ns.length : Nat) : Int)) (by simp) (by omega)) rfl ?_;refine Z8 ?_;refine Z8 ?_;refine eQ O ?_;clear O;refine ah ?_;exact cb (rb := [999]) (E' := [(4, dI ns.length), (5, dI 0)]) (Wk.rnB [4, 5] [999, 26, 997] 26 998 rfl rfl rfl ⟨rfl, rfl, trivial⟩ ⟨rfl, rfl, rfl, trivial⟩ rfl) rfl rfl

theorem mg {S : List (Nat × Option OO)} {ns : List (List DC)} {c2 : SC} {d2 : DC} (h1 : so S 998 = some (.arr 4 ns)) (h2 : dZ ⟨[], so S, []⟩ c2 = some d2) : b6 ⟨[], so S, []⟩ [.val (.agg [.own 998 4 0 ns.length, c2])] = some [.val (.agg [.d (.sl ns), .d d2])] := by
 have h3 : dZ ⟨[], so S, []⟩ (.own 998 4 0 ns.length) = some (.sl ns) := by
  unfold dZ
  show (match so S 998 with | some (.arr sz' es) => if sz' = 4 /\ 0 + ns.length <= es.length then some (DC.sl ((es.drop 0).take ns.length)) else none | _ => none) = _
  rw [h1]
  show (if 4 = 4 /\ 0 + ns.length <= ns.length then some (DC.sl ((ns.drop 0).take ns.length)) else none) = _
  rw [if_pos ⟨rfl, by omega⟩]; simp
 unfold b6 gL
 show (match (match bU _ [.own 998 4 0 ns.length, c2] with | some ds => some (SV.val (.agg ds)) | none => none), b6 _ [] with | some y, some ys => some (y :: ys) | _, _ => none) = _
 unfold bU
 rw [h3]
 unfold bU
 rw [h2]
 rfl

set_option maxHeartbeats 1000000 in
theorem zX (b : Bool) (ns : List RW) (es : List (List DC)) (l : LK) (hv : bG (.mk ns [l]) = false) :
  jL Tryz.prog 12 [.ptr 999 0, AG l.cs] (adS b (ns.map RW.dc) es) (dI 1) (adS b (ns.map RW.dc) es) := by
 have cV := ii (.mk ns [l])
 rw [hv] at cV;refine c7 (rb := [999]) (fn := Tryz.f12) tok Tryz.func12 (by kernel_rfl) rfl (jD _ _ _) ?_
 intro w0 X _
 rw [dC _ _ _ _ [(0, .ptr 999 0), (1, AG l.cs)] rfl rfl]
 unfold adS lkC
 cases b
 ·refine gQ fun _ O=>?_;refine aG rfl rfl rfl rfl rfl rfl ?_;refine Z8 ?_;refine eQ O ?_;clear O;refine ag ?_;refine al ?_;refine aL tok mixed (A := [[], [], [0], [0, 1], [0, 1], [0, 1, 3], [0, 1, 3, 4], [0, 1, 3, 4, 5], [0, 1], [0, 1], [0, 1, 3, 4, 5, 6, 8], [0, 1, 3, 4, 5, 6, 7, 8, 9], [0, 1, 3, 4, 5, 6, 7, 8, 9, 10], [0, 1, 3, 4, 5, 6, 7, 8, 9, 10, 11], [0, 1, 2, 3, 4, 5, 6, 7, 8, 9, 10, 12]]) (an := [{}, {}, {}, {}, {}, {}, {}, {}, {}, {}, {}, {}, {}, {}, {}]) rfl (by kernel_rfl) rfl fun _ O=>?_;refine Z9 ?_;refine Z6 ?_;refine Z9 ?_;refine Z9 ?_;refine aQ rfl rfl rfl ?_;refine Z5 ?_;refine Z5 ?_;refine Z7 ?_;refine Z7 ?_;refine ax rfl rfl rfl rfl ?_;refine aI rfl rfl rfl ?_;refine iz rfl (mg rfl rfl) (cV) ⟨rfl, fun _ _ h => by cases h⟩ rfl rfl rfl ?_;refine dr rfl rfl rfl ?_;refine Z4 ?_;refine Z8 ?_;refine eQ O ?_;clear O;refine ap rfl (fun _ => ?_) (fun h => by cases h);refine gQ fun _ O=>?_;refine Z8 ?_;refine eQ O ?_;clear O;refine ah ?_;exact cb (rb := [999]) (E' := [(4, dI 1)]) (Wk.mk' ⟨rfl, trivial⟩ ⟨rfl, rfl, trivial⟩) rfl rfl
 ·refine gQ fun _ O=>?_;refine aG rfl rfl rfl rfl rfl rfl ?_;refine Z8 ?_;refine eQ O ?_;clear O;refine ag ?_;refine al ?_;refine aL tok mixed (A := [[], [], [0], [0, 1], [0, 1], [0, 1, 3], [0, 1, 3, 4], [0, 1, 3, 4, 5], [0, 1], [0, 1], [0, 1, 3, 4, 5, 6, 8], [0, 1, 3, 4, 5, 6, 7, 8, 9], [0, 1, 3, 4, 5, 6, 7, 8, 9, 10], [0, 1, 3, 4, 5, 6, 7, 8, 9, 10, 11], [0, 1, 2, 3, 4, 5, 6, 7, 8, 9, 10, 12]]) (an := [{}, {}, {}, {}, {}, {}, {}, {}, {}, {}, {}, {}, {}, {}, {}]) rfl (by kernel_rfl) rfl fun _ O=>?_;refine Z9 ?_;refine Z6 ?_;refine Z9 ?_;refine Z9 ?_;refine aQ rfl rfl rfl ?_;refine Z5 ?_;refine Z5 ?_;refine Z7 ?_;refine Z7 ?_;refine ax rfl rfl rfl rfl ?_;refine aI rfl rfl rfl ?_;refine iz rfl (mg rfl rfl) (cV) ⟨rfl, fun _ _ h => by cases h⟩ rfl rfl rfl ?_;refine dr rfl rfl rfl ?_;refine Z4 ?_;refine Z8 ?_;refine eQ O ?_;clear O;refine ap rfl (fun _ => ?_) (fun h => by cases h);refine gQ fun _ O=>?_;refine Z8 ?_;refine eQ O ?_;clear O;refine ah ?_;exact cb (rb := [999]) (E' := [(4, dI 1)]) (Wk.mk' ⟨rfl, trivial⟩ ⟨rfl, rfl, rfl, trivial⟩) rfl rfl
set_option maxHeartbeats 1000000 in
theorem vd (b : Bool) (ns : List RW) (es : List (List DC)) (l : LK) (hv : bG (.mk ns [l]) = true) (hn : 48 <= es.length) (hb : b = false -> es = []) :
  jL Tryz.prog 12 [.ptr 999 0, AG l.cs] (adS b (ns.map RW.dc) es) (dI 6) (adS b (ns.map RW.dc) es) := by
 have cV := ii (.mk ns [l])
 rw [hv] at cV
 cases b with
 | false => rw [hb rfl] at hn; exact absurd hn (by decide)
 | true =>
 refine c7 (rb := [999]) (fn := Tryz.f12) tok Tryz.func12 (by kernel_rfl) rfl (jD _ _ _) ?_
 intro w0 X _
 rw [dC _ _ _ _ [(0, .ptr 999 0), (1, AG l.cs)] rfl rfl]
 unfold adS lkC
 refine gQ fun _ O=>?_;refine aG rfl rfl rfl rfl rfl rfl ?_;refine Z8 ?_;refine eQ O ?_;clear O;refine ag ?_;refine al ?_;refine aL tok mixed (A := [[], [], [0], [0, 1], [0, 1], [0, 1, 3], [0, 1, 3, 4], [0, 1, 3, 4, 5], [0, 1], [0, 1], [0, 1, 3, 4, 5, 6, 8], [0, 1, 3, 4, 5, 6, 7, 8, 9], [0, 1, 3, 4, 5, 6, 7, 8, 9, 10], [0, 1, 3, 4, 5, 6, 7, 8, 9, 10, 11], [0, 1, 2, 3, 4, 5, 6, 7, 8, 9, 10, 12]]) (an := [{}, {}, {}, {}, {}, {}, {}, {}, {}, {}, {}, {}, {}, {}, {}]) rfl (by kernel_rfl) rfl fun _ O=>?_;refine Z9 ?_;refine Z6 ?_;refine Z9 ?_;refine Z9 ?_;refine aQ rfl rfl rfl ?_;refine Z5 ?_;refine Z5 ?_;refine Z7 ?_;refine Z7 ?_;refine ax rfl rfl rfl rfl ?_;refine aI rfl rfl rfl ?_;refine iz rfl (mg rfl rfl) (cV) ⟨rfl, fun _ _ h => by cases h⟩ rfl rfl rfl ?_;refine dr rfl rfl rfl ?_;refine Z4 ?_;refine Z8 ?_;refine eQ O ?_;clear O;refine ap rfl (fun h => by cases h) (fun _ => ?_);refine gQ fun _ O=>?_;refine Z9 ?_;refine aQ rfl rfl rfl ?_;refine Z5 ?_;refine Z5 ?_;refine Z7 ?_;refine az rfl rfl rfl ?_;refine av rfl (gJ (c := true) (decide_eq_true (by omega))) rfl ?_;refine Z8 ?_;refine eQ O ?_;clear O;refine ap rfl (fun _ => ?_) (fun h => by cases h);refine gQ fun _ O=>?_;refine Z8 ?_;refine eQ O ?_;clear O;refine ah ?_;exact cb (rb := [999]) (E' := [(4, dI 6)]) (Wk.mk' ⟨rfl, trivial⟩ ⟨rfl, rfl, rfl, trivial⟩) rfl rfl
set_option maxHeartbeats 1000000 in
theorem zW (b : Bool) (ns : List RW) (es : List (List DC)) (l : LK) (hv : bG (.mk ns [l]) = true) (hn : es.length < 48) (hb : b = false -> es = []) :
  jL Tryz.prog 12 [.ptr 999 0, AG l.cs] (adS b (ns.map RW.dc) es) (dI 0) (adS true (ns.map RW.dc) (es ++ [l.dc])) := by
 have cV := ii (.mk ns [l])
 rw [hv] at cV;refine c7 (rb := [999]) (fn := Tryz.f12) tok Tryz.func12 (by kernel_rfl) rfl (jD _ _ _) ?_
 intro w0 X _
 rw [dC _ _ _ _ [(0, .ptr 999 0), (1, AG l.cs)] rfl rfl]
 unfold adS lkC
 cases b
 have hb := hb rfl
 subst hb
 ·refine gQ fun _ O=>?_;refine aG rfl rfl rfl rfl rfl rfl ?_;refine Z8 ?_;refine eQ O ?_;clear O;refine ag ?_;refine al ?_;refine aL tok mixed (A := [[], [], [0], [0, 1], [0, 1], [0, 1, 3], [0, 1, 3, 4], [0, 1, 3, 4, 5], [0, 1], [0, 1], [0, 1, 3, 4, 5, 6, 8], [0, 1, 3, 4, 5, 6, 7, 8, 9], [0, 1, 3, 4, 5, 6, 7, 8, 9, 10], [0, 1, 3, 4, 5, 6, 7, 8, 9, 10, 11], [0, 1, 2, 3, 4, 5, 6, 7, 8, 9, 10, 12]]) (an := [{}, {}, {}, {}, {}, {}, {}, {}, {}, {}, {}, {}, {}, {}, {}]) rfl (by kernel_rfl) rfl fun _ O=>?_;refine Z9 ?_;refine Z6 ?_;refine Z9 ?_;refine Z9 ?_;refine aQ rfl rfl rfl ?_;refine Z5 ?_;refine Z5 ?_;refine Z7 ?_;refine Z7 ?_;refine ax rfl rfl rfl rfl ?_;refine aI rfl rfl rfl ?_;refine iz rfl (mg rfl rfl) (cV) ⟨rfl, fun _ _ h => by cases h⟩ rfl rfl rfl ?_;refine dr rfl rfl rfl ?_;refine Z4 ?_;refine Z8 ?_;refine eQ O ?_;clear O;refine ap rfl (fun h => by cases h) (fun _ => ?_);refine gQ fun _ O=>?_;refine Z9 ?_;refine aQ rfl rfl rfl ?_;refine Z5 ?_;refine Z5 ?_;refine Z7 ?_;refine az rfl rfl rfl ?_;refine av rfl (gJ (c := false) rfl) rfl ?_;refine Z8 ?_;refine eQ O ?_;clear O;refine ap rfl (fun h => by cases h) (fun _ => ?_);refine ak ?_;show AWP _ _ _ _ _ _;refine gA tok mixed (m := 9) (A := [[], [], [], [1], [1, 2], [1, 2, 3], [], [], [1, 2, 3, 4, 6], [], [], [9], [9, 10]]) (an := [{}, {}, {}, {}, {}, {}, {}, {}, {}, {}, {}, {}, {}]) rfl rfl (by kernel_rfl) (by kernel_rfl) (by kernel_rfl) rfl fun _ O=>?_;refine Z9 ?_;refine Z9 ?_;refine aQ rfl rfl rfl ?_;refine Z5 ?_;refine Z5 ?_;refine Z7 ?_;refine Z7 ?_;refine ax rfl rfl rfl rfl ?_;refine aN rfl (eu rfl rfl rfl rfl rfl (by decide) (Nat.le_of_ble_eq_true rfl) rfl (by simp) rfl (by simp) (by simp)) rfl rfl rfl ?_;refine ab ?_;refine aa tok rfl ?_;refine aQ rfl rfl rfl ?_;refine ab ?_;refine aa tok rfl ?_;refine Z5 ?_;refine ab ?_;refine aa tok rfl ?_;refine Z5 ?_;refine ab ?_;refine aa tok rfl ?_;refine bT rfl rfl rfl rfl rfl ?_;refine ab ?_;refine aM rfl (O _ ?_); clear O;refine gQ fun _ O=>?_;refine Z8 ?_;refine eQ O ?_;clear O;refine ah ?_;exact cb (rb := [999]) (E' := [(4, dI 0)]) (Wk.rnB [4] [999, 998, 36] 36 997 rfl rfl rfl ⟨rfl, trivial⟩ ⟨rfl, rfl, rfl, trivial⟩ rfl) rfl rfl
 ·refine gQ fun _ O=>?_;refine aG rfl rfl rfl rfl rfl rfl ?_;refine Z8 ?_;refine eQ O ?_;clear O;refine ag ?_;refine al ?_;refine aL tok mixed (A := [[], [], [0], [0, 1], [0, 1], [0, 1, 3], [0, 1, 3, 4], [0, 1, 3, 4, 5], [0, 1], [0, 1], [0, 1, 3, 4, 5, 6, 8], [0, 1, 3, 4, 5, 6, 7, 8, 9], [0, 1, 3, 4, 5, 6, 7, 8, 9, 10], [0, 1, 3, 4, 5, 6, 7, 8, 9, 10, 11], [0, 1, 2, 3, 4, 5, 6, 7, 8, 9, 10, 12]]) (an := [{}, {}, {}, {}, {}, {}, {}, {}, {}, {}, {}, {}, {}, {}, {}]) rfl (by kernel_rfl) rfl fun _ O=>?_;refine Z9 ?_;refine Z6 ?_;refine Z9 ?_;refine Z9 ?_;refine aQ rfl rfl rfl ?_;refine Z5 ?_;refine Z5 ?_;refine Z7 ?_;refine Z7 ?_;refine ax rfl rfl rfl rfl ?_;refine aI rfl rfl rfl ?_;refine iz rfl (mg rfl rfl) (cV) ⟨rfl, fun _ _ h => by cases h⟩ rfl rfl rfl ?_;refine dr rfl rfl rfl ?_;refine Z4 ?_;refine Z8 ?_;refine eQ O ?_;clear O;refine ap rfl (fun h => by cases h) (fun _ => ?_);refine gQ fun _ O=>?_;refine Z9 ?_;refine aQ rfl rfl rfl ?_;refine Z5 ?_;refine Z5 ?_;refine Z7 ?_;refine az rfl rfl rfl ?_;refine av rfl (gJ (c := false) (decide_eq_false (by omega))) rfl ?_;refine Z8 ?_;refine eQ O ?_;clear O;refine ap rfl (fun h => by cases h) (fun _ => ?_);refine ak ?_;show AWP _ _ _ _ _ _;refine gA tok mixed (m := 9) (A := [[], [], [], [1], [1, 2], [1, 2, 3], [], [], [1, 2, 3, 4, 6], [], [], [9], [9, 10]]) (an := [{}, {}, {}, {}, {}, {}, {}, {}, {}, {}, {}, {}, {}]) rfl rfl (by kernel_rfl) (by kernel_rfl) (by kernel_rfl) rfl fun _ O=>?_;refine Z9 ?_;refine Z9 ?_;refine aQ rfl rfl rfl ?_;refine Z5 ?_;refine Z5 ?_;refine Z7 ?_;refine Z7 ?_;refine ax rfl rfl rfl rfl ?_;refine aN rfl (et rfl rfl rfl rfl rfl rfl (by decide) (Nat.le_of_ble_eq_true rfl) rfl (by simp) rfl rfl rfl (by simp <;> omega)) rfl rfl rfl ?_;refine ab ?_;refine aa tok rfl ?_;refine aQ rfl rfl rfl ?_;refine ab ?_;refine aa tok rfl ?_;refine Z5 ?_;refine ab ?_;refine aa tok rfl ?_;refine Z5 ?_;refine ab ?_;refine aa tok rfl ?_;refine bT rfl rfl rfl rfl rfl ?_;refine ab ?_;refine aM rfl (O _ ?_); clear O;refine gQ fun _ O=>?_;refine Z8 ?_;refine eQ O ?_;clear O;refine ah ?_;exact cb (rb := [999]) (E' := [(4, dI 0)]) (Wk.rnB [4] [999, 998, 36] 36 997 rfl rfl rfl ⟨rfl, trivial⟩ ⟨rfl, rfl, rfl, trivial⟩ rfl) rfl rfl

set_option maxHeartbeats 1000000 in
theorem zZ (b : Bool) (ns es : List (List DC)) (k : Int) (hk : k < 0 \/ (es.length : Int) <= k) (hb : b = false -> es = []) (hn : es.length <= 1048576) :
  jL Tryz.prog 14 [.ptr 999 0, dI k] (adS b ns es) (dI 2) (adS b ns es) := by
 refine c7 (rb := [999]) (fn := Tryz.f14) tok Tryz.func14 (by kernel_rfl) rfl (jD _ _ _) ?_
 intro w0 X _
 rw [dC _ _ _ _ [(0, .ptr 999 0), (1, dI k)] rfl rfl]
 unfold adS lkC
 cases b
 have hb := hb rfl
 subst hb
 ·refine gQ fun _ O=>?_;refine Z8 ?_;refine eQ O ?_;clear O;refine ag ?_;refine al ?_;refine gQ fun _ O=>?_;refine Z9 ?_;refine Z6 ?_;refine Z8 ?_;refine eQ O ?_;clear O;refine ap rfl (fun h => by cases h) (fun _ => ?_);refine bd (α := Unit) (fun _ => mk 34 [(0, .ptr 999 0), (1, dI k), (8, dB true)] (adS false ns []) [999]) (fun _ => True) ?_ ?_
  ·by_cases h0 : k < 0
   ·refine gR fun _ O=>?_;refine Z9 ?_;refine av rfl (mc (c := true) (decide_eq_true h0)) rfl ?_;refine Z9 ?_;refine aA rfl ?_;refine aA rfl ?_;refine aA rfl ?_;refine aA rfl ?_;refine aA rfl ?_;refine aA rfl ?_;refine aA rfl ?_;refine aA rfl ?_;refine Z4 ?_;refine Z8 ?_;refine eQ O ?_;clear O;exact ⟨(), trivial, Wk.mk' ⟨rfl, rfl, rfl, trivial⟩ ⟨rfl, rfl, trivial⟩⟩
   ·refine gR fun _ O=>?_;refine Z9 ?_;refine av rfl (mc (c := false) (decide_eq_false h0)) rfl ?_;refine Z9 ?_;refine Z9 ?_;refine Z9 ?_;refine aQ rfl rfl rfl ?_;refine Z5 ?_;refine Z5 ?_;refine Z7 ?_;refine az rfl rfl rfl ?_;refine av rfl (gJ (c := true) (decide_eq_true (show (0 : Int) <= k by simp at hk; omega))) rfl ?_;refine Z4 ?_;refine Z8 ?_;refine eQ O ?_;clear O;exact ⟨(), trivial, Wk.mk' ⟨rfl, rfl, rfl, trivial⟩ ⟨rfl, rfl, trivial⟩⟩
  rintro ⟨⟩ -
  refine ap rfl (fun _ => ?_) (fun h => by cases h);refine gQ fun _ O=>?_;refine Z8 ?_;refine eQ O ?_;clear O;refine ah ?_;exact cb (rb := [999]) (E' := [(4, dI 2)]) (Wk.mk' ⟨rfl, trivial⟩ ⟨rfl, rfl, trivial⟩) rfl rfl
 ·refine gQ fun _ O=>?_;refine Z8 ?_;refine eQ O ?_;clear O;refine ag ?_;refine al ?_;refine gQ fun _ O=>?_;refine Z9 ?_;refine Z6 ?_;refine Z8 ?_;refine eQ O ?_;clear O;refine ap rfl (fun h => by cases h) (fun _ => ?_);refine bd (α := Unit) (fun _ => mk 34 [(0, .ptr 999 0), (1, dI k), (8, dB true)] (adS true ns es) [999]) (fun _ => True) ?_ ?_
  ·by_cases h0 : k < 0
   ·refine gR fun _ O=>?_;refine Z9 ?_;refine av rfl (mc (c := true) (decide_eq_true h0)) rfl ?_;refine Z9 ?_;refine aA rfl ?_;refine aA rfl ?_;refine aA rfl ?_;refine aA rfl ?_;refine aA rfl ?_;refine aA rfl ?_;refine aA rfl ?_;refine aA rfl ?_;refine Z4 ?_;refine Z8 ?_;refine eQ O ?_;clear O;exact ⟨(), trivial, Wk.mk' ⟨rfl, rfl, rfl, trivial⟩ ⟨rfl, rfl, rfl, trivial⟩⟩
   ·refine gR fun _ O=>?_;refine Z9 ?_;refine av rfl (mc (c := false) (decide_eq_false h0)) rfl ?_;refine Z9 ?_;refine Z9 ?_;refine Z9 ?_;refine aQ rfl rfl rfl ?_;refine Z5 ?_;refine Z5 ?_;refine Z7 ?_;refine az rfl rfl rfl ?_;refine av rfl (gJ (c := true) (decide_eq_true (show (es.length : Int) <= k by omega))) rfl ?_;refine Z4 ?_;refine Z8 ?_;refine eQ O ?_;clear O;exact ⟨(), trivial, Wk.mk' ⟨rfl, rfl, rfl, trivial⟩ ⟨rfl, rfl, rfl, trivial⟩⟩
  rintro ⟨⟩ -
  refine ap rfl (fun _ => ?_) (fun h => by cases h);refine gQ fun _ O=>?_;refine Z8 ?_;refine eQ O ?_;clear O;refine ah ?_;exact cb (rb := [999]) (E' := [(4, dI 2)]) (Wk.mk' ⟨rfl, trivial⟩ ⟨rfl, rfl, rfl, trivial⟩) rfl rfl
set_option maxHeartbeats 1000000 in
theorem zY (ns es : List (List DC)) (k : Nat) (hk : k < es.length) (hn : es.length <= 1048576) :
  jL Tryz.prog 14 [.ptr 999 0, dI k] (adS true ns es) (dI 0) (adS true ns (es.eraseIdx k)) := by
 have cD := Dp ns es k hk hn
 have e1 := List.length_eraseIdx_of_lt hk
 generalize es.eraseIdx k = es2 at cD e1 ⊢;refine c7 (rb := [999]) (fn := Tryz.f14) tok Tryz.func14 (by kernel_rfl) rfl (jD _ _ _) ?_
 intro w0 X _
 rw [dC _ _ _ _ [(0, .ptr 999 0), (1, dI k)] rfl rfl]
 unfold adS lkC
 rw [e1];refine gQ fun _ O=>?_;refine Z8 ?_;refine eQ O ?_;clear O;refine ag ?_;refine al ?_;refine gQ fun _ O=>?_;refine Z9 ?_;refine Z6 ?_;refine Z8 ?_;refine eQ O ?_;clear O;refine ap rfl (fun h => by cases h) (fun _ => ?_);refine gQ fun _ O=>?_;refine Z9 ?_;refine av rfl (mc (c := false) (decide_eq_false (by omega))) rfl ?_;refine Z9 ?_;refine Z9 ?_;refine Z9 ?_;refine aQ rfl rfl rfl ?_;refine Z5 ?_;refine Z5 ?_;refine Z7 ?_;refine az rfl rfl rfl ?_;refine av rfl (gJ (c := false) (decide_eq_false (by omega))) rfl ?_;refine Z4 ?_;refine Z8 ?_;refine eQ O ?_;clear O;refine ap rfl (fun h => by cases h) (fun _ => ?_);refine ak ?_;show AWP _ _ _ _ _ _;refine aU fun _ O=>?_;refine aa tok rfl ?_;refine Z9 ?_;refine ab ?_;refine aa tok rfl ?_;refine Z9 ?_;refine ab ?_;refine aa tok rfl ?_;refine aQ rfl rfl rfl ?_;refine ab ?_;refine aa tok rfl ?_;refine Z5 ?_;refine ab ?_;refine aa tok rfl ?_;refine Z5 ?_;refine ab ?_;refine aa tok rfl ?_;refine Z7 ?_;refine ab ?_;refine aa tok rfl ?_;refine Z9 ?_;refine ab ?_;refine aa tok rfl ?_;refine Z9 ?_;refine ab ?_;refine aa tok rfl ?_;refine av rfl (aP (c := ((k : Int) + 1)) rfl (by omega)) rfl ?_;refine ab ?_;refine nO [(21, .ptr 999 0)] [] cD rfl rfl (fun id o h => h) (fun _ => Or.inl rfl) rfl rfl rfl ⟨rfl, trivial⟩ rfl rfl (fun _ => Or.inl rfl) rfl ?_;refine aa tok rfl ?_;refine aQ rfl rfl rfl ?_;refine ab ?_;refine aa tok rfl ?_;refine Z5 ?_;refine ab ?_;refine aa tok rfl ?_;refine Z5 ?_;refine ab ?_;refine aa tok rfl ?_;refine bT rfl rfl rfl rfl rfl ?_;refine ab ?_;refine aM rfl (O _ ?_); clear O;refine gQ fun _ O=>?_;refine Z8 ?_;refine eQ O ?_;clear O;refine ah ?_;exact cb (rb := [999, 999]) (E' := [(4, dI 0)]) (Wk.mk' ⟨rfl, trivial⟩ ⟨rfl, rfl, rfl, trivial⟩) rfl rfl

/-! ### New, and the nil adjuster -/
set_option maxHeartbeats 1000000 in
theorem DT (r : RW) (ok : r.OK 268435456) : jL Tryz.prog 10 [AG r.cs] [] (.ptr 999 0) (adS false [(QN r).dc] []) := by
 have cN := lA r ok
 change Con _ _ _ { v := AG (QN r).cs } at cN
 generalize QN r = q at cN ⊢;refine c7 (rb := []) (fn := Tryz.f10) tok Tryz.func10 (by kernel_rfl) rfl (fun id cs h => by cases h) ?_
 intro w0 X hp
 have hp := hp rfl
 rw [dC _ _ _ _ [(0, AG r.cs)] rfl rfl];refine gQ fun _ O=>?_;refine aG rfl rfl rfl rfl rfl rfl ?_;refine Z8 ?_;refine eQ O ?_;clear O;refine gQ fun _ O=>?_;refine Z7 ?_;refine ac rfl rfl (cN) rfl rfl rfl rfl ?_;refine ax rfl rfl rfl rfl ?_;refine aI rfl rfl rfl ?_;refine aI rfl rfl rfl ?_;refine Dn rfl rfl rfl rfl rfl rfl ?_;refine Z8 ?_;refine eQ O ?_;clear O;refine CY hp [2] [5, 8] 5 998 [(2, .ptr 8 0)] [(8, some (.box [.own 998 4 0 1, .nil])), (998, some (.arr 4 [q.dc]))] [8] rfl rfl rfl rfl ⟨rfl, trivial⟩ ⟨rfl, rfl, trivial⟩ rfl ?_;refine CY hp [2] [998, 8] 8 999 [(2, .ptr 999 0)] (adS false [q.dc] []) [999] rfl rfl rfl rfl ⟨rfl, trivial⟩ ⟨rfl, rfl, trivial⟩ rfl ?_;refine ah ?_;exact ⟨_, Wk.refl _, rfl, Or.inr ⟨2, rfl, by rw [dE]; rfl⟩⟩
theorem xM (r : RW) : Con Tryz.prog 11 [mE, AG r.cs] { v := .tup [.one (.d (lI 0)), .one (.d (lI 1))] } := by
 refine Z3 Tryz.func11 ?_
 intro w0 X
 rw [aq _ _ [(0, mE), (1, AG r.cs)] rfl rfl];refine gQ fun _ O=>?_;refine aG rfl rfl rfl rfl rfl rfl ?_;refine Z8 ?_;refine Z8 ?_;refine eQ O ?_;clear O;refine ag ?_;refine al ?_;refine gQ fun _ O=>?_;refine Z9 ?_;refine Z6 ?_;refine Z8 ?_;refine eQ O ?_;clear O;refine ap rfl (fun _ => ?_) (fun h => by cases h);refine gQ fun _ O=>?_;refine Z8 ?_;refine Z8 ?_;refine eQ O ?_;clear O;exact ah aT
theorem xN (l : LK) : Con Tryz.prog 12 [mE, AG l.cs] { v := dI 1 } := by
 refine Z3 Tryz.func12 ?_
 intro w0 X
 rw [aq _ _ [(0, mE), (1, AG l.cs)] rfl rfl];refine gQ fun _ O=>?_;refine aG rfl rfl rfl rfl rfl rfl ?_;refine Z8 ?_;refine eQ O ?_;clear O;refine ag ?_;refine al ?_;refine aL tok mixed (A := [[], [], [0], [0, 1], [0, 1], [0, 1, 3], [0, 1, 3, 4], [0, 1, 3, 4, 5], [0, 1], [0, 1], [0, 1, 3, 4, 5, 6, 8], [0, 1, 3, 4, 5, 6, 7, 8, 9], [0, 1, 3, 4, 5, 6, 7, 8, 9, 10], [0, 1, 3, 4, 5, 6, 7, 8, 9, 10, 11], [0, 1, 2, 3, 4, 5, 6, 7, 8, 9, 10, 12]]) (an := [{}, {}, {}, {}, {}, {}, {}, {}, {}, {}, {}, {}, {}, {}, {}]) rfl (by kernel_rfl) rfl fun _ O=>?_;refine Z9 ?_;refine Z6 ?_;refine Z9 ?_;refine aA rfl ?_;refine aA rfl ?_;refine aA rfl ?_;refine aA rfl ?_;refine aA rfl ?_;refine aA rfl ?_;refine aA rfl ?_;refine aA rfl ?_;refine aA rfl ?_;refine aA rfl ?_;refine Z4 ?_;refine Z8 ?_;refine eQ O ?_;clear O;refine ap rfl (fun _ => ?_) (fun h => by cases h);refine gQ fun _ O=>?_;refine Z8 ?_;refine eQ O ?_;clear O;exact ah aT
theorem xO (k : Int) : Con Tryz.prog 14 [mE, dI k] { v := dI 1 } := by
 refine Z3 Tryz.func14 ?_
 intro w0 X
 rw [aq _ _ [(0, mE), (1, dI k)] rfl rfl];refine gQ fun _ O=>?_;refine Z8 ?_;refine eQ O ?_;clear O;refine ag ?_;refine al ?_;refine gQ fun _ O=>?_;refine Z9 ?_;refine Z6 ?_;refine Z8 ?_;refine eQ O ?_;clear O;refine ap rfl (fun _ => ?_) (fun h => by cases h);refine gQ fun _ O=>?_;refine Z8 ?_;refine eQ O ?_;clear O;exact ah aT
theorem ve : Con Tryz.prog 15 [mE] { v := AG (GR.mk [] []).cs } := by
 refine Z3 Tryz.func15 ?_
 intro w0 X
 rw [aq _ _ [(0, mE)] rfl rfl];refine gQ fun _ O=>?_;refine aw rfl rfl rfl rfl rfl rfl ?_;refine eQ O ?_;clear O;refine ag ?_;refine gQ fun _ O=>?_;refine Z9 ?_;refine Z6 ?_;refine eQ O ?_;clear O;refine ap rfl (fun _ => ?_) (fun h => by cases h);refine gQ fun _ O=>?_;refine aI rfl rfl rfl ?_;refine aj rfl rfl rfl rfl rfl ?_;refine eQ O ?_;clear O;exact ah aT
theorem u7 : Con Tryz.prog 13 [mE] { v := .tup [.one (.d (dSs [])), .one (.d (lI 1))] } := by
 refine Z3 Tryz.func13 ?_
 intro w0 X
 rw [aq _ _ [(0, mE)] rfl rfl];refine gQ fun _ O=>?_;refine Z8 ?_;refine Z8 ?_;refine eQ O ?_;clear O;refine ag ?_;refine gQ fun _ O=>?_;refine Z9 ?_;refine Z6 ?_;refine eQ O ?_;clear O;refine ap rfl (fun _ => ?_) (fun h => by cases h);refine gQ fun _ O=>?_;refine Z8 ?_;refine Z8 ?_;refine eQ O ?_;clear O;exact ah aT
theorem vf : Con Tryz.prog 22 [mE] { v := mE } := by
 refine Z3 Tryz.func22 ?_
 intro w0 X
 rw [aq _ _ [(0, mE)] rfl rfl];refine gQ fun _ O=>?_;refine Z8 ?_;refine eQ O ?_;clear O;refine ag ?_;refine gQ fun _ O=>?_;refine Z9 ?_;refine Z6 ?_;refine eQ O ?_;clear O;refine ap rfl (fun _ => ?_) (fun h => by cases h);refine gQ fun _ O=>?_;refine Z8 ?_;refine eQ O ?_;clear O;exact ah aT
/-! ### Spots and Clone of an adjuster that is data -/
/-! ### The caller's side -/
def p4 (k : Nat) : Bool := Nat.blt k 900 || Nat.beq k 999
def okR (R : List (Nat × Option OO)) : Bool := R.all fun p => Nat.blt p.1 900 && (match p.2 with | some o => o.refs (fun k => Nat.blt k 900) | none => true)
theorem jE (b : Bool) (ns es : List (List DC)) : (adS b ns es).all (fun p => p.2.isSome) = true := by cases b <;> rfl
theorem w7 (b : Bool) (ns es : List (List DC)) (R : List (Nat × Option OO)) {id : Nat} {o : OO} (h : so (adS b ns es) id = some o) : so (adS b ns es ++ R) id = some o := by
 rw [mp _ (jE b ns es), h]
theorem n5 (b : Bool) (ns es : List (List DC)) {k : Nat} (hk : k < 900) : so (adS b ns es) k = none := by
 have h9 : ¬ 999 = k := by omega
 have h8 : ¬ 998 = k := by omega
 have h7 : ¬ 997 = k := by omega
 cases b
 ·show so [(999, _), (998, _)] k = none
  rw [aJ, if_neg h9, aJ, if_neg h8]; rfl
 ·show so [(999, _), (998, _), (997, _)] k = none
  rw [aJ, if_neg h9, aJ, if_neg h8, aJ, if_neg h7]; rfl
theorem kw (b : Bool) (ns es : List (List DC)) {k : Nat} (hk : k < 900) : dom (adS b ns es) k = false := by unfold dom; rw [n5 b ns es hk]; rfl
theorem uo (b : Bool) (ns es : List (List DC)) (R : List (Nat × Option OO)) (h : okR R = true) (k : Nat) : so R k = none \/ so R k = so (adS b ns es ++ R) k := by
 cases e : so R k with
 | none => exact Or.inl rfl
 | some o =>
  right
  have hm := List.all_eq_true.1 h _ (kI e)
  simp only [Bool.and_eq_true, Nat.blt_eq] at hm;rw [mp _ (jE b ns es), n5 b ns es hm.1, e]
theorem my {p q : Nat -> Bool} (h : ∀ k, p k = true -> q k = true) : ∀ {o : OO}, o.refs p = true -> o.refs q = true := by
 intro o ho
 cases o with
 | arr sz es => rfl
 | box cs =>
  refine List.all_eq_true.2 fun c hc => ?_
  have := List.all_eq_true.1 ho c hc
  cases c with
  | own id sz off len => exact h _ this
  | d c => rfl
  | nil => rfl
  | bad => rfl
theorem ib {p q : Nat -> Bool} (h : ∀ k, p k = true -> q k = true) {x : SV} (hx : x.refs p = true) : x.refs q = true := by
 have hc : ∀ c : SC, c.refs p = true -> c.refs q = true := by
  intro c hc
  cases c with
  | own id sz off len => exact h _ hc
  | _ => rfl
 have hv : ∀ v : VV, v.refs p = true -> v.refs q = true := by
  intro v hv
  cases v with
  | one c => exact hc c hv
  | agg cs => exact List.all_eq_true.2 fun c hm => hc c (List.all_eq_true.1 hv c hm)
 cases x with
 | none => rfl
 | val x => exact hv x hx
 | tup xs => exact List.all_eq_true.2 fun v hm => hv v (List.all_eq_true.1 hx v hm)
 | ptr id off => exact h _ hx
 | pe id sz i j => exact h _ hx
 | clo f id => exact h _ hx
 | fn f c => rfl
 | pd cs => rfl
theorem tT {b b' : Bool} {ns es ns' es' : List (List DC)} {k : Nat} (h : p4 k = true) : jF (adS b ns es) (adS b' ns' es') k = true := by
 unfold p4 at h
 simp only [Bool.or_eq_true, Nat.blt_eq, Nat.beq_eq] at h
 unfold jF
 rcases h with h | h
 ·rw [kw b' ns' es' h]; rfl
 ·subst h
  have : dom (adS b ns es) 999 = true := rfl
  rw [this]; simp
theorem qW {b' : Bool} {ns' es' : List (List DC)} {k : Nat} (h : Nat.blt k 900 = true) : jF [] (adS b' ns' es') k = true := by
 unfold jF
 rw [kw b' ns' es' (by simpa using h)]; rfl
theorem se {b : Bool} {ns es : List (List DC)} {rb : List Nat} (h : rb.contains 999 = true) : Cb (adS b ns es) rb = true := by
 cases b <;> (unfold Cb; simp only [adS, List.all_cons, List.all_nil, h]; rfl)
section
variable {P : Program} {w0 : Base} {X : Nat -> Prop} {ops : List Oper} {K : St -> Prop} {k n : Nat} {E : List (Nat × SV)} {rb : List Nat}
theorem A4 {f : FuncId} {d : Nat} {xs : Array Operand} {b b' : Bool} {ns es ns' es' : List (List DC)} {R : List (Nat × Option OO)} {r r' : SV} {args : List SV} {ts : Array TypeId} {ty : TypeId} {ps : String} {af : Array Edge} (E2 : List (Nat × SV))
  (hf : jL P f args (adS b ns es) r (adS b' ns' es')) (ho : ops[k]? = some ⟨some d, .call ⟨.value (.func f), xs, ts⟩, ty, ps, af, none⟩) (hm : xs.toList.map (rd n E) = args) (hR : okR R = true) (hKE : Known n E E2)
  (hE : E2.all (fun p => p.2.refs p4) = true) (hrb : rb.contains 999 = true) (hr1 : r.refs (fun _ => false) = true) (hr' : r' = r)
  (h : cK P w0 X ops (k + 1) K (mk n ((d, r') :: E2) (adS b' ns' es' ++ R) rb)) : cK P w0 X ops k K (mk n E (adS b ns es ++ R) rb) := by
 refine nO E2 R hf ho hm (fun id o h => w7 b ns es R h) (uo b ns es R hR) ?_ (se hrb) (jE _ _ _) hKE ?_ (ib (fun _ h => by cases h) hr1) (fun _ => Or.inl rfl) hr' h
 ·refine List.all_eq_true.2 fun p hp => ?_
  have h1 := List.all_eq_true.1 hR p hp
  simp only [Bool.and_eq_true] at h1
  have hlt : p.1 < 900 := by simpa using h1.1
  rw [kw b ns es hlt, kw b' ns' es' hlt]
  cases e : p.2 with
  | none => rfl
  | some o =>
   rw [e] at h1;exact my (fun k hk => tT (by unfold p4; rw [hk]; rfl)) h1.2
 ·refine List.all_eq_true.2 fun p hp => ib (fun k hk => tT hk) (List.all_eq_true.1 hE p hp)
theorem yr (hp : ∀ k, ¬ w0.p k) {f : FuncId} {d : Nat} {xs : Array Operand} {b' : Bool} {ns' es' : List (List DC)} {R : List (Nat × Option OO)} {args : List SV} {ts : Array TypeId} {ty : TypeId} {ps : String} {af : Array Edge} (E2 : List (Nat × SV))
  (hf : jL P f args [] (.ptr 999 0) (adS b' ns' es')) (ho : ops[k]? = some ⟨some d, .call ⟨.value (.func f), xs, ts⟩, ty, ps, af, none⟩) (hm : xs.toList.map (rd n E) = args) (hR : okR R = true) (hKE : Known n E E2)
  (hE : E2.all (fun p => p.2.refs (fun k => Nat.blt k 900)) = true) (hrb : rb.contains 999 = true)
  (h : cK P w0 X ops (k + 1) K (mk n ((d, .ptr 999 0) :: E2) (adS b' ns' es' ++ R) rb)) : cK P w0 X ops k K (mk n E R rb) := by
 refine nO E2 R hf ho hm (fun id o h => by cases h) (fun _ => Or.inr rfl) ?_ (se hrb) (jE _ _ _) hKE ?_ ?_ (fun _ => Or.inr hp) rfl h
 ·refine List.all_eq_true.2 fun p hp => ?_
  have h1 := List.all_eq_true.1 hR p hp
  simp only [Bool.and_eq_true] at h1
  have hlt : p.1 < 900 := by simpa using h1.1
  rw [kw b' ns' es' hlt]
  cases e : p.2 with
  | none => rfl
  | some o =>
   rw [e] at h1;exact my (fun k hk => qW hk) h1.2
 ·exact List.all_eq_true.2 fun p hp => ib (fun k hk => qW hk) (List.all_eq_true.1 hE p hp)
 ·cases b' <;> rfl
end
end Go.Proofs.YtceacleokgoooaaGreatDoor

/- The reference's rotations and transforms. No condition. -/
namespace Go.Proofs.YtceacleokgoooaaGreatDoor
attribute [local irreducible] aF

theorem xW {a b : RW} : pz2 a.cn = pz2 b.cn ↔ a.cn = b.cn := by
 constructor
 ·intro h
  have h1 := zu a.cn.1 a.cn.2
  have h2 := zt a.cn.1 a.cn.2
  have h3 := zu b.cn.1 b.cn.2
  have h4 := zt b.cn.1 b.cn.2
  unfold pz2 at h
  rw [h] at h1 h2;exact Prod.ext (h1.symm.trans h3) (h2.symm.trans h4)
 ·intro h; rw [h]
theorem y8 (a b : RW) (ha : a.OK 67108864) (hb : b.OK 67108864) : Con Tryz.prog 50 [AG a.cs, AG b.cs] { v := dB (decide (a.cn = b.cn)) } := by
 have c1 := lL a (ha.mono rfl)
 have c2 := lL b (hb.mono rfl)
 have oa : (pz2 a.cn).OK 67108864 := uU (ha.cn (by decide))
 have c3 := D9 (pz2 a.cn) (pz2 b.cn) (Nat.le_trans oa.lp (by decide)) (Nat.le_trans oa.lq (by decide))
 rw [decide_eq_decide.2 (xW (a := a) (b := b))] at c3;generalize decide (a.cn = b.cn) = d at *;generalize pz2 a.cn = x at *;generalize pz2 b.cn = y at *;refine Z3 Tryz.func50 ?_
 intro w0 X
 rw [aq _ _ [(0, AG a.cs), (1, AG b.cs)] rfl rfl];refine gQ fun _ O=>?_;refine aG rfl rfl rfl rfl rfl rfl ?_;refine aG rfl rfl rfl rfl rfl rfl ?_;refine Z8 ?_;refine eQ O ?_;clear O;refine aL tok mixed (A := [[], [], [], [0], [0, 2], []]) (an := [{}, {}, { c := [6] }, {}, {}, {}]) rfl (by kernel_rfl) rfl fun _ O=>?_;refine Z7 ?_;refine ac rfl rfl (c1) rfl rfl rfl rfl ?_;refine Z7 ?_;refine ac rfl rfl (c2) rfl rfl rfl rfl ?_;refine ac rfl rfl (c3) rfl rfl rfl rfl ?_;refine Z8 ?_;refine eQ O ?_;clear O;exact ah aT

end Go.Proofs.YtceacleokgoooaaGreatDoor

/- Law 3: guards; fixed calls. No condition. -/
namespace Go.Proofs.YtceacleokgoooaaGreatDoor
attribute [local irreducible] aF

end Go.Proofs.YtceacleokgoooaaGreatDoor

/- Law 3: circle, group, rigid motions, actions. No condition. -/
namespace Go.Proofs.YtceacleokgoooaaGreatDoor
attribute [local irreducible] aF

end Go.Proofs.YtceacleokgoooaaGreatDoor

/- Slices as arguments, with their lengths; bytes. No condition. -/
namespace Go.Proofs.YtceacleokgoooaaGreatDoor
open Go.RowKit

section
variable {P : Program} {T : Tab} {w : World} {t : TypeId} {ti : TI} {H : Type} {enc : TypeId × Value -> H} {sp : Nat -> Bool} {v : Value} {d : DataW H} {ps : List MemPlace} {base : Nat}
theorem xi {e : TypeId} (hT : TOK P T) (h : T t = some ti) (hu : ti.und = .slice e) (hv : Value.okWide P w .any base t v) {X : Nat -> Prop} {μ : Nat -> Nat} {es : List (List DC)} (hr : RelV w X μ v (.val (.one (.d (.sl es))))) : es.length <= 9223372036854775807 := by
 have hP := mm hT h hu
 unfold Value.okWide at hv
 rw [hP] at hv
 simp only at hv
 unfold Cell.okWide at hv
 rw [hP] at hv
 simp only at hv
 have hr : RdC w X v (.sl es) := hr
 cases hr with
 | nil => exact Nat.zero_le _
 | sl vs hh hx hl hcap hs hv' hr' =>
  unfold Cell.ok at hv
  rw [hP] at hv
  simp only at hv
  obtain ⟨h1, h2, _⟩ := hv
  have e : IntKind.i64.max = 9223372036854775807 := by decide
  rw [e] at h2
  omega
theorem vI {e : TypeId} {α : Type} {f : α -> List DC} {Q : α -> Prop} (hT : TOK P T) (h : T t = some ti) (hu : ti.und = .slice e) (hr : Reads P w t (fun ds => ∃ l : List α, (∀ x ∈ l, Q x) /\ ds = [.sl (l.map f)])) (hv : Value.okWide P w .any base t v) (hd : DataW.Trod enc P w 0 sp true t v d ps) (μ : Nat -> Nat) :
  ∃ l : List α, ((∀ x ∈ l, Q x) /\ l.length <= 9223372036854775807) /\ RelV w (fun _ => False) μ v (.val (.one (.d (.sl (l.map f))))) := by
 obtain ⟨l, h1, h2⟩ := ya hT h hu hr hv hd μ
 have := xi hT h hu hv h2
 rw [List.length_map] at this;exact ⟨l, ⟨h1, this⟩, h2⟩
end
section
variable {w : World} {H : Type} {enc : TypeId × Value -> H} {sp : Nat -> Bool} {v : Value} {d : DataW H} {ps : List MemPlace} {base : Nat}
def b8 (n : Nat) : List DC := [.lit (.int .u8 n)]
set_option maxRecDepth 100000 in
theorem Ev : Reads Tryz.prog w 5 (fun ds => ∃ n : Nat, n < 256 /\ ds = b8 n) := by
 obtain ⟨ti, a, b⟩ : ∃ ti, tab.ty 5 = some ti /\ ti.und = .int .u8 := ⟨_, rfl, rfl⟩
 refine (uM tok a b).mono fun ds ⟨n, h1, h2⟩ => ?_
 obtain ⟨x, rfl, hx⟩ := Eg h1
 exact ⟨x, hx, h2⟩
end
end Go.Proofs.YtceacleokgoooaaGreatDoor

/- law31: awake; alike; Least. No condition. -/
namespace Go.Proofs.YtceacleokgoooaaGreatDoor
attribute [local irreducible] aF
open Go.RowKit

theorem vr {T : Tab} {t : TypeId} (a : ByteArray) : aR T .eql t (V1 (.lit (.string a))) (V1 (.lit (.string a))) = .set (dB true) := by
 show Eff.set (dB (a.toList == a.toList)) = _
 rw [beq_self_eq_true]
def gW : GR := ⟨[er, er], [⟨0, 1, 10, 0, 1⟩, ⟨0, 1, 13, 0, 2⟩]⟩
def sW : List SP := [szW 0 0, szW 12 0]
theorem tW1 : u5 gW = (sW, 0) := by decide +kernel
theorem tW2 : zO gW = (qzW 6, 0) := by decide +kernel
theorem tW3 : uv gW sW = (0, qzW 4, 0) := by decide +kernel
theorem wO : ∀ r ∈ gW.nodes, r.OK 2 := by
 intro r hr
 have : r = er := by
  simp only [gW, List.mem_cons, List.not_mem_nil, or_false, or_self] at hr; exact hr
 rw [this];exact ⟨fun x hx => (List.not_mem_nil hx).elim, fun x hx => (List.not_mem_nil hx).elim, Nat.zero_le _, Nat.zero_le _⟩
theorem CU : bG gW = true -> SM gW := fun _ => ⟨by decide, by decide, wO⟩
theorem Ep : ∀ p ∈ sW, p.OK 4096 := by
 intro p hp
 simp only [sW, List.mem_cons, List.not_mem_nil, or_false] at hp
 rcases hp with rfl | rfl
 ·exact g9 (by decide +kernel) (by decide +kernel)
 ·exact g9 (by decide +kernel) (by decide +kernel)
set_option maxHeartbeats 1000000 in
theorem rj : Con Tryz.prog 6 [] { v := dB true } := by
 have cM := Ag gW (fun r hr => (wO r hr).mono rfl) CU
 have cL := DY gW (fun r hr => (wO r hr).mono rfl) CU
 have cW := DX gW sW (fun r hr => (wO r hr).mono rfl) Ep
 rw [tW1] at cM;rw [tW2] at cL;rw [tW3] at cW
 have cN := Eb er ⟨fun x hx => (List.not_mem_nil hx).elim, fun x hx => (List.not_mem_nil hx).elim, Nat.zero_le _, Nat.zero_le _⟩
 have o1 : (pz2 er.cn).OK 268435456 := uU (by decide +kernel)
 generalize pz2 er.cn = q at cN o1
 have cG := uq [q] [] (fun r hr => by rw [List.mem_singleton.1 hr]; exact o1) (by simp) (by simp)
 have t1 := rK (qzW 12) (bi (by decide +kernel)) (by rw [bA]; decide +kernel) (by rw [bA]; decide +kernel)
 have t2 := rK (qzW 6) (bi (by decide +kernel)) (by rw [bA]; decide +kernel) (by rw [bA]; decide +kernel)
 have t3 := rK (qzW 4) (bi (by decide +kernel)) (by rw [bA]; decide +kernel) (by rw [bA]; decide +kernel)
 rw [bA, show qtx (12 : Rat) = [49, 50] by decide +kernel] at t1;rw [bA, show qtx (6 : Rat) = [54] by decide +kernel] at t2;rw [bA, show qtx (4 : Rat) = [52] by decide +kernel] at t3
 have eS : sW = [⟨qzW 0, qzW 0⟩, ⟨qzW 12, qzW 0⟩] := rfl
 rw [eS] at cM cW;generalize qzW (12 : Rat) = A at *;generalize qzW (6 : Rat) = B at *;generalize qzW (4 : Rat) = C at *;generalize qzW (0 : Rat) = Z at *;refine Z3 Tryz.func6 ?_
 intro w0 X
 rw [aq _ _ [] rfl rfl];refine gQ fun _ O=>?_;refine Z8 ?_;refine eQ O ?_;clear O;refine gQ fun _ O=>?_;refine bP (sz := _) (es := _) (f := _) (v := _) rfl (zM (l := 2) rfl rfl rfl rfl rfl (Nat.le_of_ble_eq_true rfl) (by decide) rfl rfl (by omega)) rfl rfl ?_;refine aI rfl rfl rfl ?_;refine aI rfl rfl rfl ?_;refine ax rfl rfl rfl rfl ?_;refine aI rfl rfl rfl ?_;refine aw rfl rfl rfl rfl rfl rfl ?_;refine bT rfl rfl rfl rfl rfl ?_;refine eQ O ?_;clear O;refine dK [1] [1, 10, 13] 10 [(1, .ptr 1 0)] [(1, some (.box [.d (dRs [er, er]), .own 13 5 0 2])), (13, some (.arr 5 [(LK.mk 0 1 10 0 1).dc, (LK.mk 0 1 13 0 2).dc]))] rfl ⟨rfl, trivial⟩ ⟨rfl, rfl, trivial⟩ ?_;refine dK [1] [1, 13] 13 [(1, .ptr 1 0)] [(1, some (.box gW.cs))] rfl ⟨rfl, trivial⟩ ⟨rfl, trivial⟩ ?_;refine gQ fun _ O=>?_;refine Z7 ?_;refine ac rfl rfl (cM) rfl rfl rfl rfl ?_;refine Z9 ?_;refine au rfl rfl rfl ?_;refine au rfl rfl rfl ?_;refine Z8 ?_;refine Z8 ?_;refine eQ O ?_;clear O;refine gQ fun _ O=>?_;refine Z7 ?_;refine ac rfl rfl (cL) rfl rfl rfl rfl ?_;refine Z9 ?_;refine au rfl rfl rfl ?_;refine au rfl rfl rfl ?_;refine aw rfl rfl rfl rfl rfl rfl ?_;refine aj rfl rfl rfl rfl rfl ?_;refine Z8 ?_;refine eQ O ?_;clear O;refine ag ?_;refine gQ fun _ O=>?_;refine Z9 ?_;refine Z6 ?_;refine Z9 ?_;refine Z9 ?_;refine Z6 ?_;refine Z4 ?_;refine Z9 ?_;refine Z9 ?_;refine az rfl (bD SP.dc rfl rfl) rfl ?_;refine av rfl (jI (c := false) rfl) rfl ?_;refine Z4 ?_;refine eQ O ?_;clear O;refine ap rfl (fun h => by cases h) (fun _ => ?_);refine ak ?_;show AWP _ _ _ _ _ _;refine gQ fun _ O=>?_;refine Z7 ?_;refine Z9 ?_;refine ac rfl rfl (cW) rfl rfl rfl rfl ?_;refine Z9 ?_;refine au rfl rfl rfl ?_;refine au rfl rfl rfl ?_;refine au rfl rfl rfl ?_;refine aw rfl rfl rfl rfl rfl rfl ?_;refine Z8 ?_;refine aj rfl rfl rfl rfl rfl ?_;refine Z8 ?_;refine eQ O ?_;clear O;refine gQ fun _ O=>?_;refine aI rfl rfl rfl ?_;refine ac rfl rfl (cN) rfl rfl rfl rfl ?_;refine Z8 ?_;refine eQ O ?_;clear O;refine aU fun _ O=>?_;refine aa tok rfl ?_;refine Z9 ?_;refine ab ?_;refine aa tok rfl ?_;refine ae rfl (x_m SP.dc (i := 1) rfl rfl rfl rfl (by simp) rfl) rfl ?_;refine ab ?_;refine aa tok rfl ?_;refine Z5 ?_;refine ab ?_;refine aa tok rfl ?_;refine Z7 ?_;refine ab ?_;refine aa tok rfl ?_;refine ac rfl rfl (t1) rfl rfl rfl rfl ?_;refine ab ?_;refine aa tok rfl ?_;refine av rfl (vr _) rfl ?_;refine ab ?_;refine aa tok rfl ?_;refine Z9 ?_;refine ab ?_;refine aa tok rfl ?_;refine Z7 ?_;refine ab ?_;refine aa tok rfl ?_;refine ac rfl rfl (t2) rfl rfl rfl rfl ?_;refine ab ?_;refine aa tok rfl ?_;refine av rfl (vr _) rfl ?_;refine ab ?_;refine aa tok rfl ?_;refine Z4 ?_;refine ab ?_;refine aa tok rfl ?_;refine Z9 ?_;refine ab ?_;refine aa tok rfl ?_;refine Z9 ?_;refine ab ?_;refine aa tok rfl ?_;refine Z6 ?_;refine ab ?_;refine aa tok rfl ?_;refine Z4 ?_;refine ab ?_;refine aa tok rfl ?_;refine Z9 ?_;refine ab ?_;refine aa tok rfl ?_;refine Z7 ?_;refine ab ?_;refine aa tok rfl ?_;refine ac rfl rfl (t3) rfl rfl rfl rfl ?_;refine ab ?_;refine aa tok rfl ?_;refine av rfl (vr _) rfl ?_;refine ab ?_;refine aa tok rfl ?_;refine Z4 ?_;refine ab ?_;refine aa tok rfl ?_;refine Z9 ?_;refine ab ?_;refine aa tok rfl ?_;refine Z9 ?_;refine ab ?_;refine aa tok rfl ?_;refine Z6 ?_;refine ab ?_;refine aa tok rfl ?_;refine Z4 ?_;refine ab ?_;refine aa tok rfl ?_;refine Z9 ?_;refine ab ?_;refine aa tok rfl ?_;refine Z9 ?_;refine ab ?_;refine Ei (e := 101) rfl rfl rfl (by kernel_rfl) ?_;refine aa tok rfl ?_;refine Z4 ?_;refine ab ?_;refine aa tok rfl ?_;refine Z9 ?_;refine ab ?_;refine aa tok rfl ?_;refine Z9 ?_;refine ab ?_;refine aa tok rfl ?_;refine ac rfl rfl (cG) rfl rfl rfl rfl ?_;refine ab ?_;refine aa tok rfl ?_;refine lF rfl rfl rfl ?_;refine ab ?_;refine aa tok rfl ?_;refine az rfl (bD RW.dc rfl rfl) rfl ?_;refine ab ?_;refine aa tok rfl ?_;refine av rfl (EO rfl) rfl ?_;refine ab ?_;refine aa tok rfl ?_;refine Z4 ?_;refine ab ?_;refine aa tok rfl ?_;refine Z8 ?_;refine ab ?_;refine aM rfl (O _ ?_); clear O;exact ah aT

/-! ### alike -/
/-! ### Least -/
end Go.Proofs.YtceacleokgoooaaGreatDoor

/- adjust: graphs whose rotations are made canonical; ref31.Same. No condition. -/
namespace Go.Proofs.YtceacleokgoooaaGreatDoor
attribute [local irreducible] aF
open Go.RowKit

theorem EZ (r : RW) : (QN r).cn = r.cn := by unfold QN; rw [DE, RW.cn_gc]
theorem C0 (r : RW) : QN (QN r) = QN r := by show pz2 (QN r).cn = _; rw [EZ]; rfl
theorem CZ {r : RW} {k : Nat} (hk : 1 <= k) (h : r.OK k) : (QN r).OK k := by
 exact uU (h.cn hk)
set_option maxHeartbeats 1000000 in
theorem yQ (ns ms : List RW) (ls : List LK) (hl : ns.length = ms.length) (on : ∀ r ∈ ns, r.OK 67108864) (om : ∀ r ∈ ms, r.OK 67108864) (he : ∀ i (h1 : i < ns.length) (h2 : i < ms.length), ns[i].cn = ms[i].cn) (b1 : ns.length <= 1048576) (b2 : ls.length <= 1048576) :
  Con Tryz.prog 16 [AG (GR.mk ns ls).cs, AG (GR.mk ms ls).cs] { v := dB true } := by
 refine gY (fn := Tryz.f16) nC Tryz.func16 (by kernel_rfl) rfl ?_
 intro w0 X
 rw [aq _ _ [(0, AG (GR.mk ns ls).cs), (1, AG (GR.mk ms ls).cs)] rfl rfl];refine aB nC fun _ O=>?_;refine aG rfl rfl rfl rfl rfl rfl ?_;refine aG rfl rfl rfl rfl rfl rfl ?_;refine Z8 ?_;refine eQ O ?_;clear O;refine ag ?_;refine aB nC fun _ O=>?_;refine Z5 ?_;refine Z7 ?_;refine az rfl (bD RW.dc rfl rfl) rfl ?_;refine Z5 ?_;refine Z7 ?_;refine az rfl (bD RW.dc rfl rfl) rfl ?_;refine av rfl (jI (c := false) (by simp [hl])) rfl ?_;refine Z9 ?_;refine Z5 ?_;refine Z7 ?_;refine az rfl (bD LK.dc rfl rfl) rfl ?_;refine Z5 ?_;refine Z7 ?_;refine az rfl (bD LK.dc rfl rfl) rfl ?_;refine av rfl (jI (c := false) (by simp)) rfl ?_;refine Z4 ?_;refine eQ O ?_;clear O;refine ap rfl (fun hc => by cases hc) (fun hc => ?_);refine ak ?_;show AWP _ _ _ _ _ _;refine ag ?_;refine aB nC fun _ O=>?_;refine Z8 ?_;refine eQ O ?_;clear O;refine al (aS (α := Nat) (fun i => mk 60 [(2, .ptr 2 0), (3, .ptr 3 0), (5, dI i)] [(2, some (.box (GR.mk ns ls).cs)), (3, some (.box (GR.mk ms ls).cs))] []) (fun i => i <= ns.length) (fun i => ns.length - i) 0 ?_ (Nat.zero_le _) ?_)
 ·exact Wk.mk' ⟨rfl, rfl, rfl, trivial⟩ ⟨rfl, rfl, trivial⟩
 intro i hi
 refine ag ?_;refine aB nC fun _ O=>?_;refine Z9 ?_;refine Z5 ?_;refine Z7 ?_;refine az rfl (bD RW.dc rfl rfl) rfl ?_;refine Z6 ?_;refine eQ O ?_;clear O;refine ap rfl (fun hc => ?_) (fun hc => ?_)
 ·have hi : i < ns.length := by simp at hc; omega
  have hi2 : i < ms.length := by omega
  have c := y8 ns[i] ms[i] (on _ (List.getElem_mem hi)) (om _ (List.getElem_mem hi2))
  rw [decide_eq_true (he i hi hi2)] at c;refine ak ?_;show AWP _ _ _ _ _ _;refine ag ?_;refine al ?_;refine aL nC mixed (A := [[], [], [], [0], [0, 1, 2], [], [], [], [5], [5, 6, 7], [0, 1, 2, 3, 5, 6, 7, 8], [0, 1, 2, 3, 4, 5, 6, 7, 8, 9]]) (an := [{}, {}, {}, {}, {}, {}, {}, {}, {}, {}, {}, {}]) rfl (by kernel_rfl) rfl fun _ O=>?_;refine Z5 ?_;refine Z7 ?_;refine Z9 ?_;refine ae rfl (x_m RW.dc rfl rfl rfl rfl hi rfl) rfl ?_;refine Z7 ?_;refine Z5 ?_;refine Z7 ?_;refine Z9 ?_;refine ae rfl (x_m RW.dc rfl rfl rfl rfl hi2 rfl) rfl ?_;refine Z7 ?_;refine ac rfl rfl (c) rfl rfl rfl rfl ?_;refine dr rfl rfl rfl ?_;refine eQ O ?_;clear O;refine ap rfl (fun hd => ?_) (fun hd => ?_)
  ·cases hd
  refine ak ?_;show AWP _ _ _ _ _ _;refine kx nC fun _ O=>?_;refine Z9 ?_;refine av rfl (aP (c := ((i + 1 : Nat) : Int)) (by omega) (by omega)) rfl ?_;refine Z8 ?_;refine eQ O ?_;clear O;exact ⟨i + 1, by omega, hi, Wk.mk' ⟨rfl, rfl, rfl, trivial⟩ ⟨rfl, rfl, trivial⟩⟩
 refine aD ?_;show AWP _ _ _ _ _ _;refine ag ?_;refine aB nC fun _ O=>?_;refine Z8 ?_;refine eQ O ?_;clear O;refine al (aS (α := Nat) (fun i => mk 60 [(2, .ptr 2 0), (3, .ptr 3 0), (6, dI i)] [(2, some (.box (GR.mk ns ls).cs)), (3, some (.box (GR.mk ms ls).cs))] []) (fun i => i <= ls.length) (fun i => ls.length - i) 0 ?_ (Nat.zero_le _) ?_)
 ·exact Wk.mk' ⟨rfl, rfl, rfl, trivial⟩ ⟨rfl, rfl, trivial⟩
 clear hc hi i
 intro i hi
 refine ag ?_;refine aB nC fun _ O=>?_;refine Z9 ?_;refine Z5 ?_;refine Z7 ?_;refine az rfl (bD LK.dc rfl rfl) rfl ?_;refine Z6 ?_;refine eQ O ?_;clear O;refine ap rfl (fun hc => ?_) (fun hc => ?_)
 ·have hi : i < ls.length := by simp at hc; omega
  refine ak ?_;show AWP _ _ _ _ _ _;refine ag ?_;refine al ?_;refine aL nC mixed (A := [[], [], [], [0], [0, 1, 2], [], [], [], [5], [5, 6, 7], [0, 1, 2, 3, 5, 6, 7, 8]]) (an := [{}, {}, {}, {}, {}, {}, {}, {}, {}, {}, {}]) rfl (by kernel_rfl) rfl fun _ O=>?_;refine Z5 ?_;refine Z7 ?_;refine Z9 ?_;refine ae rfl (x_m LK.dc rfl rfl rfl rfl hi rfl) rfl ?_;refine Z7 ?_;refine Z5 ?_;refine Z7 ?_;refine Z9 ?_;refine ae rfl (x_m LK.dc rfl rfl rfl rfl hi rfl) rfl ?_;refine Z7 ?_;refine av rfl (EK (l := ls[i]) rfl) rfl ?_;refine eQ O ?_;clear O;refine ap rfl (fun hd => ?_) (fun hd => ?_)
  ·cases hd
  refine ak ?_;show AWP _ _ _ _ _ _;refine kx nC fun _ O=>?_;refine Z9 ?_;refine av rfl (aP (c := ((i + 1 : Nat) : Int)) (by omega) (by omega)) rfl ?_;refine Z8 ?_;refine eQ O ?_;clear O;exact ⟨i + 1, by omega, hi, Wk.mk' ⟨rfl, rfl, rfl, trivial⟩ ⟨rfl, rfl, trivial⟩⟩
 refine aD ?_;show AWP _ _ _ _ _ _;refine aB nC fun _ O=>?_;refine Z8 ?_;refine eQ O ?_;clear O;exact ah aT

/-! ### Minimum looks at the canonical rotations alone -/
end Go.Proofs.YtceacleokgoooaaGreatDoor

/- A region that draws its order, walked order by order. No condition. -/
namespace Go.Proofs.YtceacleokgoooaaGreatDoor
open Go.RowKit

def Cx (P : Program) (w0 : Base) (X : Nat -> Prop) (ops : List Oper) (fuel : Nat) (listed : Array Bool) (K : St -> Prop) (st : St) : Prop :=
 ∀ μ a w (Q : Exit -> Act -> World -> Prop), (∀ a w, jg w0 X K a w -> Q .normal a w) -> Sim w0 X μ a w st -> wpAny P .any ops.toArray Q fuel listed a w

section
variable {P : Program} {w0 : Base} {X : Nat -> Prop} {ops : List Oper} {K : St -> Prop} {st st' : St}
theorem uz {o : Oper} {a : Act} {next next' : Act -> World -> Prop} {Q Q' : Exit -> Act -> World -> Prop} (hn : ∀ a w, next a w -> next' a w) (hQ : ∀ e a w, e ≠ .normal -> Q e a w -> Q' e a w) {r : Result Next} (h : o.upon P a next Q r) : o.upon P a next' Q' r := by
 have hl : LetsOut Q -> LetsOut Q' := fun ⟨a, w, h⟩ => ⟨a, w, hQ _ _ _ (by intro h; cases h) h⟩
 cases r with
 | ok n w' =>
  cases n <;> simp only [Oper.upon] at h ⊢ <;>
   first
    | exact hn _ _ h
    | exact Calls.mono h (fun e w'' he => by
      cases e with
      | returned v => exact hn _ _ he
      | panicked c => exact hQ _ _ _ (by intro h; cases h) he
      | outgrown => exact hl he)
    | exact Rows.mono h (fun _ _ he => hn _ _ he)
 | halt x w' =>
  cases x <;> simp only [Oper.upon] at h ⊢ <;> first | exact h.elim | exact hQ _ _ _ (by intro h; cases h) h
theorem cf {fuel : Nat} {listed : Array Bool} (r : List Nat) (hr : Region.ready .any ops.toArray listed = r) (hne : r.isEmpty = false)
  (h : ∀ i ∈ r, ∃ o, ops[i]? = some o /\ o.guard = none /\ cK P w0 X [o] 0 (Cx P w0 X ops fuel (listed.setIfInBounds i true) K) st) : Cx P w0 X ops (fuel + 1) listed K st := by
 intro μ a w Q hQ hs
 refine ⟨fun h0 => ?_, fun i hi => ?_⟩
 ·rw [hr] at h0; subst h0; cases hne
 ·rw [hr] at hi
  obtain ⟨o, ho, hg, hl⟩ := h i hi
  have h1 := hl μ a w (fun e a w => match e with | .normal => wpAny P .any ops.toArray Q fuel (listed.setIfInBounds i true) a w | e => Q e a w) (fun a w ⟨μ', st', hs', h'⟩ => h' μ' a w Q hQ hs') hs
  have e0 : (List.range [o].length).drop 0 = [0] := rfl
  rw [e0, wpOps_cons] at h1
  have ho' : ops.toArray[i]? = some o := by simpa using ho
  unfold wpOp at h1 ⊢
  rw [ho']
  simp only
  have w1 : Region.wanted o (yielded ops.toArray a.tmps) = true := by simp [Region.wanted, hg]
  have w2 : Region.wanted o (yielded [o].toArray a.tmps) = true := by simp [Region.wanted, hg]
  rw [if_pos w1]
  have h2 : (([o].toArray)[0]? : Option Oper) = some o := rfl
  rw [h2] at h1;simp only [w2, if_true] at h1
  rcases h1 with h1 | ⟨h1, a1, w1', h3⟩
  ·left
   unfold Oper.wp at h1 ⊢
   refine uz (fun a w h => ?_) (fun e a w hne h => ?_) h1
   ·simpa [wpOps] using h
   ·cases e <;> first | exact absurd rfl hne | exact h
  ·exact Or.inr ⟨h1, a1, w1', h3⟩
theorem qq {fuel : Nat} {listed : Array Bool} (hr : Region.ready .any ops.toArray listed = []) (h : K st) : Cx P w0 X ops fuel listed K st := by
 intro μ a w Q hQ hs
 cases fuel with
 | zero => exact ⟨hr, hQ a w ⟨μ, st, hs, h⟩⟩
 | succ n => exact ⟨fun _ => hQ a w ⟨μ, st, hs, h⟩, fun i hi => by rw [hr] at hi; cases hi⟩
theorem A1 {id : Nat} {Q : Exit -> St -> Prop} (hm : P.follows .mixedOrders = true) (h : ∀ K : St -> Prop, (∀ st, Q .normal st -> K st) -> Cx P w0 X ops ops.length (Array.replicate ops.length false) K st) : AWP P w0 X (Code.region id ops.toArray true) Q st := by
 intro μ a w hs
 refine wp_region_any hm ?_
 have hsz : ops.toArray.size = ops.length := by simp
 rw [hsz];exact h (Q .normal) (fun _ h => h) μ a _ _ (fun a w ⟨μ', st', hs', h'⟩ => ⟨μ', st', hs', h'⟩) hs.drew
end
end Go.Proofs.YtceacleokgoooaaGreatDoor

/- ref31's adjuster; the graph of an own adjuster. No condition. -/
namespace Go.Proofs.YtceacleokgoooaaGreatDoor
attribute [local irreducible] aF
open Go.RowKit

theorem za (r : RW) (ok : r.OK 268435456) : Con Tryz.prog 21 [AG r.cs] { v := AG (GR.mk [QN r] []).cs } := by
 have cN := lL r ok
 change Con _ _ _ { v := AG (QN r).cs } at cN
 generalize QN r = q at cN ⊢;refine gY (fn := Tryz.f21) jP Tryz.func21 (by kernel_rfl) rfl ?_
 intro w0 X
 rw [aq _ _ [(0, AG r.cs)] rfl rfl];refine aB jP fun _ O=>?_;refine aG rfl rfl rfl rfl rfl rfl ?_;refine aw rfl rfl rfl rfl rfl rfl ?_;refine eQ O ?_;clear O;refine aB jP fun _ O=>?_;refine Z7 ?_;refine ac rfl rfl (cN) rfl rfl rfl rfl ?_;refine cZ rfl rfl rfl rfl ?_;refine aI rfl rfl rfl ?_;refine aI rfl rfl rfl ?_;refine aj rfl rfl rfl rfl rfl ?_;refine eQ O ?_;clear O;exact ah aT
def tD (g : GR) (r : RW) : GR × Int × Int := if 16 <= g.nodes.length then (g, 0, 6) else (.mk (g.nodes ++ [QN r]) g.links, g.nodes.length, 0)
set_option maxHeartbeats 1000000 in
theorem qK (g : GR) (r : RW) (ok : r.OK 268435456) (hn : g.nodes.length <= 1048576) : Con Tryz.prog 23 [AG g.cs, AG r.cs] { v := .tup [.agg (tD g r).1.cs, .one (.d (lI (tD g r).2.1)), .one (.d (lI (tD g r).2.2))] } := by
 have cN := lL r ok
 change Con _ _ _ { v := AG (QN r).cs } at cN
 unfold tD
 generalize QN r = q at cN ⊢;refine Z3 Tryz.func23 ?_
 intro w0 X
 rw [aq _ _ [(0, AG g.cs), (1, AG r.cs)] rfl rfl];refine gQ fun _ O=>?_;refine aG rfl rfl rfl rfl rfl rfl ?_;refine aG rfl rfl rfl rfl rfl rfl ?_;refine aw rfl rfl rfl rfl rfl rfl ?_;refine Z8 ?_;refine Z8 ?_;refine eQ O ?_;clear O;refine gQ fun _ O=>?_;refine Z5 ?_;refine Z5 ?_;refine Z7 ?_;refine az rfl (bD RW.dc rfl rfl) rfl ?_;refine Z8 ?_;refine eQ O ?_;clear O;refine ag ?_
 by_cases h16 : 16 <= g.nodes.length
 ·rw [if_pos h16];refine gQ fun _ O=>?_;refine Z9 ?_;refine av rfl (gJ (c := true) (decide_eq_true (by omega))) rfl ?_;refine eQ O ?_;clear O;refine ap rfl (fun _ => ?_) (fun h => by cases h);refine gQ fun _ O=>?_;refine Z7 ?_;refine aj rfl rfl rfl rfl rfl ?_;refine Z8 ?_;refine Z8 ?_;refine eQ O ?_;clear O;exact ah aT
 ·rw [if_neg h16];refine gQ fun _ O=>?_;refine Z9 ?_;refine av rfl (gJ (c := false) (decide_eq_false (by omega))) rfl ?_;refine eQ O ?_;clear O;refine ap rfl (fun h => by cases h) (fun _ => ?_);refine ak ?_;show AWP _ _ _ _ _ _;refine gQ fun _ O=>?_;refine ax rfl rfl rfl rfl ?_;refine Z5 ?_;refine Z5 ?_;refine Z7 ?_;refine aN rfl (et (es := []) rfl rfl rfl rfl rfl rfl (by decide) (Nat.le_of_ble_eq_true rfl) rfl (fun e he => by obtain ⟨x, _, rfl⟩ := List.mem_map.1 he; rfl) rfl rfl rfl (by simp; omega)) rfl rfl rfl ?_;refine Z8 ?_;refine eQ O ?_;clear O;refine gQ fun _ O=>?_;refine Z9 ?_;refine Z7 ?_;refine ac rfl rfl (cN) rfl rfl rfl rfl ?_;refine ax rfl rfl rfl rfl ?_;refine aN rfl (et rfl rfl rfl rfl rfl rfl (by decide) (Nat.le_of_ble_eq_true rfl) rfl (by simp) rfl rfl rfl (by simp <;> omega)) rfl rfl rfl ?_;refine Z5 ?_;refine Z5 ?_;refine bT rfl rfl rfl rfl rfl ?_;refine eQ O ?_;clear O;refine dK [2, 4, 7] [2, 4, 25] 25 [(2, .ptr 2 0), (4, .ptr 4 0), (7, dI g.nodes.length)] [(2, some (.box (GR.mk (g.nodes ++ [q]) g.links).cs)), (4, some (.box [.nil, .nil]))] rfl ⟨rfl, rfl, rfl, trivial⟩ ⟨?_, rfl, trivial⟩ ?_
  ·show some (OO.box [gF 25 4 _ (.own 25 4 0 _), _]) = _
   rw [gu (es' := (g.nodes ++ [q]).map RW.dc) (by rw [List.map_append]; rfl) (by simp)]; rfl
  refine gQ fun _ O=>?_;refine Z7 ?_;refine Z9 ?_;refine aj rfl rfl rfl rfl rfl ?_;refine Z8 ?_;refine Z8 ?_;refine eQ O ?_;clear O;exact ah aT
theorem xw (g : GR) (l : LK) : Con Tryz.prog 56 [AG g.cs, AG l.cs] { v := dB (bG (.mk g.nodes [l])) } := by
 have cV := uO (.mk g.nodes [l]) (by show 1 <= _; decide)
 generalize bG (.mk g.nodes [l]) = v at cV ⊢;refine Z3 Tryz.func56 ?_
 intro w0 X
 rw [aq _ _ [(0, AG g.cs), (1, AG l.cs)] rfl rfl];refine gQ fun _ O=>?_;refine aG rfl rfl rfl rfl rfl rfl ?_;refine aG rfl rfl rfl rfl rfl rfl ?_;refine Z8 ?_;refine eQ O ?_;clear O;refine gQ fun _ O=>?_;refine Z5 ?_;refine Z7 ?_;refine Z7 ?_;refine ax rfl rfl rfl rfl ?_;refine aI rfl rfl rfl ?_;refine iz rfl rfl (cV) ⟨rfl, fun _ _ h => by cases h⟩ rfl rfl rfl ?_;refine Z8 ?_;refine eQ O ?_;clear O;exact ah aT
def rY (g : GR) (l : LK) : GR × Int := if bG (.mk g.nodes [l]) = true then (if 48 <= g.links.length then (g, 6) else (.mk g.nodes (g.links ++ [l]), 0)) else (g, 1)
set_option maxHeartbeats 1000000 in
theorem xv (g : GR) (l : LK) (hn : g.links.length <= 1048576) : Con Tryz.prog 25 [AG g.cs, AG l.cs] { v := .tup [.agg (rY g l).1.cs, .one (.d (lI (rY g l).2))] } := by
 have cF := xw g l
 unfold rY
 refine Z3 Tryz.func25 ?_
 intro w0 X
 rw [aq _ _ [(0, AG g.cs), (1, AG l.cs)] rfl rfl];refine gQ fun _ O=>?_;refine aG rfl rfl rfl rfl rfl rfl ?_;refine aG rfl rfl rfl rfl rfl rfl ?_;refine aw rfl rfl rfl rfl rfl rfl ?_;refine Z8 ?_;refine eQ O ?_;clear O;refine ag ?_
 cases hv : bG (.mk g.nodes [l]) with
 | false =>
  rw [hv] at cF;rw [if_neg (by decide)];refine gQ fun _ O=>?_;refine Z5 ?_;refine Z7 ?_;refine Z7 ?_;refine ac rfl rfl (cF) rfl rfl rfl rfl ?_;refine dr rfl rfl rfl ?_;refine eQ O ?_;clear O;refine ap rfl (fun _ => ?_) (fun h => by cases h);refine gQ fun _ O=>?_;refine Z7 ?_;refine aj rfl rfl rfl rfl rfl ?_;refine Z8 ?_;refine eQ O ?_;clear O;exact ah aT
 | true =>
 rw [hv] at cF;rw [if_pos rfl];refine gQ fun _ O=>?_;refine Z5 ?_;refine Z7 ?_;refine Z7 ?_;refine ac rfl rfl (cF) rfl rfl rfl rfl ?_;refine dr rfl rfl rfl ?_;refine eQ O ?_;clear O;refine ap rfl (fun h => by cases h) (fun _ => ?_);refine ak ?_;show AWP _ _ _ _ _ _;refine ag ?_
 by_cases h48 : 48 <= g.links.length
 ·rw [if_pos h48];refine gQ fun _ O=>?_;refine Z5 ?_;refine Z5 ?_;refine Z7 ?_;refine az rfl (bD LK.dc rfl rfl) rfl ?_;refine av rfl (gJ (c := true) (decide_eq_true (by omega))) rfl ?_;refine eQ O ?_;clear O;refine ap rfl (fun _ => ?_) (fun h => by cases h);refine gQ fun _ O=>?_;refine Z7 ?_;refine aj rfl rfl rfl rfl rfl ?_;refine Z8 ?_;refine eQ O ?_;clear O;exact ah aT
 ·rw [if_neg h48];refine gQ fun _ O=>?_;refine Z5 ?_;refine Z5 ?_;refine Z7 ?_;refine az rfl (bD LK.dc rfl rfl) rfl ?_;refine av rfl (gJ (c := false) (decide_eq_false (by omega))) rfl ?_;refine eQ O ?_;clear O;refine ap rfl (fun h => by cases h) (fun _ => ?_);refine ak ?_;show AWP _ _ _ _ _ _;refine gA tok mixed (m := 8) (A := [[], [], [], [1], [1, 2], [], [], [0, 1, 2, 3, 5], [], [], [8]]) (an := [{}, { c := [18] }, { c := [18] }, { c := [18] }, {}, { c := [18, 22] }, { c := [18, 22] }, {}, {}, {}, {}]) rfl rfl (by kernel_rfl) (by kernel_rfl) (by kernel_rfl) rfl fun _ O=>?_;refine ax rfl rfl rfl rfl ?_;refine Z5 ?_;refine Z5 ?_;refine Z7 ?_;refine aN rfl (et (es := []) rfl rfl rfl rfl rfl rfl (by decide) (Nat.le_of_ble_eq_true rfl) rfl (fun e he => by obtain ⟨x, _, rfl⟩ := List.mem_map.1 he; rfl) rfl rfl rfl (by simp; omega)) rfl rfl rfl ?_;refine Z7 ?_;refine ax rfl rfl rfl rfl ?_;refine aN rfl (et rfl rfl rfl rfl rfl rfl (by decide) (Nat.le_of_ble_eq_true rfl) rfl (by simp) rfl rfl rfl (by simp <;> omega)) rfl rfl rfl ?_;refine ab ?_;refine aa tok rfl ?_;refine Z5 ?_;refine ab ?_;refine aa tok rfl ?_;refine Z5 ?_;refine ab ?_;refine aa tok rfl ?_;refine bT rfl rfl rfl rfl rfl ?_;refine ab ?_;refine aM rfl (O _ ?_); clear O;refine dK [2, 4] [2, 4, 25] 25 [(2, .ptr 2 0), (4, .ptr 4 0)] [(2, some (.box (GR.mk g.nodes (g.links ++ [l])).cs)), (4, some (.box [.nil, .nil]))] rfl ⟨rfl, rfl, trivial⟩ ⟨?_, rfl, trivial⟩ ?_
  ·show some (OO.box [_, gF 25 5 _ (.own 25 5 0 _)]) = _
   rw [gu (es' := (g.links ++ [l]).map LK.dc) (by rw [List.map_append]; rfl) (by simp)]; rfl
  refine gQ fun _ O=>?_;refine Z7 ?_;refine aj rfl rfl rfl rfl rfl ?_;refine Z8 ?_;refine eQ O ?_;clear O;exact ah aT
def vz (g : GR) (k : Int) : GR × Int := if 0 <= k /\ k < (g.links.length : Int) then (.mk g.nodes (g.links.eraseIdx k.toNat), 0) else (g, 2)
set_option maxHeartbeats 1000000 in
theorem xx (g : GR) (k : Int) (hn : g.links.length <= 1048576) : Con Tryz.prog 24 [AG g.cs, dI k] { v := .tup [.agg (vz g k).1.cs, .one (.d (lI (vz g k).2))] } := by
 unfold vz
 refine Z3 Tryz.func24 ?_
 intro w0 X
 rw [aq _ _ [(0, AG g.cs), (1, dI k)] rfl rfl];refine gQ fun _ O=>?_;refine aG rfl rfl rfl rfl rfl rfl ?_;refine aw rfl rfl rfl rfl rfl rfl ?_;refine Z8 ?_;refine eQ O ?_;clear O;refine ag ?_
 by_cases hk : 0 <= k /\ k < (g.links.length : Int)
 ·rw [if_pos hk]
  obtain ⟨n, rfl⟩ : ∃ n : Nat, k = (n : Int) := ⟨k.toNat, by omega⟩
  have hk : n < g.links.length := by omega
  rw [Int.toNat_natCast];refine gQ fun _ O=>?_;refine Z9 ?_;refine av rfl (mc (c := false) (decide_eq_false (by omega))) rfl ?_;refine Z9 ?_;refine Z9 ?_;refine Z5 ?_;refine Z5 ?_;refine Z7 ?_;refine az rfl (bD LK.dc rfl rfl) rfl ?_;refine av rfl (gJ (c := false) (decide_eq_false (by omega))) rfl ?_;refine Z4 ?_;refine eQ O ?_;clear O;refine ap rfl (fun h => by cases h) (fun _ => ?_);refine ak ?_;show AWP _ _ _ _ _ _
  have z1 : ((g.links.take n).drop 0).map LK.dc = ((g.links.map LK.dc).take n).drop 0 := by rw [List.drop_zero, List.drop_zero, List.map_take]
  have z2 : ((g.links.take g.links.length).drop (n + 1)).map LK.dc = ((g.links.map LK.dc).take g.links.length).drop (n + 1) := by rw [List.map_drop, List.map_take]
  refine gQ fun _ O=>?_;refine ax rfl rfl rfl rfl ?_;refine Z5 ?_;refine Z5 ?_;refine Z7 ?_;refine Z9 ?_;refine gP rfl rfl rfl (Bk (lo := 0) (hi := n) rfl rfl rfl rfl rfl (Nat.zero_le _) (by simp; omega) (fun e he => by obtain ⟨x, _, rfl⟩ := List.mem_map.1 he; rfl)) rfl ?_;refine aN rfl (et (es := []) rfl rfl rfl rfl rfl rfl (by decide) (Nat.le_of_ble_eq_true rfl) rfl (fun e he => by rw [<- z1] at he; obtain ⟨x, _, rfl⟩ := List.mem_map.1 he; rfl) rfl rfl rfl (by simp; omega)) rfl rfl rfl ?_;refine Z8 ?_;refine eQ O ?_;clear O;refine gQ fun _ O=>?_;refine Z9 ?_;refine Z5 ?_;refine Z5 ?_;refine Z7 ?_;refine Z9 ?_;refine av rfl (aP (c := ((n + 1 : Nat) : Int)) (by omega) (by omega)) rfl ?_;refine gP rfl rfl rfl (Bk (lo := n + 1) (hi := g.links.length) rfl rfl rfl rfl (by simp) (by omega) (by simp) (fun e he => by obtain ⟨x, _, rfl⟩ := List.mem_map.1 he; rfl)) rfl ?_;refine aN rfl (et rfl rfl rfl rfl rfl rfl (by decide) (Nat.le_of_ble_eq_true rfl) rfl (fun e he => by rw [<- z2] at he; obtain ⟨x, _, rfl⟩ := List.mem_map.1 he; rfl) rfl rfl rfl (by simp <;> omega)) rfl rfl rfl ?_;refine Z5 ?_;refine Z5 ?_;refine bT rfl rfl rfl rfl rfl ?_;refine eQ O ?_;clear O;refine dK [2, 4] [2, 4, 32] 32 [(2, .ptr 2 0), (4, .ptr 4 0)] [(2, some (.box (GR.mk g.nodes (g.links.eraseIdx n)).cs)), (4, some (.box [.nil, .nil]))] rfl ⟨rfl, rfl, trivial⟩ ⟨?_, rfl, trivial⟩ ?_
  ·have e : ([] : List (List DC)) ++ ((g.links.map LK.dc).take n).drop 0 ++ ((g.links.map LK.dc).take g.links.length).drop (n + 1) = (g.links.eraseIdx n).map LK.dc := by
    rw [<- z1, <- z2, List.nil_append, List.drop_zero, List.take_length, <- List.map_append, <- List.eraseIdx_eq_take_drop_succ]
   show some (OO.box [_, gF 32 5 _ (.own 32 5 0 _)]) = _
   rw [gu (es' := (g.links.eraseIdx n).map LK.dc) e (by rw [<- e])]; rfl
  refine gQ fun _ O=>?_;refine Z7 ?_;refine aj rfl rfl rfl rfl rfl ?_;refine Z8 ?_;refine eQ O ?_;clear O;exact ah aT
 ·rw [if_neg hk];refine bd (α := Unit) (fun _ => mk 36 [(2, .ptr 2 0), (4, .ptr 4 0), (16, dB true)] [(2, some (.box g.cs)), (4, some (.box [.nil, .nil]))] []) (fun _ => True) ?_ ?_
  ·by_cases h0 : k < 0
   ·refine gR fun _ O=>?_;refine Z9 ?_;refine av rfl (mc (c := true) (decide_eq_true h0)) rfl ?_;refine Z9 ?_;refine aA rfl ?_;refine aA rfl ?_;refine aA rfl ?_;refine aA rfl ?_;refine aA rfl ?_;refine aA rfl ?_;refine Z4 ?_;refine eQ O ?_;clear O;exact ⟨(), trivial, Wk.mk' ⟨rfl, rfl, rfl, trivial⟩ ⟨rfl, rfl, trivial⟩⟩
   ·refine gR fun _ O=>?_;refine Z9 ?_;refine av rfl (mc (c := false) (decide_eq_false h0)) rfl ?_;refine Z9 ?_;refine Z9 ?_;refine Z5 ?_;refine Z5 ?_;refine Z7 ?_;refine az rfl (bD LK.dc rfl rfl) rfl ?_;refine av rfl (gJ (c := true) (decide_eq_true (by omega))) rfl ?_;refine Z4 ?_;refine eQ O ?_;clear O;exact ⟨(), trivial, Wk.mk' ⟨rfl, rfl, rfl, trivial⟩ ⟨rfl, rfl, trivial⟩⟩
  rintro ⟨⟩ -
  refine ap rfl (fun _ => ?_) (fun h => by cases h);refine gQ fun _ O=>?_;refine Z7 ?_;refine aj rfl rfl rfl rfl rfl ?_;refine Z8 ?_;refine eQ O ?_;clear O;exact ah aT
end Go.Proofs.YtceacleokgoooaaGreatDoor

/- adjust: Graph and Clone of an own adjuster; Node of a full one. No condition. -/
namespace Go.Proofs.YtceacleokgoooaaGreatDoor
attribute [local irreducible] aF
open Go.RowKit

theorem xn (ls : List LK) (h0 : ls ≠ []) (hn : ls.length <= 1048576) : Con Tryz.prog 49 [V1 (dLs ls)] { v := .val (.one (.own 0 5 0 ls.length)), ob := some (5, ls.map LK.dc) } := by
 refine Z3 Tryz.func49 ?_
 intro w0 X
 rw [aq _ _ [(0, V1 (dLs ls))] rfl rfl];refine gQ fun _ O=>?_;refine Z8 ?_;refine eQ O ?_;clear O;refine ag ?_;refine mV (es := ls.map LK.dc) tok rfl rfl rfl rfl rfl rfl rfl rfl rfl rfl fun b hb => ?_;rw [eI, eI];refine ap rfl (fun hc => ?_) (fun hc => ?_)
 ·exact absurd (by have := hb hc; simpa using this) h0
 ·refine ak ?_;show AWP _ _ _ _ _ _;refine gQ fun _ O=>?_;refine ax rfl rfl rfl rfl ?_;refine Z9 ?_;refine aN rfl (et (es := []) rfl rfl rfl rfl rfl rfl (by decide) (Nat.le_of_ble_eq_true rfl) rfl (fun e he => by obtain ⟨x, _, rfl⟩ := List.mem_map.1 he; rfl) rfl rfl rfl (by simp; omega)) rfl rfl rfl ?_;refine Z8 ?_;refine eQ O ?_;clear O;refine c8 [(2, .val (.one (.own 7 5 0 ls.length)))] [(7, some (.arr 5 (ls.map LK.dc)))] ⟨by show SV.val (.one (.own 7 5 0 ([] ++ ls.map LK.dc).length)) = _; rw [List.nil_append, List.length_map], trivial⟩ ⟨by show some (OO.arr 5 ([] ++ ls.map LK.dc)) = _; rw [List.nil_append], trivial⟩ ?_;refine ah ?_;exact tp (wP (by rfl) rfl)

set_option maxHeartbeats 1000000 in
theorem u9 (b : Bool) (ns es : List (List DC)) (r : RW) (hn : 16 <= ns.length) (hm : ns.length <= 1048576) :
  jL Tryz.prog 11 [.ptr 999 0, AG r.cs] (adS b ns es) (.tup [.one (.d (lI 0)), .one (.d (lI 6))]) (adS b ns es) := by
 refine c7 (rb := [999]) (fn := Tryz.f11) tok Tryz.func11 (by kernel_rfl) rfl (jD _ _ _) ?_
 intro w0 X _
 rw [dC _ _ _ _ [(0, .ptr 999 0), (1, AG r.cs)] rfl rfl]
 unfold adS lkC
 cases b
 ·refine gQ fun _ O=>?_;refine aG rfl rfl rfl rfl rfl rfl ?_;refine Z8 ?_;refine Z8 ?_;refine eQ O ?_;clear O;refine ag ?_;refine al ?_;refine gQ fun _ O=>?_;refine Z9 ?_;refine Z6 ?_;refine Z8 ?_;refine eQ O ?_;clear O;refine ap rfl (fun h => by cases h) (fun _ => ?_);refine gQ fun _ O=>?_;refine Z9 ?_;refine aQ rfl rfl rfl ?_;refine Z5 ?_;refine Z5 ?_;refine Z7 ?_;refine az rfl rfl rfl ?_;refine av rfl (gJ (c := true) (decide_eq_true (by omega))) rfl ?_;refine Z8 ?_;refine eQ O ?_;clear O;refine ap rfl (fun _ => ?_) (fun h => by cases h);refine gQ fun _ O=>?_;refine Z8 ?_;refine Z8 ?_;refine eQ O ?_;clear O;refine ah ?_;exact cb (rb := [999]) (E' := [(4, dI 0), (5, dI 6)]) (Wk.mk' ⟨rfl, rfl, trivial⟩ ⟨rfl, rfl, trivial⟩) rfl rfl
 ·refine gQ fun _ O=>?_;refine aG rfl rfl rfl rfl rfl rfl ?_;refine Z8 ?_;refine Z8 ?_;refine eQ O ?_;clear O;refine ag ?_;refine al ?_;refine gQ fun _ O=>?_;refine Z9 ?_;refine Z6 ?_;refine Z8 ?_;refine eQ O ?_;clear O;refine ap rfl (fun h => by cases h) (fun _ => ?_);refine gQ fun _ O=>?_;refine Z9 ?_;refine aQ rfl rfl rfl ?_;refine Z5 ?_;refine Z5 ?_;refine Z7 ?_;refine az rfl rfl rfl ?_;refine av rfl (gJ (c := true) (decide_eq_true (by omega))) rfl ?_;refine Z8 ?_;refine eQ O ?_;clear O;refine ap rfl (fun _ => ?_) (fun h => by cases h);refine gQ fun _ O=>?_;refine Z8 ?_;refine Z8 ?_;refine eQ O ?_;clear O;refine ah ?_;exact cb (rb := [999]) (E' := [(4, dI 0), (5, dI 6)]) (Wk.mk' ⟨rfl, rfl, trivial⟩ ⟨rfl, rfl, rfl, trivial⟩) rfl rfl

theorem Ea {S : List (Nat × Option OO)} {id sz : Nat} {es : List (List DC)} (h : so S id = some (.arr sz es)) : b6 ⟨[], so S, []⟩ [.val (.one (.own id sz 0 es.length))] = some [V1 (.sl es)] := by
 have h3 : dZ ⟨[], so S, []⟩ (.own id sz 0 es.length) = some (.sl es) := by
  unfold dZ
  show (match so S id with | some (.arr sz' es') => if sz' = sz /\ 0 + es.length <= es'.length then some (DC.sl ((es'.drop 0).take es.length)) else none | _ => none) = _
  rw [h]
  show (if sz = sz /\ 0 + es.length <= es.length then some (DC.sl ((es.drop 0).take es.length)) else none) = _
  rw [if_pos ⟨rfl, by omega⟩]; simp
 unfold b6 gL
 simp only [h3]
 rfl
theorem vo (ls : List LK) : ye { v := .val (.one (.own 0 5 0 ls.length)), ob := some (5, ls.map LK.dc) } := by
 refine ⟨rfl, fun sz es h e he d hd => ?_⟩
 cases h
 obtain ⟨l, _, rfl⟩ := List.mem_map.1 he
 simp only [LK.dc, List.mem_cons, List.not_mem_nil, or_false] at hd
 rcases hd with rfl | rfl | rfl | rfl | rfl <;> rfl
set_option maxHeartbeats 2000000 in
theorem tN (b : Bool) (ns : List RW) (ls : List LK) (ok : ∀ r ∈ ns, r.OK 268435456) (h0 : ns ≠ []) (hb : b = false -> ls = []) (hn : ns.length <= 1048576) (hl : ls.length <= 1048576) :
  jL Tryz.prog 15 [.ptr 999 0] (adS b (ns.map RW.dc) (ls.map LK.dc)) (AG (GR.mk (ns.map QN) ls).cs) ((996, some (.box (GR.mk (ns.map QN) ls).cs)) :: adS b (ns.map RW.dc) (ls.map LK.dc)) := by
 have cC := qB ls hl
 refine c7 (rb := [999]) (fn := Tryz.f15) tok Tryz.func15 (by kernel_rfl) rfl (jD _ _ _) ?_
 intro w0 X _
 rw [dC _ _ _ _ [(0, .ptr 999 0)] rfl rfl];refine gQ fun _ O=>?_;refine aw rfl rfl rfl rfl rfl (by cases b <;> rfl) ?_;refine eQ O ?_;clear O;refine ag ?_;refine gQ fun _ O=>?_;refine Z9 ?_;refine Z6 ?_;refine eQ O ?_;clear O;refine ap rfl (fun h => by cases h) (fun _ => ?_);refine ak ?_;show AWP _ _ _ _ _ _;refine bd (α := Unit) (fun _ => mk 35 [(0, .ptr 999 0), (2, .ptr 2 0), (3, .ptr 3 0)] ((2, some (.box [.nil, .nil])) :: (3, some (.box [.nil, .d (dLs ls)])) :: adS b (ns.map RW.dc) (ls.map LK.dc)) [999, 3]) (fun _ => True) ?_ ?_
 ·cases b with
  | false =>
   have hb := hb rfl
   subst hb
   refine gR fun _ O=>?_;refine Z9 ?_;refine aQ rfl rfl rfl ?_;refine Z5 ?_;refine Z5 ?_;refine Z7 ?_;refine iz rfl rfl (cC) ⟨rfl, fun _ _ h => by cases h⟩ rfl rfl rfl ?_;refine aI rfl rfl rfl ?_;refine aw rfl rfl rfl rfl rfl rfl ?_;refine aj rfl rfl rfl rfl rfl ?_;refine eQ O ?_;clear O;exact ⟨(), trivial, Wk.trans (Wk.rbE rfl) (Wk.mk' ⟨rfl, rfl, rfl, trivial⟩ ⟨rfl, rfl, rfl, rfl, trivial⟩)⟩
  | true =>
   rcases ls with _ | ⟨l, ls⟩
   ·refine gR fun _ O=>?_;refine Z9 ?_;refine aQ rfl rfl rfl ?_;refine Z5 ?_;refine Z5 ?_;refine Z7 ?_;refine iz rfl rfl (cC) ⟨rfl, fun _ _ h => by cases h⟩ rfl rfl rfl ?_;refine aI rfl rfl rfl ?_;refine aw rfl rfl rfl rfl rfl rfl ?_;refine aj rfl rfl rfl rfl rfl ?_;refine eQ O ?_;clear O;exact ⟨(), trivial, Wk.trans (Wk.rbE rfl) (Wk.mk' ⟨rfl, rfl, rfl, trivial⟩ ⟨rfl, rfl, rfl, rfl, rfl, trivial⟩)⟩
   ·have cO := xn (l :: ls) (by simp) hl
    refine gR fun _ O=>?_;refine Z9 ?_;refine aQ rfl rfl rfl ?_;refine Z5 ?_;refine Z5 ?_;refine Z7 ?_;refine v6 rfl (Ea rfl) cO (Or.inr (vo _)) rfl rfl rfl rfl ?_;refine aI rfl rfl rfl ?_;refine aw rfl rfl rfl rfl rfl rfl ?_;refine bT rfl rfl rfl rfl rfl ?_;refine eQ O ?_;clear O;refine ⟨(), trivial, Wk.trans (Wk.fz [0, 2, 3] [2, 3, 999, 998, 997, 14] 14 (E' := [(0, .ptr 999 0), (2, .ptr 2 0), (3, .ptr 3 0)]) (S' := (2, some (.box [.nil, .nil])) :: (3, some (.box [.nil, .d (dLs (l :: ls))])) :: adS true (ns.map RW.dc) ((l :: ls).map LK.dc)) rfl ⟨rfl, rfl, rfl, trivial⟩ ⟨rfl, ?_, rfl, rfl, rfl, trivial⟩) (Wk.rbE rfl)⟩
    show some (OO.box [_, gF 14 5 _ (.own 14 5 0 _)]) = _
    rw [gu rfl (by simp)]; rfl
 rintro ⟨⟩ -
 refine ag ?_;refine gQ fun _ O=>?_;refine Z9 ?_;refine aQ rfl rfl rfl ?_;refine Z5 ?_;refine Z5 ?_;refine Z7 ?_;refine az rfl rfl rfl ?_;refine Z9 ?_;refine eQ O ?_;clear O;refine al (aS (α := Nat) (fun i => mk 35 [(2, .ptr 2 0), (3, .ptr 3 0), (20, .val (.one (.own 998 4 0 (ns.map RW.dc).length))), (21, dI ns.length), (22, dI i)] ((2, some (.box [.nil, .nil])) :: (3, some (.box [DI 200 4 i, .d (dLs ls)])) :: (200, dJ 4 ((ns.take i).map fun r => (QN r).dc) i) :: adS b (ns.map RW.dc) (ls.map LK.dc)) [999, 3]) (fun i => i <= ns.length) (fun i => ns.length - i) 0 ?_ (Nat.zero_le _) ?_)
 ·refine Wk.trans (Wk.rbE rfl) (Wk.mk' ⟨rfl, rfl, rfl, by show dI (((ns.map RW.dc).length : Nat) : Int) = _; rw [List.length_map], rfl, trivial⟩ ?_)
  cases b
  ·exact ⟨rfl, rfl, rfl, rfl, rfl, trivial⟩
  ·exact ⟨rfl, rfl, rfl, rfl, rfl, rfl, trivial⟩
 intro i hi
 refine gQ fun _ O=>?_;refine Z6 ?_;refine eQ O ?_;clear O;refine ag ?_;refine ap rfl (fun hg => ?_) (fun hg => ?_)
 ·have hg : i < ns.length := by simp at hg; omega
  have hg' : i < (ns.map RW.dc).length := by rw [List.length_map]; exact hg
  have cN := lA ns[i] (ok _ (List.getElem_mem hg))
  change Con _ _ _ { v := AG (QN ns[i]).cs } at cN
  have n1 : ((ns.take i).map fun r => (QN r).dc) ++ [(QN ns[i]).dc] = (ns.take (i + 1)).map fun r => (QN r).dc := by
   rw [List.take_succ_eq_append_getElem hg, List.map_append]; rfl
  have z1 : ((ns.take i).map fun r => (QN r).dc).length = i := by simp; omega
  generalize QN ns[i] = q at cN n1;generalize ((ns.take i).map fun r => (QN r).dc) = es at n1 z1 ⊢;refine ak ?_;show AWP _ _ _ _ _ _;refine ag ?_;refine al ?_
  have gE : (ns.map RW.dc)[i]? = some (ns[i]).dc := by rw [List.getElem?_map, List.getElem?_eq_getElem hg]; rfl
  cases b
  ·rcases i with _ | i
   ·refine gQ fun _ O=>?_;refine ae rfl (x_o (i := 0) (j := 0) rfl rfl rfl rfl rfl hg' (Nat.zero_add _)) rfl ?_;refine bb rfl (l_o rfl rfl gE rfl rfl) rfl ?_;refine aw rfl rfl rfl rfl rfl rfl ?_;refine aj rfl rfl rfl rfl rfl ?_;refine eQ O ?_;clear O;refine br tok mixed (A := [[], [], [], [], [2], [0, 2], [], []]) (an := [{}, {}, {}, {}, {}, {}, {}, {}]) rfl (by kernel_rfl) rfl fun _ O=>?_;refine Z5 ?_;refine Z7 ?_;refine Z7 ?_;refine ac rfl rfl (cN) rfl rfl rfl rfl ?_;refine ax rfl rfl rfl rfl ?_;refine aN rfl (eu rfl rfl rfl rfl rfl (by decide) (Nat.le_of_ble_eq_true rfl) rfl (by simp) rfl (by simp) (by simp)) rfl rfl rfl ?_;refine Z5 ?_;refine bT rfl rfl rfl rfl rfl ?_;refine eQ O ?_;clear O;show AWP _ _ _ _ _ _;refine gR fun _ O=>?_;refine av rfl (aP (c := ((0 + 1 : Nat) : Int)) (by omega) (by omega)) rfl ?_;refine Z9 ?_;refine eQ O ?_;clear O;refine ⟨0 + 1, by omega, hg, Wk.rnB [2, 3, 20, 21, 22] [2, 3, 31, 999, 998] 31 200 rfl rfl rfl ⟨rfl, rfl, rfl, rfl, rfl, trivial⟩ ⟨rfl, ?_, ?_, rfl, rfl, trivial⟩ rfl⟩
    ·first
      | rfl
      | (show some (OO.box [.own 200 4 0 _, _]) = _
         rw [List.length_append, z1]; rfl)
    ·first
      | (rw [<- n1, List.length_eq_zero_iff.1 z1]; rfl)
      | (rw [<- n1]; rfl)
   ·refine gQ fun _ O=>?_;refine ae rfl (x_o (i := i + 1) (j := i + 1) rfl rfl rfl rfl rfl hg' (Nat.zero_add _)) rfl ?_;refine bb rfl (l_o rfl rfl gE rfl rfl) rfl ?_;refine aw rfl rfl rfl rfl rfl rfl ?_;refine aj rfl rfl rfl rfl rfl ?_;refine eQ O ?_;clear O;refine br tok mixed (A := [[], [], [], [], [2], [0, 2], [], []]) (an := [{}, {}, {}, {}, {}, {}, {}, {}]) rfl (by kernel_rfl) rfl fun _ O=>?_;refine Z5 ?_;refine Z7 ?_;refine Z7 ?_;refine ac rfl rfl (cN) rfl rfl rfl rfl ?_;refine ax rfl rfl rfl rfl ?_;refine aN rfl (et rfl rfl rfl rfl rfl rfl (by decide) (Nat.le_of_ble_eq_true rfl) rfl (by simp) rfl rfl z1.symm (by simp <;> omega)) rfl rfl rfl ?_;refine Z5 ?_;refine bT rfl rfl rfl rfl rfl ?_;refine eQ O ?_;clear O;show AWP _ _ _ _ _ _;refine gR fun _ O=>?_;refine av rfl (aP (c := ((i + 1 + 1 : Nat) : Int)) (by omega) (by omega)) rfl ?_;refine Z9 ?_;refine eQ O ?_;clear O;refine ⟨i + 1 + 1, by omega, hg, Wk.rnB [2, 3, 20, 21, 22] [2, 3, 31, 999, 998] 31 200 rfl rfl rfl ⟨rfl, rfl, rfl, rfl, rfl, trivial⟩ ⟨rfl, ?_, ?_, rfl, rfl, trivial⟩ rfl⟩
    ·first
      | rfl
      | (show some (OO.box [.own 200 4 0 _, _]) = _
         rw [List.length_append, z1]; rfl)
    ·first
      | (rw [<- n1, List.length_eq_zero_iff.1 z1]; rfl)
      | (rw [<- n1]; rfl)
  ·rcases i with _ | i
   ·refine gQ fun _ O=>?_;refine ae rfl (x_o (i := 0) (j := 0) rfl rfl rfl rfl rfl hg' (Nat.zero_add _)) rfl ?_;refine bb rfl (l_o rfl rfl gE rfl rfl) rfl ?_;refine aw rfl rfl rfl rfl rfl rfl ?_;refine aj rfl rfl rfl rfl rfl ?_;refine eQ O ?_;clear O;refine br tok mixed (A := [[], [], [], [], [2], [0, 2], [], []]) (an := [{}, {}, {}, {}, {}, {}, {}, {}]) rfl (by kernel_rfl) rfl fun _ O=>?_;refine Z5 ?_;refine Z7 ?_;refine Z7 ?_;refine ac rfl rfl (cN) rfl rfl rfl rfl ?_;refine ax rfl rfl rfl rfl ?_;refine aN rfl (eu rfl rfl rfl rfl rfl (by decide) (Nat.le_of_ble_eq_true rfl) rfl (by simp) rfl (by simp) (by simp)) rfl rfl rfl ?_;refine Z5 ?_;refine bT rfl rfl rfl rfl rfl ?_;refine eQ O ?_;clear O;show AWP _ _ _ _ _ _;refine gR fun _ O=>?_;refine av rfl (aP (c := ((0 + 1 : Nat) : Int)) (by omega) (by omega)) rfl ?_;refine Z9 ?_;refine eQ O ?_;clear O;refine ⟨0 + 1, by omega, hg, Wk.rnB [2, 3, 20, 21, 22] [2, 3, 31, 999, 998, 997] 31 200 rfl rfl rfl ⟨rfl, rfl, rfl, rfl, rfl, trivial⟩ ⟨rfl, ?_, ?_, rfl, rfl, rfl, trivial⟩ rfl⟩
    ·first
      | rfl
      | (show some (OO.box [.own 200 4 0 _, _]) = _
         rw [List.length_append, z1]; rfl)
    ·first
      | (rw [<- n1, List.length_eq_zero_iff.1 z1]; rfl)
      | (rw [<- n1]; rfl)
   ·refine gQ fun _ O=>?_;refine ae rfl (x_o (i := i + 1) (j := i + 1) rfl rfl rfl rfl rfl hg' (Nat.zero_add _)) rfl ?_;refine bb rfl (l_o rfl rfl gE rfl rfl) rfl ?_;refine aw rfl rfl rfl rfl rfl rfl ?_;refine aj rfl rfl rfl rfl rfl ?_;refine eQ O ?_;clear O;refine br tok mixed (A := [[], [], [], [], [2], [0, 2], [], []]) (an := [{}, {}, {}, {}, {}, {}, {}, {}]) rfl (by kernel_rfl) rfl fun _ O=>?_;refine Z5 ?_;refine Z7 ?_;refine Z7 ?_;refine ac rfl rfl (cN) rfl rfl rfl rfl ?_;refine ax rfl rfl rfl rfl ?_;refine aN rfl (et rfl rfl rfl rfl rfl rfl (by decide) (Nat.le_of_ble_eq_true rfl) rfl (by simp) rfl rfl z1.symm (by simp <;> omega)) rfl rfl rfl ?_;refine Z5 ?_;refine bT rfl rfl rfl rfl rfl ?_;refine eQ O ?_;clear O;show AWP _ _ _ _ _ _;refine gR fun _ O=>?_;refine av rfl (aP (c := ((i + 1 + 1 : Nat) : Int)) (by omega) (by omega)) rfl ?_;refine Z9 ?_;refine eQ O ?_;clear O;refine ⟨i + 1 + 1, by omega, hg, Wk.rnB [2, 3, 20, 21, 22] [2, 3, 31, 999, 998, 997] 31 200 rfl rfl rfl ⟨rfl, rfl, rfl, rfl, rfl, trivial⟩ ⟨rfl, ?_, ?_, rfl, rfl, rfl, trivial⟩ rfl⟩
    ·first
      | rfl
      | (show some (OO.box [.own 200 4 0 _, _]) = _
         rw [List.length_append, z1]; rfl)
    ·first
      | (rw [<- n1, List.length_eq_zero_iff.1 z1]; rfl)
      | (rw [<- n1]; rfl)
 have hg : i = ns.length := by simp at hg; omega
 subst hg
 rw [List.take_length]
 have zL : (ns.map QN).length = ns.length := List.length_map _
 rw [show ns.map (fun r => (QN r).dc) = (ns.map QN).map RW.dc by rw [List.map_map]; rfl, <- zL];refine aD ?_;show AWP _ _ _ _ _ _
 have hL0 : ns.map QN ≠ [] := fun e => h0 (List.map_eq_nil_iff.1 e)
 generalize hLL : ns.map QN = LL at hL0 ⊢
 rcases LL with _ | ⟨q, LL⟩
 ·exact absurd rfl hL0
 cases b
 ·refine dK [2, 3] [2, 3, 200, 999, 998] 200 [(2, .ptr 2 0), (3, .ptr 3 0)] ((2, some (.box [.nil, .nil])) :: (3, some (.box (GR.mk (q :: LL) ls).cs)) :: adS false (ns.map RW.dc) (ls.map LK.dc)) rfl ⟨rfl, rfl, trivial⟩ ⟨rfl, ?_, rfl, rfl, trivial⟩ ?_
  ·show some (OO.box [gF 200 4 _ (.own 200 4 0 _), _]) = _
   rw [gu rfl (by simp)]; rfl
  refine gQ fun _ O=>?_;refine Z7 ?_;refine aj rfl rfl rfl rfl rfl ?_;refine eQ O ?_;clear O;refine ah ?_;exact cb (rb := [999, 3]) (E' := [(2, .ptr 996 0)]) (Wk.rnB [2] [2, 999, 998] 2 996 rfl rfl rfl ⟨rfl, trivial⟩ ⟨rfl, rfl, rfl, trivial⟩ rfl) rfl rfl
 ·refine dK [2, 3] [2, 3, 200, 999, 998, 997] 200 [(2, .ptr 2 0), (3, .ptr 3 0)] ((2, some (.box [.nil, .nil])) :: (3, some (.box (GR.mk (q :: LL) ls).cs)) :: adS true (ns.map RW.dc) (ls.map LK.dc)) rfl ⟨rfl, rfl, trivial⟩ ⟨rfl, ?_, rfl, rfl, rfl, trivial⟩ ?_
  ·show some (OO.box [gF 200 4 _ (.own 200 4 0 _), _]) = _
   rw [gu rfl (by simp)]; rfl
  refine gQ fun _ O=>?_;refine Z7 ?_;refine aj rfl rfl rfl rfl rfl ?_;refine eQ O ?_;clear O;refine ah ?_;exact cb (rb := [999, 3]) (E' := [(2, .ptr 996 0)]) (Wk.rnB [2] [2, 999, 998, 997] 2 996 rfl rfl rfl ⟨rfl, trivial⟩ ⟨rfl, rfl, rfl, rfl, trivial⟩ rfl) rfl rfl

/-! ### The caller's side, with what is the caller's ahead -/
theorem Wk.sub {n : Nat} {E : List (Nat × SV)} {S S' : List (Nat × Option OO)} {rb : List Nat} (h : ∀ i, so S' i = none \/ so S' i = so S i) : Wk (mk n E S rb) (mk n E S' rb) := by
 intro w0 X μ a w hs
 have get : ∀ {j o}, so S' j = some o -> so S j = some o := by
  intro j o hj
  rcases h j with h' | h'
  ·rw [h'] at hj; cases hj
  ·rw [<- h']; exact hj
 have hM : ∀ k, Mut X μ (so S') k -> Mut X μ (so S) k := by
  intro k hm
  rcases hm with hm | ⟨j, oj, h1, h2⟩
  ·exact Or.inl hm
  ·exact Or.inr ⟨j, oj, get h1, h2⟩
 refine ⟨μ, hs.xlt, hs.dfr, hs.bel, hs.len, fun i => (hs.slots i).mono (fun k _ h => hM k h) (Fwd.refl _ _), fun j o hj => ?_, fun i j oi oj hi hj => hs.inj i j oi oj (get hi) (get hj), fun j l hj => hs.rbs j l (get hj)⟩
 obtain ⟨h1, cs, E, hh, hr⟩ := hs.objs j o (get hj)
 exact ⟨h1, cs, E, hh, hr.mono (fun k _ h => hM k h) (Fwd.refl _ _)⟩
theorem yH (b : Bool) (ns es : List (List DC)) (R : List (Nat × Option OO)) (h : okR R = true) (hA : R.all (fun p => p.2.isSome) = true) : so (adS b ns es ++ R) = so (R ++ adS b ns es) := by
 funext k
 rw [mp _ (jE b ns es), mp _ hA]
 by_cases hk : k < 900
 ·rw [n5 b ns es hk]
  cases so R k <;> rfl
 ·have : so R k = none := by
   cases e : so R k with
   | none => rfl
   | some o =>
    have hm := List.all_eq_true.1 h _ (kI e)
    simp only [Bool.and_eq_true, Nat.blt_eq] at hm
    omega
  rw [this]
  cases so (adS b ns es) k <;> rfl
theorem jX (b : Bool) (ns es : List (List DC)) (R : List (Nat × Option OO)) (h : okR R = true) (hA : R.all (fun p => p.2.isSome) = true) (n : Nat) (E : List (Nat × SV)) (rb : List Nat) : mk n E (adS b ns es ++ R) rb = mk n E (R ++ adS b ns es) rb := by
 unfold mk; rw [yH b ns es R h hA]
section
variable {P : Program} {w0 : Base} {X : Nat -> Prop} {ops : List Oper} {K : St -> Prop} {k n : Nat} {E : List (Nat × SV)} {rb : List Nat}
theorem ie {S R : List (Nat × Option OO)} {b : Bool} {ns es : List (List DC)} (hR : KnownO S R) (h9 : so S 999 = so (adS b ns es) 999) (h8 : so S 998 = so (adS b ns es) 998) (h7 : so S 997 = so (adS b ns es) 997) : KnownO S (R ++ adS b ns es) := by
 induction R with
 | nil =>
  cases b
  ·exact ⟨h9, h8, trivial⟩
  ·exact ⟨h9, h8, h7, trivial⟩
 | cons p R ih => obtain ⟨i, o⟩ := p; exact ⟨hR.1, ih hR.2⟩
theorem gl {f : FuncId} {d : Nat} {xs : Array Operand} {b b' : Bool} {ns es ns' es' : List (List DC)} (R : List (Nat × Option OO)) {r r' : SV} {args : List SV} {ts : Array TypeId} {ty : TypeId} {ps : String} {af : Array Edge} (E2 : List (Nat × SV)) {S : List (Nat × Option OO)} (hS : KnownO S (R ++ adS b ns es))
  (hf : jL P f args (adS b ns es) r (adS b' ns' es')) (ho : ops[k]? = some ⟨some d, .call ⟨.value (.func f), xs, ts⟩, ty, ps, af, none⟩) (hm : xs.toList.map (rd n E) = args) (hR : okR R = true) (hA : R.all (fun p => p.2.isSome) = true) (hKE : Known n E E2)
  (hE : E2.all (fun p => p.2.refs p4) = true) (hrb : rb.contains 999 = true) (hr1 : r.refs (fun _ => false) = true) (hr' : r' = r)
  (h : cK P w0 X ops (k + 1) K (mk n ((d, r') :: E2) (R ++ adS b' ns' es') rb)) : cK P w0 X ops k K (mk n E S rb) := by
 refine uy (Wk.objsE hS) ?_;rw [<- jX b ns es R hR hA];rw [<- jX b' ns' es' R hR hA] at h;exact A4 E2 hf ho hm hR hKE hE hrb hr1 hr' h
theorem sJ {f : FuncId} {d : Nat} {xs : Array Operand} {b : Bool} {ns es : List (List DC)} (R : List (Nat × Option OO)) {r r' : SV} {args : List SV} {cs : List SC} {ts : Array TypeId} {ty : TypeId} {ps : String} {af : Array Edge} (E2 : List (Nat × SV)) {S : List (Nat × Option OO)} (hS : KnownO S (R ++ adS b ns es))
  (hf : jL P f args (adS b ns es) r ((996, some (.box cs)) :: adS b ns es)) (hcs : cs.all SC.noOwn = true) (ho : ops[k]? = some ⟨some d, .call ⟨.value (.func f), xs, ts⟩, ty, ps, af, none⟩) (hm : xs.toList.map (rd n E) = args) (hR : okR R = true) (hA : R.all (fun p => p.2.isSome) = true) (hKE : Known n E E2)
  (hE : E2.all (fun p => p.2.refs p4) = true) (hrb : rb.contains 999 = true) (hr1 : r.refs (fun _ => false) = true) (hr' : r' = r)
  (h : cK P w0 X ops (k + 1) K (mk n ((d, r') :: E2) (R ++ adS b ns es) rb)) : cK P w0 X ops k K (mk n E S rb) := by
 refine uy (Wk.objsE hS) ?_
 have low : ∀ {j}, j < 900 -> dom ((996, some (.box cs)) :: adS b ns es) j = false := fun {j} hj => by
  unfold dom; rw [aJ, if_neg (by omega), n5 b ns es hj]; rfl
 have stay : ∀ {j}, p4 j = true -> jF (adS b ns es) ((996, some (.box cs)) :: adS b ns es) j = true := fun {j} h => by
  unfold p4 at h
  simp only [Bool.or_eq_true, Nat.blt_eq, Nat.beq_eq] at h
  unfold jF
  rcases h with h | h
  ·rw [low h]; rfl
  ·subst h
   have : dom (adS b ns es) 999 = true := rfl
   rw [this]; simp
 rw [<- jX b ns es R hR hA];rw [<- jX b ns es R hR hA] at h;refine nO E2 R hf ho hm (fun id o h => w7 b ns es R h) (uo b ns es R hR) ?_ ?_ ?_ hKE ?_ (ib (fun _ h => by cases h) hr1) (fun _ => Or.inl rfl) hr' (uy ?_ h)
 ·refine List.all_eq_true.2 fun p hp => ?_
  have h1 := List.all_eq_true.1 hR p hp
  simp only [Bool.and_eq_true] at h1
  have hlt : p.1 < 900 := by simpa using h1.1
  rw [kw b ns es hlt, low hlt]
  cases e : p.2 with
  | none => rfl
  | some o =>
   rw [e] at h1;exact my (fun k hk => stay (by unfold p4; rw [hk]; rfl)) h1.2
 ·have hc : ∀ p : Nat -> Bool, cs.all (SC.refs p) = true := fun p => List.all_eq_true.2 fun c hc => by
   have := List.all_eq_true.1 hcs c hc
   cases c <;> first | rfl | cases this
  have h9 : ∀ {j}, dom (adS b ns es) j = true -> dom ((996, some (.box cs)) :: adS b ns es) j = true := fun {j} hj => by
   unfold dom at hj ⊢
   rw [aJ]
   split
   ·rfl
   ·exact hj
  have g0 := se (b := b) (ns := ns) (es := es) hrb
  unfold Cb at g0 ⊢
  rw [List.all_cons, Bool.and_eq_true];refine ⟨?_, List.all_eq_true.2 fun p hp => ?_⟩
  ·show (cs.all _ && (_ || cs.all SC.noOwn)) = true
   rw [hc, hcs]; simp
  ·have := List.all_eq_true.1 g0 p hp
   revert this
   cases p.2 with
   | none => exact fun h => h
   | some o =>
    cases o with
    | arr sz es => exact fun h => h
    | box cs' =>
     simp only [Bool.and_eq_true];refine fun h => ⟨List.all_eq_true.2 fun c hc => ?_, h.2⟩
     have := List.all_eq_true.1 h.1 c hc
     cases c with
     | own id sz off len => exact h9 this
     | _ => rfl
 ·rw [List.all_cons, jE]; rfl
 ·exact List.all_eq_true.2 fun p hp => ib (fun k hk => stay hk) (List.all_eq_true.1 hE p hp)
 ·refine Wk.sub fun i => ?_;rw [List.cons_append, aJ]
  split
  ·rename_i e
   subst e
   left
   rw [mp _ (jE b ns es)]
   have h1 : so (adS b ns es) 996 = none := by cases b <;> rfl
   rw [h1]
   cases e : so R 996 with
   | none => rfl
   | some o =>
    have hm := List.all_eq_true.1 hR _ (kI e)
    simp at hm
  ·exact Or.inr rfl
end
set_option maxHeartbeats 1000000 in
theorem z6 (b : Bool) (ns : List RW) (ls : List LK) (ok : ∀ r ∈ ns, r.OK 268435456) (h0 : ns ≠ []) (hb : b = false -> ls = []) (hn : ns.length <= 1048576) (hl : ls.length <= 1048576) :
  jL Tryz.prog 22 [.ptr 999 0] (adS b (ns.map RW.dc) (ls.map LK.dc)) (.pd [dRs (ns.map QN), dLs ls]) (adS b (ns.map RW.dc) (ls.map LK.dc)) := by
 have cG := tN b ns ls ok h0 hb hn hl
 refine c7 (rb := [999]) (fn := Tryz.f22) tok Tryz.func22 (by kernel_rfl) rfl (jD _ _ _) ?_
 intro w0 X _
 rw [dC _ _ _ _ [(0, .ptr 999 0)] rfl rfl];refine gQ fun _ O=>?_;refine Z8 ?_;refine eQ O ?_;clear O;refine ag ?_;refine gQ fun _ O=>?_;refine Z9 ?_;refine Z6 ?_;refine eQ O ?_;clear O;refine ap rfl (fun h => by cases h) (fun _ => ?_);refine ak ?_;show AWP _ _ _ _ _ _;refine aU fun _ O=>?_;refine aa tok rfl ?_;refine Z9 ?_;refine ab ?_;refine sJ [] [(5, .ptr 999 0)] (ie trivial rfl rfl rfl) cG rfl rfl rfl rfl rfl ⟨rfl, trivial⟩ rfl rfl rfl rfl ?_;refine aa tok rfl ?_;refine aI rfl rfl rfl ?_;refine ab ?_;refine aa tok rfl ?_;refine aG rfl rfl rfl rfl rfl (by cases b <;> rfl) ?_;refine ab ?_;refine aa tok rfl ?_;refine Z8 ?_;refine ab ?_;refine aM rfl (O _ ?_); clear O;refine EW (ds := [dRs (ns.map QN), dLs ls]) [(2, .pd [dRs (ns.map QN), dLs ls])] (adS b (ns.map RW.dc) (ls.map LK.dc)) rfl rfl ⟨Or.inl ⟨rfl, rfl⟩, trivial⟩ ?_ ?_ ?_
 ·cases b
  ·exact ⟨rfl, rfl, trivial⟩
  ·exact ⟨rfl, rfl, rfl, trivial⟩
 ·cases b <;> rfl
 refine ah ?_;exact ⟨_, Wk.refl _, rfl, Or.inr ⟨2, rfl, by rw [dE]; rfl⟩⟩
end Go.Proofs.YtceacleokgoooaaGreatDoor

/- Matrices and lists of small integers as arguments, with their lengths. No condition. -/
namespace Go.Proofs.YtceacleokgoooaaGreatDoor
open Go.RowKit

section
variable {P : Program} {T : Tab} {w : World} {t e : TypeId} {ti ei : TI}
end
def I8 (n : Int) : Prop := -128 <= n /\ n <= 127
def L8 (l : List Int) : Prop := (∀ x ∈ l, I8 x) /\ l.length <= 9223372036854775807
section
variable {w : World} {H : Type} {enc : TypeId × Value -> H} {sp : Nat -> Bool} {v : Value} {d : DataW H} {ps : List MemPlace} {base : Nat}
end
end Go.Proofs.YtceacleokgoooaaGreatDoor

/- Arrays of numbers as arguments. No condition. -/
namespace Go.Proofs.YtceacleokgoooaaGreatDoor
open Go.RowKit

section
variable {P : Program} {w : World} {t e : TypeId}
end
section
variable {w : World} {H : Type} {enc : TypeId × Value -> H} {sp : Nat -> Bool} {v : Value} {d : DataW H} {ps : List MemPlace} {base : Nat}

end
end Go.Proofs.YtceacleokgoooaaGreatDoor

/- Arguments of law30's and of the last ones. No condition. -/
namespace Go.Proofs.YtceacleokgoooaaGreatDoor
open Go.RowKit

section
variable {P : Program} {w : World} {t e : TypeId}
end
structure PL where
 at' : PT
 tn : Nat
def PL.dc (p : PL) : List DC := [lI p.at'.x, lI p.at'.y, .lit (.int .u8 p.tn)]
def PL.I (p : PL) : Prop := p.at'.I /\ p.tn < 256
section
variable {w : World} {H : Type} {enc : TypeId × Value -> H} {sp : Nat -> Bool} {v : Value} {d : DataW H} {ps : List MemPlace} {base : Nat}
end
end Go.Proofs.YtceacleokgoooaaGreatDoor

/- The law AdjustPlays. No condition. -/
namespace Go.Proofs.YtceacleokgoooaaGreatDoor
attribute [local irreducible] aF
open Go.RowKit

structure AC where
 what : Nat
 rot : RW
 link : LK
 k : Int
def AC.dc (a : AC) : List DC := [.lit (.int .u8 a.what), .lit (.bool a.rot.np), dW a.rot.wp, .lit (.bool a.rot.nq), dW a.rot.wq, lI a.link.f, lI a.link.t, lI a.link.x, lI a.link.y, lI a.link.w, lI a.k]
def AC.cs (a : AC) : List SC := [.d (.lit (.int .u8 a.what)), .d (.lit (.bool a.rot.np)), .d (dW a.rot.wp), .d (.lit (.bool a.rot.nq)), .d (dW a.rot.wq), .d (lI a.link.f), .d (lI a.link.t), .d (lI a.link.x), .d (lI a.link.y), .d (lI a.link.w), .d (lI a.k)]
def AC.I (a : AC) : Prop := a.what < 256 /\ a.rot.W /\ a.link.I /\ I64 a.k
def dAs (l : List AC) : DC := .sl (l.map AC.dc)
section
variable {w : World} {H : Type} {enc : TypeId × Value -> H} {sp : Nat -> Bool} {v : Value} {d : DataW H} {ps : List MemPlace} {base : Nat}
set_option maxRecDepth 100000 in
theorem Dv : Reads Tryz.prog w 59 (fun ds => ∃ a : AC, a.I /\ ds = a.dc) := by
 refine (kg (qs := [fun ds => ∃ n : Nat, n < 256 /\ ds = b8 n, QR, QL, QI]) tok rfl rfl rfl rfl ?_).mono fun ds h => ?_
 ·exact ⟨rfl, Ev, _, rfl, rfl, y7, _, rfl, rfl, Fg, _, rfl, rfl, xu, _, rfl, trivial⟩
 ·obtain ⟨a1, b1, e1, ⟨x1, h1, k1⟩, a2, b2, e2, ⟨x2, h2, k2⟩, a3, b3, e3, ⟨x3, h3, k3⟩, a4, b4, e4, ⟨x4, h4, k4⟩, h6⟩ := h
  have h6 : b4 = [] := h6
  subst e1 e2 e3 e4 k1 k2 k3 k4 h6
  exact ⟨⟨x1, x2, x3, x4⟩, ⟨h1, h2, h3, h4⟩, rfl⟩
set_option maxRecDepth 100000 in
theorem AT (hv : Value.okWide Tryz.prog w .any base 52 v) (hd : DataW.Trod enc Tryz.prog w 0 sp true 52 v d ps) : ∃ l : List AC, ((∀ r ∈ l, r.I) /\ l.length <= 9223372036854775807) /\ RelV w (fun _ => False) (fun _ => 0) v (V1 (dAs l)) := by
 obtain ⟨ti, e, a, b⟩ : ∃ ti e, tab.ty 52 = some ti /\ ti.und = .slice e := ⟨_, _, rfl, rfl⟩
 exact vI tok a b (s7 AC.dc AC.I tok rfl rfl rfl rfl Dv) hv hd _
end

/-! ### plain -/
def w2 (r : RW) : Bool := decide (r.wp.length <= 2 /\ r.wq.length <= 2)
def mB (first : RW) (l : List AC) : Bool := l.all (fun a => w2 a.rot) && (decide (l.length <= 70) && w2 first)
theorem BH (first : RW) (l : List AC) (hl : l.length <= 9223372036854775807) : Con Tryz.prog 20 [AG first.cs, V1 (dAs l)] { v := dB (mB first l) } := by
 refine Z3 Tryz.func20 ?_
 intro w0 X
 rw [aq _ _ [(0, AG first.cs), (1, V1 (dAs l))] rfl rfl];refine gQ fun _ O=>?_;refine aG rfl rfl rfl rfl rfl rfl ?_;refine Z8 ?_;refine eQ O ?_;clear O;refine ag ?_;refine gQ fun _ O=>?_;refine Z8 ?_;refine eQ O ?_;clear O;refine al (aS (α := Nat) (fun i => mk 49 [(1, V1 (dAs l)), (2, .ptr 2 0), (5, dI i)] [(2, some (.box first.cs))] []) (fun i => i <= l.length /\ (l.take i).all (fun a => w2 a.rot) = true) (fun i => l.length - i) 0 ?_ ⟨Nat.zero_le _, rfl⟩ ?_)
 ·exact Wk.mk' ⟨rfl, rfl, rfl, trivial⟩ ⟨rfl, trivial⟩
 rintro i ⟨hi, ht⟩
 refine ag ?_;refine gQ fun _ O=>?_;refine Z9 ?_;refine Z9 ?_;refine az rfl (bD AC.dc rfl rfl) rfl ?_;refine Z6 ?_;refine eQ O ?_;clear O;refine ap rfl (fun hg => ?_) (fun hg => ?_)
 ·have hg : i < l.length := by simp at hg; omega
  obtain ⟨r, hr⟩ : ∃ r, r = l[i] := ⟨_, rfl⟩
  refine ak ?_;show AWP _ _ _ _ _ _;refine ag ?_;refine al ?_;refine bd (α := Bool) (fun c => mk 49 [(1, V1 (dAs l)), (2, .ptr 2 0), (5, dI i), (31, dB c)] [(2, some (.box first.cs))] []) (fun c => c = !w2 r.rot) ?_ ?_
  ·refine dx fun _ O=>?_;refine aa tok rfl ?_;refine Z9 ?_;refine ab ?_;refine aa tok rfl ?_;refine Z9 ?_;refine ab ?_;refine aa tok rfl ?_;refine ae rfl (x_m AC.dc rfl rfl rfl rfl hg rfl) rfl ?_;refine ab ?_;refine aa tok rfl ?_;refine Z5 ?_;refine ab ?_;refine aa tok rfl ?_;refine Z5 ?_;refine ab ?_;refine aa tok rfl ?_;refine Z5 ?_;refine ab ?_;refine aa tok rfl ?_;refine Z7 ?_;refine ab ?_;refine aa tok rfl ?_;refine az rfl (aZ (ws := l[i].rot.wp) rfl rfl rfl) rfl ?_;refine ab ?_;refine aa tok rfl ?_;refine av rfl (CW _ 2) rfl ?_;refine ab ?_;refine aa tok rfl ?_;refine Z9 ?_;refine ab ?_;refine bF (fun h0 => ?_) (fun h0 => ?_)
   ·refine ar rfl rfl ?_;refine ar rfl rfl ?_;refine ar rfl rfl ?_;refine ar rfl rfl ?_;refine ar rfl rfl ?_;refine ar rfl rfl ?_;refine ar rfl rfl ?_;refine ar rfl rfl ?_;refine ar rfl rfl ?_;refine aa tok rfl ?_;refine Z4 ?_;refine ab ?_;refine aM rfl (O _ ?_); clear O;exact ⟨_, (by simp only [decide_eq_true_eq, decide_eq_false_iff_not] at h0; unfold w2; rw [hr, Bool.eq_iff_iff]; simp only [decide_eq_true_eq, Bool.not_eq_true', decide_eq_false_iff_not, reduceCtorEq, false_iff, true_iff]; omega), Wk.mk' ⟨rfl, rfl, rfl, rfl, trivial⟩ ⟨rfl, trivial⟩⟩
   ·refine aa tok rfl ?_;refine Z9 ?_;refine ab ?_;refine aa tok rfl ?_;refine Z9 ?_;refine ab ?_;refine aa tok rfl ?_;refine ae rfl (x_m AC.dc rfl rfl rfl rfl hg rfl) rfl ?_;refine ab ?_;refine aa tok rfl ?_;refine Z5 ?_;refine ab ?_;refine aa tok rfl ?_;refine Z5 ?_;refine ab ?_;refine aa tok rfl ?_;refine Z5 ?_;refine ab ?_;refine aa tok rfl ?_;refine Z7 ?_;refine ab ?_;refine aa tok rfl ?_;refine az rfl (aZ (ws := l[i].rot.wq) rfl rfl rfl) rfl ?_;refine ab ?_;refine aa tok rfl ?_;refine av rfl (CW _ 2) rfl ?_;refine ab ?_;refine aa tok rfl ?_;refine Z4 ?_;refine ab ?_;refine aM rfl (O _ ?_); clear O;exact ⟨_, (by simp only [decide_eq_true_eq, decide_eq_false_iff_not] at h0; unfold w2; rw [hr, Bool.eq_iff_iff]; simp only [decide_eq_true_eq, Bool.not_eq_true', decide_eq_false_iff_not, reduceCtorEq, false_iff, true_iff]; omega), Wk.mk' ⟨rfl, rfl, rfl, rfl, trivial⟩ ⟨rfl, trivial⟩⟩
  rintro c rfl
  refine ap rfl (fun hd => ?_) (fun hd => ?_)
  ·refine gQ fun _ O=>?_;refine Z8 ?_;refine eQ O ?_;clear O;exact ah (bz (h3 := by exact d7 (by rw [Bool.not_eq_true'] at hd; unfold mB; rw [List.all_eq_false.2 ⟨r, hr ▸ List.getElem_mem hg, by rw [hd]; simp⟩, Bool.false_and])))
  ·refine ak ?_;show AWP _ _ _ _ _ _;refine gR fun _ O=>?_;refine Z9 ?_;refine av rfl (aP rfl (by omega)) rfl ?_;refine Z8 ?_;refine eQ O ?_;clear O;refine ⟨i + 1, by omega, ⟨hg, ?_⟩, Wk.mk' ⟨rfl, rfl, rfl, trivial⟩ ⟨rfl, trivial⟩⟩;rw [List.take_succ_eq_append_getElem hg, List.all_append, ht, <- hr];rw [Bool.not_eq_false'] at hd
   simp [hd]
 ·have hg : i = l.length := by simp at hg; omega
  subst hg
  rw [List.take_length] at ht
  unfold mB
  rw [ht, Bool.true_and];refine aD ?_;show AWP _ _ _ _ _ _;refine aU fun _ O=>?_;refine aa tok rfl ?_;refine Z9 ?_;refine ab ?_;refine aa tok rfl ?_;refine az rfl (bD AC.dc rfl rfl) rfl ?_;refine ab ?_;refine aa tok rfl ?_;refine av rfl (Ax _ 70) rfl ?_;refine ab ?_;refine aa tok rfl ?_;refine Z9 ?_;refine ab ?_;refine bF (fun h0 => ?_) (fun h0 => ?_)
  ·refine aa tok rfl ?_;refine Z5 ?_;refine ab ?_;refine aa tok rfl ?_;refine Z5 ?_;refine ab ?_;refine aa tok rfl ?_;refine Z7 ?_;refine ab ?_;refine aa tok rfl ?_;refine az rfl (aZ (ws := first.wp) rfl rfl rfl) rfl ?_;refine ab ?_;refine aa tok rfl ?_;refine av rfl (Ax _ 2) rfl ?_;refine ab ?_;refine aa tok rfl ?_;refine Z4 ?_;refine ab ?_;refine aa tok rfl ?_;refine Z9 ?_;refine ab ?_;refine bF (fun h1 => ?_) (fun h1 => ?_)
   ·refine aa tok rfl ?_;refine Z5 ?_;refine ab ?_;refine aa tok rfl ?_;refine Z5 ?_;refine ab ?_;refine aa tok rfl ?_;refine Z7 ?_;refine ab ?_;refine aa tok rfl ?_;refine az rfl (aZ (ws := first.wq) rfl rfl rfl) rfl ?_;refine ab ?_;refine aa tok rfl ?_;refine av rfl (Ax _ 2) rfl ?_;refine ab ?_;refine aa tok rfl ?_;refine Z4 ?_;refine ab ?_;refine aa tok rfl ?_;refine Z8 ?_;refine ab ?_;refine aM rfl (O _ ?_); clear O;exact ah (bz (h3 := by exact d7 (by simp only [decide_eq_true_eq, decide_eq_false_iff_not] at h0 h1; unfold w2; rw [Bool.eq_iff_iff]; simp only [decide_eq_true_eq, Bool.and_eq_true, reduceCtorEq, false_iff, iff_false]; omega)))
   ·refine ar rfl rfl ?_;refine ar rfl rfl ?_;refine ar rfl rfl ?_;refine ar rfl rfl ?_;refine ar rfl rfl ?_;refine aa tok rfl ?_;refine Z4 ?_;refine ab ?_;refine aa tok rfl ?_;refine Z8 ?_;refine ab ?_;refine aM rfl (O _ ?_); clear O;exact ah (bz (h3 := by exact d7 (by simp only [decide_eq_true_eq, decide_eq_false_iff_not] at h0 h1; unfold w2; rw [Bool.eq_iff_iff]; simp only [decide_eq_true_eq, Bool.and_eq_true, reduceCtorEq, false_iff, iff_false]; omega)))
  ·refine ar rfl rfl ?_;refine ar rfl rfl ?_;refine ar rfl rfl ?_;refine ar rfl rfl ?_;refine ar rfl rfl ?_;refine aa tok rfl ?_;refine Z4 ?_;refine ab ?_;refine aa tok rfl ?_;refine Z9 ?_;refine ab ?_;refine ar rfl rfl ?_;refine ar rfl rfl ?_;refine ar rfl rfl ?_;refine ar rfl rfl ?_;refine ar rfl rfl ?_;refine aa tok rfl ?_;refine Z4 ?_;refine ab ?_;refine aa tok rfl ?_;refine Z8 ?_;refine ab ?_;refine aM rfl (O _ ?_); clear O;exact ah (bz (h3 := by exact d7 (by simp only [decide_eq_true_eq, decide_eq_false_iff_not] at h0; unfold w2; rw [Bool.eq_iff_iff]; simp only [decide_eq_true_eq, Bool.and_eq_true, reduceCtorEq, false_iff, iff_false]; omega)))
theorem zy {first : RW} {l : List AC} (hf : first.W) (hw : ∀ a ∈ l, a.I) (h : mB first l = true) : first.OK 2 /\ (∀ a ∈ l, a.rot.OK 2) /\ l.length <= 70 := by
 unfold mB at h
 rw [Bool.and_eq_true, Bool.and_eq_true, List.all_eq_true] at h
 obtain ⟨h1, h2, h3⟩ := h
 have h3 := of_decide_eq_true h3
 refine ⟨⟨hf.1, hf.2, h3.1, h3.2⟩, fun a ha => ?_, of_decide_eq_true h2⟩
 have := of_decide_eq_true (h1 a ha)
 exact ⟨(hw a ha).2.1.1, (hw a ha).2.1.2, this.1, this.2⟩
end Go.Proofs.YtceacleokgoooaaGreatDoor

/- The law AdjustPlays. No condition. -/
namespace Go.Proofs.YtceacleokgoooaaGreatDoor
attribute [local irreducible] aF
open Go.RowKit

theorem D3 {T : Tab} {t : TypeId} {n m : Nat} (h : n < 256) (hm : n % 4 = m) : aR T .rem t (V1 (.lit (.int .u8 n))) (V1 (.lit (.int .u8 4))) = .set (V1 (.lit (.int .u8 m))) := by
 subst hm
 have h1 : (n : Int).tmod 4 = ((n % 4 : Nat) : Int) := by
  rw [Int.tmod_eq_emod_of_nonneg (by omega)]; omega
 have hb : eW .rem (.int .u8 (n : Int)) (.int .u8 4) = some (.int .u8 ((n % 4 : Nat) : Int)) := by
  simp only [eW, if_true];rw [if_neg (by decide), h1]
 simp only [aR, db, hb]; rfl
theorem wW {T : Tab} {t : TypeId} {m k : Nat} {c : Bool} (h : decide (m = k) = c) : aR T .eql t (V1 (.lit (.int .u8 m))) (V1 (.lit (.int .u8 k))) = .set (dB c) := by
 subst h
 show bf (.bool ((m : Int) == (k : Int))) = _
 have : ((m : Int) == (k : Int)) = decide (m = k) := by
  rw [Bool.eq_iff_iff]; simp only [beq_iff_eq, decide_eq_true_eq]; omega
 rw [this]; rfl
section
variable {P : Program} {w0 : Base} {X : Nat -> Prop} {ops : List Oper} {K : St -> Prop} {k n : Nat} {E : List (Nat × SV)} {rb : List Nat}
theorem gX {f : FuncId} {d : Nat} {xs : Array Operand} {b : Bool} {ns es : List (List DC)} (R : List (Nat × Option OO)) {r r' : SV} {args : List SV} {cs : List SC} {ts : Array TypeId} {ty : TypeId} {ps : String} {af : Array Edge} {S : List (Nat × Option OO)} (hS : KnownO S (R ++ adS b ns es))
  (hf : jL P f args (adS b ns es) r ((996, some (.box cs)) :: adS b ns es)) (hcs : cs.all SC.noOwn = true) (ho : ops[k]? = some ⟨some d, .call ⟨.value (.func f), xs, ts⟩, ty, ps, af, none⟩) (hm : xs.toList.map (rd n E) = args) (hR : okR R = true) (hA : R.all (fun p => p.2.isSome) = true) (hKE : Known n E E)
  (hE : E.all (fun p => p.2.refs p4) = true) (hrb : rb.contains 999 = true) (hr1 : r.refs (fun _ => false) = true) (hr' : r' = r)
  (h : cK P w0 X ops (k + 1) K (mk n ((d, r') :: E) (R ++ adS b ns es) rb)) : cK P w0 X ops k K (mk n E S rb) :=
 sJ R E hS hf hcs ho hm hR hA hKE hE hrb hr1 hr' h
end
theorem iF (b : Bool) (ns es : List (List DC)) {S : List (Nat × Option OO)} {x y : Option OO} (h2 : so S 2 = x) (h6 : so S 6 = y) (h9 : so S 999 = so (adS b ns es) 999) (h8 : so S 998 = so (adS b ns es) 998) (h7 : so S 997 = so (adS b ns es) 997) : KnownO S ((2, x) :: (6, y) :: adS b ns es) := by
 cases b
 ·exact ⟨h2, h6, h9, h8, trivial⟩
 ·exact ⟨h2, h6, h9, h8, h7, trivial⟩
theorem erJ (ls : List LK) (k : Nat) : (ls.map LK.dc).eraseIdx k = (ls.eraseIdx k).map LK.dc := by
 rw [List.eraseIdx_eq_take_drop_succ, List.eraseIdx_eq_take_drop_succ, List.map_append, List.map_take, List.map_drop]
structure PlI (n i : Nat) (b : Bool) (ns : List RW) (ls : List LK) : Prop where
 i : i <= n
 n1 : 1 <= ns.length
 n2 : ns.length <= 16
 l : ls.length <= 48
 b : b = false -> ls = []
 ok : ∀ r ∈ ns, r.OK 2 /\ QN r = r
theorem PlI.map {n i : Nat} {b : Bool} {ns : List RW} {ls : List LK} (h : PlI n i b ns ls) : ns.map QN = ns := by
 have := h.ok
 clear h
 induction ns with
 | nil => rfl
 | cons r ns ih => rw [List.map_cons, (this r List.mem_cons_self).2, ih fun x hx => this x (List.mem_cons_of_mem _ hx)]
set_option maxHeartbeats 8000000 in
theorem zU (first : RW) (l : List AC) (hf : first.W) (hw : ∀ a ∈ l, a.I) (hll : l.length <= 9223372036854775807) : Con Tryz.prog 4 [AG first.cs, V1 (dAs l)] { v := dB true } := by
 have cP := BH first l hll
 refine vE (fn := Tryz.f4) tok Tryz.func4 (by kernel_rfl) rfl ?_
 intro w0 X hp0
 rw [aq _ _ [(0, AG first.cs), (1, V1 (dAs l))] rfl rfl];refine gQ fun _ O=>?_;refine aG rfl rfl rfl rfl rfl rfl ?_;refine Z8 ?_;refine eQ O ?_;clear O;refine ag ?_;refine bd (α := Unit) (fun _ => mk 165 [(1, V1 (dAs l)), (2, .ptr 2 0), (31, dB (!mB first l))] [(2, some (.box first.cs))] []) (fun _ => True) ?_ ?_
 ·refine gR fun _ O=>?_;refine ac rfl rfl (rj) rfl rfl rfl rfl ?_;refine dr rfl rfl rfl ?_;refine Z9 ?_;refine Z7 ?_;refine Z9 ?_;refine ac rfl rfl (cP) rfl rfl rfl rfl ?_;refine dr rfl rfl rfl ?_;refine Z4 ?_;refine eQ O ?_;clear O;exact ⟨(), trivial, Wk.mk' ⟨rfl, rfl, rfl, trivial⟩ ⟨rfl, trivial⟩⟩
 rintro ⟨⟩ -
 refine ap rfl (fun hc => ?_) (fun hc => ?_)
 ·refine gQ fun _ O=>?_;refine ac rfl rfl (rj) rfl rfl rfl rfl ?_;refine Z8 ?_;refine eQ O ?_;clear O;exact ah aT
 rw [Bool.not_eq_false'] at hc
 obtain ⟨of, ol, l70⟩ := zy hf hw hc
 refine ak ?_;show AWP _ _ _ _ _ _
 obtain ⟨q, hq⟩ : ∃ q, q = QN first := ⟨_, rfl⟩
 have oq : q.OK 2 /\ QN q = q := by subst hq; exact ⟨CZ (by decide) of, C0 first⟩
 have cW := DT first (of.mono rfl)
 have cR := za first (of.mono rfl)
 rw [<- hq] at cW cR
 have cCl := z6 false [q] [] (fun r hr => by rw [List.mem_singleton.1 hr]; exact oq.1.mono rfl) (by simp) (fun _ => rfl) (by show 1 <= _; decide) (by show 0 <= _; decide)
 rw [show [q].map QN = [q] by rw [List.map_cons, oq.2]; rfl] at cCl;refine da (Wk.rbE (rb' := [999]) rfl) ?_;refine aU fun _ O=>?_;refine aa tok rfl ?_;refine Z7 ?_;refine ab ?_;refine yr hp0 [(1, V1 (dAs l)), (2, .ptr 2 0)] cW rfl rfl rfl ⟨rfl, rfl, trivial⟩ rfl rfl ?_;rw [jX false [q.dc] [] [(2, some (.box first.cs))] rfl rfl];refine aa tok rfl ?_;refine Z8 ?_;refine ab ?_;refine aM rfl (O _ ?_); clear O;refine gQ fun _ O=>?_;refine Z7 ?_;refine ac rfl rfl (cR) rfl rfl rfl rfl ?_;refine aw rfl rfl rfl rfl rfl rfl ?_;refine aj rfl rfl rfl rfl rfl ?_;refine eQ O ?_;clear O;refine aU fun _ O=>?_;refine aa tok rfl ?_;refine Z9 ?_;refine ab ?_;refine gl [(6, some (.box (GR.mk [q] []).cs)), (2, some (.box first.cs))] [(1, V1 (dAs l)), (2, .ptr 2 0), (5, .ptr 999 0), (6, .ptr 6 0)] (ie (by repeat (first|exact trivial|refine ⟨rfl, ?_⟩)) rfl rfl rfl) cCl rfl rfl rfl rfl ⟨rfl, rfl, rfl, rfl, trivial⟩ rfl rfl rfl rfl ?_;refine aa tok rfl ?_;refine Z8 ?_;refine ab ?_;refine aM rfl (O _ ?_); clear O;refine ag ?_;refine gQ fun _ O=>?_;refine Z8 ?_;refine eQ O ?_;clear O;refine al (aS (α := Nat × Bool × List RW × List LK) (fun p => mk 165 [(1, V1 (dAs l)), (2, .ptr 2 0), (5, .ptr 999 0), (6, .ptr 6 0), (7, .pd [dRs [q], dLs []]), (8, dI p.1)] ((2, some (.box first.cs)) :: (6, some (.box (GR.mk (p.2.2.1) (p.2.2.2)).cs)) :: adS p.2.1 ((p.2.2.1).map RW.dc) ((p.2.2.2).map LK.dc)) [999]) (fun p => PlI l.length p.1 p.2.1 p.2.2.1 p.2.2.2) (fun p => l.length - p.1) (0, false, [q], []) ?_ ⟨Nat.zero_le _, Nat.le_refl _, by show 1 <= 16; decide, by show 0 <= 48; decide, fun _ => rfl, fun r hr => by rw [List.mem_singleton.1 hr]; exact oq⟩ ?_)
 ·exact Wk.mk' ⟨rfl, rfl, rfl, rfl, rfl, rfl, trivial⟩ ⟨rfl, rfl, rfl, rfl, trivial⟩
 rintro ⟨i, b, ns, ls⟩ hI
 simp only at hI ⊢
 refine ag ?_;refine gQ fun _ O=>?_;refine Z9 ?_;refine Z9 ?_;refine az rfl (bD AC.dc rfl rfl) rfl ?_;refine Z6 ?_;refine eQ O ?_;clear O;refine ap rfl (fun hg => ?_) (fun hg => ?_)
 ·have hg : i < l.length := by simp at hg; omega
  obtain ⟨a, ha⟩ : ∃ a, a = l[i] := ⟨_, rfl⟩
  have am : a ∈ l := by rw [ha]; exact List.getElem_mem hg
  have ao := ol a am
  have ai := hw a am
  have n1 := hI.n1
  have n2 := hI.n2
  have l48 := hI.l
  have h0 : ns ≠ [] := fun e => by rw [e] at n1; exact absurd n1 (by decide)
  refine ak ?_;show AWP _ _ _ _ _ _;refine ag ?_;refine al ?_;refine gQ fun _ O=>?_;refine Z9 ?_;refine Z9 ?_;refine ae rfl (x_m AC.dc rfl rfl rfl rfl hg rfl) rfl ?_;refine Z7 ?_;refine aw rfl rfl rfl rfl rfl (by cases b <;> rfl) ?_;refine aj rfl rfl rfl rfl rfl ?_;refine eQ O ?_;clear O;rw [<- ha]
  obtain ⟨m, hm⟩ : ∃ m, a.what % 4 = m := ⟨_, rfl⟩
  refine bd (α := Bool × List RW × List LK) (fun p => mk 165 [(1, V1 (dAs l)), (2, .ptr 2 0), (5, .ptr 999 0), (6, .ptr 6 0), (7, .pd [dRs [q], dLs []]), (8, dI i)] ((2, some (.box first.cs)) :: (6, some (.box (GR.mk (p.2.1) (p.2.2)).cs)) :: adS p.1 ((p.2.1).map RW.dc) ((p.2.2).map LK.dc)) [999]) (fun p => PlI l.length (i + 1) p.1 p.2.1 p.2.2) ?_ ?_
  ·refine gQ fun _ O=>?_;refine Z5 ?_;refine Z7 ?_;refine av rfl (D3 ai.1 hm) rfl ?_;refine eQ O ?_;clear O;refine al ?_
   by_cases m0 : m = 0
   ·subst m0
    refine gQ fun _ O=>?_;refine av rfl (wW (c := true) rfl) rfl ?_;refine Z8 ?_;refine eQ O ?_;clear O;refine ap rfl (fun _ => ?_) (fun h => by cases h)
    by_cases h16 : ns.length < 16
    ·have cN := B2 b (ns.map RW.dc) (ls.map LK.dc) a.rot (ao.mono rfl) (by rw [List.length_map]; exact h16)
     rw [List.length_map, show ns.map RW.dc ++ [(QN a.rot).dc] = (ns ++ [QN a.rot]).map RW.dc by rw [List.map_append]; rfl] at cN
     have cM := qK (.mk ns ls) a.rot (ao.mono rfl) (by show ns.length <= _; omega)
     have eV : tD (.mk ns ls) a.rot = (.mk (ns ++ [QN a.rot]) ls, (ns.length : Int), 0) := by unfold tD; rw [if_neg (by show ¬ 16 <= ns.length; omega)]
     rw [eV] at cM
     have hQ : (QN a.rot).OK 2 /\ QN (QN a.rot) = QN a.rot := ⟨CZ (by decide) ao, C0 _⟩
     generalize QN a.rot = q2 at cN cM hQ;refine aU fun _ O=>?_;refine aa tok rfl ?_;refine Z9 ?_;refine ab ?_;refine aa tok rfl ?_;refine Z5 ?_;refine ab ?_;refine aa tok rfl ?_;refine Z7 ?_;refine ab ?_;refine gl [(9, some (.box a.cs)), (2, some (.box first.cs)), (6, some (.box (GR.mk ns ls).cs))] [(1, V1 (dAs l)), (2, .ptr 2 0), (5, .ptr 999 0), (6, .ptr 6 0), (7, .pd [dRs [q], dLs []]), (8, dI i), (9, .ptr 9 0)] (ie (by repeat (first|exact trivial|refine ⟨rfl, ?_⟩)) rfl rfl rfl) cN rfl rfl rfl rfl ⟨rfl, rfl, rfl, rfl, rfl, rfl, rfl, trivial⟩ rfl rfl rfl rfl ?_;refine aa tok rfl ?_;refine Z9 ?_;refine ab ?_;refine aa tok rfl ?_;refine au rfl rfl rfl ?_;refine ab ?_;refine aa tok rfl ?_;refine au rfl rfl rfl ?_;refine ab ?_;refine aa tok rfl ?_;refine Z8 ?_;refine ab ?_;refine aa tok rfl ?_;refine Z8 ?_;refine ab ?_;refine aM rfl (O _ ?_); clear O;refine gQ fun _ O=>?_;refine Z7 ?_;refine Z5 ?_;refine Z7 ?_;refine ac rfl rfl (cM) rfl rfl rfl rfl ?_;refine Z9 ?_;refine au rfl rfl rfl ?_;refine au rfl rfl rfl ?_;refine au rfl rfl rfl ?_;refine aw rfl rfl rfl rfl rfl (by cases b <;> rfl) ?_;refine aj rfl rfl rfl rfl rfl ?_;refine Z8 ?_;refine Z8 ?_;refine eQ O ?_;clear O;refine gQ fun _ O=>?_;refine Z7 ?_;refine aj rfl rfl rfl rfl rfl ?_;refine eQ O ?_;clear O;refine gQ fun _ O=>?_;refine Z9 ?_;refine Z9 ?_;refine av rfl (jI (c := false) (by simp)) rfl ?_;refine Z9 ?_;refine Z9 ?_;refine Z9 ?_;refine av rfl (jI (c := false) rfl) rfl ?_;refine Z4 ?_;refine eQ O ?_;clear O;refine ap rfl (fun h => by cases h) (fun _ => ?_);refine ak ?_
     exact ⟨(b, ns ++ [q2], ls), ⟨hg, by show 1 <= (ns ++ [q2]).length; simp, by show (ns ++ [q2]).length <= 16; simp; omega, l48, hI.b, fun r hr => by
      rcases List.mem_append.1 hr with hr | hr
      ·exact hI.ok r hr
      ·rw [List.mem_singleton.1 hr]; exact hQ⟩, Wk.mk' ⟨rfl, rfl, rfl, rfl, rfl, rfl, trivial⟩ (iF b _ _ rfl rfl rfl rfl rfl)⟩
    ·have cN := u9 b (ns.map RW.dc) (ls.map LK.dc) a.rot (by rw [List.length_map]; omega) (by rw [List.length_map]; omega)
     have cM := qK (.mk ns ls) a.rot (ao.mono rfl) (by show ns.length <= _; omega)
     have eV : tD (.mk ns ls) a.rot = (.mk ns ls, 0, 6) := by unfold tD; rw [if_pos (by show 16 <= ns.length; omega)]
     rw [eV] at cM;refine aU fun _ O=>?_;refine aa tok rfl ?_;refine Z9 ?_;refine ab ?_;refine aa tok rfl ?_;refine Z5 ?_;refine ab ?_;refine aa tok rfl ?_;refine Z7 ?_;refine ab ?_;refine gl [(9, some (.box a.cs)), (2, some (.box first.cs)), (6, some (.box (GR.mk ns ls).cs))] [(1, V1 (dAs l)), (2, .ptr 2 0), (5, .ptr 999 0), (6, .ptr 6 0), (7, .pd [dRs [q], dLs []]), (8, dI i), (9, .ptr 9 0)] (ie (by repeat (first|exact trivial|refine ⟨rfl, ?_⟩)) rfl rfl rfl) cN rfl rfl rfl rfl ⟨rfl, rfl, rfl, rfl, rfl, rfl, rfl, trivial⟩ rfl rfl rfl rfl ?_;refine aa tok rfl ?_;refine Z9 ?_;refine ab ?_;refine aa tok rfl ?_;refine au rfl rfl rfl ?_;refine ab ?_;refine aa tok rfl ?_;refine au rfl rfl rfl ?_;refine ab ?_;refine aa tok rfl ?_;refine Z8 ?_;refine ab ?_;refine aa tok rfl ?_;refine Z8 ?_;refine ab ?_;refine aM rfl (O _ ?_); clear O;refine gQ fun _ O=>?_;refine Z7 ?_;refine Z5 ?_;refine Z7 ?_;refine ac rfl rfl (cM) rfl rfl rfl rfl ?_;refine Z9 ?_;refine au rfl rfl rfl ?_;refine au rfl rfl rfl ?_;refine au rfl rfl rfl ?_;refine aw rfl rfl rfl rfl rfl (by cases b <;> rfl) ?_;refine aj rfl rfl rfl rfl rfl ?_;refine Z8 ?_;refine Z8 ?_;refine eQ O ?_;clear O;refine gQ fun _ O=>?_;refine Z7 ?_;refine aj rfl rfl rfl rfl rfl ?_;refine eQ O ?_;clear O;refine gQ fun _ O=>?_;refine Z9 ?_;refine Z9 ?_;refine av rfl (jI (c := false) (by simp)) rfl ?_;refine Z9 ?_;refine Z9 ?_;refine Z9 ?_;refine av rfl (jI (c := false) rfl) rfl ?_;refine Z4 ?_;refine eQ O ?_;clear O;refine ap rfl (fun h => by cases h) (fun _ => ?_);refine ak ?_;exact ⟨(b, ns, ls), ⟨hg, n1, n2, l48, hI.b, hI.ok⟩, Wk.mk' ⟨rfl, rfl, rfl, rfl, rfl, rfl, trivial⟩ (iF b _ _ rfl rfl rfl rfl rfl)⟩
   ·refine gQ fun _ O=>?_;refine av rfl (wW (c := false) (decide_eq_false m0)) rfl ?_;refine Z8 ?_;refine eQ O ?_;clear O;refine ap rfl (fun h => by cases h) (fun _ => ?_)
    by_cases m3 : m = 3
    ·subst m3
     refine gQ fun _ O=>?_;refine av rfl (wW (c := true) rfl) rfl ?_;refine Z8 ?_;refine eQ O ?_;clear O;refine ap rfl (fun _ => ?_) (fun h => by cases h)
     have cM := xx (.mk ns ls) a.k (by show ls.length <= _; omega)
     by_cases hk : 0 <= a.k /\ a.k < (ls.length : Int)
     ·have hbt : b = true := by
       cases b with
       | true => rfl
       | false => rw [hI.b rfl] at hk; exact absurd hk.2 (by simp; omega)
      subst hbt
      have eV : vz (.mk ns ls) a.k = (.mk ns (ls.eraseIdx a.k.toNat), 0) := by unfold vz; rw [if_pos hk]
      rw [eV] at cM
      have kl : a.k.toNat < ls.length := by omega
      have cD := zY (ns.map RW.dc) (ls.map LK.dc) a.k.toNat (by rw [List.length_map]; exact kl) (by rw [List.length_map]; omega)
      rw [show ((a.k.toNat : Nat) : Int) = a.k by omega, show (ls.map LK.dc).eraseIdx a.k.toNat = (ls.eraseIdx a.k.toNat).map LK.dc from erJ _ _] at cD
      have e1 := List.length_eraseIdx_of_lt kl
      generalize ls.eraseIdx a.k.toNat = ls2 at cM cD e1;refine gQ fun _ O=>?_;refine Z7 ?_;refine Z5 ?_;refine Z7 ?_;refine ac rfl rfl (cM) rfl rfl rfl rfl ?_;refine Z9 ?_;refine au rfl rfl rfl ?_;refine au rfl rfl rfl ?_;refine aw rfl rfl rfl rfl rfl rfl ?_;refine aj rfl rfl rfl rfl rfl ?_;refine Z8 ?_;refine eQ O ?_;clear O;refine gQ fun _ O=>?_;refine Z7 ?_;refine aj rfl rfl rfl rfl rfl ?_;refine eQ O ?_;clear O;refine aU fun _ O=>?_;refine aa tok rfl ?_;refine Z9 ?_;refine ab ?_;refine aa tok rfl ?_;refine Z5 ?_;refine ab ?_;refine aa tok rfl ?_;refine Z7 ?_;refine ab ?_;refine gl [(15, some (.box (GR.mk ns ls2).cs)), (9, some (.box a.cs)), (2, some (.box first.cs)), (6, some (.box (GR.mk ns ls2).cs))] [(1, V1 (dAs l)), (2, .ptr 2 0), (5, .ptr 999 0), (6, .ptr 6 0), (7, .pd [dRs [q], dLs []]), (8, dI i), (9, .ptr 9 0), (16, dI 0)] (ie (by repeat (first|exact trivial|refine ⟨rfl, ?_⟩)) rfl rfl rfl) cD rfl rfl rfl rfl ⟨rfl, rfl, rfl, rfl, rfl, rfl, rfl, rfl, trivial⟩ rfl rfl rfl rfl ?_;refine aa tok rfl ?_;refine Z9 ?_;refine ab ?_;refine aa tok rfl ?_;refine av rfl (jI (c := false) rfl) rfl ?_;refine ab ?_;refine aM rfl (O _ ?_); clear O;refine ap rfl (fun h => by cases h) (fun _ => ?_);refine ak ?_;exact ⟨(true, ns, ls2), ⟨hg, n1, n2, by show ls2.length <= 48; omega, (fun h => by cases h), hI.ok⟩, Wk.mk' ⟨rfl, rfl, rfl, rfl, rfl, rfl, trivial⟩ (iF true _ _ rfl rfl rfl rfl rfl)⟩
     ·have eV : vz (.mk ns ls) a.k = (.mk ns ls, 2) := by unfold vz; rw [if_neg hk]
      rw [eV] at cM
      have cD := zZ b (ns.map RW.dc) (ls.map LK.dc) a.k (by rw [List.length_map]; omega) (fun h => by rw [hI.b h]; rfl) (by rw [List.length_map]; omega)
      refine gQ fun _ O=>?_;refine Z7 ?_;refine Z5 ?_;refine Z7 ?_;refine ac rfl rfl (cM) rfl rfl rfl rfl ?_;refine Z9 ?_;refine au rfl rfl rfl ?_;refine au rfl rfl rfl ?_;refine aw rfl rfl rfl rfl rfl (by cases b <;> rfl) ?_;refine aj rfl rfl rfl rfl rfl ?_;refine Z8 ?_;refine eQ O ?_;clear O;refine gQ fun _ O=>?_;refine Z7 ?_;refine aj rfl rfl rfl rfl rfl ?_;refine eQ O ?_;clear O;refine aU fun _ O=>?_;refine aa tok rfl ?_;refine Z9 ?_;refine ab ?_;refine aa tok rfl ?_;refine Z5 ?_;refine ab ?_;refine aa tok rfl ?_;refine Z7 ?_;refine ab ?_;refine gl [(15, some (.box (GR.mk ns ls).cs)), (9, some (.box a.cs)), (2, some (.box first.cs)), (6, some (.box (GR.mk ns ls).cs))] [(1, V1 (dAs l)), (2, .ptr 2 0), (5, .ptr 999 0), (6, .ptr 6 0), (7, .pd [dRs [q], dLs []]), (8, dI i), (9, .ptr 9 0), (16, dI 2)] (ie (by repeat (first|exact trivial|refine ⟨rfl, ?_⟩)) rfl rfl rfl) cD rfl rfl rfl rfl ⟨rfl, rfl, rfl, rfl, rfl, rfl, rfl, rfl, trivial⟩ rfl rfl rfl rfl ?_;refine aa tok rfl ?_;refine Z9 ?_;refine ab ?_;refine aa tok rfl ?_;refine av rfl (jI (c := false) rfl) rfl ?_;refine ab ?_;refine aM rfl (O _ ?_); clear O;refine ap rfl (fun h => by cases h) (fun _ => ?_);refine ak ?_;exact ⟨(b, ns, ls), ⟨hg, n1, n2, l48, hI.b, hI.ok⟩, Wk.mk' ⟨rfl, rfl, rfl, rfl, rfl, rfl, trivial⟩ (iF b _ _ rfl rfl rfl rfl rfl)⟩
    ·refine gQ fun _ O=>?_;refine av rfl (wW (c := false) (decide_eq_false m3)) rfl ?_;refine Z8 ?_;refine eQ O ?_;clear O;refine ap rfl (fun h => by cases h) (fun _ => ?_)
     have cM := xv (.mk ns ls) a.link (by show ls.length <= _; omega)
     cases hv : bG (.mk ns [a.link]) with
     | false =>
      have eV : rY (.mk ns ls) a.link = (.mk ns ls, 1) := by unfold rY; rw [if_neg (by show ¬ bG (.mk ns [a.link]) = true; rw [hv]; simp)]
      rw [eV] at cM
      have cL := zX b ns (ls.map LK.dc) a.link hv
      refine gQ fun _ O=>?_;refine Z7 ?_;refine Z5 ?_;refine Z7 ?_;refine ac rfl rfl (cM) rfl rfl rfl rfl ?_;refine Z9 ?_;refine au rfl rfl rfl ?_;refine au rfl rfl rfl ?_;refine aw rfl rfl rfl rfl rfl (by cases b <;> rfl) ?_;refine aj rfl rfl rfl rfl rfl ?_;refine Z8 ?_;refine eQ O ?_;clear O;refine gQ fun _ O=>?_;refine Z7 ?_;refine aj rfl rfl rfl rfl rfl ?_;refine eQ O ?_;clear O;refine aU fun _ O=>?_;refine aa tok rfl ?_;refine Z9 ?_;refine ab ?_;refine aa tok rfl ?_;refine Z5 ?_;refine ab ?_;refine aa tok rfl ?_;refine Z7 ?_;refine ab ?_;refine gl [(17, some (.box (GR.mk ns (ls)).cs)), (9, some (.box a.cs)), (2, some (.box first.cs)), (6, some (.box (GR.mk ns (ls)).cs))] [(1, V1 (dAs l)), (2, .ptr 2 0), (5, .ptr 999 0), (6, .ptr 6 0), (7, .pd [dRs [q], dLs []]), (8, dI i), (9, .ptr 9 0), (18, dI 1)] (ie (by repeat (first|exact trivial|refine ⟨rfl, ?_⟩)) rfl rfl rfl) cL rfl rfl rfl rfl ⟨rfl, rfl, rfl, rfl, rfl, rfl, rfl, rfl, trivial⟩ rfl rfl rfl rfl ?_;refine aa tok rfl ?_;refine Z9 ?_;refine ab ?_;refine aa tok rfl ?_;refine av rfl (jI (c := false) rfl) rfl ?_;refine ab ?_;refine aM rfl (O _ ?_); clear O;refine ap rfl (fun h => by cases h) (fun _ => ?_);refine ak ?_;exact ⟨(b, ns, ls), ⟨hg, n1, n2, l48, hI.b, hI.ok⟩, Wk.mk' ⟨rfl, rfl, rfl, rfl, rfl, rfl, trivial⟩ (iF b _ _ rfl rfl rfl rfl rfl)⟩
     | true =>
      by_cases h48 : 48 <= ls.length
      ·have eV : rY (.mk ns ls) a.link = (.mk ns ls, 6) := by unfold rY; rw [if_pos (show bG (.mk ns [a.link]) = true from hv), if_pos (show 48 <= ls.length from h48)]
       rw [eV] at cM
       have cL := vd b ns (ls.map LK.dc) a.link hv (by rw [List.length_map]; exact h48) (fun h => by rw [hI.b h]; rfl)
       refine gQ fun _ O=>?_;refine Z7 ?_;refine Z5 ?_;refine Z7 ?_;refine ac rfl rfl (cM) rfl rfl rfl rfl ?_;refine Z9 ?_;refine au rfl rfl rfl ?_;refine au rfl rfl rfl ?_;refine aw rfl rfl rfl rfl rfl (by cases b <;> rfl) ?_;refine aj rfl rfl rfl rfl rfl ?_;refine Z8 ?_;refine eQ O ?_;clear O;refine gQ fun _ O=>?_;refine Z7 ?_;refine aj rfl rfl rfl rfl rfl ?_;refine eQ O ?_;clear O;refine aU fun _ O=>?_;refine aa tok rfl ?_;refine Z9 ?_;refine ab ?_;refine aa tok rfl ?_;refine Z5 ?_;refine ab ?_;refine aa tok rfl ?_;refine Z7 ?_;refine ab ?_;refine gl [(17, some (.box (GR.mk ns (ls)).cs)), (9, some (.box a.cs)), (2, some (.box first.cs)), (6, some (.box (GR.mk ns (ls)).cs))] [(1, V1 (dAs l)), (2, .ptr 2 0), (5, .ptr 999 0), (6, .ptr 6 0), (7, .pd [dRs [q], dLs []]), (8, dI i), (9, .ptr 9 0), (18, dI 6)] (ie (by repeat (first|exact trivial|refine ⟨rfl, ?_⟩)) rfl rfl rfl) cL rfl rfl rfl rfl ⟨rfl, rfl, rfl, rfl, rfl, rfl, rfl, rfl, trivial⟩ rfl rfl rfl rfl ?_;refine aa tok rfl ?_;refine Z9 ?_;refine ab ?_;refine aa tok rfl ?_;refine av rfl (jI (c := false) rfl) rfl ?_;refine ab ?_;refine aM rfl (O _ ?_); clear O;refine ap rfl (fun h => by cases h) (fun _ => ?_);refine ak ?_;exact ⟨(b, ns, ls), ⟨hg, n1, n2, l48, hI.b, hI.ok⟩, Wk.mk' ⟨rfl, rfl, rfl, rfl, rfl, rfl, trivial⟩ (iF b _ _ rfl rfl rfl rfl rfl)⟩
      ·have eV : rY (.mk ns ls) a.link = (.mk ns (ls ++ [a.link]), 0) := by unfold rY; rw [if_pos (show bG (.mk ns [a.link]) = true from hv), if_neg (show ¬ 48 <= ls.length from h48)]
       rw [eV] at cM
       have cL := zW b ns (ls.map LK.dc) a.link hv (by rw [List.length_map]; omega) (fun h => by rw [hI.b h]; rfl)
       rw [show ls.map LK.dc ++ [a.link.dc] = (ls ++ [a.link]).map LK.dc by rw [List.map_append]; rfl] at cL;refine gQ fun _ O=>?_;refine Z7 ?_;refine Z5 ?_;refine Z7 ?_;refine ac rfl rfl (cM) rfl rfl rfl rfl ?_;refine Z9 ?_;refine au rfl rfl rfl ?_;refine au rfl rfl rfl ?_;refine aw rfl rfl rfl rfl rfl (by cases b <;> rfl) ?_;refine aj rfl rfl rfl rfl rfl ?_;refine Z8 ?_;refine eQ O ?_;clear O;refine gQ fun _ O=>?_;refine Z7 ?_;refine aj rfl rfl rfl rfl rfl ?_;refine eQ O ?_;clear O;refine aU fun _ O=>?_;refine aa tok rfl ?_;refine Z9 ?_;refine ab ?_;refine aa tok rfl ?_;refine Z5 ?_;refine ab ?_;refine aa tok rfl ?_;refine Z7 ?_;refine ab ?_;refine gl [(17, some (.box (GR.mk ns (ls ++ [a.link])).cs)), (9, some (.box a.cs)), (2, some (.box first.cs)), (6, some (.box (GR.mk ns (ls ++ [a.link])).cs))] [(1, V1 (dAs l)), (2, .ptr 2 0), (5, .ptr 999 0), (6, .ptr 6 0), (7, .pd [dRs [q], dLs []]), (8, dI i), (9, .ptr 9 0), (18, dI 0)] (ie (by repeat (first|exact trivial|refine ⟨rfl, ?_⟩)) rfl rfl rfl) cL rfl rfl rfl rfl ⟨rfl, rfl, rfl, rfl, rfl, rfl, rfl, rfl, trivial⟩ rfl rfl rfl rfl ?_;refine aa tok rfl ?_;refine Z9 ?_;refine ab ?_;refine aa tok rfl ?_;refine av rfl (jI (c := false) rfl) rfl ?_;refine ab ?_;refine aM rfl (O _ ?_); clear O;refine ap rfl (fun h => by cases h) (fun _ => ?_);refine ak ?_;exact ⟨(true, ns, ls ++ [a.link]), ⟨hg, n1, n2, by show (ls ++ [a.link]).length <= 48; simp; omega, (fun h => by cases h), hI.ok⟩, Wk.mk' ⟨rfl, rfl, rfl, rfl, rfl, rfl, trivial⟩ (iF true _ _ rfl rfl rfl rfl rfl)⟩
  clear hI h0 n1 n2 l48
  rintro ⟨b, ns, ls⟩ hI
  simp only at hI ⊢
  have n1 := hI.n1
  have n2 := hI.n2
  have l48 := hI.l
  have h0 : ns ≠ [] := fun e => by rw [e] at n1; exact absurd n1 (by decide)
  have cG := tN b ns ls (fun r hr => (hI.ok r hr).1.mono rfl) h0 hI.b (by omega) (by omega)
  rw [hI.map] at cG
  have cS := yQ ns ns ls rfl (fun r hr => (hI.ok r hr).1.mono rfl) (fun r hr => (hI.ok r hr).1.mono rfl) (fun _ _ _ => rfl) (by omega) (by omega)
  refine bd (α := Unit) (fun _ => mk 165 [(1, V1 (dAs l)), (2, .ptr 2 0), (5, .ptr 999 0), (6, .ptr 6 0), (7, .pd [dRs [q], dLs []]), (8, dI i), (113, dB false)] ((2, some (.box first.cs)) :: (6, some (.box (GR.mk ns ls).cs)) :: adS b (ns.map RW.dc) (ls.map LK.dc)) [999]) (fun _ => True) ?_ ?_
  ·clear cR cW cCl;refine A1 mixed fun _ O=>?_;refine cf [0, 2] (by kernel_rfl) rfl (List.forall_mem_cons.2 ⟨⟨_, rfl, rfl, ?_⟩, List.forall_mem_cons.2 ⟨⟨_, rfl, rfl, ?_⟩, fun _ h => by cases h⟩⟩)
   ·refine aa tok rfl ?_;refine Z9 ?_;refine ab ?_;refine aM rfl ?_;refine cf [1, 2] (by kernel_rfl) rfl (List.forall_mem_cons.2 ⟨⟨_, rfl, rfl, ?_⟩, List.forall_mem_cons.2 ⟨⟨_, rfl, rfl, ?_⟩, fun _ h => by cases h⟩⟩)
    ·refine gX [(2, some (.box first.cs)), (6, some (.box (GR.mk ns ls).cs))] (ie (by repeat (first|exact trivial|refine ⟨rfl, ?_⟩)) rfl rfl rfl) cG rfl rfl rfl rfl rfl (by repeat (first|exact trivial|refine ⟨rfl, ?_⟩)) rfl rfl rfl rfl ?_;refine aM rfl ?_;refine cf [2] (by kernel_rfl) rfl (List.forall_mem_cons.2 ⟨⟨_, rfl, rfl, ?_⟩, fun _ h => by cases h⟩);refine aa tok rfl ?_;refine Z5 ?_;refine ab ?_;refine aM rfl ?_;refine cf [3] (by kernel_rfl) rfl (List.forall_mem_cons.2 ⟨⟨_, rfl, rfl, ?_⟩, fun _ h => by cases h⟩);refine aa tok rfl ?_;refine Z7 ?_;refine ab ?_;refine aM rfl ?_;refine cf [4] (by kernel_rfl) rfl (List.forall_mem_cons.2 ⟨⟨_, rfl, rfl, ?_⟩, fun _ h => by cases h⟩);refine aa tok rfl ?_;refine ac rfl rfl (cS) rfl rfl rfl rfl ?_;refine ab ?_;refine aM rfl ?_;refine cf [5] (by kernel_rfl) rfl (List.forall_mem_cons.2 ⟨⟨_, rfl, rfl, ?_⟩, fun _ h => by cases h⟩);refine aa tok rfl ?_;refine dr rfl rfl rfl ?_;refine ab ?_;refine aM rfl ?_;refine qq (by kernel_rfl) (O _ ?_);clear O;exact ⟨(), trivial, Wk.mk' ⟨rfl, rfl, rfl, rfl, rfl, rfl, rfl, trivial⟩ (iF b _ _ rfl rfl rfl rfl rfl)⟩
    ·refine aa tok rfl ?_;refine Z5 ?_;refine ab ?_;refine aM rfl ?_;refine cf [1, 3] (by kernel_rfl) rfl (List.forall_mem_cons.2 ⟨⟨_, rfl, rfl, ?_⟩, List.forall_mem_cons.2 ⟨⟨_, rfl, rfl, ?_⟩, fun _ h => by cases h⟩⟩)
     ·refine gX [(2, some (.box first.cs)), (6, some (.box (GR.mk ns ls).cs))] (ie (by repeat (first|exact trivial|refine ⟨rfl, ?_⟩)) rfl rfl rfl) cG rfl rfl rfl rfl rfl (by repeat (first|exact trivial|refine ⟨rfl, ?_⟩)) rfl rfl rfl rfl ?_;refine aM rfl ?_;refine cf [3] (by kernel_rfl) rfl (List.forall_mem_cons.2 ⟨⟨_, rfl, rfl, ?_⟩, fun _ h => by cases h⟩);refine aa tok rfl ?_;refine Z7 ?_;refine ab ?_;refine aM rfl ?_;refine cf [4] (by kernel_rfl) rfl (List.forall_mem_cons.2 ⟨⟨_, rfl, rfl, ?_⟩, fun _ h => by cases h⟩);refine aa tok rfl ?_;refine ac rfl rfl (cS) rfl rfl rfl rfl ?_;refine ab ?_;refine aM rfl ?_;refine cf [5] (by kernel_rfl) rfl (List.forall_mem_cons.2 ⟨⟨_, rfl, rfl, ?_⟩, fun _ h => by cases h⟩);refine aa tok rfl ?_;refine dr rfl rfl rfl ?_;refine ab ?_;refine aM rfl ?_;refine qq (by kernel_rfl) (O _ ?_);clear O;exact ⟨(), trivial, Wk.mk' ⟨rfl, rfl, rfl, rfl, rfl, rfl, rfl, trivial⟩ (iF b _ _ rfl rfl rfl rfl rfl)⟩
     ·refine aa tok rfl ?_;refine Z7 ?_;refine ab ?_;refine aM rfl ?_;refine cf [1] (by kernel_rfl) rfl (List.forall_mem_cons.2 ⟨⟨_, rfl, rfl, ?_⟩, fun _ h => by cases h⟩);refine gX [(2, some (.box first.cs)), (6, some (.box (GR.mk ns ls).cs))] (ie (by repeat (first|exact trivial|refine ⟨rfl, ?_⟩)) rfl rfl rfl) cG rfl rfl rfl rfl rfl (by repeat (first|exact trivial|refine ⟨rfl, ?_⟩)) rfl rfl rfl rfl ?_;refine aM rfl ?_;refine cf [4] (by kernel_rfl) rfl (List.forall_mem_cons.2 ⟨⟨_, rfl, rfl, ?_⟩, fun _ h => by cases h⟩);refine aa tok rfl ?_;refine ac rfl rfl (cS) rfl rfl rfl rfl ?_;refine ab ?_;refine aM rfl ?_;refine cf [5] (by kernel_rfl) rfl (List.forall_mem_cons.2 ⟨⟨_, rfl, rfl, ?_⟩, fun _ h => by cases h⟩);refine aa tok rfl ?_;refine dr rfl rfl rfl ?_;refine ab ?_;refine aM rfl ?_;refine qq (by kernel_rfl) (O _ ?_);clear O;exact ⟨(), trivial, Wk.mk' ⟨rfl, rfl, rfl, rfl, rfl, rfl, rfl, trivial⟩ (iF b _ _ rfl rfl rfl rfl rfl)⟩
   ·refine aa tok rfl ?_;refine Z5 ?_;refine ab ?_;refine aM rfl ?_;refine cf [0, 3] (by kernel_rfl) rfl (List.forall_mem_cons.2 ⟨⟨_, rfl, rfl, ?_⟩, List.forall_mem_cons.2 ⟨⟨_, rfl, rfl, ?_⟩, fun _ h => by cases h⟩⟩)
    ·refine aa tok rfl ?_;refine Z9 ?_;refine ab ?_;refine aM rfl ?_;refine cf [1, 3] (by kernel_rfl) rfl (List.forall_mem_cons.2 ⟨⟨_, rfl, rfl, ?_⟩, List.forall_mem_cons.2 ⟨⟨_, rfl, rfl, ?_⟩, fun _ h => by cases h⟩⟩)
     ·refine gX [(2, some (.box first.cs)), (6, some (.box (GR.mk ns ls).cs))] (ie (by repeat (first|exact trivial|refine ⟨rfl, ?_⟩)) rfl rfl rfl) cG rfl rfl rfl rfl rfl (by repeat (first|exact trivial|refine ⟨rfl, ?_⟩)) rfl rfl rfl rfl ?_;refine aM rfl ?_;refine cf [3] (by kernel_rfl) rfl (List.forall_mem_cons.2 ⟨⟨_, rfl, rfl, ?_⟩, fun _ h => by cases h⟩);refine aa tok rfl ?_;refine Z7 ?_;refine ab ?_;refine aM rfl ?_;refine cf [4] (by kernel_rfl) rfl (List.forall_mem_cons.2 ⟨⟨_, rfl, rfl, ?_⟩, fun _ h => by cases h⟩);refine aa tok rfl ?_;refine ac rfl rfl (cS) rfl rfl rfl rfl ?_;refine ab ?_;refine aM rfl ?_;refine cf [5] (by kernel_rfl) rfl (List.forall_mem_cons.2 ⟨⟨_, rfl, rfl, ?_⟩, fun _ h => by cases h⟩);refine aa tok rfl ?_;refine dr rfl rfl rfl ?_;refine ab ?_;refine aM rfl ?_;refine qq (by kernel_rfl) (O _ ?_);clear O;exact ⟨(), trivial, Wk.mk' ⟨rfl, rfl, rfl, rfl, rfl, rfl, rfl, trivial⟩ (iF b _ _ rfl rfl rfl rfl rfl)⟩
     ·refine aa tok rfl ?_;refine Z7 ?_;refine ab ?_;refine aM rfl ?_;refine cf [1] (by kernel_rfl) rfl (List.forall_mem_cons.2 ⟨⟨_, rfl, rfl, ?_⟩, fun _ h => by cases h⟩);refine gX [(2, some (.box first.cs)), (6, some (.box (GR.mk ns ls).cs))] (ie (by repeat (first|exact trivial|refine ⟨rfl, ?_⟩)) rfl rfl rfl) cG rfl rfl rfl rfl rfl (by repeat (first|exact trivial|refine ⟨rfl, ?_⟩)) rfl rfl rfl rfl ?_;refine aM rfl ?_;refine cf [4] (by kernel_rfl) rfl (List.forall_mem_cons.2 ⟨⟨_, rfl, rfl, ?_⟩, fun _ h => by cases h⟩);refine aa tok rfl ?_;refine ac rfl rfl (cS) rfl rfl rfl rfl ?_;refine ab ?_;refine aM rfl ?_;refine cf [5] (by kernel_rfl) rfl (List.forall_mem_cons.2 ⟨⟨_, rfl, rfl, ?_⟩, fun _ h => by cases h⟩);refine aa tok rfl ?_;refine dr rfl rfl rfl ?_;refine ab ?_;refine aM rfl ?_;refine qq (by kernel_rfl) (O _ ?_);clear O;exact ⟨(), trivial, Wk.mk' ⟨rfl, rfl, rfl, rfl, rfl, rfl, rfl, trivial⟩ (iF b _ _ rfl rfl rfl rfl rfl)⟩
    ·refine aa tok rfl ?_;refine Z7 ?_;refine ab ?_;refine aM rfl ?_;refine cf [0] (by kernel_rfl) rfl (List.forall_mem_cons.2 ⟨⟨_, rfl, rfl, ?_⟩, fun _ h => by cases h⟩);refine aa tok rfl ?_;refine Z9 ?_;refine ab ?_;refine aM rfl ?_;refine cf [1] (by kernel_rfl) rfl (List.forall_mem_cons.2 ⟨⟨_, rfl, rfl, ?_⟩, fun _ h => by cases h⟩);refine gX [(2, some (.box first.cs)), (6, some (.box (GR.mk ns ls).cs))] (ie (by repeat (first|exact trivial|refine ⟨rfl, ?_⟩)) rfl rfl rfl) cG rfl rfl rfl rfl rfl (by repeat (first|exact trivial|refine ⟨rfl, ?_⟩)) rfl rfl rfl rfl ?_;refine aM rfl ?_;refine cf [4] (by kernel_rfl) rfl (List.forall_mem_cons.2 ⟨⟨_, rfl, rfl, ?_⟩, fun _ h => by cases h⟩);refine aa tok rfl ?_;refine ac rfl rfl (cS) rfl rfl rfl rfl ?_;refine ab ?_;refine aM rfl ?_;refine cf [5] (by kernel_rfl) rfl (List.forall_mem_cons.2 ⟨⟨_, rfl, rfl, ?_⟩, fun _ h => by cases h⟩);refine aa tok rfl ?_;refine dr rfl rfl rfl ?_;refine ab ?_;refine aM rfl ?_;refine qq (by kernel_rfl) (O _ ?_);clear O;exact ⟨(), trivial, Wk.mk' ⟨rfl, rfl, rfl, rfl, rfl, rfl, rfl, trivial⟩ (iF b _ _ rfl rfl rfl rfl rfl)⟩
  rintro ⟨⟩ -
  refine ap rfl (fun h => by cases h) (fun _ => ?_);refine ak ?_;show AWP _ _ _ _ _ _;refine gR fun _ O=>?_;refine Z9 ?_;refine av rfl (aP (c := ((i + 1 : Nat) : Int)) (by omega) (by omega)) rfl ?_;refine Z8 ?_;refine eQ O ?_;clear O;exact ⟨(i + 1, b, ns, ls), by show l.length - (i + 1) < l.length - i; omega, hI, Wk.mk' ⟨rfl, rfl, rfl, rfl, rfl, rfl, trivial⟩ (iF b _ _ rfl rfl rfl rfl rfl)⟩
 refine aD ?_;show AWP _ _ _ _ _ _
 have cG := uq [q] [] (fun r hr => by rw [List.mem_singleton.1 hr]; exact oq.1.mono rfl) (by show 1 <= _; decide) (by show 0 <= _; decide)
 rw [show [q].map (fun r => pz2 r.cn) = [q] from congrArg (· :: []) oq.2] at cG;refine c8 [(2, .ptr 2 0), (7, .pd [dRs [q], dLs []])] [(2, some (.box first.cs))] ⟨rfl, rfl, trivial⟩ ⟨rfl, trivial⟩ ?_
 have cN := xM first
 have cS := u7
 have cL := xN ⟨0, 0, 0, 0, 0⟩
 have cD := xO 0
 have cH := ve
 have cC := vf
 refine gQ fun _ O=>?_;refine Z8 ?_;refine eQ O ?_;clear O;refine gQ fun _ O=>?_;refine Z9 ?_;refine Z7 ?_;refine ac rfl rfl (cN) rfl rfl rfl rfl ?_;refine Z9 ?_;refine au rfl rfl rfl ?_;refine au rfl rfl rfl ?_;refine Z8 ?_;refine Z8 ?_;refine eQ O ?_;clear O;refine gQ fun _ O=>?_;refine Z9 ?_;refine ac rfl rfl (cS) rfl rfl rfl rfl ?_;refine Z9 ?_;refine au rfl rfl rfl ?_;refine au rfl rfl rfl ?_;refine Z8 ?_;refine Z8 ?_;refine eQ O ?_;clear O;refine gQ fun _ O=>?_;refine Z9 ?_;refine ac rfl rfl (cG) rfl rfl rfl rfl ?_;refine lF rfl rfl rfl ?_;refine az rfl (bD RW.dc rfl rfl) rfl ?_;refine av rfl (pJ (c := true) rfl) rfl ?_;refine Z9 ?_;refine Z9 ?_;refine av rfl (pJ (c := true) rfl) rfl ?_;refine Z4 ?_;refine Z9 ?_;refine Z9 ?_;refine av rfl (pJ (c := true) rfl) rfl ?_;refine Z4 ?_;refine Z9 ?_;refine Z9 ?_;refine av rfl (pJ (c := true) rfl) rfl ?_;refine Z4 ?_;refine Z9 ?_;refine Z9 ?_;refine aI rfl rfl rfl ?_;refine ac rfl rfl (cL) rfl rfl rfl rfl ?_;refine av rfl (pJ (c := true) rfl) rfl ?_;refine Z4 ?_;refine Z9 ?_;refine Z9 ?_;refine ac rfl rfl (cD) rfl rfl rfl rfl ?_;refine av rfl (pJ (c := true) rfl) rfl ?_;refine Z4 ?_;refine Z9 ?_;refine Z9 ?_;refine ac rfl rfl (cH) rfl rfl rfl rfl ?_;refine lF rfl rfl rfl ?_;refine az rfl (bD RW.dc rfl rfl) rfl ?_;refine av rfl (pJ (c := true) rfl) rfl ?_;refine Z4 ?_;refine Z9 ?_;refine Z9 ?_;refine ac rfl rfl (cC) rfl rfl rfl rfl ?_;refine Z6 ?_;refine Z4 ?_;refine Z8 ?_;refine eQ O ?_;clear O;exact ah aT
end Go.Proofs.YtceacleokgoooaaGreatDoor

/- The tables of numbers that a row's premise lays. No condition. -/
namespace Go.Proofs.YtceacleokgoooaaGreatDoor
open Go.ChangeShapes Go.WideShapes Go.ChangeAt Go.RowKit
theorem r6 {P : Program} {w : World} : ∀ {l : List (String × DataW Unit)} {ps : List MemPlace}, DataW.LaidVars P w l ps -> ∀ {n : String} {d : DataW Unit}, (n, d) ∈ l ->
  ∃ l' ps', DataW.LaidVars P w ((n, d) :: l') ps'
 | [], _, _, n, d, hm => by cases hm
 | (n0, d0) :: r, ps, h, n, d, hm => by
  rcases List.mem_cons.1 hm with e | hm
  ·cases e; exact ⟨r, ps, h⟩
  ·obtain ⟨g, t, cs, fuel, p, q, e1, e2, e3, e4, hr, rfl⟩ := h
   exact r6 hr hm
theorem tI {P : Program} {W : World} {l : List (String × DataW Unit)} {n : String} {g t te N : Nat} {nums : List Nat} (h : laidMetH P l W)
  (hm : (n, (.agg (nums.map fun (z : Nat) => .lit (.int .u8 (z : Int))) : DataW Unit)) ∈ l) (hg : P.globalNamed n = some g) (ht : (P.globals[g]?).map (·.type) = some t)
  (hu : P.underlying t = some (.array N te)) (hu8 : P.underlying te = some (.int .u8)) (c5 : P.cellsOf te = 1) (hN : nums.length = N) (h0 : 0 < N) :
  g < W.heap.size /\ (∀ j, j < nums.length -> W.cell? ⟨g, j, none⟩ = some (.int .u8 (nums.getD j 0))) /\ (nums = [] -> ∃ t fr, W.heap[g]? = some (.cells (pn.map fun z => Value.int .u64 z).toArray t fr)) := by
 have key : ∀ j, j < nums.length -> W.cell? ⟨g, j, none⟩ = some (.int .u8 (nums.getD j 0)) := by
  obtain ⟨⟨ps0, hL, _, _⟩, _⟩ := laidMetH_iff.1 h
  obtain ⟨l', ps, g', t', cs, fuel, p, q, hg', ht', hv, hd, _, _⟩ := r6 hL (List.mem_filter.2 ⟨hm, rfl⟩)
  obtain rfl := Option.some.inj (hg.symm.trans hg')
  obtain rfl := Option.some.inj (ht.symm.trans ht')
  obtain ⟨xs, m, _, ex, _, hl, hel⟩ := DataW.trod_array hu hd
  intro r hr
  have hE := hel r (by omega)
  rw [c5, Nat.mul_one, List.getElem?_eq_getElem (by omega)] at hE
  obtain ⟨z, e1, e2, _⟩ := DataW.trod_int hu8 hE
  have e3 : (xs.map (·.1)) = nums.map fun (n : Nat) => .lit (.int .u8 (n : Int)) := (DataW.agg.inj (Prod.mk.inj ex).1).symm
  have e4 : (xs.map (·.1))[r]? = (nums.map fun (n : Nat) => (DataW.lit (.int .u8 (n : Int)) : DataW Unit))[r]? := by rw [e3]
  rw [List.getElem?_map, List.getElem?_map, List.getElem?_eq_getElem (by omega : r < xs.length), List.getElem?_eq_getElem hr, e2] at e4
  have hz : z = ((nums.getD r 0 : Nat) : Int) := by
   simp only [Option.map_some, Option.some.injEq, DataW.lit.injEq, Lit.int.injEq, true_and] at e4;rw [e4, List.getD, List.getElem?_eq_getElem hr]; rfl
  rw [World.var?_cell hg hv r, <- hz]
  have : cs.toList[r]? = some (.int .u8 z) := by
   have h0 : ((cs.toList.drop r).take 1)[0]? = some (.int .u8 z) := by rw [e1]; rfl
   simpa using h0
  simpa using this
 refine ⟨?_, key, fun e => by rw [e] at hN; simp at hN; omega⟩
 have := key 0 (by omega)
 unfold World.cell? at this
 split at this
 ·rename_i hh
  rcases Nat.lt_or_ge g W.heap.size with hlt | hge
  ·exact hlt
  ·rw [Array.getElem?_eq_none hge] at hh; cases hh
 ·cases this
theorem zQ {P : Program} {W : World} {l : List (String × DataW Unit)} {n : String} {g t te N : Nat} (h : laidMetH P l W)
  (hm : (n, (.agg (pn.map fun (z : Int) => .lit (.int .u64 z)) : DataW Unit)) ∈ l) (hg : P.globalNamed n = some g) (ht : (P.globals[g]?).map (·.type) = some t)
  (hu : P.underlying t = some (.array N te)) (hu8 : P.underlying te = some (.int .u64)) (c5 : P.cellsOf te = 1) (ct : P.cellsOf t = N) (hN : pn.length = N) :
  g < W.heap.size /\ (∀ j, j < ([] : List Nat).length -> W.cell? ⟨g, j, none⟩ = some (.int .u8 (([] : List Nat).getD j 0))) /\ (([] : List Nat) = [] -> ∃ t fr, W.heap[g]? = some (.cells (pn.map fun z => Value.int .u64 z).toArray t fr)) := by
 obtain ⟨⟨ps0, hL, _, _⟩, _⟩ := laidMetH_iff.1 h
 obtain ⟨l', ps, g', t', cs, fuel, p, q, hg', ht', hv, hd, _, _⟩ := r6 hL (List.mem_filter.2 ⟨hm, rfl⟩)
 obtain rfl := Option.some.inj (hg.symm.trans hg')
 obtain rfl := Option.some.inj (ht.symm.trans ht')
 obtain ⟨xs, m, _, ex, hcl, hl, hel⟩ := DataW.trod_array hu hd
 have e3 : (xs.map (·.1)) = pn.map fun (n : Int) => .lit (.int .u64 n) := (DataW.agg.inj (Prod.mk.inj ex).1).symm
 have hcs : cs = (pn.map fun z => Value.int .u64 z).toArray := by
  rw [<- Array.toArray_toList (xs := cs)]
  congr 1
  apply List.ext_getElem?
  intro r
  rcases Nat.lt_or_ge r N with hr | hr
  ·have hE := hel r hr
   rw [c5, Nat.mul_one, List.getElem?_eq_getElem (by omega)] at hE
   obtain ⟨z, e1, e2, _⟩ := DataW.trod_int hu8 hE
   have e4 : (xs.map (·.1))[r]? = (pn.map fun (n : Int) => (DataW.lit (.int .u64 n) : DataW Unit))[r]? := by rw [e3]
   rw [List.getElem?_map, List.getElem?_map, List.getElem?_eq_getElem (by omega : r < xs.length), List.getElem?_eq_getElem (by omega : r < pn.length), e2] at e4
   have hz : z = pn[r]'(by omega) := by
    simpa only [Option.map_some, Option.some.injEq, DataW.lit.injEq, Lit.int.injEq, true_and] using e4
   have h0 : ((cs.toList.drop r).take 1)[0]? = some (.int .u64 z) := by rw [e1]; rfl
   rw [List.getElem?_map, List.getElem?_eq_getElem (by omega : r < pn.length), Option.map_some, <- hz]
   simpa using h0
  ·rw [List.getElem?_eq_none (by rw [hcl, ct]; exact hr), List.getElem?_eq_none (by rw [List.length_map, hN]; exact hr)]
 have hh : ∃ t fr, W.heap[g]? = some (.cells cs t fr) := by
  simp only [World.var?, hg, Option.bind_some] at hv
  split at hv
  ·rename_i c t fr hb
   cases hv
   exact ⟨t, fr, hb⟩
  ·cases hv
 rw [hcs] at hh;refine ⟨?_, (fun j hj => (Nat.not_lt_zero j hj).elim), fun _ => hh⟩
 obtain ⟨t, fr, hb⟩ := hh
 rcases Nat.lt_or_ge g W.heap.size with hlt | hge
 ·exact hlt
 ·rw [Array.getElem?_eq_none hge] at hb; cases hb
end Go.Proofs.YtceacleokgoooaaGreatDoor
