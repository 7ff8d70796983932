/- Part of a proof that a Go function answers true for every input. No condition. -/
import Derived.Test.YtceacleokgoooaaGreatDoorE4
import Derived.Test.YtceacleokgoooaaGreatDoorProg
import Derived.Shelf.SlIterI.Sorted
import Derived.Shelf.SortM.Plain
import Derived.Shelf.SortM.SortNone
import Derived.RangeFuncBox
import Derived.RangeFuncLeaves
import Derived.Shelf.Abstract
import Derived.WalkKit
import Derived.OwnWalkIn
import Derived.TacticsInMore
import Derived.LoopNIn
import Derived.LoopIn
import Derived.Lib.TrailingZeros
import Derived.Shelf.Spec.TrailingZeros
set_option linter.unusedVariables false
set_option linter.unusedSimpArgs false
set_option linter.unusedSectionVars false
/- law27: small matrices: words of factors, solutions, eliminations. No condition. -/
namespace Go.Proofs.YtceacleokgoooaaGreatDoor
attribute [local irreducible] aA

theorem okM.mono {m : List (List RW)} {j k : Nat} (h : okM j m) (hk : Nat.ble j k = true) : okM k m := fun r hr x hx => (h r hr x hx).mono hk
theorem yX {m : List (List RW)} {k : Nat} (h : okM k m) (hk : Nat.ble 1 k = true) (i j : Nat) : ql (bc m i j) <= k := by
 have h1 : 1 <= k := Nat.le_of_ble_eq_true hk
 have z : ql eO.v <= 1 := by decide
 unfold bc mtv
 rcases Nat.lt_or_ge i m.length with hi | hi
 ·rw [List.getD_eq_getElem?_getD (l := m), List.getElem?_eq_getElem hi, Option.getD_some]
  rcases Nat.lt_or_ge j m[i].length with hj | hj
  ·rw [List.getD_eq_getElem?_getD, List.getElem?_eq_getElem hj, Option.getD_some];exact (h _ (List.getElem_mem hi) _ (List.getElem_mem hj)).ql hk
  ·rw [List.getD_eq_getElem?_getD, List.getElem?_eq_none hj, Option.getD_none]; omega
 ·rw [List.getD_eq_getElem?_getD (l := m), List.getElem?_eq_none hi, Option.getD_none, List.getD_nil]; omega
theorem EG {b : List RW} {k : Nat} (h : ∀ x ∈ b, x.OK k) (hk : Nat.ble 1 k = true) (i : Nat) : ql (gN b i) <= k := by
 have h1 : 1 <= k := Nat.le_of_ble_eq_true hk
 have z : ql eO.v <= 1 := by decide
 unfold gN
 rcases Nat.lt_or_ge i b.length with hi | hi
 ·rw [List.getD_eq_getElem?_getD, List.getElem?_eq_getElem hi, Option.getD_some];exact (h _ (List.getElem_mem hi)).ql hk
 ·rw [List.getD_eq_getElem?_getD, List.getElem?_eq_none hi, Option.getD_none]; omega
theorem sw {B : Nat -> Nat -> Rat} {b : Nat -> Rat} (h : ∀ i j, i < 6 -> j < 6 -> ql (B i j) <= 2) (hb : ∀ i, i < 8 -> ql (b i) <= 2) :
  ∃ c : Rat, c ≠ 0 /\ IB 2816 c /\ (∀ i j, i < 6 -> j < 6 -> IB 2880 (c * B i j)) /\ ∀ i, i < 8 -> IB 2880 (c * b i) := by
 obtain ⟨c, h0, h1, h2⟩ := Jj ((List.range 36).map (fun k => B (k / 6) (k % 6)) ++ (List.range 8).map b) (fun q hq => by
  rcases List.mem_append.1 hq with hq | hq
  ·obtain ⟨k, hk, rfl⟩ := List.mem_map.1 hq
   have := List.mem_range.1 hk
   exact h _ _ (by omega) (by omega)
  ·obtain ⟨k, hk, rfl⟩ := List.mem_map.1 hq
   exact hb _ (List.mem_range.1 hk))
 have hl : ((List.range 36).map (fun k => B (k / 6) (k % 6)) ++ (List.range 8).map b).length = 44 := by simp
 rw [hl] at h1 h2;refine ⟨c, h0, h1, fun i j hi hj => h2 _ (List.mem_append_left _ (List.mem_map.2 ⟨6 * i + j, List.mem_range.2 (by omega), ?_⟩)), fun i hi => h2 _ (List.mem_append_right _ (List.mem_map.2 ⟨i, List.mem_range.2 hi, rfl⟩))⟩;rw [show (6 * i + j) / 6 = i by omega, show (6 * i + j) % 6 = j by omega]
section
variable {B : Nat -> Nat -> Rat} {n : Nat} {b : Nat -> Rat}
theorem mC (hn : n <= 6) (hs : ∀ i j, i < n -> j < n -> B i j = B j i) (h : ∀ i j, i < n -> j < n -> ql (B i j) <= 2) : yc B n /\ ∀ i j, i < n -> (∀ k, k < n -> DD B k ≠ 0) -> j < i -> ql (LL B i j) <= 640 := by
 obtain ⟨c, h0, h1, h2, _⟩ := sw (B := fun i j => if i < n /\ j < n then B i j else 0) (b := fun _ => 0) (fun i j _ _ => by
  by_cases e : i < n /\ j < n
  ·simp only [if_pos e]; exact h i j e.1 e.2
  ·simp only [if_neg e]; decide) (fun _ _ => by decide)
 have hB : ∀ i j, i < n -> j < n -> IB 2880 (c * B i j) := fun i j hi hj => by
  have := h2 i j (by omega) (by omega)
  rwa [if_pos ⟨hi, hj⟩] at this
 have hJ : n * (2880 + 4) + 2816 < 32 * 640 := by omega
 refine ⟨fun i hi hd => ?_, fun i j hi hd hj => DO h0 hs hB (by omega) hJ hi hj fun k hk => hd k (by omega)⟩
 have hd' : ∀ k, k < i -> DD B k ≠ 0 := fun k hk => by have := hd k hk; grind
 exact ⟨Nat.le_trans (Ij h0 h1 hs hB (by omega) hJ hi hd') (by decide), fun j hj => Nat.le_trans (DO h0 hs hB (by omega) hJ hi hj fun k hk => hd' k (by omega)) (by decide)⟩
theorem zZ (hn : n <= 6) (hs : ∀ i j, i < n -> j < n -> B i j = B j i) (h : ∀ i j, i < n -> j < n -> ql (B i j) <= 2) (hb : ∀ i, i < n -> ql (b i) <= 2) (hd : ∀ k, k < n -> DD B k ≠ 0) {i : Nat} (hi : i < n) : ql (slv B b n i) <= 640 := by
 obtain ⟨c, h0, h1, h2, h3⟩ := sw (B := fun i j => if i < n /\ j < n then B i j else 0) (b := fun i => if i < n then b i else 0) (fun i j _ _ => by
  by_cases e : i < n /\ j < n
  ·simp only [if_pos e]; exact h i j e.1 e.2
  ·simp only [if_neg e]; decide) (fun i _ => by
  by_cases e : i < n
  ·simp only [if_pos e]; exact hb i e
  ·simp only [if_neg e]; decide)
 have hB : ∀ i j, i < n -> j < n -> IB 2880 (c * B i j) := fun i j hi hj => by
  have := h2 i j (by omega) (by omega)
  rwa [if_pos ⟨hi, hj⟩] at this
 have hb' : ∀ i, i < n -> IB 2880 (c * b i) := fun i hi => by
  have := h3 i (by omega)
  rwa [if_pos hi] at this
 exact Et (e := 2816) h0 hs hB hb' (by omega) (by omega) hd hi
theorem xq (hn : n <= 6) (hs : ∀ i j, i < n -> j < n -> B i j = B j i) (h : ∀ i j, i < n -> j < n -> ql (B i j) <= 2) (hb : ∀ i, i < n -> ql (b i) <= 2) (hp : l6 B n = true) : xr B b n := by
 have hd := of_decide_eq_true hp
 have hd' : ∀ k, k < n -> DD B k ≠ 0 := fun k hk => by have := hd k hk; grind
 refine ⟨fun a ha => ?_, fun a ha => Nat.le_trans (zZ hn hs h hb hd' ha) (by decide)⟩
 have h1 := x9 (fun i j hi hj => (mC hn hs h).2 i j hi hd' hj) hb a ha
 have h2 : 2 ^ a <= 2 ^ 6 := Nat.pow_le_pow_right (by decide) (by omega)
 have h3 : (2 + 640 + 1) * 2 ^ a <= 643 * 2 ^ 6 := Nat.mul_le_mul_left _ h2
 have h4 : 643 * 2 ^ 6 = 41152 := by decide
 omega
end
theorem Bp {m : List (List RW)} (hv : cp m = true) : m = ba m.length m.length (mtv m) := nF rfl (of_decide_eq_true hv).2.1
end Go.Proofs.YtceacleokgoooaaGreatDoor

/- The library functions Sorted and Sort at this program: what the kit proves of them over any program. No condition. -/
namespace Go.Proofs.YtceacleokgoooaaGreatDoor
open Go.Shelf
def sh_srtA_ren : Go.Shelf.Ren := ⟨fun | 6 => 116 | 8 => 147 | 9 => 148 | 11 => 169 | 13 => 171 | 12 => 170 | 23 => 172 | 24 => 174 | 14 => 181 | 15 => 182 | 16 => 183 | 17 => 184 | 18 => 185 | 19 => 186 | 20 => 187 | 21 => 188 | 22 => 189 | 25 => 191 | 26 => 192 | 27 => 193 | 28 => 194 | 29 => 195 | 30 => 196 | 31 => 197 | n => n, fun | 26 => 3 | 28 => 175 | 24 => 67 | 0 => 0 | 3 => 3 | 37 => 150 | 48 => 149 | 50 => 130 | 4 => 4 | 40 => 228 | 39 => 227 | 45 => 232 | 5 => 5 | 9 => 9 | 51 => 234 | 55 => 238 | 57 => 241 | 58 => 242 | 33 => 202 | n => n, fun | n => n⟩
theorem sh_srtA : Go.Proofs.SlLaysZI.n6 Tryz.prog sh_srtA_ren := {
 mixed := by kernel_rfl
 f6 := ⟨Tryz.f116.name, by decide, Tryz.func116.trans (congrArg some (by kernel_rfl))⟩
 f8 := ⟨Tryz.f147.name, by decide, Tryz.func147.trans (congrArg some (by kernel_rfl))⟩
 f11 := ⟨Tryz.f169.name, by decide, Tryz.func169.trans (congrArg some (by kernel_rfl))⟩
 t0 := Tryz.underlying0
 a0 := Tryz.isAgg0
 z0 := Tryz.sizeOf0
 v0 := Tryz.zeroValue0
 t24 := Tryz.underlying67
 a24 := Tryz.isAgg67
 z24 := Tryz.sizeOf67
 v24 := Tryz.zeroValue67
 t26 := Tryz.underlying3
 a26 := Tryz.isAgg3
 z26 := Tryz.sizeOf3
 v26 := Tryz.zeroValue3
 t28 := Tryz.underlying175
 a28 := Tryz.isAgg175
 z28 := Tryz.sizeOf175
 v28 := Tryz.zeroValue175
 i26 := by kernel_rfl }
def sh_srtB_ren : Go.Shelf.Ren := ⟨fun | 5 => 148 | 8 => 171 | 7 => 170 | 19 => 172 | 20 => 174 | 10 => 181 | 11 => 182 | 12 => 183 | 13 => 184 | 14 => 185 | 15 => 186 | 16 => 187 | 17 => 188 | 18 => 189 | 30 => 191 | 31 => 192 | 32 => 193 | 33 => 194 | 34 => 195 | 35 => 196 | 40 => 197 | n => n, fun | 23 => 67 | 25 => 3 | 3 => 3 | 32 => 150 | 22 => 67 | 0 => 0 | 44 => 149 | 46 => 130 | 4 => 4 | 36 => 228 | 35 => 227 | 41 => 232 | 5 => 5 | 9 => 9 | 53 => 234 | 57 => 238 | 63 => 241 | 64 => 242 | n => n, fun | n => n⟩
theorem sh_srtB : Go.Proofs.SlLaysM.n5 Tryz.prog sh_srtB_ren := {
 mixed := by kernel_rfl
 f5 := ⟨Tryz.f148.name, by decide, Tryz.func148.trans (congrArg some (by kernel_rfl))⟩
 f7 := ⟨Tryz.f170.name, by decide, Tryz.func170.trans (congrArg some (by kernel_rfl))⟩
 f8 := Tryz.func171.trans (congrArg some (by kernel_rfl))
 f10 := ⟨Tryz.f181.name, by decide, Tryz.func181.trans (congrArg some (by kernel_rfl))⟩
 f11 := ⟨Tryz.f182.name, by decide, Tryz.func182.trans (congrArg some (by kernel_rfl))⟩
 f12 := ⟨Tryz.f183.name, by decide, Tryz.func183.trans (congrArg some (by kernel_rfl))⟩
 f13 := ⟨Tryz.f184.name, by decide, Tryz.func184.trans (congrArg some (by kernel_rfl))⟩
 f14 := ⟨Tryz.f185.name, by decide, Tryz.func185.trans (congrArg some (by kernel_rfl))⟩
 f15 := ⟨Tryz.f186.name, by decide, Tryz.func186.trans (congrArg some (by kernel_rfl))⟩
 f16 := ⟨Tryz.f187.name, by decide, Tryz.func187.trans (congrArg some (by kernel_rfl))⟩
 f17 := ⟨Tryz.f188.name, by decide, Tryz.func188.trans (congrArg some (by kernel_rfl))⟩
 f18 := ⟨Tryz.f189.name, by decide, Tryz.func189.trans (congrArg some (by kernel_rfl))⟩
 f19 := Tryz.func172.trans (congrArg some (by kernel_rfl))
 f20 := Tryz.func174.trans (congrArg some (by kernel_rfl))
 f30 := ⟨Tryz.f191.name, by decide, Tryz.func191.trans (congrArg some (by kernel_rfl))⟩
 f31 := Tryz.func192.trans (congrArg some (by kernel_rfl))
 f32 := Tryz.func193.trans (congrArg some (by kernel_rfl))
 f33 := ⟨Tryz.f194.name, by decide, Tryz.func194.trans (congrArg some (by kernel_rfl))⟩
 f34 := ⟨Tryz.f195.name, by decide, Tryz.func195.trans (congrArg some (by kernel_rfl))⟩
 f35 := ⟨Tryz.f196.name, by decide, Tryz.func196.trans (congrArg some (by kernel_rfl))⟩
 f40 := ⟨Tryz.f197.name, by decide, Tryz.func197.trans (congrArg some (by kernel_rfl))⟩
 t0 := Tryz.underlying0
 a0 := Tryz.isAgg0
 z0 := Tryz.sizeOf0
 v0 := Tryz.zeroValue0
 t3 := Tryz.underlying3
 a3 := Tryz.isAgg3
 z3 := Tryz.sizeOf3
 v3 := Tryz.zeroValue3
 t4 := Tryz.underlying4
 a4 := Tryz.isAgg4
 z4 := Tryz.sizeOf4
 v4 := Tryz.zeroValue4
 t5 := Tryz.underlying5
 a5 := Tryz.isAgg5
 z5 := Tryz.sizeOf5
 v5 := Tryz.zeroValue5
 t9 := Tryz.underlying9
 a9 := Tryz.isAgg9
 z9 := Tryz.sizeOf9
 v9 := Tryz.zeroValue9
 t22 := Tryz.underlying67
 a22 := Tryz.isAgg67
 z22 := Tryz.sizeOf67
 v22 := Tryz.zeroValue67
 t23 := Tryz.underlying67
 a23 := Tryz.isAgg67
 z23 := Tryz.sizeOf67
 v23 := Tryz.zeroValue67
 t25 := Tryz.underlying3
 a25 := Tryz.isAgg3
 z25 := Tryz.sizeOf3
 v25 := Tryz.zeroValue3
 t32 := Tryz.underlying150
 a32 := Tryz.isAgg150
 z32 := Tryz.sizeOf150
 v32 := Tryz.zeroValue150
 t35 := Tryz.underlying227
 a35 := Tryz.isAgg227
 z35 := Tryz.sizeOf227
 v35 := Tryz.zeroValue227
 t36 := Tryz.underlying228
 a36 := Tryz.isAgg228
 z36 := Tryz.sizeOf228
 v36 := Tryz.zeroValue228
 t41 := Tryz.underlying232
 a41 := Tryz.isAgg232
 z41 := Tryz.sizeOf232
 v41 := Tryz.zeroValue232
 t44 := Tryz.underlying149
 a44 := Tryz.isAgg149
 z44 := Tryz.sizeOf149
 v44 := Tryz.zeroValue149
 t46 := Tryz.underlying130
 a46 := Tryz.isAgg130
 z46 := Tryz.sizeOf130
 v46 := Tryz.zeroValue130
 t53 := Tryz.underlying234
 a53 := Tryz.isAgg234
 z53 := Tryz.sizeOf234
 v53 := Tryz.zeroValue234
 t57 := Tryz.underlying238
 a57 := Tryz.isAgg238
 z57 := Tryz.sizeOf238
 v57 := Tryz.zeroValue238
 t63 := Tryz.underlying241
 a63 := Tryz.isAgg241
 z63 := Tryz.sizeOf241
 v63 := Tryz.zeroValue241
 t64 := Tryz.underlying242
 a64 := Tryz.isAgg242
 z64 := Tryz.sizeOf242
 v64 := Tryz.zeroValue242 }
end Go.Proofs.YtceacleokgoooaaGreatDoor

/- A list sorted is 0, 1, .. just if it has each of these numbers once. No condition. -/
namespace Go.Proofs.YtceacleokgoooaaGreatDoor

def gq (l : List Int) : List Int := l.mergeSort fun x y => decide (x <= y)
theorem ju (l : List Int) : (gq l).Perm l := List.mergeSort_perm l _
theorem mY (l : List Int) : (gq l).length = l.length := (ju l).length_eq
theorem Em (l : List Int) : ∀ i j (hi : i < (gq l).length) (hj : j < (gq l).length), i < j -> (gq l)[i] <= (gq l)[j] := by
 have h := List.pairwise_mergeSort (le := fun x y : Int => decide (x <= y)) (fun a b c h1 h2 => by simp only [decide_eq_true_eq] at *; omega) (fun a b => by simp only [Bool.or_eq_true, decide_eq_true_eq]; omega) l
 intro i j hi hj hij
 have := List.pairwise_iff_getElem.1 h i j hi hj hij
 exact of_decide_eq_true this
theorem GT {l : List Int} {n : Nat} (hn : l.length = n) (hd : l.Nodup) (hr : ∀ x ∈ l, 0 <= x /\ x < n) : ∀ i (h : i < (gq l).length), (gq l)[i] = (i : Int) := by
 have hl := mY l
 have nd : (gq l).Nodup := (ju l).symm.nodup hd
 have lt : ∀ i j (hi : i < (gq l).length) (hj : j < (gq l).length), i < j -> (gq l)[i] < (gq l)[j] := fun i j hi hj hij => by
  have h1 := Em l i j hi hj hij
  have h2 : (gq l)[i] ≠ (gq l)[j] := List.pairwise_iff_getElem.1 nd i j hi hj hij
  omega
 have rg : ∀ i (h : i < (gq l).length), 0 <= (gq l)[i] /\ (gq l)[i] < n := fun i h => hr _ ((ju l).mem_iff.1 (List.getElem_mem h))
 generalize gq l = s at *
 have lo : ∀ i (h : i < s.length), (i : Int) <= s[i] := by
  intro i
  induction i with
  | zero => intro h; exact (rg 0 h).1
  | succ i ih =>
   intro h
   have h1 := ih (by omega)
   have h2 := lt i (i + 1) (by omega) h (by omega)
   omega
 have hi : ∀ d i (h : i < s.length), i + d + 1 = s.length -> s[i] + d < n := by
  intro d
  induction d with
  | zero => intro i h _; have := (rg i h).2; omega
  | succ d ih =>
   intro i h e
   have h1 := ih (i + 1) (by omega) (by omega)
   have h2 := lt i (i + 1) h (by omega) (by omega)
   omega
 intro i h
 have h1 := lo i h
 have h2 := hi (s.length - i - 1) i h (by omega)
 omega
theorem Bo {l : List Int} {n : Nat} (hn : l.length = n) (h : ∀ i (h : i < (gq l).length), (gq l)[i] = (i : Int)) : l.Nodup /\ ∀ x ∈ l, 0 <= x /\ x < n := by
 have hl := mY l
 refine ⟨(ju l).nodup (List.pairwise_iff_getElem.2 fun i j hi hj hij => by rw [h i hi, h j hj]; omega), fun x hx => ?_⟩
 obtain ⟨i, hi, rfl⟩ := List.getElem_of_mem ((ju l).mem_iff.2 hx)
 rw [h i hi]
 omega
theorem j6 {l : List Int} : l.Nodup ↔ ∀ i (h : i < l.length), l[i] ∉ l.take i := by
 constructor
 ·intro h i hi hm
  obtain ⟨j, hj, e⟩ := List.getElem_of_mem hm
  rw [List.getElem_take] at e;rw [List.length_take] at hj;exact List.pairwise_iff_getElem.1 h j i (by omega) hi (by omega) e
 ·intro h
  refine List.pairwise_iff_getElem.2 fun i j hi hj hij e => h j hj ?_;rw [<- e]
  have : i < (l.take j).length := by rw [List.length_take]; omega
  have e2 : (l.take j)[i] = l[i] := List.getElem_take
  rw [<- e2];exact List.getElem_mem this
end Go.Proofs.YtceacleokgoooaaGreatDoor

/- slices.Sorted of slices.Values, at ints. Lines turned from the guide's worked examples (GgCollectAtTheDump, GgSortedAtTheDump, GgSlicesIterAtTheDump). No condition. -/
namespace Go.Proofs.YtceacleokgoooaaGreatDoor
open Go.RowKit Go.Maps Go.Sort Go.Shelf

section
variable {P : Program} {ρ : Ren}
def AS {α : Type} (F : Fence) (n : Nat) (P : Program) (g : Nat) (lb : Array Value) (enc : α -> Value) (S : List α -> Prop) (N : Nat) (w : World) : Prop :=
 ∀ (l : Nat) (J : List α -> World -> Prop) (W : World), Below w.heap.size w W -> AbidesFrom W.heap.size J -> (∀ s W1, J s W1 -> Below w.heap.size w W1) ->
  (∀ pre x W1, J pre W1 -> pre.length < N -> YieldAt F (n - 1) P l #[enc x] W1 fun e W' => e = .returned (.bool true) /\ J (pre ++ [x]) W' /\ KeepsWalks W1 W') ->
  J [] W -> CallsIn F n P g (#[.func (.yield l) #[] #[]] ++ lb) W fun e W' => (∃ v, e = .returned v) /\ ∃ xs, S xs /\ J xs W'

set_option maxRecDepth 100000 in
set_option maxHeartbeats 2000000 in
theorem yr (L : SlLaysZI.n11 P ρ) (F : Fence) (n : Nat) (h11 : F.fn (ρ.f 11)) (hro : F.round = none) (hn : 2 <= n) (g : Nat) (lb : Array Value) (hFg : F.fn g) (eg : ∀ args w, (callFunc g args).run P w = .ok (.enter g args) w)
  (S : List Int -> Prop) (N : Nat) (hN : N <= maxLen) (hNb : N * 8 <= 140737488355328) (w : World) (hseq : AS F (n - 1) P g lb encZ S N w) :
  CallsIn F n P (ρ.f 11) #[.slice none 0 0, .func (.func g) #[] lb] w fun e w' => ∃ (v : Value) (ss : List Int), e = .returned v /\ S ss /\ w'.ownsRow w.heap.size (ρ.t 26) 1 v ss.length (ss.map encZ) /\ (v = .slice none 0 0 ↔ ss = []) /\ Below w.heap.size w w' := by
 have h1 : 1 <= n := by omega
 have mixed := L.mixed; have t0 := L.t0; have a0 := L.a0; have z0 := L.z0; have v0 := L.v0; have t24 := L.t24; have a24 := L.a24; have z24 := L.z24; have v24 := L.v24; have t26 := L.t26; have a26 := L.a26; have z26 := L.z26; have v26 := L.v26; have t28 := L.t28; have a28 := L.a28; have z28 := L.z28; have v28 := L.v28
 have hne : ρ.t 24 ≠ ρ.t 26 := fun e => by have h := L.t24; rw [e, L.t26] at h; cases h
 have u0 := run_underlying L.t0; have u24 := run_underlying L.t24; have u26 := run_underlying L.t26; have u28 := run_underlying L.t28
 obtain ⟨_, _, FG⟩ := L.f11
 refine callsIn_of_wp_marks FG rfl h11 ?_ hro;simp only [SlBodyZ.n11_ntmps ρ, List.size_toArray, List.length_cons, List.length_nil, Nat.reduceAdd, Nat.reduceSub, Array.replicate_succ, Array.replicate_zero, List.push_toArray, List.append_toArray, List.nil_append, List.cons_append]
 gi_wp2
 refine wpIn_rangeFunc ?_
 intro fn hfn
 rw [hro]
 obtain ⟨W0, hW0⟩ : ∃ W0, w.alloc (.cells #[.slice none 0 0] (ρ.t 24)) = W0 := ⟨_, rfl⟩
 have hs0 : W0.heap.size = w.heap.size + 1 := by rw [<- hW0]; simp
 have hv0 : W0.heap[w.heap.size]? = some (.cells #[.slice none 0 0] (ρ.t 24) (0, 0)) := by rw [<- hW0]; exact World.alloc_heap_new w _
 have hb0 : Below w.heap.size w W0 := by rw [<- hW0]; exact (Below.refl _ w).alloc (Nat.le_refl _) _
 rw [hW0]
 obtain ⟨W1, hW1⟩ : ∃ W1, (W0.alloc (.deferred (some []))).alloc (.loop (AnyZI.apRec ρ fn (.func (.func g) #[] lb) w.heap.size W0.heap.size .ready none)) = W1 := ⟨_, rfl⟩
 have hold : ∀ k, k < W0.heap.size -> W1.heap[k]? = W0.heap[k]? := fun k hk => by
  rw [<- hW1]; exact (Below.heap_alloc _ _ k (by simp; omega)).trans (Below.heap_alloc _ _ k hk)
 have hb1 : Below w.heap.size w W1 := by rw [<- hW1]; exact (hb0.alloc hb0.size _).alloc (by have := hb0.size; simp; omega) _
 have hs1 : W1.heap.size = W0.heap.size + 2 := by rw [<- hW1]; simp
 have hM : AnyZI.ApAt ρ w fn (.func (.func g) #[] lb) w.heap.size (W0.heap.size + 1) W0.heap.size [] W1 :=
  ⟨⟨_, (hold w.heap.size (by omega)).trans hv0, ⟨rfl, .inl ⟨rfl, rfl⟩⟩, by simp⟩,
   by rw [<- hW1]; have := World.alloc_heap_new (W0.alloc (.deferred (some []))) (.loop (AnyZI.apRec ρ fn (.func (.func g) #[] lb) w.heap.size W0.heap.size .ready none)); rwa [World.size_alloc] at this,
   by rw [<- hW1]; exact (Below.heap_alloc _ _ _ (by simp)).trans (World.alloc_heap_new W0 _), hb1⟩
 refine ⟨W0.heap.size + 1, [{ target := .collected W0.heap.size, args := #[] }], W1, { target := .fn (.func g) lb, args := #[.func (.yield (W0.heap.size + 1)) #[] #[]] }, W1, g,
  #[.func (.yield (W0.heap.size + 1)) #[] #[]] ++ lb, W1, ?_, ?_, ?_, ?_, fun _ => h1, ?_⟩
 ·rw [<- hW1]; exact run_enterLoop_outer _ _ _ _ _
 ·simp [resolve, go_sem]
 ·intro f' hf'; simp [Target.leads] at hf'; subst hf'; exact hFg
 ·simp [invoke, go_sem, eg]
 ·refine (hseq (W0.heap.size + 1) (AnyZI.ApAt ρ w fn (.func (.func g) #[] lb) w.heap.size (W0.heap.size + 1) W0.heap.size) W1 hb1 (AnyZI.ap_abides ρ _ _ _ _ _ _ _ hb1.size) (fun _ _ hJ => hJ.below)
   (fun pre x W hJ hl => AnyZI.apYield { L with } F (n - 1 - 1) w fn hfn _ w.heap.size (W0.heap.size + 1) W0.heap.size (by omega) (by omega) (by omega) (Nat.le_refl _) (by omega) N hN hNb pre x W hJ hl) hM).mono ?_
  rintro e W2 ⟨⟨v0, rfl⟩, ss, hS, h2⟩
  obtain ⟨v, hv, hrow, hnil⟩ := h2.box
  have hend := run_endLoop (P := P) h2.L (by simp [AnyZI.apRec])
  obtain ⟨W3, hW3⟩ : ∃ W3, W2.putObj (W0.heap.size + 1) (.loop { AnyZI.apRec ρ fn (.func (.func g) #[] lb) w.heap.size W0.heap.size .ready none with state := .exhausted }) = W3 := ⟨_, rfl⟩
  rw [hW3] at hend
  have hg3 : W2.grownBy W3 (some (W0.heap.size + 1)) := by rw [<- hW3]; exact grownBy_putObj_a _ _ _
  have hv3 : W3.heap[w.heap.size]? = some (.cells #[v] (ρ.t 24) (0, 0)) := by rw [<- hW3]; exact (World.putObj_heap_other (by omega)).trans hv
  have hK3 : W3.heap[W0.heap.size]? = some (.deferred (some [])) := by rw [<- hW3]; exact (World.putObj_heap_other (by omega)).trans h2.K
  have hrow3 := hrow.kept hg3 (ownsRow_ne_a hrow h2.L (fun cur e => by first | cases e | exact hne (Obj.cells.inj e).2.1))
  have hb3 : Below w.heap.size w W3 := h2.below.grown hg3 h2.below.size (fun k e => by cases e; omega)
  obtain ⟨hc3, hf3⟩ := cell_of_box_a hv3
  clear hW3;refine ⟨none, W3, hend, ?_⟩
  gi_wp2
  rw [<- hs0];refine ⟨by simp, .inl ⟨_, _, rfl, run_takeDeferred hK3, ?_⟩⟩;exact ⟨_, results_tmp rfl _ _ _, v, ss, rfl, hS, hrow3.kept (grownBy_putObj_a _ _ _) (ownsRow_ne_a hrow3 hK3 (fun cur e => by first | cases e | exact hne (Obj.cells.inj e).2.1)), hnil, hb3.grown (grownBy_putObj_a _ _ _) hb3.size (fun k e => by cases e; omega)⟩
set_option maxHeartbeats 1000000 in
theorem Dv (L : SlLaysZI.n8 P ρ) (F : Fence) (n : Nat) (h8 : F.fn (ρ.f 8)) (h11 : F.fn (ρ.f 11)) (hro : F.round = none) (hn : 3 <= n) (g : Nat) (lb : Array Value) (hFg : F.fn g) (eg : ∀ args w, (callFunc g args).run P w = .ok (.enter g args) w)
  (S : List Int -> Prop) (N : Nat) (hN : N <= maxLen) (hNb : N * 8 <= 140737488355328) (w : World) (hseq : AS F (n - 1 - 1) P g lb encZ S N w) :
  CallsIn F n P (ρ.f 8) #[.func (.func g) #[] lb] w fun e w' => ∃ (v : Value) (ss : List Int), e = .returned v /\ S ss /\ w'.ownsRow w.heap.size (ρ.t 26) 1 v ss.length (ss.map encZ) /\ (v = .slice none 0 0 ↔ ss = []) /\ Below w.heap.size w w' := by
 have h1 : 1 <= n := by omega
 have e11 : ∀ args w, (callFunc (ρ.f 11) args).run P w = .ok (.enter (ρ.f 11) args) w := L.f11.enters rfl
 have mixed := L.mixed; have t0 := L.t0; have a0 := L.a0; have z0 := L.z0; have v0 := L.v0; have t24 := L.t24; have a24 := L.a24; have z24 := L.z24; have v24 := L.v24; have t26 := L.t26; have a26 := L.a26; have z26 := L.z26; have v26 := L.v26; have t28 := L.t28; have a28 := L.a28; have z28 := L.z28; have v28 := L.v28
 have u0 := run_underlying L.t0; have u24 := run_underlying L.t24; have u26 := run_underlying L.t26; have u28 := run_underlying L.t28
 obtain ⟨_, _, FG⟩ := L.f8
 refine callsIn_of_wp FG rfl h8 ?_ hro;simp only [SlBodyZ.n8_ntmps ρ, List.size_toArray, List.length_cons, List.length_nil, Nat.reduceAdd, Nat.reduceSub, Array.replicate_succ, Array.replicate_zero, List.push_toArray, List.append_toArray, List.nil_append, List.cons_append]
 gi_wp2_with (gi_at_fn (ρ.f 11); refine (yr { L with } F (n - 1) h11 hro (by omega) g lb hFg eg S N hN hNb _ hseq).mono ?_; rintro e w' ⟨v, ss, rfl, hS, hrow, hnil, hb⟩)
 go_ret
 exact ⟨v, ss, rfl, hS, hrow, hnil, hb⟩
set_option maxRecDepth 100000 in
set_option maxHeartbeats 2000000 in
theorem En (L : SlLaysZI.n6 P ρ) (F : Fence) (n : Nat) (h6 : F.fn (ρ.f 6)) (h8 : F.fn (ρ.f 8)) (h9 : F.fn (ρ.f 9)) (h11 : F.fn (ρ.f 11)) (hro : F.round = none) (hn : 4 <= n) (hsort : AnyZI.SortsIn P ρ F (n - 1)) (e9 : ∀ args w, (callFunc (ρ.f 9) args).run P w = .ok (.enter (ρ.f 9) args) w) (g : Nat) (lb : Array Value) (hFg : F.fn g) (eg : ∀ args w, (callFunc g args).run P w = .ok (.enter g args) w)
  (S : List Int -> Prop) (N : Nat) (hz : ∀ ss, S ss -> ss.length <= N) (hN : N <= maxLen) (hNb : N * 8 <= 140737488355328) (w : World) (hseq : AS F (n - 1 - 1 - 1) P g lb encZ S N w) :
  CallsIn F n P (ρ.f 6) #[.func (.func g) #[] lb] w fun e w' => ∃ (v : Value) (ss : List Int), e = .returned v /\ S ss /\
   w'.ownsRow w.heap.size (ρ.t 26) 1 v ss.length ((ss.mergeSort (fun x y => decide (x <= y))).map encZ) /\ (v = .slice none 0 0 ↔ ss = []) /\ Below w.heap.size w w' := by
 have h1 : 1 <= n := by omega
 have e8 : ∀ args w, (callFunc (ρ.f 8) args).run P w = .ok (.enter (ρ.f 8) args) w := L.f8.enters rfl
 have mixed := L.mixed; have t0 := L.t0; have a0 := L.a0; have z0 := L.z0; have v0 := L.v0; have t24 := L.t24; have a24 := L.a24; have z24 := L.z24; have v24 := L.v24; have t26 := L.t26; have a26 := L.a26; have z26 := L.z26; have v26 := L.v26; have t28 := L.t28; have a28 := L.a28; have z28 := L.z28; have v28 := L.v28
 have u0 := run_underlying L.t0; have u24 := run_underlying L.t24; have u26 := run_underlying L.t26; have u28 := run_underlying L.t28
 obtain ⟨_, _, FG⟩ := L.f6
 refine callsIn_of_wp FG rfl h6 ?_ hro;simp only [SlBodyZ.n6_ntmps ρ, List.size_toArray, List.length_cons, List.length_nil, Nat.reduceAdd, Nat.reduceSub, Array.replicate_succ, Array.replicate_zero, List.push_toArray, List.append_toArray, List.nil_append, List.cons_append]
 gi_wp2_with (gi_at_fn (ρ.f 8); refine (Dv { L with } F (n - 1) h8 h11 hro (by omega) g lb hFg eg _ N hN hNb _ hseq).mono ?_; rintro e W ⟨v, ss, rfl, hS, hrow, hnil, hb⟩)
 have hlen : ss.length <= N := hz _ hS
 rcases hrow.2 with ⟨rfl, hz⟩ | ⟨gb, cap, cur, rfl, hbase, hgb, r1, r2, r3, r4⟩
 ·-- nothing came: the nil slice is sorted and handed back
  have hss : ss = [] := List.eq_nil_of_length_eq_zero hz
  subst hss
  gi_wp2_with (gi_at_fn (ρ.f 9); refine (hsort.2 none 0 W).mono ?_; rintro e w' ⟨rfl, rfl⟩)
  go_ret
  exact ⟨.slice none 0 0, [], rfl, hS, by simpa using hrow, by simp, hb⟩
 ·have hH : Holds encZ W gb 0 ss.toArray := holds_of_block_i hgb (by simpa using r4)
  have hgl : gb < W.heap.size := (Array.getElem?_eq_some_iff.1 hgb).1
  have hsz : ss.length < 4611686018427387904 := by omega
  have cS := hsort.1 gb 0 cap ss W hH hgl hsz
  gi_wp2_with (gi_at_fn (ρ.f 9); refine cS.mono ?_; rintro e w' ⟨rfl, nn, os, rfl⟩)
  go_ret
  exact ⟨_, ss, rfl, hS, ownsRow_sorted_i (by simp) hbase hgb r1 r2 r3, hnil, hb.grown (grownBy_sorted_i _) hb.size (fun j hj => by cases hj; exact hbase)⟩
end

theorem GU (m : Nat) : AnyZI.SortsIn Tryz.prog sh_srtA_ren Fence.wide m :=
 ⟨fun blk off cap ss W hH hblk hsz => callsIn_wide.2 (AnyM.slices_Sort_int sh_srtB blk off cap ss W hH hblk hsz),
  fun p cap W => callsIn_wide.2 (AnyM.slices_Sort_int_none sh_srtB p cap W)⟩
def upF (f : Nat -> Int) (k : Nat) : List Int := (List.range k).map f
theorem Ba (f : Nat -> Int) (k : Nat) : upF f (k + 1) = upF f k ++ [f k] := by simp [upF, List.range_succ]
theorem xk (f : Nat -> Int) (k : Nat) : (upF f k).length = k := by simp [upF]
theorem D2 (zs : List Int) : upF (fun j => zs[j]?.getD 0) zs.length = zs := by
 apply List.ext_getElem
 ·simp [upF]
 ·intro i h1 h2
  simp [upF, h2]
set_option maxRecDepth 100000 in
set_option maxHeartbeats 2000000 in
theorem A6 (F : Fence) (n : Nat) (h7 : F.fn 149) (hro : F.round = none) (hn : 1 <= n) (l Bs b off len cap : Nat) (f : Nat -> Int) (hreach : len * 8 <= 140737488351232) (w : World) (hb : b < w.heap.size) (J : List Int -> World -> Prop)
  (hB : ∀ s W1, J s W1 -> Below w.heap.size w W1) (hY : ∀ pre x W1, J pre W1 -> pre.length < len -> YieldAt F (n - 1) Tryz.prog l #[.int .i64 x] W1 fun e W' => e = .returned (.bool true) /\ J (pre ++ [x]) W' /\ KeepsWalks W1 W')
  (W : World) (hBs : W.cell? ⟨Bs, 0, none⟩ = some (.slice (some ⟨b, off, none⟩) len cap)) (hc : ∀ j, j < len -> w.cell? ⟨b, off + j, none⟩ = some (.int .i64 (f j))) (h0 : J [] W) :
  CallsIn F n Tryz.prog 149 #[.func (.yield l) #[] #[], .pointer (some ⟨Bs, 0, none⟩)] W fun e W' => (∃ v, e = .returned v) /\ J (upF f len) W' := by
 refine callsIn_of_wp Tryz.func149 rfl h7 ?_ hro;simp only [Tryz.ntmps149, List.size_toArray, List.length_cons, List.length_nil, Nat.reduceAdd, Nat.reduceSub, Array.replicate_succ, Array.replicate_zero, List.push_toArray, List.append_toArray, List.nil_append, List.cons_append]
 gi_wp2
 gi_loopw [7] (fun i wr => ∃ k : Nat, k <= len /\ i = .int .i64 k /\ J (upF f k) wr) (fun i _ => len - (intOf i).toNat)
 case atStart => exact ⟨0, Nat.zero_le _, rfl, h0⟩
 case round =>
  obtain ⟨k, hk, rfl, hJs⟩ := hrel
  have hnx := hB _ _ hJs
  have hcx : k < len -> wr.cell? ⟨b, off + k, none⟩ = some (.int .i64 (f k)) := fun h => (hnx.cell (p := ⟨b, off + k, none⟩) hb).trans (hc k h)
  by_cases hlt : k < len
  ·obtain ⟨fn, tmps, assign, body, hy, hR⟩ := hY _ (f k) wr hJs (by rw [xk]; exact hlt)
   have hcx' := hcx hlt
   gi_wp2
   refine hR.mono ?_
   rintro e W3 ⟨rfl, hJ3, _⟩
   gi_wp2
   go_roundw
   case rel => exact ⟨k + 1, by omega, by simp, by rw [Ba]; exact hJ3⟩
   case measure => simp [intOf]; omega
  ·obtain rfl : k = len := by omega
   gi_wp2
   go_end0
   exact ⟨⟨_, rfl⟩, hJs⟩
theorem D1 (F : Fence) (n : Nat) (h7 : F.fn 149) (hro : F.round = none) (hn : 1 <= n) (Bs b off cap : Nat) (zs : List Int) (hreach : zs.length * 8 <= 140737488351232) (w : World) (hBs : Bs < w.heap.size) (hb : b < w.heap.size)
  (hcB : w.cell? ⟨Bs, 0, none⟩ = some (.slice (some ⟨b, off, none⟩) zs.length cap)) (hc : ∀ j, j < zs.length -> w.cell? ⟨b, off + j, none⟩ = some (.int .i64 (zs[j]?.getD 0))) :
  AS F n Tryz.prog 149 #[.pointer (some ⟨Bs, 0, none⟩)] encZ (fun ss => ss = zs) zs.length w := by
 intro l J W hW _ hB hY h0
 exact (A6 F n h7 hro hn l Bs b off zs.length cap (fun j => zs[j]?.getD 0) hreach w hb J hB hY W ((hW.cell (p := ⟨Bs, 0, none⟩) hBs).trans hcB) hc h0).mono fun e W' ⟨he, hj⟩ => ⟨he, _, D2 zs, hj⟩
set_option maxRecDepth 100000 in
set_option maxHeartbeats 1000000 in
theorem DZ (F : Fence) (n : Nat) (h7 : F.fn 149) (hro : F.round = none) (Bs : Nat) (a : Option Addr) (cap : Nat) (w : World) (hBs : Bs < w.heap.size)
  (hcB : w.cell? ⟨Bs, 0, none⟩ = some (.slice a 0 cap)) :
  AS F n Tryz.prog 149 #[.pointer (some ⟨Bs, 0, none⟩)] encZ (fun ss : List Int => ss = []) 0 w := by
 intro l J W hW _ hB _ h0
 have hBs' : W.cell? ⟨Bs, 0, none⟩ = some (.slice a 0 cap) := (hW.cell (p := ⟨Bs, 0, none⟩) hBs).trans hcB
 show CallsIn F n Tryz.prog 149 #[.func (.yield l) #[] #[], .pointer (some ⟨Bs, 0, none⟩)] W _
 refine callsIn_of_wp Tryz.func149 rfl h7 ?_ hro;simp only [Tryz.ntmps149, List.size_toArray, List.length_cons, List.length_nil, Nat.reduceAdd, Nat.reduceSub, Array.replicate_succ, Array.replicate_zero, List.push_toArray, List.append_toArray, List.nil_append, List.cons_append]
 gi_wp2
 gi_loopw [7] (fun i wr => i = .int .i64 0 /\ J [] wr) (fun _ _ => 0)
 case atStart => exact ⟨rfl, h0⟩
 case round =>
  obtain ⟨rfl, hJs⟩ := hrel
  gi_wp2
  go_end0
  exact ⟨⟨_, rfl⟩, _, rfl, hJs⟩
set_option maxHeartbeats 1000000 in
theorem D0 (F : Fence) (n : Nat) (h5 : F.fn 117) (hro : F.round = none) (a : Option Addr) (len cap : Nat) (w : World) :
  CallsIn F n Tryz.prog 117 #[.slice a len cap] w fun e w' => e = .returned (.func (.func 149) #[] #[.pointer (some ⟨w.heap.size, 0, none⟩)]) /\ w' = w.alloc (.cells #[.slice a len cap] 67) := by
 refine callsIn_of_wp Tryz.func117 rfl h5 ?_ hro;simp only [Tryz.ntmps117, List.size_toArray, List.length_cons, List.length_nil, Nat.reduceAdd, Nat.reduceSub, Array.replicate_succ, Array.replicate_zero, List.push_toArray, List.append_toArray, List.nil_append, List.cons_append]
 gi_wp2
 go_ret
 exact ⟨rfl, rfl⟩
def xp (l : List Int) (n : Int) : Prop := (∀ i, i < l.length -> (gq l)[i]?.getD 0 = (i : Int)) /\ (l.length : Int) = n
instance (l : List Int) (n : Int) : Decidable (xp l n) := by unfold xp; infer_instance
set_option maxRecDepth 100000 in
set_option maxHeartbeats 2000000 in
theorem IG (l : List Int) (hl : l.length <= 1048576) (n : Int) (hn : I64 n) (w : World) (a : Option Addr) (ln cap : Nat) (hln : ln = l.length) (hsv : l = [] \/ ∃ b off, a = some ⟨b, off, none⟩ /\ b < w.heap.size /\ ∀ j, j < l.length -> w.cell? ⟨b, off + j, none⟩ = some (.int .i64 (l[j]?.getD 0))) :
  Calls Tryz.prog 77 #[.slice a ln cap, .int .i64 n] w fun e w' => e = .returned (.bool (decide (xp l n))) /\ Below w.heap.size w w' := by
 subst hln
 refine (callsIn_wide (n := 6)).1 ?_
 obtain ⟨w1, hw1⟩ : ∃ w1, w.alloc (.cells #[.slice a l.length cap] 67) = w1 := ⟨_, rfl⟩
 have hs1 : w1.heap.size = w.heap.size + 1 := by rw [<- hw1]; simp
 have hb1 : Below w.heap.size w w1 := by rw [<- hw1]; exact (Below.refl _ w).alloc (Nat.le_refl _) _
 have hcB : w1.cell? ⟨w.heap.size, 0, none⟩ = some (.slice a l.length cap) := by rw [<- hw1]; exact cell_one_new _ _ _ 0 _ rfl
 have hseq : AS Fence.wide 2 Tryz.prog 149 #[.pointer (some ⟨w.heap.size, 0, none⟩)] encZ (fun ss => ss = l) l.length w1 := by
  rcases hsv with rfl | ⟨b, off, rfl, hb, hc⟩
  ·skip
   exact DZ Fence.wide 2 trivial rfl w.heap.size a cap w1 (by omega) hcB
  ·skip
   exact D1 Fence.wide 2 trivial rfl (by omega) w.heap.size b off cap l (by omega) w1 (by omega) (by omega) hcB fun j hj => (hb1.cell (p := ⟨b, off + j, none⟩) hb).trans (hc j hj)
 rw [<- hw1] at hseq;clear hw1 hs1 hb1 hcB w1
 have cK : ∀ a len cap W, CallsIn Fence.wide 5 Tryz.prog 117 #[.slice a len cap] W fun e w' => e = .returned (.func (.func 149) #[] #[.pointer (some ⟨W.heap.size, 0, none⟩)]) /\ w' = W.alloc (.cells #[.slice a len cap] 67) := fun a len cap W => D0 Fence.wide 5 trivial rfl a len cap W
 have hmx : maxLen = 9223372036854775807 := by decide
 have cS := En sh_srtA Fence.wide 5 trivial trivial trivial trivial rfl (by omega) (GU _) (enters_of Tryz.func148 (by kernel_rfl) rfl) 149 #[.pointer (some ⟨w.heap.size, 0, none⟩)] trivial (enters_of Tryz.func149 (by kernel_rfl) rfl) (fun ss => ss = l) l.length (fun ss h => by rw [h]; exact Nat.le_refl _) (by omega) (by omega) _ hseq
 change CallsIn _ _ Tryz.prog 116 _ _ _ at cS
 have hfK : Fence.wide.fn 117 := trivial
 have hfS : Fence.wide.fn 116 := trivial
 refine callsIn_of_wp Tryz.func77 rfl trivial ?_ rfl;simp only [Tryz.ntmps77, List.size_toArray, List.length_cons, List.length_nil, Nat.reduceAdd, Nat.reduceSub, Array.replicate_succ, Array.replicate_zero, List.push_toArray, List.append_toArray, List.nil_append, List.cons_append]
 gi_wp2_with (first
  | (gi_at_call 117; refine (cK _ _ _ _).mono ?_; rintro e w' ⟨rfl, rfl⟩)
  | (gi_at_call 116; refine cS.mono ?_; rintro e w2 ⟨v, ss, rfl, hS, hrow, hnil, hb2⟩))
 obtain rfl : ss = l := hS
 have hB : RowKit.Below w.heap.size w w2 := ((Below.refl _ w).alloc (Nat.le_refl _) _).trans (hb2.mono (by simp))
 have hlS := mY ss
 rcases hrow.2 with ⟨rfl, hz⟩ | ⟨gb, hcap, cur, rfl, hbase, hgb, r1, r2, r3, r4⟩
 ·have hss : ss = [] := List.eq_nil_of_length_eq_zero hz
  subst hss
  gi_wp2
  gi_loopw [13] (fun i wr => i = .int .i64 0 /\ wr = w2) (fun _ _ => 0)
  case atStart => exact ⟨rfl, rfl⟩
  case round =>
   obtain ⟨rfl, rfl⟩ := hrel
   gi_wp2
   go_ret
   refine ⟨?_, hB⟩
   show Ending.returned (Value.bool ((0 : Int) == n)) = _
   congr 2
   rw [Bool.eq_iff_iff, beq_iff_eq, decide_eq_true_eq];exact ⟨fun h => ⟨fun i hi => absurd hi (Nat.not_lt_zero i), h⟩, fun h => h.2⟩
 ·have hc0 : ∀ j, j < ss.length -> w2.cell? ⟨gb, j, none⟩ = some (.int .i64 ((gq ss)[j]?.getD 0)) := fun j hj => by
   have h1 : w2.cell? ⟨gb, j, none⟩ = cur[j]? := by simp [World.cell?, hgb]
   have h2 := congrArg (fun l => l[j]?) r4
   simp only [List.getElem?_take, List.getElem?_map] at h2;rw [if_pos (by omega)] at h2
   have h3 : j < (gq ss).length := by omega
   rw [h1, <- Array.getElem?_toList, h2]
   show Option.map encZ (gq ss)[j]? = _
   rw [List.getElem?_eq_getElem h3]; rfl
  have hreach : ss.length * 8 <= 140737488351232 := by omega
  obtain ⟨f, hf⟩ : ∃ f : Nat -> Int, f = fun j => (gq ss)[j]?.getD 0 := ⟨_, rfl⟩
  have hP : PLift (xp ss n ↔ (∀ i, i < ss.length -> f i = (i : Int)) /\ (ss.length : Int) = n) := ⟨by rw [hf]; exact Iff.rfl⟩
  have hcell : ∀ j, j < ss.length -> w2.cell? ⟨gb, j, none⟩ = some (.int .i64 (f j)) := fun j hj => by rw [hf]; exact hc0 j hj
  clear hf hc0 r4 hlS hrow hnil hseq hsv cS hb2;rw [run_len_slice _ 67 3 _ _ _ (by kernel_rfl)]
  gi_wp2
  gi_loopw [13] (fun i wr => ∃ k : Nat, k <= ss.length /\ i = .int .i64 k /\ wr = w2 /\ ∀ j, j < k -> f j = (j : Int)) (fun i _ => ss.length - (intOf i).toNat)
  case atStart => exact ⟨0, Nat.zero_le _, rfl, rfl, fun j h => absurd h (Nat.not_lt_zero j)⟩
  case round =>
   obtain ⟨k, hk, rfl, rfl, hI⟩ := hrel
   by_cases hlt : k < ss.length
   ·have hc := hcell k hlt
    by_cases hv : f k = (k : Int)
    ·gi_wp2
     go_roundw
     case rel =>
      refine ⟨k + 1, by omega, by simp, trivial, fun j hj => ?_⟩
      by_cases e : j = k
      ·rw [e]; exact hv
      ·exact hI j (by omega)
     case measure => simp [intOf]; omega
    ·gi_wp2
     go_ret
     refine ⟨?_, hB⟩
     have e : ¬ xp ss n := fun h => hv ((hP.down.1 h).1 k hlt)
     rw [decide_eq_false e]
     rfl
   ·obtain hkl : k = ss.length := by omega
    gi_wp2
    go_ret
    refine ⟨?_, hB⟩
    have e : xp ss n ↔ (ss.length : Int) = n := ⟨fun h => (hP.down.1 h).2, fun h => hP.down.2 ⟨fun i hi => hI i (by omega), h⟩⟩
    show Ending.returned (Value.bool ((ss.length : Int) == n)) = _
    congr 2
    rw [Bool.eq_iff_iff, beq_iff_eq, decide_eq_true_eq, e]
end Go.Proofs.YtceacleokgoooaaGreatDoor

/- solve: permutation, Factor, Definite. No condition. -/
namespace Go.Proofs.YtceacleokgoooaaGreatDoor
attribute [local irreducible] aA
open Go.RowKit

theorem El {n : Nat} {l : List Int} : decide (xp l (n : Int)) = l8 n l := by
 rw [l8, Bool.eq_iff_iff, decide_eq_true_eq, decide_eq_true_eq]
 have hl := mY l
 constructor
 ·rintro ⟨h1, h2⟩
  have hn : l.length = n := by omega
  obtain ⟨nd, rg⟩ := Bo hn fun i hi => by
   have := h1 i (by omega)
   rwa [List.getElem?_eq_getElem hi, Option.getD_some] at this
  exact ⟨hn, fun i hi => ⟨(rg _ (List.getElem_mem hi)).1, (rg _ (List.getElem_mem hi)).2, j6.1 nd i hi⟩⟩
 ·rintro ⟨hn, h⟩
  have nd : l.Nodup := j6.2 fun i hi => (h i hi).2.2
  have rg : ∀ x ∈ l, 0 <= x /\ x < n := fun x hx => by
   obtain ⟨i, hi, rfl⟩ := List.getElem_of_mem hx
   exact ⟨(h i hi).1, (h i hi).2.1⟩
  exact ⟨fun i hi => by rw [List.getElem?_eq_getElem (show i < (gq l).length by omega), Option.getD_some]; exact GT hn nd rg i (by omega), by omega⟩
theorem Ex (l : List Int) (n : Nat) (hl : l.length <= 1048576) (hn : n <= 1048576) : Con Tryz.prog 77 [V1 (dIs l), dI n] { v := dB (l8 n l) } := by
 refine ⟨⟨Tryz.f77, Tryz.func77, by kernel_rfl, rfl⟩, fun w X μ vs _ hX hlv ha => ?_⟩
 obtain ⟨v0, e0, r0⟩ := ha 0 _ rfl
 obtain ⟨v1, e1, r1⟩ := ha 1 _ rfl
 obtain ⟨u0, u1, rfl⟩ : ∃ u0 u1, vs = [u0, u1] := by
  match vs, hlv with
  | [u0, u1], _ => exact ⟨u0, u1, rfl⟩
 have r0 : RdC w X u0 (dIs l) := by cases e0; exact r0
 have r1 : RdC w X u1 (lI n) := by cases e1; exact r1
 obtain rfl : u1 = .int .i64 n := by cases r1; rfl
 have key : ∃ a ln cap, u0 = .slice a ln cap /\ ln = l.length /\ (l = [] \/ ∃ b off, a = some ⟨b, off, none⟩ /\ b < w.heap.size /\ ∀ j, j < l.length -> w.cell? ⟨b, off + j, none⟩ = some (.int .i64 (l[j]?.getD 0))) := by
  obtain ⟨es, hes⟩ : ∃ es, es = l.map cI := ⟨_, rfl⟩
  unfold dIs at r0
  rw [<- hes] at r0
  cases r0 with
  | nil =>
   have : l = [] := by
    rcases l with _ | ⟨x, l⟩
    ·rfl
    ·simp at hes
   subst this
   exact ⟨_, 0, _, rfl, rfl, Or.inl rfl⟩
  | sl gs hh hxx hlen hcap hs hv hr =>
   rename_i b off len cap sz cs E fr
   have hl2 : es.length = l.length := by rw [hes, List.length_map]
   refine ⟨_, _, _, rfl, by omega, Or.inr ⟨b, off, rfl, bt hh, fun j hj => ?_⟩⟩
   have ej : es[j]? = some (cI l[j]) := by rw [hes, List.getElem?_map, List.getElem?_eq_getElem hj]; rfl
   have hsz : 1 = sz := hs j _ ej
   subst hsz
   have hr0 := hr j 0 (lI l[j]) (by unfold at2; rw [ej]; rfl)
   have hv0 := hv j 0 (lI l[j]) (by unfold at2; rw [ej]; rfl)
   have : gs j 0 = .int .i64 l[j] := by
    generalize gs j 0 = g at hr0
    cases hr0; rfl
   rw [this] at hv0;rw [oO hh, List.getElem?_eq_getElem hj, Option.getD_some, <- hv0]
   congr 1
   omega
 obtain ⟨a, ln, cap, rfl, hln, hk⟩ := key
 have := IG l hl n ⟨by omega, by omega⟩ w a ln cap hln hk
 rw [El] at this;exact this.mono fun e w' ⟨he, hb⟩ => ⟨_, he, hb, 0, fun _ _ h => (by cases h), RdC.lit rfl⟩
def ordFn (l : List Int) (i : Nat) : Nat := (l.getD i 0).toNat
theorem EQ {n : Nat} {l : List Int} (h : l8 n l = true) : l = nmI n (ordFn l) /\ (∀ i, i < n -> ordFn l i < n) /\ ∀ i j, i < n -> j < n -> ordFn l i = ordFn l j -> i = j := by
 obtain ⟨hn, hp⟩ := of_decide_eq_true h
 have at_ : ∀ i (hi : i < l.length), ((ordFn l i : Nat) : Int) = l[i] := fun i hi => by
  have := (hp i hi).1
  unfold ordFn
  rw [List.getD_eq_getElem?_getD, List.getElem?_eq_getElem hi, Option.getD_some]; omega
 refine ⟨?_, fun i hi => ?_, fun i j hi hj e => ?_⟩
 ·refine List.ext_getElem (by simp [nmI, hn]) fun i h1 h2 => ?_;simp only [nmI, List.getElem_map, List.getElem_range];exact (at_ i h1).symm
 ·have h1 := at_ i (by omega)
  have h2 := (hp i (by omega)).2.1
  omega
 ·have nd : l.Nodup := j6.2 fun i hi => (hp i hi).2.2
  rcases Nat.lt_or_ge i j with hij | hij
  ·exact absurd (by rw [<- at_ i (by omega), <- at_ j (by omega), e]) (List.pairwise_iff_getElem.1 nd i j (by omega) (by omega) hij)
  ·rcases Nat.lt_or_ge j i with hji | hji
   ·exact absurd (by rw [<- at_ i (by omega), <- at_ j (by omega), e]) (List.pairwise_iff_getElem.1 nd j i (by omega) (by omega) hji)
   ·omega
def rq (m : List (List RW)) (l : List Int) : List (List RW) × List RW × Int := if cp m = true then (if l8 m.length l = true then AB (iG (mtv m) (ordFn l)) m.length else ([], [], 2)) else ([], [], 1)
def Jg (m : List (List RW)) (l : List Int) : Prop := cp m = true -> l8 m.length l = true -> yc (iG (mtv m) (ordFn l)) m.length
set_option maxHeartbeats 1000000 in
theorem xx (m : List (List RW)) (l : List Int) (hl : m.length <= 9223372036854775806) (hr : ∀ r ∈ m, r.length <= 9223372036854775806) (ok : okM 65536 m) (hll : l.length <= 1048576) (hS : Jg m l) :
  Con Tryz.prog 34 [V1 (dMs m), V1 (dIs l)] { v := .tup [.one (.d (dMs (rq m l).1)), .one (.d (dRs (rq m l).2.1)), .one (.d (lI (rq m l).2.2))] } := by
 have cV := nf m hl hr ok
 refine Z3 Tryz.func34 ?_
 intro w0 X
 rw [ap _ _ [(0, V1 (dMs m)), (1, V1 (dIs l))] rfl rfl];refine gQ fun _ O=>?_;refine Z8 ?_;refine Z8 ?_;refine Z8 ?_;refine eQ O ?_;clear O;refine ab ?_;refine ae ?_;refine gQ fun _ O=>?_;refine Z9 ?_;refine ac rfl rfl (cV) rfl rfl rfl rfl ?_;refine dJ rfl rfl rfl ?_;refine Z8 ?_;refine eQ O ?_;clear O;refine aj rfl (fun hc => ?_) (fun hc => ?_)
 ·have e : rq m l = ([], [], 1) := by rw [rq, if_neg]; intro h; rw [h] at hc; cases hc
  rw [e];refine gQ fun _ O=>?_;refine Z8 ?_;refine Z8 ?_;refine Z8 ?_;refine eQ O ?_;clear O;exact al aP
 have hc : cp m = true := by simpa using hc
 rw [rq, if_pos hc]
 have hV := of_decide_eq_true hc
 obtain ⟨n16, hrl, _⟩ := hV
 have cP := Ex l m.length hll (by omega)
 refine gQ fun _ O=>?_;refine Z9 ?_;refine Z9 ?_;refine az rfl (bZ cM rfl rfl) rfl ?_;refine ac rfl rfl (cP) rfl rfl rfl rfl ?_;refine dJ rfl rfl rfl ?_;refine Z8 ?_;refine eQ O ?_;clear O;refine aj rfl (fun ho => ?_) (fun ho => ?_)
 ·have ho : ¬ l8 m.length l = true := by simpa using ho
  rw [if_neg ho];refine gQ fun _ O=>?_;refine Z8 ?_;refine Z8 ?_;refine Z8 ?_;refine eQ O ?_;clear O;exact al aP
 have ho : l8 m.length l = true := by simpa using ho
 rw [if_pos ho]
 obtain ⟨el, hlt, _⟩ := EQ ho
 have cF := sA m.length (mtv m) (ordFn l) n16 hlt (fun i j hi hj => by have := ok; rw [Bp hc] at this; exact lJ this hi hj) (hS hc ho)
 rw [<- Bp hc, y6, <- el] at cF;refine ag ?_;show AWP _ _ _ _ _ _;refine gQ fun _ O=>?_;refine Z9 ?_;refine Z9 ?_;refine ac rfl rfl (cF) rfl rfl rfl rfl ?_;refine Z9 ?_;refine aq rfl rfl rfl ?_;refine aq rfl rfl rfl ?_;refine aq rfl rfl rfl ?_;refine Z8 ?_;refine Z8 ?_;refine Z8 ?_;refine eQ O ?_;clear O
 cases hp : l6 (iG (mtv m) (ordFn l)) m.length with
 | false =>
  have e : mB (iG (mtv m) (ordFn l)) m.length = ([], [], false) := by rw [mB, hp]; rfl
  have e2 : AB (iG (mtv m) (ordFn l)) m.length = ([], [], 10) := by rw [AB, hp]; rfl
  rw [e, e2];refine ab ?_;refine gQ fun _ O=>?_;refine Z9 ?_;refine dJ rfl rfl rfl ?_;refine eQ O ?_;clear O;refine aj rfl (fun _ => ?_) (fun h => by cases h);refine gQ fun _ O=>?_;refine Z8 ?_;refine Z8 ?_;refine Z8 ?_;refine eQ O ?_;clear O;exact al aP
 | true =>
  have e : mB (iG (mtv m) (ordFn l)) m.length = (kj (iG (mtv m) (ordFn l)) m.length, kY (iG (mtv m) (ordFn l)) m.length, true) := by rw [mB, hp]; rfl
  have e2 : AB (iG (mtv m) (ordFn l)) m.length = (kj (iG (mtv m) (ordFn l)) m.length, kY (iG (mtv m) (ordFn l)) m.length, 0) := by rw [AB, hp]; rfl
  rw [e, e2];refine ab ?_;refine gQ fun _ O=>?_;refine Z9 ?_;refine dJ rfl rfl rfl ?_;refine eQ O ?_;clear O;refine aj rfl (fun h => by cases h) (fun _ => ?_);refine ag ?_;show AWP _ _ _ _ _ _;refine gQ fun _ O=>?_;refine Z9 ?_;refine Z9 ?_;refine Z8 ?_;refine Z8 ?_;refine Z8 ?_;refine eQ O ?_;clear O;exact al aP
end Go.Proofs.YtceacleokgoooaaGreatDoor

/- law27: short, few, same, awake. No condition. -/
namespace Go.Proofs.YtceacleokgoooaaGreatDoor
attribute [local irreducible] aA

/-! ### awake -/
end Go.Proofs.YtceacleokgoooaaGreatDoor

/- ref27: Times, Form. No condition. -/
namespace Go.Proofs.YtceacleokgoooaaGreatDoor
attribute [local irreducible] aA

end Go.Proofs.YtceacleokgoooaaGreatDoor

/- law27: Solves. No condition. -/
namespace Go.Proofs.YtceacleokgoooaaGreatDoor
attribute [local irreducible] aA

end Go.Proofs.YtceacleokgoooaaGreatDoor

/- ref27: Factor in any order, Definite; law27: Factors. No condition. -/
namespace Go.Proofs.YtceacleokgoooaaGreatDoor
attribute [local irreducible] aA

end Go.Proofs.YtceacleokgoooaaGreatDoor

/- ref27: Minor. No condition. -/
namespace Go.Proofs.YtceacleokgoooaaGreatDoor
attribute [local irreducible] aA

end Go.Proofs.YtceacleokgoooaaGreatDoor

/- ref27: Det. No condition. -/
namespace Go.Proofs.YtceacleokgoooaaGreatDoor
attribute [local irreducible] aA

end Go.Proofs.YtceacleokgoooaaGreatDoor

/- law27: Minors. No condition. -/
namespace Go.Proofs.YtceacleokgoooaaGreatDoor
attribute [local irreducible] aA

end Go.Proofs.YtceacleokgoooaaGreatDoor

/- Products of rows: positive forms; a form that is never negative is positive where the determinant is not 0. No condition. -/
namespace Go.Proofs.YtceacleokgoooaaGreatDoor

section
variable {n m : Nat} {B : Nat -> Nat -> Rat}
def gmM (m : Nat) (R : Nat -> Nat -> Rat) (u : Rat) (i j : Nat) : Rat := sm m (fun k => R i k * R j k) + if i = j then u else 0
theorem CZ (m : Nat) (R : Nat -> Nat -> Rat) (u : Rat) (i j : Nat) : gmM m R u i j = gmM m R u j i := by
 unfold gmM
 rw [ar (g := fun k => R j k * R i k) (fun k _ => Rat.mul_comm _ _)]
 by_cases h : i = j
 ·rw [if_pos h, if_pos h.symm]
 ·rw [if_neg h, if_neg (fun e => h e.symm)]
theorem Gn (R : Nat -> Nat -> Rat) (u : Rat) (x : Nat -> Rat) : fm n (gmM m R u) x = sm m (fun k => sm n (fun i => R i k * x i) * sm n (fun i => R i k * x i)) + u * sm n (fun i => x i * x i) := by
 have e1 : ∀ i, i < n -> sm n (fun j => gmM m R u i j * x j) = sm m (fun k => R i k * sm n (fun j => R j k * x j)) + u * x i := fun i hi => by
  rw [ar (g := fun j => sm m (fun k => R i k * R j k * x j) + (if i = j then u else 0) * x j) (fun j _ => by rw [gmM, Rat.add_mul, jw])];rw [gY, dD (j := i) (fun j => (if i = j then u else 0) * x j) hi (fun j _ hne => by rw [if_neg (fun e => hne e.symm)]; grind), if_pos rfl, jU]
  congr 1
  exact ar fun k _ => by
   rw [<- ez]
   exact ar fun j _ => by grind
 unfold fm
 rw [ar (g := fun i => sm m (fun k => (R i k * x i) * sm n (fun j => R j k * x j)) + u * (x i * x i)) (fun i hi => by
  rw [e1 i hi, Rat.mul_add, <- ez]
  congr 1
  ·exact ar fun k _ => by grind
  ·grind)]
 rw [gY, ez, jU]
 congr 1
 exact ar fun k _ => jw _ _ _
theorem Je (R : Nat -> Nat -> Rat) {u : Rat} (hu : 0 <= u) (x : Nat -> Rat) : 0 <= fm n (gmM m R u) x := by
 rw [Gn]
 have h1 : 0 <= sm m (fun k => sm n (fun i => R i k * x i) * sm n (fun i => R i k * x i)) := yK fun k _ => iB _
 have h2 : 0 <= u * sm n (fun i => x i * x i) := Rat.mul_nonneg hu (yK fun i _ => iB _)
 grind
theorem Jd (R : Nat -> Nat -> Rat) {u : Rat} (hu : 0 < u) {x : Nat -> Rat} (hx : ∃ i, i < n /\ x i ≠ 0) : 0 < fm n (gmM m R u) x := by
 obtain ⟨i, hi, hx⟩ := hx
 rw [Gn]
 have h1 : 0 <= sm m (fun k => sm n (fun i => R i k * x i) * sm n (fun i => R i k * x i)) := yK fun k _ => iB _
 have h3 : 0 < x i * x i := by
  have := iB (x i)
  have h6 : x i * x i ≠ 0 := fun y => by
   rcases Rat.mul_eq_zero.1 y with y | y <;> exact hx y
  grind
 have h2 : 0 < u * sm n (fun i => x i * x i) := Rat.mul_pos hu (Br (fun i _ => iB _) hi h3)
 grind
end
end Go.Proofs.YtceacleokgoooaaGreatDoor

/- law27: brief, Gram. No condition. -/
namespace Go.Proofs.YtceacleokgoooaaGreatDoor
attribute [local irreducible] aA

/-! ### brief -/
def Ie (m : List (List Int)) : Bool := decide (m.length <= 5 /\ ∀ r ∈ m, r.length <= 8)
/-! ### Gram -/

def dotI (r s : List Int) : Nat -> Int
 | 0 => 0
 | k + 1 => dotI r s k + r.getD k 0 * s.getD k 0
theorem JC {x y : Int} (hx : I8 x) (hy : I8 y) : -16384 <= x * y /\ x * y <= 16384 := by
 obtain ⟨a, b⟩ := hx
 obtain ⟨c, d⟩ := hy
 have h1 : (x * y).natAbs <= 128 * 128 := by rw [Int.natAbs_mul]; exact Nat.mul_le_mul (by omega) (by omega)
 omega
theorem zj {r : List Int} (h : ∀ x ∈ r, I8 x) (k : Nat) : I8 (r.getD k 0) := by
 rcases Nat.lt_or_ge k r.length with hk | hk
 ·rw [List.getD_eq_getElem?_getD, List.getElem?_eq_getElem hk, Option.getD_some]; exact h _ (List.getElem_mem hk)
 ·rw [List.getD_eq_getElem?_getD, List.getElem?_eq_none hk, Option.getD_none]; exact ⟨by omega, by omega⟩
theorem zD {r s : List Int} (hr : ∀ x ∈ r, I8 x) (hs : ∀ x ∈ s, I8 x) : ∀ k : Nat, -16384 * (k : Int) <= dotI r s k /\ dotI r s k <= 16384 * (k : Int)
 | 0 => ⟨by simp [dotI], by simp [dotI]⟩
 | k + 1 => by
  have h1 := zD hr hs k
  have h2 := JC (zj hr k) (zj hs k)
  simp only [dotI]
  omega
def gmE (rows : List (List Int)) (p : Bool) (i j : Nat) : Int := dotI (rows.getD i []) (rows.getD j []) (min (rows.getD i []).length (rows.getD j []).length) + if (decide (i = j) && p) = true then 1 else 0
def gmW (rows : List (List Int)) (p : Bool) : List (List RW) := ba rows.length rows.length fun i j => qzW (gmE rows p i j : Int)
end Go.Proofs.YtceacleokgoooaaGreatDoor

/- law27: products of rows as matrices; Satisfies. No condition. -/
namespace Go.Proofs.YtceacleokgoooaaGreatDoor
attribute [local irreducible] aA

theorem wU {n : Nat} {B B' : Nat -> Nat -> Rat} {x : Nat -> Rat} (h : ∀ i j, i < n -> j < n -> B i j = B' i j) : fm n B x = fm n B' x :=
 ar fun i hi => by rw [ar fun j hj => by rw [h i j hi hj]]
def IsG (n : Nat) (B : Nat -> Nat -> Rat) (R : Nat -> Nat -> Rat) (u : Rat) : Prop := ∀ i j, i < n -> j < n -> B i j = gmM 8 R u i j
theorem IsG.sym {n : Nat} {B R : Nat -> Nat -> Rat} {u : Rat} (h : IsG n B R u) : ∀ i j, i < n -> j < n -> B i j = B j i := fun i j hi hj => by rw [h i j hi hj, h j i hj hi]; exact CZ 8 R u i j
theorem IsG.nn {n : Nat} {B R : Nat -> Nat -> Rat} {u : Rat} (h : IsG n B R u) (hu : 0 <= u) (x : Nat -> Rat) : 0 <= fm n B x := by rw [wU h]; exact Je R hu x
theorem IsG.pd {n : Nat} {B R : Nat -> Nat -> Rat} {u : Rat} (h : IsG n B R u) (hu : 0 < u) {x : Nat -> Rat} (hx : ∃ i, i < n /\ x i ≠ 0) : 0 < fm n B x := by rw [wU h]; exact Jd R hu hx
theorem IsG.DD {n : Nat} {B R : Nat -> Nat -> Rat} {u : Rat} (h : IsG n B R u) (hu : 0 < u) : ∀ k, k < n -> 0 < DD B k := uj h.sym fun _ hx => h.pd hu hx
theorem IsG.pos {n : Nat} {B R : Nat -> Nat -> Rat} {u : Rat} (h : IsG n B R u) (hu : 0 < u) : l6 B n = true := decide_eq_true (h.DD hu)
def rwR (rows : List (List Int)) (i k : Nat) : Rat := ((rows.getD i []).getD k 0 : Int)
theorem zC (r s : List Int) : ∀ k, ((dotI r s k : Int) : Rat) = sm k fun t => ((r.getD t 0 : Int) : Rat) * ((s.getD t 0 : Int) : Rat)
 | 0 => rfl
 | k + 1 => by rw [bE, <- zC r s k]; simp only [dotI]; rw [Rat.intCast_add, Rat.intCast_mul]
theorem FK (r s : List Int) {k : Nat} (hk : min r.length s.length <= k) : dotI r s k = dotI r s (min r.length s.length) := by
 induction k with
 | zero => rw [show min r.length s.length = 0 by omega]
 | succ k ih =>
  by_cases e : min r.length s.length = k + 1
  ·rw [e]
  ·rw [<- ih (by omega)];simp only [dotI]
   rcases Nat.lt_or_ge k r.length with h | h
   ·have hs : s.length <= k := by omega
    rw [List.getD_eq_getElem?_getD (l := s), List.getElem?_eq_none hs, Option.getD_none]; omega
   ·rw [List.getD_eq_getElem?_getD (l := r), List.getElem?_eq_none h, Option.getD_none]; omega
theorem Jf {rows : List (List Int)} (hr : ∀ r ∈ rows, r.length <= 8) (p : Bool) (i j : Nat) : ((gmE rows p i j : Int) : Rat) = sm 8 (fun k => rwR rows i k * rwR rows j k) + if (decide (i = j) && p) = true then 1 else 0 := by
 have h8 : ∀ i, (rows.getD i []).length <= 8 := fun i => by
  rcases Nat.lt_or_ge i rows.length with h | h
  ·rw [List.getD_eq_getElem?_getD, List.getElem?_eq_getElem h, Option.getD_some]; exact hr _ (List.getElem_mem h)
  ·rw [List.getD_eq_getElem?_getD, List.getElem?_eq_none h]; exact Nat.zero_le _
 have := h8 i
 rw [gmE, Rat.intCast_add, <- FK (k := 8) _ _ (by omega), zC]
 congr 1
 split <;> rfl
section
variable {rows : List (List Int)} {p : Bool}
theorem uJ : (gmW rows p).length = rows.length := i6 _ _ _
theorem Jb {i j : Nat} (hi : i < rows.length) (hj : j < rows.length) : bc (gmW rows p) i j = ((gmE rows p i j : Int) : Rat) := by
 unfold bc gmW; rw [kd hi hj, bg]
theorem Jc (hr : ∀ r ∈ rows, r.length <= 8) : IsG rows.length (bc (gmW rows p)) (rwR rows) (if p = true then 1 else 0) := fun i j hi hj => by
 rw [Jb hi hj, Jf hr, gmM]
 congr 1
 cases p <;> by_cases h : i = j <;> simp [h]
theorem JD (hl : rows.length <= 5) (hr : ∀ r ∈ rows, r.length <= 8) : cp (gmW rows p) = true := by
 refine decide_eq_true ⟨by rw [uJ]; omega, fun r hr' => ?_, fun i hi j hj => ?_⟩
 ·obtain ⟨i, _, rfl⟩ := List.mem_map.1 hr'
  rw [uJ, dK]
 ·rw [uJ] at hi;exact (Jc hr).sym i j hi (by omega)
theorem HR (hr : ∀ r ∈ rows, r.length <= 8) (h8 : ∀ r ∈ rows, ∀ x ∈ r, I8 x) (i j : Nat) : -140000 <= gmE rows p i j /\ gmE rows p i j <= 140000 := by
 have g8 : ∀ i, (∀ x ∈ rows.getD i [], I8 x) /\ (rows.getD i []).length <= 8 := fun i => by
  rcases Nat.lt_or_ge i rows.length with h | h
  ·rw [List.getD_eq_getElem?_getD, List.getElem?_eq_getElem h, Option.getD_some]; exact ⟨h8 _ (List.getElem_mem h), hr _ (List.getElem_mem h)⟩
  ·rw [List.getD_eq_getElem?_getD, List.getElem?_eq_none h]; exact ⟨fun x hx => by simp at hx, Nat.zero_le _⟩
 have h1 := zD (g8 i).1 (g8 j).1 (min (rows.getD i []).length (rows.getD j []).length)
 have h2 := (g8 i).2
 unfold gmE
 split <;> omega
theorem Ja (hr : ∀ r ∈ rows, r.length <= 8) (h8 : ∀ r ∈ rows, ∀ x ∈ r, I8 x) : okM 2 (gmW rows p) := fun r hr' x hx => by
 obtain ⟨i, _, rfl⟩ := List.mem_map.1 hr'
 obtain ⟨j, _, rfl⟩ := List.mem_map.1 hx
 have := HR (p := p) hr h8 i j
 exact (aY (dN ⟨by omega, by omega⟩)).mono rfl
theorem Ft : ∀ r ∈ gmW rows p, r.length = rows.length := fun r hr => by
 obtain ⟨i, _, rfl⟩ := List.mem_map.1 hr
 exact dK _ _
end
structure GWF (rows : List (List Int)) (p : Bool) : Prop where
 n5 : rows.length <= 5
 len : (gmW rows p).length = rows.length
 rw : ∀ r ∈ gmW rows p, r.length = rows.length
 v : cp (gmW rows p) = true
 ok : okM 2 (gmW rows p)
 G : IsG rows.length (bc (gmW rows p)) (rwR rows) (if p = true then 1 else 0)
theorem GWF.of {rows : List (List Int)} (hb : Ie rows = true) (hw : ∀ r ∈ rows, L8 r) (p : Bool) : GWF rows p := by
 obtain ⟨h5, hr⟩ := of_decide_eq_true hb
 have h8 : ∀ r ∈ rows, ∀ x ∈ r, I8 x := fun r hr' => (hw r hr').1
 exact ⟨h5, uJ, Ft, JD h5 hr, Ja hr h8, Jc hr⟩
theorem GWF.fac {rows : List (List Int)} {p : Bool} (g : GWF rows p) : yc (bc (gmW rows p)) (gmW rows p).length := by
 rw [g.len];exact (mC (by have := g.n5; omega) g.G.sym (fun i j _ _ => yX g.ok rfl i j)).1
theorem GWF.sol {rows : List (List Int)} {p : Bool} {b : List RW} (g : GWF rows p) (hb : ∀ x ∈ b, x.OK 2) (hp : l6 (bc (gmW rows p)) (gmW rows p).length = true) : xr (bc (gmW rows p)) (gN b) (gmW rows p).length := by
 rw [g.len] at hp ⊢;exact xq (by have := g.n5; omega) g.G.sym (fun i j _ _ => yX g.ok rfl i j) (fun i _ => EG hb rfl i) hp
end Go.Proofs.YtceacleokgoooaaGreatDoor

/- law27: Sylvester. No condition. -/
namespace Go.Proofs.YtceacleokgoooaaGreatDoor
attribute [local irreducible] aA

theorem kr {T : Tab} {t : TypeId} {a b : Int} {c : Bool} (h : decide (a > b) = c) : aK T .gtr t (dI a) (dI b) = .set (dB c) := by subst h; rfl
end Go.Proofs.YtceacleokgoooaaGreatDoor

/- law27: Positive. No condition. -/
namespace Go.Proofs.YtceacleokgoooaaGreatDoor
attribute [local irreducible] aA

theorem lV {T : Tab} {t : TypeId} {a b : Int} {c : Bool} (h : decide (a < b) = c) : aK T .lss t (dI a) (dI b) = .set (dB c) := by subst h; rfl
theorem lW {T : Tab} {t : TypeId} {a b : Int} {c : Bool} (h : decide (a >= b) = c) : aK T .geq t (dI a) (dI b) = .set (dB c) := by subst h; rfl
theorem i9 {T : Tab} {t : TypeId} {a b : Int} {c : Bool} (h : (a == b) = c) : aK T .eql t (dI a) (dI b) = .set (dB c) := by subst h; rfl
theorem uR (x : Bool) : aK tab .neq 4 (dB x) (dB x) = .set (dB false) := by cases x <;> rfl
end Go.Proofs.YtceacleokgoooaaGreatDoor

/- law27: permute. No condition. -/
namespace Go.Proofs.YtceacleokgoooaaGreatDoor
attribute [local irreducible] aA

end Go.Proofs.YtceacleokgoooaaGreatDoor

/- law27: Product. No condition. -/
namespace Go.Proofs.YtceacleokgoooaaGreatDoor
attribute [local irreducible] aA

theorem HC {n : Nat} {e : Nat -> Nat} (h1 : ∀ i, i < n -> e i < n) (h2 : ∀ i j, i < n -> j < n -> e i = e j -> i = j) : l8 n (nmI n e) = true := by
 have hl : (nmI n e).length = n := by simp [nmI]
 have at_ : ∀ i (h : i < (nmI n e).length), (nmI n e)[i] = (e i : Int) := fun i h => by simp [nmI]
 refine decide_eq_true ⟨hl, fun i hi => ?_⟩
 have hin : i < n := by omega
 have h3 := h1 i hin
 refine ⟨by rw [at_]; omega, by rw [at_]; omega, ?_⟩;refine j6.1 ?_ i hi;refine List.pairwise_iff_getElem.2 fun a b ha hb hab e' => ?_;rw [at_, at_] at e'
 have := h2 a b (by omega) (by omega) (by omega)
 omega
theorem IM {n : Nat} {e : Nat -> Nat} {i : Nat} (hi : i < n) : ordFn (nmI n e) i = e i := by
 unfold ordFn nmI
 rw [List.getD_eq_getElem?_getD, List.getElem?_eq_getElem (by simp; exact hi)]
 simp
end Go.Proofs.YtceacleokgoooaaGreatDoor

/- law27: Renumbers. No condition. -/
namespace Go.Proofs.YtceacleokgoooaaGreatDoor
attribute [local irreducible] aA

end Go.Proofs.YtceacleokgoooaaGreatDoor

/- Words as sets of bits: the lowest bit, clearing it, differences. No condition. -/
namespace Go.Proofs.YtceacleokgoooaaGreatDoor

def bdif (x y : Nat) : Nat := x ^^^ (x &&& y)
theorem kw (x y k : Nat) : (bdif x y).testBit k = (x.testBit k && !y.testBit k) := by
 rw [bdif, Nat.testBit_xor, Nat.testBit_and]
 cases x.testBit k <;> cases y.testBit k <;> rfl
theorem jB {x n : Nat} (h : ∀ k, n <= k -> x.testBit k = false) : x < 2 ^ n := Nat.lt_pow_two_of_testBit x h
theorem iA {x n k : Nat} (h : x < 2 ^ n) (hk : n <= k) : x.testBit k = false := Nat.testBit_lt_two_pow (Nat.lt_of_lt_of_le h (Nat.pow_le_pow_right (by decide) hk))
theorem p9 {x n k : Nat} (h : x < 2 ^ n) (hk : x.testBit k = true) : k < n := by
 rcases Nat.lt_or_ge k n with h' | h'
 ·exact h'
 ·rw [iA h h'] at hk; cases hk
theorem ip {x y n : Nat} (h : x < 2 ^ n) : bdif x y < 2 ^ n := jB fun k hk => by rw [kw, iA h hk]; rfl
theorem kx {x y n : Nat} (h : x < 2 ^ n) : x &&& y < 2 ^ n := jB fun k hk => by rw [Nat.testBit_and, iA h hk]; rfl
theorem iN {x y n : Nat} (h : x < 2 ^ n) (h' : y < 2 ^ n) : x ||| y < 2 ^ n := jB fun k hk => by rw [Nat.testBit_or, iA h hk, iA h' hk]; rfl
theorem kL (a k : Nat) : (2 ^ a).testBit k = decide (a = k) := Nat.testBit_two_pow
theorem io {a n : Nat} (h : a < n) : 2 ^ a < 2 ^ n := Nat.pow_lt_pow_right (by decide) h
theorem Ec {x : Nat} (h : ∀ k, x.testBit k = false) : x = 0 := Nat.eq_of_testBit_eq fun k => by rw [h k, Nat.zero_testBit]
def clr (x : Nat) : Nat := x &&& (x - 1)
theorem iM {n x : Nat} (h0 : x ≠ 0) (h : x < 2 ^ n) : Go.Lib.ctz n x < n /\ x.testBit (Go.Lib.ctz n x) = true /\ (∀ k, k < Go.Lib.ctz n x -> x.testBit k = false) /\ ∀ k, (clr x).testBit k = (x.testBit k && decide (k ≠ Go.Lib.ctz n x)) := by
 obtain ⟨m, hm, hc⟩ := Go.Lib.ctzFrom_spec n x (by omega) h
 have e : Go.Lib.ctz n x = Go.Lib.ctzFrom n x := by rw [Go.Lib.ctz, if_neg h0]
 rw [e];generalize Go.Lib.ctzFrom n x = c at hm hc
 have tx : ∀ k, x.testBit k = if k < c then false else (2 * m + 1).testBit (k - c) := fun k => by
  have := Nat.testBit_two_pow_mul_add (2 * m + 1) (i := c) (b := 0) (Nat.pow_pos (by decide)) k
  rw [Nat.add_zero, <- hm] at this;rw [this]
  by_cases hk : k < c
  ·rw [if_pos hk, if_pos hk, Nat.zero_testBit]
  ·rw [if_neg hk, if_neg hk]
 have ty : ∀ k, (x - 1).testBit k = if k < c then (2 ^ c - 1).testBit k else (2 * m).testBit (k - c) := fun k => by
  have hp : 0 < 2 ^ c := Nat.pow_pos (by decide)
  have e1 : x - 1 = 2 ^ c * (2 * m) + (2 ^ c - 1) := by rw [hm, Nat.mul_add]; omega
  have := Nat.testBit_two_pow_mul_add (2 * m) (i := c) (b := 2 ^ c - 1) (by omega) k
  rw [e1, this]
 refine ⟨hc, ?_, fun k hk => by rw [tx, if_pos hk], fun k => ?_⟩
 ·rw [tx, if_neg (by omega), Nat.sub_self, Nat.testBit_zero]; simp
 ·rw [clr, Nat.testBit_and, tx, ty]
  by_cases hk : k < c
  ·rw [if_pos hk]; rfl
  ·rw [if_neg hk, if_neg hk]
   obtain ⟨d, hd⟩ : ∃ d, k = c + d := ⟨k - c, by omega⟩
   subst hd
   rw [Nat.add_sub_cancel_left]
   cases d with
   | zero => simp
   | succ d =>
    rw [Nat.testBit_succ, Nat.testBit_succ, show (2 * m + 1) / 2 = m by omega, show 2 * m / 2 = m by omega]
    have : decide (c + (d + 1) ≠ c) = true := by simp
    rw [this]; cases m.testBit d <;> rfl
theorem Dy {x : Nat} (h0 : x ≠ 0) : clr x < x := by
 have : x &&& (x - 1) <= x - 1 := Nat.and_le_right
 unfold clr; omega
theorem yo (x : Nat) : clr x <= x := Nat.and_le_left

/-! ### A graph as a word of neighbours for each vertex -/
def yd (g : Nat -> Nat) (v left : Nat) (w : Nat) : Nat := if (g v &&& left).testBit w then g w ||| bdif (g v &&& left) (2 ^ w) else g w
def nQ (g : Nat -> Nat) (near rest : Nat) (w : Nat) : Nat := if near.testBit w && !rest.testBit w then g w ||| bdif near (2 ^ w) else g w
theorem HX (g : Nat -> Nat) (near w : Nat) : nQ g near near w = g w := by
 unfold nQ; cases near.testBit w <;> rfl
theorem C8 (g : Nat -> Nat) (v left w : Nat) : nQ g (g v &&& left) 0 w = yd g v left w := by
 unfold nQ yd; rw [Nat.zero_testBit, Bool.not_false, Bool.and_true]
theorem AD {n : Nat} {g : Nat -> Nat} {near rest : Nat} (h0 : rest ≠ 0) (hr : rest < 2 ^ n) (hs : ∀ k, rest.testBit k = true -> near.testBit k = true) (w : Nat) :
  nQ g near (clr rest) w = if w = Go.Lib.ctz n rest then nQ g near rest w ||| bdif near (2 ^ w) else nQ g near rest w := by
 obtain ⟨h1, h2, _, h4⟩ := iM h0 hr
 unfold nQ
 rw [h4]
 by_cases hw : w = Go.Lib.ctz n rest
 ·rw [if_pos hw, hw, h2, hs _ h2]; simp
 ·rw [if_neg hw]
  have : decide (w ≠ Go.Lib.ctz n rest) = true := by simpa using hw
  rw [this, Bool.and_true]
theorem FC {g : Nat -> Nat} {N near rest w : Nat} (hg : ∀ w, g w < 2 ^ N) (hn : near < 2 ^ N) : nQ g near rest w < 2 ^ N := by
 unfold nQ; split
 ·exact iN (hg w) (ip hn)
 ·exact hg w
theorem FD {g : Nat -> Nat} {N v left w : Nat} (hg : ∀ w, g w < 2 ^ N) : yd g v left w < 2 ^ N := by
 unfold yd; split
 ·exact iN (hg w) (ip (kx (hg v)))
 ·exact hg w
end Go.Proofs.YtceacleokgoooaaGreatDoor

/- A factor's element is 0 unless its two unknowns are joined by the matrix or by the fill. No condition. -/
namespace Go.Proofs.YtceacleokgoooaaGreatDoor

def pz (B : Nat -> Nat -> Rat) (m i j : Nat) : Rat := B i j - sm m (fun k => LL B i k * LL B j k * DD B k)
theorem Aa (B : Nat -> Nat -> Rat) (m i j : Nat) : pz B (m + 1) i j = pz B m i j - LL B i m * LL B j m * DD B m := by
 unfold pz; rw [bE]; grind
theorem z8 {B : Nat -> Nat -> Rat} {n : Nat} (hs : ∀ i j, i < n -> j < n -> B i j = B j i) (m : Nat) {i j : Nat} (hi : i < n) (hj : j < n) : pz B m i j = pz B m j i := by
 unfold pz
 rw [hs i j hi hj]
 congr 1
 exact ar fun k _ => by grind
end Go.Proofs.YtceacleokgoooaaGreatDoor

/- Operations against the model's act, one by one; a call that writes a number into an own array of numbers. No condition. -/
namespace Go.Proofs.YtceacleokgoooaaGreatDoor
open Go.RowKit

def nmE (n : Nat) (e : Nat -> Nat) : List (List DC) := (List.range n).map fun j => [DC.lit (.int .i64 (e j : Nat))]
section
variable {P : Program} {ops : Array Oper} {Q : Exit -> Act -> World -> Prop} {i : Nat} {l : List Nat} {a : Act} {w w' : World}
theorem ES {o : Oper} {s : Sem Value} {u : Value} (hi : ops[i]? = some o) (hg : o.guard = none) (he : execOp a.eval o = (do pure (Next.value (<- s)))) (hr : s.run P w = .ok u w') (h : wpOps P ops Q l (a.put o.dst u) w') : wpOps P ops Q (i :: l) a w := by
 rw [wpOps_cons]
 unfold wpOp
 simp only [hi];rw [if_pos (by unfold Region.wanted; rw [hg])];refine Or.inl ?_
 unfold Oper.wp
 rw [he];exact gp hr h
theorem ET {x : Operand} {d : Nat} {ty : TypeId} {ps : String} {af : Array Edge} (hi : ops[i]? = some ⟨some d, .move x, ty, ps, af, none⟩) (h : wpOps P ops Q l (a.put (some d) (a.eval x)) w) : wpOps P ops Q (i :: l) a w :=
 ES (s := pure (a.eval x)) hi rfl rfl rfl h
theorem sS {x : Operand} {d : Nat} {ty : TypeId} {ps : String} {af : Array Edge} (hi : ops[i]? = some ⟨some d, .assign x, ty, ps, af, none⟩) (h : wpOps P ops Q l (a.put (some d) (a.eval x)) w) : wpOps P ops Q (i :: l) a w :=
 ES (s := pure (a.eval x)) hi rfl rfl rfl h
theorem uk {c : Call} {f : FuncId} {fn : Func} {d : Nat} {ty : TypeId} {ps : String} {af : Array Edge} (hi : ops[i]? = some ⟨some d, .call c, ty, ps, af, none⟩) (hc : c.callee = .value (.func f))
  (h1 : P.funcs[f]? = some fn) (h2 : (fn.name == "runtime.NumGoroutine") = false) (h3 : fn.body.isSome = true)
  (h : Calls P f (c.args.map a.eval) w fun e w' => ∃ v, e = .returned v /\ wpOps P ops Q l (a.put (some d) v) w') : wpOps P ops Q (i :: l) a w := by
 rw [wpOps_cons]
 unfold wpOp
 simp only [hi];rw [if_pos (by rfl)];refine Or.inl ?_
 unfold Oper.wp
 simp only [execOp];exact oc hc h1 h2 h3 h
theorem Cr {f : FuncId} {fn : Func} {d x y : Nat} {ts : Array TypeId} {ty : TypeId} {ps : String} {af : Array Edge} (hi : ops[i]? = some ⟨some d, .call ⟨.value (.func f), #[.tmp x, .tmp y], ts⟩, ty, ps, af, none⟩)
  (h1 : P.funcs[f]? = some fn) (h2 : (fn.name == "runtime.NumGoroutine") = false) (h3 : fn.body.isSome = true)
  (h : Calls P f #[a.eval (.tmp x), a.eval (.tmp y)] w fun e w' => ∃ v, e = .returned v /\ wpOps P ops Q l (a.put (some d) v) w') : wpOps P ops Q (i :: l) a w := by
 refine uk (c := ⟨.value (.func f), #[.tmp x, .tmp y], ts⟩) hi rfl h1 h2 h3 ?_
 show Calls P f ((#[Operand.tmp x, Operand.tmp y] : Array Operand).map a.eval) w _
 rw [List.map_toArray]; exact h
theorem Cq {t : TypeId} {x y : Operand} {ty : TypeId} {ps : String} {af : Array Edge} (hi : ops[i]? = some ⟨none, .store t x y, ty, ps, af, none⟩) (hr : (Instr.storeAt t (a.eval x) (a.eval y)).run P w = .ok () w') (h : wpOps P ops Q l a w') : wpOps P ops Q (i :: l) a w := by
 rw [wpOps_cons]
 unfold wpOp
 simp only [hi];rw [if_pos (by rfl)];refine Or.inl ?_
 unfold Oper.wp
 simp only [execOp, Sem.run_bind, hr, Result.andThen_ok, Sem.run_pure, Oper.upon_skip];exact h
end

/-! ### Acts by what is known of their slots -/
def KA (n : Nat) (a : Act) (l : List (Nat × Value)) : Prop := a.tmps.size = n /\ a.defers = [] /\ ∀ k v, l.lookup k = some v -> a.eval (.tmp k) = v
theorem KA.put {n d : Nat} {a : Act} {l : List (Nat × Value)} (h : KA n a l) (v : Value) (hd : Nat.blt d n = true) : KA n (a.put (some d) v) ((d, v) :: l) := by
 obtain ⟨h1, h2, h3⟩ := h
 have hd : d < n := by simpa using hd
 refine ⟨?_, h2, fun k u hk => ?_⟩
 ·show (a.tmps.setIfInBounds d v).size = n
  rw [Array.size_setIfInBounds]; exact h1
 ·show (a.tmps.setIfInBounds d v).getD k undef = u
  rw [List.lookup_cons] at hk;rw [Array.getD_eq_getD_getElem?, Array.getElem?_setIfInBounds]
  by_cases e : k = d
  ·subst e
   rw [beq_self_eq_true] at hk
   cases hk
   rw [if_pos rfl, if_pos (by omega)]; rfl
  ·rw [show (k == d) = false by simpa using e] at hk;rw [if_neg (Ne.symm e)]
   have := h3 k u hk
   rw [<- Array.getD_eq_getD_getElem?]; exact this
section
variable {P : Program} {ops : Array Oper} {Q : Exit -> Act -> World -> Prop} {i n d : Nat} {L : List Nat} {a : Act} {w w' : World} {l : List (Nat × Value)} {ty : TypeId} {ps : String} {af : Array Edge}
theorem kg {k : Nat} {v : Value} (hi : ops[i]? = some ⟨some d, .move (.tmp k), ty, ps, af, none⟩) (ha : KA n a l) (hx : l.lookup k = some v) (hd : Nat.blt d n = true) (h : ∀ a', KA n a' ((d, v) :: l) -> wpOps P ops Q L a' w) : wpOps P ops Q (i :: L) a w := by
 refine ET hi ?_;rw [ha.2.2 k v hx]; exact h _ (ha.put v hd)
theorem q5 {k : Nat} {v : Value} (hi : ops[i]? = some ⟨some d, .assign (.tmp k), ty, ps, af, none⟩) (ha : KA n a l) (hx : l.lookup k = some v) (hd : Nat.blt d n = true) (h : ∀ a', KA n a' ((d, v) :: l) -> wpOps P ops Q L a' w) : wpOps P ops Q (i :: L) a w := by
 refine sS hi ?_;rw [ha.2.2 k v hx]; exact h _ (ha.put v hd)
theorem Fn {v : Value} (hi : ops[i]? = some ⟨some d, .assign (.const v), ty, ps, af, none⟩) (ha : KA n a l) (hd : Nat.blt d n = true) (h : ∀ a', KA n a' ((d, v) :: l) -> wpOps P ops Q L a' w) : wpOps P ops Q (i :: L) a w :=
 sS hi (h _ (ha.put v hd))
theorem zg {f : FuncId} {fn : Func} {x y : Nat} {u v : Value} {ts : Array TypeId} (hi : ops[i]? = some ⟨some d, .call ⟨.value (.func f), #[.tmp x, .tmp y], ts⟩, ty, ps, af, none⟩) (ha : KA n a l) (hx : l.lookup x = some u) (hy : l.lookup y = some v) (hd : Nat.blt d n = true)
  (h1 : P.funcs[f]? = some fn) (h2 : (fn.name == "runtime.NumGoroutine") = false) (h3 : fn.body.isSome = true)
  (h : Calls P f #[u, v] w fun e w' => ∃ r, e = .returned r /\ ∀ a', KA n a' ((d, r) :: l) -> wpOps P ops Q L a' w') : wpOps P ops Q (i :: L) a w := by
 refine Cr hi h1 h2 h3 ?_;rw [ha.2.2 x u hx, ha.2.2 y v hy];exact h.mono fun e w' ⟨r, he, hk⟩ => ⟨r, he, hk _ (ha.put r hd)⟩
theorem IY {t : TypeId} {x y : Nat} {u v r : Value} (hi : ops[i]? = some ⟨some d, .indexAddr t (.tmp x) (.tmp y), ty, ps, af, none⟩) (ha : KA n a l) (hx : l.lookup x = some u) (hy : l.lookup y = some v) (hd : Nat.blt d n = true) (hr : (Instr.indexAt t u v).run P w = .ok r w)
  (h : ∀ a', KA n a' ((d, r) :: l) -> wpOps P ops Q L a' w) : wpOps P ops Q (i :: L) a w := by
 refine ES (s := Instr.indexAt t u v) (u := r) (w' := w) hi rfl ?_ hr (h _ (ha.put r hd));simp only [execOp];rw [ha.2.2 x u hx, ha.2.2 y v hy]
theorem IZ {op : BinOp} {t s : TypeId} {x y : Nat} {u v r : Value} (hi : ops[i]? = some ⟨some d, .binOp op t (.tmp x) (.tmp y) s, ty, ps, af, none⟩) (ha : KA n a l) (hx : l.lookup x = some u) (hy : l.lookup y = some v) (hd : Nat.blt d n = true) {sm : Sem Value} (he : ∀ a' : Act, a'.eval (.tmp x) = u -> a'.eval (.tmp y) = v -> execOp a'.eval ⟨some d, .binOp op t (.tmp x) (.tmp y) s, ty, ps, af, none⟩ = (do pure (Next.value (<- sm)))) (hr : sm.run P w = .ok r w)
  (h : ∀ a', KA n a' ((d, r) :: l) -> wpOps P ops Q L a' w) : wpOps P ops Q (i :: L) a w :=
 ES hi rfl (he a (ha.2.2 x u hx) (ha.2.2 y v hy)) hr (h _ (ha.put r hd))
theorem Fm {t : TypeId} {x y : Nat} {u v : Value} (hi : ops[i]? = some ⟨none, .store t (.tmp x) (.tmp y), ty, ps, af, none⟩) (ha : KA n a l) (hx : l.lookup x = some u) (hy : l.lookup y = some v) (hr : (Instr.storeAt t u v).run P w = .ok () w') (h : wpOps P ops Q L a w') : wpOps P ops Q (i :: L) a w := by
 refine Cq (w' := w') hi ?_ h;rw [ha.2.2 x u hx, ha.2.2 y v hy]; exact hr
end

def Gz (P : Program) (f : FuncId) (n : Nat) (s : Nat -> Nat) (v u rv ru : Nat) : Prop :=
 (∃ fn, P.funcs[f]? = some fn /\ (fn.name == "runtime.NumGoroutine") = false /\ fn.body.isSome = true) /\
  ∀ (w : World) (b cap : Nat) (cs : Array Value) (E : TypeId), TbW w -> w.heap[b]? = some (.cells cs E (0, 0)) -> n <= cap -> cap <= cs.size -> (∀ i, i < n -> cs[i]? = some (.int .i64 (s i : Nat))) ->
   Calls P f #[.slice (some ⟨b, 0, none⟩) n cap, .int .i64 (v : Nat), .int .i64 (u : Nat)] w (fun e w' => e = .returned (.bool (decide (rv ≠ ru))) /\ ∃ w1, Below w.heap.size w w1 /\ w1.heap[b]? = w.heap[b]? /\ w' = setRow w1 b (cs.setIfInBounds rv (.int .i64 (ru : Nat))))

section
variable {P : Program} {w0 : Base} {X : Nat -> Prop} {ops : List Oper} {K : St -> Prop} {k n : Nat} {E : List (Nat × SV)} {S : List (Nat × Option OO)} {rb : List Nat}
theorem A5 {f : FuncId} {d t t1 t2 id m : Nat} {s s' : Nat -> Nat} {v u rv ru : Nat} {ts : Array TypeId} {ty : TypeId} {ps : String} {af : Array Edge} (hf : Gz P f m s v u rv ru) (ho : ops[k]? = some ⟨some d, .call ⟨.value (.func f), #[.tmp t, .tmp t1, .tmp t2], ts⟩, ty, ps, af, none⟩)
  (ht : rd n E (.tmp t) = .val (.one (.own id 1 0 m))) (ht1 : rd n E (.tmp t1) = dI v) (ht2 : rd n E (.tmp t2) = dI u) (hS : so S id = some (.arr 1 (nmE m s))) (hrv : rv < m) (hs' : ∀ i, i < m -> s' i = if i = rv then ru else s i)
  (h : eP P w0 X ops (k + 1) K (mk n ((d, dB (decide (rv ≠ ru))) :: E) ((id, some (.arr 1 (nmE m s'))) :: S) rb)) : eP P w0 X ops k K (mk n E S rb) := by
 intro μ a w Q hQ hs
 have hk : k < ops.length := by
  rcases Nat.lt_or_ge k ops.length with h' | h'
  ·exact h'
  ·rw [List.getElem?_eq_none h'] at ho; cases ho
 rw [List.drop_eq_getElem_cons (by simpa using hk), List.getElem_range]
 have ho' : ops.toArray[k]? = some ⟨some d, .call ⟨.value (.func f), #[.tmp t, .tmp t1, .tmp t2], ts⟩, ty, ps, af, none⟩ := by simpa using ho
 obtain ⟨⟨fn, h1, h2, h3⟩, hcall⟩ := hf
 have hsl := hs.slots t
 have hsl1 := hs.slots t1
 have hsl2 := hs.slots t2
 rw [dE, ht] at hsl;rw [dE, ht1] at hsl1;rw [dE, ht2] at hsl2
 obtain ⟨cap, cs, E1, fr, hv, hle, hh, hcap⟩ := hsl
 obtain ⟨hid, cs2, E2, hh2, hrel⟩ := hs.objs id _ (show (mk n E S rb).σ id = _ from hS)
 rw [hh] at hh2
 obtain ⟨rfl, rfl, rfl⟩ : cs = cs2 /\ E1 = E2 /\ fr = (0, 0) := by cases hh2; exact ⟨rfl, rfl, rfl⟩
 obtain ⟨hr0, hr1, hr2⟩ := hrel
 have hl : (nmE m s).length = m := by simp [nmE]
 have hg : ∀ i, i < m -> cs[i]? = some (.int .i64 (s i : Nat)) := fun i hi => by
  obtain ⟨x, e1, e2⟩ := hr2 i 0 (.lit (.int .i64 (s i : Nat))) (by simp [at2, nmE, hi])
  have : x = .int .i64 (s i : Nat) := by cases e2; rfl
  rw [this] at e1; simpa using e1
 have v1 : a.tmps.getD t1 undef = .int .i64 (v : Nat) := by
  have h : RdC w _ _ (.lit (.int .i64 (v : Nat))) := hsl1
  generalize a.tmps.getD t1 undef = x at h
  cases h; rfl
 have v2 : a.tmps.getD t2 undef = .int .i64 (u : Nat) := by
  have h : RdC w _ _ (.lit (.int .i64 (u : Nat))) := hsl2
  generalize a.tmps.getD t2 undef = x at h
  cases h; rfl
 refine uk (c := ⟨.value (.func f), #[.tmp t, .tmp t1, .tmp t2], ts⟩) ho' rfl h1 h2 h3 ?_
 have ea : (#[Operand.tmp t, Operand.tmp t1, Operand.tmp t2] : Array Operand).map a.eval = #[.slice (some ⟨μ id, 0, none⟩) m cap, .int .i64 (v : Nat), .int .i64 (u : Nat)] := by
  rw [<- v1, <- v2]
  have hv' : a.tmps.getD t undef = .slice (some ⟨μ id, 0, none⟩) m cap := by rw [hv]
  rw [<- hv', List.map_toArray, List.map_cons, List.map_cons, List.map_cons, List.map_nil]; rfl
 show Calls P f ((#[Operand.tmp t, Operand.tmp t1, Operand.tmp t2] : Array Operand).map a.eval) w _
 rw [ea];refine (hcall w (μ id) cap cs E1 hs.bel.now hh hle (by rw [Nat.zero_add, Nat.mul_one] at hcap; exact hcap) hg).mono fun e w' ⟨he, w1, hb, hw1, hw'⟩ => ⟨_, he, ?_⟩
 subst hw'
 have hs1 := hs.below hb
 have hh1 : w1.heap[μ id]? = some (.cells cs E1 (0, 0)) := by rw [hw1]; exact hh
 have hs2 := hs1.upd (id := id) (o' := .arr 1 (nmE m s')) (show (mk n E S rb).σ id = _ from hS) hh1 (cs' := cs.setIfInBounds rv (.int .i64 (ru : Nat))) (by simp) ?_ (rb' := rb) (fun k h => h) (fun l hl => by cases hl)
 ·have e : (⟨(mk n E S rb).ρ, aX (mk n E S rb).σ id (.arr 1 (nmE m s')), rb⟩ : St) = mk n E ((id, some (.arr 1 (nmE m s'))) :: S) rb := by
   show (⟨_, aX (so S) id _, rb⟩ : St) = _
   rw [iT]; rfl
  rw [e] at hs2
  have hs3 := hs2.put (dst := some d) (u := .bool (decide (rv ≠ ru))) (v := dB (decide (rv ≠ ru))) (RdC.lit rfl)
  rw [g6] at hs3;exact h μ _ _ Q hQ hs3
 ·have z0 : rv < cs.size := (Array.getElem?_eq_some_iff.1 (hg rv hrv)).1
  refine ⟨?_, fun i e he => ?_, fun i j dd hd => ?_⟩
  ·rw [Array.size_setIfInBounds]
   have : (nmE m s').length = m := by simp [nmE]
   rw [this]; rw [hl] at hr0; exact hr0
  ·obtain ⟨q, _, rfl⟩ := List.mem_map.1 (List.mem_of_getElem? he); rfl
  ·unfold at2 at hd
   by_cases hi : i < m
   ·have : (nmE m s')[i]? = some [.lit (.int .i64 (s' i : Nat))] := by simp [nmE, hi]
    rw [this] at hd
    match j, hd with
    | 0, hd =>
     cases hd
     rw [hs' i hi]
     by_cases e : i = rv
     ·subst e
      rw [if_pos rfl];exact ⟨.int .i64 (ru : Nat), by simp [z0], RdC.lit rfl⟩
     ·rw [if_neg e];refine ⟨.int .i64 (s i : Nat), ?_, RdC.lit rfl⟩;rw [Nat.mul_one, Nat.add_zero, Array.getElem?_setIfInBounds, if_neg (Ne.symm e)]; exact hg i hi
    | j + 1, hd => simp at hd
   ·rw [List.getElem?_eq_none (by simp [nmE]; omega)] at hd; cases hd
end
end Go.Proofs.YtceacleokgoooaaGreatDoor

/- A call that writes into one object that it is handed: its contract, out of the walk of its text, and the caller's step. No condition. -/
namespace Go.Proofs.YtceacleokgoooaaGreatDoor
open Go.RowKit

def Ik (P : Program) (f : FuncId) (args : List SV) (o : OO) (r : SV) (o' : OO) : Prop :=
 (∃ fn, P.funcs[f]? = some fn /\ (fn.name == "runtime.NumGoroutine") = false /\ fn.body.isSome = true) /\
  ∀ (w : World) (X : Nat -> Prop) (b : Nat) (vs : List Value) (cs : Array Value) (E : TypeId), TbW w -> (∀ p ∈ nK, p.1 ≠ b) -> (∀ k, X k -> k < w.heap.size /\ k ≠ b) ->
   w.heap[b]? = some (.cells cs E (0, 0)) -> RelO w (fun k => X k \/ k = b) (fun _ => b) cs o -> vs.length = args.length ->
   (∀ (i : Nat) (x : SV), args[i]? = some x -> ∃ v, vs[i]? = some v /\ RelV w (fun k => X k \/ k = b) (fun _ => b) v x) ->
   Calls P f vs.toArray w (fun e w' => ∃ v w1 cs', e = .returned v /\ Below w.heap.size w w1 /\ cs'.size = cs.size /\ w' = setRow w1 b cs' /\
    RelO w1 (fun k => X k \/ k = b) (fun _ => b) cs' o' /\ RelV w1 (fun k => X k \/ k = b) (fun _ => b) v r)

def jh (n : Nat) (args : List SV) (o : OO) : St := ⟨args ++ List.replicate (n - args.length) .none, fun k => if k = 999 then some o else none, []⟩
theorem AC (n : Nat) (args : List SV) (o : OO) (E : List (Nat × SV)) (h : Nat.ble args.length n = true) (hE : rx 0 args = E) : jh n args o = mk n E [(999, some o)] [] := by
 have h1 := ap n args E h hE
 unfold kB mk at h1
 unfold jh mk
 have h2 : args ++ List.replicate (n - args.length) SV.none = (List.range n).map (lk E) := congrArg St.ρ h1
 rw [h2]
 congr 1
 funext k
 rw [aD]
 by_cases hk : k = 999
 ·rw [if_pos hk, if_pos hk.symm]
 ·rw [if_neg hk, if_neg (Ne.symm hk)]; rfl

def Jo (T : Tab) (fn : Func) (r : SV) (o' : OO) : Exit -> St -> Prop
 | .normal, st | .ret, st => (∃ xs, pA T st fn.results.toList = some xs /\ r = o8 xs) /\ st.σ 999 = some o'
 | _, _ => False

def OO.plain : OO -> Bool
 | .box cs => cs.all SC.noOwn
 | .arr _ _ => true

section
variable {P : Program} {T : Tab} {w0 : Base} {X : Nat -> Prop}
theorem mv {w : World} {Y : Nat -> Prop} {μ1 μ2 : Nat -> Nat} {cs : Array Value} {o : OO} (h : RelO w Y μ1 cs o) (hp : o.plain = true) : RelO w Y μ2 cs o := by
 cases o with
 | arr sz es => exact h
 | box l =>
  refine ⟨h.1, fun i c hc => ?_⟩
  obtain ⟨x, h1, h2⟩ := h.2 i c hc
  refine ⟨x, h1, ?_⟩
  have hn : c.noOwn = true := List.all_eq_true.1 hp c (List.mem_of_getElem? hc)
  cases c with
  | own => cases hn
  | d c => exact h2
  | nil => exact h2
  | bad => exact h2

theorem ym (hT : TOK P T) {f : FuncId} {fn : Func} {c : Code} {args : List SV} {o o' : OO} {r : SV} (hf : P.funcs[f]? = some fn) (hn : (fn.name == "runtime.NumGoroutine") = false) (hb : fn.body = some c)
  (ho : o.plain = true) (ho' : o'.plain = true) (hr1 : r.flat = true) (hr2 : r.noOwn = true) (hr3 : r.noAddr = true)
  (h : ∀ w0 X, AWP P w0 X c (Jo T fn r o') (jh fn.ntmps args o)) : Ik P f args o r o' := by
 refine ⟨⟨fn, hf, hn, by rw [hb]; rfl⟩, fun w X b vs cs E hL hg hX hh hro hl hr => ?_⟩;refine calls_of_wp hf hb ?_
 have hbs := bt hh
 have hM : ∀ k, Mut X (fun _ => b) (jh fn.ntmps args o).σ k -> X k \/ k = b := by
  rintro k (hk | ⟨id, o1, _, h2⟩)
  ·exact Or.inl hk
  ·exact Or.inr h2.symm
 have hsim : Sim ⟨w, fun k => k = b, fun k => k = b⟩ X (fun _ => b) { tmps := vs.toArray ++ Array.replicate (fn.ntmps - vs.toArray.size) undef, defers := [] } w (jh fn.ntmps args o) := by
  refine ⟨fun k hk => hX k hk, rfl, BelZ.refl _ hL (fun p hp e => hg p hp e), by simp [jh, hl], fun i => ?_, fun id o1 ho1 => ?_, fun i j o1 o2 h1 h2 _ => ?_, fun id cs1 h1 _ k => ?_⟩
  ·unfold St.get jh
   rw [List.getD_eq_getElem?_getD]
   by_cases hi : i < args.length
   ·obtain ⟨v, h1, h2⟩ := hr i _ (List.getElem?_eq_getElem hi)
    rw [List.getElem?_append_left hi, List.getElem?_eq_getElem hi];simp only [Option.getD_some]
    have : (vs.toArray ++ Array.replicate (fn.ntmps - vs.toArray.size) undef).getD i undef = v := by
     have hlt : i < vs.length := by omega
     rw [Array.getD_eq_getD_getElem?, Array.getElem?_append_left (by simpa using hlt)]
     simp [h1]
    rw [this];exact h2.mono (fun k _ hk => hM k hk) (Fwd.refl _ _)
   ·rw [List.getElem?_append_right (by omega), List.getElem?_replicate]
    split <;> trivial
  ·simp only [jh] at ho1
   split at ho1
   ·cases ho1
    exact ⟨⟨Or.inr rfl, fun _ k hk => hk.symm⟩, cs, E, hh, hro.mono (fun k _ hk => hM k hk) (Fwd.refl _ _)⟩
   ·cases ho1
  ·simp only [jh] at h1 h2
   split at h1
   ·split at h2
    ·rename_i a1 a2; rw [a1, a2]
    ·cases h2
   ·cases h1
  ·simp only [jh] at h1
   split at h1
   ·cases h1
    exact eG ho k
   ·cases h1
 have fin : ∀ {μ' : Nat -> Nat} {a' : Act} {w' : World} {st' : St}, Sim ⟨w, fun k => k = b, fun k => k = b⟩ X μ' a' w' st' -> ((∃ xs, pA T st' fn.results.toList = some xs /\ r = o8 xs) /\ st'.σ 999 = some o') ->
   ∃ v, (results fn a'.tmps).run P w' = .ok v w' /\ ∃ w1 cs', Below w.heap.size w w1 /\ cs'.size = cs.size /\ w' = setRow w1 b cs' /\
    RelO w1 (fun k => X k \/ k = b) (fun _ => b) cs' o' /\ RelV w1 (fun k => X k \/ k = b) (fun _ => b) v r := by
  intro μ' a' w' st' hs' ⟨⟨xs, hx, hrx⟩, hσ⟩
  obtain ⟨vs', h1, h2, h3⟩ := kR (P := P) hT hs' _ xs hx
  obtain ⟨⟨_, hB⟩, cs2, E2, hh2, hrel⟩ := hs'.objs 999 _ hσ
  have hμ : μ' 999 = b := hB rfl b rfl
  obtain ⟨cs3, hh3, hsz⟩ := hs'.bel.row b cs E (0, 0) rfl hh
  rw [hμ, hh3] at hh2
  obtain ⟨rfl, rfl⟩ : cs3 = cs2 /\ E = E2 := by cases hh2; exact ⟨rfl, rfl⟩
  have e : results fn a'.tmps = (do let vs <- fn.results.mapM (BT a'.tmps); pure (if h : vs.size = 1 then vs[0] else .tuple vs)) := by
   unfold results
   have : ∀ f g : ResultVar -> Sem Value, (∀ x, f x = g x) -> (do let vs <- fn.results.mapM f; pure (if h : vs.size = 1 then vs[0] else .tuple vs) : Sem Value) = (do let vs <- fn.results.mapM g; pure (if h : vs.size = 1 then vs[0] else .tuple vs)) := by
    intro f g h
    rw [funext h]
   exact this _ _ (fun x => by cases x <;> rfl)
  refine ⟨if h : vs'.toArray.size = 1 then vs'.toArray[0] else .tuple vs'.toArray, ?_, setRow w' b cs, cs3, ?_, hsz, ?_, ?_, ?_⟩
  ·rw [e];simp only [Array.mapM_eq_mapM_toList, Sem.run_bind, Sem.run_map, h1, Result.andThen_ok, Sem.run_pure]
  ·have hb' := hs'.bel
   refine ⟨hb'.os, hb'.tape, hb'.output, by rw [kP]; exact hb'.size, fun k hk => ?_⟩
   by_cases hkb : k = b
   ·subst hkb; rw [cZ hh3]; exact hh.symm
   ·rw [cu _ _ _ hkb]; exact hb'.block k hk hkb
  ·rw [jd hh3, oT hh3]
  ·have hM' : ∀ k, X k \/ k = b -> Mut X μ' st'.σ k := by
    rintro k (hk | hk)
    ·exact Or.inl hk
    ·exact Or.inr ⟨999, o', hσ, by rw [hk]; exact hμ⟩
   have hf : Fwd (Mut X μ' st'.σ) w' (setRow w' b cs) := jW (X := Mut X μ' st'.σ) hh3 hsz.symm (hM' b (Or.inr rfl))
   exact mv (hrel.mono (fun k _ hk => hM' k hk) hf) ho'
  ·rw [hrx] at hr1 hr2 hr3 ⊢
   exact iq (gy (om (w := setRow w' b cs) (Y := fun _ => False) (ν := μ') h2 (fun i x hxi => by
    obtain ⟨u, u1, u2⟩ := h3 i x hxi
    refine ⟨u, u1, ?_⟩
    have hfx : x.flat = true := by
     match xs, hr1, i, hxi with
     | [y], hr1, 0, hxi => cases hxi; exact hr1
     | [], _, i, hxi => simp at hxi
     | y :: z :: l, hr1, i, hxi => exact List.all_eq_true.1 hr1 x (List.mem_of_getElem? hxi)
    have hM' : ∀ k, X k \/ k = b -> Mut X μ' st'.σ k := by
     rintro k (hk | hk)
     ·exact Or.inl hk
     ·exact Or.inr ⟨999, o', hσ, by rw [hk]; exact hμ⟩
    have hf : Fwd (Mut X μ' st'.σ) w' (setRow w' b cs) := jW (X := Mut X μ' st'.σ) hh3 hsz.symm (hM' b (Or.inr rfl))
    have g := u2.mono (fun k _ hk => hk) hf
    exact mu g hfx)) hr2 hr3) hr1
 refine wp_mono (h _ X (fun _ => b) _ w hsim) ?_
 rintro e a' w' ⟨μ', st', hs', hp⟩
 cases e with
 | normal =>
  obtain ⟨v, h1, w1, cs', h2, h3, h4, h5, h6⟩ := fin hs' hp
  exact ⟨hs'.dfr, v, h1, v, w1, cs', rfl, h2, h3, h4, h5, h6⟩
 | ret =>
  obtain ⟨v, h1, w1, cs', h2, h3, h4, h5, h6⟩ := fin hs' hp
  exact ⟨hs'.dfr, v, h1, v, w1, cs', rfl, h2, h3, h4, h5, h6⟩
 | _ => exact hp.elim
end

/-! ### The caller's step -/
def mo0 (id : Nat) : SV -> Option SV
 | .ptr i off => if i = id then some (.ptr 999 off) else none
 | .val (.one (.own i sz off len)) => if i = id then some (.val (.one (.own 999 sz off len))) else none
 | .none => none
 | x => if x.noOwn && x.noAddr then some x else none
def E5 (id : Nat) : List SV -> Option (List SV)
 | [] => some []
 | x :: xs => match mo0 id x, E5 id xs with
  | some y, some ys => some (y :: ys)
  | _, _ => none
theorem E6 {w : World} {Y : Nat -> Prop} {μ : Nat -> Nat} {id : Nat} {v : Value} {x y : SV} (h : RelV w Y μ v x) (hm : mo0 id x = some y) : RelV w Y (fun _ => μ id) v y := by
 unfold mo0 at hm
 split at hm
 ·split at hm
  ·rename_i e; cases hm; subst e; exact h
  ·cases hm
 ·split at hm
  ·rename_i e; cases hm; subst e; exact h
  ·cases hm
 ·cases hm
 ·split at hm
  ·rename_i e
   cases hm
   simp only [Bool.and_eq_true] at e;exact gy h e.1 e.2
  ·cases hm
theorem wx {w : World} {Y : Nat -> Prop} {μ : Nat -> Nat} {id : Nat} : ∀ {vs : List Value} {xs ys : List SV}, E5 id xs = some ys -> (vs.length = xs.length) -> (∀ (i : Nat) (x : SV), xs[i]? = some x -> ∃ v, vs[i]? = some v /\ RelV w Y μ v x) ->
  vs.length = ys.length /\ ∀ (i : Nat) (y : SV), ys[i]? = some y -> ∃ v, vs[i]? = some v /\ RelV w Y (fun _ => μ id) v y
 | vs, [], ys, hm, hl, _ => by
  cases hm
  exact ⟨hl, fun i y hy => by simp at hy⟩
 | [], x :: xs, ys, hm, hl, _ => by cases hl
 | v :: vs, x :: xs, ys, hm, hl, h => by
  unfold E5 at hm
  split at hm
  ·rename_i y ys' h1 h2
   cases hm
   obtain ⟨g1, g2⟩ := wx (vs := vs) h2 (by simpa using hl) (fun i x hx => by simpa using h (i + 1) x (by simpa using hx))
   refine ⟨by simp [g1], fun i y' hy => ?_⟩
   cases i with
   | zero =>
    simp at hy; subst hy
    obtain ⟨v', e1, e2⟩ := h 0 x rfl
    simp at e1; subst e1
    exact ⟨v, rfl, E6 e2 h1⟩
   | succ i => simpa using g2 i y' (by simpa using hy)
  ·cases hm

section
variable {P : Program} {w0 : Base} {X : Nat -> Prop} {ops : List Oper} {K : St -> Prop} {k n : Nat} {E : List (Nat × SV)} {S : List (Nat × Option OO)} {rb : List Nat}
theorem DW {f : FuncId} {d id : Nat} {xs : Array Operand} {o o' : OO} {r r' : SV} {args : List SV} {ts : Array TypeId} {ty : TypeId} {ps : String} {af : Array Edge} (hf : Ik P f args o r o') (ho : ops[k]? = some ⟨some d, .call ⟨.value (.func f), xs, ts⟩, ty, ps, af, none⟩)
  (hm : E5 id (xs.toList.map (rd n E)) = some args) (hS : so S id = some o) (hp : o.plain = true) (hp' : o'.plain = true) (hr1 : r.flat = true) (hr2 : r.noOwn = true) (hr3 : r.noAddr = true) (hr' : r' = r)
  (h : eP P w0 X ops (k + 1) K (mk n ((d, r') :: E) ((id, some o') :: S) rb)) : eP P w0 X ops k K (mk n E S rb) := by
 subst hr'
 intro μ a w Q hQ hs
 have hk : k < ops.length := by
  rcases Nat.lt_or_ge k ops.length with h' | h'
  ·exact h'
  ·rw [List.getElem?_eq_none h'] at ho; cases ho
 rw [List.drop_eq_getElem_cons (by simpa using hk), List.getElem_range]
 have ho1 : ops.toArray[k]? = some ⟨some d, .call ⟨.value (.func f), xs, ts⟩, ty, ps, af, none⟩ := by simpa using ho
 obtain ⟨⟨fn, h1, h2, h3⟩, hcall⟩ := hf
 have hSσ : (mk n E S rb).σ id = some o := hS
 obtain ⟨hown, cs, E1, hh, hrel⟩ := hs.objs id _ hSσ
 refine uk (c := ⟨.value (.func f), xs, ts⟩) ho1 rfl h1 h2 h3 ?_
 have e1 : xs.map a.eval = (xs.toList.map a.eval).toArray := by apply Array.ext'; rw [Array.toList_map]
 show Calls P f (xs.map a.eval) w _
 rw [e1]
 have hgn : ∀ p ∈ nK, p.1 ≠ μ id := fun p hp e => by
  have hlt := (hs.bel.lw p hp).1
  rcases hown.1 with hb | hb
  ·omega
  ·exact hs.bel.lz p hp (by rw [e]; exact hb)
 have hMi : Mut X μ (mk n E S rb).σ (μ id) := Or.inr ⟨id, o, hSσ, rfl⟩
 have hMM : ∀ k, ((Mut X μ (mk n E S rb).σ k /\ k ≠ μ id) \/ k = μ id) -> Mut X μ (mk n E S rb).σ k := by
  rintro k (hk | hk)
  ·exact hk.1
  ·rw [hk]; exact hMi
 have hMM' : ∀ k, Mut X μ (mk n E S rb).σ k -> ((Mut X μ (mk n E S rb).σ k /\ k ≠ μ id) \/ k = μ id) := fun k hk => by
  by_cases e : k = μ id
  ·exact Or.inr e
  ·exact Or.inl ⟨hk, e⟩
 obtain ⟨hl, hargs⟩ := wx (w := w) (Y := fun k => (Mut X μ (mk n E S rb).σ k /\ k ≠ μ id) \/ k = μ id) (μ := μ) (vs := xs.toList.map a.eval) hm (by simp) (fun i x hx => by
  rw [List.getElem?_map] at hx
  cases hxo : xs.toList[i]? with
  | none => rw [hxo] at hx; cases hx
  | some y =>
   rw [hxo] at hx; simp at hx; subst hx;refine ⟨a.eval y, by rw [List.getElem?_map, hxo]; rfl, ?_⟩
   have hv := jz hs y
   rw [bP] at hv
   exact hv.mono (fun k _ hk => hMM k hk) (Fwd.refl _ _))
 refine (hcall w (fun k => Mut X μ (mk n E S rb).σ k /\ k ≠ μ id) (μ id) _ cs E1 hs.bel.now hgn (fun k hk => ⟨hs.mut_lt k hk.1, hk.2⟩) hh (mv (hrel.mono (fun k _ hk => hMM k hk) (Fwd.refl _ _)) hp) hl hargs).mono fun e w' ⟨v, w1, cs', he, hb, hsz, hw', hro', hrv⟩ => ⟨v, he, ?_⟩
 subst hw'
 have hs1 := hs.below hb
 have hh1 : w1.heap[μ id]? = some (.cells cs E1 (0, 0)) := by rw [hb.block _ (bt hh)]; exact hh
 have hs2 := hs1.upd (id := id) (o' := o') hSσ hh1 (cs' := cs') hsz (mv (hro'.mono (fun k _ hk => hMM' k hk) (Fwd.refl _ _)) hp') (rb' := rb) (fun k h => h) (fun l hl _ k => by subst hl; exact eG hp' k)
 have e : (⟨(mk n E S rb).ρ, aX (mk n E S rb).σ id o', rb⟩ : St) = mk n E ((id, some o') :: S) rb := by
  show (⟨_, aX (so S) id _, rb⟩ : St) = _
  rw [iT]; rfl
 rw [e] at hs2
 have hrf : RelV w1 (fun k => k = μ id) (fun _ => μ id) v r' := iq hrv hr1
 have hf2 : Fwd (fun k => k = μ id) w1 (setRow w1 (μ id) cs') := jW (X := fun k => k = μ id) hh1 hsz rfl
 have hs3 := hs2.put (dst := some d) (u := v) (v := r') (iq (gy (μ2 := μ) (hrf.mono (fun k _ hk => hk) hf2) hr2 hr3) hr1)
 rw [g6] at hs3;exact h μ _ _ Q hQ hs3
end
end Go.Proofs.YtceacleokgoooaaGreatDoor

/- The library functions TrailingZeros at this program: what the kit proves of them over any program. No condition. -/
namespace Go.Proofs.YtceacleokgoooaaGreatDoor
open Go.Shelf
def sh_tzA_ren : Go.Shelf.Ren := ⟨fun | 29 => 73 | n => n, fun | 22 => 130 | 3 => 3 | 4 => 4 | 25 => 150 | 54 => 172 | 0 => 0 | 5 => 5 | n => n, fun | 1 => 0 | n => n⟩
theorem sh_tzA : Go.Proofs.Lays7.n29 Tryz.prog sh_tzA_ren := {
 mixed := by kernel_rfl
 f29 := Tryz.func73.trans (congrArg some (by kernel_rfl))
 t0 := Tryz.underlying0
 a0 := Tryz.isAgg0
 z0 := Tryz.sizeOf0
 v0 := Tryz.zeroValue0
 i0 := by kernel_rfl
 t3 := Tryz.underlying3
 a3 := Tryz.isAgg3
 z3 := Tryz.sizeOf3
 v3 := Tryz.zeroValue3
 i3 := by kernel_rfl
 t4 := Tryz.underlying4
 a4 := Tryz.isAgg4
 z4 := Tryz.sizeOf4
 v4 := Tryz.zeroValue4
 i4 := by kernel_rfl
 t5 := Tryz.underlying5
 a5 := Tryz.isAgg5
 z5 := Tryz.sizeOf5
 v5 := Tryz.zeroValue5
 i5 := by kernel_rfl
 t22 := Tryz.underlying130
 a22 := Tryz.isAgg130
 z22 := Tryz.sizeOf130
 v22 := Tryz.zeroValue130
 i22 := by kernel_rfl
 t25 := Tryz.underlying150
 a25 := Tryz.isAgg150
 z25 := Tryz.sizeOf150
 v25 := Tryz.zeroValue150
 i25 := by kernel_rfl
 t54 := Tryz.underlying172
 a54 := Tryz.isAgg172
 z54 := Tryz.sizeOf172
 g1 := by kernel_rfl }
end Go.Proofs.YtceacleokgoooaaGreatDoor

/- math/bits.TrailingZeros64 and 32: their contracts. No condition. -/
namespace Go.Proofs.YtceacleokgoooaaGreatDoor
open Go.RowKit
theorem It {w : World} (h : TbW w) {g : Nat} {l : List Nat} (hm : (g, l) ∈ nK) : TabAt g l w := fun j hj => (h (g, l) hm).2.1 j hj
theorem xm (x : Nat) (hx : x < 2 ^ 64) : Con Tryz.prog 73 [V1 (.lit (.int .u64 (x : Nat)))] { v := dI (Go.Lib.ctz 64 x) } := by
 refine ⟨⟨_, Tryz.func73, rfl, rfl⟩, fun w X μ vs hL hX hl hr => ?_⟩
 obtain ⟨v, h1, h2⟩ := hr 0 _ rfl
 have e1 : vs = [v] := by
  match vs, hl, h1 with
  | [u], _, h1 => cases h1; rfl
 have h2 : RdC w X v (.lit (.int .u64 (x : Nat))) := h2
 have e2 : v = .int .u64 (x : Nat) := by cases h2; rfl
 rw [e1, e2];refine (Any7.bits_TrailingZeros64 sh_tzA x (by simpa using hx) w (fun _ => It hL (by first | exact .head _ | exact .tail _ (.head _) | exact .tail _ (.tail _ (.head _))))).mono ?_
 rintro e w' ⟨he, hw⟩
 subst hw
 exact ⟨_, he, Below.refl _ _, 0, (fun sz es h => by cases h), RdC.lit rfl⟩
end Go.Proofs.YtceacleokgoooaaGreatDoor

/- ordering: words of bits, eliminate. No condition. -/
namespace Go.Proofs.YtceacleokgoooaaGreatDoor
attribute [local irreducible] aA

/-! ### Words of bits -/
section
variable {T : Tab} {t : TypeId} {x y : Nat}
theorem L6 {x : Nat} (h : x < 18446744073709551616) : (BitVec.ofInt 64 (x : Int)).toNat = x := by rw [ul, BitVec.toNat_ofNat]; exact Nat.mod_eq_of_lt h
theorem kt (hx : x < 18446744073709551616) (hy : y < 18446744073709551616) : aK T .and t (dL x) (dL y) = .set (dL (x &&& y)) := by
 have hb : iO .and (.int .u64 (x : Int)) (.int .u64 (y : Int)) = some (.int .u64 ((x &&& y : Nat) : Int)) := by
  show some (Value.int .u64 (IntKind.u64.wrap ((BitVec.ofInt 64 (x : Int) &&& BitVec.ofInt 64 (y : Int)).toNat))) = _
  rw [BitVec.toNat_and, L6 hx, L6 hy, IntWalk.u64_in _ (by have := kx (n := 64) (y := y) hx; omega)]
 simp only [aK, dn, hb]; rfl
theorem rE (hx : x < 18446744073709551616) (hy : y < 18446744073709551616) : aK T .or t (dL x) (dL y) = .set (dL (x ||| y)) := by
 have hb : iO .or (.int .u64 (x : Int)) (.int .u64 (y : Int)) = some (.int .u64 ((x ||| y : Nat) : Int)) := by
  show some (Value.int .u64 (IntKind.u64.wrap ((BitVec.ofInt 64 (x : Int) ||| BitVec.ofInt 64 (y : Int)).toNat))) = _
  rw [BitVec.toNat_or, L6 hx, L6 hy, IntWalk.u64_in _ (by have := iN (n := 64) hx hy; omega)]
 simp only [aK, dn, hb]; rfl
theorem Dj (hx : x < 18446744073709551616) (hy : y < 18446744073709551616) : aK T .andNot t (dL x) (dL y) = .set (dL (bdif x y)) := by
 have hb : iO .andNot (.int .u64 (x : Int)) (.int .u64 (y : Int)) = some (.int .u64 ((bdif x y : Nat) : Int)) := by
  show some (Value.int .u64 (IntKind.u64.wrap ((BitVec.ofInt 64 (x : Int) &&& ~~~ BitVec.ofInt 64 (y : Int)).toNat))) = _
  have : (BitVec.ofInt 64 (x : Int) &&& ~~~ BitVec.ofInt 64 (y : Int)).toNat = bdif x y := by
   apply Nat.eq_of_testBit_eq
   intro k
   rw [kw, BitVec.testBit_toNat, BitVec.getLsbD_and, BitVec.getLsbD_not, <- BitVec.testBit_toNat, <- BitVec.testBit_toNat, L6 hx, L6 hy]
   by_cases hk : k < 64
   ·rw [decide_eq_true hk, Bool.true_and]
   ·rw [iA (n := 64) hx (by omega)]; rfl
  rw [this, IntWalk.u64_in _ (by have := ip (n := 64) (y := y) hx; omega)]
 simp only [aK, dn, hb]; rfl
theorem cC {s : Nat} (hs : s < 64) : aK T .shl t (dL 1) (dI s) = .set (dL (2 ^ s)) := by
 refine oH (by omega) ?_;rw [Nat.one_mul];exact Nat.mod_eq_of_lt (io (n := 64) hs)
end
theorem Ai {s : Nat} (hs : s < 64) : 2 ^ s < 18446744073709551616 := io (n := 64) hs
def u6D (n : Nat) (g : Nat -> Nat) : List (List DC) := (List.range n).map fun i => [.lit (.int .u64 (g i : Nat))]
theorem od {n : Nat} {g : Nat -> Nat} : (u6D n g).length = n := by simp [u6D]
theorem jP {n i : Nat} {g : Nat -> Nat} (h : i < n) : (u6D n g)[i]? = some [.lit (.int .u64 (g i : Nat))] := by simp [u6D, h]
theorem vt {n : Nat} {f g : Nat -> Nat} (h : ∀ i, i < n -> f i = g i) : u6D n f = u6D n g := List.map_congr_left fun i hi => by rw [h i (List.mem_range.1 hi)]
theorem xl {n i x : Nat} {f g : Nat -> Nat} (hi : i < n) (h : ∀ k, k < n -> g k = if k = i then x else f k) : (u6D n f).set i [.lit (.int .u64 (x : Nat))] = u6D n g := by
 apply List.ext_getElem?
 intro k
 rw [List.getElem?_set, od]
 rcases Nat.lt_or_ge k n with hk | hk
 ·rw [jP hk, jP hk, h k hk]
  by_cases e : i = k
  ·rw [if_pos e, if_pos (by omega), if_pos e.symm]
  ·rw [if_neg e, if_neg (Ne.symm e)]
 ·rw [if_neg (by omega), List.getElem?_eq_none (by rw [od]; omega), List.getElem?_eq_none (by rw [od]; omega)]
theorem Be {n j : Nat} {g : Nat -> Nat} {el : List DC} (h : (u6D n g)[j]? = some el) : el.length = 1 := by
 simp only [u6D, List.getElem?_map] at h
 cases hr : (List.range n)[j]? with
 | none => rw [hr] at h; cases h
 | some v => rw [hr] at h; cases h; rfl

set_option maxHeartbeats 1000000 in
theorem HY (n v left : Nat) (g : Nat -> Nat) (hn : n <= 64) (hv : v < n) (hl : left < 2 ^ n) (hg : ∀ w, g w < 2 ^ 64) :
  Ik Tryz.prog 75 [.val (.one (.own 999 1 0 n)), dI v, dL left] (.arr 1 (u6D n g)) (.tup []) (.arr 1 (u6D n (yd g v left))) := by
 have hl6 : left < 18446744073709551616 := Nat.lt_of_lt_of_le hl (Nat.pow_le_pow_right (by decide) hn)
 have hgv : g v < 18446744073709551616 := hg v
 refine ym (fn := Tryz.f75) tok Tryz.func75 (by kernel_rfl) rfl rfl rfl rfl rfl rfl ?_
 intro w0 X
 rw [AC _ _ _ [(0, .val (.one (.own 999 1 0 n))), (1, dI v), (2, dL left)] rfl rfl];refine gQ fun _ O=>?_;refine Z9 ?_;refine Z9 ?_;refine aa rfl (x_o (i := v) (j := v) rfl rfl rfl rfl rfl hv (Nat.zero_add _)) rfl ?_;refine aM rfl (l_o rfl rfl (jP hv) rfl rfl) rfl ?_;refine Z9 ?_;refine ai rfl (kt hgv hl6) rfl ?_;refine Z8 ?_;refine eQ O ?_;clear O
 have hnear : g v &&& left < 2 ^ n := by rw [Nat.and_comm]; exact kx hl
 generalize hN : g v &&& left = near at hnear
 have hn6 : near < 18446744073709551616 := Nat.lt_of_lt_of_le hnear (Nat.pow_le_pow_right (by decide) hn)
 refine gQ fun _ O=>?_;refine Z9 ?_;refine Z8 ?_;refine eQ O ?_;clear O;refine ae (aG (α := Nat) (fun r => mk 34 [(0, .val (.one (.own 999 1 0 n))), (6, dL near), (7, dL r)] [(999, some (.arr 1 (u6D n (nQ g near r))))] []) (fun r => ∀ k, r.testBit k = true -> near.testBit k = true) (fun r => r) near ?_ (fun _ h => h) ?_)
 ·exact Wk.mk' ⟨rfl, rfl, rfl, trivial⟩ ⟨congrArg (fun x => some (OO.arr 1 x)) (vt fun w _ => (HX g near w).symm), trivial⟩
 intro r hr
 have hr64 : r < 2 ^ 64 := jB fun k hk => by
  cases h : r.testBit k
  ·rfl
  ·have := p9 hnear (hr k h); omega
 have hr6 : r < 18446744073709551616 := hr64
 refine ab ?_;refine gQ fun _ O=>?_;refine Z9 ?_;refine Z6 ?_;refine eQ O ?_;clear O;refine aj rfl (fun hc => ?_) (fun hc => ?_)
 ·have h0 : r ≠ 0 := by intro e; subst e; simp at hc
  obtain ⟨h1, h2, _, _⟩ := iM h0 hr64
  have hc0 := Dy h0
  have cT := xm r hr64
  have st := AD (g := g) h0 hr64 hr
  generalize Go.Lib.ctz 64 r = w at h1 h2 cT st
  have hw : w < n := p9 hnear (hr w h2)
  have hx : nQ g near r w < 18446744073709551616 := FC hg hn6
  have hb : bdif near (2 ^ w) < 18446744073709551616 := ip (n := 64) hn6
  refine ag ?_;show AWP _ _ _ _ _ _;refine ab ?_;refine ae ?_;refine gQ fun _ O=>?_;refine Z9 ?_;refine ac rfl rfl (cT) rfl rfl rfl rfl ?_;refine Z8 ?_;refine eQ O ?_;clear O;refine bJ tok mixed (A := [[], [], [], [0, 1], [], [], [], [5], [0, 1, 2, 4, 5, 6], [], []]) (an := [{}, {}, {}, {}, {}, {}, {}, {}, {}, {}, {}]) rfl (by kernel_rfl) rfl fun _ O=>?_;refine Z9 ?_;refine Z9 ?_;refine aa rfl (x_o (i := w) (j := w) rfl rfl rfl rfl rfl hw (Nat.zero_add _)) rfl ?_;refine aM rfl (l_o rfl rfl (jP hw) rfl rfl) rfl ?_;refine Z9 ?_;refine Z9 ?_;refine ai rfl (cC h1) rfl ?_;refine ai rfl (Dj hn6 (Ai h1)) rfl ?_;refine ai rfl (rE hx hb) rfl ?_;refine aa rfl (x_o (i := w) (j := w) rfl rfl rfl rfl rfl hw (Nat.zero_add _)) rfl ?_;refine ak rfl (tM (ds := [.lit (.int .u64 (nQ g near r w ||| bdif near (2 ^ w) : Nat))]) rfl rfl (by rw [od]; exact hw) (fun _ h => Be h) rfl rfl rfl) rfl rfl rfl ?_;refine eQ O ?_;clear O
  rw [xl (g := nQ g near (clr r)) hw (fun k _ => by
   rw [st k]
   by_cases e : k = w
   ·rw [if_pos e, if_pos e, e]
   ·rw [if_neg e, if_neg e])]
  show AWP _ _ _ _ _ _;refine gR fun _ O=>?_;refine Z9 ?_;refine Z9 ?_;refine ai rfl (mG (x := r) (y := 1) (z := r - 1) (by omega) (by omega)) rfl ?_;refine ai rfl (kt hr6 (by omega)) rfl ?_;refine Z8 ?_;refine eQ O ?_;clear O;exact ⟨clr r, hc0, fun k hk => hr k (by unfold clr at hk; rw [Nat.testBit_and, Bool.and_eq_true] at hk; exact hk.1), Wk.mk' ⟨rfl, rfl, rfl, trivial⟩ ⟨rfl, trivial⟩⟩
 have h0 : r = 0 := by
  have h1 : (!decide ((r : Int) = 0)) = false := hc
  simpa using h1
 subst h0
 refine ax ?_;refine ⟨⟨[], rfl, rfl⟩, ?_⟩
 show some _ = some _
 refine congrArg some (congrArg (OO.arr 1) (vt fun w _ => ?_));rw [<- hN]; exact C8 g v left w
end Go.Proofs.YtceacleokgoooaaGreatDoor

/- Largest cliques: the first longest one in the order of lists; a search that leaves out what can't be longer finds it. No condition. -/
namespace Go.Proofs.YtceacleokgoooaaGreatDoor

section
variable (A : Nat -> Nat -> Bool)
variable {A}
end
end Go.Proofs.YtceacleokgoooaaGreatDoor

/- Sets of vertices as bits: their lists. No condition. -/
namespace Go.Proofs.YtceacleokgoooaaGreatDoor

def dQ (n x : Nat) : List Nat := (List.range n).filter fun k => x.testBit k
theorem nC {n x k : Nat} : k ∈ dQ n x ↔ k < n /\ x.testBit k = true := by
 unfold dQ; rw [List.mem_filter, List.mem_range]
theorem qR (n x : Nat) : (dQ n x).length <= n := by
 have := List.length_filter_le (fun k => x.testBit k) (List.range n)
 rwa [List.length_range] at this
theorem sZ (n : Nat) : dQ n 0 = [] := List.filter_eq_nil_iff.2 fun k _ => by rw [Nat.zero_testBit]; simp
theorem wE {n x : Nat} (h : x < 2 ^ n) (e : dQ n x = []) : x = 0 := Ec fun k => by
 by_cases hk : k < n
 ·cases hb : x.testBit k with
  | false => rfl
  | true => have : k ∈ dQ n x := nC.2 ⟨hk, hb⟩; rw [e] at this; cases this
 ·exact iA h (by omega)
theorem kV (n x : Nat) : (dQ n x).Pairwise (· < ·) := List.Pairwise.filter _ List.pairwise_lt_range
theorem uz {n x : Nat} {l : List Nat} (hs : l.Pairwise (· < ·)) (h : ∀ k, k ∈ l ↔ k < n /\ x.testBit k = true) : dQ n x = l := by
 refine List.Perm.eq_of_pairwise (le := (· < ·)) (fun a b _ _ h1 h2 => absurd h1 (Nat.lt_asymm h2)) (kV n x) hs ?_;refine (List.perm_ext_iff_of_nodup ((kV n x).imp Nat.ne_of_lt) (hs.imp Nat.ne_of_lt)).2 fun k => ?_;rw [nC, h]
theorem CF (n : Nat) : dQ n (2 ^ n - 1) = List.range n := uz List.pairwise_lt_range fun k => by
 rw [List.mem_range, Nat.testBit_two_pow_sub_one]; simp
theorem oB {n x : Nat} (h0 : x ≠ 0) (h : x < 2 ^ n) : dQ n x = Go.Lib.ctz n x :: dQ n (clr x) := by
 obtain ⟨h1, h2, h3, h4⟩ := iM h0 h
 refine uz (List.pairwise_cons.2 ⟨fun k hk => ?_, kV _ _⟩) fun k => ?_
 ·have hk := nC.1 hk
  rw [h4 k] at hk;simp only [Bool.and_eq_true, decide_eq_true_eq] at hk
  rcases Nat.lt_or_ge k (Go.Lib.ctz n x) with g | g
  ·rw [h3 k g] at hk; simp at hk
  ·omega
 ·rw [List.mem_cons, nC, h4 k];simp only [Bool.and_eq_true, decide_eq_true_eq]
  constructor
  ·rintro (rfl | ⟨g1, g2, _⟩)
   ·exact ⟨h1, h2⟩
   ·exact ⟨g1, g2⟩
  ·rintro ⟨g1, g2⟩
   by_cases e : k = Go.Lib.ctz n x
   ·exact Or.inl e
   ·exact Or.inr ⟨g1, g2, e⟩
end Go.Proofs.YtceacleokgoooaaGreatDoor

/- Appending to a slice that is nil at first and then an own array: one step for both. No condition. -/
namespace Go.Proofs.YtceacleokgoooaaGreatDoor
open Go.RowKit
theorem JB {id sz L : Nat} : nfV (bU id sz L) = .set (bU id sz L) := by cases L <;> rfl
section
variable {P : Program} {T : Tab} {ops : List Oper} {rest : List (Oper × Ann)} {K : St -> Prop} {n : Nat} {E : List (Nat × SV)} {S : List (Nat × Option OO)} {rb : List Nat}
theorem GY {x0 x1 : Operand} {t t2 e e2 : TypeId} {ti ei ti2 : TI} {d id sz len : Nat} {es new : List (List DC)} {ty : TypeId} {ps : String} {af : Array Edge} {g : Option (Nat × Bool)} {an : Ann}
  (hw : bL ops n E ⟨some d, .call ⟨.builtin .append, #[x0, x1], #[t, t2]⟩, ty, ps, af, g⟩ = some true)
  (hx : rd n E x0 = bU id sz len) (hS : so S id = ca sz es len) (h1 : T t = some ti) (h2 : ti.und = .slice e) (h3 : T e = some ei) (h4 : T t2 = some ti2) (h5 : ti2.und = .slice e2)
  (hsz : sz = ei.size) (h0 : ei.size ≠ 0) (h6 : ei.bytes <= 256) (hy : ge ⟨[], so S, []⟩ (rd n E x1) = some new) (hnew : ∀ e ∈ new, e.length = ei.size)
  (hl : len = es.length) (h7 : 0 < new.length) (hb : len + new.length <= 68719476736) (hr : c8 E S rb d = true) (hc1 : xb (mk n E S rb) none an.d = true) (hc2 : xb (mk n E S rb) (some id) an.d = true)
  (h : aA P T ops rest K (mk n ((d, bU d sz (len + new.length)) :: E) ((d, ca sz (es ++ new) (len + new.length)) :: (id, none) :: S) rb)) :
  aA P T ops ((⟨some d, .call ⟨.builtin .append, #[x0, x1], #[t, t2]⟩, ty, ps, af, g⟩, an) :: rest) K (mk n E S rb) := by
 obtain ⟨m, hm⟩ : ∃ m, len + new.length = m + 1 := ⟨len + new.length - 1, by omega⟩
 have e1 : bU d sz (len + new.length) = .val (.one (.own d sz 0 (es ++ new).length)) := by rw [hm, List.length_append, <- hl, hm]; rfl
 have e2' : ca sz (es ++ new) (len + new.length) = some (.arr sz (es ++ new)) := by rw [hm]; rfl
 rw [e1, e2'] at h
 cases len with
 | zero =>
  have he : es = [] := List.length_eq_zero_iff.1 hl.symm
  subst he
  rw [List.nil_append] at h
  have hSn : so S id = none := hS
  have eq : so ((d, some (OO.arr sz new)) :: (id, none) :: S) = so ((d, some (OO.arr sz new)) :: S) := by
   funext k
   rw [aD, aD, aD]
   by_cases a : d = k
   ·rw [if_pos a, if_pos a]
   ·rw [if_neg a, if_neg a]
    by_cases b : id = k
    ·rw [if_pos b, <- b, hSn]
    ·rw [if_neg b]
  refine aO (sz := sz) (es := new) (id := none) hw ?_ hr hc1 rfl ?_
  ·show aQ T ⟨[], so S, []⟩ (.builtin .append) [rd n E x0, rd n E x1] [t, t2] = _
   rw [hsz];exact dS h1 h2 h3 h4 h5 h0 h6 hy hnew hx h7 (by omega)
  ·have e3 : mk n ((d, .val (.one (.own d sz 0 new.length))) :: E) ((d, some (.arr sz new)) :: (id, none) :: S) rb = mk n ((d, .val (.one (.own d sz 0 new.length))) :: E) ((d, some (.arr sz new)) :: S) rb := by
    simp only [mk, eq]
   rw [<- e3]; exact h
 | succ len =>
  refine aO (sz := sz) (es := es ++ new) (id := some id) hw ?_ hr hc2 rfl h
  show aQ T ⟨[], so S, []⟩ (.builtin .append) [rd n E x0, rd n E x1] [t, t2] = _
  exact jn h1 h2 h3 h4 h5 hsz h0 h6 hy hnew hx hS hl hb
end
end Go.Proofs.YtceacleokgoooaaGreatDoor

/- Patterns: rising pairs, their sets of neighbours. No condition. -/
namespace Go.Proofs.YtceacleokgoooaaGreatDoor

def prD (p : Nat × Nat) : List DC := [lI p.1, lI p.2]
structure OKp (n : Nat) (ps : List (Nat × Nat)) : Prop where
 n64 : n <= 64
 b : ∀ p ∈ ps, p.1 < p.2 /\ p.2 < n
 up : ∀ i (h : i + 1 < ps.length), ps[i].1 < ps[i + 1].1 \/ ps[i].1 = ps[i + 1].1 /\ ps[i].2 < ps[i + 1].2
theorem Iy (x v : Nat) : x / 2 ^ v &&& 1 = if x.testBit v = true then 1 else 0 := by
 rw [Nat.and_one_is_mod]
 have := Nat.toNat_testBit x v
 rw [<- this]
 cases x.testBit v <;> rfl
def kE (ps : List (Nat × Nat)) : Nat -> Nat -> Nat
 | 0, _ => 0
 | k + 1, w => let p := ps.getD k (0, 0)
  let g := kE ps k
  let g1 := fun w => if w = p.1 then g w ||| 2 ^ p.2 else g w
  if w = p.2 then g1 w ||| 2 ^ p.1 else g1 w
theorem pU {n : Nat} {ps : List (Nat × Nat)} (ok : OKp n ps) : ∀ k w, kE ps k w < 2 ^ 64
 | 0, w => by show 0 < 2 ^ 64; exact Nat.pow_pos (by decide)
 | k + 1, w => by
  have h := pU ok k w
  have n64 := ok.n64
  have hp : (ps.getD k (0, 0)).1 < 64 /\ (ps.getD k (0, 0)).2 < 64 := by
   rcases Nat.lt_or_ge k ps.length with hk | hk
   ·have hp := ok.b _ (List.getElem_mem hk)
    have e : ps.getD k (0, 0) = ps[k] := by rw [List.getD_eq_getElem?_getD, List.getElem?_eq_getElem hk]; rfl
    rw [e]; exact ⟨by omega, by omega⟩
   ·have e : ps.getD k (0, 0) = (0, 0) := by rw [List.getD_eq_getElem?_getD, List.getElem?_eq_none hk]; rfl
    rw [e]; exact ⟨by decide, by decide⟩
  have a := io hp.1
  have b := io hp.2
  simp only [kE]
  split
  ·split
   ·exact iN (iN h b) a
   ·exact iN h a
  ·split
   ·exact iN h b
   ·exact h
def prR (q : Nat -> Nat -> Bool) (a : Nat) : Nat -> List (Nat × Nat)
 | 0 => []
 | b + 1 => prR q a b ++ if a < b /\ q a b = true then [(a, b)] else []
def prP (q : Nat -> Nat -> Bool) (n : Nat) : Nat -> List (Nat × Nat)
 | 0 => []
 | a + 1 => prP q n a ++ prR q a n
theorem Cf (q : Nat -> Nat -> Bool) (a : Nat) : ∀ b, b <= a + 1 -> prR q a b = []
 | 0, _ => rfl
 | b + 1, h => by rw [prR, Cf q a b (by omega), if_neg (by omega)]; rfl
theorem pN {q : Nat -> Nat -> Bool} {a : Nat} {p : Nat × Nat} : ∀ {n}, p ∈ prR q a n ↔ p.1 = a /\ a < p.2 /\ p.2 < n /\ q a p.2 = true
 | 0 => by simp [prR]
 | n + 1 => by
  rw [prR, List.mem_append, pN (n := n)]
  constructor
  ·rintro (h | h)
   ·exact ⟨h.1, h.2.1, by omega, h.2.2.2⟩
   ·split at h
    ·rename_i hc
     rw [List.mem_singleton] at h
     subst h
     exact ⟨rfl, hc.1, by show n < n + 1; omega, hc.2⟩
    ·cases h
  ·rintro ⟨h1, h2, h3, h4⟩
   by_cases e : p.2 = n
   ·right
    rw [<- e, if_pos ⟨h2, h4⟩, List.mem_singleton]
    obtain ⟨x, y⟩ := p
    simp only at h1; rw [h1]
   ·exact Or.inl ⟨h1, h2, by omega, h4⟩
theorem nB {q : Nat -> Nat -> Bool} {n : Nat} {p : Nat × Nat} : ∀ {m}, p ∈ prP q n m ↔ p.1 < m /\ p.1 < p.2 /\ p.2 < n /\ q p.1 p.2 = true
 | 0 => by simp [prP]
 | m + 1 => by
  rw [prP, List.mem_append, nB (m := m), pN]
  constructor
  ·rintro (h | ⟨h1, h2, h3, h4⟩)
   ·exact ⟨by omega, h.2⟩
   ·exact ⟨by omega, by omega, h3, by rw [h1]; exact h4⟩
  ·rintro ⟨h1, h2, h3, h4⟩
   by_cases e : p.1 = m
   ·right; exact ⟨e, by omega, h3, by rw [<- e]; exact h4⟩
   ·left; exact ⟨by omega, h2, h3, h4⟩
def IU (p r : Nat × Nat) : Prop := p.1 < r.1 \/ p.1 = r.1 /\ p.2 < r.2
theorem vZ (q : Nat -> Nat -> Bool) (a : Nat) : ∀ n, (prR q a n).Pairwise IU
 | 0 => List.Pairwise.nil
 | n + 1 => by
  rw [prR, List.pairwise_append];refine ⟨vZ q a n, by split <;> simp, fun x hx y hy => ?_⟩
  split at hy
  ·rw [List.mem_singleton] at hy
   subst hy
   have := pN.1 hx
   exact Or.inr ⟨this.1, this.2.2.1⟩
  ·cases hy
theorem v6 (q : Nat -> Nat -> Bool) (n : Nat) : ∀ m, (prP q n m).Pairwise IU
 | 0 => List.Pairwise.nil
 | m + 1 => by
  rw [prP, List.pairwise_append];refine ⟨v6 q n m, vZ q m n, fun x hx y hy => ?_⟩
  have h1 := nB.1 hx
  have h2 := pN.1 hy
  exact Or.inl (by omega)
theorem Hq (q : Nat -> Nat -> Bool) {n : Nat} (hn : n <= 64) (m : Nat) : OKp n (prP q n m) where
 n64 := hn
 b := fun p hp => by have := nB.1 hp; exact ⟨this.2.1, this.2.2.1⟩
 up := fun i h => List.pairwise_iff_getElem.1 (v6 q n m) i (i + 1) (by omega) h (by omega)
theorem ug (q : Nat -> Nat -> Bool) (a : Nat) : ∀ b, (prR q a b).length <= b
 | 0 => Nat.le_refl _
 | b + 1 => by
  have := ug q a b
  rw [prR, List.length_append]
  split <;> simp <;> omega
theorem uh (q : Nat -> Nat -> Bool) (n : Nat) : ∀ a, (prP q n a).length <= a * n
 | 0 => by simp [prP]
 | a + 1 => by
  have := uh q n a
  have := ug q a n
  rw [prP, List.length_append, Nat.succ_mul]; omega
theorem zF {n : Nat} {ps : List (Nat × Nat)} (ok : OKp n ps) (a b : Nat) : ∀ k, k <= ps.length -> ((kE ps k a).testBit b = true ↔ (a, b) ∈ ps.take k \/ (b, a) ∈ ps.take k)
 | 0, _ => by simp [kE]
 | k + 1, hk => by
  have ih := zF ok a b k (by omega)
  have e : ps.getD k (0, 0) = ps[k] := by rw [List.getD_eq_getElem?_getD, List.getElem?_eq_getElem (by omega)]; rfl
  have hp := ok.b _ (List.getElem_mem (show k < ps.length by omega))
  have et : ps.take (k + 1) = ps.take k ++ [ps[k]] := by rw [List.take_add_one, List.getElem?_eq_getElem (by omega)]; rfl
  rw [et, List.mem_append, List.mem_append, List.mem_singleton, List.mem_singleton];simp only [kE, e];generalize ps[k] = p at hp ⊢
  obtain ⟨x, y⟩ := p
  simp only [Prod.mk.injEq]
  have tx : (2 ^ x).testBit b = decide (x = b) := kL x b
  have ty : (2 ^ y).testBit b = decide (y = b) := kL y b
  by_cases h1 : a = y
  ·rw [if_pos h1]
   by_cases h2 : a = x
   ·rw [if_pos h2, Nat.testBit_or, Nat.testBit_or, tx, ty];simp only [Bool.or_eq_true, decide_eq_true_eq, ih]
    constructor
    ·rintro ((h | h) | h)
     ·rcases h with h | h <;> simp [h]
     ·omega
     ·omega
    ·rintro ((h | h) | (h | h))
     ·simp [h]
     ·omega
     ·simp [h]
     ·omega
   ·rw [if_neg h2, Nat.testBit_or, tx];simp only [Bool.or_eq_true, decide_eq_true_eq, ih]
    constructor
    ·rintro (h | h)
     ·rcases h with h | h <;> simp [h]
     ·right; right; exact ⟨h.symm, h1⟩
    ·rintro ((h | h) | (h | h))
     ·simp [h]
     ·omega
     ·simp [h]
     ·right; omega
  ·rw [if_neg h1]
   by_cases h2 : a = x
   ·rw [if_pos h2, Nat.testBit_or, ty];simp only [Bool.or_eq_true, decide_eq_true_eq, ih]
    constructor
    ·rintro (h | h)
     ·rcases h with h | h <;> simp [h]
     ·left; right; exact ⟨h2, h.symm⟩
    ·rintro ((h | h) | (h | h))
     ·simp [h]
     ·right; omega
     ·simp [h]
     ·omega
   ·rw [if_neg h2, ih]
    constructor
    ·rintro (h | h) <;> simp [h]
    ·rintro ((h | h) | (h | h))
     ·simp [h]
     ·omega
     ·simp [h]
     ·omega
theorem DF {n : Nat} {ps : List (Nat × Nat)} (ok : OKp n ps) (a b : Nat) : (kE ps ps.length a).testBit b = true ↔ (a, b) ∈ ps \/ (b, a) ∈ ps := by
 have := zF ok a b ps.length (Nat.le_refl _)
 rwa [List.take_length] at this

theorem Cm {id sz L : Nat} {α : Type} {l : List α} {x : α} (h : l.length = L) : bU id sz (l ++ [x]).length = .val (.one (.own id sz 0 (L + 1))) := by rw [List.length_append, h]; rfl
theorem DJ {sz L : Nat} {α : Type} {f : α -> List DC} {l : List α} {x : α} (h : l.length = L) : ca sz ((l ++ [x]).map f) (l ++ [x]).length = some (.arr sz (l.map f ++ [f x])) := by rw [List.length_append, h, List.map_append]; rfl
theorem Ce {q : Nat -> Nat -> Bool} {a b : Nat} (h : a < b) : prR q a (b + 1) = prR q a b ++ if q a b = true then [(a, b)] else [] := by
 rw [prR]
 by_cases hq : q a b = true
 ·rw [if_pos ⟨h, hq⟩, if_pos hq]
 ·rw [if_neg (fun x => hq x.2), if_neg hq]
end Go.Proofs.YtceacleokgoooaaGreatDoor

/- ordering: Valid, build, permutation, filled. No condition. -/
namespace Go.Proofs.YtceacleokgoooaaGreatDoor
attribute [local irreducible] aA

section
variable {T : Tab} {t : TypeId}
theorem uQ {x : Nat} {c : Bool} (h : decide (x ≠ 0) = c) : aK T .neq t (dL x) (dL 0) = .set (dB c) := by
 subst h
 have : (!decide ((x : Int) = 0)) = decide (x ≠ 0) := by
  by_cases e : x = 0
  ·simp [e]
  ·simp [e]
 show Eff.set (dB (!decide ((x : Int) = 0))) = _
 rw [this]
theorem Dd {x s : Nat} (hs : s <= 64) : aK T .shr t (dL x) (dI s) = .set (dL (x / 2 ^ s)) := mH hs rfl
end
set_option maxHeartbeats 1000000 in
theorem wn (n : Nat) (ps : List (Nat × Nat)) (ok : OKp n ps) (hl : ps.length <= 4096) : Con Tryz.prog 70 [dI n, V1 (.sl (ps.map prD))] { v := dB true } := by
 have n64 := ok.n64
 refine Z3 Tryz.func70 ?_
 intro w0 X
 rw [ap _ _ [(0, dI n), (1, V1 (.sl (ps.map prD)))] rfl rfl];refine gQ fun _ O=>?_;refine Z8 ?_;refine eQ O ?_;clear O;refine ab ?_;refine gQ fun _ O=>?_;refine Z9 ?_;refine ai rfl (lV (c := false) (decide_eq_false (by omega))) rfl ?_;refine Z9 ?_;refine Z9 ?_;refine ai rfl (kr (c := false) (decide_eq_false (by omega))) rfl ?_;refine Z4 ?_;refine eQ O ?_;clear O;refine aj rfl (fun h => by cases h) (fun _ => ?_);refine ag ?_;show AWP _ _ _ _ _ _;refine ab ?_;refine gQ fun _ O=>?_;refine Z9 ?_;refine az rfl (bZ prD rfl rfl) rfl ?_;refine Z9 ?_;refine eQ O ?_;clear O;refine ae (aG (α := Nat) (fun i => mk 72 [(0, dI n), (1, V1 (.sl (ps.map prD))), (13, V1 (.sl (ps.map prD))), (14, dI ps.length), (15, dI i)] [] []) (fun i => i <= ps.length) (fun i => ps.length - i) 0 ?_ (Nat.zero_le _) ?_)
 ·exact Wk.mk' ⟨rfl, rfl, rfl, rfl, rfl, trivial⟩ trivial
 intro i hi
 refine gQ fun _ O=>?_;refine Z6 ?_;refine eQ O ?_;clear O;refine ab ?_;refine aj rfl (fun hc => ?_) (fun hc => ?_)
 ·have hg : i < ps.length := by simp at hc; omega
  obtain ⟨h1, h2⟩ := ok.b _ (List.getElem_mem hg)
  refine ag ?_;show AWP _ _ _ _ _ _;refine ab ?_;refine ae ?_;refine gQ fun _ O=>?_;refine Z9 ?_;refine aa rfl (x_m prD rfl rfl rfl rfl hg rfl) rfl ?_;refine Z7 ?_;refine ay rfl rfl rfl rfl rfl rfl ?_;refine Z8 ?_;refine ak rfl rfl rfl rfl rfl ?_;refine eQ O ?_;clear O;refine ab ?_;refine gQ fun _ O=>?_;refine Z5 ?_;refine Z7 ?_;refine ai rfl (lV (c := false) (decide_eq_false (by omega))) rfl ?_;refine Z9 ?_;refine Z5 ?_;refine Z7 ?_;refine Z5 ?_;refine Z7 ?_;refine ai rfl (lW (c := false) (decide_eq_false (by omega))) rfl ?_;refine Z4 ?_;refine Z9 ?_;refine Z5 ?_;refine Z7 ?_;refine Z9 ?_;refine ai rfl (lW (c := false) (decide_eq_false (by omega))) rfl ?_;refine Z4 ?_;refine eQ O ?_;clear O;refine aj rfl (fun h => by cases h) (fun _ => ?_);refine ag ?_;show AWP _ _ _ _ _ _
  rcases Nat.eq_zero_or_pos i with h0 | h0
  ·refine aL tok mixed (A := [[], [], [0], [0, 1], [0, 1], [0, 1], [0, 1, 4], [0, 1, 3, 4, 5], [0, 1, 3, 4, 5, 6], [0, 1], [0, 1], [0, 1, 3, 4, 5, 6, 7, 9], [0, 1, 3, 4, 5, 6, 7, 8, 9, 10], [0, 1, 2, 3, 4, 5, 6, 7, 8, 9, 10, 11], [0, 1, 2, 3, 4, 5, 6, 7, 8, 9, 10, 11], [0, 1, 2, 3, 4, 5, 6, 7, 8, 9, 10, 11], [0, 1, 2, 3, 4, 5, 6, 7, 8, 9, 10, 11, 14], [0, 1, 2, 3, 4, 5, 6, 7, 8, 9, 10, 11, 13, 14, 15], [0, 1, 2, 3, 4, 5, 6, 7, 8, 9, 10, 11, 13, 14, 15, 16], [0, 1, 2, 3, 4, 5, 6, 7, 8, 9, 10, 11], [0, 1, 2, 3, 4, 5, 6, 7, 8, 9, 10, 11], [0, 1, 2, 3, 4, 5, 6, 7, 8, 9, 10, 11, 13, 14, 15, 16, 17, 19], [0, 1, 2, 3, 4, 5, 6, 7, 8, 9, 10, 11, 13, 14, 15, 16, 17, 18, 19, 20], [0, 1, 2, 3, 4, 5, 6, 7, 8, 9, 10, 11, 12, 13, 14, 15, 16, 17, 18, 19, 20, 21], [0, 1, 2, 3, 4, 5, 6, 7, 8, 9, 10, 11, 12, 13, 14, 15, 16, 17, 18, 19, 20, 21], [0, 1, 2, 3, 4, 5, 6, 7, 8, 9, 10, 11, 12, 13, 14, 15, 16, 17, 18, 19, 20, 21], [0, 1, 2, 3, 4, 5, 6, 7, 8, 9, 10, 11, 12, 13, 14, 15, 16, 17, 18, 19, 20, 21, 24], [0, 1, 2, 3, 4, 5, 6, 7, 8, 9, 10, 11, 12, 13, 14, 15, 16, 17, 18, 19, 20, 21, 23, 24, 25], [0, 1, 2, 3, 4, 5, 6, 7, 8, 9, 10, 11, 12, 13, 14, 15, 16, 17, 18, 19, 20, 21, 23, 24, 25, 26], [0, 1, 2, 3, 4, 5, 6, 7, 8, 9, 10, 11, 12, 13, 14, 15, 16, 17, 18, 19, 20, 21], [0, 1, 2, 3, 4, 5, 6, 7, 8, 9, 10, 11, 12, 13, 14, 15, 16, 17, 18, 19, 20, 21], [0, 1, 2, 3, 4, 5, 6, 7, 8, 9, 10, 11, 12, 13, 14, 15, 16, 17, 18, 19, 20, 21, 23, 24, 25, 26, 27, 29], [0, 1, 2, 3, 4, 5, 6, 7, 8, 9, 10, 11, 13, 14, 15, 16, 17, 18, 19, 20, 21, 23, 24, 25, 26, 27, 28, 29, 30], [0, 1, 3, 4, 5, 6, 7, 8, 9, 10, 11, 13, 14, 15, 16, 17, 18, 19, 20, 21, 22, 23, 24, 25, 26, 27, 28, 29, 30, 31], [0, 1, 3, 4, 5, 6, 7, 8, 9, 10, 11, 12, 13, 14, 15, 16, 17, 18, 19, 20, 21, 22, 23, 24, 25, 26, 27, 28, 29, 30, 31, 32]]) (an := [{}, {}, {}, {}, {}, {}, {}, {}, {}, {}, {}, {}, {}, {}, {}, {}, {}, {}, {}, {}, {}, {}, {}, {}, {}, {}, {}, {}, {}, {}, {}, {}, {}, {}, {}]) rfl (by kernel_rfl) rfl fun _ O=>?_;refine Z9 ?_;refine ai rfl (kr (c := false) (decide_eq_false (by omega))) rfl ?_;refine Z9 ?_;refine aw rfl ?_;refine aw rfl ?_;refine aw rfl ?_;refine aw rfl ?_;refine aw rfl ?_;refine aw rfl ?_;refine aw rfl ?_;refine aw rfl ?_;refine aw rfl ?_;refine aw rfl ?_;refine aw rfl ?_;refine aw rfl ?_;refine aw rfl ?_;refine aw rfl ?_;refine aw rfl ?_;refine aw rfl ?_;refine aw rfl ?_;refine aw rfl ?_;refine aw rfl ?_;refine aw rfl ?_;refine aw rfl ?_;refine aw rfl ?_;refine aw rfl ?_;refine aw rfl ?_;refine aw rfl ?_;refine aw rfl ?_;refine aw rfl ?_;refine aw rfl ?_;refine aw rfl ?_;refine aw rfl ?_;refine aw rfl ?_;refine Z4 ?_;refine eQ O ?_;clear O;refine aj rfl (fun h => by cases h) (fun _ => ?_);refine ag ?_;show AWP _ _ _ _ _ _;refine gR fun _ O=>?_;refine ai rfl (aF (c := ((i + 1 : Nat) : Int)) (by omega) (by omega)) rfl ?_;refine Z9 ?_;refine eQ O ?_;clear O;exact ⟨i + 1, by omega, by omega, Wk.mk' ⟨rfl, rfl, rfl, rfl, rfl, trivial⟩ trivial⟩
  obtain ⟨j, rfl⟩ : ∃ j, i = j + 1 := ⟨i - 1, by omega⟩
  have hgj : j < ps.length := by omega
  have ej : ((j + 1 : Nat) : Int) - 1 = ((j : Nat) : Int) := by omega
  rcases ok.up j hg with hu | ⟨hu, hv⟩
  ·refine aL tok mixed (A := [[], [], [0], [0, 1], [0, 1], [0, 1], [0, 1, 4], [0, 1, 3, 4, 5], [0, 1, 3, 4, 5, 6], [0, 1], [0, 1], [0, 1, 3, 4, 5, 6, 7, 9], [0, 1, 3, 4, 5, 6, 7, 8, 9, 10], [0, 1, 2, 3, 4, 5, 6, 7, 8, 9, 10, 11], [0, 1, 2, 3, 4, 5, 6, 7, 8, 9, 10, 11], [0, 1, 2, 3, 4, 5, 6, 7, 8, 9, 10, 11], [0, 1, 2, 3, 4, 5, 6, 7, 8, 9, 10, 11, 14], [0, 1, 2, 3, 4, 5, 6, 7, 8, 9, 10, 11, 13, 14, 15], [0, 1, 2, 3, 4, 5, 6, 7, 8, 9, 10, 11, 13, 14, 15, 16], [0, 1, 2, 3, 4, 5, 6, 7, 8, 9, 10, 11], [0, 1, 2, 3, 4, 5, 6, 7, 8, 9, 10, 11], [0, 1, 2, 3, 4, 5, 6, 7, 8, 9, 10, 11, 13, 14, 15, 16, 17, 19], [0, 1, 2, 3, 4, 5, 6, 7, 8, 9, 10, 11, 13, 14, 15, 16, 17, 18, 19, 20], [0, 1, 2, 3, 4, 5, 6, 7, 8, 9, 10, 11, 12, 13, 14, 15, 16, 17, 18, 19, 20, 21], [0, 1, 2, 3, 4, 5, 6, 7, 8, 9, 10, 11, 12, 13, 14, 15, 16, 17, 18, 19, 20, 21], [0, 1, 2, 3, 4, 5, 6, 7, 8, 9, 10, 11, 12, 13, 14, 15, 16, 17, 18, 19, 20, 21], [0, 1, 2, 3, 4, 5, 6, 7, 8, 9, 10, 11, 12, 13, 14, 15, 16, 17, 18, 19, 20, 21, 24], [0, 1, 2, 3, 4, 5, 6, 7, 8, 9, 10, 11, 12, 13, 14, 15, 16, 17, 18, 19, 20, 21, 23, 24, 25], [0, 1, 2, 3, 4, 5, 6, 7, 8, 9, 10, 11, 12, 13, 14, 15, 16, 17, 18, 19, 20, 21, 23, 24, 25, 26], [0, 1, 2, 3, 4, 5, 6, 7, 8, 9, 10, 11, 12, 13, 14, 15, 16, 17, 18, 19, 20, 21], [0, 1, 2, 3, 4, 5, 6, 7, 8, 9, 10, 11, 12, 13, 14, 15, 16, 17, 18, 19, 20, 21], [0, 1, 2, 3, 4, 5, 6, 7, 8, 9, 10, 11, 12, 13, 14, 15, 16, 17, 18, 19, 20, 21, 23, 24, 25, 26, 27, 29], [0, 1, 2, 3, 4, 5, 6, 7, 8, 9, 10, 11, 13, 14, 15, 16, 17, 18, 19, 20, 21, 23, 24, 25, 26, 27, 28, 29, 30], [0, 1, 3, 4, 5, 6, 7, 8, 9, 10, 11, 13, 14, 15, 16, 17, 18, 19, 20, 21, 22, 23, 24, 25, 26, 27, 28, 29, 30, 31], [0, 1, 3, 4, 5, 6, 7, 8, 9, 10, 11, 12, 13, 14, 15, 16, 17, 18, 19, 20, 21, 22, 23, 24, 25, 26, 27, 28, 29, 30, 31, 32]]) (an := [{}, {}, {}, {}, {}, {}, {}, {}, {}, {}, {}, {}, {}, {}, {}, {}, {}, {}, {}, {}, {}, {}, {}, {}, {}, {}, {}, {}, {}, {}, {}, {}, {}, {}, {}]) rfl (by kernel_rfl) rfl fun _ O=>?_;refine Z9 ?_;refine ai rfl (kr (c := true) (decide_eq_true (by omega))) rfl ?_;refine Z9 ?_;refine Z9 ?_;refine Z9 ?_;refine ai rfl (cJ (c := ((j : Nat) : Int)) ej (by omega)) rfl ?_;refine aa rfl (x_m prD rfl rfl rfl rfl hgj rfl) rfl ?_;refine Z5 ?_;refine Z7 ?_;refine Z5 ?_;refine Z7 ?_;refine ai rfl (kr (c := false) (decide_eq_false (by omega))) rfl ?_;refine Z9 ?_;refine Z9 ?_;refine Z9 ?_;refine ai rfl (cJ (c := ((j : Nat) : Int)) ej (by omega)) rfl ?_;refine aa rfl (x_m prD rfl rfl rfl rfl hgj rfl) rfl ?_;refine Z5 ?_;refine Z7 ?_;refine Z5 ?_;refine Z7 ?_;refine ai rfl (i9 (c := false) (by simp; omega)) rfl ?_;refine Z9 ?_;refine aw rfl ?_;refine aw rfl ?_;refine aw rfl ?_;refine aw rfl ?_;refine aw rfl ?_;refine aw rfl ?_;refine aw rfl ?_;refine aw rfl ?_;refine aw rfl ?_;refine Z4 ?_;refine Z4 ?_;refine Z4 ?_;refine eQ O ?_;clear O;refine aj rfl (fun h => by cases h) (fun _ => ?_);refine ag ?_;show AWP _ _ _ _ _ _;refine gR fun _ O=>?_;refine ai rfl (aF (c := ((j + 1 + 1 : Nat) : Int)) (by omega) (by omega)) rfl ?_;refine Z9 ?_;refine eQ O ?_;clear O;exact ⟨j + 1 + 1, by omega, by omega, Wk.mk' ⟨rfl, rfl, rfl, rfl, rfl, trivial⟩ trivial⟩
  ·refine aL tok mixed (A := [[], [], [0], [0, 1], [0, 1], [0, 1], [0, 1, 4], [0, 1, 3, 4, 5], [0, 1, 3, 4, 5, 6], [0, 1], [0, 1], [0, 1, 3, 4, 5, 6, 7, 9], [0, 1, 3, 4, 5, 6, 7, 8, 9, 10], [0, 1, 2, 3, 4, 5, 6, 7, 8, 9, 10, 11], [0, 1, 2, 3, 4, 5, 6, 7, 8, 9, 10, 11], [0, 1, 2, 3, 4, 5, 6, 7, 8, 9, 10, 11], [0, 1, 2, 3, 4, 5, 6, 7, 8, 9, 10, 11, 14], [0, 1, 2, 3, 4, 5, 6, 7, 8, 9, 10, 11, 13, 14, 15], [0, 1, 2, 3, 4, 5, 6, 7, 8, 9, 10, 11, 13, 14, 15, 16], [0, 1, 2, 3, 4, 5, 6, 7, 8, 9, 10, 11], [0, 1, 2, 3, 4, 5, 6, 7, 8, 9, 10, 11], [0, 1, 2, 3, 4, 5, 6, 7, 8, 9, 10, 11, 13, 14, 15, 16, 17, 19], [0, 1, 2, 3, 4, 5, 6, 7, 8, 9, 10, 11, 13, 14, 15, 16, 17, 18, 19, 20], [0, 1, 2, 3, 4, 5, 6, 7, 8, 9, 10, 11, 12, 13, 14, 15, 16, 17, 18, 19, 20, 21], [0, 1, 2, 3, 4, 5, 6, 7, 8, 9, 10, 11, 12, 13, 14, 15, 16, 17, 18, 19, 20, 21], [0, 1, 2, 3, 4, 5, 6, 7, 8, 9, 10, 11, 12, 13, 14, 15, 16, 17, 18, 19, 20, 21], [0, 1, 2, 3, 4, 5, 6, 7, 8, 9, 10, 11, 12, 13, 14, 15, 16, 17, 18, 19, 20, 21, 24], [0, 1, 2, 3, 4, 5, 6, 7, 8, 9, 10, 11, 12, 13, 14, 15, 16, 17, 18, 19, 20, 21, 23, 24, 25], [0, 1, 2, 3, 4, 5, 6, 7, 8, 9, 10, 11, 12, 13, 14, 15, 16, 17, 18, 19, 20, 21, 23, 24, 25, 26], [0, 1, 2, 3, 4, 5, 6, 7, 8, 9, 10, 11, 12, 13, 14, 15, 16, 17, 18, 19, 20, 21], [0, 1, 2, 3, 4, 5, 6, 7, 8, 9, 10, 11, 12, 13, 14, 15, 16, 17, 18, 19, 20, 21], [0, 1, 2, 3, 4, 5, 6, 7, 8, 9, 10, 11, 12, 13, 14, 15, 16, 17, 18, 19, 20, 21, 23, 24, 25, 26, 27, 29], [0, 1, 2, 3, 4, 5, 6, 7, 8, 9, 10, 11, 13, 14, 15, 16, 17, 18, 19, 20, 21, 23, 24, 25, 26, 27, 28, 29, 30], [0, 1, 3, 4, 5, 6, 7, 8, 9, 10, 11, 13, 14, 15, 16, 17, 18, 19, 20, 21, 22, 23, 24, 25, 26, 27, 28, 29, 30, 31], [0, 1, 3, 4, 5, 6, 7, 8, 9, 10, 11, 12, 13, 14, 15, 16, 17, 18, 19, 20, 21, 22, 23, 24, 25, 26, 27, 28, 29, 30, 31, 32]]) (an := [{}, {}, {}, {}, {}, {}, {}, {}, {}, {}, {}, {}, {}, {}, {}, {}, {}, {}, {}, {}, {}, {}, {}, {}, {}, {}, {}, {}, {}, {}, {}, {}, {}, {}, {}]) rfl (by kernel_rfl) rfl fun _ O=>?_;refine Z9 ?_;refine ai rfl (kr (c := true) (decide_eq_true (by omega))) rfl ?_;refine Z9 ?_;refine Z9 ?_;refine Z9 ?_;refine ai rfl (cJ (c := ((j : Nat) : Int)) ej (by omega)) rfl ?_;refine aa rfl (x_m prD rfl rfl rfl rfl hgj rfl) rfl ?_;refine Z5 ?_;refine Z7 ?_;refine Z5 ?_;refine Z7 ?_;refine ai rfl (kr (c := false) (decide_eq_false (by omega))) rfl ?_;refine Z9 ?_;refine Z9 ?_;refine Z9 ?_;refine ai rfl (cJ (c := ((j : Nat) : Int)) ej (by omega)) rfl ?_;refine aa rfl (x_m prD rfl rfl rfl rfl hgj rfl) rfl ?_;refine Z5 ?_;refine Z7 ?_;refine Z5 ?_;refine Z7 ?_;refine ai rfl (i9 (c := true) (by simp; omega)) rfl ?_;refine Z9 ?_;refine Z9 ?_;refine Z9 ?_;refine ai rfl (cJ (c := ((j : Nat) : Int)) ej (by omega)) rfl ?_;refine aa rfl (x_m prD rfl rfl rfl rfl hgj rfl) rfl ?_;refine Z5 ?_;refine Z7 ?_;refine Z5 ?_;refine Z7 ?_;refine ai rfl (lW (c := false) (decide_eq_false (by omega))) rfl ?_;refine Z4 ?_;refine Z4 ?_;refine Z4 ?_;refine eQ O ?_;clear O;refine aj rfl (fun h => by cases h) (fun _ => ?_);refine ag ?_;show AWP _ _ _ _ _ _;refine gR fun _ O=>?_;refine ai rfl (aF (c := ((j + 1 + 1 : Nat) : Int)) (by omega) (by omega)) rfl ?_;refine Z9 ?_;refine eQ O ?_;clear O;exact ⟨j + 1 + 1, by omega, by omega, Wk.mk' ⟨rfl, rfl, rfl, rfl, rfl, trivial⟩ trivial⟩
 refine ax ?_;show AWP _ _ _ _ _ _;refine gQ fun _ O=>?_;refine Z8 ?_;refine eQ O ?_;clear O;exact al aP

theorem D6 {n : Nat} : List.replicate n [DC.lit (.int .u64 ((0 : Nat) : Int))] = u6D n fun _ => 0 := by simp [u6D, List.map_const']
set_option maxHeartbeats 1000000 in
theorem wo (n : Nat) (ps : List (Nat × Nat)) (ok : OKp n ps) (hl : ps.length <= 4096) : Con Tryz.prog 71 [dI n, V1 (.sl (ps.map prD))] { v := .val (.one (.own 0 1 0 n)), ob := some (1, u6D n (kE ps ps.length)) } := by
 have n64 := ok.n64
 refine Z3 Tryz.func71 ?_
 intro w0 X
 rw [ap _ _ [(0, dI n), (1, V1 (.sl (ps.map prD)))] rfl rfl];refine gQ fun _ O=>?_;refine Z8 ?_;refine eQ O ?_;clear O;refine gQ fun _ O=>?_;refine Z9 ?_;refine bm (sz := _) (es := _) (f := _) (v := _) rfl (wy (l := n) rfl rfl rfl rfl rfl (Nat.le_of_ble_eq_true rfl) (by decide) rfl rfl (by omega)) rfl rfl ?_;refine Z8 ?_;refine eQ O ?_;clear O;refine ab ?_;refine gQ fun _ O=>?_;refine Z9 ?_;refine az rfl (bZ prD rfl rfl) rfl ?_;refine Z9 ?_;refine eQ O ?_;clear O;refine ae (aG (α := Nat) (fun i => mk 38 [(5, .val (.one (.own 9 1 0 n))), (10, V1 (.sl (ps.map prD))), (11, dI ps.length), (12, dI i)] [(9, some (.arr 1 (u6D n (kE ps i))))] []) (fun i => i <= ps.length) (fun i => ps.length - i) 0 ?_ (Nat.zero_le _) ?_)
 ·exact Wk.mk' ⟨rfl, rfl, rfl, rfl, trivial⟩ ⟨congrArg (fun x => some (OO.arr 1 x)) D6, trivial⟩
 intro i hi
 refine gQ fun _ O=>?_;refine Z6 ?_;refine eQ O ?_;clear O;refine ab ?_;refine aj rfl (fun hc => ?_) (fun hc => ?_)
 ·have hg : i < ps.length := by simp at hc; omega
  obtain ⟨h1, h2⟩ := ok.b _ (List.getElem_mem hg)
  have e : ps.getD i (0, 0) = ps[i] := by rw [List.getD_eq_getElem?_getD, List.getElem?_eq_getElem hg]; rfl
  have hb : ∀ w, kE ps i w < 18446744073709551616 := pU ok i
  generalize hgi : kE ps i = g at hb
  have ha : ps[i].1 < n := by omega
  have pa := Ai (s := ps[i].1) (by omega)
  have pb := Ai (s := ps[i].2) (by omega)
  obtain ⟨g1, hg1⟩ : ∃ g1 : Nat -> Nat, g1 = fun w => if w = ps[i].1 then g w ||| 2 ^ ps[i].2 else g w := ⟨_, rfl⟩
  have hb1 : g1 ps[i].2 < 18446744073709551616 := by rw [hg1]; show (if _ then _ else _) < _; rw [if_neg (by omega)]; exact hb _
  refine ag ?_;show AWP _ _ _ _ _ _;refine ab ?_;refine ae ?_;refine gQ fun _ O=>?_;refine aa rfl (x_m prD rfl rfl rfl rfl hg rfl) rfl ?_;refine Z7 ?_;refine ay rfl rfl rfl rfl rfl rfl ?_;refine ak rfl rfl rfl rfl rfl ?_;refine eQ O ?_;clear O;refine aL tok mixed (A := [[], [], [], [1], [0, 1, 2], [], [], [5], [0, 1, 2, 3, 5, 6], [], []]) (an := [{}, {}, {}, {}, {}, {}, {}, {}, {}, {}, {}]) rfl (by kernel_rfl) rfl fun _ O=>?_;refine Z9 ?_;refine Z5 ?_;refine Z7 ?_;refine aa rfl (x_o (i := ps[i].1) (j := ps[i].1) rfl rfl rfl rfl rfl ha (Nat.zero_add _)) rfl ?_;refine aM rfl (l_o rfl rfl (jP ha) rfl rfl) rfl ?_;refine Z5 ?_;refine Z7 ?_;refine ai rfl (cC (by omega)) rfl ?_;refine ai rfl (rE (hb _) pb) rfl ?_;refine aa rfl (x_o (i := ps[i].1) (j := ps[i].1) rfl rfl rfl rfl rfl ha (Nat.zero_add _)) rfl ?_;refine ak rfl (tM (ds := [.lit (.int .u64 (g ps[i].1 ||| 2 ^ ps[i].2 : Nat))]) rfl rfl (by rw [od]; exact ha) (fun _ h => Be h) rfl rfl rfl) rfl rfl rfl ?_;refine eQ O ?_;clear O
  rw [xl (g := g1) ha (fun k _ => by
   rw [hg1]; show (if _ then _ else _) = _; by_cases e : k = ps[i].1
   ·rw [if_pos e, if_pos e, e]
   ·rw [if_neg e, if_neg e])]
  refine bJ tok mixed (A := [[], [], [], [1], [0, 1, 2], [], [], [5], [0, 1, 2, 3, 5, 6], [], []]) (an := [{}, {}, {}, {}, {}, {}, {}, {}, {}, {}, {}]) rfl (by kernel_rfl) rfl fun _ O=>?_;refine Z9 ?_;refine Z5 ?_;refine Z7 ?_;refine aa rfl (x_o (i := ps[i].2) (j := ps[i].2) rfl rfl rfl rfl rfl h2 (Nat.zero_add _)) rfl ?_;refine aM rfl (l_o rfl rfl (jP h2) rfl rfl) rfl ?_;refine Z5 ?_;refine Z7 ?_;refine ai rfl (cC (by omega)) rfl ?_;refine ai rfl (rE hb1 pa) rfl ?_;refine aa rfl (x_o (i := ps[i].2) (j := ps[i].2) rfl rfl rfl rfl rfl h2 (Nat.zero_add _)) rfl ?_;refine ak rfl (tM (ds := [.lit (.int .u64 (g1 ps[i].2 ||| 2 ^ ps[i].1 : Nat))]) rfl rfl (by rw [od]; exact h2) (fun _ h => Be h) rfl rfl rfl) rfl rfl rfl ?_;refine eQ O ?_;clear O
  rw [xl (g := kE ps (i + 1)) h2 (fun k _ => by
   simp only [kE, e, hgi]; rw [hg1]; by_cases e : k = ps[i].2
   ·rw [if_pos e, if_pos e, e]
   ·rw [if_neg e, if_neg e])]
  show AWP _ _ _ _ _ _;refine gR fun _ O=>?_;refine ai rfl (aF (c := ((i + 1 : Nat) : Int)) (by omega) (by omega)) rfl ?_;refine Z9 ?_;refine eQ O ?_;clear O;exact ⟨i + 1, by omega, hg, Wk.mk' ⟨rfl, rfl, rfl, rfl, trivial⟩ ⟨rfl, trivial⟩⟩
 have hf : i = ps.length := by simp at hc; omega
 subst hf
 refine ax ?_;show AWP _ _ _ _ _ _;refine gQ fun _ O=>?_;refine Z9 ?_;refine Z8 ?_;refine eQ O ?_;clear O;refine al ?_;exact kS (nM (by rfl) rfl)
end Go.Proofs.YtceacleokgoooaaGreatDoor

/- ordering: permutation, all, filled, Fill. No condition. -/
namespace Go.Proofs.YtceacleokgoooaaGreatDoor
attribute [local irreducible] aA

def ia (e : Nat -> Nat) : Nat -> Nat
 | 0 => 0
 | i + 1 => ia e i ||| 2 ^ e i
theorem m9 {e : Nat -> Nat} {n : Nat} (h : ∀ i, i < n -> e i < 64) : ∀ i, i <= n -> ia e i < 2 ^ 64
 | 0, _ => Nat.pow_pos (by decide)
 | i + 1, hi => iN (m9 h i (by omega)) (io (h i (by omega)))
theorem qC {e : Nat -> Nat} {k : Nat} : ∀ {i : Nat}, (∀ j, j < i -> e j ≠ k) -> (ia e i).testBit k = false
 | 0, _ => Nat.zero_testBit k
 | i + 1, h => by
  show (ia e i ||| 2 ^ e i).testBit k = false
  rw [Nat.testBit_or, qC (i := i) (fun j hj => h j (by omega)), kL, decide_eq_false (h i (by omega))]; rfl
set_option maxHeartbeats 1000000 in
theorem EU (n : Nat) (e : Nat -> Nat) (hn : n <= 64) (h1 : ∀ i, i < n -> e i < n) (h2 : ∀ i j, i < n -> j < n -> e i = e j -> i = j) : Con Tryz.prog 82 [dI n, V1 (.sl (nmD n e))] { v := dB true } := by
 refine Z3 Tryz.func82 ?_
 intro w0 X
 rw [ap _ _ [(0, dI n), (1, V1 (.sl (nmD n e)))] rfl rfl];refine gQ fun _ O=>?_;refine Z8 ?_;refine eQ O ?_;clear O;refine ab ?_;refine gQ fun _ O=>?_;refine Z9 ?_;refine az rfl (wH rfl rfl) rfl ?_;refine Z9 ?_;refine ai rfl (gn (c := false) (by simp)) rfl ?_;refine eQ O ?_;clear O;refine aj rfl (fun h => by cases h) (fun _ => ?_);refine ag ?_;show AWP _ _ _ _ _ _;refine gQ fun _ O=>?_;refine Z8 ?_;refine eQ O ?_;clear O;refine ab ?_;refine gQ fun _ O=>?_;refine Z9 ?_;refine az rfl (wH rfl rfl) rfl ?_;refine Z9 ?_;refine eQ O ?_;clear O;refine ae (aG (α := Nat) (fun i => mk 37 [(0, dI n), (5, dL (ia e i)), (12, V1 (.sl (nmD n e))), (13, dI n), (14, dI i)] [] []) (fun i => i <= n) (fun i => n - i) 0 ?_ (Nat.zero_le _) ?_)
 ·exact Wk.mk' ⟨rfl, rfl, rfl, rfl, rfl, trivial⟩ trivial
 intro i hi
 have hs : ia e i < 18446744073709551616 := m9 (n := n) (fun j hj => by have := h1 j hj; omega) i hi
 refine gQ fun _ O=>?_;refine Z6 ?_;refine eQ O ?_;clear O;refine ab ?_;refine aj rfl (fun hc => ?_) (fun hc => ?_)
 ·have hg : i < n := by simp at hc; omega
  have he := h1 i hg
  have hb : (ia e i).testBit (e i) = false := qC fun j hj e' => by have := h2 j i (by omega) hg e'; omega
  refine ag ?_;show AWP _ _ _ _ _ _;refine ab ?_;refine ae ?_;refine gQ fun _ O=>?_;refine aa rfl (x_n rfl rfl rfl rfl rfl hg) rfl ?_;refine Z7 ?_;refine Z8 ?_;refine eQ O ?_;clear O;refine ab ?_;refine gQ fun _ O=>?_;refine Z9 ?_;refine ai rfl (lV (c := false) (decide_eq_false (by omega))) rfl ?_;refine Z9 ?_;refine Z9 ?_;refine Z9 ?_;refine ai rfl (lW (c := false) (decide_eq_false (by omega))) rfl ?_;refine Z4 ?_;refine Z9 ?_;refine Z9 ?_;refine Z9 ?_;refine ai rfl (Dd (by omega)) rfl ?_;refine ai rfl (kt (y := 1) (Nat.lt_of_le_of_lt (Nat.div_le_self _ _) hs) (by omega)) rfl ?_;refine ai rfl (uQ (c := false) (decide_eq_false (by rw [Iy, hb]; simp))) rfl ?_;refine Z4 ?_;refine eQ O ?_;clear O;refine aj rfl (fun h => by cases h) (fun _ => ?_);refine ag ?_;show AWP _ _ _ _ _ _;refine gR fun _ O=>?_;refine Z9 ?_;refine Z9 ?_;refine ai rfl (cC (by omega)) rfl ?_;refine ai rfl (rE hs (Ai (by omega))) rfl ?_;refine Z8 ?_;refine eQ O ?_;clear O;show AWP _ _ _ _ _ _;refine gR fun _ O=>?_;refine ai rfl (aF (c := ((i + 1 : Nat) : Int)) (by omega) (by omega)) rfl ?_;refine Z9 ?_;refine eQ O ?_;clear O;exact ⟨i + 1, by omega, hg, Wk.mk' ⟨rfl, rfl, rfl, rfl, rfl, trivial⟩ trivial⟩
 refine ax ?_;show AWP _ _ _ _ _ _;refine gQ fun _ O=>?_;refine Z8 ?_;refine eQ O ?_;clear O;exact al aP
theorem Hy (n : Nat) (hn : n <= 64) : Con Tryz.prog 72 [dI n] { v := dL (2 ^ n - 1) } := by
 refine Z3 Tryz.func72 ?_
 intro w0 X
 rw [ap _ _ [(0, dI n)] rfl rfl];refine gQ fun _ O=>?_;refine Z8 ?_;refine eQ O ?_;clear O;refine ab ?_
 by_cases e : n = 64
 ·subst e
  refine gQ fun _ O=>?_;refine Z9 ?_;refine Z6 ?_;refine eQ O ?_;clear O;refine aj rfl (fun _ => ?_) (fun h => by cases h);refine gQ fun _ O=>?_;refine Z8 ?_;refine eQ O ?_;clear O;exact al aP
 ·have h : 2 ^ n < 2 ^ 64 := io (by omega)
  have h0 : 0 < 2 ^ n := Nat.pow_pos (by decide)
  refine gQ fun _ O=>?_;refine Z9 ?_;refine ai rfl (i9 (c := false) (by simp; omega)) rfl ?_;refine eQ O ?_;clear O;refine aj rfl (fun h => by cases h) (fun _ => ?_);refine ag ?_;show AWP _ _ _ _ _ _;refine gQ fun _ O=>?_;refine Z9 ?_;refine ai rfl (cC (by omega)) rfl ?_;refine ai rfl (mG (x := 2 ^ n) (y := 1) (z := 2 ^ n - 1) (by omega) (by omega)) rfl ?_;refine Z8 ?_;refine eQ O ?_;clear O;exact al aP
/-! ### Pairs in rising order -/
/-! ### Fill: the pairs that are joined in the filled graph, but not in the pattern -/
end Go.Proofs.YtceacleokgoooaaGreatDoor

/- ordering: Fill. No condition. -/
namespace Go.Proofs.YtceacleokgoooaaGreatDoor
attribute [local irreducible] aA

end Go.Proofs.YtceacleokgoooaaGreatDoor

/- A factor's element is 0 unless a path over vertices that are eliminated before joins its two unknowns; the search for such a path. No condition. -/
namespace Go.Proofs.YtceacleokgoooaaGreatDoor

inductive Ph (g : Nat -> Nat) (S : Nat -> Prop) : Nat -> Nat -> Prop
 | one {a b : Nat} (h : (g a).testBit b = true) : Ph g S a b
 | step {a c b : Nat} (h : Ph g S a c) (hs : S c) (hb : (g c).testBit b = true) : Ph g S a b
theorem Ph.trans {g : Nat -> Nat} {S : Nat -> Prop} {a c b : Nat} (h : Ph g S a c) (hs : S c) (h' : Ph g S c b) : Ph g S a b := by
 induction h' with
 | one hb => exact .step h hs hb
 | step _ hs' hb ih => exact .step ih hs' hb
theorem Ph.mono {g : Nat -> Nat} {S T : Nat -> Prop} (hst : ∀ v, S v -> T v) {a b : Nat} (h : Ph g S a b) : Ph g T a b := by
 induction h with
 | one hb => exact .one hb
 | step _ hs hb ih => exact .step ih (hst _ hs) hb
theorem BD {B : Nat -> Nat -> Rat} {n : Nat} (hs : ∀ i j, i < n -> j < n -> B i j = B j i) (hd : ∀ k, k < n -> DD B k ≠ 0) {g e : Nat -> Nat}
  (hg : ∀ i j, i < n -> j < n -> i ≠ j -> B i j ≠ 0 -> (g (e i)).testBit (e j) = true) :
  ∀ m, m <= n -> ∀ i j, m <= i -> m <= j -> i < n -> j < n -> i ≠ j -> pz B m i j ≠ 0 -> Ph g (fun v => ∃ k, k < m /\ e k = v) (e i) (e j)
 | 0, _, i, j, _, _, hin, hjn, hne, h => .one (hg i j hin hjn hne (by unfold pz at h; simp only [sm] at h; intro e0; rw [e0] at h; exact h (by grind)))
 | m + 1, hm, i, j, hmi, hmj, hin, hjn, hne, h => by
  have ih := BD hs hd hg m (by omega)
  rw [Aa] at h
  have up : ∀ v, (∃ k, k < m /\ e k = v) -> ∃ k, k < m + 1 /\ e k = v := fun v ⟨k, hk, e1⟩ => ⟨k, by omega, e1⟩
  by_cases h1 : pz B m i j = 0
  ·have nz : ∀ k, k < n -> m < k -> LL B k m ≠ 0 -> pz B m k m ≠ 0 := fun k hk hmk hl => by
    have := xe B hmk (hd m (by omega))
    unfold pz
    rw [<- this]
    intro h0
    rcases Rat.mul_eq_zero.1 h0 with h0 | h0
    ·exact hl h0
    ·exact hd m (by omega) h0
   have li : LL B i m ≠ 0 := fun e0 => h (by rw [h1, e0]; grind)
   have lj : LL B j m ≠ 0 := fun e0 => h (by rw [h1, e0]; grind)
   have p1 := ih i m (by omega) (Nat.le_refl _) hin (by omega) (by omega) (nz i hin (by omega) li)
   have p2 := ih m j (Nat.le_refl _) (by omega) (by omega) hjn (by omega) (by rw [z8 hs m (by omega) hjn]; exact nz j hjn (by omega) lj)
   exact (p1.mono up).trans ⟨m, by omega, rfl⟩ (p2.mono up)
  ·exact (ih i j (by omega) (by omega) hin hjn hne h1).mono up
theorem Jp {B : Nat -> Nat -> Rat} {n : Nat} (hs : ∀ i j, i < n -> j < n -> B i j = B j i) (hd : ∀ k, k < n -> DD B k ≠ 0) {g e : Nat -> Nat}
  (hg : ∀ i j, i < n -> j < n -> i ≠ j -> B i j ≠ 0 -> (g (e i)).testBit (e j) = true) {i j : Nat} (hin : i < n) (hji : j < i) (h : LL B i j ≠ 0) : Ph g (fun v => ∃ k, k < j /\ e k = v) (e i) (e j) := by
 refine BD hs hd hg j (by omega) i j (by omega) (Nat.le_refl _) hin (by omega) (by omega) ?_
 have := xe B hji (hd j (by omega))
 unfold pz
 rw [<- this]
 intro h0
 rcases Rat.mul_eq_zero.1 h0 with h0 | h0
 ·exact h h0
 ·exact hd j (by omega) h0

/-! ### The search -/
structure BfI (g : Nat -> Nat) (early i j r t : Nat) : Prop where
 lr : r < 2 ^ 64
 lt : t < 2 ^ 64
 bi : r.testBit i = true
 bs : ∀ v, t.testBit v = true -> r.testBit v = true
 bd : ∀ v, r.testBit v = true -> t.testBit v = false -> (g v).testBit j = false /\ ∀ w, (g v).testBit w = true -> early.testBit w = true -> r.testBit w = true
theorem Ig {g : Nat -> Nat} {early i j r : Nat} {S : Nat -> Prop} (h : BfI g early i j r 0) (hS : ∀ v, S v -> early.testBit v = true) (hp : Ph g S i j) : False := by
 have key : ∀ v, Ph g S i v -> ∃ c, r.testBit c = true /\ (g c).testBit v = true := fun v hv => by
  induction hv with
  | one hb => exact ⟨_, h.bi, hb⟩
  | step _ hs hb ih =>
   obtain ⟨c, h1, h2⟩ := ih
   exact ⟨_, (h.bd c h1 (Nat.zero_testBit c)).2 _ h2 (hS _ hs), hb⟩
 obtain ⟨c, h1, h2⟩ := key j hp
 rw [(h.bd c h1 (Nat.zero_testBit c)).1] at h2
 cases h2
def bfN (g : Nat -> Nat) (early r t : Nat) : Nat := bdif (g (Go.Lib.ctz 64 t) &&& early) r
theorem FT {g : Nat -> Nat} {early i j r t : Nat} (hg : ∀ v, g v < 2 ^ 64) (h : BfI g early i j r t) (h0 : t ≠ 0) (hj : (g (Go.Lib.ctz 64 t)).testBit j = false) : BfI g early i j (r ||| bfN g early r t) (clr t ||| bfN g early r t) := by
 obtain ⟨c1, c2, c3, c4⟩ := iM h0 h.lt
 unfold bfN
 generalize Go.Lib.ctz 64 t = v at *
 have hn : bdif (g v &&& early) r < 2 ^ 64 := ip (kx (hg v))
 refine ⟨iN h.lr hn, iN (Nat.lt_of_le_of_lt (yo t) h.lt) hn, by rw [Nat.testBit_or, h.bi]; rfl, fun w hw => ?_, fun w hw ht => ?_⟩
 ·rw [Nat.testBit_or, c4 w] at hw;rw [Nat.testBit_or];simp only [Bool.or_eq_true, Bool.and_eq_true] at hw ⊢
  rcases hw with hw | hw
  ·exact Or.inl (h.bs w hw.1)
  ·exact Or.inr hw
 ·rw [Nat.testBit_or] at ht hw;simp only [Bool.or_eq_false_iff] at ht
  obtain ⟨t1, t2⟩ := ht
  rw [t2, Bool.or_false] at hw;rw [c4 w] at t1
  by_cases e : w = v
  ·subst e
   refine ⟨hj, fun u hu he => ?_⟩;rw [Nat.testBit_or, kw, Nat.testBit_and, hu, he]
   cases r.testBit u <;> rfl
  ·have : t.testBit w = false := by
    rw [decide_eq_true e, Bool.and_true] at t1; exact t1
   obtain ⟨d1, d2⟩ := h.bd w hw this
   exact ⟨d1, fun u hu he => by rw [Nat.testBit_or, d2 u hu he]; rfl⟩
theorem jC (n x : Nat) : (dQ (n + 1) x).length = (dQ n x).length + if x.testBit n = true then 1 else 0 := by
 unfold dQ
 rw [List.range_succ, List.filter_append, List.length_append]
 congr 1
 by_cases h : x.testBit n = true
 ·rw [if_pos h, List.filter_cons_of_pos h]; rfl
 ·rw [if_neg h, List.filter_cons_of_neg h]; rfl
theorem CE (x y : Nat) : ∀ n, (dQ n (x ||| y)).length <= (dQ n x).length + (dQ n y).length
 | 0 => by simp [dQ]
 | n + 1 => by
  have := CE x y n
  rw [jC, jC, jC, Nat.testBit_or]
  cases x.testBit n <;> cases y.testBit n <;> simp <;> omega
theorem uy {x y : Nat} (h : ∀ k, x.testBit k = true -> y.testBit k = false) : ∀ n, (dQ n (x ||| y)).length = (dQ n x).length + (dQ n y).length
 | 0 => by simp [dQ]
 | n + 1 => by
  have := uy h n
  have hn := h n
  rw [jC, jC, jC, Nat.testBit_or]
  cases hx : x.testBit n
  ·cases y.testBit n <;> simp <;> omega
  ·rw [hn hx]; simp; omega
def bfM (r t : Nat) : Nat := 65 * (64 - (dQ 64 r).length) + (dQ 64 t).length
theorem If {g : Nat -> Nat} {early i j r t : Nat} (h : BfI g early i j r t) (h0 : t ≠ 0) : bfM (r ||| bfN g early r t) (clr t ||| bfN g early r t) < bfM r t := by
 have e1 := uy (x := r) (y := bfN g early r t) (fun k hk => by unfold bfN; rw [kw, hk]; simp) 64
 have e2 := CE (clr t) (bfN g early r t) 64
 have e3 := congrArg List.length (oB h0 h.lt)
 rw [List.length_cons] at e3
 have e4 := qR 64 (r ||| bfN g early r t)
 unfold bfM
 omega
end Go.Proofs.YtceacleokgoooaaGreatDoor

/- The order of least degrees, plainly: whatever is counted, each vertex comes once. No condition. -/
namespace Go.Proofs.YtceacleokgoooaaGreatDoor

def mdS (c : Nat -> Int) (g : Nat -> Nat) (left : Nat) : Nat -> Nat -> Int × Int -> Int × Int
 | 0, _, p => p
 | f + 1, rest, p => if rest = 0 then p else mdS c g left f (clr rest) (if p.1 < 0 \/ c (g (Go.Lib.ctz 64 rest) &&& left) < p.2 then ((Go.Lib.ctz 64 rest : Nat), c (g (Go.Lib.ctz 64 rest) &&& left)) else p)
theorem wA (c : Nat -> Int) (g : Nat -> Nat) (left f : Nat) (p : Int × Int) : mdS c g left f 0 p = p := by
 cases f
 ·rfl
 ·unfold mdS; rw [if_pos rfl]
theorem wC (c : Nat -> Int) (g : Nat -> Nat) (left f : Nat) {rest : Nat} (h : rest ≠ 0) (p : Int × Int) : mdS c g left (f + 1) rest p = mdS c g left f (clr rest) (if p.1 < 0 \/ c (g (Go.Lib.ctz 64 rest) &&& left) < p.2 then ((Go.Lib.ctz 64 rest : Nat), c (g (Go.Lib.ctz 64 rest) &&& left)) else p) := by
 show (if rest = 0 then p else _) = _
 rw [if_neg h]
theorem CB (c : Nat -> Int) (g : Nat -> Nat) (left : Nat) : ∀ (f rest : Nat) (p : Int × Int), rest < 2 ^ 64 -> (dQ 64 rest).length <= f -> (∀ k, rest.testBit k = true -> left.testBit k = true) -> (rest = 0 -> 0 <= p.1) -> (0 <= p.1 -> ∃ k : Nat, p.1 = k /\ left.testBit k = true) ->
  ∃ k : Nat, (mdS c g left f rest p).1 = k /\ left.testBit k = true
 | 0, rest, p, hr, hl, _, h0, h1 => by
  have : dQ 64 rest = [] := List.length_eq_zero_iff.1 (by omega)
  exact h1 (h0 (wE hr this))
 | f + 1, rest, p, hr, hl, hs, h0, h1 => by
  by_cases e : rest = 0
  ·subst e; rw [wA]; exact h1 (h0 rfl)
  rw [wC _ _ _ _ e]
  obtain ⟨c1, c2, c3, c4⟩ := iM e hr
  have e3 := congrArg List.length (oB e hr)
  rw [List.length_cons] at e3;refine CB c g left f (clr rest) _ (Nat.lt_of_le_of_lt (yo rest) hr) (by omega) (fun k hk => hs k (by rw [c4 k] at hk; simp only [Bool.and_eq_true] at hk; exact hk.1)) (fun _ => ?_) (fun hp => ?_)
  ·split
   ·exact Int.natCast_nonneg _
   ·omega
  ·split
   ·exact ⟨_, rfl, hs _ c2⟩
   ·rename_i hn
    rw [if_neg hn] at hp;exact h1 hp
def mdV (c : Nat -> Int) (g : Nat -> Nat) (left : Nat) : Int × Int := mdS c g left 64 left (-1, 0)
def mdB (c : Nat -> Int) (g : Nat -> Nat) (left : Nat) : Nat := (mdV c g left).1.toNat
theorem xR (c : Nat -> Int) (g : Nat -> Nat) {left : Nat} (h : left < 2 ^ 64) (h0 : left ≠ 0) : (mdV c g left).1 = (mdB c g left : Nat) /\ left.testBit (mdB c g left) = true := by
 obtain ⟨k, h1, h2⟩ := CB c g left 64 left (-1, 0) h (qR 64 left) (fun _ h => h) (fun e => absurd e h0) (fun h => absurd h (by decide))
 have e : mdB c g left = k := by unfold mdB mdV; rw [h1]; rfl
 rw [e]; exact ⟨h1, h2⟩
def mdT (c : Nat -> Int) (g : Nat -> Nat) (full : Nat) : Nat -> (Nat -> Nat) × Nat
 | 0 => (g, full)
 | m + 1 => (yd (mdT c g full m).1 (mdB c (mdT c g full m).1 (mdT c g full m).2) (bdif (mdT c g full m).2 (2 ^ mdB c (mdT c g full m).1 (mdT c g full m).2)), bdif (mdT c g full m).2 (2 ^ mdB c (mdT c g full m).1 (mdT c g full m).2))
def mdE (c : Nat -> Int) (g : Nat -> Nat) (full m : Nat) : Nat := mdB c (mdT c g full m).1 (mdT c g full m).2
theorem E9 {n b : Nat} (hb : b < n) : dQ n (2 ^ b) = [b] := uz (List.pairwise_singleton _ _) fun k => by
 rw [kL, List.mem_singleton]
 constructor
 ·rintro rfl; exact ⟨hb, by simp⟩
 ·rintro ⟨_, h⟩; exact (of_decide_eq_true h).symm
theorem Fa {n x b : Nat} (hb : b < n) (h : x.testBit b = true) : (dQ n (bdif x (2 ^ b))).length + 1 = (dQ n x).length := by
 have e : x = bdif x (2 ^ b) ||| 2 ^ b := Nat.eq_of_testBit_eq fun k => by
  rw [Nat.testBit_or, kw, kL]
  by_cases e : b = k
  ·subst e; rw [h]; simp
  ·simp [e]
 have d := uy (x := bdif x (2 ^ b)) (y := 2 ^ b) (fun k hk => by
  rw [kw] at hk;simp only [Bool.and_eq_true, Bool.not_eq_true'] at hk
  exact hk.2) n
 rw [<- e, E9 hb] at d;exact d.symm
section
variable {c : Nat -> Int} {g : Nat -> Nat} {n : Nat} (hn : n <= 64)
include hn
theorem uv (m : Nat) : (mdT c g (2 ^ n - 1) m).2 < 2 ^ n := by
 induction m with
 | zero => have : 0 < 2 ^ n := Nat.pow_pos (by decide); show 2 ^ n - 1 < 2 ^ n; omega
 | succ m ih => exact ip ih
theorem nD (m : Nat) : (mdT c g (2 ^ n - 1) m).2 < 2 ^ 64 := Nat.lt_of_lt_of_le (uv hn m) (Nat.pow_le_pow_right (by decide) hn)
theorem zb : ∀ m, m <= n -> (dQ n (mdT c g (2 ^ n - 1) m).2).length = n - m
 | 0, _ => by show (dQ n (2 ^ n - 1)).length = _; rw [CF]; simp
 | m + 1, h => by
  have ih := zb m (by omega)
  have h0 : (mdT c g (2 ^ n - 1) m).2 ≠ 0 := fun e => by rw [e, sZ] at ih; simp at ih; omega
  have h1 := (xR c (mdT c g (2 ^ n - 1) m).1 (nD hn m) h0).2
  have := Fa (p9 (uv hn m) h1) h1
  show (dQ n (bdif _ (2 ^ _))).length = _
  omega
theorem CA {m : Nat} (h : m < n) : (mdT c g (2 ^ n - 1) m).2 ≠ 0 := fun e => by
 have ih := zb (c := c) (g := g) hn m (by omega)
 rw [e, sZ] at ih; simp at ih; omega
theorem xQ {m : Nat} (h : m < n) : (mdT c g (2 ^ n - 1) m).2.testBit (mdE c g (2 ^ n - 1) m) = true := (xR c _ (nD hn m) (CA hn h)).2
theorem IR {m : Nat} (h : m < n) : (mdV c (mdT c g (2 ^ n - 1) m).1 (mdT c g (2 ^ n - 1) m).2).1 = (mdE c g (2 ^ n - 1) m : Nat) := (xR c _ (nD hn m) (CA hn h)).1
theorem CC {m : Nat} (h : m < n) : mdE c g (2 ^ n - 1) m < n := p9 (uv hn m) (xQ hn h)
theorem wz {i m : Nat} (h : i < m) : (mdT c g (2 ^ n - 1) m).2.testBit (mdE c g (2 ^ n - 1) i) = false := by
 induction m with
 | zero => omega
 | succ m ih =>
  show (bdif _ (2 ^ mdE c g (2 ^ n - 1) m)).testBit _ = false
  rw [kw]
  by_cases e : i = m
  ·subst e; rw [kL]; simp
  ·rw [ih (by omega)]; rfl
theorem E7 {i j : Nat} (hi : i < n) (hj : j < n) (e : mdE c g (2 ^ n - 1) i = mdE c g (2 ^ n - 1) j) : i = j := by
 rcases Nat.lt_trichotomy i j with h | h | h
 ·have h1 := wz (c := c) (g := g) hn h
  rw [e, xQ hn hj] at h1; cases h1
 ·exact h
 ·have h1 := wz (c := c) (g := g) hn h
  rw [<- e, xQ hn hi] at h1; cases h1
end
theorem za {c : Nat -> Int} {g : Nat -> Nat} {full N : Nat} (hg : ∀ w, g w < 2 ^ N) : ∀ m w, (mdT c g full m).1 w < 2 ^ N
 | 0, w => hg w
 | m + 1, w => FD (za hg m)
end Go.Proofs.YtceacleokgoooaaGreatDoor

/- Resistances. No condition. -/
namespace Go.Proofs.YtceacleokgoooaaGreatDoor
attribute [local irreducible] aA

theorem DT (n : Nat) (hn : n <= 1048576) : Con Tryz.prog 136 [dI n] { v := .val (.one (.own 0 4 0 n)), ob := some (4, aW n (fun _ => qzW 0)) } := by
 have cz := jg 0 ⟨by decide, by decide⟩
 refine Z3 Tryz.func136 ?_
 intro w0 X
 rw [ap _ _ [(0, dI n)] rfl rfl];refine gQ fun _ O=>?_;refine Z8 ?_;refine eQ O ?_;clear O;refine gQ fun _ O=>?_;refine Z9 ?_;refine bm (sz := _) (es := _) (f := _) (v := _) rfl (wy (l := n) rfl rfl rfl rfl rfl (Nat.le_of_ble_eq_true rfl) (by decide) rfl rfl (by omega)) rfl rfl ?_;refine Z8 ?_;refine eQ O ?_;clear O;refine ab ?_;refine gQ fun _ O=>?_;refine Z9 ?_;refine az rfl rfl rfl ?_;refine Z9 ?_;refine eQ O ?_;clear O;refine ae (aG (α := Nat) (fun s => mk 18 [(3, .val (.one (.own 6 4 0 n))), (8, dI n), (9, dI s)] [(6, some (.arr 4 (aW n (zG s))))] []) (fun s => s <= n) (fun s => n - s) 0 ?_ (Nat.zero_le _) ?_)
 ·exact Wk.mk' ⟨rfl, rfl, rfl, trivial⟩ ⟨congrArg (fun x => some (OO.arr 4 x)) (yQ n), trivial⟩
 intro s hs
 refine gQ fun _ O=>?_;refine Z6 ?_;refine eQ O ?_;clear O;refine ab ?_;refine aj rfl (fun hf => ?_) (fun hf => ?_)
 ·have hf : s < n := by simp at hf; omega
  refine ag ?_;show AWP _ _ _ _ _ _;refine ab ?_;refine ae ?_;refine gQ fun _ O=>?_;refine Z9 ?_;refine Z8 ?_;refine eQ O ?_;clear O;refine gR fun _ O=>?_;refine Z9 ?_;refine Z9 ?_;refine ac rfl rfl (cz) rfl rfl rfl rfl ?_;refine aa rfl (x_o (i := s) (j := s) rfl rfl rfl rfl rfl hf (Nat.zero_add _)) rfl ?_;refine ak rfl (rV (qzW 0) rfl rfl rfl hf) rfl rfl rfl ?_;refine eQ O ?_;clear O;rw [yP];show AWP _ _ _ _ _ _;refine gR fun _ O=>?_;refine ai rfl (aF (c := ((s + 1 : Nat) : Int)) (by omega) (by omega)) rfl ?_;refine Z9 ?_;refine eQ O ?_;clear O;exact ⟨s + 1, by omega, hf, Wk.mk' ⟨rfl, rfl, rfl, trivial⟩ ⟨rfl, trivial⟩⟩
 have hf : s = n := by simp at hf; omega
 subst hf
 refine ax ?_;show AWP _ _ _ _ _ _
 have e : aW s (zG s) = aW s (fun _ => qzW 0) := bn fun i hi => if_pos hi
 rw [e];refine gQ fun _ O=>?_;refine Z9 ?_;refine Z8 ?_;refine eQ O ?_;clear O;refine al ?_;exact kS (nM (by rfl) rfl)

theorem Id (g : GR) (gv : GV g) : dNs (b7 g).1 = .sl (nmD g.nodes.length (lab g)) := by
 have hl := j4 gv
 unfold dNs nmD
 congr 1
 apply List.ext_getElem?
 intro i
 rcases Nat.lt_or_ge i g.nodes.length with hi | hi
 ·have hi' : i < (b7 g).1.length := by omega
  simp [hi, hi', lab]
 ·rw [List.getElem?_eq_none (by simp; omega), List.getElem?_eq_none (by simp; omega)]
def xz (g : GR) (i j : Nat) : RW × Int := if lab g i = lab g j then (qzW (mq g i j), 0) else (eO, 10)
theorem w6 {T : Tab} {t : TypeId} (a b : Nat) : aK T .eql t (dI a) (dI b) = .set (dB (decide (a = b))) := by
 show aT (.bool ((a : Int) == (b : Int))) = _
 have : ((a : Int) == (b : Int)) = decide (a = b) := by rw [Bool.eq_iff_iff]; simp only [beq_iff_eq, decide_eq_true_eq]; omega
 rw [this]; rfl
theorem w5 {T : Tab} {t : TypeId} (a b : Nat) : aK T .neq t (dI a) (dI b) = .set (dB (decide (a ≠ b))) := by
 show aT (.bool (!((a : Int) == (b : Int)))) = _
 have : (!((a : Int) == (b : Int))) = decide (a ≠ b) := by
  rw [Bool.eq_iff_iff]; simp only [Bool.not_eq_true', beq_eq_false_iff_ne, ne_eq, decide_eq_true_eq]; omega
 rw [this]; rfl
theorem wO (g : GR) (j k : Nat) : grL g j (k + 1) = if grS g j k = true then grL g j k ++ [k] else grL g j k := by
 unfold grL
 rw [List.range_succ, List.filter_append]
 by_cases h : grS g j k = true
 ·rw [if_pos h]; simp [h]
 ·rw [if_neg h]; simp [h]
theorem zh (n : Nat) (S : Nat -> Bool) : kN n S <= n := by
 have := List.length_filter_le S (List.range n)
 rwa [List.length_range] at this
theorem dR (g : GR) (j k : Nat) : (grL g j k).length = kN k (grS g j) := rfl
theorem Gh {T : Tab} {t e : TypeId} {ti : TI} {S : bR} {id sz a : Nat} (h1 : T t = some ti) (h2 : ti.und = .slice e) : aQ T ⟨[], S, []⟩ (.builtin .len) [bU id sz a] [t] = .set (dI a) := by
 cases a with
 | zero => simp only [bU, aQ, kp, h1, h2, ec, aT]
 | succ a => simp only [bU, aQ, kp, h1, h2, ec, aT]
def qF (g : GR) (j v k : Nat) : List (List DC) := ((grL g j k).map fun w => qzW ((lapM g.links v w : Int) : Rat)).map RW.dc

set_option maxHeartbeats 1000000 in
theorem tT (g : GR) (gv : GV g) (i j : Nat) (hi : i < g.nodes.length) (hj : j < g.nodes.length) :
  Con Tryz.prog 104 [AG g.cs, dI i, dI j] { v := .tup [.agg (xz g i j).1.cs, .one (.d (lI (xz g i j).2))] } := by
 have cP := re g
 have e0 : (b7 g).2 = 0 := by rw [b7, if_pos (bO.2 gv)]
 rw [Id g gv, e0] at cP
 have cL := C1 g
 have e1 : rY g = (iQ g.nodes.length (lapM g.links), 0) := by rw [rY, if_pos (bO.2 gv)]
 rw [e1] at cL
 have eM : iQ g.nodes.length (lapM g.links) = ba g.nodes.length g.nodes.length (fun a b => qzW ((lapM g.links a b : Int) : Rat)) := rfl
 simp only [eM] at cL
 have cz := jg 0 ⟨by decide, by decide⟩
 have co := jg 1 ⟨by decide, by decide⟩
 have n16 := gv.n2
 refine Z3 Tryz.func104 ?_
 intro w0 X
 rw [ap _ _ [(0, AG g.cs), (1, dI i), (2, dI j)] rfl rfl];refine gQ fun _ O=>?_;refine aS rfl rfl rfl rfl rfl rfl ?_;refine ay rfl rfl rfl rfl rfl rfl ?_;refine Z8 ?_;refine eQ O ?_;clear O;refine gQ fun _ O=>?_;refine Z7 ?_;refine ac rfl rfl (cP) rfl rfl rfl rfl ?_;refine Z9 ?_;refine aq rfl rfl rfl ?_;refine aq rfl rfl rfl ?_;refine Z8 ?_;refine Z8 ?_;refine eQ O ?_;clear O;refine ab ?_;refine aL tok mixed (A := [[], [], [], [0, 1], [], [], [], [4, 5], [0, 1, 2, 4, 5, 6]]) (an := [{}, {}, {}, {}, {}, {}, {}, {}, {}]) rfl (by kernel_rfl) rfl fun _ O=>?_;refine Z9 ?_;refine Z9 ?_;refine aa rfl (x_n rfl rfl rfl rfl rfl hi) rfl ?_;refine Z7 ?_;refine Z9 ?_;refine Z9 ?_;refine aa rfl (x_n rfl rfl rfl rfl rfl hj) rfl ?_;refine Z7 ?_;refine ai rfl (w5 _ _) rfl ?_;refine eQ O ?_;clear O;refine aj rfl (fun hc => ?_) (fun hc => ?_)
 ·have hc := of_decide_eq_true hc
  have e : xz g i j = (eO, 10) := by rw [xz, if_neg hc]
  rw [e];refine gQ fun _ O=>?_;refine bF rfl rfl rfl ?_;refine ak rfl rfl rfl rfl rfl ?_;refine Z8 ?_;refine eQ O ?_;clear O;exact al aP
 have hc : lab g i = lab g j := Classical.byContradiction fun h => of_decide_eq_false hc h
 have e : xz g i j = (qzW (mq g i j), 0) := by rw [xz, if_pos hc]
 rw [e];refine ag ?_;show AWP _ _ _ _ _ _;refine ab ?_;refine gQ fun _ O=>?_;refine Z9 ?_;refine Z9 ?_;refine ai rfl (w6 _ _) rfl ?_;refine eQ O ?_;clear O;refine aj rfl (fun hd => ?_) (fun hd => ?_)
 ·have hd := of_decide_eq_true hd
  have e : mq g i j = 0 := if_pos hd
  rw [e];refine gQ fun _ O=>?_;refine ac rfl rfl (cz) rfl rfl rfl rfl ?_;refine ak rfl rfl rfl rfl rfl ?_;refine Z8 ?_;refine eQ O ?_;clear O;exact al aP
 have hd : i ≠ j := of_decide_eq_false hd
 have R := tU gv hi hj hd hc
 have eQQ : mq g i j = slv (bc (gx g j)) (gN (jy g i j)) (de g j) (resA g i j) := if_neg hd
 have hKn : de g j <= 16 := Nat.le_trans (zh _ _) n16
 refine ag ?_;show AWP _ _ _ _ _ _;refine gQ fun _ O=>?_;refine Z7 ?_;refine ac rfl rfl (cL) rfl rfl rfl rfl ?_;refine Z9 ?_;refine aq rfl rfl rfl ?_;refine aq rfl rfl rfl ?_;refine Z8 ?_;refine Z8 ?_;refine eQ O ?_;clear O;refine gQ fun _ O=>?_;refine Z8 ?_;refine eQ O ?_;clear O;refine gQ fun _ O=>?_;refine Z8 ?_;refine eQ O ?_;clear O;refine ab ?_;refine gQ fun _ O=>?_;refine Z5 ?_;refine Z7 ?_;refine az rfl (bZ RW.dc rfl rfl) rfl ?_;refine Z9 ?_;refine eQ O ?_;clear O;generalize hM : (fun a b => qzW ((lapM g.links a b : Int) : Rat)) = F at *
 have hF : ∀ a b, F a b = qzW ((lapM g.links a b : Int) : Rat) := fun a b => by rw [<- hM]
 refine ae (aG (α := Nat) (fun v => mk 126 [(1, dI i), (2, dI j), (3, .ptr 3 0), (6, .ptr 6 0), (8, V1 (.sl (nmD g.nodes.length (lab g)))), (10, V1 (dMs (ba g.nodes.length g.nodes.length F))), (12, bU 200 1 (kN v (grS g j))), (13, dI (if i < v then resA g i j else 0 : Nat)), (46, dI g.nodes.length), (47, dI v)] [(3, some (.box g.cs)), (6, some gl), (200, ca 1 (((grL g j v).map (d8 g j)).map cM) (kN v (grS g j)))] []) (fun v => v <= g.nodes.length) (fun v => g.nodes.length - v) 0 ?_ (Nat.zero_le _) ?_)
 ·exact Wk.mk' ⟨rfl, rfl, rfl, rfl, rfl, rfl, rfl, rfl, rfl, rfl, trivial⟩ ⟨rfl, rfl, rfl, trivial⟩
 intro v hv
 refine gQ fun _ O=>?_;refine Z6 ?_;refine eQ O ?_;clear O;refine ab ?_;refine aj rfl (fun hg => ?_) (fun hg => ?_)
 ·have hg : v < g.nodes.length := by simp at hg; omega
  have nk : kN v (grS g j) <= 16 := Nat.le_trans (zh _ _) (by omega)
  have hs := wO g j v
  have z1 : (((grL g j v).map (d8 g j)).map cM).length = kN v (grS g j) := by rw [List.length_map, List.length_map, dR]
  have hkl := dR g j (v + 1)
  have hkl0 := dR g j v
  refine ag ?_;show AWP _ _ _ _ _ _;refine ab ?_;refine ae ?_;refine gQ fun _ O=>?_;refine Z9 ?_;refine Z8 ?_;refine eQ O ?_;clear O;refine ab ?_;refine bD (α := Bool) (fun c => mk 126 [(1, dI i), (2, dI j), (3, .ptr 3 0), (6, .ptr 6 0), (8, V1 (.sl (nmD g.nodes.length (lab g)))), (10, V1 (dMs (ba g.nodes.length g.nodes.length F))), (12, bU 200 1 (kN v (grS g j))), (13, dI (if i < v then resA g i j else 0 : Nat)), (14, dI v), (46, dI g.nodes.length), (47, dI v), (63, dB c)] [(3, some (.box g.cs)), (6, some gl), (200, ca 1 (((grL g j v).map (d8 g j)).map cM) (kN v (grS g j)))] []) (fun c => c = !(grS g j v)) ?_ ?_
  ·have P1 : decide (v = j) = true -> true = !(grS g j v) := fun h => by have := of_decide_eq_true h; simp [grS, this]
   have P2 : decide (v = j) = false -> decide (lab g v ≠ lab g j) = !(grS g j v) := fun h => by
    have := of_decide_eq_false h
    rw [Bool.eq_iff_iff]; simp [grS, this]
   refine bJ tok mixed (A := [[], [], [], [0, 1], [0, 1, 2], [0, 1, 2], [0, 1, 2], [0, 1, 2, 4, 5], [0, 1, 2], [0, 1, 2], [0, 1, 2], [0, 1, 2, 8, 9], [0, 1, 2, 4, 5, 6, 8, 9, 10], [0, 1, 2, 4, 5, 6, 7, 8, 9, 10, 11]]) (an := [{}, {}, {}, {}, {}, {}, {}, {}, {}, {}, {}, {}, {}, {}]) rfl (by kernel_rfl) rfl fun _ O=>?_;refine Z9 ?_;refine Z9 ?_;refine ai rfl (w6 _ _) rfl ?_;refine Z9 ?_;refine lD (fun h0 => ?_) (fun h0 => ?_)
   ·refine aw rfl ?_;refine aw rfl ?_;refine aw rfl ?_;refine aw rfl ?_;refine aw rfl ?_;refine aw rfl ?_;refine aw rfl ?_;refine aw rfl ?_;refine aw rfl ?_;refine Z4 ?_;refine eQ O ?_;clear O;exact ⟨_, (by first|exact P1 h0|exact P2 h0), Wk.mk' ⟨rfl, rfl, rfl, rfl, rfl, rfl, rfl, rfl, rfl, rfl, rfl, rfl, trivial⟩ ⟨rfl, rfl, rfl, trivial⟩⟩
   ·refine Z9 ?_;refine Z9 ?_;refine aa rfl (x_n rfl rfl rfl rfl rfl hg) rfl ?_;refine Z7 ?_;refine Z9 ?_;refine Z9 ?_;refine aa rfl (x_n rfl rfl rfl rfl rfl hj) rfl ?_;refine Z7 ?_;refine ai rfl (w5 _ _) rfl ?_;refine Z4 ?_;refine eQ O ?_;clear O;exact ⟨_, (by first|exact P1 h0|exact P2 h0), Wk.mk' ⟨rfl, rfl, rfl, rfl, rfl, rfl, rfl, rfl, rfl, rfl, rfl, rfl, trivial⟩ ⟨rfl, rfl, rfl, trivial⟩⟩
  rintro c rfl
  refine aj rfl (fun hx => ?_) (fun hx => ?_)
  ·have hx : ¬ grS g j v = true := by simpa using hx
   have hiv : i ≠ v := fun e => hx (by rw [<- e]; exact pQ.2 ⟨hc, hd⟩)
   rw [if_neg hx] at hs;refine ax ?_;show AWP _ _ _ _ _ _;refine gR fun _ O=>?_;refine ai rfl (aF (c := ((v + 1 : Nat) : Int)) (by omega) (by omega)) rfl ?_;refine Z9 ?_;refine eQ O ?_;clear O
   have ek : kN (v + 1) (grS g j) = kN v (grS g j) := by rw [<- hkl, <- hkl0, hs]
   refine ⟨v + 1, by omega, hg, ?_⟩;rw [hs, ek]
   have ei : (if i < v + 1 then resA g i j else 0) = (if i < v then resA g i j else 0) := by
    by_cases h : i < v
    ·rw [if_pos h, if_pos (by omega)]
    ·rw [if_neg h, if_neg (by omega)]
   rw [ei];exact Wk.mk' ⟨rfl, rfl, rfl, rfl, rfl, rfl, rfl, rfl, rfl, rfl, trivial⟩ ⟨rfl, rfl, rfl, trivial⟩
  have hx : grS g j v = true := by simpa using hx
  rw [if_pos hx] at hs
  have ek : kN (v + 1) (grS g j) = kN v (grS g j) + 1 := by rw [<- hkl, <- hkl0, hs, List.length_append]; rfl
  have n1 : ((grL g j v).map (d8 g j)).map cM ++ [cM (d8 g j v)] = ((grL g j (v + 1)).map (d8 g j)).map cM := by rw [hs, List.map_append, List.map_append]; rfl
  have ra : v = i -> kN v (grS g j) = resA g i j := fun e => by rw [e]; rfl
  have hKp : 0 < kN g.nodes.length (grS g j) := Nat.lt_of_le_of_lt (Nat.zero_le _) (vq hg hx).1
  generalize ((grL g j v).map (d8 g j)).map cM = es at n1 z1 ⊢
  obtain ⟨a, ha⟩ : ∃ a, a = kN v (grS g j) := ⟨_, rfl⟩
  rw [<- ha] at z1 ek ra nk ⊢;refine ag ?_;show AWP _ _ _ _ _ _;refine bD (α := Unit) (fun _ => mk 126 [(1, dI i), (2, dI j), (3, .ptr 3 0), (6, .ptr 6 0), (8, V1 (.sl (nmD g.nodes.length (lab g)))), (10, V1 (dMs (ba g.nodes.length g.nodes.length F))), (12, bU 200 1 a), (13, dI (if i < v + 1 then resA g i j else 0 : Nat)), (14, dI v), (46, dI g.nodes.length), (47, dI v)] [(3, some (.box g.cs)), (6, some gl), (200, ca 1 es a)] []) (fun _ => True) ?_ ?_
  ·refine gQ fun _ O=>?_;refine Z9 ?_;refine Z9 ?_;refine ai rfl (w6 _ _) rfl ?_;refine eQ O ?_;clear O;refine aj rfl (fun hy => ?_) (fun hy => ?_)
   ·have hy := of_decide_eq_true hy
    rw [if_pos (show i < v + 1 by omega), <- ra hy]
    rcases a with _ | a
    ·refine gR fun _ O=>?_;refine Z9 ?_;refine az rfl rfl rfl ?_;refine Z8 ?_;refine eQ O ?_;clear O;exact ⟨(), trivial, Wk.mk' ⟨rfl, rfl, rfl, rfl, rfl, rfl, rfl, rfl, rfl, rfl, rfl, trivial⟩ ⟨rfl, rfl, rfl, trivial⟩⟩
    ·refine gR fun _ O=>?_;refine Z9 ?_;refine az rfl rfl rfl ?_;refine Z8 ?_;refine eQ O ?_;clear O;exact ⟨(), trivial, Wk.mk' ⟨rfl, rfl, rfl, rfl, rfl, rfl, rfl, rfl, rfl, rfl, rfl, trivial⟩ ⟨rfl, rfl, rfl, trivial⟩⟩
   ·have hy := of_decide_eq_false hy
    refine ag ?_
    have ei : (if i < v + 1 then resA g i j else 0) = (if i < v then resA g i j else 0) := by
     by_cases h : i < v
     ·rw [if_pos h, if_pos (by omega)]
     ·rw [if_neg h, if_neg (by omega)]
    rw [ei];exact ⟨(), trivial, Wk.mk' ⟨rfl, rfl, rfl, rfl, rfl, rfl, rfl, rfl, rfl, rfl, rfl, trivial⟩ ⟨rfl, rfl, rfl, trivial⟩⟩
  rintro - -
  refine gQ fun _ O=>?_;refine Z8 ?_;refine eQ O ?_;clear O;refine ab ?_;refine gQ fun _ O=>?_;refine Z5 ?_;refine Z7 ?_;refine az rfl (bZ RW.dc rfl rfl) rfl ?_;refine Z9 ?_;refine eQ O ?_;clear O;refine ae (aG (α := Nat) (fun w => mk 126 [(1, dI i), (2, dI j), (3, .ptr 3 0), (6, .ptr 6 0), (8, V1 (.sl (nmD g.nodes.length (lab g)))), (10, V1 (dMs (ba g.nodes.length g.nodes.length F))), (12, bU 200 1 a), (13, dI (if i < v + 1 then resA g i j else 0 : Nat)), (14, dI v), (15, bU 201 4 (kN w (grS g j))), (46, dI g.nodes.length), (47, dI v), (71, dI g.nodes.length), (72, dI w)] [(3, some (.box g.cs)), (6, some gl), (200, ca 1 es a), (201, ca 4 (qF g j v w) (kN w (grS g j)))] []) (fun w => w <= g.nodes.length) (fun w => g.nodes.length - w) 0 ?_ (Nat.zero_le _) ?_)
  ·exact Wk.mk' ⟨rfl, rfl, rfl, rfl, rfl, rfl, rfl, rfl, rfl, rfl, rfl, rfl, rfl, rfl, trivial⟩ ⟨rfl, rfl, rfl, rfl, trivial⟩
  intro w hw
  refine gQ fun _ O=>?_;refine Z6 ?_;refine eQ O ?_;clear O;refine ab ?_;refine aj rfl (fun hy => ?_) (fun hy => ?_)
  ·have hy : w < g.nodes.length := by simp at hy; omega
   have nkw : kN w (grS g j) <= 16 := Nat.le_trans (zh _ _) (by omega)
   have hsw := wO g j w
   have zw : (qF g j v w).length = kN w (grS g j) := by unfold qF; rw [List.length_map, List.length_map, dR]
   have hklw := dR g j (w + 1)
   have hklw0 := dR g j w
   refine ag ?_;show AWP _ _ _ _ _ _;refine ab ?_;refine ae ?_;refine gQ fun _ O=>?_;refine Z9 ?_;refine Z8 ?_;refine eQ O ?_;clear O;refine bD (α := Bool) (fun c => mk 126 [(1, dI i), (2, dI j), (3, .ptr 3 0), (6, .ptr 6 0), (8, V1 (.sl (nmD g.nodes.length (lab g)))), (10, V1 (dMs (ba g.nodes.length g.nodes.length F))), (12, bU 200 1 a), (13, dI (if i < v + 1 then resA g i j else 0 : Nat)), (14, dI v), (15, bU 201 4 (kN w (grS g j))), (16, dI w), (46, dI g.nodes.length), (47, dI v), (71, dI g.nodes.length), (72, dI w), (88, dB c)] [(3, some (.box g.cs)), (6, some gl), (200, ca 1 es a), (201, ca 4 (qF g j v w) (kN w (grS g j)))] []) (fun c => c = grS g j w) ?_ ?_
   ·have P1 : decide (w ≠ j) = true -> decide (lab g w = lab g j) = grS g j w := fun h => by
     have := of_decide_eq_true h
     rw [Bool.eq_iff_iff]; simp [grS, this]
    have P2 : decide (w ≠ j) = false -> false = grS g j w := fun h => by
     have : w = j := Classical.byContradiction (of_decide_eq_false h)
     simp [grS, this]
    refine bJ tok mixed (A := [[], [], [], [0, 1], [0, 1, 2], [0, 1, 2], [0, 1, 2], [0, 1, 2, 4, 5], [0, 1, 2], [0, 1, 2], [0, 1, 2], [0, 1, 2, 8, 9], [0, 1, 2, 4, 5, 6, 8, 9, 10], [0, 1, 2, 4, 5, 6, 7, 8, 9, 10, 11]]) (an := [{}, {}, {}, {}, {}, {}, {}, {}, {}, {}, {}, {}, {}, {}]) rfl (by kernel_rfl) rfl fun _ O=>?_;refine Z9 ?_;refine Z9 ?_;refine ai rfl (w5 _ _) rfl ?_;refine Z9 ?_;refine lD (fun h0 => ?_) (fun h0 => ?_)
    ·refine Z9 ?_;refine Z9 ?_;refine aa rfl (x_n rfl rfl rfl rfl rfl hy) rfl ?_;refine Z7 ?_;refine Z9 ?_;refine Z9 ?_;refine aa rfl (x_n rfl rfl rfl rfl rfl hj) rfl ?_;refine Z7 ?_;refine ai rfl (w6 _ _) rfl ?_;refine Z4 ?_;refine eQ O ?_;clear O;exact ⟨_, (by first|exact P1 h0|exact P2 h0), Wk.mk' ⟨rfl, rfl, rfl, rfl, rfl, rfl, rfl, rfl, rfl, rfl, rfl, rfl, rfl, rfl, rfl, rfl, trivial⟩ ⟨rfl, rfl, rfl, rfl, trivial⟩⟩
    ·refine aw rfl ?_;refine aw rfl ?_;refine aw rfl ?_;refine aw rfl ?_;refine aw rfl ?_;refine aw rfl ?_;refine aw rfl ?_;refine aw rfl ?_;refine aw rfl ?_;refine Z4 ?_;refine eQ O ?_;clear O;exact ⟨_, (by first|exact P1 h0|exact P2 h0), Wk.mk' ⟨rfl, rfl, rfl, rfl, rfl, rfl, rfl, rfl, rfl, rfl, rfl, rfl, rfl, rfl, rfl, rfl, trivial⟩ ⟨rfl, rfl, rfl, rfl, trivial⟩⟩
   rintro c rfl
   refine aj rfl (fun hz => ?_) (fun hz => ?_)
   ·rw [if_pos hz] at hsw
    have ekw : kN (w + 1) (grS g j) = kN w (grS g j) + 1 := by rw [<- hklw, <- hklw0, hsw, List.length_append]; rfl
    have nw : qF g j v w ++ [(qzW ((lapM g.links v w : Int) : Rat)).dc] = qF g j v (w + 1) := by unfold qF; rw [hsw, List.map_append, List.map_append]; rfl
    rw [<- hF] at nw;generalize qF g j v w = rs at nw zw ⊢
    obtain ⟨b, hb⟩ : ∃ b, b = kN w (grS g j) := ⟨_, rfl⟩
    rw [<- hb] at zw ekw nkw ⊢
    rcases b with _ | b
    ·refine gR fun _ O=>?_;refine Z9 ?_;refine Z9 ?_;refine Z9 ?_;refine aa rfl (mN rfl rfl rfl rfl rfl hg) rfl ?_;refine Z7 ?_;refine Z9 ?_;refine aa rfl (x_v rfl rfl rfl rfl rfl hy) rfl ?_;refine Z7 ?_;refine aC rfl rfl (by rcases a with _|a <;> rfl) rfl ?_;refine aO rfl (dS rfl rfl rfl rfl rfl (by decide) (Nat.le_of_ble_eq_true rfl) rfl (by simp) rfl (by simp) (by simp)) (by rcases a with _|a <;> rfl) rfl rfl ?_;refine Z8 ?_;refine eQ O ?_;clear O;show AWP _ _ _ _ _ _;refine gR fun _ O=>?_;refine ai rfl (aF (c := ((w + 1 : Nat) : Int)) (by omega) (by omega)) rfl ?_;refine Z9 ?_;refine eQ O ?_;clear O;refine ⟨w + 1, by omega, hy, ?_⟩;rw [ekw];refine Wk.rn [1, 2, 3, 6, 8, 10, 12, 13, 14, 15, 46, 47, 71, 72] [3, 6, 200, 98] 98 201 rfl rfl (by rcases a with _|a <;> rfl) ⟨rfl, rfl, rfl, rfl, rfl, rfl, (by rcases a with _|a <;> rfl), rfl, rfl, ?_, rfl, rfl, rfl, rfl, trivial⟩ ⟨rfl, rfl, (by rcases a with _|a <;> rfl), ?_, trivial⟩
     ·first
       | rfl
       | (show SV.val (.one (.own 201 4 0 _)) = _
          rw [List.length_append, zw]; rfl)
     ·first
       | (rw [<- nw, List.length_eq_zero_iff.1 zw]; rfl)
       | (rw [<- nw]; rfl)
    ·refine gR fun _ O=>?_;refine Z9 ?_;refine Z9 ?_;refine Z9 ?_;refine aa rfl (mN rfl rfl rfl rfl rfl hg) rfl ?_;refine Z7 ?_;refine Z9 ?_;refine aa rfl (x_v rfl rfl rfl rfl rfl hy) rfl ?_;refine Z7 ?_;refine aC rfl rfl (by rcases a with _|a <;> rfl) rfl ?_;refine aO rfl (jn rfl rfl rfl rfl rfl rfl (by decide) (Nat.le_of_ble_eq_true rfl) rfl (by simp) rfl rfl zw.symm (by simp <;> omega)) (by rcases a with _|a <;> rfl) rfl rfl ?_;refine Z8 ?_;refine eQ O ?_;clear O;show AWP _ _ _ _ _ _;refine gR fun _ O=>?_;refine ai rfl (aF (c := ((w + 1 : Nat) : Int)) (by omega) (by omega)) rfl ?_;refine Z9 ?_;refine eQ O ?_;clear O;refine ⟨w + 1, by omega, hy, ?_⟩;rw [ekw];refine Wk.rn [1, 2, 3, 6, 8, 10, 12, 13, 14, 15, 46, 47, 71, 72] [3, 6, 200, 98] 98 201 rfl rfl (by rcases a with _|a <;> rfl) ⟨rfl, rfl, rfl, rfl, rfl, rfl, (by rcases a with _|a <;> rfl), rfl, rfl, ?_, rfl, rfl, rfl, rfl, trivial⟩ ⟨rfl, rfl, (by rcases a with _|a <;> rfl), ?_, trivial⟩
     ·first
       | rfl
       | (show SV.val (.one (.own 201 4 0 _)) = _
          rw [List.length_append, zw]; rfl)
     ·first
       | (rw [<- nw, List.length_eq_zero_iff.1 zw]; rfl)
       | (rw [<- nw]; rfl)
   ·have hz : ¬ grS g j w = true := by simp [hz]
    rw [if_neg hz] at hsw
    have ekw : kN (w + 1) (grS g j) = kN w (grS g j) := by rw [<- hklw, <- hklw0, hsw]
    have nw : qF g j v (w + 1) = qF g j v w := by unfold qF; rw [hsw]
    refine ag ?_;show AWP _ _ _ _ _ _;refine gR fun _ O=>?_;refine ai rfl (aF (c := ((w + 1 : Nat) : Int)) (by omega) (by omega)) rfl ?_;refine Z9 ?_;refine eQ O ?_;clear O;refine ⟨w + 1, by omega, hy, ?_⟩;rw [ekw, nw];exact Wk.mk' ⟨rfl, rfl, rfl, rfl, rfl, rfl, rfl, rfl, rfl, rfl, rfl, rfl, rfl, rfl, trivial⟩ ⟨rfl, rfl, rfl, rfl, trivial⟩
  have hy : w = g.nodes.length := by simp at hy; omega
  subst hy
  refine ax ?_;show AWP _ _ _ _ _ _
  obtain ⟨q, hq⟩ : ∃ q, kN g.nodes.length (grS g j) = q + 1 := ⟨kN g.nodes.length (grS g j) - 1, by omega⟩
  have zn : (d8 g j v).length = q + 1 := by unfold d8; rw [List.length_map, dR, hq]
  rw [hq]
  rcases a with _ | a
  ·refine d3 [1, 2, 3, 6, 8, 10, 12, 13, 15, 46, 47] [3, 6, 200, 201] 201 [(1, dI i), (2, dI j), (3, .ptr 3 0), (6, .ptr 6 0), (8, V1 (.sl (nmD g.nodes.length (lab g)))), (10, V1 (dMs (ba g.nodes.length g.nodes.length F))), (12, bU 200 1 (0)), (13, dI (if i < v + 1 then resA g i j else 0 : Nat)), (15, V1 (dRs (d8 g j v))), (46, dI g.nodes.length), (47, dI v)] [(3, some (.box g.cs)), (6, some gl), (200, ca 1 es (0))] rfl ?_ ⟨rfl, rfl, rfl, trivial⟩ ?_
   ·exact ⟨rfl, rfl, rfl, rfl, rfl, rfl, rfl, rfl, bG rfl (by rw [List.length_map, zn]), rfl, rfl, trivial⟩
   refine gR fun _ O=>?_;refine Z9 ?_;refine Z9 ?_;refine aC rfl rfl rfl rfl ?_;refine aO rfl (dS rfl rfl rfl rfl rfl (by decide) (Nat.le_of_ble_eq_true rfl) rfl (by simp) rfl (by simp) (by simp)) rfl rfl rfl ?_;refine Z8 ?_;refine eQ O ?_;clear O;show AWP _ _ _ _ _ _;refine gR fun _ O=>?_;refine ai rfl (aF (c := ((v + 1 : Nat) : Int)) (by omega) (by omega)) rfl ?_;refine Z9 ?_;refine eQ O ?_;clear O;refine ⟨v + 1, by omega, hg, ?_⟩;rw [ek];refine Wk.rn [1, 2, 3, 6, 8, 10, 12, 13, 46, 47] [3, 6, 103] 103 200 rfl rfl rfl ⟨rfl, rfl, rfl, rfl, rfl, rfl, ?_, rfl, rfl, rfl, trivial⟩ ⟨rfl, rfl, ?_, trivial⟩
   ·first
     | rfl
     | (show SV.val (.one (.own 200 1 0 _)) = _
        rw [List.length_append, z1]; rfl)
   ·first
     | (rw [<- n1, List.length_eq_zero_iff.1 z1]; rfl)
     | (rw [<- n1]; rfl)
  ·refine d3 [1, 2, 3, 6, 8, 10, 12, 13, 15, 46, 47] [3, 6, 200, 201] 201 [(1, dI i), (2, dI j), (3, .ptr 3 0), (6, .ptr 6 0), (8, V1 (.sl (nmD g.nodes.length (lab g)))), (10, V1 (dMs (ba g.nodes.length g.nodes.length F))), (12, bU 200 1 (a + 1)), (13, dI (if i < v + 1 then resA g i j else 0 : Nat)), (15, V1 (dRs (d8 g j v))), (46, dI g.nodes.length), (47, dI v)] [(3, some (.box g.cs)), (6, some gl), (200, ca 1 es (a + 1))] rfl ?_ ⟨rfl, rfl, rfl, trivial⟩ ?_
   ·exact ⟨rfl, rfl, rfl, rfl, rfl, rfl, rfl, rfl, bG rfl (by rw [List.length_map, zn]), rfl, rfl, trivial⟩
   refine gR fun _ O=>?_;refine Z9 ?_;refine Z9 ?_;refine aC rfl rfl rfl rfl ?_;refine aO rfl (jn rfl rfl rfl rfl rfl rfl (by decide) (Nat.le_of_ble_eq_true rfl) rfl (by simp) rfl rfl z1.symm (by simp <;> omega)) rfl rfl rfl ?_;refine Z8 ?_;refine eQ O ?_;clear O;show AWP _ _ _ _ _ _;refine gR fun _ O=>?_;refine ai rfl (aF (c := ((v + 1 : Nat) : Int)) (by omega) (by omega)) rfl ?_;refine Z9 ?_;refine eQ O ?_;clear O;refine ⟨v + 1, by omega, hg, ?_⟩;rw [ek];refine Wk.rn [1, 2, 3, 6, 8, 10, 12, 13, 46, 47] [3, 6, 103] 103 200 rfl rfl rfl ⟨rfl, rfl, rfl, rfl, rfl, rfl, ?_, rfl, rfl, rfl, trivial⟩ ⟨rfl, rfl, ?_, trivial⟩
   ·first
     | rfl
     | (show SV.val (.one (.own 200 1 0 _)) = _
        rw [List.length_append, z1]; rfl)
   ·first
     | (rw [<- n1, List.length_eq_zero_iff.1 z1]; rfl)
     | (rw [<- n1]; rfl)
 have hg : v = g.nodes.length := by simp at hg; omega
 subst hg
 refine ax ?_;show AWP _ _ _ _ _ _;rw [if_pos hi]
 have hat := R.at_
 obtain ⟨q, hq⟩ : ∃ q, de g j = q + 1 := ⟨de g j - 1, by omega⟩
 have hq' : kN g.nodes.length (grS g j) = q + 1 := hq
 rw [hq'];refine d3 [3, 6, 12, 13] [3, 6, 200] 200 [(3, .ptr 3 0), (6, .ptr 6 0), (12, V1 (dMs (gx g j))), (13, dI (resA g i j))] [(3, some (.box g.cs)), (6, some gl)] rfl ?_ ⟨rfl, rfl, trivial⟩ ?_
 ·exact ⟨rfl, rfl, bG rfl (by rw [List.length_map]; exact (eF g j).symm ▸ hq.symm), rfl, trivial⟩
 refine gQ fun _ O=>?_;refine Z9 ?_;refine az rfl (jD (n := q + 1) rfl rfl (by rw [List.length_map, eF, hq])) rfl ?_;refine jY rfl rfl (DT (q + 1) (by omega)) (Or.inl rfl) rfl rfl rfl rfl ?_;refine Z8 ?_;refine eQ O ?_;clear O;refine gQ fun _ O=>?_;refine Z9 ?_;refine Z9 ?_;refine ac rfl rfl (co) rfl rfl rfl rfl ?_;refine aa rfl (x_o (i := resA g i j) (j := resA g i j) rfl rfl rfl rfl rfl (by omega) (Nat.zero_add _)) rfl ?_;refine ak rfl (rV (qzW 1) rfl rfl rfl (by omega)) rfl rfl rfl ?_;refine eQ O ?_;clear O
 have hside : aW (q + 1) (jc (fun _ => qzW 0) (resA g i j) (qzW 1)) = (jy g i j).map RW.dc := by unfold jy; rw [hq, jb]; rfl
 refine d3 [3, 6, 12, 13, 17] [3, 6, 107] 107 [(3, .ptr 3 0), (6, .ptr 6 0), (12, V1 (dMs (gx g j))), (13, dI (resA g i j)), (17, V1 (dRs (jy g i j)))] [(3, some (.box g.cs)), (6, some gl)] rfl ?_ ⟨rfl, rfl, trivial⟩ ?_
 ·exact ⟨rfl, rfl, rfl, rfl, bG hside (by rw [List.length_map]; unfold jy; rw [dK, hq]), trivial⟩
 have hml := eF g j
 have hdl : (jy g i j).length = de g j := by unfold jy; rw [dK]
 have cs := BH (gx g j) (jy g i j) (by omega) (by omega) (fun r hr => by
   obtain ⟨v, _, rfl⟩ := List.mem_map.1 hr
   show (d8 g j v).length <= _
   unfold d8; rw [List.length_map, dR]; have := zh g.nodes.length (grS g j); omega) R.ok (fun x hx => by
   obtain ⟨t, _, rfl⟩ := List.mem_map.1 hx
   split
   ·exact aY (by decide)
   ·exact aY (by decide)) (fun _ _ => by rw [hml]; exact ⟨R.fac, fun _ => R.sol⟩)
 have es : mp (gx g j) (jy g i j) = (Bw (bc (gx g j)) (gN (jy g i j)) (de g j), 0) := by
  rw [mp, if_pos ⟨R.val, hdl.trans hml.symm⟩, hml, if_pos R.pos]
 rw [es] at cs;simp only [Bw] at cs;refine gQ fun _ O=>?_;refine Z9 ?_;refine Z9 ?_;refine ac rfl rfl (cs) rfl rfl rfl rfl ?_;refine Z9 ?_;refine aq rfl rfl rfl ?_;refine aq rfl rfl rfl ?_;refine Z8 ?_;refine Z8 ?_;refine eQ O ?_;clear O;refine ab ?_;refine gQ fun _ O=>?_;refine Z9 ?_;refine Z6 ?_;refine eQ O ?_;clear O;refine aj rfl (fun h => by cases h) (fun _ => ?_);refine ag ?_;show AWP _ _ _ _ _ _;refine gQ fun _ O=>?_;refine Z9 ?_;refine Z9 ?_;refine aa rfl (x_v rfl rfl rfl rfl rfl hat) rfl ?_;refine Z7 ?_;refine ak rfl rfl rfl rfl rfl ?_;refine Z8 ?_;refine eQ O ?_;clear O;rw [<- eQQ];exact al aP
end Go.Proofs.YtceacleokgoooaaGreatDoor

/- Effective resistance: by trees and forests. No condition. -/
namespace Go.Proofs.YtceacleokgoooaaGreatDoor

theorem Ip (n : Nat) : VP n id := ⟨fun _ h => h, fun _ _ => rfl⟩
theorem Dw : ∀ n : Nat, cnt id n = n
 | 0 => rfl
 | n + 1 => by
  show cnt id n + (if id n = n then 1 else 0) = n + 1
  rw [Dw n, if_pos (show id n = n from rfl)]
theorem vz {n : Nat} {ls : List WL} {g : Nat} (hg : g < n + 1) (hl : ∀ x ∈ ls, x.f < n + 1 /\ x.t < n + 1) : dt (n + 1) (kk id g ls) = tr0 id n ls :=
 kU ls id g n (Ip _) rfl hg (Dw _) hl
end Go.Proofs.YtceacleokgoooaaGreatDoor

/- Resistance, Leverage, All, Trees. No condition. -/
namespace Go.Proofs.YtceacleokgoooaaGreatDoor
attribute [local irreducible] aA

theorem ED {g : GR} (gv : GV g) {i j : Nat} (hi : i < g.nodes.length) (hj : j < g.nodes.length) (hl : lab g i = lab g j) : ql (mq g i j) <= 65536 := by
 by_cases e : i = j
 ·have : mq g i j = 0 := if_pos e
  rw [this]; decide
 ·exact (tU gv hi hj e hl).bnd
theorem EC {g : GR} (gv : GV g) {i j : Nat} (hi : i < g.nodes.length) (hj : j < g.nodes.length) (hl : lab g i = lab g j) : IsR g.nodes.length (wls g.links) i j (mq g i j) := by
 by_cases e : i = j
 ·have : mq g i j = 0 := if_pos e
  rw [this, <- e]; exact IsR.same
 ·exact (tU gv hi hj e hl).res
def Fb (g : GR) (l : LK) : Rat := ((l.w : Int) : Rat) * mq g l.f.toNat l.t.toNat
def xV (g : GR) (k : Int) : RW × Int :=
 if d7 g = true then (if h : 0 <= k /\ k < (g.links.length : Int) then (qzW (Fb g (g.links[k.toNat]'(by omega))), 0) else (eO, 2)) else (eO, 1)
theorem HT (g : GR) (k : Int) : Con Tryz.prog 57 [AG g.cs, dI k] { v := .tup [.agg (xV g k).1.cs, .one (.d (lI (xV g k).2))] } := by
 refine Z3 Tryz.func57 ?_
 intro w0 X
 rw [ap _ _ [(0, AG g.cs), (1, dI k)] rfl rfl];refine gQ fun _ O=>?_;refine aS rfl rfl rfl rfl rfl rfl ?_;refine ay rfl rfl rfl rfl rfl rfl ?_;refine Z8 ?_;refine eQ O ?_;clear O;refine ab ?_;refine gQ fun _ O=>?_;refine Z7 ?_;refine ac rfl rfl (jG g) rfl rfl rfl rfl ?_;refine dJ rfl rfl rfl ?_;refine eQ O ?_;clear O;refine aj rfl (fun hc => ?_) (fun hc => ?_)
 ·rw [Bool.not_eq_true'] at hc
  have e : xV g k = (eO, 1) := by rw [xV, if_neg (by rw [hc]; simp)]
  rw [e];refine gQ fun _ O=>?_;refine bF rfl rfl rfl ?_;refine ak rfl rfl rfl rfl rfl ?_;refine Z8 ?_;refine eQ O ?_;clear O;exact al aP
 rw [Bool.not_eq_false'] at hc
 have gv := bO.1 hc
 rw [xV, if_pos hc];refine ag ?_;show AWP _ _ _ _ _ _;refine ab ?_;refine bD (α := Bool) (fun c => mk 46 [(1, dI k), (2, .ptr 2 0), (4, .ptr 4 0), (21, dB c)] [(2, some (.box g.cs)), (4, some gl)] []) (fun c => c = !decide (0 <= k /\ k < (g.links.length : Int))) ?_ ?_
 ·refine c6 fun _ O=>?_;refine ah tok rfl ?_;refine Z9 ?_;refine am ?_;refine ah tok rfl ?_;refine Z6 ?_;refine am ?_;refine ah tok rfl ?_;refine Z9 ?_;refine am ?_;refine da (fun h0 => ?_) (fun h0 => ?_)
  ·refine aB rfl rfl ?_;refine aB rfl rfl ?_;refine aB rfl rfl ?_;refine aB rfl rfl ?_;refine aB rfl rfl ?_;refine ah tok rfl ?_;refine Z4 ?_;refine am ?_;refine aN rfl (O _ ?_); clear O;exact ⟨_, (by simp only [decide_eq_true_eq, decide_eq_false_iff_not, Int.not_lt, ge_iff_le, Int.not_le] at h0; rw [Bool.eq_iff_iff]; simp only [Bool.not_eq_true', decide_eq_false_iff_not, decide_eq_true_eq, true_iff, ge_iff_le]; omega), Wk.mk' ⟨rfl, rfl, rfl, rfl, trivial⟩ ⟨rfl, rfl, trivial⟩⟩
  ·refine ah tok rfl ?_;refine Z9 ?_;refine am ?_;refine ah tok rfl ?_;refine Z5 ?_;refine am ?_;refine ah tok rfl ?_;refine Z7 ?_;refine am ?_;refine ah tok rfl ?_;refine az rfl (bZ LK.dc rfl rfl) rfl ?_;refine am ?_;refine ah tok rfl ?_;refine Z6 ?_;refine am ?_;refine ah tok rfl ?_;refine Z4 ?_;refine am ?_;refine aN rfl (O _ ?_); clear O;exact ⟨_, (by simp only [decide_eq_true_eq, decide_eq_false_iff_not, Int.not_lt, ge_iff_le, Int.not_le] at h0; rw [Bool.eq_iff_iff]; simp only [Bool.not_eq_true', decide_eq_false_iff_not, decide_eq_true_eq, true_iff, ge_iff_le]; omega), Wk.mk' ⟨rfl, rfl, rfl, rfl, trivial⟩ ⟨rfl, rfl, trivial⟩⟩
 rintro c rfl
 refine aj rfl (fun hd => ?_) (fun hd => ?_)
 ·rw [Bool.not_eq_true'] at hd;rw [dif_neg (of_decide_eq_false hd)];refine gQ fun _ O=>?_;refine bF rfl rfl rfl ?_;refine ak rfl rfl rfl rfl rfl ?_;refine Z8 ?_;refine eQ O ?_;clear O;exact al aP
 rw [Bool.not_eq_false'] at hd
 have hd := of_decide_eq_true hd
 rw [dif_pos hd]
 obtain ⟨a, rfl⟩ : ∃ a : Nat, k = a := ⟨k.toNat, by omega⟩
 have ha : a < g.links.length := by omega
 simp only [Int.toNat_natCast]
 obtain ⟨l, el⟩ : ∃ l, l = g.links[a] := ⟨_, rfl⟩
 have hml : l ∈ g.links := el ▸ List.getElem_mem ha
 have lv := gLV gv l hml
 obtain ⟨p, q, hp, hq, e1, e2, hne⟩ := lv.lt
 have hlb : lab g p = lab g q := by
  have := nI gv (x := wlk l) (List.mem_map.2 ⟨l, hml, rfl⟩)
  have a1 : (wlk l).f = p := by show l.f.toNat = p; omega
  have a2 : (wlk l).t = q := by show l.t.toNat = q; omega
  rwa [a1, a2] at this
 have cr := tT g gv p q hp hq
 rw [xz, if_pos hlb, <- e1, <- e2] at cr
 have co := jg l.w lv.iw
 have qr := ED gv hp hq hlb
 have cm := oo (qzW ((l.w : Int) : Rat)) (qzW (mq g p q)) (Fb g l) ((aY (dN lv.iw)).mono rfl) ((aY qr).mono rfl) (by
  rw [bg, bg]; unfold Fb
  rw [e1, e2, Int.toNat_natCast, Int.toNat_natCast])
 rw [<- el];refine ag ?_;show AWP _ _ _ _ _ _;refine gQ fun _ O=>?_;refine Z5 ?_;refine Z7 ?_;refine Z9 ?_;refine aa rfl (x_m LK.dc rfl rfl rfl rfl ha rfl) rfl ?_;refine Z7 ?_;refine ay rfl rfl rfl rfl rfl rfl ?_;refine ak rfl rfl rfl rfl rfl ?_;refine eQ O ?_;clear O;rw [<- el];refine gQ fun _ O=>?_;refine Z7 ?_;refine Z5 ?_;refine Z7 ?_;refine Z5 ?_;refine Z7 ?_;refine ac rfl rfl (cr) rfl rfl rfl rfl ?_;refine Z9 ?_;refine aq rfl rfl rfl ?_;refine aq rfl rfl rfl ?_;refine ay rfl rfl rfl rfl rfl rfl ?_;refine ak rfl rfl rfl rfl rfl ?_;refine Z8 ?_;refine eQ O ?_;clear O;refine ab ?_;refine gQ fun _ O=>?_;refine Z9 ?_;refine Z6 ?_;refine eQ O ?_;clear O;refine aj rfl (fun h => by cases h) (fun _ => ?_);refine ag ?_;show AWP _ _ _ _ _ _;refine aL tok mixed (A := [[], [], [0], [], [0, 1], [], []]) (an := [{}, {}, {}, { c := [43] }, {}, {}, {}]) rfl (by kernel_rfl) rfl fun _ O=>?_;refine Z5 ?_;refine Z7 ?_;refine ac rfl rfl (co) rfl rfl rfl rfl ?_;refine Z7 ?_;refine ac rfl rfl (cm) rfl rfl rfl rfl ?_;refine ak rfl rfl rfl rfl rfl ?_;refine Z8 ?_;refine eQ O ?_;clear O;exact al aP

/-! ### Trees -/
def trZ : (Nat -> Nat) -> Nat -> List LK -> Int
 | _, 0, _ => 1
 | _, _ + 1, [] => 0
 | p, left + 1, x :: xs => if p x.f.toNat = p x.t.toNat then trZ p (left + 1) xs else trZ p (left + 1) xs + x.w * trZ (mg p (p x.f.toNat) (p x.t.toNat)) left xs
theorem mW : ∀ (ls : List LK) (p : Nat -> Nat) (left : Nat), ((trZ p left ls : Int) : Rat) = tr0 p left (wls ls)
 | [], _, 0 => rfl
 | _ :: _, _, 0 => rfl
 | [], _, _ + 1 => rfl
 | x :: xs, p, left + 1 => by
  have e : wls (x :: xs) = wlk x :: wls xs := rfl
  rw [e];simp only [trZ, tr0]
  by_cases h : p x.f.toNat = p x.t.toNat
  ·rw [if_pos h, if_pos (show p (wlk x).f = p (wlk x).t from h), mW xs p (left + 1)]
  ·rw [if_neg h, if_neg (show ¬ p (wlk x).f = p (wlk x).t from h), Rat.intCast_add, Rat.intCast_mul, mW xs p (left + 1), mW xs _ left]; rfl
def kK (g : GR) : Int × Int := if d7 g = true then (trZ id (g.nodes.length - 1) g.links, 0) else (0, 1)
theorem wR (g : GR) : Con Tryz.prog 28 [AG g.cs] { v := .tup [.agg (ZC (kK g).1), .one (.d (lI (kK g).2))] } := by
 refine Z3 Tryz.func28 ?_
 intro w0 X
 rw [ap _ _ [(0, AG g.cs)] rfl rfl];refine gQ fun _ O=>?_;refine aS rfl rfl rfl rfl rfl rfl ?_;refine ay rfl rfl rfl rfl rfl rfl ?_;refine Z8 ?_;refine eQ O ?_;clear O;refine ab ?_;refine gQ fun _ O=>?_;refine Z7 ?_;refine ac rfl rfl (jG g) rfl rfl rfl rfl ?_;refine dJ rfl rfl rfl ?_;refine eQ O ?_;clear O;refine aj rfl (fun hc => ?_) (fun hc => ?_)
 ·rw [Bool.not_eq_true'] at hc
  have e : kK g = (0, 1) := by rw [kK, if_neg (by rw [hc]; simp)]
  rw [e];refine gQ fun _ O=>?_;refine bF rfl rfl rfl ?_;refine ak rfl rfl rfl rfl rfl ?_;refine Z8 ?_;refine eQ O ?_;clear O;exact al aP
 rw [Bool.not_eq_false'] at hc
 have gv := bO.1 hc
 rw [kK, if_pos hc]
 have n1 := gv.n1
 have n16 := gv.n2
 obtain ⟨m, hm⟩ : ∃ m, g.nodes.length = m + 1 := ⟨g.nodes.length - 1, by omega⟩
 have hM : ∀ a b, -50331648 <= lapM g.links a b /\ lapM g.links a b <= 50331648 := fun a b => by
  have h1 := lN g.links (gLV gv) a b
  have h2 := gv.l
  omega
 have hq : ∀ a b, ql ((lapM g.links a b : Int) : Rat) <= 2 := fun a b => by have := hM a b; exact dN ⟨by omega, by omega⟩
 have cL := C1 g
 have e1 : rY g = (iQ g.nodes.length (lapM g.links), 0) := by rw [rY, if_pos hc]
 rw [e1] at cL
 obtain ⟨L, eL⟩ : ∃ L, L = iQ g.nodes.length (lapM g.links) := ⟨_, rfl⟩
 have eM : L = ba (m + 1) (m + 1) (fun a b => qzW ((lapM g.links a b : Int) : Rat)) := by rw [eL, hm]; rfl
 rw [<- eL] at cL
 have hLl : L.length = m + 1 := by rw [eM, i6]
 have hLr : ∀ r ∈ L, r.length = m + 1 := fun r hr => by
  rw [eM] at hr
  obtain ⟨i, _, rfl⟩ := List.mem_map.1 hr
  exact dK _ _
 have okL : okM 65536 L := fun r hr x hx => by
  rw [eM] at hr
  obtain ⟨i, _, rfl⟩ := List.mem_map.1 hr
  obtain ⟨j, _, rfl⟩ := List.mem_map.1 hx
  exact (aY (hq i j)).mono rfl
 have vL : cp L = true := by
  rw [eM];exact decide_eq_true (u6.2 ⟨by omega, fun i _ j _ => by rw [bg, bg, s4 (n := g.nodes.length) g.links (gLV gv) i j]⟩)
 have cMn := BI L 0 (by omega) (fun r hr => by rw [hLr r hr]; omega) okL
 obtain ⟨N, eN⟩ : ∃ N, N = ba m m (fun a b => qzW ((lapM g.links (a + 1) (b + 1) : Int) : Rat)) := ⟨_, rfl⟩
 have eMn : my L 0 = (N, 0) := by
  rw [my, if_pos vL, if_pos (by rw [hLl]; omega), hLl, eN]
  congr 1
  refine xS fun a b ha hb => ?_
  unfold mz
  rw [eM, show (0 : Int).toNat = 0 from rfl, gI, gI, kd (by omega) (by omega), bg]
 rw [eMn] at cMn
 have hNl : N.length = m := by rw [eN, i6]
 have hNr : ∀ r ∈ N, r.length = m := fun r hr => by
  rw [eN] at hr
  obtain ⟨i, _, rfl⟩ := List.mem_map.1 hr
  exact dK _ _
 have okN : okM 65536 N := fun r hr x hx => by
  rw [eN] at hr
  obtain ⟨i, _, rfl⟩ := List.mem_map.1 hr
  obtain ⟨j, _, rfl⟩ := List.mem_map.1 hx
  exact (aY (hq _ _)).mono rfl
 have vN : cp N = true := by
  rw [eN];exact decide_eq_true (u6.2 ⟨by omega, fun i _ j _ => by rw [bg, bg, s4 (n := g.nodes.length) g.links (gLV gv) (i + 1) (j + 1)]⟩)
 have hmv : ∀ a b, a < m -> b < m -> bc N a b = ((lapM g.links (a + 1) (b + 1) : Int) : Rat) := fun a b ha hb => by
  unfold bc; rw [eN, kd ha hb, bg]
 have cD := GZ N (by omega) (fun r hr => by rw [hNr r hr]; omega) okN (fun _ => by
  rw [hNl]
  exact FE (m := 26) (J := 15) (fun a b ha hb => by
   rw [hmv a b ha hb]
   have := hM (a + 1) (b + 1)
   exact ⟨_, rfl, by
    have e : (2 : Nat) ^ 26 = 67108864 := by decide
    rw [e]; omega⟩) (by omega) (by omega) (by decide))
 have eD : dt m (bc N) = ((trZ id m g.links : Int) : Rat) := by
  rw [mW, <- vz (n := m) (g := 0) (by omega) (fun x hx => hm ▸ mS gv x hx), nA (p := id) (g := 0) (k := 0) (by omega) (fun e => (bM.1 e).2 rfl)];refine aJ fun a b ha hb => ?_;rw [hmv a b ha hb, gI, gI, cw (bM.2 ⟨rfl, by omega⟩) (bM.2 ⟨rfl, by omega⟩), uC (gLV gv)]
 have eV : yk N = (qzW ((trZ id m g.links : Int) : Rat), 0) := by rw [yk, if_pos vN, hNl, eD]
 rw [eV] at cD
 have hqt : ql ((trZ id m g.links : Int) : Rat) <= 15 := by
  rw [<- eD]
  obtain ⟨z, h1, h2⟩ := jN (m := 26) (n := m) (A := bc N) (by omega) (fun a b ha hb => by
   rw [hmv a b ha hb]
   have := hM (a + 1) (b + 1)
   exact ⟨_, rfl, by
    have e : (2 : Nat) ^ 26 = 67108864 := by decide
    rw [e]; omega⟩)
  rw [h1, xH]
  have := tD (j := 15) h2 (by omega)
  omega
 have cW := B8 (qzW ((trZ id m g.links : Int) : Rat)) (trZ id m g.links) ((aY hqt).mono rfl) (bg _)
 rw [hm, Nat.add_sub_cancel];refine ag ?_;show AWP _ _ _ _ _ _;refine gQ fun _ O=>?_;refine Z7 ?_;refine ac rfl rfl (cL) rfl rfl rfl rfl ?_;refine Z9 ?_;refine aq rfl rfl rfl ?_;refine aq rfl rfl rfl ?_;refine Z8 ?_;refine Z8 ?_;refine eQ O ?_;clear O;refine gQ fun _ O=>?_;refine Z9 ?_;refine ac rfl rfl (cMn) rfl rfl rfl rfl ?_;refine Z9 ?_;refine aq rfl rfl rfl ?_;refine aq rfl rfl rfl ?_;refine Z8 ?_;refine Z8 ?_;refine eQ O ?_;clear O;refine ab ?_;refine gQ fun _ O=>?_;refine Z9 ?_;refine Z6 ?_;refine eQ O ?_;clear O;refine aj rfl (fun h => by cases h) (fun _ => ?_);refine ag ?_;show AWP _ _ _ _ _ _;refine gQ fun _ O=>?_;refine Z9 ?_;refine ac rfl rfl (cD) rfl rfl rfl rfl ?_;refine Z9 ?_;refine aq rfl rfl rfl ?_;refine aq rfl rfl rfl ?_;refine ay rfl rfl rfl rfl rfl rfl ?_;refine ak rfl rfl rfl rfl rfl ?_;refine Z8 ?_;refine eQ O ?_;clear O;refine ab ?_;refine gQ fun _ O=>?_;refine Z9 ?_;refine Z6 ?_;refine eQ O ?_;clear O;refine aj rfl (fun h => by cases h) (fun _ => ?_);refine ag ?_;show AWP _ _ _ _ _ _;refine gQ fun _ O=>?_;refine Z7 ?_;refine ac rfl rfl (cW) rfl rfl rfl rfl ?_;refine Z9 ?_;refine aq rfl rfl rfl ?_;refine aq rfl rfl rfl ?_;refine ay rfl rfl rfl rfl rfl rfl ?_;refine ak rfl rfl rfl rfl rfl ?_;refine Z8 ?_;refine eQ O ?_;clear O;refine gQ fun _ O=>?_;refine Z7 ?_;refine ak rfl rfl rfl rfl rfl ?_;refine Z8 ?_;refine eQ O ?_;clear O;exact al aP
end Go.Proofs.YtceacleokgoooaaGreatDoor

/- ref32: numbered, merged, trees, Trees. No condition. -/
namespace Go.Proofs.YtceacleokgoooaaGreatDoor
attribute [local irreducible] aA

def zV (f : Nat -> Nat) (a x : Nat) : Nat -> Nat := fun i => if i = a then x else f i
theorem dP (n : Nat) (f : Nat -> Nat) : (nmD n f).length = n := by simp [nmD]
theorem lK {n i : Nat} {f : Nat -> Nat} (h : i < n) : (nmD n f)[i]? = some (cN (f i)) := by simp [nmD, h]
theorem ow {n : Nat} {f g : Nat -> Nat} (h : ∀ i, i < n -> f i = g i) : nmD n f = nmD n g := List.map_congr_left fun i hi => by rw [h i (List.mem_range.1 hi)]
theorem EZ {n i x : Nat} {f : Nat -> Nat} : (nmD n f).set i (cN x) = nmD n (zV f i x) := by
 apply List.ext_getElem?
 intro k
 rw [List.getElem?_set]
 by_cases hk : i = k
 ·subst hk
  rw [if_pos rfl, dP]
  by_cases hn : i < n
  ·rw [if_pos hn, lK hn]; simp [zV]
  ·rw [if_neg hn, List.getElem?_eq_none (by rw [dP]; omega)]
 ·rw [if_neg hk]
  rcases Nat.lt_or_ge k n with hn | hn
  ·rw [lK hn, lK hn]; simp [zV, Ne.symm hk]
  ·rw [List.getElem?_eq_none (by rw [dP]; omega), List.getElem?_eq_none (by rw [dP]; omega)]
section
variable {T : Tab} {t e : TypeId} {ti ei : TI}
theorem Jy {S : bR} {rb : List Nat} {id i n : Nat} {f : Nat -> Nat} (x : Nat) (h1 : T t = some ti) (h4 : ti.size = 1) (hS : S id = some (.arr 1 (nmD n f))) (hi : i < n) :
  bw T ⟨[], S, rb⟩ t (.pe id 1 i 0) (dI x) = .upd (aX S id (.arr 1 (nmD n (zV f i x)))) rb := by
 rw [<- EZ];exact tM (ds := cN x) h1 hS (by rw [dP]; exact hi) (fun el h => by rw [lK hi] at h; cases h; rw [h4]; rfl) rfl (by rw [h4]; rfl) (by rw [h4]; rfl)
end

end Go.Proofs.YtceacleokgoooaaGreatDoor

/- Union-find: root, single, join. No condition. -/
namespace Go.Proofs.YtceacleokgoooaaGreatDoor
attribute [local irreducible] aA
open Go.RowKit

def itS (s : Nat -> Nat) : Nat -> Nat -> Nat
 | 0, v => v
 | k + 1, v => itS s k (s v)
theorem uE {s : Nat -> Nat} {v : Nat} (h : s v = v) : ∀ k, itS s k v = v
 | 0 => rfl
 | k + 1 => by rw [itS, h]; exact uE h k
def RT (n : Nat) (s : Nat -> Nat) (v r : Nat) : Prop := (∀ x, x < n -> s x < n) /\ v < n /\ s r = r /\ ∃ k, itS s k v = r
theorem RT.lt {n : Nat} {s : Nat -> Nat} {v r : Nat} (h : RT n s v r) : r < n := by
 obtain ⟨h1, h2, _, k, h4⟩ := h
 have : ∀ k v, v < n -> itS s k v < n := by
  intro k
  induction k with
  | zero => intro v h; exact h
  | succ k ih => intro v h; exact ih _ (h1 v h)
 rw [<- h4]; exact this k v h2
theorem BM (n : Nat) (s : Nat -> Nat) (v r : Nat) (h : RT n s v r) : Con Tryz.prog 118 [V1 (.sl (nmD n s)), dI v] { v := dI r } := by
 obtain ⟨h1, h2, h3, k, h4⟩ := h
 refine Z3 Tryz.func118 ?_
 intro w0 X
 rw [ap _ _ [(0, V1 (.sl (nmD n s))), (1, dI v)] rfl rfl];refine gQ fun _ O=>?_;refine Z8 ?_;refine eQ O ?_;clear O;refine ab ?_;refine ae (aG (α := Nat × Nat) (fun p => mk 16 [(0, V1 (.sl (nmD n s))), (1, dI p.1)] [] []) (fun p => p.1 < n /\ itS s p.2 p.1 = r) (fun p => p.2) (v, k) ?_ ⟨h2, h4⟩ ?_)
 ·exact Wk.mk' ⟨rfl, rfl, trivial⟩ trivial
 rintro ⟨x, k⟩ ⟨hx, hk⟩
 simp only at hx hk ⊢
 refine ab ?_;refine gQ fun _ O=>?_;refine Z9 ?_;refine Z9 ?_;refine aa rfl (x_n rfl rfl rfl rfl rfl hx) rfl ?_;refine Z7 ?_;refine Z9 ?_;refine ai rfl (w5 _ _) rfl ?_;refine eQ O ?_;clear O;refine aj rfl (fun hc => ?_) (fun hc => ?_)
 ·have hc := of_decide_eq_true hc
  refine ag ?_;show AWP _ _ _ _ _ _;refine ae ?_;refine gR fun _ O=>?_;refine Z9 ?_;refine Z9 ?_;refine aa rfl (x_n rfl rfl rfl rfl rfl hx) rfl ?_;refine Z7 ?_;refine Z8 ?_;refine eQ O ?_;clear O
  rcases k with _ | k
  ·have hk : x = r := hk
   rw [hk] at hc; exact absurd h3 hc
  ·exact ⟨(s x, k), Nat.lt_succ_self k, ⟨h1 x hx, hk⟩, Wk.mk' ⟨rfl, rfl, trivial⟩ trivial⟩
 ·have hc : s x = x := Classical.byContradiction (of_decide_eq_false hc)
  have e : r = x := by rw [<- hk]; exact uE hc k
  subst e
  refine ax ?_;show AWP _ _ _ _ _ _;refine gQ fun _ O=>?_;refine Z9 ?_;refine Z8 ?_;refine eQ O ?_;clear O;exact al aP

def sgS (i v : Nat) : Nat := if v < i then v else 0
theorem Bx (n : Nat) (hn : n <= 1048576) : Con Tryz.prog 79 [dI n] { v := .val (.one (.own 0 1 0 n)), ob := some (1, nmD n id) } := by
 refine Z3 Tryz.func79 ?_
 intro w0 X
 rw [ap _ _ [(0, dI n)] rfl rfl];refine gQ fun _ O=>?_;refine Z8 ?_;refine eQ O ?_;clear O;refine gQ fun _ O=>?_;refine Z9 ?_;refine bm (sz := _) (es := _) (f := _) (v := _) rfl (wy (l := n) rfl rfl rfl rfl rfl (Nat.le_of_ble_eq_true rfl) (by decide) rfl rfl (by omega)) rfl rfl ?_;refine Z8 ?_;refine eQ O ?_;clear O;refine ab ?_;refine gQ fun _ O=>?_;refine Z9 ?_;refine az rfl rfl rfl ?_;refine Z9 ?_;refine eQ O ?_;clear O;refine ae (aG (α := Nat) (fun s => mk 18 [(3, .val (.one (.own 6 1 0 n))), (8, dI n), (9, dI s)] [(6, some (.arr 1 (nmD n (sgS s))))] []) (fun s => s <= n) (fun s => n - s) 0 ?_ (Nat.zero_le _) ?_)
 ·exact Wk.mk' ⟨rfl, rfl, rfl, trivial⟩ ⟨congrArg (fun x => some (OO.arr 1 x)) ((show List.replicate n (cN 0) = nmD n (fun _ => 0) by simp [nmD, List.map_const']).trans (ow fun v _ => by unfold sgS; rw [if_neg (by omega)])), trivial⟩
 intro s hs
 refine gQ fun _ O=>?_;refine Z6 ?_;refine eQ O ?_;clear O;refine ab ?_;refine aj rfl (fun hf => ?_) (fun hf => ?_)
 ·have hf : s < n := by simp at hf; omega
  refine ag ?_;show AWP _ _ _ _ _ _;refine ab ?_;refine ae ?_;refine gQ fun _ O=>?_;refine Z9 ?_;refine Z8 ?_;refine eQ O ?_;clear O;refine gR fun _ O=>?_;refine Z9 ?_;refine Z9 ?_;refine Z9 ?_;refine aa rfl (x_o (i := s) (j := s) rfl rfl rfl rfl rfl hf (Nat.zero_add _)) rfl ?_;refine ak rfl (Jy s rfl rfl rfl hf) rfl rfl rfl ?_;refine eQ O ?_;clear O
  have e : nmD n (zV (sgS s) s s) = nmD n (sgS (s + 1)) := ow fun v _ => by
   unfold zV sgS
   by_cases h : v = s
   ·rw [if_pos h, h, if_pos (by omega)]
   ·rw [if_neg h]
    by_cases h2 : v < s
    ·rw [if_pos h2, if_pos (by omega)]
    ·rw [if_neg h2, if_neg (by omega)]
  rw [e];show AWP _ _ _ _ _ _;refine gR fun _ O=>?_;refine ai rfl (aF (c := ((s + 1 : Nat) : Int)) (by omega) (by omega)) rfl ?_;refine Z9 ?_;refine eQ O ?_;clear O;exact ⟨s + 1, by omega, hf, Wk.mk' ⟨rfl, rfl, rfl, trivial⟩ ⟨rfl, trivial⟩⟩
 have hf : s = n := by simp at hf; omega
 subst hf
 refine ax ?_;show AWP _ _ _ _ _ _
 have e : nmD s (sgS s) = nmD s id := ow fun i hi => if_pos hi
 rw [e];refine gQ fun _ O=>?_;refine Z9 ?_;refine Z8 ?_;refine eQ O ?_;clear O;refine al ?_;exact kS (nM (by rfl) rfl)
end Go.Proofs.YtceacleokgoooaaGreatDoor

/- join. No condition. -/
namespace Go.Proofs.YtceacleokgoooaaGreatDoor
attribute [local irreducible] aA
open Go.RowKit

theorem vM {n : Nat} {s : Nat -> Nat} {v r : Nat} (h : RT n s v r) {w1 : World} (hL : TbW w1) {b cap : Nat} {cs : Array Value} {E : TypeId} (hh : w1.heap[b]? = some (.cells cs E (0, 0))) (hcap : n <= cap) (hcs : ∀ i, i < n -> cs[i]? = some (.int .i64 (s i : Nat))) :
  Calls Tryz.prog 118 #[.slice (some ⟨b, 0, none⟩) n cap, .int .i64 (v : Nat)] w1 fun e w' => e = .returned (.int .i64 (r : Nat)) /\ Below w1.heap.size w1 w' := by
 have c := (BM n s v r h).2 w1 (fun _ => False) (fun _ => 0) [.slice (some ⟨b, 0, none⟩) n cap, .int .i64 (v : Nat)] hL (fun _ h => h.elim) rfl (fun i x hx => by
  match i, hx with
  | 0, hx =>
   cases hx
   refine ⟨_, rfl, ?_⟩
   show RdC _ _ _ _
   refine RdC.sl (sz := 1) (fun i _ => .int .i64 (s i : Nat)) hh (fun h => h) (by rw [dP]) hcap (fun i e he => ?_) (fun i j d hd => ?_) (fun i j d hd => ?_)
   ·obtain ⟨q, _, rfl⟩ := List.mem_map.1 (List.mem_of_getElem? he); rfl
   ·unfold at2 at hd
    by_cases hi : i < n
    ·rw [lK hi] at hd
     match j, hd with
     | 0, hd => simpa using hcs i hi
     | j + 1, hd => simp [cN] at hd
    ·rw [List.getElem?_eq_none (by rw [dP]; omega)] at hd; cases hd
   ·unfold at2 at hd
    by_cases hi : i < n
    ·rw [lK hi] at hd
     match j, hd with
     | 0, hd => cases hd; exact RdC.lit rfl
     | j + 1, hd => simp [cN] at hd
    ·rw [List.getElem?_eq_none (by rw [dP]; omega)] at hd; cases hd
  | 1, hx => cases hx; exact ⟨_, rfl, RdC.lit rfl⟩)
 refine c.mono fun e w' ⟨v', he, hb, hr⟩ => ⟨?_, hb⟩;rw [he]
 obtain ⟨_, _, hr⟩ := hr
 have hr : RdC _ _ v' (.lit (.int .i64 (r : Nat))) := hr
 cases hr; rfl
theorem CP {n : Nat} {s : Nat -> Nat} {v u rv ru : Nat} (hv : RT n s v rv) (hu : RT n s u ru) : Gz Tryz.prog 80 n s v u rv ru := by
 refine ⟨⟨_, Tryz.func80, rfl, rfl⟩, fun w b cap cs E hL hh hcap hcz hcs => ?_⟩
 have hrv := hv.lt
 obtain ⟨fr, r1, r2, r3⟩ := (BM n s v rv hv).1
 refine calls_of_wp Tryz.func80 rfl ?_
 obtain ⟨A, hA⟩ : ∃ A : Value, A = .slice (some ⟨b, 0, none⟩) n cap := ⟨_, rfl⟩
 obtain ⟨B, hB⟩ : ∃ B : Value, B = .int .i64 (v : Nat) := ⟨_, rfl⟩
 obtain ⟨C, hC⟩ : ∃ C : Value, C = .int .i64 (u : Nat) := ⟨_, rfl⟩
 rw [<- hA, <- hB, <- hC]
 have e0 : (#[A, B, C] ++ Array.replicate (Tryz.f80.ntmps - (#[A, B, C] : Array Value).size) undef : Array Value) = #[A, B, C, undef, undef, undef, undef, undef, undef, undef, undef, undef, undef, undef, undef, undef, undef, undef, undef, undef] := by
  apply Array.ext'
  rw [Array.toList_append, Array.toList_replicate]; rfl
 rw [e0]
 have ka : KA 20 { tmps := #[A, B, C, undef, undef, undef, undef, undef, undef, undef, undef, undef, undef, undef, undef, undef, undef, undef, undef, undef], defers := [] } [(0, A), (1, B), (2, C)] := by
  refine ⟨rfl, rfl, fun k x hk => ?_⟩
  match k, hk with
  | 0, hk => cases hk; rfl
  | 1, hk => cases hk; rfl
  | 2, hk => cases hk; rfl
  | k + 3, hk => simp [List.lookup] at hk
 generalize ({ tmps := #[A, B, C, undef, undef, undef, undef, undef, undef, undef, undef, undef, undef, undef, undef, undef, undef, undef, undef, undef], defers := [] } : Act) = a0 at ka ⊢;refine wp_seq (wp_region ?_)
 show wpOps _ _ _ [0] _ _
 refine Fn rfl ka rfl fun a1 ka => ?_
 show Code.wp _ _ _ _ _
 refine wp_seq (wp_region ?_)
 show wpOps _ _ _ [0, 1, 2, 3, 4, 5, 6, 7] _ _
 refine kg rfl ka rfl rfl fun a2 ka => ?_;refine kg rfl ka rfl rfl fun a3 ka => ?_;refine zg rfl ka rfl rfl rfl r1 r2 r3 ?_;rw [hA, hB];refine (vM hv hL hh hcap hcs).mono fun e w1 ⟨he, hb1⟩ => ⟨_, he, fun a4 ka => ?_⟩;rw [<- hA, <- hB] at ka
 have hh1 : w1.heap[b]? = some (.cells cs E (0, 0)) := (hb1.block b (bt hh)).trans hh
 refine kg rfl ka rfl rfl fun a5 ka => ?_;refine kg rfl ka rfl rfl fun a6 ka => ?_;refine zg rfl ka rfl rfl rfl r1 r2 r3 ?_;rw [hA, hC];refine (vM hu (hL.below hb1) hh1 hcap hcs).mono fun e w2 ⟨he, hb2⟩ => ⟨_, he, fun a7 ka => ?_⟩;rw [<- hA, <- hC] at ka
 have hh2 : w2.heap[b]? = some (.cells cs E (0, 0)) := (hb2.block b (bt hh1)).trans hh1
 refine q5 rfl ka rfl rfl fun a8 ka => ?_;refine q5 rfl ka rfl rfl fun a9 ka => ?_
 show Code.wp _ _ _ _ _
 refine wp_seq (wp_region ?_)
 show wpOps _ _ _ [0, 1, 2, 3, 4] _ _
 refine kg rfl ka rfl rfl fun a10 ka => ?_;refine kg rfl ka rfl rfl fun a11 ka => ?_;refine kg rfl ka rfl rfl fun a12 ka => ?_
 have hz : rv < cs.size := (Array.getElem?_eq_some_iff.1 (hcs rv hrv)).1
 have ei : (Instr.indexAt 138 A (.int .i64 (rv : Nat))).run Tryz.prog w2 = .ok (.pointer (some ⟨b, rv, none⟩)) w2 := by
  obtain ⟨x, h1, h2⟩ := iK (P := Tryz.prog) (T := tab) (w := w2) (X := fun _ => False) (μ := fun _ => b) tok (t := 138) (vx := A) (vi := .int .i64 (rv : Nat)) (x := .val (.one (.own 0 1 0 n))) (i := dI rv) (v := .pe 0 1 rv 0) ⟨cap, cs, E, (0, 0), by rw [hA, Nat.zero_mul], hcap, hh2, by rw [Nat.zero_add, Nat.mul_one]; exact hcz⟩ (RdC.lit rfl) (x_o (i := rv) (j := rv) rfl rfl rfl rfl rfl hrv (Nat.zero_add _))
  rw [h1]
  have h2 : x = .pointer (some ⟨b, rv * 1 + 0, none⟩) := h2
  rw [h2, Nat.mul_one, Nat.add_zero]
 refine IY rfl ka rfl rfl rfl ei fun a13 ka => ?_;refine Fm (w' := setRow w2 b (cs.setIfInBounds rv (.int .i64 (ru : Nat)))) rfl ka rfl rfl ?_ ?_
 ·obtain ⟨ti, ht, hs⟩ : ∃ ti, tab.ty 3 = some ti /\ ti.size = 1 := ⟨_, rfl, rfl⟩
  have := iV (P := Tryz.prog) (X := fun _ => False) (μ := fun _ => 0) (tok.ty _ _ ht) (off := rv) hh2 (v := .int .i64 (ru : Nat)) (x := .one (.d (lI (ru : Nat)))) (RdC.lit rfl) hs.symm (by rw [hs]; exact hz)
  exact this
 show Code.wp _ _ _ _ _
 refine wp_seq (wp_region ?_)
 show wpOps _ _ _ [0, 1, 2, 3] _ _
 refine kg rfl ka rfl rfl fun a14 ka => ?_;refine kg rfl ka rfl rfl fun a15 ka => ?_
 obtain ⟨x, h1, h2⟩ := nW (P := Tryz.prog) (T := tab) (w := setRow w2 b (cs.setIfInBounds rv (.int .i64 (ru : Nat)))) (X := fun _ => False) (μ := fun _ => b) tok (op := .neq) (t := 3) (ox := .tmp 17) (oy := .tmp 18) (x := dI rv) (y := dI ru) (v := dB (decide (rv ≠ ru))) (RdC.lit (v := .int .i64 (rv : Nat)) rfl) (RdC.lit (v := .int .i64 (ru : Nat)) rfl) (w5 rv ru)
 have h2 : x = .bool (decide (rv ≠ ru)) := by
  have h2 : RdC _ _ x (.lit (.bool (decide (rv ≠ ru)))) := h2
  cases h2; rfl
 rw [h2] at h1;refine IZ rfl ka rfl rfl rfl (fun a' q1 q2 => by simp only [execOp]; rw [q1, q2]) h1 fun a16 ka => ?_;refine q5 rfl ka rfl rfl fun a17 ka => ?_
 show Code.wp _ _ _ _ _
 refine wp_ret ?_;refine ⟨ka.2.1, .bool (decide (rv ≠ ru)), ?_, rfl, w2, hb1.trans (hb2.mono hb1.size), hh2.trans hh.symm, rfl⟩
 have e6 := ka.2.2 6 _ rfl
 have e7 : results Tryz.f80 a17.tmps = pure (a17.eval (.tmp 6)) := by
  unfold results
  show _ = pure (a17.tmps.getD 6 undef)
  rw [Array.getD_eq_getD_getElem?];simp only [Tryz.f80]
  simp
 rw [e7, e6]; rfl
end Go.Proofs.YtceacleokgoooaaGreatDoor

/- Union-find against connectedness; Forest. No condition. -/
namespace Go.Proofs.YtceacleokgoooaaGreatDoor
attribute [local irreducible] aA
open Go.RowKit

def jR (ρ : Nat -> Nat) (f t x : Nat) : Nat := if ρ x = ρ f then ρ t else ρ x
def jf : List LK -> Nat -> Nat := fun ls => ls.foldl (fun ρ l => jR ρ l.f.toNat l.t.toNat) id
theorem sE (ls : List LK) (l : LK) : jf (ls ++ [l]) = jR (jf ls) l.f.toNat l.t.toNat := by unfold jf; rw [List.foldl_append]; rfl
def RTs (n : Nat) (s ρ : Nat -> Nat) : Prop := ∀ v, v < n -> RT n s v (ρ v)
theorem Ii (n : Nat) : RTs n id id := fun v hv => ⟨fun x h => h, hv, rfl, 0, rfl⟩
theorem DL {n : Nat} {s ρ s' : Nat -> Nat} {f t : Nat} (h : RTs n s ρ) (hf : f < n) (ht : t < n) (hs' : ∀ i, s' i = if i = ρ f then ρ t else s i) : RTs n s' (jR ρ f t) := by
 have rf := h f hf
 have rt := h t ht
 have cl : ∀ x, x < n -> s' x < n := fun x hx => by
  rw [hs']; split
  ·exact rt.lt
  ·exact rf.1 x hx
 have key : ∀ k x, x < n -> ∀ r, itS s k x = r -> s r = r -> ∃ k', itS s' k' x = (if r = ρ f then ρ t else r) /\ s' (if r = ρ f then ρ t else r) = (if r = ρ f then ρ t else r) := by
  intro k
  have hroot : ∀ r, s r = r -> s' (if r = ρ f then ρ t else r) = (if r = ρ f then ρ t else r) := fun r hr => by
   by_cases e : r = ρ f
   ·rw [if_pos e, hs']
    by_cases e2 : ρ t = ρ f
    ·rw [if_pos e2]
    ·rw [if_neg e2]; exact rt.2.2.1
   ·rw [if_neg e, hs', if_neg e]; exact hr
  induction k with
  | zero =>
   intro x hx r hk hr
   have hk : x = r := hk
   subst hk
   by_cases e : x = ρ f
   ·refine ⟨1, ?_, hroot x hr⟩
    show s' x = _
    rw [hs', if_pos e, if_pos e]
   ·refine ⟨0, ?_, hroot x hr⟩
    show x = _
    rw [if_neg e]
  | succ k ih =>
   intro x hx r hk hr
   by_cases e : x = ρ f
   ·have hsx : s x = x := by rw [e]; exact rf.2.2.1
    have : r = x := by rw [<- hk, itS, hsx]; exact uE hsx k
    subst this
    refine ⟨1, ?_, hroot r hr⟩
    show s' r = _
    rw [hs', if_pos e, if_pos e]
   ·obtain ⟨k', h1, h2⟩ := ih (s x) (rf.1 x hx) r hk hr
    refine ⟨k' + 1, ?_, h2⟩
    show itS s' k' (s' x) = _
    rw [hs', if_neg e]; exact h1
 intro v hv
 obtain ⟨_, _, h3, k, h4⟩ := h v hv
 obtain ⟨k', h5, h6⟩ := key k v hv (ρ v) h4 h3
 exact ⟨cl, hv, h6, k', h5⟩
theorem yS {n : Nat} : ∀ (d : Nat) (ls : List LK), ls.length = d -> (∀ l ∈ ls, l.f.toNat < n /\ l.t.toNat < n) -> ∀ u v, u < n -> v < n -> (jf ls u = jf ls v ↔ Cnn (prs ls) u v)
 | 0, ls, h, _ => fun u v _ _ => by
  have : ls = [] := List.length_eq_zero_iff.1 h
  subst this
  exact ⟨fun e => (show u = v from e) ▸ .refl _, Cnn.nil⟩
 | d + 1, ls, h, hl => fun u v hu hv => by
  obtain ⟨ys, l, rfl⟩ : ∃ ys l, ls = ys ++ [l] := by
   have hne : ls ≠ [] := fun e => by rw [e] at h; cases h
   exact ⟨ls.dropLast, ls.getLast hne, (List.dropLast_concat_getLast hne).symm⟩
  have hl' : ∀ x ∈ ys, x.f.toNat < n /\ x.t.toNat < n := fun x hx => hl x (List.mem_append_left _ hx)
  obtain ⟨hf, ht⟩ := hl l (by simp)
  have ih := yS d ys (by simpa using h) hl'
  have ep : prs (ys ++ [l]) = prs ys ++ [(l.f.toNat, l.t.toNat)] := by unfold prs; rw [List.map_append]; rfl
  rw [sE, ep, Cnn.snoc, <- ih u v hu hv, <- ih u _ hu hf, <- ih _ v ht hv, <- ih u _ hu ht, <- ih _ v hf hv]
  unfold jR
  generalize jf ys u = a;generalize jf ys v = b;generalize jf ys l.f.toNat = p;generalize jf ys l.t.toNat = q
  by_cases h1 : a = p
  ·rw [if_pos h1]
   by_cases h2 : b = p
   ·rw [if_pos h2]; omega
   ·rw [if_neg h2]; omega
  ·rw [if_neg h1]
   by_cases h2 : b = p
   ·rw [if_pos h2]; omega
   ·rw [if_neg h2]; omega
def foB (g : GR) (j : Nat) : Bool := match g.links[j]? with | some l => decide (jf (g.links.take j) l.f.toNat ≠ jf (g.links.take j) l.t.toNat) | none => false
def foL (g : GR) (k : Nat) : List Nat := (List.range k).filter (foB g)
def lT (g : GR) : List Nat × Int := if d7 g = true then (foL g g.links.length, 0) else ([], 1)
theorem ro (g : GR) (k : Nat) : foL g (k + 1) = if foB g k = true then foL g k ++ [k] else foL g k := by
 unfold foL
 rw [List.range_succ, List.filter_append]
 by_cases h : foB g k = true
 ·rw [if_pos h]; simp [h]
 ·rw [if_neg h]; simp [h]
theorem uL (g : GR) (k : Nat) : (foL g k).length <= k := Nat.le_trans (List.length_filter_le _ _) (by simp)

theorem yg {T : Tab} {t : TypeId} (a b : Nat) : aK T .lss t (dI a) (dI b) = .set (dB (decide (a < b))) := by
 show aT (.bool (decide ((a : Int) < (b : Int)))) = _
 have : decide ((a : Int) < (b : Int)) = decide (a < b) := by rw [Bool.eq_iff_iff]; simp only [decide_eq_true_eq]; omega
 rw [this]; rfl
end Go.Proofs.YtceacleokgoooaaGreatDoor

/- ordering.MinDegree. No condition. -/
namespace Go.Proofs.YtceacleokgoooaaGreatDoor
attribute [local irreducible] aA
open Go.RowKit

abbrev dL' (a : Int) : SV := V1 (.lit (.int .u64 a))
theorem wm (a b : Int) : ∃ c : Int, ∀ (T : Tab) (t : TypeId), aK T .and t (dL' a) (dL' b) = .set (dL' c) := ⟨_, fun _ _ => rfl⟩
theorem sV (a b : Int) : ∃ c : Int, ∀ (T : Tab) (t : TypeId), aK T .add t (dL' a) (dL' b) = .set (dL' c) := ⟨_, fun _ _ => rfl⟩
theorem sU (a : Int) (s : Nat) : ∃ c : Int, ∀ (T : Tab) (t : TypeId), aK T .shr t (dL' a) (V1 (.lit (.int .u64 (s : Nat)))) = .set (dL' c) := ⟨_, fun _ _ => rfl⟩
theorem Hw (a b : Int) : ∃ c : Int, ∀ (T : Tab) (t : TypeId), aK T .and t (dI a) (dI b) = .set (dI c) := ⟨_, fun _ _ => rfl⟩
theorem sR (x : Nat) : ∃ c : Int, Con Tryz.prog 74 [dL x] { v := dI c } := by
 obtain ⟨a1, h1⟩ := sU (x : Nat) 1
 obtain ⟨a2, h2⟩ := wm a1 6148914691236517205
 obtain ⟨a3, h3⟩ := wm (x : Nat) 6148914691236517205
 obtain ⟨a4, h4⟩ := sV a2 a3
 obtain ⟨b1, i1⟩ := sU a4 2
 obtain ⟨b2, i2⟩ := wm b1 3689348814741910323
 obtain ⟨b3, i3⟩ := wm a4 3689348814741910323
 obtain ⟨b4, i4⟩ := sV b2 b3
 obtain ⟨c1, j1⟩ := sU b4 4
 obtain ⟨c2, j2⟩ := sV c1 b4
 obtain ⟨c3, j3⟩ := wm c2 1085102592571150095
 obtain ⟨d1, k1⟩ := sU c3 8
 obtain ⟨d2, k2⟩ := sV c3 d1
 obtain ⟨e1, l1⟩ := sU d2 16
 obtain ⟨e2, l2⟩ := sV d2 e1
 obtain ⟨f1, m1⟩ := sU e2 32
 obtain ⟨f2, m2⟩ := sV e2 f1
 obtain ⟨r, n2⟩ := Hw (IntKind.i64.wrap f2) 127
 refine ⟨r, ?_⟩;refine Z3 Tryz.func74 ?_
 intro w0 X
 rw [ap _ _ [(0, dL x)] rfl rfl];refine gQ fun _ O=>?_;refine Z8 ?_;refine eQ O ?_;clear O;refine gQ fun _ O=>?_;refine Z9 ?_;refine ai rfl (h1 _ _) rfl ?_;refine ai rfl (h2 _ _) rfl ?_;refine Z9 ?_;refine ai rfl (h3 _ _) rfl ?_;refine ai rfl (h4 _ _) rfl ?_;refine Z8 ?_;refine eQ O ?_;clear O;refine gQ fun _ O=>?_;refine Z9 ?_;refine ai rfl (i1 _ _) rfl ?_;refine ai rfl (i2 _ _) rfl ?_;refine Z9 ?_;refine ai rfl (i3 _ _) rfl ?_;refine ai rfl (i4 _ _) rfl ?_;refine Z8 ?_;refine eQ O ?_;clear O;refine gQ fun _ O=>?_;refine Z9 ?_;refine ai rfl (j1 _ _) rfl ?_;refine Z9 ?_;refine ai rfl (j2 _ _) rfl ?_;refine ai rfl (j3 _ _) rfl ?_;refine Z8 ?_;refine eQ O ?_;clear O;refine gQ fun _ O=>?_;refine Z9 ?_;refine Z9 ?_;refine ai rfl (k1 _ _) rfl ?_;refine ai rfl (k2 _ _) rfl ?_;refine Z8 ?_;refine eQ O ?_;clear O;refine gQ fun _ O=>?_;refine Z9 ?_;refine Z9 ?_;refine ai rfl (l1 _ _) rfl ?_;refine ai rfl (l2 _ _) rfl ?_;refine Z8 ?_;refine eQ O ?_;clear O;refine gQ fun _ O=>?_;refine Z9 ?_;refine Z9 ?_;refine ai rfl (m1 _ _) rfl ?_;refine ai rfl (m2 _ _) rfl ?_;refine Z8 ?_;refine eQ O ?_;clear O;refine gQ fun _ O=>?_;refine Z9 ?_;refine aZ rfl (bb rfl rfl rfl rfl) rfl ?_;refine ai rfl (n2 _ _) rfl ?_;refine Z8 ?_;refine eQ O ?_;clear O;exact al aP
noncomputable def d9 (x : Nat) : Int := (sR x).choose
theorem Cp (x : Nat) : Con Tryz.prog 74 [dL x] { v := dI (d9 x) } := (sR x).choose_spec

theorem Dh {T : Tab} {t : TypeId} (a b : Int) : aK T .lss t (dI a) (dI b) = .set (dB (decide (a < b))) := rfl
noncomputable def mdO (n : Nat) (ps : List (Nat × Nat)) : Nat -> Nat := mdE d9 (kE ps ps.length) (2 ^ n - 1)
set_option maxHeartbeats 2000000 in
theorem Hx (n : Nat) (ps : List (Nat × Nat)) (ok : OKp n ps) (hl : ps.length <= 4096) :
  Con Tryz.prog 33 [dI n, V1 (.sl (ps.map prD))] { v := .tup [.one (.d (.sl (nmD n (mdO n ps)))), .one (.d (lI 0))] } := by
 have n64 := ok.n64
 have cV := wn n ps ok hl
 have cB := wo n ps ok hl
 have cA := Hy n n64
 have hb := pU ok ps.length
 unfold mdO
 generalize kE ps ps.length = g0 at cB hb ⊢
 have T2 : ∀ m, (mdT d9 g0 (2 ^ n - 1) m).2 < 2 ^ n := uv n64
 have T6 : ∀ m, (mdT d9 g0 (2 ^ n - 1) m).2 < 18446744073709551616 := nD n64
 have TG : ∀ m w, (mdT d9 g0 (2 ^ n - 1) m).1 w < 2 ^ 64 := za hb
 refine Z3 Tryz.func33 ?_
 intro w0 X
 rw [ap _ _ [(0, dI n), (1, V1 (.sl (ps.map prD)))] rfl rfl];refine gQ fun _ O=>?_;refine Z8 ?_;refine Z8 ?_;refine eQ O ?_;clear O;refine ab ?_;refine gQ fun _ O=>?_;refine Z9 ?_;refine Z9 ?_;refine ac rfl rfl (cV) rfl rfl rfl rfl ?_;refine dJ rfl rfl rfl ?_;refine eQ O ?_;clear O;refine aj rfl (fun h => by cases h) (fun _ => ?_);refine ag ?_;show AWP _ _ _ _ _ _;refine gQ fun _ O=>?_;refine Z9 ?_;refine Z9 ?_;refine jY rfl rfl (cB) (Or.inl rfl) rfl rfl rfl rfl ?_;refine Z9 ?_;refine ac rfl rfl (cA) rfl rfl rfl rfl ?_;refine Z8 ?_;refine Z8 ?_;refine eQ O ?_;clear O;refine gQ fun _ O=>?_;refine Z8 ?_;refine eQ O ?_;clear O;refine ab ?_;refine ae (aG (α := Nat) (fun i => mk 65 [(0, dI n), (6, .val (.one (.own 20 1 0 n))), (7, dL (mdT d9 g0 (2 ^ n - 1) i).2), (8, bU 200 1 i)] [(20, some (.arr 1 (u6D n (mdT d9 g0 (2 ^ n - 1) i).1))), (200, ca 1 (nmD i (mdE d9 g0 (2 ^ n - 1))) i)] []) (fun i => i <= n) (fun i => n - i) 0 ?_ (Nat.zero_le _) ?_)
 ·exact Wk.mk' ⟨rfl, rfl, rfl, rfl, trivial⟩ ⟨rfl, rfl, trivial⟩
 intro i hi
 refine ab ?_;refine bD (α := Unit) (fun _ => mk 65 [(0, dI n), (6, .val (.one (.own 20 1 0 n))), (7, dL (mdT d9 g0 (2 ^ n - 1) i).2), (8, bU 200 1 i), (26, dB (decide (i < n)))] [(20, some (.arr 1 (u6D n (mdT d9 g0 (2 ^ n - 1) i).1))), (200, ca 1 (nmD i (mdE d9 g0 (2 ^ n - 1))) i)] []) (fun _ => True) ?_ ?_
 ·rcases i with _ | i
  ·refine gR fun _ O=>?_;refine Z9 ?_;refine az rfl (Gh (id := 200) (sz := 1) (a := 0) rfl rfl) rfl ?_;refine Z9 ?_;refine ai rfl (yg _ _) rfl ?_;refine eQ O ?_;clear O;exact ⟨(), trivial, Wk.mk' ⟨rfl, rfl, rfl, rfl, rfl, trivial⟩ ⟨rfl, rfl, trivial⟩⟩
  ·refine gR fun _ O=>?_;refine Z9 ?_;refine az rfl (Gh (id := 200) (sz := 1) (a := i + 1) rfl rfl) rfl ?_;refine Z9 ?_;refine ai rfl (yg _ _) rfl ?_;refine eQ O ?_;clear O;exact ⟨(), trivial, Wk.mk' ⟨rfl, rfl, rfl, rfl, rfl, trivial⟩ ⟨rfl, rfl, trivial⟩⟩
 rintro ⟨⟩ -
 refine aj rfl (fun hc => ?_) (fun hc => ?_)
 ·have hg : i < n := of_decide_eq_true hc
  refine ag ?_;show AWP _ _ _ _ _ _;refine ae ?_;refine gQ fun _ O=>?_;refine Z8 ?_;refine Z8 ?_;refine eQ O ?_;clear O
  have hv := IR (c := d9) (g := g0) n64 hg
  have he := CC (c := d9) (g := g0) n64 hg
  have eS : (mdT d9 g0 (2 ^ n - 1) (i + 1)) = (yd (mdT d9 g0 (2 ^ n - 1) i).1 (mdE d9 g0 (2 ^ n - 1) i) (bdif (mdT d9 g0 (2 ^ n - 1) i).2 (2 ^ mdE d9 g0 (2 ^ n - 1) i)), bdif (mdT d9 g0 (2 ^ n - 1) i).2 (2 ^ mdE d9 g0 (2 ^ n - 1) i)) := rfl
  have t2 := T2 i
  have t6 := T6 i
  have tg := TG i
  generalize hS : mdT d9 g0 (2 ^ n - 1) i = s at hv eS t2 t6 tg ⊢
  obtain ⟨g, left⟩ := s
  simp only at hv eS t2 t6 tg ⊢
  refine ab ?_;refine gQ fun _ O=>?_;refine Z9 ?_;refine Z8 ?_;refine eQ O ?_;clear O;refine ae (aG (α := Nat × Nat × Int × Int) (fun p => mk 65 [(0, dI n), (6, .val (.one (.own 20 1 0 n))), (7, dL left), (8, bU 200 1 i), (9, dI p.2.2.1), (10, dI p.2.2.2), (11, dL p.2.1)] [(20, some (.arr 1 (u6D n g))), (200, ca 1 (nmD i (mdE d9 g0 (2 ^ n - 1))) i)] []) (fun p => (∀ k, p.2.1.testBit k = true -> left.testBit k = true) /\ (dQ 64 p.2.1).length <= p.1 /\ mdS d9 g left p.1 p.2.1 p.2.2 = mdV d9 g left) (fun p => p.2.1) (64, left, -1, 0) ?_ ⟨fun _ h => h, qR 64 left, rfl⟩ ?_)
  ·exact Wk.mk' ⟨rfl, rfl, rfl, rfl, rfl, rfl, rfl, trivial⟩ ⟨rfl, rfl, trivial⟩
  rintro ⟨f, rest, best, few⟩ ⟨hs, hf, hm⟩
  simp only at hs hf hm ⊢
  have r64 : rest < 2 ^ 64 := jB fun k hk => by
   cases h : rest.testBit k
   ·rfl
   ·have := p9 t2 (hs k h); omega
  have r6 : rest < 18446744073709551616 := r64
  refine ab ?_;refine gQ fun _ O=>?_;refine Z9 ?_;refine ai rfl (uQ (c := decide (rest ≠ 0)) rfl) rfl ?_;refine eQ O ?_;clear O;refine aj rfl (fun hc => ?_) (fun hc => ?_)
  ·have h0 : rest ≠ 0 := of_decide_eq_true hc
   obtain ⟨f, rfl⟩ : ∃ f', f = f' + 1 := by
    rcases f with _ | f
    ·exact absurd (wE r64 (List.length_eq_zero_iff.1 (by omega))) h0
    ·exact ⟨f, rfl⟩
   have e3 := congrArg List.length (oB h0 r64)
   rw [List.length_cons] at e3;rw [wC _ _ _ _ h0] at hm
   obtain ⟨h1, h2, _, h4⟩ := iM h0 r64
   have hc0 := Dy h0
   have cT := xm rest r64
   have hsub : ∀ k, (clr rest).testBit k = true -> left.testBit k = true := fun k hk => by
    rw [h4 k, Bool.and_eq_true] at hk; exact hs k hk.1
   generalize Go.Lib.ctz 64 rest = v at h1 h2 cT hm
   have hv2 : v < n := p9 t2 (hs v h2)
   have cO := Cp (g v &&& left)
   generalize d9 (g v &&& left) = c at cO hm;refine ag ?_;show AWP _ _ _ _ _ _;refine ab ?_;refine ae ?_;refine gQ fun _ O=>?_;refine Z9 ?_;refine ac rfl rfl (cT) rfl rfl rfl rfl ?_;refine Z8 ?_;refine eQ O ?_;clear O;refine gQ fun _ O=>?_;refine Z9 ?_;refine Z9 ?_;refine aa rfl (x_o (i := v) (j := v) rfl rfl rfl rfl rfl hv2 (Nat.zero_add _)) rfl ?_;refine aM rfl (l_o rfl rfl (jP hv2) rfl rfl) rfl ?_;refine Z9 ?_;refine ai rfl (kt (tg v) t6) rfl ?_;refine ac rfl rfl (cO) rfl rfl rfl rfl ?_;refine Z8 ?_;refine eQ O ?_;clear O;refine bD (α := Bool) (fun q => mk 65 [(0, dI n), (6, .val (.one (.own 20 1 0 n))), (7, dL left), (8, bU 200 1 i), (9, dI best), (10, dI few), (11, dL rest), (12, dI v), (13, dI c), (49, dB q)] [(20, some (.arr 1 (u6D n g))), (200, ca 1 (nmD i (mdE d9 g0 (2 ^ n - 1))) i)] []) (fun q => q = decide (best < 0 \/ c < few)) ?_ ?_
   ·refine c6 fun _ O=>?_;refine ah tok rfl ?_;refine Z9 ?_;refine am ?_;refine ah tok rfl ?_;refine ai rfl (Dh _ _) rfl ?_;refine am ?_;refine ah tok rfl ?_;refine Z9 ?_;refine am ?_;refine da (fun h0 => ?_) (fun h0 => ?_)
    ·refine aB rfl rfl ?_;refine aB rfl rfl ?_;refine aB rfl rfl ?_;refine ah tok rfl ?_;refine Z4 ?_;refine am ?_;refine aN rfl (O _ ?_); clear O;exact ⟨_, (by simp only [decide_eq_true_eq, decide_eq_false_iff_not] at h0; rw [Bool.eq_iff_iff]; simp only [decide_eq_true_eq, reduceCtorEq, true_iff, false_iff]; omega), Wk.mk' ⟨rfl, rfl, rfl, rfl, rfl, rfl, rfl, rfl, rfl, rfl, trivial⟩ ⟨rfl, rfl, trivial⟩⟩
    ·refine ah tok rfl ?_;refine Z9 ?_;refine am ?_;refine ah tok rfl ?_;refine Z9 ?_;refine am ?_;refine ah tok rfl ?_;refine ai rfl (Dh _ _) rfl ?_;refine am ?_;refine ah tok rfl ?_;refine Z4 ?_;refine am ?_;refine aN rfl (O _ ?_); clear O;exact ⟨_, (by simp only [decide_eq_true_eq, decide_eq_false_iff_not] at h0; rw [Bool.eq_iff_iff]; simp only [decide_eq_true_eq, reduceCtorEq, true_iff, false_iff]; omega), Wk.mk' ⟨rfl, rfl, rfl, rfl, rfl, rfl, rfl, rfl, rfl, rfl, trivial⟩ ⟨rfl, rfl, trivial⟩⟩
   rintro q rfl
   refine aj rfl (fun hd => ?_) (fun hd => ?_)
   ·rw [if_pos (of_decide_eq_true hd)] at hm;refine gR fun _ O=>?_;refine Z9 ?_;refine Z9 ?_;refine Z8 ?_;refine Z8 ?_;refine eQ O ?_;clear O;show AWP _ _ _ _ _ _;refine gR fun _ O=>?_;refine Z9 ?_;refine Z9 ?_;refine ai rfl (mG (x := rest) (y := 1) (z := rest - 1) (by omega) (by omega)) rfl ?_;refine ai rfl (kt r6 (by omega)) rfl ?_;refine Z8 ?_;refine eQ O ?_;clear O;exact ⟨(f, clr rest, (v : Nat), c), hc0, ⟨hsub, by show (dQ 64 (clr rest)).length <= f; omega, hm⟩, Wk.mk' ⟨rfl, rfl, rfl, rfl, rfl, rfl, rfl, trivial⟩ ⟨rfl, rfl, trivial⟩⟩
   ·rw [if_neg (of_decide_eq_false hd)] at hm;refine ag ?_;show AWP _ _ _ _ _ _;refine gR fun _ O=>?_;refine Z9 ?_;refine Z9 ?_;refine ai rfl (mG (x := rest) (y := 1) (z := rest - 1) (by omega) (by omega)) rfl ?_;refine ai rfl (kt r6 (by omega)) rfl ?_;refine Z8 ?_;refine eQ O ?_;clear O;exact ⟨(f, clr rest, best, few), hc0, ⟨hsub, by show (dQ 64 (clr rest)).length <= f; omega, hm⟩, Wk.mk' ⟨rfl, rfl, rfl, rfl, rfl, rfl, rfl, trivial⟩ ⟨rfl, rfl, trivial⟩⟩
  have h0 : rest = 0 := by simpa using hc
  subst h0
  rw [wA] at hm;rw [<- hm] at hv
  simp only at hv
  subst hv
  clear hm;refine ax ?_;show AWP _ _ _ _ _ _
  have hnd : nmD i (mdE d9 g0 (2 ^ n - 1)) ++ [cN (mdE d9 g0 (2 ^ n - 1) i)] = nmD (i + 1) (mdE d9 g0 (2 ^ n - 1)) := by unfold nmD; rw [List.range_succ, List.map_append]; rfl
  have z1 : (nmD i (mdE d9 g0 (2 ^ n - 1))).length = i := by simp [nmD]
  generalize nmD i (mdE d9 g0 (2 ^ n - 1)) = es at hnd z1 ⊢;generalize mdE d9 g0 (2 ^ n - 1) i = v at he hnd eS ⊢
  have hv64 : v < 64 := by omega
  have cE := HY n v (bdif left (2 ^ v)) g n64 he (ip t2) tg
  refine gQ fun _ O=>?_;refine Z9 ?_;refine Z9 ?_;refine ai rfl (cC hv64) rfl ?_;refine ai rfl (Dj t6 (Ai hv64)) rfl ?_;refine Z8 ?_;refine eQ O ?_;clear O;refine d4 fun _ O=>?_;refine ah tok rfl ?_;refine Z9 ?_;refine am ?_;refine ah tok rfl ?_;refine Z9 ?_;refine am ?_;refine ah tok rfl ?_;refine Z9 ?_;refine am ?_;refine DW (id := 20) cE rfl rfl rfl rfl rfl rfl rfl rfl rfl ?_;refine aN rfl (O _ ?_); clear O
  rcases i with _ | i
  ·refine gR fun _ O=>?_;refine Z9 ?_;refine Z9 ?_;refine aC rfl rfl rfl rfl ?_;refine aO rfl (dS rfl rfl rfl rfl rfl (by decide) (Nat.le_of_ble_eq_true rfl) rfl (by simp) rfl (by simp) (by simp)) rfl rfl rfl ?_;refine Z8 ?_;refine eQ O ?_;clear O;refine ⟨0 + 1, by omega, hg, Wk.rn [0, 6, 7, 8] [20, 63] 63 200 rfl rfl rfl ⟨rfl, rfl, ?_, ?_, trivial⟩ ⟨?_, ?_, trivial⟩⟩
   ·rw [eS]; rfl
   ·first
     | rfl
     | (show SV.val (.one (.own 200 1 0 _)) = _
        rw [List.length_append, z1]; rfl)
   ·rw [eS]; rfl
   ·first
     | (rw [<- hnd, List.length_eq_zero_iff.1 z1]; rfl)
     | (rw [<- hnd]; rfl)
  ·refine gR fun _ O=>?_;refine Z9 ?_;refine Z9 ?_;refine aC rfl rfl rfl rfl ?_;refine aO rfl (jn rfl rfl rfl rfl rfl rfl (by decide) (Nat.le_of_ble_eq_true rfl) rfl (by simp) rfl rfl z1.symm (by simp <;> omega)) rfl rfl rfl ?_;refine Z8 ?_;refine eQ O ?_;clear O;refine ⟨i + 1 + 1, by omega, hg, Wk.rn [0, 6, 7, 8] [20, 63] 63 200 rfl rfl rfl ⟨rfl, rfl, ?_, ?_, trivial⟩ ⟨?_, ?_, trivial⟩⟩
   ·rw [eS]; rfl
   ·first
     | rfl
     | (show SV.val (.one (.own 200 1 0 _)) = _
        rw [List.length_append, z1]; rfl)
   ·rw [eS]; rfl
   ·first
     | (rw [<- hnd, List.length_eq_zero_iff.1 z1]; rfl)
     | (rw [<- hnd]; rfl)
 have hg : i = n := by have := of_decide_eq_false hc; omega
 subst hg
 refine ax ?_;show AWP _ _ _ _ _ _
 rcases i with _ | i
 ·refine gQ fun _ O=>?_;refine Z9 ?_;refine Z8 ?_;refine Z8 ?_;refine eQ O ?_;clear O;exact al aP
 ·refine d3 [8] [200] 200 [(8, V1 (.sl (nmD (i + 1) (mdE d9 g0 (2 ^ (i + 1) - 1)))))] [] rfl ?_ trivial ?_
  ·exact ⟨bG rfl (by simp [nmD]), trivial⟩
  refine gQ fun _ O=>?_;refine Z9 ?_;refine Z8 ?_;refine Z8 ?_;refine eQ O ?_;clear O;exact al aP
end Go.Proofs.YtceacleokgoooaaGreatDoor

/- A region that draws its order, whose last operation waits for all others. No condition. -/
namespace Go.Proofs.YtceacleokgoooaaGreatDoor
open Go.RowKit
section
variable {P : Program} {T : Tab} {w w' : World} {w0 : Base} {X : Nat -> Prop} {μ : Nat -> Nat} {a : Act} {st : St}
end
section
variable {P : Program} {T : Tab} {ops : List Oper} {rest : List (Oper × Ann)} {K : St -> Prop} {n d : Nat} {E : List (Nat × SV)} {S : List (Nat × Option OO)} {rb : List Nat} {ty : TypeId} {ps : String} {af : Array Edge} {g : Option (Nat × Bool)} {an : Ann}
end
end Go.Proofs.YtceacleokgoooaaGreatDoor

/- A call that writes into several objects that it is handed: its contract, out of the walk of its text, and the caller's step. No condition. -/
namespace Go.Proofs.YtceacleokgoooaaGreatDoor
open Go.RowKit

/-! ### References by a predicate -/
section
variable {w : World} {X : Nat -> Prop} {μ μ' : Nat -> Nat} {p : Nat -> Bool}
end

/-! ### The contract -/
structure GIn (w : World) (X z : Nat -> Prop) (μ : Nat -> Nat) (S : List (Nat × Option OO)) : Prop where
 tb : TbW w
 lz : ∀ p ∈ nK, ¬ z p.1
 xlt : ∀ k, X k -> k < w.heap.size /\ ¬ z k
 obj : ∀ id o, so S id = some o -> z (μ id) /\ ∃ (cs : Array Value) (E : TypeId), w.heap[μ id]? = some (Obj.cells cs E (0, 0)) /\ RelO w (fun k => X k \/ z k) μ cs o
 inj : ∀ i j o o', so S i = some o -> so S j = some o' -> μ i = μ j -> i = j
 zob : ∀ k, z k -> ∃ id o, so S id = some o /\ μ id = k
structure GOut (w : World) (X z : Nat -> Prop) (μ : Nat -> Nat) (S S' : List (Nat × Option OO)) (r : SV) (w' : World) (v : Value) (μ' : Nat -> Nat) : Prop where
 bel : BelZ ⟨w, z, fun k => (so S 999).isSome = true /\ k = μ 999⟩ w'
 pin : (so S 999).isSome = true -> (so S' 999).isSome = true -> μ' 999 = μ 999
 obj : ∀ id o, so S' id = some o -> (w.heap.size <= μ' id \/ z (μ' id)) /\ ∃ (cs : Array Value) (E : TypeId), w'.heap[μ' id]? = some (Obj.cells cs E (0, 0)) /\ RelO w' (Mut X μ' (so S')) μ' cs o
 inj : ∀ i j o o', so S' i = some o -> so S' j = some o' -> μ' i = μ' j -> i = j
 res : RelV w' (Mut X μ' (so S')) μ' v r
section
variable {P : Program} {T : Tab}
end

/-! ### The caller's step -/
section
variable {P : Program} {w0 : Base} {X : Nat -> Prop} {ops : List Oper} {K : St -> Prop} {k n : Nat} {E : List (Nat × SV)} {S : List (Nat × Option OO)} {rb : List Nat}
end

section
variable {P : Program} {w0 : Base} {X : Nat -> Prop} {ops : List Oper} {K : St -> Prop} {k n : Nat} {E : List (Nat × SV)} {S : List (Nat × Option OO)} {rb : List Nat}
/-! ### Own objects seen as data for the time of a call -/
/-! ### An own variable becomes data -/
def KnownF (id : Nat) (ds : List DC) (n : Nat) (E : List (Nat × SV)) : List (Nat × SV) -> Prop
 | [] => True
 | (i, v) :: E' => ((rd n E (.tmp i) = .ptr id 0 /\ v = .pd ds) \/ (rd n E (.tmp i) = v /\ v.noRef id = true)) /\ KnownF id ds n E E'
theorem KnownF.get {id : Nat} {ds : List DC} : ∀ {E' : List (Nat × SV)}, KnownF id ds n E E' -> ∀ i, lk E' i = .none \/ (rd n E (.tmp i) = .ptr id 0 /\ lk E' i = .pd ds) \/ (rd n E (.tmp i) = lk E' i /\ (lk E' i).noRef id = true)
 | [], _, _ => Or.inl rfl
 | (k, v) :: E', h, i => by
  rw [dY]
  by_cases hk : k = i
  ·subst hk; rw [if_pos rfl]; exact Or.inr h.1
  ·rw [if_neg hk]; exact KnownF.get h.2 i
end

/-! ### Any object may be called 999 where nothing is to keep that number -/
section
variable {w : World} {w0 : Base} {X : Nat -> Prop} {μ : Nat -> Nat} {a : Act} {st : St} {i j : Nat}
end
section
variable {P : Program} {w0 : Base} {X : Nat -> Prop} {n : Nat} {E E' : List (Nat × SV)} {S S' : List (Nat × Option OO)} {rb : List Nat}
end
/-! ### A box that holds own arrays from the start -/
section
variable {P : Program} {T : Tab} {ops : List Oper} {rest : List (Oper × Ann)} {K : St -> Prop} {n d : Nat} {E : List (Nat × SV)} {S : List (Nat × Option OO)} {rb : List Nat} {ty : TypeId} {ps : String} {af : Array Edge} {g : Option (Nat × Bool)} {an : Ann}
end
end Go.Proofs.YtceacleokgoooaaGreatDoor

/- A region that draws its order, walked order by order. No condition. -/
namespace Go.Proofs.YtceacleokgoooaaGreatDoor
open Go.RowKit

def FX (P : Program) (w0 : Base) (X : Nat -> Prop) (ops : List Oper) (fuel : Nat) (listed : Array Bool) (K : St -> Prop) (st : St) : Prop :=
 ∀ μ a w (Q : Exit -> Act -> World -> Prop), (∀ a w, kC w0 X K a w -> Q .normal a w) -> Sim w0 X μ a w st -> wpAny P .any ops.toArray Q fuel listed a w

section
variable {P : Program} {w0 : Base} {X : Nat -> Prop} {ops : List Oper} {K : St -> Prop} {st st' : St}
theorem xj {o : Oper} {a : Act} {next next' : Act -> World -> Prop} {Q Q' : Exit -> Act -> World -> Prop} (hn : ∀ a w, next a w -> next' a w) (hQ : ∀ e a w, e ≠ .normal -> Q e a w -> Q' e a w) {r : Result Next} (h : o.upon P a next Q r) : o.upon P a next' Q' r := by
 have hl : LetsOut Q -> LetsOut Q' := fun ⟨a, w, h⟩ => ⟨a, w, hQ _ _ _ (by intro h; cases h) h⟩
 cases r with
 | ok n w' =>
  cases n <;> simp only [Oper.upon] at h ⊢ <;>
   first
    | exact hn _ _ h
    | exact Calls.mono h (fun e w'' he => by
      cases e with
      | returned v => exact hn _ _ he
      | panicked c => exact hQ _ _ _ (by intro h; cases h) he
      | outgrown => exact hl he)
    | exact Rows.mono h (fun _ _ he => hn _ _ he)
 | halt x w' =>
  cases x <;> simp only [Oper.upon] at h ⊢ <;> first | exact h.elim | exact hQ _ _ _ (by intro h; cases h) h
theorem bB {fuel : Nat} {listed : Array Bool} (r : List Nat) (hr : Region.ready .any ops.toArray listed = r) (hne : r.isEmpty = false)
  (h : ∀ i ∈ r, ∃ o, ops[i]? = some o /\ o.guard = none /\ eP P w0 X [o] 0 (FX P w0 X ops fuel (listed.setIfInBounds i true) K) st) : FX P w0 X ops (fuel + 1) listed K st := by
 intro μ a w Q hQ hs
 refine ⟨fun h0 => ?_, fun i hi => ?_⟩
 ·rw [hr] at h0; subst h0; cases hne
 ·rw [hr] at hi
  obtain ⟨o, ho, hg, hl⟩ := h i hi
  have h1 := hl μ a w (fun e a w => match e with | .normal => wpAny P .any ops.toArray Q fuel (listed.setIfInBounds i true) a w | e => Q e a w) (fun a w ⟨μ', st', hs', h'⟩ => h' μ' a w Q hQ hs') hs
  have e0 : (List.range [o].length).drop 0 = [0] := rfl
  rw [e0, wpOps_cons] at h1
  have ho' : ops.toArray[i]? = some o := by simpa using ho
  unfold wpOp at h1 ⊢
  rw [ho']
  simp only
  have w1 : Region.wanted o (yielded ops.toArray a.tmps) = true := by simp [Region.wanted, hg]
  have w2 : Region.wanted o (yielded [o].toArray a.tmps) = true := by simp [Region.wanted, hg]
  rw [if_pos w1]
  have h2 : (([o].toArray)[0]? : Option Oper) = some o := rfl
  rw [h2] at h1;simp only [w2, if_true] at h1
  rcases h1 with h1 | ⟨h1, a1, w1', h3⟩
  ·left
   unfold Oper.wp at h1 ⊢
   refine xj (fun a w h => ?_) (fun e a w hne h => ?_) h1
   ·simpa [wpOps] using h
   ·cases e <;> first | exact absurd rfl hne | exact h
  ·exact Or.inr ⟨h1, a1, w1', h3⟩
theorem l7 {fuel : Nat} {listed : Array Bool} (hr : Region.ready .any ops.toArray listed = []) (h : K st) : FX P w0 X ops fuel listed K st := by
 intro μ a w Q hQ hs
 cases fuel with
 | zero => exact ⟨hr, hQ a w ⟨μ, st, hs, h⟩⟩
 | succ n => exact ⟨fun _ => hQ a w ⟨μ, st, hs, h⟩, fun i hi => by rw [hr] at hi; cases hi⟩
theorem DS {id : Nat} {Q : Exit -> St -> Prop} (hm : P.follows .mixedOrders = true) (h : ∀ K : St -> Prop, (∀ st, Q .normal st -> K st) -> FX P w0 X ops ops.length (Array.replicate ops.length false) K st) : AWP P w0 X (Code.region id ops.toArray true) Q st := by
 intro μ a w hs
 refine wp_region_any hm ?_
 have hsz : ops.toArray.size = ops.length := by simp
 rw [hsz];exact h (Q .normal) (fun _ h => h) μ a _ _ (fun a w ⟨μ', st', hs', h'⟩ => ⟨μ', st', hs', h'⟩) hs.drew
end
end Go.Proofs.YtceacleokgoooaaGreatDoor

/- ordering.Reaches. No condition. -/
namespace Go.Proofs.YtceacleokgoooaaGreatDoor
attribute [local irreducible] aA
open Go.RowKit

theorem vG {e : Nat -> Nat} : ∀ {i j : Nat}, j < i -> (ia e i).testBit (e j) = true
 | 0, j, h => by omega
 | i + 1, j, h => by
  show (ia e i ||| 2 ^ e i).testBit (e j) = true
  rw [Nat.testBit_or]
  by_cases hj : j = i
  ·subst hj; rw [kL]; simp
  ·rw [vG (i := i) (by omega)]; rfl
set_option maxHeartbeats 2000000 in
theorem Cs (n : Nat) (ps : List (Nat × Nat)) (ok : OKp n ps) (hl : ps.length <= 4096) (e : Nat -> Nat) (h1 : ∀ i, i < n -> e i < n) (h2 : ∀ i j, i < n -> j < n -> e i = e j -> i = j) (a b : Nat) (ha : a < n) (hba : b < a)
  (hp : Ph (kE ps ps.length) (fun v => ∃ k, k < b /\ e k = v) (e a) (e b)) :
  Con Tryz.prog 38 [dI n, V1 (.sl (ps.map prD)), V1 (.sl (nmD n e)), dI (e a), dI (e b)] { v := dB true } := by
 have n64 := ok.n64
 have cV := wn n ps ok hl
 have cP := EU n e n64 h1 h2
 have cB := wo n ps ok hl
 have hb := pU ok ps.length
 have ea := h1 a ha
 have eb := h1 b (by omega)
 have hne : e a ≠ e b := fun h => by have := h2 a b ha (by omega) h; omega
 generalize kE ps ps.length = g at cB hb hp
 have hg6 : ∀ v, g v < 18446744073709551616 := hb
 refine Z3 Tryz.func38 ?_
 intro w0 X
 rw [ap _ _ [(0, dI n), (1, V1 (.sl (ps.map prD))), (2, V1 (.sl (nmD n e))), (3, dI (e a)), (4, dI (e b))] rfl rfl];refine gQ fun _ O=>?_;refine Z8 ?_;refine eQ O ?_;clear O;refine ab ?_;refine gQ fun _ O=>?_;refine Z9 ?_;refine Z9 ?_;refine ac rfl rfl (cV) rfl rfl rfl rfl ?_;refine dJ rfl rfl rfl ?_;refine Z9 ?_;refine Z9 ?_;refine Z9 ?_;refine ac rfl rfl (cP) rfl rfl rfl rfl ?_;refine dJ rfl rfl rfl ?_;refine Z4 ?_;refine Z9 ?_;refine Z9 ?_;refine ai rfl (lV (c := false) (decide_eq_false (by omega))) rfl ?_;refine Z4 ?_;refine Z9 ?_;refine Z9 ?_;refine Z9 ?_;refine ai rfl (lW (c := false) (decide_eq_false (by omega))) rfl ?_;refine Z4 ?_;refine Z9 ?_;refine Z9 ?_;refine ai rfl (lV (c := false) (decide_eq_false (by omega))) rfl ?_;refine Z4 ?_;refine Z9 ?_;refine Z9 ?_;refine Z9 ?_;refine ai rfl (lW (c := false) (decide_eq_false (by omega))) rfl ?_;refine Z4 ?_;refine Z9 ?_;refine Z9 ?_;refine Z9 ?_;refine ai rfl (i9 (c := false) (by simp; omega)) rfl ?_;refine Z4 ?_;refine eQ O ?_;clear O;refine aj rfl (fun h => by cases h) (fun _ => ?_);refine ag ?_;show AWP _ _ _ _ _ _;refine gQ fun _ O=>?_;refine Z9 ?_;refine Z9 ?_;refine jY rfl rfl (cB) (Or.inl rfl) rfl rfl rfl rfl ?_;refine Z8 ?_;refine eQ O ?_;clear O;refine gQ fun _ O=>?_;refine Z8 ?_;refine eQ O ?_;clear O;refine bD (α := Unit) (fun _ => mk 108 [(3, dI (e a)), (4, dI (e b)), (11, .val (.one (.own 54 1 0 n))), (12, dL (ia e b))] [(54, some (.arr 1 (u6D n g)))] []) (fun _ => True) ?_ ?_
 ·refine gQ fun _ O=>?_;refine Z9 ?_;refine az rfl (wH rfl rfl) rfl ?_;refine Z9 ?_;refine eQ O ?_;clear O;refine ae (aG (α := Nat) (fun i => mk 108 [(3, dI (e a)), (4, dI (e b)), (11, .val (.one (.own 54 1 0 n))), (12, dL (ia e i)), (55, V1 (.sl (nmD n e))), (56, dI n), (57, dI i)] [(54, some (.arr 1 (u6D n g)))] []) (fun i => i <= b) (fun i => n - i) 0 ?_ (Nat.zero_le _) ?_)
  ·exact Wk.mk' ⟨rfl, rfl, rfl, rfl, rfl, rfl, rfl, trivial⟩ ⟨rfl, trivial⟩
  intro i hi
  have hs : ia e i < 18446744073709551616 := m9 (n := n) (fun j hj => by have := h1 j hj; omega) i (by omega)
  have hin : i < n := by omega
  have ei := h1 i hin
  refine gQ fun _ O=>?_;refine ai rfl (yg _ _) rfl ?_;refine eQ O ?_;clear O;refine ab ?_;refine aj rfl (fun _ => ?_) (fun hc => ?_)
  ·refine ag ?_;show AWP _ _ _ _ _ _;refine ab ?_;refine ae ?_;refine gQ fun _ O=>?_;refine aa rfl (x_n rfl rfl rfl rfl rfl hin) rfl ?_;refine Z7 ?_;refine Z8 ?_;refine eQ O ?_;clear O;refine ab ?_
   by_cases hib : i = b
   ·subst hib
    refine gQ fun _ O=>?_;refine Z9 ?_;refine Z9 ?_;refine ai rfl (i9 (c := false) (by simp; omega)) rfl ?_;refine Z9 ?_;refine Z9 ?_;refine Z9 ?_;refine ai rfl (i9 (c := true) (by simp)) rfl ?_;refine Z4 ?_;refine eQ O ?_;clear O;refine aj rfl (fun _ => ?_) (fun h => by cases h);refine ax ?_;exact ⟨(), trivial, Wk.mk' ⟨rfl, rfl, rfl, rfl, trivial⟩ ⟨rfl, trivial⟩⟩
   ·have n1 : e i ≠ e a := fun h => by have := h2 i a hin ha h; omega
    have n2 : e i ≠ e b := fun h => by have := h2 i b hin (by omega) h; omega
    refine gQ fun _ O=>?_;refine Z9 ?_;refine Z9 ?_;refine ai rfl (i9 (c := false) (by simp; omega)) rfl ?_;refine Z9 ?_;refine Z9 ?_;refine Z9 ?_;refine ai rfl (i9 (c := false) (by simp; omega)) rfl ?_;refine Z4 ?_;refine eQ O ?_;clear O;refine aj rfl (fun h => by cases h) (fun _ => ?_);refine ag ?_;show AWP _ _ _ _ _ _;refine gR fun _ O=>?_;refine Z9 ?_;refine Z9 ?_;refine ai rfl (cC (by omega)) rfl ?_;refine ai rfl (rE hs (Ai (by omega))) rfl ?_;refine Z8 ?_;refine eQ O ?_;clear O;show AWP _ _ _ _ _ _;refine gR fun _ O=>?_;refine ai rfl (aF (c := ((i + 1 : Nat) : Int)) (by omega) (by omega)) rfl ?_;refine Z9 ?_;refine eQ O ?_;clear O;exact ⟨i + 1, by omega, by omega, Wk.mk' ⟨rfl, rfl, rfl, rfl, rfl, rfl, rfl, trivial⟩ ⟨rfl, trivial⟩⟩
  ·have := of_decide_eq_false hc; omega
 rintro ⟨⟩ -
 have hs : ia e b < 18446744073709551616 := m9 (n := n) (fun j hj => by have := h1 j hj; omega) b (by omega)
 have hen : ia e b < 2 ^ n := jB fun k hk => qC fun j hj h => by have := h1 j (by omega); omega
 have hS : ∀ v, (∃ k, k < b /\ e k = v) -> (ia e b).testBit v = true := fun v ⟨k, hk, hv⟩ => by rw [<- hv]; exact vG hk
 generalize ia e b = early at hs hS hen;generalize e a = i at hp ea hne;generalize e b = j at hp eb hne
 have i64 : i < 64 := by omega
 refine bD (α := Unit) (fun _ => mk 108 [(4, dI j), (11, .val (.one (.own 54 1 0 n))), (12, dL early), (15, dL (2 ^ i)), (16, dL (2 ^ i))] [(54, some (.arr 1 (u6D n g)))] []) (fun _ => True) ?_ ?_
 ·refine DS mixed fun _ O=>?_;refine bB [0, 2] (by kernel_rfl) rfl (List.forall_mem_cons.2 ⟨⟨_, rfl, rfl, ?_⟩, List.forall_mem_cons.2 ⟨⟨_, rfl, rfl, ?_⟩, fun _ h => by cases h⟩⟩)
  ·refine ah tok rfl ?_;refine Z9 ?_;refine am ?_;refine aN rfl ?_;refine bB [1, 2] (by kernel_rfl) rfl (List.forall_mem_cons.2 ⟨⟨_, rfl, rfl, ?_⟩, List.forall_mem_cons.2 ⟨⟨_, rfl, rfl, ?_⟩, fun _ h => by cases h⟩⟩)
   ·refine ah tok rfl ?_;refine ai rfl (cC i64) rfl ?_;refine am ?_;refine aN rfl ?_;refine bB [2, 4] (by kernel_rfl) rfl (List.forall_mem_cons.2 ⟨⟨_, rfl, rfl, ?_⟩, List.forall_mem_cons.2 ⟨⟨_, rfl, rfl, ?_⟩, fun _ h => by cases h⟩⟩)
    ·refine ah tok rfl ?_;refine Z9 ?_;refine am ?_;refine aN rfl ?_;refine bB [3, 4] (by kernel_rfl) rfl (List.forall_mem_cons.2 ⟨⟨_, rfl, rfl, ?_⟩, List.forall_mem_cons.2 ⟨⟨_, rfl, rfl, ?_⟩, fun _ h => by cases h⟩⟩)
     ·refine ah tok rfl ?_;refine ai rfl (cC i64) rfl ?_;refine am ?_;refine aN rfl ?_;refine bB [4] (by kernel_rfl) rfl (List.forall_mem_cons.2 ⟨⟨_, rfl, rfl, ?_⟩, fun _ h => by cases h⟩);refine ah tok rfl ?_;refine Z8 ?_;refine am ?_;refine aN rfl ?_;refine bB [5] (by kernel_rfl) rfl (List.forall_mem_cons.2 ⟨⟨_, rfl, rfl, ?_⟩, fun _ h => by cases h⟩);refine ah tok rfl ?_;refine Z8 ?_;refine am ?_;refine aN rfl ?_;refine l7 (by kernel_rfl) (O _ ?_);clear O;exact ⟨(), trivial, Wk.mk' ⟨rfl, rfl, rfl, rfl, rfl, trivial⟩ ⟨rfl, trivial⟩⟩
     ·refine ah tok rfl ?_;refine Z8 ?_;refine am ?_;refine aN rfl ?_;refine bB [3] (by kernel_rfl) rfl (List.forall_mem_cons.2 ⟨⟨_, rfl, rfl, ?_⟩, fun _ h => by cases h⟩);refine ah tok rfl ?_;refine ai rfl (cC i64) rfl ?_;refine am ?_;refine aN rfl ?_;refine bB [5] (by kernel_rfl) rfl (List.forall_mem_cons.2 ⟨⟨_, rfl, rfl, ?_⟩, fun _ h => by cases h⟩);refine ah tok rfl ?_;refine Z8 ?_;refine am ?_;refine aN rfl ?_;refine l7 (by kernel_rfl) (O _ ?_);clear O;exact ⟨(), trivial, Wk.mk' ⟨rfl, rfl, rfl, rfl, rfl, trivial⟩ ⟨rfl, trivial⟩⟩
    ·refine ah tok rfl ?_;refine Z8 ?_;refine am ?_;refine aN rfl ?_;refine bB [2] (by kernel_rfl) rfl (List.forall_mem_cons.2 ⟨⟨_, rfl, rfl, ?_⟩, fun _ h => by cases h⟩);refine ah tok rfl ?_;refine Z9 ?_;refine am ?_;refine aN rfl ?_;refine bB [3] (by kernel_rfl) rfl (List.forall_mem_cons.2 ⟨⟨_, rfl, rfl, ?_⟩, fun _ h => by cases h⟩);refine ah tok rfl ?_;refine ai rfl (cC i64) rfl ?_;refine am ?_;refine aN rfl ?_;refine bB [5] (by kernel_rfl) rfl (List.forall_mem_cons.2 ⟨⟨_, rfl, rfl, ?_⟩, fun _ h => by cases h⟩);refine ah tok rfl ?_;refine Z8 ?_;refine am ?_;refine aN rfl ?_;refine l7 (by kernel_rfl) (O _ ?_);clear O;exact ⟨(), trivial, Wk.mk' ⟨rfl, rfl, rfl, rfl, rfl, trivial⟩ ⟨rfl, trivial⟩⟩
   ·refine ah tok rfl ?_;refine Z9 ?_;refine am ?_;refine aN rfl ?_;refine bB [1, 3] (by kernel_rfl) rfl (List.forall_mem_cons.2 ⟨⟨_, rfl, rfl, ?_⟩, List.forall_mem_cons.2 ⟨⟨_, rfl, rfl, ?_⟩, fun _ h => by cases h⟩⟩)
    ·refine ah tok rfl ?_;refine ai rfl (cC i64) rfl ?_;refine am ?_;refine aN rfl ?_;refine bB [3, 4] (by kernel_rfl) rfl (List.forall_mem_cons.2 ⟨⟨_, rfl, rfl, ?_⟩, List.forall_mem_cons.2 ⟨⟨_, rfl, rfl, ?_⟩, fun _ h => by cases h⟩⟩)
     ·refine ah tok rfl ?_;refine ai rfl (cC i64) rfl ?_;refine am ?_;refine aN rfl ?_;refine bB [4] (by kernel_rfl) rfl (List.forall_mem_cons.2 ⟨⟨_, rfl, rfl, ?_⟩, fun _ h => by cases h⟩);refine ah tok rfl ?_;refine Z8 ?_;refine am ?_;refine aN rfl ?_;refine bB [5] (by kernel_rfl) rfl (List.forall_mem_cons.2 ⟨⟨_, rfl, rfl, ?_⟩, fun _ h => by cases h⟩);refine ah tok rfl ?_;refine Z8 ?_;refine am ?_;refine aN rfl ?_;refine l7 (by kernel_rfl) (O _ ?_);clear O;exact ⟨(), trivial, Wk.mk' ⟨rfl, rfl, rfl, rfl, rfl, trivial⟩ ⟨rfl, trivial⟩⟩
     ·refine ah tok rfl ?_;refine Z8 ?_;refine am ?_;refine aN rfl ?_;refine bB [3] (by kernel_rfl) rfl (List.forall_mem_cons.2 ⟨⟨_, rfl, rfl, ?_⟩, fun _ h => by cases h⟩);refine ah tok rfl ?_;refine ai rfl (cC i64) rfl ?_;refine am ?_;refine aN rfl ?_;refine bB [5] (by kernel_rfl) rfl (List.forall_mem_cons.2 ⟨⟨_, rfl, rfl, ?_⟩, fun _ h => by cases h⟩);refine ah tok rfl ?_;refine Z8 ?_;refine am ?_;refine aN rfl ?_;refine l7 (by kernel_rfl) (O _ ?_);clear O;exact ⟨(), trivial, Wk.mk' ⟨rfl, rfl, rfl, rfl, rfl, trivial⟩ ⟨rfl, trivial⟩⟩
    ·refine ah tok rfl ?_;refine ai rfl (cC i64) rfl ?_;refine am ?_;refine aN rfl ?_;refine bB [1] (by kernel_rfl) rfl (List.forall_mem_cons.2 ⟨⟨_, rfl, rfl, ?_⟩, fun _ h => by cases h⟩);refine ah tok rfl ?_;refine ai rfl (cC i64) rfl ?_;refine am ?_;refine aN rfl ?_;refine bB [4] (by kernel_rfl) rfl (List.forall_mem_cons.2 ⟨⟨_, rfl, rfl, ?_⟩, fun _ h => by cases h⟩);refine ah tok rfl ?_;refine Z8 ?_;refine am ?_;refine aN rfl ?_;refine bB [5] (by kernel_rfl) rfl (List.forall_mem_cons.2 ⟨⟨_, rfl, rfl, ?_⟩, fun _ h => by cases h⟩);refine ah tok rfl ?_;refine Z8 ?_;refine am ?_;refine aN rfl ?_;refine l7 (by kernel_rfl) (O _ ?_);clear O;exact ⟨(), trivial, Wk.mk' ⟨rfl, rfl, rfl, rfl, rfl, trivial⟩ ⟨rfl, trivial⟩⟩
  ·refine ah tok rfl ?_;refine Z9 ?_;refine am ?_;refine aN rfl ?_;refine bB [0, 3] (by kernel_rfl) rfl (List.forall_mem_cons.2 ⟨⟨_, rfl, rfl, ?_⟩, List.forall_mem_cons.2 ⟨⟨_, rfl, rfl, ?_⟩, fun _ h => by cases h⟩⟩)
   ·refine ah tok rfl ?_;refine Z9 ?_;refine am ?_;refine aN rfl ?_;refine bB [1, 3] (by kernel_rfl) rfl (List.forall_mem_cons.2 ⟨⟨_, rfl, rfl, ?_⟩, List.forall_mem_cons.2 ⟨⟨_, rfl, rfl, ?_⟩, fun _ h => by cases h⟩⟩)
    ·refine ah tok rfl ?_;refine ai rfl (cC i64) rfl ?_;refine am ?_;refine aN rfl ?_;refine bB [3, 4] (by kernel_rfl) rfl (List.forall_mem_cons.2 ⟨⟨_, rfl, rfl, ?_⟩, List.forall_mem_cons.2 ⟨⟨_, rfl, rfl, ?_⟩, fun _ h => by cases h⟩⟩)
     ·refine ah tok rfl ?_;refine ai rfl (cC i64) rfl ?_;refine am ?_;refine aN rfl ?_;refine bB [4] (by kernel_rfl) rfl (List.forall_mem_cons.2 ⟨⟨_, rfl, rfl, ?_⟩, fun _ h => by cases h⟩);refine ah tok rfl ?_;refine Z8 ?_;refine am ?_;refine aN rfl ?_;refine bB [5] (by kernel_rfl) rfl (List.forall_mem_cons.2 ⟨⟨_, rfl, rfl, ?_⟩, fun _ h => by cases h⟩);refine ah tok rfl ?_;refine Z8 ?_;refine am ?_;refine aN rfl ?_;refine l7 (by kernel_rfl) (O _ ?_);clear O;exact ⟨(), trivial, Wk.mk' ⟨rfl, rfl, rfl, rfl, rfl, trivial⟩ ⟨rfl, trivial⟩⟩
     ·refine ah tok rfl ?_;refine Z8 ?_;refine am ?_;refine aN rfl ?_;refine bB [3] (by kernel_rfl) rfl (List.forall_mem_cons.2 ⟨⟨_, rfl, rfl, ?_⟩, fun _ h => by cases h⟩);refine ah tok rfl ?_;refine ai rfl (cC i64) rfl ?_;refine am ?_;refine aN rfl ?_;refine bB [5] (by kernel_rfl) rfl (List.forall_mem_cons.2 ⟨⟨_, rfl, rfl, ?_⟩, fun _ h => by cases h⟩);refine ah tok rfl ?_;refine Z8 ?_;refine am ?_;refine aN rfl ?_;refine l7 (by kernel_rfl) (O _ ?_);clear O;exact ⟨(), trivial, Wk.mk' ⟨rfl, rfl, rfl, rfl, rfl, trivial⟩ ⟨rfl, trivial⟩⟩
    ·refine ah tok rfl ?_;refine ai rfl (cC i64) rfl ?_;refine am ?_;refine aN rfl ?_;refine bB [1] (by kernel_rfl) rfl (List.forall_mem_cons.2 ⟨⟨_, rfl, rfl, ?_⟩, fun _ h => by cases h⟩);refine ah tok rfl ?_;refine ai rfl (cC i64) rfl ?_;refine am ?_;refine aN rfl ?_;refine bB [4] (by kernel_rfl) rfl (List.forall_mem_cons.2 ⟨⟨_, rfl, rfl, ?_⟩, fun _ h => by cases h⟩);refine ah tok rfl ?_;refine Z8 ?_;refine am ?_;refine aN rfl ?_;refine bB [5] (by kernel_rfl) rfl (List.forall_mem_cons.2 ⟨⟨_, rfl, rfl, ?_⟩, fun _ h => by cases h⟩);refine ah tok rfl ?_;refine Z8 ?_;refine am ?_;refine aN rfl ?_;refine l7 (by kernel_rfl) (O _ ?_);clear O;exact ⟨(), trivial, Wk.mk' ⟨rfl, rfl, rfl, rfl, rfl, trivial⟩ ⟨rfl, trivial⟩⟩
   ·refine ah tok rfl ?_;refine ai rfl (cC i64) rfl ?_;refine am ?_;refine aN rfl ?_;refine bB [0] (by kernel_rfl) rfl (List.forall_mem_cons.2 ⟨⟨_, rfl, rfl, ?_⟩, fun _ h => by cases h⟩);refine ah tok rfl ?_;refine Z9 ?_;refine am ?_;refine aN rfl ?_;refine bB [1] (by kernel_rfl) rfl (List.forall_mem_cons.2 ⟨⟨_, rfl, rfl, ?_⟩, fun _ h => by cases h⟩);refine ah tok rfl ?_;refine ai rfl (cC i64) rfl ?_;refine am ?_;refine aN rfl ?_;refine bB [4] (by kernel_rfl) rfl (List.forall_mem_cons.2 ⟨⟨_, rfl, rfl, ?_⟩, fun _ h => by cases h⟩);refine ah tok rfl ?_;refine Z8 ?_;refine am ?_;refine aN rfl ?_;refine bB [5] (by kernel_rfl) rfl (List.forall_mem_cons.2 ⟨⟨_, rfl, rfl, ?_⟩, fun _ h => by cases h⟩);refine ah tok rfl ?_;refine Z8 ?_;refine am ?_;refine aN rfl ?_;refine l7 (by kernel_rfl) (O _ ?_);clear O;exact ⟨(), trivial, Wk.mk' ⟨rfl, rfl, rfl, rfl, rfl, trivial⟩ ⟨rfl, trivial⟩⟩
 rintro ⟨⟩ -
 refine ab ?_;refine ae (aG (α := Nat × Nat) (fun p => mk 108 [(4, dI j), (11, .val (.one (.own 54 1 0 n))), (12, dL early), (15, dL p.1), (16, dL p.2)] [(54, some (.arr 1 (u6D n g)))] []) (fun p => BfI g early i j p.1 p.2 /\ p.1 < 2 ^ n) (fun p => bfM p.1 p.2) (2 ^ i, 2 ^ i) ?_ ⟨⟨io i64, io i64, by rw [kL]; simp, fun _ h => h, fun v h h' => by rw [h] at h'; cases h'⟩, io ea⟩ ?_)
 ·exact Wk.mk' ⟨rfl, rfl, rfl, rfl, rfl, trivial⟩ ⟨rfl, trivial⟩
 rintro ⟨r, t⟩ ⟨hB, hrn⟩
 simp only at hB hrn ⊢
 have r6 : r < 18446744073709551616 := hB.lr
 have t6 : t < 18446744073709551616 := hB.lt
 refine ab ?_;refine gQ fun _ O=>?_;refine Z9 ?_;refine ai rfl (uQ (c := decide (t ≠ 0)) rfl) rfl ?_;refine eQ O ?_;clear O;refine aj rfl (fun hc => ?_) (fun hc => ?_)
 ·have h0 : t ≠ 0 := of_decide_eq_true hc
  obtain ⟨c1, c2, _, _⟩ := iM h0 hB.lt
  have cT := xm t hB.lt
  have st := fun h => FT hb hB h0 h
  have ms := If hB h0
  unfold bfN at st ms
  have vn : Go.Lib.ctz 64 t < n := p9 hrn (hB.bs _ c2)
  generalize Go.Lib.ctz 64 t = v at c1 c2 cT st ms vn
  have nx : bdif (g v &&& early) r < 18446744073709551616 := ip (n := 64) (kx (hb v))
  have cl : clr t < 18446744073709551616 := Nat.lt_of_le_of_lt (yo t) t6
  refine ag ?_;show AWP _ _ _ _ _ _;refine ae ?_;refine gQ fun _ O=>?_;refine Z9 ?_;refine ac rfl rfl (cT) rfl rfl rfl rfl ?_;refine Z8 ?_;refine eQ O ?_;clear O;refine gQ fun _ O=>?_;refine Z9 ?_;refine Z9 ?_;refine ai rfl (mG (x := t) (y := 1) (z := t - 1) (by omega) (by omega)) rfl ?_;refine ai rfl (kt t6 (by omega)) rfl ?_;refine Z8 ?_;refine eQ O ?_;clear O;refine ab ?_
  have sh : (g v / 2 ^ j &&& 1 ≠ 0) ↔ (g v).testBit j = true := by rw [Iy]; cases (g v).testBit j <;> simp
  refine gQ fun _ O=>?_;refine Z9 ?_;refine Z9 ?_;refine aa rfl (x_o (i := v) (j := v) rfl rfl rfl rfl rfl vn (Nat.zero_add _)) rfl ?_;refine aM rfl (l_o rfl rfl (jP vn) rfl rfl) rfl ?_;refine Z9 ?_;refine ai rfl (Dd (by omega)) rfl ?_;refine ai rfl (kt (y := 1) (Nat.lt_of_le_of_lt (Nat.div_le_self _ _) (hg6 v)) (by omega)) rfl ?_;refine ai rfl (uQ (c := (g v).testBit j) (by rw [Bool.eq_iff_iff, decide_eq_true_eq]; exact sh)) rfl ?_;refine eQ O ?_;clear O;refine aj rfl (fun _ => ?_) (fun hj => ?_)
  ·refine gQ fun _ O=>?_;refine Z8 ?_;refine eQ O ?_;clear O;exact al aP
  have st := st hj
  refine ag ?_;show AWP _ _ _ _ _ _;refine gQ fun _ O=>?_;refine Z9 ?_;refine Z9 ?_;refine aa rfl (x_o (i := v) (j := v) rfl rfl rfl rfl rfl vn (Nat.zero_add _)) rfl ?_;refine aM rfl (l_o rfl rfl (jP vn) rfl rfl) rfl ?_;refine Z9 ?_;refine ai rfl (kt (hg6 v) hs) rfl ?_;refine Z9 ?_;refine ai rfl (Dj (kx (n := 64) (hg6 v)) r6) rfl ?_;refine Z8 ?_;refine eQ O ?_;clear O;refine gQ fun _ O=>?_;refine Z9 ?_;refine Z9 ?_;refine ai rfl (rE r6 nx) rfl ?_;refine Z8 ?_;refine eQ O ?_;clear O;refine gR fun _ O=>?_;refine Z9 ?_;refine Z9 ?_;refine ai rfl (rE cl nx) rfl ?_;refine Z8 ?_;refine eQ O ?_;clear O;exact ⟨(r ||| bdif (g v &&& early) r, clr t ||| bdif (g v &&& early) r), ms, ⟨st, iN hrn (ip (by rw [Nat.and_comm]; exact kx hen))⟩, Wk.mk' ⟨rfl, rfl, rfl, rfl, rfl, trivial⟩ ⟨rfl, trivial⟩⟩
 have h0 : t = 0 := by simpa using hc
 subst h0
 exact (Ig hB hS hp).elim
end Go.Proofs.YtceacleokgoooaaGreatDoor

/- Forest. No condition. -/
namespace Go.Proofs.YtceacleokgoooaaGreatDoor
attribute [local irreducible] aA
open Go.RowKit

theorem Az (g : GR) : Con Tryz.prog 35 [AG g.cs] { v := .tup [.one (.d (dNs (lT g).1)), .one (.d (lI (lT g).2))] } := by
 refine Z3 Tryz.func35 ?_
 intro w0 X
 rw [ap _ _ [(0, AG g.cs)] rfl rfl];refine gQ fun _ O=>?_;refine aS rfl rfl rfl rfl rfl rfl ?_;refine Z8 ?_;refine Z8 ?_;refine eQ O ?_;clear O;refine ab ?_;refine gQ fun _ O=>?_;refine Z7 ?_;refine ac rfl rfl (jG g) rfl rfl rfl rfl ?_;refine dJ rfl rfl rfl ?_;refine eQ O ?_;clear O;refine aj rfl (fun hc => ?_) (fun hc => ?_)
 ·rw [Bool.not_eq_true'] at hc
  have e : lT g = ([], 1) := by rw [lT, if_neg (by rw [hc]; simp)]
  rw [e];refine gQ fun _ O=>?_;refine Z8 ?_;refine Z8 ?_;refine eQ O ?_;clear O;exact al aP
 rw [Bool.not_eq_false'] at hc
 have gv := bO.1 hc
 have n16 := gv.n2
 have l48 := gv.l
 rw [lT, if_pos hc];refine ag ?_;show AWP _ _ _ _ _ _;refine gQ fun _ O=>?_;refine Z5 ?_;refine Z7 ?_;refine az rfl (bZ RW.dc rfl rfl) rfl ?_;refine jY rfl rfl (Bx g.nodes.length (by omega)) (Or.inl rfl) rfl rfl rfl rfl ?_;refine Z8 ?_;refine eQ O ?_;clear O;refine gQ fun _ O=>?_;refine Z8 ?_;refine eQ O ?_;clear O;refine ab ?_;refine gQ fun _ O=>?_;refine Z5 ?_;refine Z7 ?_;refine az rfl (bZ LK.dc rfl rfl) rfl ?_;refine Z9 ?_;refine eQ O ?_;clear O;refine ae (aG (α := Nat × (Nat -> Nat)) (fun p => mk 35 [(1, .ptr 1 0), (4, .val (.one (.own 14 1 0 g.nodes.length))), (5, bU 200 1 (foL g p.1).length), (16, V1 (dLs g.links)), (17, dI g.links.length), (18, dI p.1)] [(1, some (.box g.cs)), (14, some (.arr 1 (nmD g.nodes.length p.2))), (200, ca 1 ((foL g p.1).map cN) (foL g p.1).length)] []) (fun p => p.1 <= g.links.length /\ RTs g.nodes.length p.2 (jf (g.links.take p.1))) (fun p => g.links.length - p.1) (0, id) ?_ ⟨Nat.zero_le _, Ii _⟩ ?_)
 ·exact Wk.mk' ⟨rfl, rfl, rfl, rfl, rfl, rfl, trivial⟩ ⟨rfl, rfl, rfl, trivial⟩
 rintro ⟨i, s⟩ ⟨hi, hs⟩
 simp only at hi hs ⊢
 refine gQ fun _ O=>?_;refine Z6 ?_;refine eQ O ?_;clear O;refine ab ?_;refine aj rfl (fun hg => ?_) (fun hg => ?_)
 ·have hg : i < g.links.length := by simp at hg; omega
  obtain ⟨l, el⟩ : ∃ l, l = g.links[i] := ⟨_, rfl⟩
  have hml : l ∈ g.links := el ▸ List.getElem_mem hg
  have hget : g.links[i]? = some l := by rw [List.getElem?_eq_getElem hg, el]
  obtain ⟨x, y, hxn, hyn, hx, hy, _⟩ := (gLV gv l hml).lt
  have n1 := ro g i
  have eb : foB g i = decide (jf (g.links.take i) l.f.toNat ≠ jf (g.links.take i) l.t.toNat) := by unfold foB; rw [hget]
  have er : jf (g.links.take (i + 1)) = jR (jf (g.links.take i)) l.f.toNat l.t.toNat := by rw [List.take_succ_eq_append_getElem hg, <- el, sE]
  have zl' : (foL g i).length <= 48 := Nat.le_trans (uL g i) (by omega)
  obtain ⟨lf, lt, lx, ly, lw⟩ := l
  simp only at hx hy
  subst hx hy
  simp only [Int.toNat_natCast] at eb er;generalize jf (g.links.take i) = ρ at hs eb er
  have hrx := hs x hxn
  have hry := hs y hyn
  have hs2 := DL (s' := fun j => if j = ρ x then ρ y else s j) hs hxn hyn (fun _ => rfl)
  rw [<- er] at hs2;refine ag ?_;show AWP _ _ _ _ _ _;refine ab ?_;refine ae ?_;generalize foL g i = L at n1 zl' ⊢
  have z1 : (L.map cN).length = L.length := List.length_map _
  obtain ⟨es, hes⟩ : ∃ es, es = L.map cN := ⟨_, rfl⟩
  obtain ⟨b, hb⟩ : ∃ b, b = L.length := ⟨_, rfl⟩
  rw [<- hes] at z1 ⊢;rw [<- hb] at z1 zl' ⊢
  rcases b with _ | b
  ·refine gQ fun _ O=>?_;refine Z9 ?_;refine aa rfl (x_m LK.dc rfl rfl rfl rfl hg rfl) rfl ?_;refine Z7 ?_;refine ay rfl rfl rfl rfl rfl rfl ?_;refine Z8 ?_;refine ak rfl rfl rfl rfl rfl ?_;refine eQ O ?_;clear O;rw [<- el];refine d4 fun _ O=>?_;refine ah tok rfl ?_;refine Z9 ?_;refine am ?_;refine ah tok rfl ?_;refine Z5 ?_;refine am ?_;refine ah tok rfl ?_;refine Z7 ?_;refine am ?_;refine ah tok rfl ?_;refine Z5 ?_;refine am ?_;refine ah tok rfl ?_;refine Z7 ?_;refine am ?_;refine A5 (m := g.nodes.length) (s' := fun j => if j = ρ x then ρ y else s j) (CP hrx hry) rfl rfl rfl rfl rfl hrx.lt (fun _ _ => rfl) ?_;refine aN rfl (O _ ?_); clear O;refine aj rfl (fun hd => ?_) (fun hd => ?_)
   ·rw [<- eb] at hd;rw [if_pos hd] at n1
    have n2 : es ++ [cN i] = (foL g (i + 1)).map cN := by rw [n1, hes, List.map_append]; rfl
    have k2 : (foL g (i + 1)).length = (0) + 1 := by rw [n1, List.length_append, <- hb]; rfl
    refine gR fun _ O=>?_;refine Z9 ?_;refine Z9 ?_;refine aC rfl rfl rfl rfl ?_;refine aO rfl (dS rfl rfl rfl rfl rfl (by decide) (Nat.le_of_ble_eq_true rfl) rfl (by simp) rfl (by simp) (by simp)) rfl rfl rfl ?_;refine Z8 ?_;refine eQ O ?_;clear O;show AWP _ _ _ _ _ _;refine gR fun _ O=>?_;refine ai rfl (aF (c := ((i + 1 : Nat) : Int)) (by omega) (by omega)) rfl ?_;refine Z9 ?_;refine eQ O ?_;clear O;refine ⟨(i + 1, fun j => if j = ρ x then ρ y else s j), (by show g.links.length - (i + 1) < g.links.length - i; omega), ⟨hg, hs2⟩, ?_⟩
    simp only
    rw [k2];refine Wk.rn [1, 4, 5, 16, 17, 18] [1, 14, 32] 32 200 rfl rfl rfl ⟨rfl, rfl, ?_, rfl, rfl, rfl, trivial⟩ ⟨rfl, rfl, ?_, trivial⟩
    ·first
      | rfl
      | (show SV.val (.one (.own 200 1 0 _)) = _
         rw [List.length_append, z1]; rfl)
    ·first
      | (rw [<- n2, List.length_eq_zero_iff.1 z1]; rfl)
      | (rw [<- n2]; rfl)
   ·rw [<- eb] at hd;rw [if_neg (by rw [hd]; simp)] at n1;refine ag ?_;show AWP _ _ _ _ _ _;refine gR fun _ O=>?_;refine ai rfl (aF (c := ((i + 1 : Nat) : Int)) (by omega) (by omega)) rfl ?_;refine Z9 ?_;refine eQ O ?_;clear O;refine ⟨(i + 1, fun j => if j = ρ x then ρ y else s j), (by show g.links.length - (i + 1) < g.links.length - i; omega), ⟨hg, hs2⟩, ?_⟩
    simp only
    rw [n1, <- hes, <- hb];exact Wk.mk' ⟨rfl, rfl, rfl, rfl, rfl, rfl, trivial⟩ ⟨rfl, rfl, rfl, trivial⟩
  ·refine gQ fun _ O=>?_;refine Z9 ?_;refine aa rfl (x_m LK.dc rfl rfl rfl rfl hg rfl) rfl ?_;refine Z7 ?_;refine ay rfl rfl rfl rfl rfl rfl ?_;refine Z8 ?_;refine ak rfl rfl rfl rfl rfl ?_;refine eQ O ?_;clear O;rw [<- el];refine d4 fun _ O=>?_;refine ah tok rfl ?_;refine Z9 ?_;refine am ?_;refine ah tok rfl ?_;refine Z5 ?_;refine am ?_;refine ah tok rfl ?_;refine Z7 ?_;refine am ?_;refine ah tok rfl ?_;refine Z5 ?_;refine am ?_;refine ah tok rfl ?_;refine Z7 ?_;refine am ?_;refine A5 (m := g.nodes.length) (s' := fun j => if j = ρ x then ρ y else s j) (CP hrx hry) rfl rfl rfl rfl rfl hrx.lt (fun _ _ => rfl) ?_;refine aN rfl (O _ ?_); clear O;refine aj rfl (fun hd => ?_) (fun hd => ?_)
   ·rw [<- eb] at hd;rw [if_pos hd] at n1
    have n2 : es ++ [cN i] = (foL g (i + 1)).map cN := by rw [n1, hes, List.map_append]; rfl
    have k2 : (foL g (i + 1)).length = (b + 1) + 1 := by rw [n1, List.length_append, <- hb]; rfl
    refine gR fun _ O=>?_;refine Z9 ?_;refine Z9 ?_;refine aC rfl rfl rfl rfl ?_;refine aO rfl (jn rfl rfl rfl rfl rfl rfl (by decide) (Nat.le_of_ble_eq_true rfl) rfl (by simp) rfl rfl z1.symm (by simp <;> omega)) rfl rfl rfl ?_;refine Z8 ?_;refine eQ O ?_;clear O;show AWP _ _ _ _ _ _;refine gR fun _ O=>?_;refine ai rfl (aF (c := ((i + 1 : Nat) : Int)) (by omega) (by omega)) rfl ?_;refine Z9 ?_;refine eQ O ?_;clear O;refine ⟨(i + 1, fun j => if j = ρ x then ρ y else s j), (by show g.links.length - (i + 1) < g.links.length - i; omega), ⟨hg, hs2⟩, ?_⟩
    simp only
    rw [k2];refine Wk.rn [1, 4, 5, 16, 17, 18] [1, 14, 32] 32 200 rfl rfl rfl ⟨rfl, rfl, ?_, rfl, rfl, rfl, trivial⟩ ⟨rfl, rfl, ?_, trivial⟩
    ·first
      | rfl
      | (show SV.val (.one (.own 200 1 0 _)) = _
         rw [List.length_append, z1]; rfl)
    ·first
      | (rw [<- n2, List.length_eq_zero_iff.1 z1]; rfl)
      | (rw [<- n2]; rfl)
   ·rw [<- eb] at hd;rw [if_neg (by rw [hd]; simp)] at n1;refine ag ?_;show AWP _ _ _ _ _ _;refine gR fun _ O=>?_;refine ai rfl (aF (c := ((i + 1 : Nat) : Int)) (by omega) (by omega)) rfl ?_;refine Z9 ?_;refine eQ O ?_;clear O;refine ⟨(i + 1, fun j => if j = ρ x then ρ y else s j), (by show g.links.length - (i + 1) < g.links.length - i; omega), ⟨hg, hs2⟩, ?_⟩
    simp only
    rw [n1, <- hes, <- hb];exact Wk.mk' ⟨rfl, rfl, rfl, rfl, rfl, rfl, trivial⟩ ⟨rfl, rfl, rfl, trivial⟩
 have hg : i = g.links.length := by simp at hg; omega
 subst hg
 refine ax ?_;show AWP _ _ _ _ _ _;generalize foL g g.links.length = L
 rcases L with _ | ⟨l, L⟩
 ·refine gQ fun _ O=>?_;refine Z9 ?_;refine Z8 ?_;refine Z8 ?_;refine eQ O ?_;clear O;exact al aP
 ·refine d3 [5] [200] 200 [(5, V1 (dNs (l :: L)))] [] rfl ?_ trivial ?_
  ·exact ⟨bG rfl (by simp), trivial⟩
  refine gQ fun _ O=>?_;refine Z9 ?_;refine Z8 ?_;refine Z8 ?_;refine eQ O ?_;clear O;exact al aP
end Go.Proofs.YtceacleokgoooaaGreatDoor

/- ref32: part. No condition. -/
namespace Go.Proofs.YtceacleokgoooaaGreatDoor
attribute [local irreducible] aA

end Go.Proofs.YtceacleokgoooaaGreatDoor

/- ref32: Resistance, Few, Without, Components. No condition. -/
namespace Go.Proofs.YtceacleokgoooaaGreatDoor
attribute [local irreducible] aA

end Go.Proofs.YtceacleokgoooaaGreatDoor

/- Bridges. No condition. -/
namespace Go.Proofs.YtceacleokgoooaaGreatDoor
attribute [local irreducible] aA
open Go.RowKit

end Go.Proofs.YtceacleokgoooaaGreatDoor

/- Counting roots. No condition. -/
namespace Go.Proofs.YtceacleokgoooaaGreatDoor

end Go.Proofs.YtceacleokgoooaaGreatDoor

/- Forests: how many links, which, what they join. No condition. -/
namespace Go.Proofs.YtceacleokgoooaaGreatDoor
attribute [local irreducible] aA

theorem wD {g : GR} (gv : GV g) : ∀ l ∈ g.links, l.f.toNat < g.nodes.length /\ l.t.toNat < g.nodes.length := fun l hl => by
 have lv := gLV gv l hl
 have h1 := lv.f
 have h2 := lv.t
 omega
theorem y3 {ls : List LK} {l : LK} (h : l ∈ ls) : (l.f.toNat, l.t.toNat) ∈ prs ls := List.mem_map.2 ⟨l, h, rfl⟩
theorem y0 {a b : List LK} (h : ∀ l ∈ a, l ∈ b) : ∀ p ∈ prs a, p ∈ prs b := fun p hp => by
 obtain ⟨l, hl, rfl⟩ := List.mem_map.1 hp
 exact y3 (h l hl)
def keG (g : GR) (k : Nat) : GR := ⟨g.nodes, (foL g k).map fun j => g.links.getD j ⟨0, 0, 0, 0, 0⟩⟩
theorem zd {g : GR} {k : Nat} (hk : k <= g.links.length) : ∀ l ∈ (keG g k).links, l ∈ g.links := fun l hl => by
 obtain ⟨j, hj, rfl⟩ := List.mem_map.1 hl
 have := List.mem_range.1 (List.mem_filter.1 hj).1
 rw [List.getD_eq_getElem?_getD, List.getElem?_eq_getElem (by omega)];exact List.getElem_mem _
theorem HN {g : GR} (gv : GV g) {k : Nat} (hk : k <= g.links.length) : GV (keG g k) := by
 refine ⟨gv.n1, gv.n2, ?_, fun l hl => gv.lk l (zd hk l hl)⟩
 show ((foL g k).map _).length <= 48
 rw [List.length_map]; exact Nat.le_trans (uL g k) (Nat.le_trans hk gv.l)
theorem CO {g : GR} (gv : GV g) : ∀ k, k <= g.links.length -> ∀ u v, Cnn (prs (g.links.take k)) u v -> Cnn (prs (keG g k).links) u v
 | 0, _ => fun u v h => by have := h.nil; rw [this]; exact .refl _
 | k + 1, hk => fun u v h => by
  have ih := CO gv k (by omega)
  have hk' : k < g.links.length := by omega
  have hm := wD gv _ (List.getElem_mem hk')
  have sub : ∀ l ∈ (keG g k).links, l ∈ (keG g (k + 1)).links := fun l hl => by
   obtain ⟨j, hj, rfl⟩ := List.mem_map.1 hl
   refine List.mem_map.2 ⟨j, ?_, rfl⟩;rw [ro]; split
   ·exact List.mem_append_left _ hj
   ·exact hj
  have ih' : ∀ u v, Cnn (prs (g.links.take k)) u v -> Cnn (prs (keG g (k + 1)).links) u v := fun u v h => (ih u v h).mono (y0 sub)
  have ep : prs (g.links.take (k + 1)) = prs (g.links.take k) ++ [(g.links[k].f.toNat, g.links[k].t.toNat)] := by
   rw [List.take_succ_eq_append_getElem hk']; unfold prs; rw [List.map_append]; rfl
  have hlink : Cnn (prs (keG g (k + 1)).links) g.links[k].f.toNat g.links[k].t.toNat := by
   have eb : foB g k = decide (jf (g.links.take k) g.links[k].f.toNat ≠ jf (g.links.take k) g.links[k].t.toNat) := by unfold foB; rw [List.getElem?_eq_getElem hk']
   by_cases h : jf (g.links.take k) g.links[k].f.toNat = jf (g.links.take k) g.links[k].t.toNat
   ·exact ih' _ _ ((yS (n := g.nodes.length) _ (g.links.take k) rfl (fun l hl => wD gv l (List.mem_of_mem_take hl)) _ _ hm.1 hm.2).1 h)
   ·refine .one (Or.inl (y3 (List.mem_map.2 ⟨k, ?_, ?_⟩)))
    ·rw [ro, if_pos (eb.trans (decide_eq_true h))]; simp
    ·rw [List.getD_eq_getElem?_getD, List.getElem?_eq_getElem hk']; rfl
  rw [ep, Cnn.snoc] at h
  rcases h with h | ⟨h1, h2⟩ | ⟨h1, h2⟩
  ·exact ih' _ _ h
  ·exact ((ih' _ _ h1).trans hlink).trans (ih' _ _ h2)
  ·exact ((ih' _ _ h1).trans hlink.symm).trans (ih' _ _ h2)
end Go.Proofs.YtceacleokgoooaaGreatDoor

/- WholeTrees plainly: the normal matrix in any order, its determinant, its pattern; a forest's components. No condition. -/
namespace Go.Proofs.YtceacleokgoooaaGreatDoor

/-! ### The same components have the same numbers -/
theorem FB {n : Nat} {r r' : List Nat} (h : RG r) (h' : RG r') (hk : ∀ u v, u < n -> v < n -> (fd r u = fd r v ↔ fd r' u = fd r' v)) {v : Nat} (hv : v < n) : fd r v = fd r' v := by
 have key : ∀ {r r' : List Nat}, RG r -> RG r' -> (∀ u v, u < n -> v < n -> (fd r u = fd r v ↔ fd r' u = fd r' v)) -> fd r' v <= fd r v := fun {r r'} h h' hk => by
  have a := nP h v
  have e := (hk (fd r v) v (by omega) hv).1 (uM h v)
  have := nP h' (fd r v)
  omega
 exact Nat.le_antisymm (key h' h fun u v hu hv => (hk u v hu hv).symm) (key h h' hk)
theorem wt {r r' : List Nat} : ∀ {n : Nat}, (∀ v, v < n -> fd r v = fd r' v) -> num r n = num r' n
 | 0, _ => rfl
 | n + 1, h => by
  simp only [num];rw [wt (n := n) fun v hv => h v (by omega), h n (by omega)]
theorem CN {g : GR} (gv : GV g) : b7 (keG g g.links.length) = b7 g := by
 have gk := HN gv (Nat.le_refl g.links.length)
 rw [b7, b7, if_pos (bO.2 gk), if_pos (bO.2 gv)]
 have e : num (dO (keG g g.links.length)) g.nodes.length = num (dO g) g.nodes.length := by
  refine wt fun v hv => ?_;refine FB (n := g.nodes.length) (jA _ _).1 (jA _ _).1 (fun u v hu hv => ?_) hv
  have a := qW gk hu hv
  have b := qW gv hu hv
  rw [nJ gk hu hv] at a;rw [nJ gv hu hv] at b
  show fd (dO (keG g g.links.length)) u = fd (dO (keG g g.links.length)) v ↔ fd (dO g) u = fd (dO g) v
  unfold yR at a b
  rw [<- a, <- b];refine ⟨fun h => h.mono (y0 (zd (Nat.le_refl _))), fun h => ?_⟩
  have := CO gv g.links.length (Nat.le_refl _) u v
  rw [List.take_length] at this;exact this h
 show ((num (dO (keG g g.links.length)) g.nodes.length).1, (0 : Int)) = _
 rw [e]

/-! ### The determinant -/
theorem uS {g : GR} (gv : GV g) : dt (g.nodes.length - 1) (bc (nmM g)) = ((trZ id (g.nodes.length - 1) g.links : Int) : Rat) := by
 have n1 := gv.n1
 obtain ⟨m, hm⟩ : ∃ m, g.nodes.length = m + 1 := ⟨g.nodes.length - 1, by omega⟩
 rw [hm, Nat.add_sub_cancel];rw [mW, <- vz (n := m) (g := 0) (by omega) (fun x hx => hm ▸ mS gv x hx), nA (p := id) (g := 0) (k := 0) (by omega) (fun e => (bM.1 e).2 rfl)];refine aJ fun a b ha hb => ?_;rw [un gv (by omega) (by omega), gI, gI, cw (bM.2 ⟨rfl, by omega⟩) (bM.2 ⟨rfl, by omega⟩)]
theorem zc {y : Nat -> Rat} {v : Nat} : ∀ {ls : List WL}, (∀ x ∈ ls, y x.f = y x.t) -> LU y ls v = 0
 | [], _ => rfl
 | x :: xs, h => by
  simp only [LU];rw [zc fun y hy => h y (List.mem_cons_of_mem _ hy), h x List.mem_cons_self]; grind
theorem Dq {g : GR} (gv : GV g) : 0 < dt (g.nodes.length - 1) (bc (nmM g)) ↔ cnB g = true := by
 have hn := gv.n1
 constructor
 ·intro h
  refine decide_eq_true fun v hv => Classical.byContradiction fun hne => ?_
  have hv0 : v ≠ 0 := fun e => hne (by rw [e])
  have hk : v - 1 < g.nodes.length - 1 := by omega
  have c := uW (A := bc (nmM g)) (x := fun i => (fun u => if lab g u = lab g v then (1 : Rat) else 0) (i + 1)) (b := fun _ => 0) hk (fun i hi => by
   rw [Cw gv (y := fun u => if lab g u = lab g v then (1 : Rat) else 0) (if_neg fun e => hne e.symm) hi]
   exact zc fun x hx => by rw [nI gv hx])
  have z : dt (g.nodes.length - 1) (fun i c => if c = v - 1 then 0 else bc (nmM g) i c) = 0 := by
   have := oJ (A := fun i c => if c = v - 1 then 0 else bc (nmM g) i c) (B := fun i c => if c = v - 1 then 0 else bc (nmM g) i c) (C := fun i c => if c = v - 1 then 0 else bc (nmM g) i c) (v - 1) 0 0 hk (fun i hi => by rw [if_pos rfl]; grind) (fun i c _ _ _ => ⟨rfl, rfl⟩)
   rw [this]; grind
  rw [z] at c
  have e1 : (if lab g (v - 1 + 1) = lab g v then (1 : Rat) else 0) = 1 := by rw [show v - 1 + 1 = v by omega, if_pos rfl]
  simp only [e1] at c;rw [Rat.one_mul] at c;rw [c] at h;exact absurd h (by decide)
 ·intro h
  have hd := of_decide_eq_true ((xM gv).trans h)
  rw [mI (fun i j hi hj => j8 gv hi hj) fun k hk => by have := hd k (by omega); grind];exact xL hd
theorem D8 {g : GR} (gv : GV g) : 0 < trZ id (g.nodes.length - 1) g.links ↔ cnB g = true := by
 rw [<- Dq gv, uS gv];exact ⟨fun h => by exact_mod_cast h, fun h => by exact_mod_cast h⟩

/-! ### Any order -/
theorem HV {n : Nat} {A B : Nat -> Nat -> Rat} {e : Nat -> Nat} (h1 : ∀ i, i < n -> e i < n) (h2 : ∀ i j, i < n -> j < n -> e i = e j -> i = j) (hB : ∀ i j, i < n -> j < n -> B i j = A (e i) (e j)) (y : Nat -> Rat) : fm n B (fun i => y (e i)) = fm n A y := by
 unfold fm
 rw [ar (g := fun i => (fun k => y k * sm n fun j => A k j * y j) (e i)) fun i hi => by
  show y (e i) * _ = y (e i) * _
  congr 1
  rw [ar (g := fun j => (fun k => A (e i) k * y k) (e j)) fun j hj => by rw [hB i j hi hj]]
  exact m0 (f := fun k => A (e i) k * y k) n (Nat.le_refl _) h1 h2 (fun i h1 h2 => by omega)]
 exact m0 (f := fun k => y k * sm n fun j => A k j * y j) n (Nat.le_refl _) h1 h2 (fun i h1 h2 => by omega)
def ivE (n : Nat) (e : Nat -> Nat) (x : Nat -> Rat) (j : Nat) : Rat := sm n fun i => if e i = j then x i else 0
theorem xX {n : Nat} {e : Nat -> Nat} (h2 : ∀ i j, i < n -> j < n -> e i = e j -> i = j) (x : Nat -> Rat) {k : Nat} (hk : k < n) : ivE n e x (e k) = x k := by
 unfold ivE
 rw [dD _ hk fun i hi hne => if_neg fun h => hne (h2 i k hi hk h), if_pos rfl]
theorem Hs {n : Nat} {A B : Nat -> Nat -> Rat} {e : Nat -> Nat} (h1 : ∀ i, i < n -> e i < n) (h2 : ∀ i j, i < n -> j < n -> e i = e j -> i = j) (hB : ∀ i j, i < n -> j < n -> B i j = A (e i) (e j)) (hA : ∀ i j, i < n -> j < n -> A i j = A j i) (hd : ∀ k, k < n -> 0 < DD A k) :
  ∀ k, k < n -> 0 < DD B k := by
 refine uj (fun i j hi hj => by rw [hB i j hi hj, hB j i hj hi, hA _ _ (h1 i hi) (h1 j hj)]) fun x ⟨i, hi, hx⟩ => ?_
 have p := Ci hA hd (x := ivE n e x) ⟨e i, h1 i hi, by rw [xX h2 x hi]; exact hx⟩
 rw [<- HV h1 h2 hB] at p
 have : fm n B (fun i => ivE n e x (e i)) = fm n B x := by
  unfold fm
  refine ar fun i hi => ?_
  show ivE n e x (e i) * sm n (fun j => B i j * ivE n e x (e j)) = _
  rw [xX h2 x hi, ar (g := fun j => B i j * x j) fun j hj => by rw [xX h2 x hj]]
 rwa [this] at p

/-! ### The normal matrix in an order -/
structure NOrd (g : GR) (B : Nat -> Nat -> Rat) (e : Nat -> Nat) : Prop where
 B : ∀ i j, i < g.nodes.length - 1 -> j < g.nodes.length - 1 -> B i j = bc (nmM g) (e i) (e j)
 l : ∀ i, i < g.nodes.length - 1 -> e i < g.nodes.length - 1
 i : ∀ i j, i < g.nodes.length - 1 -> j < g.nodes.length - 1 -> e i = e j -> i = j
section
variable {g : GR} (gv : GV g) {B : Nat -> Nat -> Rat} {e : Nat -> Nat} (h : NOrd g B e)
include gv h
theorem NOrd.sym : ∀ i j, i < g.nodes.length - 1 -> j < g.nodes.length - 1 -> B i j = B j i := fun i j hi hj => by rw [h.B i j hi hj, h.B j i hj hi, j8 gv (h.l i hi) (h.l j hj)]
theorem NOrd.dt : dt (g.nodes.length - 1) B = ((trZ id (g.nodes.length - 1) g.links : Int) : Rat) := by
 rw [<- uS gv, aJ (B := fun i c => bc (nmM g) (e i) (e c)) h.B];exact rH (g.nodes.length - 1) (Nat.le_refl _) h.l h.i (fun i h1 h2 => by omega)
theorem NOrd.pos : l6 B (g.nodes.length - 1) = cnB g := by
 rw [Bool.eq_iff_iff]
 constructor
 ·intro hp
  have hd := of_decide_eq_true hp
  refine (Dq gv).1 ?_;rw [uS gv, <- h.dt gv, mI (h.sym gv) fun k hk => by have := hd k (by omega); grind];exact xL hd
 ·intro hc
  have hd := of_decide_eq_true ((xM gv).trans hc)
  exact decide_eq_true (Hs h.l h.i h.B (fun i j hi hj => j8 gv hi hj) hd)
theorem NOrd.prod (hc : cnB g = true) : pr (g.nodes.length - 1) (DD B) = ((trZ id (g.nodes.length - 1) g.links : Int) : Rat) := by
 have hd := of_decide_eq_true ((h.pos gv).trans hc)
 rw [<- h.dt gv, mI (h.sym gv) fun k hk => by have := hd k (by omega); grind]
end
def Cj (g : GR) : Nat -> Nat -> Bool := fun i j => decide (bc (nmM g) i j ≠ 0)
def psN (g : GR) : List (Nat × Nat) := prP (Cj g) (g.nodes.length - 1) (g.nodes.length - 1)
theorem Cd {g : GR} (gv : GV g) : OKp (g.nodes.length - 1) (psN g) := Hq _ (by have := gv.n2; omega) _
theorem EM {g : GR} (gv : GV g) : (psN g).length <= 4096 := Nat.le_trans (uh _ _ _) (by
 have := gv.n2
 exact Nat.le_trans (Nat.mul_le_mul (show g.nodes.length - 1 <= 16 by omega) (show g.nodes.length - 1 <= 16 by omega)) (by decide))
theorem FA {g : GR} (gv : GV g) {B : Nat -> Nat -> Rat} {e : Nat -> Nat} (h : NOrd g B e) (hc : cnB g = true) {i j : Nat} (hi : i < g.nodes.length - 1) (hji : j < i) (hL : LL B i j ≠ 0) :
  Ph (kE (psN g) (psN g).length) (fun v => ∃ k, k < j /\ e k = v) (e i) (e j) := by
 have hd := of_decide_eq_true ((h.pos gv).trans hc)
 refine Jp (h.sym gv) (fun k hk => by have := hd k hk; grind) (fun a b ha hb hab hB => ?_) hi hji hL;rw [DF (Cd gv)]
 have e0 : bc (nmM g) (e a) (e b) ≠ 0 := fun e0 => hB (by rw [h.B a b ha hb, e0])
 have hne : e a ≠ e b := fun e1 => hab (h.i a b ha hb e1)
 rcases Nat.lt_or_gt_of_ne hne with hlt | hlt
 ·exact Or.inl (nB.2 ⟨h.l a ha, hlt, h.l b hb, decide_eq_true e0⟩)
 ·exact Or.inr (nB.2 ⟨h.l b hb, hlt, h.l a ha, decide_eq_true (by rw [j8 gv (h.l b hb) (h.l a ha)]; exact e0)⟩)
end Go.Proofs.YtceacleokgoooaaGreatDoor

/- WholeTrees: the fixed calls, small graphs, words. No condition. -/
namespace Go.Proofs.YtceacleokgoooaaGreatDoor
attribute [local irreducible] aA
open Go.RowKit

/-! ### The fixed calls -/
def gTA : GR := ⟨[eO, eO], [⟨0, 1, 0, 0, 1⟩, ⟨0, 1, 0, 0, 2⟩]⟩
theorem Gq : d7 gTA = true := by decide
theorem Fy : mq gTA 0 1 = 1 / 3 := by
 have gv := bO.1 Gq
 refine (EC gv (i := 0) (j := 1) (by decide) (by decide) (by decide)).uniq (mS gv) (by decide) (by decide) ⟨fun v => if v = 0 then 1 / 3 else 0, fun v hv => ?_, by decide +kernel⟩
 have : v = 0 \/ v = 1 := by
  have : gTA.nodes.length = 2 := rfl
  omega
 rcases this with rfl | rfl <;> decide +kernel
theorem zt {T : Tab} {t : TypeId} (a : ByteArray) : aK T .eql t (V1 (.lit (.string a))) (V1 (.lit (.string a))) = .set (dB true) := by
 simp [aK, dn, iO, aT]
set_option maxHeartbeats 1000000 in
theorem vB : Con Tryz.prog 26 [] { v := dB true } := by
 have cT := wR gTA
 have e2 : kK gTA = (3, 0) := by decide
 rw [e2] at cT
 have cL := HT gTA 1
 have e1 : xV gTA 1 = (qzW (2 / 3), 0) := by
  rw [xV, if_pos Gq, dif_pos ⟨by decide, by decide⟩]
  have : Fb gTA ⟨0, 1, 0, 0, 2⟩ = 2 / 3 := by
   show ((2 : Int) : Rat) * mq gTA 0 1 = _
   rw [Fy]; decide +kernel
  rw [<- this]; rfl
 rw [e1] at cL
 have t1 := q6 3 ⟨by decide, by decide⟩
 have t2 := EH (qzW (2 / 3)) (aY (by decide +kernel)) (by rw [bg]; decide +kernel) (by rw [bg]; decide +kernel)
 rw [show ztx 3 = [51] by decide +kernel] at t1;rw [bg, show qtx (2 / 3 : Rat) = [50, 47, 51] by decide +kernel] at t2;generalize qzW (2 / 3 : Rat) = B at *;refine Z3 Tryz.func26 ?_
 intro w0 X
 rw [ap _ _ [] rfl rfl];refine gQ fun _ O=>?_;refine Z8 ?_;refine eQ O ?_;clear O;refine gQ fun _ O=>?_;refine bm (sz := _) (es := _) (f := _) (v := _) rfl (wy (l := 2) rfl rfl rfl rfl rfl (Nat.le_of_ble_eq_true rfl) (by decide) rfl rfl (by omega)) rfl rfl ?_;refine bF rfl rfl rfl ?_;refine bF rfl rfl rfl ?_;refine aC rfl rfl rfl rfl ?_;refine bF rfl rfl rfl ?_;refine ay rfl rfl rfl rfl rfl rfl ?_;refine eW rfl rfl rfl rfl rfl ?_;refine eQ O ?_;clear O;refine d3 [1] [1, 6, 9] 6 [(1, .ptr 1 0)] [(1, some (.box [.d (dRs [eO, eO]), .own 9 5 0 2])), (9, some (.arr 5 [(LK.mk 0 1 0 0 1).dc, (LK.mk 0 1 0 0 2).dc]))] rfl ⟨rfl, trivial⟩ ⟨rfl, rfl, trivial⟩ ?_;refine d3 [1] [1, 9] 9 [(1, .ptr 1 0)] [(1, some (.box gTA.cs))] rfl ⟨rfl, trivial⟩ ⟨rfl, trivial⟩ ?_;refine gQ fun _ O=>?_;refine Z7 ?_;refine ac rfl rfl (cT) rfl rfl rfl rfl ?_;refine Z9 ?_;refine aq rfl rfl rfl ?_;refine aq rfl rfl rfl ?_;refine ay rfl rfl rfl rfl rfl rfl ?_;refine ak rfl rfl rfl rfl rfl ?_;refine Z8 ?_;refine eQ O ?_;clear O;refine gQ fun _ O=>?_;refine Z7 ?_;refine ac rfl rfl (cL) rfl rfl rfl rfl ?_;refine Z9 ?_;refine aq rfl rfl rfl ?_;refine aq rfl rfl rfl ?_;refine ay rfl rfl rfl rfl rfl rfl ?_;refine ak rfl rfl rfl rfl rfl ?_;refine Z8 ?_;refine eQ O ?_;clear O;refine gQ fun _ O=>?_;refine Z9 ?_;refine ai rfl (pp (c := true) rfl) rfl ?_;refine Z9 ?_;refine Z7 ?_;refine ac rfl rfl (t1) rfl rfl rfl rfl ?_;refine ai rfl (zt _) rfl ?_;refine Z4 ?_;refine Z9 ?_;refine Z9 ?_;refine ai rfl (pp (c := true) rfl) rfl ?_;refine Z4 ?_;refine Z9 ?_;refine Z7 ?_;refine ac rfl rfl (t2) rfl rfl rfl rfl ?_;refine ai rfl (zt _) rfl ?_;refine Z4 ?_;refine Z8 ?_;refine eQ O ?_;clear O;exact al aP

/-! ### Small graphs -/
def w1T (r : RW) : Bool := decide (r.wp.length <= 1 /\ r.wq.length <= 1)
def shT (l : List RW) : Bool := l.all w1T && decide (l.length <= 6)
theorem Bm (l : List RW) (hl : l.length <= 9223372036854775807) : Con Tryz.prog 59 [V1 (dRs l)] { v := dB (shT l) } := by
 refine Z3 Tryz.func59 ?_
 intro w0 X
 rw [ap _ _ [(0, V1 (dRs l))] rfl rfl];refine gQ fun _ O=>?_;refine Z8 ?_;refine eQ O ?_;clear O;refine ab ?_;refine gQ fun _ O=>?_;refine Z8 ?_;refine eQ O ?_;clear O;refine ae (aG (α := Nat) (fun i => mk 31 [(0, V1 (dRs l)), (3, dI i)] [] []) (fun i => i <= l.length /\ (l.take i).all w1T = true) (fun i => l.length - i) 0 ?_ ⟨Nat.zero_le _, rfl⟩ ?_)
 ·exact Wk.mk' ⟨rfl, rfl, trivial⟩ trivial
 rintro i ⟨hi, ht⟩
 refine ab ?_;refine gQ fun _ O=>?_;refine Z9 ?_;refine Z9 ?_;refine az rfl (bZ RW.dc rfl rfl) rfl ?_;refine Z6 ?_;refine eQ O ?_;clear O;refine aj rfl (fun hg => ?_) (fun hg => ?_)
 ·have hg : i < l.length := by simp at hg; omega
  obtain ⟨r, hr⟩ : ∃ r, r = l[i] := ⟨_, rfl⟩
  refine ag ?_;show AWP _ _ _ _ _ _;refine ab ?_;refine ae ?_;refine bD (α := Bool) (fun c => mk 31 [(0, V1 (dRs l)), (3, dI i), (27, dB c)] [] []) (fun c => c = !w1T r) ?_ ?_
  ·refine c6 fun _ O=>?_;refine ah tok rfl ?_;refine Z9 ?_;refine am ?_;refine ah tok rfl ?_;refine Z9 ?_;refine am ?_;refine ah tok rfl ?_;refine aa rfl (x_m RW.dc rfl rfl rfl rfl hg rfl) rfl ?_;refine am ?_;refine ah tok rfl ?_;refine Z5 ?_;refine am ?_;refine ah tok rfl ?_;refine Z5 ?_;refine am ?_;refine ah tok rfl ?_;refine Z7 ?_;refine am ?_;refine ah tok rfl ?_;refine az rfl (bA (ws := l[i].wp) rfl rfl rfl) rfl ?_;refine am ?_;refine ah tok rfl ?_;refine ai rfl (Gw _ 1) rfl ?_;refine am ?_;refine ah tok rfl ?_;refine Z9 ?_;refine am ?_;refine da (fun h0 => ?_) (fun h0 => ?_)
   ·refine aB rfl rfl ?_;refine aB rfl rfl ?_;refine aB rfl rfl ?_;refine aB rfl rfl ?_;refine aB rfl rfl ?_;refine aB rfl rfl ?_;refine aB rfl rfl ?_;refine aB rfl rfl ?_;refine ah tok rfl ?_;refine Z4 ?_;refine am ?_;refine aN rfl (O _ ?_); clear O;exact ⟨_, (by simp only [decide_eq_true_eq, decide_eq_false_iff_not] at h0; unfold w1T; rw [hr, Bool.eq_iff_iff]; simp only [decide_eq_true_eq, Bool.not_eq_true', decide_eq_false_iff_not, reduceCtorEq, false_iff, true_iff]; omega), Wk.mk' ⟨rfl, rfl, rfl, trivial⟩ trivial⟩
   ·refine ah tok rfl ?_;refine Z9 ?_;refine am ?_;refine ah tok rfl ?_;refine Z9 ?_;refine am ?_;refine ah tok rfl ?_;refine aa rfl (x_m RW.dc rfl rfl rfl rfl hg rfl) rfl ?_;refine am ?_;refine ah tok rfl ?_;refine Z5 ?_;refine am ?_;refine ah tok rfl ?_;refine Z5 ?_;refine am ?_;refine ah tok rfl ?_;refine Z7 ?_;refine am ?_;refine ah tok rfl ?_;refine az rfl (bA (ws := l[i].wq) rfl rfl rfl) rfl ?_;refine am ?_;refine ah tok rfl ?_;refine ai rfl (Gw _ 1) rfl ?_;refine am ?_;refine ah tok rfl ?_;refine Z4 ?_;refine am ?_;refine aN rfl (O _ ?_); clear O;exact ⟨_, (by simp only [decide_eq_true_eq, decide_eq_false_iff_not] at h0; unfold w1T; rw [hr, Bool.eq_iff_iff]; simp only [decide_eq_true_eq, Bool.not_eq_true', decide_eq_false_iff_not, reduceCtorEq, false_iff, true_iff]; omega), Wk.mk' ⟨rfl, rfl, rfl, trivial⟩ trivial⟩
  rintro c rfl
  refine aj rfl (fun hd => ?_) (fun hd => ?_)
  ·refine gQ fun _ O=>?_;refine Z8 ?_;refine eQ O ?_;clear O;exact al (eh (h3 := by exact mf (by rw [Bool.not_eq_true'] at hd; unfold shT; rw [List.all_eq_false.2 ⟨r, hr ▸ List.getElem_mem hg, by rw [hd]; simp⟩, Bool.false_and])))
  ·refine ag ?_;show AWP _ _ _ _ _ _;refine gR fun _ O=>?_;refine Z9 ?_;refine ai rfl (aF rfl (by omega)) rfl ?_;refine Z8 ?_;refine eQ O ?_;clear O;refine ⟨i + 1, by omega, ⟨hg, ?_⟩, Wk.mk' ⟨rfl, rfl, trivial⟩ trivial⟩;rw [List.take_succ_eq_append_getElem hg, List.all_append, ht, <- hr];rw [Bool.not_eq_false'] at hd
   simp [hd]
 ·have hg : i = l.length := by simp at hg; omega
  subst hg
  rw [List.take_length] at ht
  unfold shT
  rw [ht, Bool.true_and];refine ax ?_;show AWP _ _ _ _ _ _;refine gQ fun _ O=>?_;refine Z9 ?_;refine az rfl (bZ RW.dc rfl rfl) rfl ?_;refine ai rfl (Gv _ 6) rfl ?_;refine Z8 ?_;refine eQ O ?_;clear O;exact al aP
def vA (g : GR) : Bool := shT g.nodes && decide (g.links.length <= 9)
theorem Ef (g : GR) (hn : g.nodes.length <= 9223372036854775807) : Con Tryz.prog 27 [AG g.cs] { v := dB (vA g) } := by
 have cS := Bm g.nodes hn
 unfold vA
 generalize shT g.nodes = b at cS ⊢;refine Z3 Tryz.func27 ?_
 intro w0 X
 rw [ap _ _ [(0, AG g.cs)] rfl rfl];refine gQ fun _ O=>?_;refine aS rfl rfl rfl rfl rfl rfl ?_;refine Z8 ?_;refine eQ O ?_;clear O
 cases b with
 | true =>
  refine gQ fun _ O=>?_;refine Z5 ?_;refine Z7 ?_;refine ac rfl rfl (cS) rfl rfl rfl rfl ?_;refine Z9 ?_;refine Z5 ?_;refine Z7 ?_;refine az rfl (bZ LK.dc rfl rfl) rfl ?_;refine ai rfl (Gv _ 9) rfl ?_;refine Z4 ?_;refine Z8 ?_;refine eQ O ?_;clear O;exact al aP
 | false =>
  refine gQ fun _ O=>?_;refine Z5 ?_;refine Z7 ?_;refine ac rfl rfl (cS) rfl rfl rfl rfl ?_;refine Z9 ?_;refine aw rfl ?_;refine aw rfl ?_;refine aw rfl ?_;refine aw rfl ?_;refine Z4 ?_;refine Z8 ?_;refine eQ O ?_;clear O;exact al aP
theorem Bl {g : GR} (hg : ∀ r ∈ g.nodes, r.W) (h : vA g = true) : (∀ r ∈ g.nodes, r.OK 1) /\ g.nodes.length <= 6 /\ g.links.length <= 9 /\ SM g := by
 unfold vA shT at h
 rw [Bool.and_eq_true, Bool.and_eq_true, List.all_eq_true] at h
 obtain ⟨⟨h1, h2⟩, h3⟩ := h
 have h2 := of_decide_eq_true h2
 have h3 := of_decide_eq_true h3
 have ok : ∀ r ∈ g.nodes, r.OK 1 := fun r hr => by
  have := of_decide_eq_true (h1 r hr)
  exact ⟨(hg r hr).1, (hg r hr).2, this.1, this.2⟩
 exact ⟨ok, h2, h3, ⟨h2, by omega, fun r hr => (ok r hr).mono rfl⟩⟩

/-! ### Words -/
theorem IL {g : GR} (gv : GV g) {a b : Nat} (ha : a < g.nodes.length - 1) (hb : b < g.nodes.length - 1) : IB 26 (bc (nmM g) a b) := by
 unfold bc; rw [uq ha hb, bg]
 have h1 := lN g.links (gLV gv) (a + 1) (b + 1)
 have h2 := gv.l
 exact ⟨_, rfl, by
  have e : (2 : Nat) ^ 26 = 67108864 := by decide
  rw [e]; omega⟩
theorem IK {g : GR} (gv : GV g) {a b : Nat} (ha : a < g.nodes.length - 1) (hb : b < g.nodes.length - 1) : ql (bc (nmM g) a b) <= 2 := by
 unfold bc; rw [uq ha hb, bg]
 have h1 := lN g.links (gLV gv) (a + 1) (b + 1)
 have h2 := gv.l
 exact dN ⟨by omega, by omega⟩
theorem GK {g : GR} (gv : GV g) : zl (trZ id (g.nodes.length - 1) g.links) <= 15 := by
 have n16 := gv.n2
 obtain ⟨z, h1, h2⟩ := jN (m := 26) (n := g.nodes.length - 1) (A := bc (nmM g)) (by omega) (fun a b ha hb => IL gv ha hb)
 rw [uS gv] at h1
 have e : trZ id (g.nodes.length - 1) g.links = z := by exact_mod_cast h1
 rw [e];exact tD (j := 15) h2 (by omega)

/-! ### The numbers of the components -/
theorem IW {g : GR} (gv : GV g) : lab g 0 = 0 := by
 have n1 := gv.n1
 rw [qV gv]
 unfold r5
 rw [ww _ (show 0 < 1 by omega) n1]
 have hl := eA (dO g) 1
 have h := Hz (dO g) 1
 obtain ⟨L, hL⟩ : ∃ L, L = (num (dO g) 1).1 := ⟨_, rfl⟩
 rw [<- hL] at hl h ⊢
 have := h (L.getD 0 0) (by rw [List.getD_eq_getElem?_getD, List.getElem?_eq_getElem (show 0 < L.length by omega)]; exact List.getElem_mem _)
 omega
def j0B (l : List Nat) (i : Nat) : Bool := (l.take i).all fun x => x == 0
theorem CQ {l : List Nat} {i : Nat} (h : i < l.length) : j0B l (i + 1) = (j0B l i && decide (l[i] = 0)) := by
 unfold j0B
 rw [List.take_succ_eq_append_getElem h, List.all_append]
 congr 1
 show ((l[i] == 0) && true) = _
 rw [Bool.and_true, Bool.eq_iff_iff, beq_iff_eq, decide_eq_true_eq]
theorem HO {g : GR} (gv : GV g) : j0B (b7 g).1 (b7 g).1.length = cnB g := by
 have hl := j4 gv
 rw [Bool.eq_iff_iff, j0B, List.take_length, List.all_eq_true, cnB, decide_eq_true_eq, IW gv]
 constructor
 ·intro h v hv
  have : lab g v ∈ (b7 g).1 := by
   unfold lab
   rw [List.getD_eq_getElem?_getD, List.getElem?_eq_getElem (by omega)]; exact List.getElem_mem _
  simpa using h _ this
 ·intro h x hx
  obtain ⟨i, hi, rfl⟩ := List.getElem_of_mem hx
  have := h i (by omega)
  unfold lab at this
  rw [List.getD_eq_getElem?_getD, List.getElem?_eq_getElem hi] at this
  simpa using this
end Go.Proofs.YtceacleokgoooaaGreatDoor
