/- Part of a proof that a Go function answers true for every input. No condition. -/
import Derived.Test.YtnoildlijhapaaaGreatDoorC2
import Derived.Test.YtnoildlijhapaaaGreatDoorProg
import Derived.Shelf.Slices.Cells
import Derived.Shelf.Strings.OnBuilder
import Derived.Shelf.Strconv.Itoa1
import Derived.Shelf.Strconv.Itoa2
import Derived.Shelf.Spec.TrailingZeros
set_option linter.unusedVariables false
set_option linter.unusedSimpArgs false
set_option linter.unusedSectionVars false
/- The library functions Join and Reverse at this program: what the kit proves of them over any program. No condition. -/
namespace Go.Proofs.YtnoildlijhapaaaGreatDoor
open Go.Shelf
def sh_lays156_ren : Go.Shelf.Ren := ⟨fun | 156 => 140 | 165 => 166 | 166 => 167 | 169 => 169 | 240 => 188 | 241 => 189 | 276 => 203 | 277 => 204 | n => n, fun | 31 => 166 | 9 => 9 | 3 => 3 | 4 => 4 | 0 => 0 | 20 => 20 | 72 => 191 | 76 => 195 | 70 => 189 | 37 => 74 | 75 => 194 | 127 => 210 | 164 => 221 | 5 => 5 | 80 => 197 | n => n, fun | n => n⟩
theorem sh_lays156 : Go.Proofs.Lays.n156 Tryz.prog sh_lays156_ren := {
 mixed := by kernel_rfl
 f156 := Tryz.func140.trans (congrArg some (by kernel_rfl))
 f165 := Tryz.func166.trans (congrArg some (by kernel_rfl))
 f166 := Tryz.func167.trans (congrArg some (by kernel_rfl))
 f169 := Tryz.func169.trans (congrArg some (by kernel_rfl))
 f240 := Tryz.func188.trans (congrArg some (by kernel_rfl))
 f241 := Tryz.func189.trans (congrArg some (by kernel_rfl))
 f276 := Tryz.func203.trans (congrArg some (by kernel_rfl))
 f277 := Tryz.func204.trans (congrArg some (by kernel_rfl))
 t0 := Tryz.underlying0
 a0 := Tryz.isAgg0
 z0 := Tryz.sizeOf0
 v0 := Tryz.zeroValue0
 t3 := Tryz.underlying3
 a3 := Tryz.isAgg3
 z3 := Tryz.sizeOf3
 v3 := Tryz.zeroValue3
 t4 := Tryz.underlying4
 a4 := Tryz.isAgg4
 z4 := Tryz.sizeOf4
 v4 := Tryz.zeroValue4
 t9 := Tryz.underlying9
 a9 := Tryz.isAgg9
 z9 := Tryz.sizeOf9
 v9 := Tryz.zeroValue9
 t20 := Tryz.underlying20
 a20 := Tryz.isAgg20
 z20 := Tryz.sizeOf20
 v20 := Tryz.zeroValue20
 t31 := Tryz.underlying166
 a31 := Tryz.isAgg166
 z31 := Tryz.sizeOf166
 v31 := Tryz.zeroValue166
 t37 := Tryz.underlying74
 a37 := Tryz.isAgg74
 z37 := Tryz.sizeOf74
 v37 := Tryz.zeroValue74
 t70 := Tryz.underlying189
 a70 := Tryz.isAgg189
 z70 := Tryz.sizeOf189
 v70 := Tryz.zeroValue189
 t72 := Tryz.underlying191
 a72 := Tryz.isAgg191
 z72 := Tryz.sizeOf191
 v72 := Tryz.zeroValue191
 t75 := Tryz.underlying194
 a75 := Tryz.isAgg194
 z75 := Tryz.sizeOf194
 v75 := Tryz.zeroValue194
 t76 := Tryz.underlying195
 a76 := Tryz.isAgg195
 z76 := Tryz.sizeOf195
 v76 := Tryz.zeroValue195
 t127 := Tryz.underlying210
 a127 := Tryz.isAgg210
 z127 := Tryz.sizeOf210
 v127 := Tryz.zeroValue210
 t164 := Tryz.underlying221
 a164 := Tryz.isAgg221
 z164 := Tryz.sizeOf221
 v164 := Tryz.zeroValue221 }
theorem sh_Builder_Extra_156 : Builder.Extra Tryz.prog sh_lays156_ren := {
 sizeBuilder := by kernel_rfl
 liesBuilder := by kernel_rfl
 t5 := Tryz.underlying5
 a5 := Tryz.isAgg5
 z5 := Tryz.sizeOf5
 v5 := Tryz.zeroValue5
 infoByte := by kernel_rfl
 cellsByte := by kernel_rfl
 sizeByte := by kernel_rfl
 neB5 := by decide }
open Go.RowKit in
theorem sh_strings_Join (bk o c : Nat) (xs : List ByteArray) (sep : ByteArray) (w : World) (hcells : ∀ (j : Nat) x, xs[j]? = some x -> w.cell? ⟨bk, o + j, none⟩ = some (.string x)) (hbk : bk < w.heap.size) (hN : xs.length <= 140737488355328) (hcap : xs.length <= c) (hlen : (Lib.join (xs.map (·.data.toList)) sep.data.toList).length <= 140737488355328) :
  Calls Tryz.prog 140 #[.slice (some ⟨bk, o, none⟩) xs.length c, .string sep] w fun e w' => e = .returned (.string ⟨(Lib.join (xs.map (·.data.toList)) sep.data.toList).toArray⟩) /\ Below w.heap.size w w' := Any.strings_Join sh_lays156 sh_Builder_Extra_156 bk o c xs sep w hcells hbk hN hcap hlen
def sh_laysM284_ren : Go.Shelf.Ren := ⟨fun | 284 => 182 | 129 => 199 | 317 => 198 | 318 => 200 | n => n, fun | 53 => 153 | 3 => 3 | 212 => 218 | 0 => 0 | 4 => 4 | 46 => 67 | 5 => 5 | 9 => 9 | n => n, fun | 17 => 2 | n => n⟩
theorem sh_laysM284 : Go.Proofs.LaysM.n284 Tryz.prog sh_laysM284_ren := {
 mixed := by kernel_rfl
 f129 := Tryz.func199.trans (congrArg some (by kernel_rfl))
 f284 := Tryz.func182.trans (congrArg some (by kernel_rfl))
 f317 := Tryz.func198.trans (congrArg some (by kernel_rfl))
 f318 := Tryz.func200.trans (congrArg some (by kernel_rfl))
 t0 := Tryz.underlying0
 a0 := Tryz.isAgg0
 z0 := Tryz.sizeOf0
 v0 := Tryz.zeroValue0
 t3 := Tryz.underlying3
 a3 := Tryz.isAgg3
 z3 := Tryz.sizeOf3
 v3 := Tryz.zeroValue3
 t4 := Tryz.underlying4
 a4 := Tryz.isAgg4
 z4 := Tryz.sizeOf4
 v4 := Tryz.zeroValue4
 t5 := Tryz.underlying5
 a5 := Tryz.isAgg5
 z5 := Tryz.sizeOf5
 v5 := Tryz.zeroValue5
 t9 := Tryz.underlying9
 a9 := Tryz.isAgg9
 z9 := Tryz.sizeOf9
 v9 := Tryz.zeroValue9
 t46 := Tryz.underlying67
 a46 := Tryz.isAgg67
 z46 := Tryz.sizeOf67
 v46 := Tryz.zeroValue67
 t53 := Tryz.underlying153
 a53 := Tryz.isAgg153
 z53 := Tryz.sizeOf153
 v53 := Tryz.zeroValue153
 t212 := Tryz.underlying218
 a212 := Tryz.isAgg218
 z212 := Tryz.sizeOf218
 v212 := Tryz.zeroValue218
 g17 := by kernel_rfl
 i0 := by kernel_rfl
 i3 := by kernel_rfl
 i4 := by kernel_rfl
 i5 := by kernel_rfl
 i9 := by kernel_rfl
 i46 := by kernel_rfl
 i53 := by kernel_rfl
 i212 := by kernel_rfl
 m17 := by kernel_rfl }
open Go.Lib in
theorem sh_internal_strconv_numDigits (u : Nat) (h1 : 1 <= u) (h2 : u < 18446744073709551616) (w : World) (htab : Lib.TabIs Tryz.prog w "internal/strconv.uint64pow10" .u64 Lib.pow10Tab) :
  Calls Tryz.prog 182 #[.int .u64 u] w fun e w' => e = .returned (.int .i64 (Lib.nDigits u)) /\ w' = w := Any.internal_strconv_numDigits sh_laysM284 u h1 h2 w htab
def sh_lays285_ren : Go.Shelf.Ren := ⟨fun | 285 => 183 | n => n, fun | 37 => 74 | 53 => 153 | 3 => 3 | 4 => 4 | 51 => 139 | 9 => 9 | 5 => 5 | 0 => 0 | n => n, fun | n => n⟩
theorem sh_lays285 : Go.Proofs.Lays.n285 Tryz.prog sh_lays285_ren := {
 mixed := by kernel_rfl
 f285 := Tryz.func183.trans (congrArg some (by kernel_rfl))
 t0 := Tryz.underlying0
 a0 := Tryz.isAgg0
 z0 := Tryz.sizeOf0
 v0 := Tryz.zeroValue0
 t3 := Tryz.underlying3
 a3 := Tryz.isAgg3
 z3 := Tryz.sizeOf3
 v3 := Tryz.zeroValue3
 t4 := Tryz.underlying4
 a4 := Tryz.isAgg4
 z4 := Tryz.sizeOf4
 v4 := Tryz.zeroValue4
 t5 := Tryz.underlying5
 a5 := Tryz.isAgg5
 z5 := Tryz.sizeOf5
 v5 := Tryz.zeroValue5
 t9 := Tryz.underlying9
 a9 := Tryz.isAgg9
 z9 := Tryz.sizeOf9
 v9 := Tryz.zeroValue9
 t37 := Tryz.underlying74
 a37 := Tryz.isAgg74
 z37 := Tryz.sizeOf74
 v37 := Tryz.zeroValue74
 t51 := Tryz.underlying139
 a51 := Tryz.isAgg139
 z51 := Tryz.sizeOf139
 v51 := Tryz.zeroValue139
 t53 := Tryz.underlying153
 a53 := Tryz.isAgg153
 z53 := Tryz.sizeOf153
 v53 := Tryz.zeroValue153 }
open Go.RowKit Go.Sort Go.Lib in
theorem sh_internal_strconv_formatBase10 (blk off cap : Nat) (u : Nat) (d : Array UInt8) (w : World) (hH : Holds (fun (b : UInt8) => Value.int .u8 (b.toNat : Int)) w blk off d) (hu : u < 10 ^ d.size) (hu64 : u < 18446744073709551616) (hsz : d.size < 4611686018427387904) :
  Calls Tryz.prog 183 #[.slice (some ⟨blk, off, none⟩) d.size cap, .int .u64 u] w fun e w' =>
   e = .returned (.tuple #[]) /\ ∃ (n v' : Nat) (dk : Array UInt8), w' = (putRow (fun (b : UInt8) => Value.int .u8 (b.toNat : Int)) w blk off dk).drewN n /\ FmtInv d.size u 0 v' dk := Any.internal_strconv_formatBase10 sh_lays285 blk off cap u d w hH hu hu64 hsz
def sh_laysNm217_ren : Go.Shelf.Ren := ⟨fun | 17 => 139 | n => n, fun | 24 => 166 | 9 => 9 | 3 => 3 | 4 => 4 | 0 => 0 | n => n, fun | n => n⟩
theorem sh_laysNm217 : Go.Proofs.Lays2.n17 Tryz.prog sh_laysNm217_ren := {
 mixed := by kernel_rfl
 f17 := Tryz.func139.trans (congrArg some (by kernel_rfl))
 t0 := Tryz.underlying0
 a0 := Tryz.isAgg0
 z0 := Tryz.sizeOf0
 v0 := Tryz.zeroValue0
 t3 := Tryz.underlying3
 a3 := Tryz.isAgg3
 z3 := Tryz.sizeOf3
 v3 := Tryz.zeroValue3
 t4 := Tryz.underlying4
 a4 := Tryz.isAgg4
 z4 := Tryz.sizeOf4
 v4 := Tryz.zeroValue4
 t9 := Tryz.underlying9
 a9 := Tryz.isAgg9
 z9 := Tryz.sizeOf9
 v9 := Tryz.zeroValue9
 t24 := Tryz.underlying166
 a24 := Tryz.isAgg166
 z24 := Tryz.sizeOf166
 v24 := Tryz.zeroValue166 }
open Go.RowKit Go.Lib Go.Sort in
theorem sh_slices_Reverse_string_cells (b off n c : Nat) (Sx : Nat -> ByteArray) (w : World) (hbig : n <= 9223372036854775807) (hc : ∀ i, i < n -> w.cell? ⟨b, off + i, none⟩ = some (.string (Sx i))) (hf : ∀ j, j < n -> w.frozen? ⟨b, off + j, none⟩ = false) :
  Calls Tryz.prog 139 #[.slice (some ⟨b, off, none⟩) n c] w fun e w' => e = .returned (.tuple #[]) /\ ∃ q, w' = (w.drewN q).setCells b off ((Lib.strsOf Sx n).reverse.map encStr) := Any.slices_Reverse_string_cells sh_laysNm217 b off n c Sx w hbig hc hf
end Go.Proofs.YtnoildlijhapaaaGreatDoor

/- The library functions TrailingZeros at this program: what the kit proves of them over any program. No condition. -/
namespace Go.Proofs.YtnoildlijhapaaaGreatDoor
open Go.Shelf
def sh_tzB_ren : Go.Shelf.Ren := ⟨fun | 28 => 154 | n => n, fun | 27 => 139 | 3 => 3 | 4 => 4 | 25 => 67 | 53 => 199 | 0 => 0 | 5 => 5 | n => n, fun | 0 => 0 | n => n⟩
theorem sh_tzB : Go.Proofs.Lays7.n28 Tryz.prog sh_tzB_ren := {
 mixed := by kernel_rfl
 f28 := Tryz.func154.trans (congrArg some (by kernel_rfl))
 t0 := Tryz.underlying0
 a0 := Tryz.isAgg0
 z0 := Tryz.sizeOf0
 v0 := Tryz.zeroValue0
 i0 := by kernel_rfl
 t3 := Tryz.underlying3
 a3 := Tryz.isAgg3
 z3 := Tryz.sizeOf3
 v3 := Tryz.zeroValue3
 i3 := by kernel_rfl
 t4 := Tryz.underlying4
 a4 := Tryz.isAgg4
 z4 := Tryz.sizeOf4
 v4 := Tryz.zeroValue4
 i4 := by kernel_rfl
 t5 := Tryz.underlying5
 a5 := Tryz.isAgg5
 z5 := Tryz.sizeOf5
 v5 := Tryz.zeroValue5
 i5 := by kernel_rfl
 t25 := Tryz.underlying67
 a25 := Tryz.isAgg67
 z25 := Tryz.sizeOf67
 v25 := Tryz.zeroValue67
 i25 := by kernel_rfl
 t27 := Tryz.underlying139
 a27 := Tryz.isAgg139
 z27 := Tryz.sizeOf139
 v27 := Tryz.zeroValue139
 i27 := by kernel_rfl
 t53 := Tryz.underlying199
 a53 := Tryz.isAgg199
 z53 := Tryz.sizeOf199
 v53 := Tryz.zeroValue199
 i53 := by kernel_rfl
 g0 := by kernel_rfl }
end Go.Proofs.YtnoildlijhapaaaGreatDoor

/- math/bits.TrailingZeros64 and 32: their contracts. No condition. -/
namespace Go.Proofs.YtnoildlijhapaaaGreatDoor
open Go.RowKit
theorem Es {w : World} (h : TbW w) {g : Nat} {l : List Nat} (hm : (g, l) ∈ ig) : TabAt g l w := fun j hj => (h (g, l) hm).2.1 j hj
end Go.Proofs.YtnoildlijhapaaaGreatDoor

/- Integers: words trimmed, made into integers, compared. No condition. -/
namespace Go.Proofs.YtnoildlijhapaaaGreatDoor
attribute [local irreducible] aC

theorem yS (ws : List Nat) (hl : ws.length <= 1073741824) : Con Tryz.prog 123 [V1 (dW ws)] { v := V1 (dW (dC ws)) } := by
 refine Z2 Tryz.func123 ?_
 intro w0 X
 rw [aq _ _ [(0, V1 (dW ws))] rfl rfl];refine gQ fun _ Z9=>?_;refine Z7 ?_;refine eQ Z9 ?_;clear Z9;refine ah (ar (aN (α := List Nat) (fun us => mk 21 [(0, V1 (dW us))] [] []) (fun us => us.length <= ws.length /\ dC us = dC ws) List.length ws ?_ ⟨Nat.le_refl _, rfl⟩ ?_))
 ·exact Wk.mk' ⟨rfl, trivial⟩ trivial
 rintro us ⟨hle, hus⟩
 refine ah ?_;refine gQ fun _ Z9=>?_;refine Z8 ?_;refine ay rfl (aP rfl rfl rfl) rfl ?_;refine Z5 ?_;refine db (fun hb => ?_) (fun hb => ?_)
 ·rcases List.eq_nil_or_concat us with rfl | ⟨vs, x, rfl⟩
  ·simp at hb
  rw [List.concat_eq_append] at *;simp only [List.length_append, List.length_singleton] at *;refine Z8 ?_;refine Z8 ?_;refine Z8 ?_;refine ay rfl (aP rfl rfl (List.length_append)) rfl ?_;refine am rfl (bE (c := (vs.length : Int)) (by simp) (by omega)) rfl ?_;refine ac rfl (x_w (i := vs.length) rfl rfl rfl rfl rfl (by simp)) rfl ?_;refine Z6 ?_;refine Z5 ?_;refine Z3 ?_;refine eQ Z9 ?_;clear Z9;refine ap rfl (fun h => ?_) (fun h => ?_)
  ·refine aj ?_;show AWP _ _ _ _ _ _
   have hx : x = 0 := by simpa using h
   subst hx
   refine ar ?_;refine gR fun _ Z9=>?_;refine Z8 ?_;refine Z8 ?_;refine ay rfl (aP rfl rfl (List.length_append)) rfl ?_;refine am rfl (bE (c := (vs.length : Int)) (by simp) (by omega)) rfl ?_;refine mC rfl rfl rfl (Dj (lo := 0) (hi := vs.length) rfl rfl rfl rfl rfl rfl (by omega) (by simp)) rfl ?_;refine Z7 ?_;refine eQ Z9 ?_;clear Z9;exact ⟨vs, by simp, ⟨by omega, by rw [<- hus, im]⟩, Wk.mk' ⟨by show V1 _ = _; simp, trivial⟩ trivial⟩
  ·have hx : x ≠ 0 := by simpa using h
   refine az ?_;show AWP _ _ _ _ _ _;refine gQ fun _ Z9=>?_;refine Z8 ?_;refine Z7 ?_;refine eQ Z9 ?_;clear Z9;exact ai (bf (h3 := by rw [<- hus, jh _ hx]; rfl))
 ·have hu : us = [] := by simpa using hb
  subst hu
  refine Z8 ?_;refine ag rfl ?_;refine ag rfl ?_;refine ag rfl ?_;refine ag rfl ?_;refine ag rfl ?_;refine ag rfl ?_;refine ag rfl ?_;refine Z3 ?_;refine eQ Z9 ?_;clear Z9;refine ap rfl (fun h => by cases h) (fun _ => ?_);refine az ?_;show AWP _ _ _ _ _ _;refine gQ fun _ Z9=>?_;refine Z8 ?_;refine Z7 ?_;refine eQ Z9 ?_;clear Z9;exact ai (bf (h3 := by rw [<- hus]; rfl))

def IC (neg : Bool) (ws : List Nat) : List SC := [.d (.lit (.bool neg)), .d (dW ws)]
def zv (neg : Bool) (ws : List Nat) : Int := if neg then -(wv ws : Int) else wv ws
def ZC (z : Int) : List SC := IC (decide (z < 0)) (wof z.natAbs)
abbrev AG (cs : List SC) : SV := .val (.agg cs)

theorem bm (neg : Bool) (ws : List Nat) : (zv neg ws).natAbs = wv ws := by unfold zv; split <;> omega
theorem C6 (neg : Bool) (ws : List Nat) : decide (zv neg ws < 0) = (neg && decide (wv ws ≠ 0)) := by
 unfold zv
 cases neg with
 | true =>
  by_cases h : wv ws = 0
  ·simp [h]
  ·have : -(wv ws : Int) < 0 := by omega
   simp [h]; omega
 | false => simp
theorem xk {neg : Bool} {ws : List Nat} (hw : wOK ws) : ZC (zv neg ws) = IC (neg && decide (wv ws ≠ 0)) (dC ws) := by
 unfold ZC
 rw [C6, bm, gC hw]
theorem aZ (z : Int) : zv (decide (z < 0)) (wof z.natAbs) = z := by
 unfold zv
 rw [aF]
 by_cases h : z < 0
 ·simp only [h, decide_true, if_true]; omega
 ·simp only [h, decide_false]; simp; omega

theorem DP (neg : Bool) (ws : List Nat) (hw : wOK ws) (hl : ws.length <= 1073741824) : Con Tryz.prog 121 [dB neg, V1 (dW ws)] { v := AG (ZC (zv neg ws)) } := by
 refine Z2 Tryz.func121 ?_
 intro w0 X
 rw [aq _ _ [(0, dB neg), (1, V1 (dW ws))] rfl rfl];rw [xk hw];refine gQ fun _ Z9=>?_;refine av rfl rfl rfl rfl rfl rfl ?_;refine eQ Z9 ?_;clear Z9;refine gQ fun _ Z9=>?_;refine Z8 ?_;refine ab rfl rfl (yS ws hl) rfl rfl rfl rfl ?_;refine Z7 ?_;refine eQ Z9 ?_;clear Z9
 have hv := pU ws
 have ht := nE ws
 generalize dC ws = us at *;refine ah ?_;refine gQ fun _ Z9=>?_;refine Z8 ?_;refine ay rfl (aP rfl rfl rfl) rfl ?_;refine Z5 ?_;refine eQ Z9 ?_;clear Z9;refine ap rfl (fun hb => ?_) (fun hb => ?_)
 ·have hu : us = [] := by simpa using hb
  subst hu
  refine gQ fun _ Z9=>?_;refine aG rfl rfl rfl ?_;refine ak rfl rfl rfl rfl rfl ?_;refine eQ Z9 ?_;clear Z9;exact ai (bf (h3 := by rw [<- hv]; simp [wv]; rfl))
 ·have hu : us ≠ [] := by simpa using hb
  refine aj ?_;show AWP _ _ _ _ _ _;refine gQ fun _ Z9=>?_;refine Z8 ?_;refine Z8 ?_;refine aG rfl rfl rfl ?_;refine ak rfl rfl rfl rfl rfl ?_;refine eQ Z9 ?_;clear Z9
  have h0 : wv ws ≠ 0 := by
   have h1 := ms ht hu
   have h2 := pow_pos (us.length - 1)
   omega
  exact ai (bf (h3 := by simp [h0]; rfl))
end Go.Proofs.YtnoildlijhapaaaGreatDoor

/- Sums, differences, quotients and lengths of words, as package math/bits computes them. No condition. -/
namespace Go.Proofs.YtnoildlijhapaaaGreatDoor
attribute [local irreducible] aC

theorem xH (x y c : Nat) (hx : x < 4294967296) (hy : y < 4294967296) (hc : c <= 1) : Con Tryz.prog 160 [dU x, dU y, dU c] { v := .tup [.one (.d (.lit (.int .u32 (((x + y + c) % 4294967296 : Nat) : Int)))), .one (.d (.lit (.int .u32 (((x + y + c) / 4294967296 : Nat) : Int))))] } := by
 refine Z2 Tryz.func160 ?_
 intro w0 X
 rw [aq _ _ [(0, dU x), (1, dU y), (2, dU c)] rfl rfl];refine gQ fun _ Z9=>?_;refine Z7 ?_;refine Z7 ?_;refine eQ Z9 ?_;clear Z9;refine gQ fun _ Z9=>?_;refine Z8 ?_;refine aQ rfl (aR rfl rfl rfl (cv (by omega))) rfl ?_;refine Z8 ?_;refine aQ rfl (aR rfl rfl rfl (cv (by omega))) rfl ?_;refine am rfl (iI rfl (by omega)) rfl ?_;refine Z8 ?_;refine aQ rfl (aR rfl rfl rfl (cv (by omega))) rfl ?_;refine am rfl (iI rfl (by omega)) rfl ?_;refine Z7 ?_;refine eQ Z9 ?_;clear Z9;refine gQ fun _ Z9=>?_;refine Z8 ?_;refine aQ rfl (aR rfl rfl rfl (dZ _)) rfl ?_;refine Z7 ?_;refine eQ Z9 ?_;clear Z9;refine gQ fun _ Z9=>?_;refine Z8 ?_;refine am rfl (jD (s := 32) (by omega) rfl) rfl ?_;refine aQ rfl (aR rfl rfl rfl (dZ _)) rfl ?_;refine Z7 ?_;refine eQ Z9 ?_;clear Z9;refine ai ?_;refine ⟨_, _, rfl, rfl, ?_⟩
 have : (x + y + c) / 2 ^ 32 % 4294967296 = (x + y + c) / 4294967296 := by show _ % _ = _ / 4294967296; omega
 rw [this]; rfl

theorem CA (h l d : Nat) (hh : h < d) (hd : d < 4294967296) (hl : l < 4294967296) : Con Tryz.prog 162 [dU h, dU l, dU d] { v := .tup [.one (.d (.lit (.int .u32 (((h * 4294967296 + l) / d : Nat) : Int)))), .one (.d (.lit (.int .u32 (((h * 4294967296 + l) % d : Nat) : Int))))] } := by
 refine Z2 Tryz.func162 ?_
 intro w0 X
 rw [aq _ _ [(0, dU h), (1, dU l), (2, dU d)] rfl rfl]
 have hq : (h * 4294967296 + l) / d < 4294967296 := by
  rw [Nat.div_lt_iff_lt_mul (by omega)]
  have : h * 4294967296 + 4294967296 <= d * 4294967296 := by rw [<- Nat.succ_mul]; exact Nat.mul_le_mul_right _ hh
  rw [Nat.mul_comm 4294967296 d]; omega
 have hr : (h * 4294967296 + l) % d < d := Nat.mod_lt _ (by omega)
 refine gQ fun _ Z9=>?_;refine Z7 ?_;refine Z7 ?_;refine eQ Z9 ?_;clear Z9;refine ah ?_;refine gQ fun _ Z9=>?_;refine Z8 ?_;refine Z5 ?_;refine Z8 ?_;refine C0 (v' := dB true) (by show dB _ = _; congr; simp; omega) ?_;refine Z8 ?_;refine Z8 ?_;refine Z5 ?_;refine Z3 ?_;refine eQ Z9 ?_;clear Z9;refine ap rfl (fun hb => ?_) (fun hb => ?_)
 ·simp at hb; omega
 refine aj ?_;show AWP _ _ _ _ _ _;refine gQ fun _ Z9=>?_;refine Z8 ?_;refine aQ rfl (aR rfl rfl rfl (cv (by omega))) rfl ?_;refine am rfl (qN (s := 32) (z := h * 4294967296) (by omega) (by show h * 4294967296 % _ = h * 4294967296; omega)) rfl ?_;refine Z8 ?_;refine aQ rfl (aR rfl rfl rfl (cv (by omega))) rfl ?_;refine am rfl (xw (s := 32) (by show h * 4294967296 % 4294967296 = 0; omega) (by omega) (by omega) rfl) rfl ?_;refine Z7 ?_;refine eQ Z9 ?_;clear Z9;refine aA tok mixed (A := [[], [], [], [1], [0, 1, 2], [], [], [], [6], [5, 6, 7], [], []]) (an := [{}, {}, {}, {}, {}, {}, {}, {}, {}, {}, {}, {}]) rfl (by kernel_rfl) rfl fun _ Z9=>?_;refine Z8 ?_;refine Z8 ?_;refine aQ rfl (aR rfl rfl rfl (cv (by omega))) rfl ?_;refine am rfl (AF (by omega) (by omega) rfl) rfl ?_;refine aQ rfl (aR rfl rfl rfl (dZ _)) rfl ?_;refine Z8 ?_;refine Z8 ?_;refine aQ rfl (aR rfl rfl rfl (cv (by omega))) rfl ?_;refine am rfl (AD (by omega) rfl) rfl ?_;refine aQ rfl (aR rfl rfl rfl (dZ _)) rfl ?_;refine Z7 ?_;refine Z7 ?_;refine eQ Z9 ?_;clear Z9;refine ai ?_;refine ⟨_, _, rfl, rfl, ?_⟩;rw [Nat.mod_eq_of_lt hq, Nat.mod_eq_of_lt (show (h * 4294967296 + l) % d < 4294967296 by omega)]; rfl

section
variable {T : Tab} {t : TypeId}
theorem qn (a : BitVec 32) : BitVec.ofInt 32 (a.toNat : Int) = a := by
 apply BitVec.eq_of_toNat_eq
 simp only [BitVec.toNat_ofInt]
 have := a.isLt
 omega
theorem wB (a : BitVec 32) : IntKind.u32.wrap (a.toNat : Int) = (a.toNat : Int) := IntWalk.u32_in _ (by have := a.isLt; omega)
theorem AO (a b : BitVec 32) : aH T .and t (dU a.toNat) (dU b.toNat) = .set (dU (a &&& b).toNat) := by
 show a7 (.int .u32 (IntKind.u32.wrap ((BitVec.ofInt 32 (a.toNat : Int) &&& BitVec.ofInt 32 (b.toNat : Int)).toNat : Int))) = _
 rw [qn, qn, wB]; rfl
theorem EK (a b : BitVec 32) : aH T .or t (dU a.toNat) (dU b.toNat) = .set (dU (a ||| b).toNat) := by
 show a7 (.int .u32 (IntKind.u32.wrap ((BitVec.ofInt 32 (a.toNat : Int) ||| BitVec.ofInt 32 (b.toNat : Int)).toNat : Int))) = _
 rw [qn, qn, wB]; rfl
theorem D1 (a b : BitVec 32) : aH T .xor t (dU a.toNat) (dU b.toNat) = .set (dU (a ^^^ b).toNat) := by
 show a7 (.int .u32 (IntKind.u32.wrap ((BitVec.ofInt 32 (a.toNat : Int) ^^^ BitVec.ofInt 32 (b.toNat : Int)).toNat : Int))) = _
 rw [qn, qn, wB]; rfl
theorem AI (a : BitVec 32) : lD .xor (dU a.toNat) = .set (dU (~~~a).toNat) := by
 show a7 (.int .u32 (IntKind.u32.wrap ((BitVec.ofInt 32 4294967295 ^^^ BitVec.ofInt 32 (a.toNat : Int)).toNat : Int))) = _
 have h : BitVec.ofInt 32 4294967295 = BitVec.allOnes 32 := by decide
 rw [qn, wB, h, BitVec.allOnes_xor]; rfl
theorem v6 (a b : BitVec 32) : aH T .sub t (dU a.toNat) (dU b.toNat) = .set (dU (a - b).toNat) := by
 show a7 (.int .u32 (IntKind.u32.wrap ((a.toNat : Int) - b.toNat))) = _
 have : IntKind.u32.wrap ((a.toNat : Int) - b.toNat) = ((a - b).toNat : Int) := by
  rw [IntKind.wrap_u32, BitVec.toNat_sub]
  have := a.isLt
  have := b.isLt
  omega
 rw [this]; rfl
end

theorem uX (a b c : BitVec 32) (hc : c.toNat <= 1) : ((~~~a &&& b) ||| (~~~(a ^^^ b) &&& (a - b - c))).toNat / 2 ^ 31 = if a.toNat < b.toNat + c.toNat then 1 else 0 := by
 have key : ∀ v : BitVec 32, v.toNat / 2 ^ 31 = v.msb.toNat := by
  intro v
  rw [BitVec.msb_eq_decide]
  have := v.isLt
  by_cases h : 2 ^ (32 - 1) <= v.toNat
  ·simp only [h, decide_true, Bool.toNat_true]; omega
  ·simp only [h, decide_false, Bool.toNat_false]; omega
 rw [key, BitVec.msb_or, BitVec.msb_and, BitVec.msb_and, BitVec.msb_not, BitVec.msb_not, BitVec.msb_xor]
 have ha := a.isLt
 have hb := b.isLt
 have hcl := c.isLt
 have hd : (a - b - c).toNat = (a.toNat + 8589934592 - b.toNat - c.toNat) % 4294967296 := by
  rw [BitVec.toNat_sub, BitVec.toNat_sub]; omega
 have ma : a.msb = decide (2147483648 <= a.toNat) := BitVec.msb_eq_decide a
 have mb : b.msb = decide (2147483648 <= b.toNat) := BitVec.msb_eq_decide b
 have md : (a - b - c).msb = decide (2147483648 <= (a - b - c).toNat) := BitVec.msb_eq_decide _
 rw [ma, mb, md, hd]
 by_cases h1 : 2147483648 <= a.toNat <;> by_cases h2 : 2147483648 <= b.toNat <;> by_cases h3 : a.toNat < b.toNat + c.toNat <;>
  by_cases h4 : 2147483648 <= (a.toNat + 8589934592 - b.toNat - c.toNat) % 4294967296 <;> simp [h1, h2, h3, h4] <;> omega

theorem sn (x y c : Nat) (hx : x < 4294967296) (hy : y < 4294967296) (hc : c <= 1) : Con Tryz.prog 161 [dU x, dU y, dU c]
  { v := .tup [.one (.d (.lit (.int .u32 (((x + 8589934592 - y - c) % 4294967296 : Nat) : Int)))), .one (.d (.lit (.int .u32 ((if x < y + c then 1 else 0 : Nat) : Int))))] } := by
 obtain ⟨a, rfl⟩ : ∃ a : BitVec 32, a.toNat = x := ⟨BitVec.ofNat 32 x, by rw [BitVec.toNat_ofNat]; omega⟩
 obtain ⟨b, rfl⟩ : ∃ b : BitVec 32, b.toNat = y := ⟨BitVec.ofNat 32 y, by rw [BitVec.toNat_ofNat]; omega⟩
 obtain ⟨e, rfl⟩ : ∃ e : BitVec 32, e.toNat = c := ⟨BitVec.ofNat 32 c, by rw [BitVec.toNat_ofNat]; omega⟩
 refine Z2 Tryz.func161 ?_
 intro w0 X
 rw [aq _ _ [(0, dU a.toNat), (1, dU b.toNat), (2, dU e.toNat)] rfl rfl];refine gQ fun _ Z9=>?_;refine Z7 ?_;refine Z7 ?_;refine eQ Z9 ?_;clear Z9;refine gQ fun _ Z9=>?_;refine Z8 ?_;refine Z8 ?_;refine am rfl (v6 a b) rfl ?_;refine Z8 ?_;refine am rfl (v6 (a - b) e) rfl ?_;refine Z7 ?_;refine eQ Z9 ?_;clear Z9;refine gQ fun _ Z9=>?_;refine Z8 ?_;refine bd rfl (AI a) rfl ?_;refine Z8 ?_;refine am rfl (AO (~~~a) b) rfl ?_;refine Z8 ?_;refine Z8 ?_;refine am rfl (D1 a b) rfl ?_;refine bd rfl (AI (a ^^^ b)) rfl ?_;refine Z8 ?_;refine am rfl (AO (~~~(a ^^^ b)) (a - b - e)) rfl ?_;refine am rfl (EK (~~~a &&& b) (~~~(a ^^^ b) &&& (a - b - e))) rfl ?_;refine am rfl (kn (s := 31) (by omega) (uX a b e hc)) rfl ?_;refine Z7 ?_;refine eQ Z9 ?_;clear Z9;refine ai ?_;refine ⟨_, _, rfl, rfl, ?_⟩
 have : (a - b - e).toNat = (a.toNat + 8589934592 - b.toNat - e.toNat) % 4294967296 := by
  have ha := a.isLt
  have hb := b.isLt
  rw [BitVec.toNat_sub, BitVec.toNat_sub]; omega
 rw [<- this]; rfl
end Go.Proofs.YtnoildlijhapaaaGreatDoor

/- The number of bits of a word; magnitudes compared. No condition. -/
namespace Go.Proofs.YtnoildlijhapaaaGreatDoor
attribute [local irreducible] aC

def bl (n : Nat) : Nat := if n = 0 then 0 else n.log2 + 1
theorem uQ {x k : Nat} (h : 2 ^ k <= x) : k + bl (x / 2 ^ k) = bl x := by
 have h0 : 0 < 2 ^ k := Nat.two_pow_pos k
 have h1 : x / 2 ^ k ≠ 0 := by have := Nat.div_pos h h0; omega
 have h2 : x ≠ 0 := by omega
 unfold bl
 rw [if_neg h1, if_neg h2]
 have : x.log2 = (x / 2 ^ k).log2 + k := by
  rw [Nat.log2_eq_iff h2]
  have h3 := Nat.log2_self_le h1
  have h4 := @Nat.lt_log2_self (x / 2 ^ k)
  refine ⟨?_, ?_⟩
  ·rw [Nat.pow_add]; exact (Nat.le_div_iff_mul_le h0).1 h3
  ·rw [Nat.add_right_comm, Nat.pow_add]; exact (Nat.div_lt_iff_lt_mul h0).1 h4
 omega
theorem A7 {x k : Nat} (h : x < 2 ^ k) : bl x <= k := by
 unfold bl
 split
 ·omega
 ·rename_i h0; have := (Nat.log2_lt h0).2 h; omega
theorem yu {x : Nat} (h : x ≠ 0) : 2 ^ (bl x - 1) <= x /\ x < 2 ^ bl x /\ 1 <= bl x := by
 unfold bl
 rw [if_neg h];exact ⟨by simpa using Nat.log2_self_le h, Nat.lt_log2_self, by omega⟩

def EG (s : ByteArray) : Bool := (List.range 256).all fun b => match s[b]? with
 | some u => u.toNat == bl b
 | none => false
theorem Em {T : Tab} {t : TypeId} {ti : TI} {s : ByteArray} {b : Nat} (h1 : T t = some ti) (h2 : ti.und = .string) (hs : EG s = true) (hb : b < 256) :
  d7 T t (V1 (.lit (.string s))) (V1 (.lit (.int .u8 (b : Int)))) = .set (V1 (.lit (.int .u8 (bl b : Int)))) := by
 have := List.all_eq_true.1 hs b (List.mem_range.2 hb)
 simp only [d7, h1, b6, ce, h2];rw [if_pos (Int.natCast_nonneg _)];simp only [Int.toNat_natCast]
 cases hg : s[b]? with
 | none => rw [hg] at this; cases this
 | some u => rw [hg] at this; simp only [beq_iff_eq] at this; simp only [this, a7]

set_option maxRecDepth 20000 in
theorem Ce (x : Nat) (hx : x < 4294967296) : Con Tryz.prog 197 [dU x] { v := dI (bl x) } := by
 refine Z2 Tryz.func197 ?_
 intro w0 X
 rw [aq _ _ [(0, dU x)] rfl rfl];refine gQ fun _ Z9=>?_;refine Z7 ?_;refine eQ Z9 ?_;clear Z9;refine aO (α := Nat × Nat) (fun p => mk 19 [(0, dU p.1), (2, dI p.2)] [] []) (fun p => p.1 < 65536 /\ p.2 <= 16 /\ p.2 + bl p.1 = bl x) ?_ ?_
 ·refine gQ fun _ Z9=>?_;refine Z8 ?_;refine Z5 ?_;refine eQ Z9 ?_;clear Z9;refine ap rfl (fun hb => ?_) (fun hb => ?_)
  ·have hb : 65536 <= x := by simp at hb; omega
   refine gQ fun _ Z9=>?_;refine Z8 ?_;refine am rfl (kn (s := 16) (by omega) rfl) rfl ?_;refine Z7 ?_;refine eQ Z9 ?_;clear Z9;refine gR fun _ Z9=>?_;refine Z7 ?_;refine eQ Z9 ?_;clear Z9;exact ⟨(x / 2 ^ 16, 16), ⟨by simp only; omega, by simp, uQ hb⟩, Wk.mk' ⟨rfl, rfl, trivial⟩ trivial⟩
  ·have hb : x < 65536 := by simp at hb; omega
   refine aj ?_;exact ⟨(x, 0), ⟨hb, by simp, by simp⟩, Wk.mk' ⟨rfl, rfl, trivial⟩ trivial⟩
 rintro ⟨y, n⟩ ⟨hy, hn, hbl⟩
 simp only at hy hn hbl
 refine aO (α := Nat × Nat) (fun p => mk 19 [(0, dU p.1), (2, dI p.2)] [] []) (fun p => p.1 < 256 /\ p.2 <= 24 /\ p.2 + bl p.1 = bl x) ?_ ?_
 ·refine gQ fun _ Z9=>?_;refine Z8 ?_;refine Z5 ?_;refine eQ Z9 ?_;clear Z9;refine ap rfl (fun hb => ?_) (fun hb => ?_)
  ·have hb : 256 <= y := by simp at hb; omega
   refine gQ fun _ Z9=>?_;refine Z8 ?_;refine am rfl (kn (s := 8) (by omega) rfl) rfl ?_;refine Z7 ?_;refine eQ Z9 ?_;clear Z9;refine gR fun _ Z9=>?_;refine Z8 ?_;refine am rfl (aJ (c := ((n + 8 : Nat) : Int)) (by omega) (by omega)) rfl ?_;refine Z7 ?_;refine eQ Z9 ?_;clear Z9
   have := uQ (k := 8) (x := y) hb
   exact ⟨(y / 2 ^ 8, n + 8), ⟨by simp only; omega, by simp only; omega, by simp only; omega⟩, Wk.mk' ⟨rfl, rfl, trivial⟩ trivial⟩
  ·have hb : y < 256 := by simp at hb; omega
   refine aj ?_;exact ⟨(y, n), ⟨hb, by simp only; omega, by simp only; omega⟩, Wk.mk' ⟨rfl, rfl, trivial⟩ trivial⟩
 rintro ⟨y, n⟩ ⟨hy, hn, hbl⟩
 simp only at hy hn hbl
 have h8 := A7 (k := 8) (x := y) (by omega)
 refine gQ fun _ Z9=>?_;refine Z8 ?_;refine Z8 ?_;refine aQ rfl (aR (m := (y : Int)) rfl rfl rfl (by rw [IntKind.wrap_u8]; omega)) rfl ?_;refine mD rfl (Em rfl rfl (by kernel_rfl) hy) rfl ?_;refine aQ rfl (aR (m := (bl y : Int)) rfl rfl rfl (IntWalk.i64_in _ (by omega))) rfl ?_;refine am rfl (aJ (c := ((bl x : Nat) : Int)) (by omega) (by omega)) rfl ?_;refine Z7 ?_;refine eQ Z9 ?_;clear Z9;exact ai aE

theorem DQ (x : Nat) (hx : x < 4294967296) : Con Tryz.prog 179 [dU x] { v := dI (32 - (bl x : Int)) } := by
 refine Z2 Tryz.func179 ?_
 intro w0 X
 rw [aq _ _ [(0, dU x)] rfl rfl]
 have h8 := A7 (k := 32) (x := x) (by omega)
 refine gQ fun _ Z9=>?_;refine Z7 ?_;refine eQ Z9 ?_;clear Z9;refine gQ fun _ Z9=>?_;refine Z8 ?_;refine ab rfl rfl (Ce x hx) rfl rfl rfl rfl ?_;refine am rfl (bE rfl (by omega)) rfl ?_;refine Z7 ?_;refine eQ Z9 ?_;clear Z9;exact ai aE
end Go.Proofs.YtnoildlijhapaaaGreatDoor

/- Magnitudes compared. No condition. -/
namespace Go.Proofs.YtnoildlijhapaaaGreatDoor
attribute [local irreducible] aC

def gX (m n : Nat) : Int := if m < n then -1 else if n < m then 1 else 0
theorem tI (a : List Nat) (k : Nat) (h : k <= a.length) : wv a = wv (a.take k) + 4294967296 ^ k * wv (a.drop k) := by
 have := ew (a.take k) (a.drop k)
 rw [List.take_append_drop, List.length_take, Nat.min_eq_left h] at this;exact this
theorem pg {a b : List Nat} (ha : wOK a) (hl : a.length = b.length) {k : Nat} (hk : k < a.length) (hd : a.drop (k + 1) = b.drop (k + 1)) (hlt : a[k] < b[k]'(by omega)) : wv a < wv b := by
 rw [tI a (k + 1) (by omega), tI b (k + 1) (by omega), hd, jg hk, jg (by omega)]
 have h1 := dR (ha.take k)
 rw [List.length_take, Nat.min_eq_left (by omega)] at h1
 have h2 : (a[k] + 1) * 4294967296 ^ k <= b[k] * 4294967296 ^ k := Nat.mul_le_mul_right _ hlt
 rw [Nat.add_mul, Nat.one_mul] at h2
 omega
theorem iL {a b : List Nat} (ha : wOK a) (tb : jZ b) (h : a.length < b.length) : wv a < wv b := by
 have h1 := dR ha
 have h2 := ms tb (by intro h'; simp [h'] at h)
 have : 4294967296 ^ a.length <= 4294967296 ^ (b.length - 1) := Nat.pow_le_pow_right (by decide) (by omega)
 omega

theorem nZ (a b : List Nat) (ha : wOK a) (hb : wOK b) (ta : jZ a) (tb : jZ b) (la : a.length <= 1073741824) (lb : b.length <= 1073741824) :
  Con Tryz.prog 122 [V1 (dW a), V1 (dW b)] { v := dI (gX (wv a) (wv b)) } := by
 refine Z2 Tryz.func122 ?_
 intro w0 X
 rw [aq _ _ [(0, V1 (dW a)), (1, V1 (dW b))] rfl rfl];refine gQ fun _ Z9=>?_;refine Z7 ?_;refine eQ Z9 ?_;clear Z9;refine ah ?_;refine gQ fun _ Z9=>?_;refine Z8 ?_;refine ay rfl (aP rfl rfl rfl) rfl ?_;refine Z8 ?_;refine ay rfl (aP rfl rfl rfl) rfl ?_;refine Z5 ?_;refine eQ Z9 ?_;clear Z9;refine ap rfl (fun hc => ?_) (fun hc => ?_)
 ·have hc : a.length ≠ b.length := by simp at hc; omega
  refine ah ?_;refine gQ fun _ Z9=>?_;refine Z8 ?_;refine ay rfl (aP rfl rfl rfl) rfl ?_;refine Z8 ?_;refine ay rfl (aP rfl rfl rfl) rfl ?_;refine Z5 ?_;refine eQ Z9 ?_;clear Z9;refine ap rfl (fun hd => ?_) (fun hd => ?_)
  ·have hd : a.length < b.length := by simp at hd; omega
   refine gQ fun _ Z9=>?_;refine Z7 ?_;refine eQ Z9 ?_;clear Z9;exact ai (bf (h3 := by have := iL ha tb hd; unfold gX; rw [if_pos this]; rfl))
  ·have hd : b.length < a.length := by simp at hd; omega
   refine aj ?_;show AWP _ _ _ _ _ _;refine gQ fun _ Z9=>?_;refine Z7 ?_;refine eQ Z9 ?_;clear Z9;exact ai (bf (h3 := by have := iL hb ta hd; unfold gX; rw [if_neg (by omega), if_pos this]; rfl))
 have hc : a.length = b.length := by simp at hc; omega
 refine aj ?_;show AWP _ _ _ _ _ _;refine ah ?_;refine gQ fun _ Z9=>?_;refine Z8 ?_;refine ay rfl (aP rfl rfl rfl) rfl ?_;refine am rfl (bE rfl (by omega)) rfl ?_;refine Z7 ?_;refine eQ Z9 ?_;clear Z9;refine ar (aN (α := Nat) (fun k => mk 41 [(0, V1 (dW a)), (1, V1 (dW b)), (5, dI ((k : Int) - 1))] [] []) (fun k => k <= a.length /\ a.drop k = b.drop k) (fun k => k) a.length ?_ ⟨Nat.le_refl _, by simp [hc]⟩ ?_)
 ·exact Wk.mk' ⟨rfl, rfl, rfl, trivial⟩ trivial
 rintro k ⟨hk, hdr⟩
 refine ah ?_;refine gQ fun _ Z9=>?_;refine Z8 ?_;refine Z5 ?_;refine eQ Z9 ?_;clear Z9;refine ap rfl (fun hg => ?_) (fun hg => ?_)
 ·obtain ⟨j, rfl⟩ : ∃ j, k = j + 1 := ⟨k - 1, by simp at hg; omega⟩
  refine aj ?_;show AWP _ _ _ _ _ _;refine ah (ar ?_)
  have hjb : j < b.length := by omega
  refine aA tok mixed (A := [[], [], [], [0, 1], [], [], [], [4, 5], [0, 1, 2, 4, 5, 6]]) (an := [{}, {}, {}, {}, {}, {}, {}, {}, {}]) rfl (by kernel_rfl) rfl fun _ Z9=>?_;refine Z8 ?_;refine Z8 ?_;refine ac rfl (x_w (i := j) rfl rfl rfl rfl (by simp) (by omega)) rfl ?_;refine Z6 ?_;refine Z8 ?_;refine Z8 ?_;refine ac rfl (x_w (i := j) rfl rfl rfl rfl (by simp) (by omega)) rfl ?_;refine Z6 ?_;refine Z5 ?_;refine eQ Z9 ?_;clear Z9;refine ap rfl (fun hn => ?_) (fun hn => ?_)
  ·have hn : a[j] ≠ b[j] := by simp at hn; omega
   refine ah ?_;refine ET [(0, V1 (dW a)), (1, V1 (dW b)), (5, dI (((j + 1 : Nat) : Int) - 1))] ⟨rfl, rfl, rfl, trivial⟩ ?_;refine aA tok mixed (A := [[], [], [], [0, 1], [], [], [], [4, 5], [0, 1, 2, 4, 5, 6]]) (an := [{}, {}, {}, {}, {}, {}, {}, {}, {}]) rfl (by kernel_rfl) rfl fun _ Z9=>?_;refine Z8 ?_;refine Z8 ?_;refine ac rfl (x_w (i := j) rfl rfl rfl rfl (by simp) (by omega)) rfl ?_;refine Z6 ?_;refine Z8 ?_;refine Z8 ?_;refine ac rfl (x_w (i := j) rfl rfl rfl rfl (by simp) (by omega)) rfl ?_;refine Z6 ?_;refine Z5 ?_;refine eQ Z9 ?_;clear Z9;refine ap rfl (fun hl => ?_) (fun hl => ?_)
   ·have hl : a[j] < b[j] := by simp at hl; omega
    refine gQ fun _ Z9=>?_;refine Z7 ?_;refine eQ Z9 ?_;clear Z9;exact ai (bf (h3 := by have := pg ha hc (by omega) hdr hl; unfold gX; rw [if_pos this]; rfl))
   ·have hl : b[j] < a[j] := by simp at hl; omega
    refine aj ?_;show AWP _ _ _ _ _ _;refine gQ fun _ Z9=>?_;refine Z7 ?_;refine eQ Z9 ?_;clear Z9;exact ai (bf (h3 := by have := pg hb hc.symm (by omega) hdr.symm hl; unfold gX; rw [if_neg (by omega), if_pos this]; rfl))
  ·have hn : a[j] = b[j] := by simp at hn; omega
   refine aj ?_;show AWP _ _ _ _ _ _;refine gR fun _ Z9=>?_;refine Z8 ?_;refine am rfl (bE (c := (j : Int) - 1) (by omega) (by omega)) rfl ?_;refine Z7 ?_;refine eQ Z9 ?_;clear Z9;exact ⟨j, by omega, ⟨by omega, by rw [List.drop_eq_getElem_cons (by omega), List.drop_eq_getElem_cons hjb, hn, hdr]⟩, Wk.mk' ⟨rfl, rfl, rfl, trivial⟩ trivial⟩
 ·have hk0 : k = 0 := by simp at hg; omega
  subst hk0
  refine az ?_;show AWP _ _ _ _ _ _;refine gQ fun _ Z9=>?_;refine Z7 ?_;refine eQ Z9 ?_;clear Z9
  have : a = b := by simpa using hdr
  exact ai (bf (h3 := by subst this; unfold gX; rw [if_neg (by omega), if_neg (by omega)]; rfl))
end Go.Proofs.YtnoildlijhapaaaGreatDoor

/- Magnitudes added and subtracted. No condition. -/
namespace Go.Proofs.YtnoildlijhapaaaGreatDoor
attribute [local irreducible] aC

def b9 (x y : List Nat) (i : Nat) : Nat := wv (x.take i) + wv (y.take i)
theorem kE (x y : List Nat) (i : Nat) : b9 x y (i + 1) = b9 x y i + (x.getD i 0 + y.getD i 0) * 4294967296 ^ i := by
 unfold b9; rw [bP, bP, Nat.add_mul]; omega
theorem pW {x y : List Nat} (hx : wOK x) (hy : wOK y) (i : Nat) : b9 x y i / 4294967296 ^ i <= 1 := by
 unfold b9
 have h1 := dR (hx.take i)
 have h2 := dR (hy.take i)
 have h3 : 4294967296 ^ (x.take i).length <= 4294967296 ^ i := Nat.pow_le_pow_right (by decide) (by simp; omega)
 have h4 : 4294967296 ^ (y.take i).length <= 4294967296 ^ i := Nat.pow_le_pow_right (by decide) (by simp; omega)
 have : (wv (x.take i) + wv (y.take i)) / 4294967296 ^ i < 2 := by
  rw [Nat.div_lt_iff_lt_mul (pow_pos i)]; omega
 omega
theorem nG (x y : List Nat) (i : Nat) : b9 x y (i + 1) / 4294967296 ^ i = x.getD i 0 + y.getD i 0 + b9 x y i / 4294967296 ^ i := by
 rw [kE, Nat.add_mul_div_right _ _ (pow_pos i)]; omega

theorem DH (a b : List Nat) (ha : wOK a) (hb : wOK b) (la : a.length <= 1073741824) (lb : b.length <= 1073741824) :
  Con Tryz.prog 134 [V1 (dW a), V1 (dW b)] { v := V1 (dW (aW (max a.length b.length + 1) (wv a + wv b))) } := by
 refine Z2 Tryz.func134 ?_
 intro w0 X
 rw [aq _ _ [(0, V1 (dW a)), (1, V1 (dW b))] rfl rfl];refine gQ fun _ Z9=>?_;refine Z7 ?_;refine eQ Z9 ?_;clear Z9;refine aO (α := List Nat × List Nat) (fun p => mk 53 [(0, V1 (dW p.1)), (1, V1 (dW p.2))] [] []) (fun p => wOK p.1 /\ wOK p.2 /\ p.2.length <= p.1.length /\ p.1.length = max a.length b.length /\ wv p.1 + wv p.2 = wv a + wv b) ?_ ?_
 ·refine gQ fun _ Z9=>?_;refine Z8 ?_;refine ay rfl (aP rfl rfl rfl) rfl ?_;refine Z8 ?_;refine ay rfl (aP rfl rfl rfl) rfl ?_;refine Z5 ?_;refine eQ Z9 ?_;clear Z9;refine ap rfl (fun hc => ?_) (fun hc => ?_)
  ·have hc : a.length < b.length := by simp at hc; omega
   refine gR fun _ Z9=>?_;refine Z8 ?_;refine Z8 ?_;refine Z7 ?_;refine Z7 ?_;refine eQ Z9 ?_;clear Z9;exact ⟨(b, a), ⟨hb, ha, by simp only; omega, by simp only; omega, by simp only; omega⟩, Wk.mk' ⟨rfl, rfl, trivial⟩ trivial⟩
  ·have hc : b.length <= a.length := by simp at hc; omega
   refine aj ?_;exact ⟨(a, b), ⟨ha, hb, by simp only; omega, by simp only; omega, rfl⟩, Wk.mk' ⟨rfl, rfl, trivial⟩ trivial⟩
 rintro ⟨x, y⟩ ⟨hx, hy, hl, hm, hs⟩
 simp only at hx hy hl hm hs
 rw [<- hm, <- hs]
 have lx : x.length <= 1073741824 := by omega
 show AWP _ _ _ _ _ (mk 53 [(0, V1 (dW x)), (1, V1 (dW y))] [] []);refine gQ fun _ Z9=>?_;refine Z8 ?_;refine ay rfl (aP rfl rfl rfl) rfl ?_;refine am rfl (aJ (c := ((x.length + 1 : Nat) : Int)) (by omega) (by omega)) rfl ?_;refine bn (sz := _) (es := _) (f := _) (v := _) rfl (sW (l := 0) (c := x.length + 1) rfl rfl rfl rfl rfl (Nat.le_of_ble_eq_true rfl) rfl rfl (by omega) (by omega)) rfl rfl ?_;refine Z7 ?_;refine eQ Z9 ?_;clear Z9;refine gQ fun _ Z9=>?_;refine Z7 ?_;refine eQ Z9 ?_;clear Z9;refine ah ?_;refine gQ fun _ Z9=>?_;refine Z8 ?_;refine ay rfl (aP rfl rfl rfl) rfl ?_;refine Z8 ?_;refine eQ Z9 ?_;clear Z9
 refine ar (aN (α := Nat) (fun i => mk 53 [(22, V1 (dW x)), (23, dI x.length), (24, dI i), (1, V1 (dW y)), (6, dU (b9 x y i / 4294967296 ^ i)), (5, .val (.one (.own 21 1 0 i)))] [(21, some (.arr 1 ((aW i (b9 x y i)).map cW)))] [])
  (fun i => i <= x.length) (fun i => x.length - i) 0 ?_ (Nat.zero_le _) ?_)
 ·exact Wk.mk' ⟨rfl, rfl, rfl, rfl, by simp [b9, wv]; rfl, rfl, trivial⟩ ⟨rfl, trivial⟩
 intro i hi
 have hcar := pW hx hy i
 refine gQ fun _ Z9=>?_;refine Z5 ?_;refine eQ Z9 ?_;clear Z9;refine ah ?_;refine ap rfl (fun hg => ?_) (fun hg => ?_)
 ·have hg : i < x.length := by simp at hg; omega
  refine aj ?_;show AWP _ _ _ _ _ _;refine ah (ar ?_);refine gQ fun _ Z9=>?_;refine Z8 ?_;refine ac rfl (x_w (i := i) rfl rfl rfl rfl rfl hg) rfl ?_;refine Z6 ?_;refine Z7 ?_;refine Z7 ?_;refine eQ Z9 ?_;clear Z9;refine gQ fun _ Z9=>?_;refine Z7 ?_;refine eQ Z9 ?_;clear Z9;refine aO (α := Unit) (fun _ => mk 53 [(22, V1 (dW x)), (23, dI x.length), (24, dI i), (1, V1 (dW y)), (6, dU (b9 x y i / 4294967296 ^ i)), (8, dU x[i]), (9, dU (y.getD i 0)), (5, .val (.one (.own 21 1 0 i)))] [(21, some (.arr 1 ((aW i (b9 x y i)).map cW)))] []) (fun _ => True) ?_ ?_
  ·refine gQ fun _ Z9=>?_;refine Z8 ?_;refine Z8 ?_;refine ay rfl (aP rfl rfl rfl) rfl ?_;refine Z5 ?_;refine eQ Z9 ?_;clear Z9;refine ap rfl (fun hc => ?_) (fun hc => ?_)
   ·have hc : i < y.length := by simp at hc; omega
    refine gR fun _ Z9=>?_;refine Z8 ?_;refine Z8 ?_;refine ac rfl (x_w (i := i) rfl rfl rfl rfl rfl hc) rfl ?_;refine Z6 ?_;refine Z7 ?_;refine eQ Z9 ?_;clear Z9;exact ⟨(), trivial, Wk.mk' ⟨rfl, rfl, rfl, rfl, rfl, rfl, by rw [dH hc]; rfl, rfl, trivial⟩ ⟨rfl, trivial⟩⟩
   ·have hc : y.length <= i := by simp at hc; omega
    refine aj ?_;exact ⟨(), trivial, Wk.mk' ⟨rfl, rfl, rfl, rfl, rfl, rfl, by rw [List.getD_eq_getElem?_getD, List.getElem?_eq_none hc]; rfl, rfl, trivial⟩ ⟨rfl, trivial⟩⟩
  rintro - -
  have e1 : x[i] + y.getD i 0 + b9 x y i / 4294967296 ^ i = b9 x y (i + 1) / 4294967296 ^ i := by rw [nG, dH hg]
  refine gQ fun _ Z9=>?_;refine Z7 ?_;refine eQ Z9 ?_;clear Z9;refine gQ fun _ Z9=>?_;refine Z8 ?_;refine Z8 ?_;refine Z8 ?_;refine ab rfl rfl (xH x[i] (y.getD i 0) (b9 x y i / 4294967296 ^ i) (hx.get hg) (aX hy i) hcar) rfl rfl rfl rfl ?_;refine Z8 ?_;refine au rfl rfl rfl ?_;refine au rfl rfl rfl ?_;refine Z7 ?_;refine Z7 ?_;refine eQ Z9 ?_;clear Z9;refine gR fun _ Z9=>?_;refine Z8 ?_;refine Z8 ?_;refine aI rfl rfl rfl rfl ?_;refine bK rfl (n9 rfl rfl rfl rfl rfl rfl (by decide) (Nat.le_of_ble_eq_true rfl) rfl (by simp) rfl rfl (by simp [aD]) (by simp; omega)) rfl rfl rfl ?_;refine Z7 ?_;refine eQ Z9 ?_;clear Z9;show AWP _ _ _ _ _ _;refine gR fun _ Z9=>?_;refine am rfl (aJ (c := ((i + 1 : Nat) : Int)) (by omega) (by omega)) rfl ?_;refine Z8 ?_;refine eQ Z9 ?_;clear Z9;refine ⟨i + 1, by omega, hg, Wk.rn [22, 23, 24, 1, 6, 5] [47] 47 21 rfl rfl rfl ⟨rfl, rfl, rfl, rfl, ?_, ?_, trivial⟩ ⟨?_, trivial⟩⟩
  ·show dU _ = dU _
   rw [e1, Nat.div_div_eq_div_mul, <- Nat.pow_succ]
  ·show SV.val (.one (.own 21 1 0 _)) = _
   simp [aD]
  ·show some (OO.arr 1 _) = _
   rw [g6, e1, kE, tM]
   simp [cW]
 ·have hg : i = x.length := by simp at hg; omega
  subst hg
  refine az ?_;show AWP _ _ _ _ _ _;refine gQ fun _ Z9=>?_;refine Z8 ?_;refine Z8 ?_;refine aI rfl rfl rfl rfl ?_;refine bK rfl (n9 rfl rfl rfl rfl rfl rfl (by decide) (Nat.le_of_ble_eq_true rfl) rfl (by simp) rfl rfl (by simp [aD]) (by simp; omega)) rfl rfl rfl ?_;refine Z7 ?_;refine eQ Z9 ?_;clear Z9;refine eL [4] [52] 52 [(4, V1 (dW (aW (x.length + 1) (wv x + wv y))))] [] rfl ?_ trivial ?_
  ·refine ⟨i6 ?_ (by simp [aD]), trivial⟩;rw [g6]
   have e1 : b9 x y x.length = wv x + wv y := by unfold b9; rw [List.take_of_length_le (Nat.le_refl _), List.take_of_length_le hl]
   have e2 : (wv x + wv y) / 4294967296 ^ x.length % 4294967296 = (wv x + wv y) / 4294967296 ^ x.length := Nat.mod_eq_of_lt (by rw [<- e1]; omega)
   rw [e1, e2]; simp [cW]
  exact ai aE

theorem xj (a b : List Nat) (ha : wOK a) (hb : wOK b) (la : a.length <= 1073741824) (hl : b.length <= a.length) (hle : wv b <= wv a) :
  Con Tryz.prog 135 [V1 (dW a), V1 (dW b)] { v := V1 (dW (aW a.length (wv a - wv b))) } := by
 refine Z2 Tryz.func135 ?_
 intro w0 X
 rw [aq _ _ [(0, V1 (dW a)), (1, V1 (dW b))] rfl rfl];refine gQ fun _ Z9=>?_;refine Z7 ?_;refine eQ Z9 ?_;clear Z9;refine gQ fun _ Z9=>?_;refine Z8 ?_;refine ay rfl (aP rfl rfl rfl) rfl ?_;refine bn (sz := _) (es := _) (f := _) (v := _) rfl (sW (l := 0) (c := a.length) rfl rfl rfl rfl rfl (Nat.le_of_ble_eq_true rfl) rfl rfl (by omega) (by omega)) rfl rfl ?_;refine Z7 ?_;refine eQ Z9 ?_;clear Z9;refine gQ fun _ Z9=>?_;refine Z7 ?_;refine eQ Z9 ?_;clear Z9;refine ah ?_;refine gQ fun _ Z9=>?_;refine Z8 ?_;refine ay rfl (aP rfl rfl rfl) rfl ?_;refine Z8 ?_;refine eQ Z9 ?_;clear Z9
 refine ar (aN (α := Nat) (fun i => mk 42 [(14, V1 (dW a)), (15, dI a.length), (16, dI i), (1, V1 (dW b)), (6, dU (1 - difN a b i / 4294967296 ^ i)), (5, .val (.one (.own 13 1 0 i)))] [(13, some (.arr 1 ((aW i (difN a b i)).map cW)))] [])
  (fun i => i <= a.length) (fun i => a.length - i) 0 ?_ (Nat.zero_le _) ?_)
 ·exact Wk.mk' ⟨rfl, rfl, rfl, rfl, by rw [rX]; rfl, rfl, trivial⟩ ⟨rfl, trivial⟩
 intro i hi
 have hcar := qQ (y := b) ha i
 refine gQ fun _ Z9=>?_;refine Z5 ?_;refine eQ Z9 ?_;clear Z9;refine ah ?_;refine ap rfl (fun hg => ?_) (fun hg => ?_)
 ·have hg : i < a.length := by simp at hg; omega
  refine aj ?_;show AWP _ _ _ _ _ _;refine ah (ar ?_);refine gQ fun _ Z9=>?_;refine Z8 ?_;refine ac rfl (x_w (i := i) rfl rfl rfl rfl rfl hg) rfl ?_;refine Z6 ?_;refine Z7 ?_;refine Z7 ?_;refine eQ Z9 ?_;clear Z9;refine gQ fun _ Z9=>?_;refine Z7 ?_;refine eQ Z9 ?_;clear Z9;refine aO (α := Unit) (fun _ => mk 42 [(14, V1 (dW a)), (15, dI a.length), (16, dI i), (1, V1 (dW b)), (6, dU (1 - difN a b i / 4294967296 ^ i)), (8, dU a[i]), (9, dU (b.getD i 0)), (5, .val (.one (.own 13 1 0 i)))] [(13, some (.arr 1 ((aW i (difN a b i)).map cW)))] []) (fun _ => True) ?_ ?_
  ·refine gQ fun _ Z9=>?_;refine Z8 ?_;refine Z8 ?_;refine ay rfl (aP rfl rfl rfl) rfl ?_;refine Z5 ?_;refine eQ Z9 ?_;clear Z9;refine ap rfl (fun hc => ?_) (fun hc => ?_)
   ·have hc : i < b.length := by simp at hc; omega
    refine gR fun _ Z9=>?_;refine Z8 ?_;refine Z8 ?_;refine ac rfl (x_w (i := i) rfl rfl rfl rfl rfl hc) rfl ?_;refine Z6 ?_;refine Z7 ?_;refine eQ Z9 ?_;clear Z9;exact ⟨(), trivial, Wk.mk' ⟨rfl, rfl, rfl, rfl, rfl, rfl, by rw [dH hc]; rfl, rfl, trivial⟩ ⟨rfl, trivial⟩⟩
   ·have hc : b.length <= i := by simp at hc; omega
    refine aj ?_;exact ⟨(), trivial, Wk.mk' ⟨rfl, rfl, rfl, rfl, rfl, rfl, by rw [List.getD_eq_getElem?_getD, List.getElem?_eq_none hc]; rfl, rfl, trivial⟩ ⟨rfl, trivial⟩⟩
  rintro - -
  have hst := rY a hb i
  have hxl := ha.get hg
  have hyl := aX hb i
  rw [dH hg] at hst
  have e1 : (a[i] + 8589934592 - b.getD i 0 - (1 - difN a b i / 4294967296 ^ i)) % 4294967296 = difN a b (i + 1) / 4294967296 ^ i % 4294967296 := by
   generalize difN a b i / 4294967296 ^ i = q at *;generalize difN a b (i + 1) / 4294967296 ^ i = q' at *
   omega
  have e2 : (if a[i] < b.getD i 0 + (1 - difN a b i / 4294967296 ^ i) then 1 else 0) = 1 - difN a b (i + 1) / 4294967296 ^ (i + 1) := by
   rw [Nat.pow_succ, <- Nat.div_div_eq_div_mul];generalize difN a b i / 4294967296 ^ i = q at *;generalize difN a b (i + 1) / 4294967296 ^ i = q' at *
   split <;> omega
  refine gQ fun _ Z9=>?_;refine Z7 ?_;refine eQ Z9 ?_;clear Z9;refine gQ fun _ Z9=>?_;refine Z8 ?_;refine Z8 ?_;refine Z8 ?_;refine ab rfl rfl (sn a[i] (b.getD i 0) (1 - difN a b i / 4294967296 ^ i) (ha.get hg) (aX hb i) (Nat.sub_le _ _)) rfl rfl rfl rfl ?_;refine Z8 ?_;refine au rfl rfl rfl ?_;refine au rfl rfl rfl ?_;refine Z7 ?_;refine Z7 ?_;refine eQ Z9 ?_;clear Z9;refine gR fun _ Z9=>?_;refine Z8 ?_;refine Z8 ?_;refine aI rfl rfl rfl rfl ?_;refine bK rfl (n9 rfl rfl rfl rfl rfl rfl (by decide) (Nat.le_of_ble_eq_true rfl) rfl (by simp) rfl rfl (by simp [aD]) (by simp; omega)) rfl rfl rfl ?_;refine Z7 ?_;refine eQ Z9 ?_;clear Z9;show AWP _ _ _ _ _ _;refine gR fun _ Z9=>?_;refine am rfl (aJ (c := ((i + 1 : Nat) : Int)) (by omega) (by omega)) rfl ?_;refine Z8 ?_;refine eQ Z9 ?_;clear Z9;refine ⟨i + 1, by omega, hg, Wk.rn [14, 15, 16, 1, 6, 5] [39] 39 13 rfl rfl rfl ⟨rfl, rfl, rfl, rfl, ?_, ?_, trivial⟩ ⟨?_, trivial⟩⟩
  ·show dU _ = dU _
   rw [e2]
  ·show SV.val (.one (.own 13 1 0 _)) = _
   simp [aD]
  ·show some (OO.arr 1 _) = _
   have e3 : aW i (difN a b (i + 1)) = aW i (difN a b i) := by
    refine mw ?_
    have := congrArg (· % 4294967296 ^ i) (nW a hb i)
    simp only [Nat.add_mul_mod_self_right, Nat.add_comm (_ * _)] at this;exact this
   rw [g6, e1, e3]
   simp [cW]
 ·have hg : i = a.length := by simp at hg; omega
  subst hg
  refine az ?_;show AWP _ _ _ _ _ _;refine gQ fun _ Z9=>?_;refine Z8 ?_;refine Z7 ?_;refine eQ Z9 ?_;clear Z9;refine eL [4] [13] 13 [(4, V1 (dW (aW a.length (wv a - wv b))))] [] rfl ?_ trivial ?_
  ·exact ⟨i6 (by rw [uK hl hle]) (by simp [aD]), trivial⟩
  exact ai aE
end Go.Proofs.YtnoildlijhapaaaGreatDoor

/- Magnitudes: products, division by a word, bits moved up. No condition. -/
namespace Go.Proofs.YtnoildlijhapaaaGreatDoor
attribute [local irreducible] aC

theorem Bz (a b : List Nat) (ha : wOK a) (hb : wOK b) (la : a.length <= 1073741824) (lb : b.length <= 1073741824) :
  Con Tryz.prog 124 [V1 (dW a), V1 (dW b)] { v := V1 (dW (aW (a.length + b.length) (wv a * wv b))) } := by
 refine Z2 Tryz.func124 ?_
 intro w0 X
 rw [aq _ _ [(0, V1 (dW a)), (1, V1 (dW b))] rfl rfl];refine gQ fun _ Z9=>?_;refine Z7 ?_;refine eQ Z9 ?_;clear Z9;refine gQ fun _ Z9=>?_;refine Z8 ?_;refine ay rfl (aP rfl rfl rfl) rfl ?_;refine Z8 ?_;refine ay rfl (aP rfl rfl rfl) rfl ?_;refine am rfl (aJ (c := ((a.length + b.length : Nat) : Int)) (by omega) (by omega)) rfl ?_;refine bn (sz := _) (es := _) (f := _) (v := _) rfl (sW (l := a.length + b.length) (c := a.length + b.length) rfl rfl rfl rfl rfl (Nat.le_of_ble_eq_true rfl) rfl rfl (by omega) (by omega)) rfl rfl ?_;refine Z7 ?_;refine eQ Z9 ?_;clear Z9;refine ah ?_;refine gQ fun _ Z9=>?_;refine Z8 ?_;refine ay rfl (aP rfl rfl rfl) rfl ?_;refine Z8 ?_;refine eQ Z9 ?_;clear Z9;refine ar (aN (α := Nat × List Nat) (fun p => mk 67 [(1, V1 (dW b)), (5, .val (.one (.own 17 1 0 (a.length + b.length)))), (18, V1 (dW a)), (19, dI a.length), (20, dI p.1)] [(17, some (.arr 1 (p.2.map cW)))] []) (fun p => p.1 <= a.length /\ WTI a b p.1 0 p.2 0) (fun p => a.length - p.1) (0, List.replicate (a.length + b.length) 0) ?_ ⟨Nat.zero_le _, WTI.start a b⟩ ?_)
 ·exact Wk.mk' ⟨rfl, rfl, rfl, rfl, rfl, trivial⟩ ⟨rfl, trivial⟩
 rintro ⟨i, out⟩ ⟨hi, hti⟩
 simp only at hi hti
 show AWP _ _ _ _ _ (mk 67 [(1, V1 (dW b)), (5, .val (.one (.own 17 1 0 (a.length + b.length)))), (18, V1 (dW a)), (19, dI a.length), (20, dI i)] [(17, some (.arr 1 (out.map cW)))] []);refine gQ fun _ Z9=>?_;refine Z5 ?_;refine eQ Z9 ?_;clear Z9;refine ah ?_;refine ap rfl (fun hg => ?_) (fun hg => ?_)
 ·have hg : i < a.length := by simp at hg; omega
  refine aj ?_;show AWP _ _ _ _ _ _;refine ah ?_;refine ar ?_;refine gQ fun _ Z9=>?_;refine Z8 ?_;refine ac rfl (gT (i := i) rfl rfl rfl rfl rfl hg) rfl ?_;refine Z6 ?_;refine Z7 ?_;refine Z7 ?_;refine eQ Z9 ?_;clear Z9;refine gQ fun _ Z9=>?_;refine Z7 ?_;refine eQ Z9 ?_;clear Z9;refine ah ?_;refine gQ fun _ Z9=>?_;refine Z8 ?_;refine ay rfl (aP rfl rfl rfl) rfl ?_;refine Z8 ?_;refine eQ Z9 ?_;clear Z9;refine ar (aN (α := Nat × List Nat × Nat) (fun p => mk 67 [(1, V1 (dW b)), (5, .val (.one (.own 17 1 0 (a.length + b.length)))), (6, dI i), (7, dU (a.getD i 0)), (8, dL p.2.2), (18, V1 (dW a)), (19, dI a.length), (20, dI i), (25, V1 (dW b)), (26, dI b.length), (27, dI p.1)] [(17, some (.arr 1 (p.2.1.map cW)))] []) (fun p => p.1 <= b.length /\ WTI a b i p.1 p.2.1 p.2.2) (fun p => b.length - p.1) (0, out, 0) ?_ ⟨Nat.zero_le _, hti⟩ ?_)
  ·exact Wk.mk' ⟨rfl, rfl, rfl, rfl, rfl, rfl, rfl, rfl, rfl, rfl, rfl, trivial⟩ ⟨rfl, trivial⟩
  rintro ⟨j, out, c⟩ ⟨hj, hti⟩
  simp only at hj hti
  show AWP _ _ _ _ _ (mk 67 [(1, V1 (dW b)), (5, .val (.one (.own 17 1 0 (a.length + b.length)))), (6, dI i), (7, dU (a.getD i 0)), (8, dL c), (18, V1 (dW a)), (19, dI a.length), (20, dI i), (25, V1 (dW b)), (26, dI b.length), (27, dI j)] [(17, some (.arr 1 (out.map cW)))] [])
  have hlen := hti.len
  refine gQ fun _ Z9=>?_;refine Z5 ?_;refine eQ Z9 ?_;clear Z9;refine ah ?_;refine ap rfl (fun hh => ?_) (fun hh => ?_)
  ·have hh : j < b.length := by simp at hh; omega
   have hB := hti.bound ha hb
   have hij : i + j < out.length := by omega
   have hm : a.getD i 0 * b.getD j 0 < 18446744073709551616 := by omega
   refine aj ?_;show AWP _ _ _ _ _ _;refine ah ?_;refine ar ?_;refine gQ fun _ Z9=>?_;refine Z8 ?_;refine ac rfl (gT (i := j) rfl rfl rfl rfl rfl hh) rfl ?_;refine Z6 ?_;refine Z7 ?_;refine Z7 ?_;refine eQ Z9 ?_;clear Z9;refine gQ fun _ Z9=>?_;refine Z8 ?_;refine aQ rfl (aR rfl rfl rfl (cv (ha.lt64 i))) rfl ?_;refine Z8 ?_;refine aQ rfl (aR rfl rfl rfl (cv (hb.lt64 j))) rfl ?_;refine am rfl (tl rfl hm) rfl ?_;refine Z8 ?_;refine Z8 ?_;refine Z8 ?_;refine am rfl (aJ (c := ((i + j : Nat) : Int)) (by omega) (by omega)) rfl ?_;refine ac rfl (x_o (i := i + j) (j := i + j) rfl rfl rfl rfl rfl (by omega) (by omega)) rfl ?_;refine bq rfl (lV rfl rfl rfl rfl hij) rfl ?_;refine aQ rfl (aR rfl rfl rfl (cv (hti.ok.lt64 _))) rfl ?_;refine am rfl (iI rfl (by omega)) rfl ?_;refine Z8 ?_;refine am rfl (iI rfl (by omega)) rfl ?_;refine Z7 ?_;refine eQ Z9 ?_;clear Z9;refine gQ fun _ Z9=>?_;refine Z8 ?_;refine Z8 ?_;refine Z8 ?_;refine am rfl (aJ (c := ((i + j : Nat) : Int)) (by omega) (by omega)) rfl ?_;refine Z8 ?_;refine aQ rfl (aR rfl rfl rfl (dZ _)) rfl ?_;refine ac rfl (x_o (i := i + j) (j := i + j) rfl rfl rfl rfl rfl (by omega) (by omega)) rfl ?_;refine ak rfl (lM rfl rfl rfl hij) rfl rfl rfl ?_;refine eQ Z9 ?_;clear Z9;refine gR fun _ Z9=>?_;refine Z8 ?_;refine am rfl (jD (s := 32) (by omega) rfl) rfl ?_;refine Z7 ?_;refine eQ Z9 ?_;clear Z9;show AWP _ _ _ _ _ _;refine gR fun _ Z9=>?_;refine am rfl (aJ (c := ((j + 1 : Nat) : Int)) (by omega) (by omega)) rfl ?_;refine Z8 ?_;refine eQ Z9 ?_;clear Z9;exact ⟨(j + 1, _, _), by simp only; omega, ⟨hh, hti.step hg hh hB⟩, Wk.mk' ⟨rfl, rfl, rfl, rfl, rfl, rfl, rfl, rfl, rfl, rfl, rfl, trivial⟩ ⟨rfl, trivial⟩⟩
  ·have hh : j = b.length := by simp at hh; omega
   subst hh
   have hij : i + b.length < out.length := by omega
   have hcl := hti.cl
   refine az ?_;show AWP _ _ _ _ _ _;refine gR fun _ Z9=>?_;refine Z8 ?_;refine Z8 ?_;refine Z8 ?_;refine ay rfl (aP rfl rfl rfl) rfl ?_;refine am rfl (aJ (c := ((i + b.length : Nat) : Int)) (by omega) (by omega)) rfl ?_;refine Z8 ?_;refine aQ rfl (aR (m := (c : Int)) rfl rfl rfl (by rw [dZ, Nat.mod_eq_of_lt hcl])) rfl ?_;refine ac rfl (x_o (i := i + b.length) (j := i + b.length) rfl rfl rfl rfl rfl (by omega) (by omega)) rfl ?_;refine ak rfl (lM rfl rfl rfl hij) rfl rfl rfl ?_;refine eQ Z9 ?_;clear Z9;show AWP _ _ _ _ _ _;refine gR fun _ Z9=>?_;refine am rfl (aJ (c := ((i + 1 : Nat) : Int)) (by omega) (by omega)) rfl ?_;refine Z8 ?_;refine eQ Z9 ?_;clear Z9;exact ⟨(i + 1, _), by simp only; omega, ⟨hg, hti.row hg⟩, Wk.mk' ⟨rfl, rfl, rfl, rfl, rfl, trivial⟩ ⟨rfl, trivial⟩⟩
 ·have hg : i = a.length := by simp at hg; omega
  subst hg
  refine az ?_;show AWP _ _ _ _ _ _;refine gQ fun _ Z9=>?_;refine Z8 ?_;refine Z7 ?_;refine eQ Z9 ?_;clear Z9;refine eL [4] [17] 17 [(4, V1 (dW (aW (a.length + b.length) (wv a * wv b))))] [] rfl ?_ trivial ?_
  ·exact ⟨i6 (by rw [hti.fin]) (by simp [aD]), trivial⟩
  exact ai aE

theorem pj (a : List Nat) (d : Nat) (ha : wOK a) (hd : 0 < d) (hdl : d < 4294967296) (la : a.length <= 1073741824) :
  Con Tryz.prog 136 [V1 (dW a), dU d] { v := .tup [.one (.d (dW (aW a.length (wv a / d)))), .one (.d (.lit (.int .u32 ((wv a % d : Nat) : Int))))] } := by
 refine Z2 Tryz.func136 ?_
 intro w0 X
 rw [aq _ _ [(0, V1 (dW a)), (1, dU d)] rfl rfl];refine gQ fun _ Z9=>?_;refine Z7 ?_;refine Z7 ?_;refine eQ Z9 ?_;clear Z9;refine gQ fun _ Z9=>?_;refine Z8 ?_;refine ay rfl (aP rfl rfl rfl) rfl ?_;refine bn (sz := _) (es := _) (f := _) (v := _) rfl (sW (l := a.length) (c := a.length) rfl rfl rfl rfl rfl (Nat.le_of_ble_eq_true rfl) rfl rfl (by omega) (by omega)) rfl rfl ?_;refine Z7 ?_;refine eQ Z9 ?_;clear Z9;refine gQ fun _ Z9=>?_;refine Z7 ?_;refine eQ Z9 ?_;clear Z9;refine ah ?_;refine gQ fun _ Z9=>?_;refine Z8 ?_;refine ay rfl (aP rfl rfl rfl) rfl ?_;refine am rfl (bE rfl (by omega)) rfl ?_;refine Z7 ?_;refine eQ Z9 ?_;clear Z9;refine ar (aN (α := Nat) (fun i => mk 34 [(0, V1 (dW a)), (1, dU d), (6, .val (.one (.own 11 1 0 a.length))), (7, dU (wv (a.drop i) % d)), (8, dI ((i : Int) - 1))] [(11, some (.arr 1 ((shq a d i).map cW)))] []) (fun i => i <= a.length) (fun i => i) a.length ?_ (Nat.le_refl _) ?_)
 ·exact Wk.mk' ⟨rfl, rfl, rfl, by simp [wv]; rfl, rfl, trivial⟩ ⟨by simp [shq, aW]; rfl, trivial⟩
 intro i hi
 refine ah ?_;refine gQ fun _ Z9=>?_;refine Z8 ?_;refine Z5 ?_;refine eQ Z9 ?_;clear Z9;refine ap rfl (fun hg => ?_) (fun hg => ?_)
 ·obtain ⟨j, rfl⟩ : ∃ j, i = j + 1 := ⟨i - 1, by simp at hg; omega⟩
  have hj : j < a.length := by omega
  have hs := sh_step a hd j
  refine aj ?_;show AWP _ _ _ _ _ _;refine ah ?_;refine ar ?_;refine cr [(0, V1 (dW a)), (1, dU d), (6, .val (.one (.own 11 1 0 a.length))), (7, dU (wv (a.drop (j + 1)) % d)), (8, dI j)] [(11, some (.arr 1 ((shq a d (j + 1)).map cW)))] ⟨rfl, rfl, rfl, rfl, by show dI _ = dI _; congr; omega, trivial⟩ ⟨rfl, trivial⟩ ?_;refine gR fun _ Z9=>?_;refine Z8 ?_;refine Z8 ?_;refine Z8 ?_;refine Z8 ?_;refine Z8 ?_;refine ac rfl (gT (i := j) rfl rfl rfl rfl rfl hj) rfl ?_;refine Z6 ?_;refine Z8 ?_;refine ab rfl rfl (CA (wv (a.drop (j + 1)) % d) (a.getD j 0) d (Nat.mod_lt _ hd) hdl (aX ha j)) rfl rfl rfl rfl ?_;refine Z8 ?_;refine au rfl rfl rfl ?_;refine au rfl rfl rfl ?_;refine ac rfl (x_o (i := j) (j := j) rfl rfl rfl rfl rfl hj (by omega)) rfl ?_;refine ak rfl (lM rfl rfl rfl (by rw [BG a d hi]; exact hj)) rfl rfl rfl ?_;refine Z7 ?_;refine eQ Z9 ?_;clear Z9;show AWP _ _ _ _ _ _;refine gR fun _ Z9=>?_;refine Z8 ?_;refine am rfl (bE rfl (by omega)) rfl ?_;refine Z7 ?_;refine eQ Z9 ?_;clear Z9;refine ⟨j, by omega, by omega, Wk.mk' ⟨rfl, rfl, rfl, ?_, rfl, trivial⟩ ⟨?_, trivial⟩⟩
  ·rw [hs.2]; rfl
  ·rw [<- y8 ha hd hj]; rfl
 ·have hg : i = 0 := by simp at hg; omega
  subst hg
  refine az ?_;show AWP _ _ _ _ _ _;refine gQ fun _ Z9=>?_;refine Z8 ?_;refine Z8 ?_;refine Z7 ?_;refine Z7 ?_;refine eQ Z9 ?_;clear Z9;refine eL [4, 5] [11] 11 [(4, V1 (dW (aW a.length (wv a / d)))), (5, dU (wv a % d))] [] rfl ?_ trivial ?_
  ·exact ⟨i6 (by simp [shq]) (by simp [aD]), rfl, trivial⟩
  exact ai aE

theorem p5 (a : List Nat) (n : Nat) (ha : wOK a) (hn : n <= 31) (la : a.length <= 1073741824) :
  Con Tryz.prog 180 [V1 (dW a), dL n] { v := .val (.one (.own 0 1 0 (a.length + 1))), ob := some (1, (aW (a.length + 1) (wv a * 2 ^ n)).map cW) } := by
 refine Z2 Tryz.func180 ?_
 intro w0 X
 rw [aq _ _ [(0, V1 (dW a)), (1, dL n)] rfl rfl];refine gQ fun _ Z9=>?_;refine Z7 ?_;refine eQ Z9 ?_;clear Z9;refine gQ fun _ Z9=>?_;refine Z8 ?_;refine ay rfl (aP rfl rfl rfl) rfl ?_;refine am rfl (aJ (c := ((a.length + 1 : Nat) : Int)) (by omega) (by omega)) rfl ?_;refine bn (sz := _) (es := _) (f := _) (v := _) rfl (sW (l := a.length + 1) (c := a.length + 1) rfl rfl rfl rfl rfl (Nat.le_of_ble_eq_true rfl) rfl rfl (by omega) (by omega)) rfl rfl ?_;refine Z7 ?_;refine eQ Z9 ?_;clear Z9;refine ah ?_;refine gQ fun _ Z9=>?_;refine Z8 ?_;refine ay rfl (aP rfl rfl rfl) rfl ?_;refine Z8 ?_;refine eQ Z9 ?_;clear Z9;refine ar (aN (α := Nat) (fun i => mk 41 [(1, dL n), (5, .val (.one (.own 12 1 0 (a.length + 1)))), (13, V1 (dW a)), (14, dI a.length), (15, dI i)] [(12, some (.arr 1 ((aW (a.length + 1) (wv (a.take i) * 2 ^ n)).map cW)))] []) (fun i => i <= a.length) (fun i => a.length - i) 0 ?_ (Nat.zero_le _) ?_)
 ·refine Wk.mk' ⟨rfl, rfl, rfl, rfl, rfl, trivial⟩ ⟨?_, trivial⟩
  have : List.replicate (a.length + 1) 0 = aW (a.length + 1) (wv (a.take 0) * 2 ^ n) := iM (wOK.rep0 _) (by simp) (by simp [kB, wv])
  rw [<- this]; rfl
 intro i hi
 refine gQ fun _ Z9=>?_;refine Z5 ?_;refine eQ Z9 ?_;clear Z9;refine ah ?_;refine ap rfl (fun hg => ?_) (fun hg => ?_)
 ·have hg : i < a.length := by simp at hg; omega
  have hl : (aW (a.length + 1) (wv (a.take i) * 2 ^ n)).length = a.length + 1 := aD _ _
  obtain ⟨hw1, hw2, hw3⟩ := tS ha hn hg
  obtain ⟨hs1, hs2⟩ := BH ha hn hg
  have hsm := (p6 ha n i).2
  have ht : a.getD i 0 * 2 ^ n < 18446744073709551616 := by
   have h1 := aX ha i
   have h2 : 2 ^ n <= 4294967296 := Nat.le_trans (Nat.pow_le_pow_right (by decide) hn) (by decide)
   have h3 : a.getD i 0 * 2 ^ n <= 4294967295 * 4294967296 := Nat.mul_le_mul (by omega) h2
   omega
  have hmod : a.getD i 0 * 2 ^ n % 4294967296 % 2 ^ n = 0 := by
   have : 4294967296 = 2 ^ n * 2 ^ (32 - n) := by rw [<- Nat.pow_add, show n + (32 - n) = 32 from by omega]
   rw [this, Nat.mul_comm (a.getD i 0), Nat.mul_mod_mul_left, Nat.mul_mod_right]
  refine aj ?_;show AWP _ _ _ _ _ _;refine ah ?_;refine ar ?_;refine gQ fun _ Z9=>?_;refine Z8 ?_;refine ac rfl (gT (i := i) rfl rfl rfl rfl rfl hg) rfl ?_;refine Z6 ?_;refine Z7 ?_;refine Z7 ?_;refine eQ Z9 ?_;clear Z9;refine gQ fun _ Z9=>?_;refine Z8 ?_;refine aQ rfl (aR rfl rfl rfl (cv (ha.lt64 i))) rfl ?_;refine Z8 ?_;refine am rfl (qN (s := n) (z := a.getD i 0 * 2 ^ n) (by omega) (Nat.mod_eq_of_lt ht)) rfl ?_;refine Z7 ?_;refine eQ Z9 ?_;clear Z9;refine gQ fun _ Z9=>?_;refine Z8 ?_;refine Z8 ?_;refine ac rfl (x_o (i := i) (j := i) rfl rfl rfl rfl rfl (by omega) (by omega)) rfl ?_;refine bq rfl ((lV rfl rfl rfl rfl (by omega)).trans (by rw [hw1])) rfl ?_;refine Z8 ?_;refine aQ rfl (aR rfl rfl rfl (dZ _)) rfl ?_;refine am rfl (D2 (s := n) hsm hmod hs2 rfl) rfl ?_;refine ac rfl (x_o (i := i) (j := i) rfl rfl rfl rfl rfl (by omega) (by omega)) rfl ?_;refine ak rfl (lM rfl rfl rfl (by omega)) rfl rfl rfl ?_;refine eQ Z9 ?_;clear Z9;refine gR fun _ Z9=>?_;refine Z8 ?_;refine Z8 ?_;refine am rfl (aJ (c := ((i + 1 : Nat) : Int)) (by omega) (by omega)) rfl ?_;refine Z8 ?_;refine am rfl (jD (s := 32) (by omega) rfl) rfl ?_;refine aQ rfl (aR (m := ((a.getD i 0 * 2 ^ n / 4294967296 : Nat) : Int)) rfl rfl rfl (by rw [dZ, Nat.mod_eq_of_lt (by omega)])) rfl ?_;refine ac rfl (x_o (i := i + 1) (j := i + 1) rfl rfl rfl rfl rfl (by omega) (by omega)) rfl ?_;refine ak rfl (lM rfl rfl rfl (by rw [List.length_set]; omega)) rfl rfl rfl ?_;refine eQ Z9 ?_;clear Z9;show AWP _ _ _ _ _ _;refine gR fun _ Z9=>?_;refine am rfl (aJ (c := ((i + 1 : Nat) : Int)) (by omega) (by omega)) rfl ?_;refine Z8 ?_;refine eQ Z9 ?_;clear Z9;refine ⟨i + 1, by omega, hg, Wk.mk' ⟨rfl, rfl, rfl, rfl, rfl, trivial⟩ ⟨?_, trivial⟩⟩;rw [<- hs1]; rfl
 ·have hg : i = a.length := by simp at hg; omega
  subst hg
  refine az ?_;show AWP _ _ _ _ _ _;refine gQ fun _ Z9=>?_;refine Z8 ?_;refine Z7 ?_;refine eQ Z9 ?_;clear Z9;refine ai ?_;refine zW (Ct (by rfl) ?_);rw [List.take_of_length_le (Nat.le_refl _)]; rfl
theorem xP (a : List Nat) (n : Nat) (ha : wOK a) (hn : n <= 31) (la : a.length <= 1073741824) :
  Con Tryz.prog 180 [V1 (dW a), dL n] { v := V1 (dW (aW (a.length + 1) (wv a * 2 ^ n))) } :=
 Con.data (by simp [aD]) (p5 a n ha hn la)
end Go.Proofs.YtnoildlijhapaaaGreatDoor

/- Magnitudes: copies, long division. No condition. -/
namespace Go.Proofs.YtnoildlijhapaaaGreatDoor
attribute [local irreducible] aC

theorem ip {m n : Nat} : gX m n < 0 ↔ m < n := by
 unfold gX
 by_cases h : m < n
 ·simp [h]
 ·rw [if_neg h]; split <;> omega
theorem jH (a : List Nat) (la : a.length <= 1073741824) : Con Tryz.prog 127 [V1 (dW a)] { v := V1 (dW a) } := by
 refine Z2 Tryz.func127 ?_
 intro w0 X
 rw [aq _ _ [(0, V1 (dW a))] rfl rfl];refine gQ fun _ Z9=>?_;refine Z7 ?_;refine eQ Z9 ?_;clear Z9;refine ah ?_;refine yA (es := a.map cW) tok rfl rfl rfl rfl rfl rfl rfl rfl rfl rfl fun b hb => ?_;rw [iA, iA];refine ap rfl (fun hc => ?_) (fun hc => ?_)
 ·have h0 : a = [] := by simpa using hb hc
  subst h0
  refine gQ fun _ Z9=>?_;refine Z7 ?_;refine eQ Z9 ?_;clear Z9;exact ai aE
 ·refine aj ?_;show AWP _ _ _ _ _ _;refine gQ fun _ Z9=>?_;refine aI rfl rfl rfl rfl ?_;refine Z8 ?_;refine bK rfl (n9 (es := []) rfl rfl rfl rfl rfl rfl (by decide) (Nat.le_of_ble_eq_true rfl) rfl tu rfl rfl rfl (by simp; omega)) rfl rfl rfl ?_;refine Z7 ?_;refine eQ Z9 ?_;clear Z9;refine eL [2] [7] 7 [(2, V1 (dW a))] [] rfl ?_ trivial ?_
  ·exact ⟨i6 (by simp) (by simp), trivial⟩
  exact ai aE

set_option maxHeartbeats 1000000 in
theorem AR (a b : List Nat) (ha : wOK a) (hb : wOK b) (ta : jZ a) (tb : jZ b) (hne : b ≠ []) (la : a.length <= 1073741824) (lb : b.length <= 1073741824) :
  Con Tryz.prog 157 [V1 (dW a), V1 (dW b)] { v := .tup [.one (.d (dW (pc a b))), .one (.d (dW (o9 a b)))] } := by
 have hb0 : 0 < wv b := Nat.lt_of_lt_of_le (pow_pos _) (ms tb hne)
 have hbl : 0 < b.length := List.length_pos_iff.2 hne
 refine Z2 Tryz.func157 ?_
 intro w0 X
 rw [aq _ _ [(0, V1 (dW a)), (1, V1 (dW b))] rfl rfl];refine gQ fun _ Z9=>?_;refine Z7 ?_;refine Z7 ?_;refine eQ Z9 ?_;clear Z9;refine ah ?_;refine gQ fun _ Z9=>?_;refine Z8 ?_;refine Z8 ?_;refine ab rfl rfl (nZ a b ha hb ta tb la lb) rfl rfl rfl rfl ?_;refine Z5 ?_;refine eQ Z9 ?_;clear Z9;refine ap rfl (fun hc => ?_) (fun hc => ?_)
 ·have hc : wv a < wv b := by
   exact ip.1 (of_decide_eq_true hc)
  refine gQ fun _ Z9=>?_;refine Z8 ?_;refine ab rfl rfl (jH a la) rfl rfl rfl rfl ?_;refine Z7 ?_;refine Z7 ?_;refine eQ Z9 ?_;clear Z9;exact ai (bf (h3 := by unfold pc o9; rw [if_pos hc, if_pos hc]; rfl))
 have hc : wv b <= wv a := by
  have := mt ip.2 (of_decide_eq_false hc)
  omega
 refine aj ?_;show AWP _ _ _ _ _ _;refine ah ?_;refine gQ fun _ Z9=>?_;refine Z8 ?_;refine ay rfl (aP rfl rfl rfl) rfl ?_;refine Z5 ?_;refine eQ Z9 ?_;clear Z9;refine ap rfl (fun h1 => ?_) (fun h1 => ?_)
 ·have h1 : b.length = 1 := by simp at h1; omega
  obtain ⟨d, rfl⟩ := List.length_eq_one_iff.1 h1
  have hd : wv [d] = d := by simp [wv]
  rw [hd] at hb0;refine gQ fun _ Z9=>?_;refine Z8 ?_;refine Z8 ?_;refine ac rfl (gT (i := 0) rfl rfl rfl rfl rfl (by simp)) rfl ?_;refine Z6 ?_;refine ab rfl rfl (pj a d ha hb0 (hb d (by simp)) la) rfl rfl rfl rfl ?_;refine Z8 ?_;refine au rfl rfl rfl ?_;refine au rfl rfl rfl ?_;refine Z7 ?_;refine Z7 ?_;refine eQ Z9 ?_;clear Z9;refine gQ fun _ Z9=>?_;refine Z8 ?_;refine Z8 ?_;refine aI rfl rfl rfl rfl ?_;refine Z7 ?_;refine Z7 ?_;refine eQ Z9 ?_;clear Z9
  have e1 : pc a [d] = aW a.length (wv a / d) := by unfold pc; rw [if_neg (by omega), if_pos h1, hd]
  have e2 : o9 a [d] = [wv a % d] := by unfold o9; rw [if_neg (by omega), if_pos h1, hd]
  exact ai (bf (h3 := by rw [e1, e2]; rfl))
 have h1 : 2 <= b.length := by simp at h1; omega
 have hla : b.length <= a.length := by
  rcases Nat.lt_or_ge a.length b.length with h' | h'
  ·have := iL ha tb h'; omega
  ·exact h'
 -- the shift
 obtain ⟨n, hn⟩ : ∃ n, n = 32 - bl (b.getD (b.length - 1) 0) := ⟨_, rfl⟩
 have htop0 : b.getD (b.length - 1) 0 ≠ 0 := by
  have := tb hne
  rw [List.getLast_eq_getElem] at this;rw [dH (by omega)]; exact this
 have hbl32 : bl (b.getD (b.length - 1) 0) <= 32 := A7 (aX hb _)
 obtain ⟨hbb1, hbb2, hbb3⟩ := yu htop0
 have hn31 : n <= 31 := by omega
 have hpn : 2 ^ n * 2 ^ bl (b.getD (b.length - 1) 0) = 4294967296 := by rw [<- Nat.pow_add, show n + bl (b.getD (b.length - 1) 0) = 32 from by omega]
 have hbsplit : wv b = wv (b.take (b.length - 1)) + b.getD (b.length - 1) 0 * 4294967296 ^ (b.length - 1) := by
  have := bP b (b.length - 1)
  rwa [show b.length - 1 + 1 = b.length from by omega, List.take_of_length_le (Nat.le_refl _)] at this
 have hblow := bQ hb (b.length - 1)
 obtain ⟨V, hV⟩ : ∃ V, V = wv b * 2 ^ n := ⟨_, rfl⟩
 have hVlt : V < 4294967296 ^ b.length := by
  have e1 : wv b < (b.getD (b.length - 1) 0 + 1) * 4294967296 ^ (b.length - 1) := by rw [hbsplit, Nat.add_mul]; omega
  have e2 : (b.getD (b.length - 1) 0 + 1) * 4294967296 ^ (b.length - 1) <= 2 ^ bl (b.getD (b.length - 1) 0) * 4294967296 ^ (b.length - 1) := Nat.mul_le_mul_right _ hbb2
  have e3 : wv b * 2 ^ n < 2 ^ bl (b.getD (b.length - 1) 0) * 4294967296 ^ (b.length - 1) * 2 ^ n := Nat.mul_lt_mul_of_pos_right (by omega) (Nat.two_pow_pos n)
  have e4 : 2 ^ bl (b.getD (b.length - 1) 0) * 4294967296 ^ (b.length - 1) * 2 ^ n = 4294967296 ^ (b.length - 1) * (2 ^ n * 2 ^ bl (b.getD (b.length - 1) 0)) := by grind
  rw [e4, hpn, <- Nat.pow_succ, show (b.length - 1).succ = b.length from by omega] at e3;rw [hV]; exact e3
 have hVge : 2147483648 * 4294967296 ^ (b.length - 1) <= V := by
  have e1 : 2 ^ (bl (b.getD (b.length - 1) 0) - 1) * 4294967296 ^ (b.length - 1) <= wv b := by
   rw [hbsplit]
   have := Nat.mul_le_mul_right (4294967296 ^ (b.length - 1)) hbb1
   omega
  have e2 := Nat.mul_le_mul_right (2 ^ n) e1
  have e3 : 2 ^ (bl (b.getD (b.length - 1) 0) - 1) * 2 ^ n = 2147483648 := by rw [<- Nat.pow_add, show bl (b.getD (b.length - 1) 0) - 1 + n = 31 from by omega]
  have e4 : 2 ^ (bl (b.getD (b.length - 1) 0) - 1) * 4294967296 ^ (b.length - 1) * 2 ^ n = (2 ^ (bl (b.getD (b.length - 1) 0) - 1) * 2 ^ n) * 4294967296 ^ (b.length - 1) := by grind
  rw [e4, e3] at e2;rw [hV]; exact e2
 have hV0 : 0 < V := by rw [hV]; exact Nat.mul_pos hb0 (Nat.two_pow_pos n)
 obtain ⟨vs, hvs⟩ : ∃ vs, vs = aW b.length V := ⟨_, rfl⟩
 have ov : wOK vs := by rw [hvs]; exact bI _ _
 have lv : vs.length = b.length := by rw [hvs, aD]
 have vv : wv vs = V := by rw [hvs, bU, Nat.mod_eq_of_lt hVlt]
 have hv1 : 2147483648 <= vs.getD (b.length - 1) 0 := by
  have : vs.getD (b.length - 1) 0 = V / 4294967296 ^ (b.length - 1) := by
   rw [hvs, nB _ (by omega), Nat.mod_eq_of_lt];rw [Nat.div_lt_iff_lt_mul (pow_pos _), Nat.mul_comm, <- Nat.pow_succ, show (b.length - 1).succ = b.length from by omega];exact hVlt
  rw [this, Nat.le_div_iff_mul_le (pow_pos _)]; exact hVge
 have hv1l : vs.getD (b.length - 1) 0 < 4294967296 := aX ov _
 have hv2l : vs.getD (b.length - 2) 0 < 4294967296 := aX ov _
 obtain ⟨U, hU⟩ : ∃ U, U = wv a * 2 ^ n := ⟨_, rfl⟩
 have hUlt : U < 4294967296 ^ (a.length + 1) := by
  have := y9 ha hn31 a.length
  rwa [List.take_of_length_le (Nat.le_refl _), <- hU] at this
 obtain ⟨us, hus⟩ : ∃ us, us = aW (a.length + 1) U := ⟨_, rfl⟩
 have ou : wOK us := by rw [hus]; exact bI _ _
 have lu : us.length = a.length + 1 := by rw [hus, aD]
 have uu : wv us = U := by rw [hus, bU, Nat.mod_eq_of_lt hUlt]
 have hstart : wv (us.drop (a.length + 1 - b.length)) < V := by
  rw [ph ou, uu, Nat.div_lt_iff_lt_mul (pow_pos _), hU, hV]
  have e1 := ms tb hne
  have e2 := dR ha
  have e3 : wv b * 4294967296 ^ (a.length + 1 - b.length) >= 4294967296 ^ a.length := by
   have := Nat.mul_le_mul_right (4294967296 ^ (a.length + 1 - b.length)) e1
   rwa [<- Nat.pow_add, show b.length - 1 + (a.length + 1 - b.length) = a.length from by omega] at this
  have e4 : wv b * 2 ^ n * 4294967296 ^ (a.length + 1 - b.length) = (wv b * 4294967296 ^ (a.length + 1 - b.length)) * 2 ^ n := by grind
  rw [e4];exact Nat.mul_lt_mul_of_pos_right (by omega) (Nat.two_pow_pos n)
 refine aj ?_;show AWP _ _ _ _ _ _;refine gQ fun _ Z9=>?_;refine Z8 ?_;refine Z8 ?_;refine ay rfl (aP rfl rfl rfl) rfl ?_;refine am rfl (bE (c := ((b.length - 1 : Nat) : Int)) (by omega) (by omega)) rfl ?_;refine ac rfl (gT (i := b.length - 1) rfl rfl rfl rfl rfl (by omega)) rfl ?_;refine Z6 ?_;refine ab rfl rfl (DQ (b.getD (b.length - 1) 0) (aX hb _)) rfl rfl rfl rfl ?_;refine aQ rfl (aR (m := (n : Int)) rfl rfl rfl (by rw [show (32 - (bl (b.getD (b.length - 1) 0) : Int)) = ((32 - bl (b.getD (b.length - 1) 0) : Nat) : Int) by omega, <- hn]; exact cv (by omega))) rfl ?_;refine Z7 ?_;refine eQ Z9 ?_;clear Z9;refine aA tok mixed (A := [[], [], [], [], [], [0, 1], [], [], [0, 1, 2, 3, 4, 6], [3, 4], []]) (an := [{}, {}, {}, { c := [57] }, { c := [57] }, {}, { c := [57, 60] }, { c := [57, 60] }, {}, {}, {}]) rfl (by kernel_rfl) rfl fun _ Z9=>?_;refine Z8 ?_;refine Z8 ?_;refine BJ rfl rfl (p5 a n ha hn31 la) (Or.inl rfl) rfl rfl rfl rfl ?_;refine Z8 ?_;refine Z8 ?_;refine ab rfl rfl (xP b n hb hn31 lb) rfl rfl rfl rfl ?_;refine Z8 ?_;refine ay rfl (aP rfl rfl rfl) rfl ?_;refine mC rfl rfl rfl (Dj (lo := 0) (hi := b.length) rfl rfl rfl rfl rfl rfl (by omega) (by rw [aD]; omega)) rfl ?_;refine Z7 ?_;refine Z7 ?_;refine eQ Z9 ?_;clear Z9;refine cr [(8, dL n), (9, .val (.one (.own 57 1 0 (a.length + 1)))), (10, V1 (dW vs))] [(57, some (.arr 1 (us.map cW)))] ⟨rfl, rfl, ?_, trivial⟩ ⟨by rw [hus, hU]; rfl, trivial⟩ ?_
 ·show V1 (dW _) = _
  rw [List.drop_zero, xM, hvs, hV]
 refine gQ fun _ Z9=>?_;refine Z8 ?_;refine ay rfl (aP rfl rfl lv) rfl ?_;refine Z7 ?_;refine eQ Z9 ?_;clear Z9;refine gQ fun _ Z9=>?_;refine Z8 ?_;refine ay rfl rfl rfl ?_;refine Z8 ?_;refine am rfl (bE (c := ((a.length + 1 - b.length : Nat) : Int)) (by omega) (by omega)) rfl ?_;refine bn (sz := _) (es := _) (f := _) (v := _) rfl (sW (l := a.length + 1 - b.length) (c := a.length + 1 - b.length) rfl rfl rfl rfl rfl (Nat.le_of_ble_eq_true rfl) rfl rfl (by omega) (by omega)) rfl rfl ?_;refine Z7 ?_;refine eQ Z9 ?_;clear Z9;refine ah ?_;refine gQ fun _ Z9=>?_;refine Z8 ?_;refine ay rfl rfl rfl ?_;refine Z8 ?_;refine am rfl (bE (c := ((a.length + 1 - b.length : Nat) : Int)) (by omega) (by omega)) rfl ?_;refine am rfl (bE rfl (by omega)) rfl ?_;refine Z7 ?_;refine eQ Z9 ?_;clear Z9;refine ar (aN (α := List Nat × List Nat × Nat) (fun p => mk 273 [(8, dL n), (9, .val (.one (.own 57 1 0 (a.length + 1)))), (10, V1 (dW vs)), (11, dI b.length), (12, .val (.one (.own 70 1 0 (a.length + 1 - b.length)))), (13, dI ((p.2.2 : Int) - 1))] [(57, some (.arr 1 (p.1.map cW))), (70, some (.arr 1 (p.2.1.map cW)))] []) (fun p => p.2.2 <= a.length + 1 - b.length /\ WDV U V (a.length + 1) b.length p.1 p.2.1 p.2.2) (fun p => p.2.2) (us, List.replicate (a.length + 1 - b.length) 0, a.length + 1 - b.length) ?_ ⟨Nat.le_refl _, ?_⟩ ?_)
 ·exact Wk.mk' ⟨rfl, rfl, rfl, rfl, rfl, rfl, trivial⟩ ⟨rfl, rfl, trivial⟩
 ·have := WDV.start (V := V) (k := b.length) (n := a.length + 1 - b.length) ou (by omega) hstart
  rw [uu, lu] at this;exact this
 rintro ⟨u, q, m⟩ ⟨hm, hdv⟩
 simp only at hm hdv
 have hlu := hdv.lenu
 have hlq := hdv.lenq
 show AWP _ _ _ _ _ (mk 273 [(8, dL n), (9, .val (.one (.own 57 1 0 (a.length + 1)))), (10, V1 (dW vs)), (11, dI b.length), (12, .val (.one (.own 70 1 0 (a.length + 1 - b.length)))), (13, dI ((m : Int) - 1))] [(57, some (.arr 1 (u.map cW))), (70, some (.arr 1 (q.map cW)))] []);refine ah ?_;refine gQ fun _ Z9=>?_;refine Z8 ?_;refine Z5 ?_;refine eQ Z9 ?_;clear Z9;refine ap rfl (fun hg => ?_) (fun hg => ?_)
 ·obtain ⟨j, rfl⟩ : ∃ j, m = j + 1 := ⟨m - 1, by simp at hg; omega⟩
  have hj : j < q.length := by omega
  have hdv' := hdv
  rw [<- vv, <- lv] at hdv'
  obtain ⟨dv, du, dl1, dl2, hUs⟩ := hdv'.digits ov (by omega)
  rw [lv] at dv du dl1 dl2 hUs;rw [vv] at dv
  have ouu := hdv.oku
  obtain ⟨D, hD⟩ : ∃ D, D = wv (u.drop j) := ⟨_, rfl⟩
  rw [<- hD] at du
  have hDW : D < 4294967296 * V := by
   have h2 := hdv.top
   have h3 := aX ouu j
   rw [hD, gU]
   omega
  have hT0 := aX ouu (j + b.length - 1)
  have hT1 := aX ouu (j + b.length)
  have hT2 := aX ouu (j + b.length - 2)
  generalize hw : 4294967296 ^ (b.length - 2) = w at *;generalize wv ((u.drop j).take (b.length - 2)) = dlow at *;generalize wv (vs.take (b.length - 2)) = vlow at *;generalize hv1e : vs.getD (b.length - 1) 0 = v1 at *;generalize hv2e : vs.getD (b.length - 2) 0 = v2 at *;generalize hT0e : u.getD (j + b.length - 1) 0 = T0 at *;generalize hT1e : u.getD (j + b.length) 0 = T1 at *;generalize hT2e : u.getD (j + b.length - 2) 0 = T2 at *
  have hVl : (v1 * 4294967296 + v2) * w <= V := by rw [dv]; exact Nat.le_add_right _ _
  have hVr : V < (v1 * 4294967296 + v2 + 1) * w := by rw [dv, Nat.add_mul _ 1, Nat.one_mul]; exact Nat.add_lt_add_left dl1 _
  have hDl : ((T1 * 4294967296 + T0) * 4294967296 + T2) * w <= D := by rw [du]; exact Nat.le_add_right _ _
  have hDr : D < ((T1 * 4294967296 + T0) * 4294967296 + T2 + 1) * w := by rw [du, Nat.add_mul _ 1, Nat.one_mul]; exact Nat.add_lt_add_left dl2 _
  have hw0 : 0 < w := by rw [<- hw]; exact pow_pos _
  have hT1v : T1 <= v1 := by
   have e1 : (T1 * (4294967296 * 4294967296)) * w <= D := Nat.le_trans (Nat.mul_le_mul_right _ (by omega)) hDl
   have e2 : 4294967296 * V < (4294967296 * ((v1 + 1) * 4294967296)) * w := by
    have : 4294967296 * V < 4294967296 * ((v1 * 4294967296 + v2 + 1) * w) := Nat.mul_lt_mul_of_pos_left hVr (by decide)
    rw [<- Nat.mul_assoc] at this;exact Nat.lt_of_lt_of_le this (Nat.mul_le_mul_right _ (by omega))
   have e3 := Nat.lt_of_mul_lt_mul_right (a := w) (show (T1 * (4294967296 * 4294967296)) * w < (4294967296 * ((v1 + 1) * 4294967296)) * w by omega)
   omega
  obtain ⟨top, htope⟩ : ∃ top, T1 * 4294967296 + T0 = top := ⟨_, rfl⟩
  rw [htope] at hDl hDr;clear du
  have htopl : top < 18446744073709551616 := by omega
  have hg0 : top / v1 <= 4294967297 := by
   have : top / v1 < 4294967298 := by
    rw [Nat.div_lt_iff_lt_mul (by omega)]; omega
   omega
  refine aj ?_;show AWP _ _ _ _ _ _;refine ah ?_;refine ar ?_;refine cr [(8, dL n), (9, .val (.one (.own 57 1 0 (a.length + 1)))), (10, V1 (dW vs)), (11, dI b.length), (12, .val (.one (.own 70 1 0 (a.length + 1 - b.length)))), (13, dI j)] [(57, some (.arr 1 (u.map cW))), (70, some (.arr 1 (q.map cW)))] ⟨rfl, rfl, rfl, rfl, rfl, by show dI _ = dI _; congr; omega, trivial⟩ ⟨rfl, rfl, trivial⟩ ?_;refine aA tok mixed (A := [[], [], [], [], [1, 2], [0, 1, 2, 3], [0, 1, 2, 3, 4], [0, 1, 2, 3, 4, 5], [], [], [], [], [9, 10], [9, 10, 11], [8, 9, 10, 11, 12], [8, 9, 10, 11, 12, 13], [0, 1, 2, 3, 4, 5, 6, 8, 9, 10, 11, 12, 13, 14], []]) (an := [{}, {}, {}, {}, {}, {}, {}, {}, {}, {}, {}, {}, {}, {}, {}, {}, {}, {}]) rfl (by kernel_rfl) rfl fun _ Z9=>?_;refine Z8 ?_;refine Z8 ?_;refine Z8 ?_;refine am rfl (aJ (c := ((j + b.length : Nat) : Int)) (by omega) (by omega)) rfl ?_;refine ac rfl (x_o (i := j + b.length) (j := j + b.length) rfl rfl rfl rfl rfl (by omega) (by omega)) rfl ?_;refine bq rfl ((lV rfl rfl rfl rfl (by omega)).trans (by rw [hT1e])) rfl ?_;refine aQ rfl (aR rfl rfl rfl (cv (by omega))) rfl ?_;refine am rfl (qN (s := 32) (z := T1 * 4294967296) (by omega) (by show T1 * 4294967296 % _ = _; omega)) rfl ?_;refine Z8 ?_;refine Z8 ?_;refine Z8 ?_;refine am rfl (aJ (c := ((j + b.length : Nat) : Int)) (by omega) (by omega)) rfl ?_;refine am rfl (bE (c := ((j + b.length - 1 : Nat) : Int)) (by omega) (by omega)) rfl ?_;refine ac rfl (x_o (i := j + b.length - 1) (j := j + b.length - 1) rfl rfl rfl rfl rfl (by omega) (by omega)) rfl ?_;refine bq rfl ((lV rfl rfl rfl rfl (by omega)).trans (by rw [hT0e])) rfl ?_;refine aQ rfl (aR rfl rfl rfl (cv (by omega))) rfl ?_;refine am rfl (xw (s := 32) (z := top) (by show T1 * 4294967296 % 4294967296 = 0; omega) (by omega) htopl htope) rfl ?_;refine Z7 ?_;refine eQ Z9 ?_;clear Z9;refine aA tok mixed (A := [[], [], [], [], [2], [1, 2, 3], [1, 2, 3, 4], [1, 2, 3, 4, 5], [], [], [], [], [10], [9, 10, 11], [9, 10, 11, 12], [9, 10, 11, 12, 13], [], []]) (an := [{}, {}, {}, {}, {}, {}, {}, {}, {}, {}, {}, {}, {}, {}, {}, {}, {}, {}]) rfl (by kernel_rfl) rfl fun _ Z9=>?_;refine Z8 ?_;refine Z8 ?_;refine Z8 ?_;refine am rfl (bE (c := ((b.length - 1 : Nat) : Int)) (by omega) (by omega)) rfl ?_;refine ac rfl (gT (i := b.length - 1) rfl rfl rfl rfl rfl (by omega)) rfl ?_;refine Z6 ?_;refine aQ rfl (aR (m := (v1 : Int)) rfl rfl rfl (by rw [hv1e]; exact cv (by omega))) rfl ?_;refine am rfl (AF (by omega) htopl rfl) rfl ?_;refine Z8 ?_;refine Z8 ?_;refine Z8 ?_;refine am rfl (bE (c := ((b.length - 1 : Nat) : Int)) (by omega) (by omega)) rfl ?_;refine ac rfl (gT (i := b.length - 1) rfl rfl rfl rfl rfl (by omega)) rfl ?_;refine Z6 ?_;refine aQ rfl (aR (m := (v1 : Int)) rfl rfl rfl (by rw [hv1e]; exact cv (by omega))) rfl ?_;refine am rfl (AD (by omega) rfl) rfl ?_;refine Z7 ?_;refine Z7 ?_;refine eQ Z9 ?_;clear Z9;refine aO (α := Nat) (fun g => mk 273 [(8, dL n), (9, .val (.one (.own 57 1 0 (a.length + 1)))), (10, V1 (dW vs)), (11, dI b.length), (12, .val (.one (.own 70 1 0 (a.length + 1 - b.length)))), (13, dI j), (15, dL g)] [(57, some (.arr 1 (u.map cW))), (70, some (.arr 1 (q.map cW)))] []) (fun g => g < 4294967296 /\ D < (g + 1) * V /\ g * V <= D + V) ?_ ?_
  ·refine ar (aN (α := Nat × Nat) (fun p => mk 273 [(8, dL n), (9, .val (.one (.own 57 1 0 (a.length + 1)))), (10, V1 (dW vs)), (11, dI b.length), (12, .val (.one (.own 70 1 0 (a.length + 1 - b.length)))), (13, dI j), (15, dL p.1), (16, dL p.2)] [(57, some (.arr 1 (u.map cW))), (70, some (.arr 1 (q.map cW)))] []) (fun p => p.1 * v1 + p.2 = top /\ p.2 < 4294967296 /\ p.1 <= 4294967297 /\ D < (p.1 + 1) * V) (fun p => p.1) (top / v1, top % v1) ?_ ⟨?_, ?_, hg0, ?_⟩ ?_)
   ·exact Wk.mk' ⟨rfl, rfl, rfl, rfl, rfl, rfl, rfl, rfl, trivial⟩ ⟨rfl, rfl, trivial⟩
   ·rw [Nat.mul_comm]; exact Nat.div_add_mod top v1
   ·exact Nat.lt_trans (Nat.mod_lt _ (by omega)) hv1l
   ·exact ux hVl hDr (by omega) hT2
   rintro ⟨g, r⟩ ⟨i1, i2, i3, i4⟩
   simp only at i1 i2 i3 i4
   show AWP _ _ _ _ _ (mk 273 [(8, dL n), (9, .val (.one (.own 57 1 0 (a.length + 1)))), (10, V1 (dW vs)), (11, dI b.length), (12, .val (.one (.own 70 1 0 (a.length + 1 - b.length)))), (13, dI j), (15, dL g), (16, dL r)] [(57, some (.arr 1 (u.map cW))), (70, some (.arr 1 (q.map cW)))] []);refine ah ?_;refine aO (α := Bool) (fun c => mk 273 [(8, dL n), (9, .val (.one (.own 57 1 0 (a.length + 1)))), (10, V1 (dW vs)), (11, dI b.length), (12, .val (.one (.own 70 1 0 (a.length + 1 - b.length)))), (13, dI j), (15, dL g), (16, dL r), (136, dB c)] [(57, some (.arr 1 (u.map cW))), (70, some (.arr 1 (q.map cW)))] []) (fun c => (c = true -> 4294967296 <= g \/ r * 4294967296 + T2 < g * v2) /\ (c = false -> g < 4294967296 /\ g * v2 <= r * 4294967296 + T2)) ?_ ?_
   ·refine cE tok mixed (A := [[], [], [0], [0, 1], [0, 1], [0, 1], [0, 1], [0, 1, 5], [0, 1, 4, 5, 6], [0, 1, 4, 5, 6, 7], [0, 1, 4, 5, 6, 7, 8], [0, 1], [0, 1], [0, 1], [0, 1], [0, 1], [0, 1], [0, 1, 14, 15], [0, 1, 14, 15, 16], [0, 1, 13, 14, 15, 16, 17], [0, 1, 13, 14, 15, 16, 17, 18], [0, 1, 11, 13, 14, 15, 16, 17, 18, 19], [0, 1, 3, 4, 5, 6, 7, 8, 9, 11, 12, 13, 14, 15, 16, 17, 18, 19, 20], [0, 1, 3, 4, 5, 6, 7, 8, 9, 10, 11, 12, 13, 14, 15, 16, 17, 18, 19, 20, 21]]) (an := [{}, {}, {}, {}, {}, {}, {}, {}, {}, {}, {}, {}, {}, {}, {}, {}, {}, {}, {}, {}, {}, {}, {}, {}]) rfl (by kernel_rfl) rfl fun _ Z9=>?_;refine Z8 ?_;refine Z5 ?_;refine Z8 ?_;refine db (fun hb => ?_) (fun hb => ?_)
    ·have hb : 4294967296 <= g := by simp at hb; omega
     refine ag rfl ?_;refine ag rfl ?_;refine ag rfl ?_;refine ag rfl ?_;refine ag rfl ?_;refine ag rfl ?_;refine ag rfl ?_;refine ag rfl ?_;refine ag rfl ?_;refine ag rfl ?_;refine ag rfl ?_;refine ag rfl ?_;refine ag rfl ?_;refine ag rfl ?_;refine ag rfl ?_;refine ag rfl ?_;refine ag rfl ?_;refine ag rfl ?_;refine ag rfl ?_;refine ag rfl ?_;refine Z3 ?_;refine eQ Z9 ?_;clear Z9;exact ⟨true, ⟨fun _ => Or.inl hb, fun h => by cases h⟩, Wk.mk' ⟨rfl, rfl, rfl, rfl, rfl, rfl, rfl, rfl, rfl, trivial⟩ ⟨rfl, rfl, trivial⟩⟩
    ·have hb : g < 4294967296 := by simp at hb; omega
     have hgv : g * v2 < 18446744073709551616 := by
      have : g * v2 <= 4294967295 * 4294967295 := Nat.mul_le_mul (by omega) (by omega)
      omega
     refine Z8 ?_;refine Z8 ?_;refine Z8 ?_;refine am rfl (bE (c := ((b.length - 2 : Nat) : Int)) (by omega) (by omega)) rfl ?_;refine ac rfl (gT (i := b.length - 2) rfl rfl rfl rfl rfl (by omega)) rfl ?_;refine Z6 ?_;refine aQ rfl (aR (m := (v2 : Int)) rfl rfl rfl (by rw [hv2e]; exact cv (by omega))) rfl ?_;refine am rfl (tl rfl hgv) rfl ?_;refine Z8 ?_;refine am rfl (qN (s := 32) (z := r * 4294967296) (by omega) (by show r * 4294967296 % _ = _; omega)) rfl ?_;refine Z8 ?_;refine Z8 ?_;refine Z8 ?_;refine am rfl (aJ (c := ((j + b.length : Nat) : Int)) (by omega) (by omega)) rfl ?_;refine am rfl (bE (c := ((j + b.length - 2 : Nat) : Int)) (by omega) (by omega)) rfl ?_;refine ac rfl (x_o (i := j + b.length - 2) (j := j + b.length - 2) rfl rfl rfl rfl rfl (by omega) (by omega)) rfl ?_;refine bq rfl ((lV rfl rfl rfl rfl (by omega)).trans (by rw [hT2e])) rfl ?_;refine aQ rfl (aR rfl rfl rfl (cv (by omega))) rfl ?_;refine am rfl (xw (s := 32) (by show r * 4294967296 % 4294967296 = 0; omega) (by omega) (by omega) rfl) rfl ?_;refine Z5 ?_;refine Z3 ?_;refine eQ Z9 ?_;clear Z9;refine ⟨_, ⟨?_, ?_⟩, Wk.mk' ⟨rfl, rfl, rfl, rfl, rfl, rfl, rfl, rfl, rfl, trivial⟩ ⟨rfl, rfl, trivial⟩⟩
     ·intro h; simp only [gt_iff_lt, decide_eq_true_eq] at h; right; omega
     ·intro h; simp only [gt_iff_lt, decide_eq_false_iff_not] at h; exact ⟨hb, by omega⟩
   rintro c ⟨hct, hcf⟩
   refine ap rfl (fun hc => ?_) (fun hc => ?_)
   ·have hlow : D < g * V := by
     rcases hct hc with h | h
     ·exact Nat.lt_of_lt_of_le hDW (Nat.mul_le_mul_right _ h)
     ·exact vV hVl hDr i1 h
    have hgp : 0 < g := by
     rcases Nat.eq_zero_or_pos g with h | h
     ·subst h; rw [Nat.zero_mul] at hlow; omega
     ·exact h
    obtain ⟨g', rfl⟩ : ∃ g', g = g' + 1 := ⟨g - 1, by omega⟩
    have i1' : g' * v1 + (r + v1) = top := by rw [<- i1, Nat.add_mul]; omega
    refine aj ?_;show AWP _ _ _ _ _ _;refine ar ?_;refine gQ fun _ Z9=>?_;refine Z8 ?_;refine am rfl (AB (x := g' + 1) (y := 1) (z := g') rfl (by omega)) rfl ?_;refine Z7 ?_;refine eQ Z9 ?_;clear Z9;refine gQ fun _ Z9=>?_;refine Z8 ?_;refine Z8 ?_;refine Z8 ?_;refine am rfl (bE (c := ((b.length - 1 : Nat) : Int)) (by omega) (by omega)) rfl ?_;refine ac rfl (gT (i := b.length - 1) rfl rfl rfl rfl rfl (by omega)) rfl ?_;refine Z6 ?_;refine aQ rfl (aR (m := (v1 : Int)) rfl rfl rfl (by rw [hv1e]; exact cv (by omega))) rfl ?_;refine am rfl (iI rfl (by omega)) rfl ?_;refine Z7 ?_;refine eQ Z9 ?_;clear Z9;refine gQ fun _ Z9=>?_;refine Z8 ?_;refine Z5 ?_;refine eQ Z9 ?_;clear Z9;refine ap rfl (fun hr => ?_) (fun hr => ?_)
    ·have hr : 4294967296 <= r + v1 := by simp at hr; omega
     have hgl : g' < 4294967296 := by
      refine Nat.lt_of_mul_lt_mul_right (a := v1) ?_
      omega
     refine az ?_;exact ⟨g', ⟨hgl, hlow, qr hVl hVr hDl i1' hgl hv1 hv2l (Or.inr hr)⟩, Wk.mk' ⟨rfl, rfl, rfl, rfl, rfl, rfl, rfl, trivial⟩ ⟨rfl, rfl, trivial⟩⟩
    ·have hr : r + v1 < 4294967296 := by simp at hr; omega
     refine aj ?_;exact ⟨(g', r + v1), by simp only; omega, ⟨i1', hr, by simp only; omega, hlow⟩, Wk.mk' ⟨rfl, rfl, rfl, rfl, rfl, rfl, rfl, rfl, trivial⟩ ⟨rfl, rfl, trivial⟩⟩
   ·obtain ⟨h2, h3⟩ := hcf hc
    refine az ?_;exact ⟨g, ⟨h2, i4, qr hVl hVr hDl i1 h2 hv1 hv2l (Or.inl h3)⟩, Wk.mk' ⟨rfl, rfl, rfl, rfl, rfl, rfl, rfl, trivial⟩ ⟨rfl, rfl, trivial⟩⟩
  rintro g ⟨hgl, hgD, hgV⟩
  subst hD
  have hUs' : wv u < 4294967296 ^ (j + (vs.length + 1)) := by rw [lv]; exact hUs
  have hjk : j + vs.length < u.length := by rw [lv]; omega
  refine gQ fun _ Z9=>?_;refine Z7 ?_;refine eQ Z9 ?_;clear Z9;refine gQ fun _ Z9=>?_;refine Z7 ?_;refine eQ Z9 ?_;clear Z9;refine ah ?_;refine gQ fun _ Z9=>?_;refine Z8 ?_;refine ay rfl (aP rfl rfl lv) rfl ?_;refine Z8 ?_;refine eQ Z9 ?_;clear Z9;refine ar (aN (α := List Nat × Nat × Nat × Nat) (fun p => mk 273 [(8, dL n), (9, .val (.one (.own 57 1 0 (a.length + 1)))), (10, V1 (dW vs)), (11, dI b.length), (12, .val (.one (.own 70 1 0 (a.length + 1 - b.length)))), (13, dI j), (15, dL g), (17, dL p.2.1), (18, dU p.2.2.1), (149, V1 (dW vs)), (150, dI b.length), (151, dI p.2.2.2)] [(57, some (.arr 1 (p.1.map cW))), (70, some (.arr 1 (q.map cW)))] []) (fun p => p.2.2.2 <= b.length /\ WMS u vs g j p.2.2.2 p.1 p.2.1 p.2.2.1) (fun p => b.length - p.2.2.2) (u, 0, 0, 0) ?_ ⟨Nat.zero_le _, WMS.start ouu vs g j⟩ ?_)
  ·exact Wk.mk' ⟨rfl, rfl, rfl, rfl, rfl, rfl, rfl, rfl, rfl, rfl, rfl, rfl, trivial⟩ ⟨rfl, rfl, trivial⟩
  rintro ⟨u1, c, bo, i⟩ ⟨hi, hms⟩
  simp only at hi hms
  show AWP _ _ _ _ _ (mk 273 [(8, dL n), (9, .val (.one (.own 57 1 0 (a.length + 1)))), (10, V1 (dW vs)), (11, dI b.length), (12, .val (.one (.own 70 1 0 (a.length + 1 - b.length)))), (13, dI j), (15, dL g), (17, dL c), (18, dU bo), (149, V1 (dW vs)), (150, dI b.length), (151, dI i)] [(57, some (.arr 1 (u1.map cW))), (70, some (.arr 1 (q.map cW)))] [])
  have hl1 := hms.len
  refine gQ fun _ Z9=>?_;refine Z5 ?_;refine eQ Z9 ?_;clear Z9;refine ah ?_;refine ap rfl (fun hh => ?_) (fun hh => ?_)
  ·have hh : i < b.length := by simp at hh; omega
   have hB := hms.bound ov hgl
   have hpb : g * vs.getD i 0 < 18446744073709551616 := by omega
   refine aj ?_;show AWP _ _ _ _ _ _;refine ah ?_;refine ar ?_;refine gQ fun _ Z9=>?_;refine Z8 ?_;refine ac rfl (gT (i := i) rfl rfl rfl rfl rfl (by omega)) rfl ?_;refine Z6 ?_;refine Z7 ?_;refine Z7 ?_;refine eQ Z9 ?_;clear Z9;refine gQ fun _ Z9=>?_;refine Z8 ?_;refine Z8 ?_;refine aQ rfl (aR rfl rfl rfl (cv (ov.lt64 i))) rfl ?_;refine am rfl (tl rfl hpb) rfl ?_;refine Z8 ?_;refine am rfl (iI rfl hB) rfl ?_;refine Z7 ?_;refine eQ Z9 ?_;clear Z9;refine gQ fun _ Z9=>?_;refine Z8 ?_;refine am rfl (jD (s := 32) (by omega) rfl) rfl ?_;refine Z7 ?_;refine eQ Z9 ?_;clear Z9;refine gR fun _ Z9=>?_;refine Z8 ?_;refine Z8 ?_;refine Z8 ?_;refine am rfl (aJ (c := ((j + i : Nat) : Int)) (by omega) (by omega)) rfl ?_;refine Z8 ?_;refine Z8 ?_;refine Z8 ?_;refine am rfl (aJ (c := ((j + i : Nat) : Int)) (by omega) (by omega)) rfl ?_;refine ac rfl (x_o (i := j + i) (j := j + i) rfl rfl rfl rfl rfl (by omega) (by omega)) rfl ?_;refine bq rfl (lV rfl rfl rfl rfl (by omega)) rfl ?_;refine Z8 ?_;refine aQ rfl (aR rfl rfl rfl (dZ _)) rfl ?_;refine Z8 ?_;refine ab rfl rfl (sn (u1.getD (j + i) 0) ((g * vs.getD i 0 + c) % 4294967296) bo (aX hms.ok _) (Nat.mod_lt _ (by decide)) hms.bl) rfl rfl rfl rfl ?_;refine Z8 ?_;refine au rfl rfl rfl ?_;refine au rfl rfl rfl ?_;refine ac rfl (x_o (i := j + i) (j := j + i) rfl rfl rfl rfl rfl (by omega) (by omega)) rfl ?_;refine ak rfl (lM rfl rfl rfl (by omega)) rfl rfl rfl ?_;refine Z7 ?_;refine eQ Z9 ?_;clear Z9;show AWP _ _ _ _ _ _;refine gR fun _ Z9=>?_;refine am rfl (aJ (c := ((i + 1 : Nat) : Int)) (by omega) (by omega)) rfl ?_;refine Z8 ?_;refine eQ Z9 ?_;clear Z9;exact ⟨(_, _, _, i + 1), by simp only; omega, ⟨hh, hms.step ov hgl (by omega)⟩, Wk.mk' ⟨rfl, rfl, rfl, rfl, rfl, rfl, rfl, rfl, rfl, rfl, rfl, rfl, trivial⟩ ⟨rfl, rfl, trivial⟩⟩
  have hh : i = vs.length := by simp at hh; omega
  subst hh
  have hcl := hms.cl
  have hfin := hms.last ov hgl hjk
  rw [lv] at hfin;refine az ?_;show AWP _ _ _ _ _ _;refine gQ fun _ Z9=>?_;refine Z8 ?_;refine Z8 ?_;refine Z8 ?_;refine am rfl (aJ (c := ((j + b.length : Nat) : Int)) (by omega) (by omega)) rfl ?_;refine Z8 ?_;refine Z8 ?_;refine Z8 ?_;refine am rfl (aJ (c := ((j + b.length : Nat) : Int)) (by omega) (by omega)) rfl ?_;refine ac rfl (x_o (i := j + b.length) (j := j + b.length) rfl rfl rfl rfl rfl (by omega) (by omega)) rfl ?_;refine bq rfl (lV rfl rfl rfl rfl (by omega)) rfl ?_;refine Z8 ?_;refine aQ rfl (aR (m := (c : Int)) rfl rfl rfl (by rw [dZ, Nat.mod_eq_of_lt hcl])) rfl ?_;refine Z8 ?_;refine ab rfl rfl (sn (u1.getD (j + b.length) 0) c bo (aX hms.ok _) hcl hms.bl) rfl rfl rfl rfl ?_;refine Z8 ?_;refine au rfl rfl rfl ?_;refine au rfl rfl rfl ?_;refine ac rfl (x_o (i := j + b.length) (j := j + b.length) rfl rfl rfl rfl rfl (by omega) (by omega)) rfl ?_;refine ak rfl (lM rfl rfl rfl (by omega)) rfl rfl rfl ?_;refine Z7 ?_;refine eQ Z9 ?_;clear Z9;refine cr [(8, dL n), (9, .val (.one (.own 57 1 0 (a.length + 1)))), (10, V1 (dW vs)), (11, dI b.length), (12, .val (.one (.own 70 1 0 (a.length + 1 - b.length)))), (13, dI j), (15, dL g), (18, dU (if u1.getD (j + b.length) 0 < c + bo then 1 else 0))] [(57, some (.arr 1 ((u1.set (j + b.length) ((u1.getD (j + b.length) 0 + 8589934592 - c - bo) % 4294967296)).map cW))), (70, some (.arr 1 (q.map cW)))] ⟨rfl, rfl, rfl, rfl, rfl, rfl, rfl, rfl, trivial⟩ ⟨rfl, rfl, trivial⟩ ?_;clear hms hl1 hi hcl;generalize u1.set (j + b.length) ((u1.getD (j + b.length) 0 + 8589934592 - c - bo) % 4294967296) = u2 at *;generalize (if u1.getD (j + b.length) 0 < c + bo then 1 else 0) = b2 at *
  have hb2 := hfin.bl
  have hl2 := hfin.len
  rw [<- lv] at hfin;refine aO (α := List Nat × Nat) (fun p => mk 273 [(8, dL n), (9, .val (.one (.own 57 1 0 (a.length + 1)))), (10, V1 (dW vs)), (11, dI b.length), (12, .val (.one (.own 70 1 0 (a.length + 1 - b.length)))), (13, dI j), (15, dL p.2)] [(57, some (.arr 1 (p.1.map cW))), (70, some (.arr 1 (q.map cW)))] []) (fun p => wOK p.1 /\ p.1.length = u.length /\ p.2 < 4294967296 /\ wv (p.1.drop j) = wv (u.drop j) % V /\ wv p.1 + p.2 * V * 4294967296 ^ j = wv u) ?_ ?_
  ·refine gQ fun _ Z9=>?_;refine Z8 ?_;refine Z5 ?_;refine eQ Z9 ?_;clear Z9;refine ap rfl (fun hz => ?_) (fun hz => ?_)
   ·have hz : b2 = 1 := by
     rcases Nat.lt_or_ge b2 1 with h | h
     ·have : b2 = 0 := by omega
      subst this; simp at hz
     ·omega
    subst hz
    have hgp := hfin.pos ouu hUs'
    obtain ⟨g', rfl⟩ : ∃ g', g = g' + 1 := ⟨g - 1, by omega⟩
    refine gQ fun _ Z9=>?_;refine Z8 ?_;refine am rfl (AB (x := g' + 1) (y := 1) (z := g') rfl (by omega)) rfl ?_;refine Z7 ?_;refine eQ Z9 ?_;clear Z9;refine gQ fun _ Z9=>?_;refine Z7 ?_;refine eQ Z9 ?_;clear Z9;refine ah ?_;refine gQ fun _ Z9=>?_;refine Z8 ?_;refine ay rfl (aP rfl rfl lv) rfl ?_;refine Z8 ?_;refine eQ Z9 ?_;clear Z9;refine ar (aN (α := List Nat × Nat × Nat) (fun p => mk 273 [(8, dL n), (9, .val (.one (.own 57 1 0 (a.length + 1)))), (10, V1 (dW vs)), (11, dI b.length), (12, .val (.one (.own 70 1 0 (a.length + 1 - b.length)))), (13, dI j), (15, dL g'), (22, dU p.2.1), (205, V1 (dW vs)), (206, dI b.length), (207, dI p.2.2)] [(57, some (.arr 1 (p.1.map cW))), (70, some (.arr 1 (q.map cW)))] []) (fun p => p.2.2 <= b.length /\ WAB u2 vs j p.2.2 p.1 p.2.1) (fun p => b.length - p.2.2) (u2, 0, 0) ?_ ⟨Nat.zero_le _, WAB.start hfin.ok vs j⟩ ?_)
    ·exact Wk.mk' ⟨rfl, rfl, rfl, rfl, rfl, rfl, rfl, rfl, rfl, rfl, rfl, trivial⟩ ⟨rfl, rfl, trivial⟩
    rintro ⟨u3, c3, i⟩ ⟨hi, hab⟩
    simp only at hi hab
    show AWP _ _ _ _ _ (mk 273 [(8, dL n), (9, .val (.one (.own 57 1 0 (a.length + 1)))), (10, V1 (dW vs)), (11, dI b.length), (12, .val (.one (.own 70 1 0 (a.length + 1 - b.length)))), (13, dI j), (15, dL g'), (22, dU c3), (205, V1 (dW vs)), (206, dI b.length), (207, dI i)] [(57, some (.arr 1 (u3.map cW))), (70, some (.arr 1 (q.map cW)))] [])
    have hl3 := hab.len
    refine gQ fun _ Z9=>?_;refine Z5 ?_;refine eQ Z9 ?_;clear Z9;refine ah ?_;refine ap rfl (fun hh => ?_) (fun hh => ?_)
    ·have hh : i < b.length := by simp at hh; omega
     refine aj ?_;show AWP _ _ _ _ _ _;refine ah ?_;refine ar ?_;refine gQ fun _ Z9=>?_;refine Z8 ?_;refine ac rfl (gT (i := i) rfl rfl rfl rfl rfl (by omega)) rfl ?_;refine Z6 ?_;refine Z7 ?_;refine Z7 ?_;refine eQ Z9 ?_;clear Z9;refine gR fun _ Z9=>?_;refine Z8 ?_;refine Z8 ?_;refine Z8 ?_;refine am rfl (aJ (c := ((j + i : Nat) : Int)) (by omega) (by omega)) rfl ?_;refine Z8 ?_;refine Z8 ?_;refine Z8 ?_;refine am rfl (aJ (c := ((j + i : Nat) : Int)) (by omega) (by omega)) rfl ?_;refine ac rfl (x_o (i := j + i) (j := j + i) rfl rfl rfl rfl rfl (by omega) (by omega)) rfl ?_;refine bq rfl (lV rfl rfl rfl rfl (by omega)) rfl ?_;refine Z8 ?_;refine Z8 ?_;refine ab rfl rfl (xH (u3.getD (j + i) 0) (vs.getD i 0) c3 (aX hab.ok _) (aX ov _) hab.cl) rfl rfl rfl rfl ?_;refine Z8 ?_;refine au rfl rfl rfl ?_;refine au rfl rfl rfl ?_;refine ac rfl (x_o (i := j + i) (j := j + i) rfl rfl rfl rfl rfl (by omega) (by omega)) rfl ?_;refine ak rfl (lM rfl rfl rfl (by omega)) rfl rfl rfl ?_;refine Z7 ?_;refine eQ Z9 ?_;clear Z9;show AWP _ _ _ _ _ _;refine gR fun _ Z9=>?_;refine am rfl (aJ (c := ((i + 1 : Nat) : Int)) (by omega) (by omega)) rfl ?_;refine Z8 ?_;refine eQ Z9 ?_;clear Z9;exact ⟨(_, _, i + 1), by simp only; omega, ⟨hh, hab.step ov (by omega)⟩, Wk.mk' ⟨rfl, rfl, rfl, rfl, rfl, rfl, rfl, rfl, rfl, rfl, rfl, trivial⟩ ⟨rfl, rfl, trivial⟩⟩
    ·have hh : i = vs.length := by simp at hh; omega
     subst hh
     have habf := hab.last ov (by omega)
     obtain ⟨f1, f2, f3⟩ := WAB.fits ouu hfin habf hUs' (by rw [vv]; exact hgV) (by rw [vv]; exact hV0)
     rw [vv] at f2 f3;rw [lv] at habf f2 f3;refine az ?_;show AWP _ _ _ _ _ _;refine gR fun _ Z9=>?_;refine Z8 ?_;refine Z8 ?_;refine Z8 ?_;refine am rfl (aJ (c := ((j + b.length : Nat) : Int)) (by omega) (by omega)) rfl ?_;refine ac rfl (x_o (i := j + b.length) (j := j + b.length) rfl rfl rfl rfl rfl (by omega) (by omega)) rfl ?_;refine bq rfl (lV rfl rfl rfl rfl (by omega)) rfl ?_;refine Z8 ?_;refine am rfl (wg rfl) rfl ?_;refine ac rfl (x_o (i := j + b.length) (j := j + b.length) rfl rfl rfl rfl rfl (by omega) (by omega)) rfl ?_;refine ak rfl (lM rfl rfl rfl (by omega)) rfl rfl rfl ?_;refine eQ Z9 ?_;clear Z9;exact ⟨(_, g'), ⟨habf.ok, by rw [habf.len]; exact hl2, by simp only; omega, f2, f3⟩, Wk.mk' ⟨rfl, rfl, rfl, rfl, rfl, rfl, rfl, trivial⟩ ⟨rfl, rfl, trivial⟩⟩
   ·have hz : b2 = 0 := by
     rcases Nat.lt_or_ge b2 1 with h | h
     ·omega
     ·have : b2 = 1 := by omega
      subst this; simp at hz
    subst hz
    obtain ⟨f1, f2, f3⟩ := hfin.fits (by rw [vv]; exact hgD)
    rw [vv] at f2 f3;refine aj ?_;exact ⟨(u2, g), ⟨hfin.ok, hl2, hgl, f2, f3⟩, Wk.mk' ⟨rfl, rfl, rfl, rfl, rfl, rfl, rfl, trivial⟩ ⟨rfl, rfl, trivial⟩⟩
  rintro ⟨u4, g4⟩ ⟨o4, l4, gl4, r4, v4⟩
  simp only at o4 l4 gl4 r4 v4
  show AWP _ _ _ _ _ (mk 273 [(8, dL n), (9, .val (.one (.own 57 1 0 (a.length + 1)))), (10, V1 (dW vs)), (11, dI b.length), (12, .val (.one (.own 70 1 0 (a.length + 1 - b.length)))), (13, dI j), (15, dL g4)] [(57, some (.arr 1 (u4.map cW))), (70, some (.arr 1 (q.map cW)))] []);refine gR fun _ Z9=>?_;refine Z8 ?_;refine Z8 ?_;refine Z8 ?_;refine aQ rfl (aR (m := (g4 : Int)) rfl rfl rfl (by rw [dZ, Nat.mod_eq_of_lt gl4])) rfl ?_;refine ac rfl (x_o (i := j) (j := j) rfl rfl rfl rfl rfl (by omega) (by omega)) rfl ?_;refine ak rfl (lM rfl rfl rfl hj) rfl rfl rfl ?_;refine eQ Z9 ?_;clear Z9;show AWP _ _ _ _ _ _;refine gR fun _ Z9=>?_;refine Z8 ?_;refine am rfl (bE rfl (by omega)) rfl ?_;refine Z7 ?_;refine eQ Z9 ?_;clear Z9;exact ⟨(u4, q.set j g4, j), by simp only; omega, ⟨by simp only; omega, hdv.step o4 l4 hj r4 v4 gl4 hV0⟩, Wk.mk' ⟨rfl, rfl, rfl, rfl, rfl, rfl, trivial⟩ ⟨rfl, rfl, trivial⟩⟩
 have hm0 : m = 0 := by simp at hg; omega
 subst hm0
 obtain ⟨fu, fq⟩ := hdv.fin hV0
 have hquo : U / V = wv a / wv b := by rw [hU, hV]; exact Nat.mul_div_mul_right _ _ (Nat.two_pow_pos n)
 have hrem : wv u / 2 ^ n = wv a % wv b := by
  rw [fu, hU, hV, Nat.mul_mod_mul_right, Nat.mul_div_cancel _ (Nat.two_pow_pos n)]
 have hq : q = aW (a.length + 1 - b.length) (wv a / wv b) := by
  refine iM hdv.okq (by omega) ?_;rw [fq, hquo]
 refine az ?_;show AWP _ _ _ _ _ _;refine gQ fun _ Z9=>?_;refine Z8 ?_;refine bn (sz := _) (es := _) (f := _) (v := _) rfl (sW (l := b.length) (c := b.length) rfl rfl rfl rfl rfl (Nat.le_of_ble_eq_true rfl) rfl rfl (by omega) (by omega)) rfl rfl ?_;refine Z7 ?_;refine eQ Z9 ?_;clear Z9;refine ah ?_;refine gQ fun _ Z9=>?_;refine Z8 ?_;refine ay rfl rfl rfl ?_;refine Z8 ?_;refine eQ Z9 ?_;clear Z9;refine ar (aN (α := List Nat × Nat) (fun p => mk 273 [(8, dL n), (9, .val (.one (.own 57 1 0 (a.length + 1)))), (12, .val (.one (.own 70 1 0 (a.length + 1 - b.length)))), (25, .val (.one (.own 245 1 0 b.length))), (247, dI b.length), (248, dI p.2)] [(57, some (.arr 1 (u.map cW))), (70, some (.arr 1 (q.map cW))), (245, some (.arr 1 (p.1.map cW)))] []) (fun p => p.2 <= b.length /\ p.1.length = b.length /\ ∀ k, k < p.2 -> p.1.getD k 0 = (aW b.length (wv a % wv b)).getD k 0) (fun p => b.length - p.2) (List.replicate b.length 0, 0) ?_ ⟨Nat.zero_le _, by simp, fun k hk => absurd hk (Nat.not_lt_zero _)⟩ ?_)
 ·exact Wk.mk' ⟨rfl, rfl, rfl, rfl, rfl, rfl, trivial⟩ ⟨rfl, rfl, rfl, trivial⟩
 rintro ⟨rs, i⟩ ⟨hi, hrl, hrd⟩
 simp only at hi hrl hrd
 show AWP _ _ _ _ _ (mk 273 [(8, dL n), (9, .val (.one (.own 57 1 0 (a.length + 1)))), (12, .val (.one (.own 70 1 0 (a.length + 1 - b.length)))), (25, .val (.one (.own 245 1 0 b.length))), (247, dI b.length), (248, dI i)] [(57, some (.arr 1 (u.map cW))), (70, some (.arr 1 (q.map cW))), (245, some (.arr 1 (rs.map cW)))] []);refine gQ fun _ Z9=>?_;refine Z5 ?_;refine eQ Z9 ?_;clear Z9;refine ah ?_;refine ap rfl (fun hh => ?_) (fun hh => ?_)
 ·have hh : i < b.length := by simp at hh; omega
  have hx1 := aX hdv.oku (i + 1)
  have hx0 := aX hdv.oku i
  have hdig := ru hn31 i hdv.oku
  rw [hrem, <- nB (k := b.length) _ hh] at hdig;refine aj ?_;show AWP _ _ _ _ _ _;refine ah ?_;refine ar ?_;refine gQ fun _ Z9=>?_;refine Z8 ?_;refine Z7 ?_;refine eQ Z9 ?_;clear Z9;refine cE tok mixed (A := [[], [], [], [], [], [3], [2, 3, 4], [2, 3, 4, 5], [2, 3, 4, 5, 6], [], [], [], [9, 10], [9, 10, 11], [2, 3, 4, 5, 6, 7, 9, 10, 11, 12], [], [2, 3, 4, 5, 6, 7, 8, 9, 10, 11, 12, 13], [2, 3, 4, 5, 6, 7, 8, 9, 10, 11, 12, 13, 14, 15], [], []]) (an := [{}, {}, {}, {}, {}, {}, {}, {}, {}, {}, {}, {}, {}, {}, {}, {}, {}, {}, {}, {}]) rfl (by kernel_rfl) rfl fun _ Z9=>?_;refine Z8 ?_;refine Z8 ?_;refine Z8 ?_;refine Z8 ?_;refine am rfl (aJ (c := ((i + 1 : Nat) : Int)) (by omega) (by omega)) rfl ?_;refine ac rfl (x_o (i := i + 1) (j := i + 1) rfl rfl rfl rfl rfl (by omega) (by omega)) rfl ?_;refine bq rfl (lV rfl rfl rfl rfl (by omega)) rfl ?_;refine aQ rfl (aR rfl rfl rfl (cv (hdv.oku.lt64 _))) rfl ?_;refine am rfl (qN (s := 32) (z := u.getD (i + 1) 0 * 4294967296) (by omega) (by show u.getD (i + 1) 0 * 4294967296 % _ = _; omega)) rfl ?_;refine Z8 ?_;refine Z8 ?_;refine ac rfl (x_o (i := i) (j := i) rfl rfl rfl rfl rfl (by omega) (by omega)) rfl ?_;refine bq rfl (lV rfl rfl rfl rfl (by omega)) rfl ?_;refine aQ rfl (aR rfl rfl rfl (cv (hdv.oku.lt64 _))) rfl ?_;refine am rfl (xw (s := 32) (by show u.getD (i + 1) 0 * 4294967296 % 4294967296 = 0; omega) (by omega) (by omega) rfl) rfl ?_;refine Z8 ?_;refine am rfl (jD (s := n) (by omega) rfl) rfl ?_;refine aQ rfl (aR rfl rfl rfl (dZ _)) rfl ?_;refine ac rfl (x_o (i := i) (j := i) rfl rfl rfl rfl rfl (by omega) (by omega)) rfl ?_;refine ak rfl (lM rfl rfl rfl (by omega)) rfl rfl rfl ?_;refine eQ Z9 ?_;clear Z9;show AWP _ _ _ _ _ _;refine gR fun _ Z9=>?_;refine am rfl (aJ (c := ((i + 1 : Nat) : Int)) (by omega) (by omega)) rfl ?_;refine Z8 ?_;refine eQ Z9 ?_;clear Z9;refine ⟨(_, i + 1), by simp only; omega, ⟨hh, ?_, fun k hk => ?_⟩, Wk.mk' ⟨rfl, rfl, rfl, rfl, rfl, rfl, trivial⟩ ⟨rfl, rfl, rfl, trivial⟩⟩
  ·simpa using hrl
  ·simp only at hk ⊢
   rw [hdig, gi _ _ _ _ (by omega)]
   by_cases hki : k = i
   ·rw [if_pos hki, hki]
   ·rw [if_neg hki]; exact hrd k (by omega)
 ·have hh : i = b.length := by simp at hh; omega
  subst hh
  have hrs : rs = aW b.length (wv a % wv b) := rJ (by rw [hrl, aD]) (fun k hk => hrd k (by omega))
  refine az ?_;show AWP _ _ _ _ _ _;refine gQ fun _ Z9=>?_;refine Z8 ?_;refine Z8 ?_;refine Z7 ?_;refine Z7 ?_;refine eQ Z9 ?_;clear Z9;refine eL [4, 5] [70, 245] 70 [(4, V1 (dW q)), (5, .val (.one (.own 245 1 0 b.length)))] [(245, some (.arr 1 (rs.map cW)))] rfl ?_ ?_ ?_
  ·exact ⟨i6 rfl (by omega), rfl, trivial⟩
  ·exact ⟨rfl, trivial⟩
  refine eL [4, 5] [245] 245 [(4, V1 (dW q)), (5, V1 (dW rs))] [] rfl ?_ trivial ?_
  ·exact ⟨rfl, i6 rfl (by omega), trivial⟩
  exact ai (bf (h3 := by unfold pc o9; rw [if_neg (by omega), if_neg (by omega), if_neg (by omega), if_neg (by omega), <- hq, <- hrs]; rfl))
end Go.Proofs.YtnoildlijhapaaaGreatDoor

/- Integers: made of numbers, negated, added, multiplied, divided; the greatest common divisor. No condition. -/
namespace Go.Proofs.YtnoildlijhapaaaGreatDoor
attribute [local irreducible] aC

theorem ck (ws : List Nat) (hw : wOK ws) (hl : ws.length <= 1073741824) : Con Tryz.prog 123 [V1 (dW ws)] { v := V1 (dW (wof (wv ws))) } := by
 rw [<- gC hw]; exact yS ws hl
theorem ju (neg : Bool) (ws : List Nat) (z : Int) (hw : wOK ws) (hl : ws.length <= 1073741824) (h : zv neg ws = z) : Con Tryz.prog 121 [dB neg, V1 (dW ws)] { v := AG (ZC z) } :=
 h ▸ DP neg ws hw hl
theorem bg {ws : List Nat} (h : wOK ws) : (wof (wv ws)).length <= ws.length := by rw [<- gC h]; exact yT ws
theorem w6 {a b : List Nat} (ha : wOK a) (hb : wOK b) : wv a + wv b < 4294967296 ^ (max a.length b.length + 1) := by
 have h1 := dR ha
 have h2 := dR hb
 have h3 : 4294967296 ^ a.length <= 4294967296 ^ max a.length b.length := Nat.pow_le_pow_right (by decide) (by omega)
 have h4 : 4294967296 ^ b.length <= 4294967296 ^ max a.length b.length := Nat.pow_le_pow_right (by decide) (by omega)
 rw [Nat.pow_succ]; omega
theorem uU (n : Nat) : n < 4294967296 ^ (wof n).length := by have := dR (aw n); rwa [aF] at this

theorem rL (n : Int) (hn : I64 n) : Con Tryz.prog 80 [dI n] { v := AG (ZC n) } := by
 unfold I64 at hn
 refine Z2 Tryz.func80 ?_
 intro w0 X
 rw [aq _ _ [(0, dI n)] rfl rfl];refine gQ fun _ Z9=>?_;refine av rfl rfl rfl rfl rfl rfl ?_;refine eQ Z9 ?_;clear Z9;refine gQ fun _ Z9=>?_;refine Z8 ?_;refine aQ rfl (aR (m := ((n % 18446744073709551616).toNat : Int)) rfl rfl rfl (by rw [oh]; omega)) rfl ?_;refine Z7 ?_;refine eQ Z9 ?_;clear Z9;refine aO (α := Unit) (fun _ => mk 19 [(0, dI n), (2, .ptr 2 0), (3, dL n.natAbs)] [(2, some (.box [.d (.lit (.bool false)), .nil]))] []) (fun _ => True) ?_ ?_
 ·refine gQ fun _ Z9=>?_;refine Z8 ?_;refine Z5 ?_;refine eQ Z9 ?_;clear Z9;refine ap rfl (fun hc => ?_) (fun hc => ?_)
  ·have hc : n < 0 := by simpa using hc
   refine gR fun _ Z9=>?_;refine Z8 ?_;refine bd rfl rfl rfl ?_;refine Z7 ?_;refine eQ Z9 ?_;clear Z9;refine ⟨(), trivial, Wk.mk' ⟨rfl, rfl, ?_, trivial⟩ ⟨rfl, trivial⟩⟩
   show V1 (.lit (.int .u64 (IntKind.u64.wrap (0 - ((n % 18446744073709551616).toNat : Int))))) = _
   rw [oh]
   have : (0 - ((n % 18446744073709551616).toNat : Int)) % 18446744073709551616 = (n.natAbs : Int) := by omega
   rw [this]
  ·have hc : ¬ n < 0 := by simpa using hc
   refine aj ?_;refine ⟨(), trivial, Wk.mk' ⟨rfl, rfl, ?_, trivial⟩ ⟨rfl, trivial⟩⟩
   show dL _ = dL _
   have : (n % 18446744073709551616).toNat = n.natAbs := by omega
   rw [this]
 rintro - -
 have hd : n.natAbs / 2 ^ 32 % 4294967296 = n.natAbs / 4294967296 := by show n.natAbs / 4294967296 % 4294967296 = _; omega
 refine bh fun _ Z9=>?_;refine aa tok rfl ?_;refine Z8 ?_;refine ae ?_;refine aa tok rfl ?_;refine Z5 ?_;refine ae ?_;refine aa tok rfl ?_;refine Z8 ?_;refine ae ?_;refine aa tok rfl ?_;refine aQ rfl (aR rfl rfl rfl (dZ _)) rfl ?_;refine ae ?_;refine aa tok rfl ?_;refine Z8 ?_;refine ae ?_;refine aa tok rfl ?_;refine am rfl (jD (s := 32) (by omega) rfl) rfl ?_;refine ae ?_;refine aa tok rfl ?_;refine aQ rfl (aR rfl rfl rfl (dZ _)) rfl ?_;refine ae ?_;refine aa tok rfl ?_;refine aI rfl rfl rfl rfl ?_;refine ae ?_;refine sh (Wk.fzNew rfl rfl rfl) ?_;refine aa tok rfl ?_;refine ab rfl rfl (ju (decide (n < 0)) [n.natAbs % 4294967296, n.natAbs / 2 ^ 32 % 4294967296] n (fun x hx => by simp at hx; omega) (by simp) (by unfold zv; simp only [wv, hd]; by_cases h : n < 0 <;> simp [h] <;> omega)) rfl rfl rfl rfl ?_;refine ae ?_;refine aa tok rfl ?_;refine ak rfl rfl rfl rfl rfl ?_;refine ae ?_;refine aS rfl (Z9 _ ?_); clear Z9;exact ai aE

theorem em (n : Bool) (w : List Nat) (hw : wOK w) (hl : w.length <= 1073741824) : Con Tryz.prog 88 [AG (IC n w)] { v := dI (zv n w).sign } := by
 have h0 : wof (wv w) = [] ↔ zv n w = 0 := by rw [eg]; unfold zv; split <;> omega
 have hs : (zv n w < 0 -> n = true) /\ (n = true -> zv n w <= 0) := by unfold zv; cases n <;> simp <;> omega
 refine Z2 Tryz.func88 ?_
 intro w0 X
 rw [aq _ _ [(0, AG (IC n w))] rfl rfl];refine gQ fun _ Z9=>?_;refine aB rfl rfl rfl rfl rfl rfl ?_;refine Z7 ?_;refine eQ Z9 ?_;clear Z9;refine ah ?_;refine ar ?_;refine gQ fun _ Z9=>?_;refine Z4 ?_;refine Z6 ?_;refine ab rfl rfl (ck w hw hl) rfl rfl rfl rfl ?_;refine ay rfl (aP rfl rfl rfl) rfl ?_;refine Z5 ?_;refine Z7 ?_;refine eQ Z9 ?_;clear Z9;refine ap rfl (fun hc => ?_) (fun hc => ?_)
 ·have hc : wof (wv w) = [] := by simpa using hc
  refine gQ fun _ Z9=>?_;refine Z7 ?_;refine eQ Z9 ?_;clear Z9;exact ai (bf (h3 := by rw [h0.1 hc]; rfl))
 ·have hc : ¬ zv n w = 0 := by rw [<- h0]; simpa using hc
  refine gQ fun _ Z9=>?_;refine Z4 ?_;refine Z6 ?_;refine Z7 ?_;refine eQ Z9 ?_;clear Z9;refine ap rfl (fun hd => ?_) (fun hd => ?_)
  ·have hd : n = true := hd
   have : zv n w < 0 := by have := hs.2 hd; omega
   refine gQ fun _ Z9=>?_;refine Z7 ?_;refine eQ Z9 ?_;clear Z9;exact ai (bf (h3 := by rw [Int.sign_eq_neg_one_of_neg this]; rfl))
  ·have hd : n = false := hd
   have : 0 < zv n w := by
    have := hs.1
    rcases Int.lt_trichotomy (zv n w) 0 with h | h | h
    ·rw [this h] at hd; cases hd
    ·exact absurd h hc
    ·exact h
   refine aj ?_;show AWP _ _ _ _ _ _;refine gQ fun _ Z9=>?_;refine Z7 ?_;refine eQ Z9 ?_;clear Z9;exact ai (bf (h3 := by rw [Int.sign_eq_one_of_pos this]; rfl))

theorem Ar (n : Bool) (w : List Nat) (hw : wOK w) (hl : w.length <= 1073741824) : Con Tryz.prog 156 [AG (IC n w)] { v := AG (ZC ((zv n w).natAbs : Int)) } := by
 have hlen := bg hw
 refine Z2 Tryz.func156 ?_
 intro w0 X
 rw [aq _ _ [(0, AG (IC n w))] rfl rfl];refine gQ fun _ Z9=>?_;refine aB rfl rfl rfl rfl rfl rfl ?_;refine av rfl rfl rfl rfl rfl rfl ?_;refine eQ Z9 ?_;clear Z9;refine gQ fun _ Z9=>?_;refine Z4 ?_;refine Z6 ?_;refine ab rfl rfl (ck w hw hl) rfl rfl rfl rfl ?_;refine ab rfl rfl (jH _ (by omega)) rfl rfl rfl rfl ?_;refine ab rfl rfl (ju false _ ((zv n w).natAbs : Int) (aw _) (by omega) (by rw [bm]; unfold zv; simp [aF])) rfl rfl rfl rfl ?_;refine ak rfl rfl rfl rfl rfl ?_;refine eQ Z9 ?_;clear Z9;exact ai aE

theorem s7 (n : Bool) (w : List Nat) (hw : wOK w) (hl : w.length <= 1073741824) : Con Tryz.prog 118 [AG (IC n w)] { v := AG (ZC (-(zv n w))) } := by
 have hlen := bg hw
 refine Z2 Tryz.func118 ?_
 intro w0 X
 rw [aq _ _ [(0, AG (IC n w))] rfl rfl];refine gQ fun _ Z9=>?_;refine aB rfl rfl rfl rfl rfl rfl ?_;refine av rfl rfl rfl rfl rfl rfl ?_;refine eQ Z9 ?_;clear Z9;refine aA tok mixed (A := [[], [], [0], [], [], [3], [3, 4], [0, 1, 3, 4, 5], []]) (an := [{}, {}, {}, {}, {}, {}, {}, {}, {}]) rfl (by kernel_rfl) rfl fun _ Z9=>?_;refine Z4 ?_;refine Z6 ?_;refine bd rfl rfl rfl ?_;refine Z4 ?_;refine Z6 ?_;refine ab rfl rfl (ck w hw hl) rfl rfl rfl rfl ?_;refine ab rfl rfl (jH _ (by omega)) rfl rfl rfl rfl ?_;refine ab rfl rfl (ju (!n) _ (-(zv n w)) (aw _) (by omega) (by unfold zv; cases n <;> simp [aF])) rfl rfl rfl rfl ?_;refine ak rfl rfl rfl rfl rfl ?_;refine eQ Z9 ?_;clear Z9;exact ai aE

theorem vT (na nb : Bool) (wa wb : List Nat) (ha : wOK wa) (hb : wOK wb) (la : wa.length <= 536870912) (lb : wb.length <= 536870912) :
  Con Tryz.prog 97 [AG (IC na wa), AG (IC nb wb)] { v := AG (ZC (zv na wa + zv nb wb)) } := by
 have hla := bg ha
 have hlb := bg hb
 have hpl : wv (wof (wv wa)) + wv (wof (wv wb)) < 4294967296 ^ (max (wof (wv wa)).length (wof (wv wb)).length + 1) := w6 (aw _) (aw _)
 have hpa := uU (wv wa)
 have hpb := uU (wv wb)
 rw [aF, aF] at hpl;refine Z2 Tryz.func97 ?_
 intro w0 X
 rw [aq _ _ [(0, AG (IC na wa)), (1, AG (IC nb wb))] rfl rfl];refine gQ fun _ Z9=>?_;refine aB rfl rfl rfl rfl rfl rfl ?_;refine aB rfl rfl rfl rfl rfl rfl ?_;refine av rfl rfl rfl rfl rfl rfl ?_;refine eQ Z9 ?_;clear Z9;refine aA tok mixed (A := [[], [], [0], [], [], [0, 1, 3], [3, 4], []]) (an := [{}, {}, {}, { c := [9] }, { c := [9] }, {}, {}, {}]) rfl (by kernel_rfl) rfl fun _ Z9=>?_;refine Z4 ?_;refine Z6 ?_;refine ab rfl rfl (ck wa ha (by omega)) rfl rfl rfl rfl ?_;refine Z4 ?_;refine Z6 ?_;refine ab rfl rfl (ck wb hb (by omega)) rfl rfl rfl rfl ?_;refine Z7 ?_;refine Z7 ?_;refine eQ Z9 ?_;clear Z9;refine ah ?_;refine ar ?_;refine gQ fun _ Z9=>?_;refine Z4 ?_;refine Z6 ?_;refine Z4 ?_;refine Z6 ?_;refine Z5 ?_;refine Z7 ?_;refine eQ Z9 ?_;clear Z9;refine ap rfl (fun hc => ?_) (fun hc => ?_)
 ·have hc : na = nb := by simpa using hc
  subst hc
  refine aA tok mixed (A := [[], [], [], [], [], [0, 2, 3], []]) (an := [{}, {}, {}, {}, {}, {}, {}]) rfl (by kernel_rfl) rfl fun _ Z9=>?_;refine Z4 ?_;refine Z6 ?_;refine Z8 ?_;refine Z8 ?_;refine ab rfl rfl (DH _ _ (aw _) (aw _) (by omega) (by omega)) rfl rfl rfl rfl ?_;refine ab rfl rfl (ju na _ (zv na wa + zv na wb) (bI _ _) (by rw [aD]; omega) (by unfold zv; rw [bU, aF, aF, Nat.mod_eq_of_lt hpl]; cases na <;> simp <;> omega)) rfl rfl rfl rfl ?_;refine ak rfl rfl rfl rfl rfl ?_;refine eQ Z9 ?_;clear Z9;exact ai aE
 ·have hc : na = !nb := by cases na <;> cases nb <;> simp_all
  subst hc
  refine gQ fun _ Z9=>?_;refine Z8 ?_;refine Z8 ?_;refine ab rfl rfl (nZ _ _ (aw _) (aw _) (bX _) (bX _) (by omega) (by omega)) rfl rfl rfl rfl ?_;refine Z5 ?_;refine Z7 ?_;refine eQ Z9 ?_;clear Z9;refine ap rfl (fun hd => ?_) (fun hd => ?_)
  ·have hd : wv wb <= wv wa := by
    simp only [ge_iff_le, decide_eq_true_eq] at hd;rw [aF, aF] at hd
    have h2 := mt (ip (m := wv wa) (n := wv wb)).2 (by omega)
    omega
   have hle : (wof (wv wb)).length <= (wof (wv wa)).length := bu hd
   refine aA tok mixed (A := [[], [], [], [], [], [0, 2, 3], []]) (an := [{}, {}, {}, {}, {}, {}, {}]) rfl (by kernel_rfl) rfl fun _ Z9=>?_;refine Z4 ?_;refine Z6 ?_;refine Z8 ?_;refine Z8 ?_;refine ab rfl rfl (xj _ _ (aw _) (aw _) (by omega) hle (by rw [aF, aF]; exact hd)) rfl rfl rfl rfl ?_;refine ab rfl rfl (ju (!nb) _ (zv (!nb) wa + zv nb wb) (bI _ _) (by rw [aD]; omega) (by unfold zv; rw [bU, aF, aF, Nat.mod_eq_of_lt (by omega)]; cases nb <;> simp <;> omega)) rfl rfl rfl rfl ?_;refine ak rfl rfl rfl rfl rfl ?_;refine eQ Z9 ?_;clear Z9;exact ai aE
  ·have hd : wv wa <= wv wb := by
    simp only [ge_iff_le, decide_eq_false_iff_not] at hd;rw [aF, aF] at hd
    have := ip.1 (show gX (wv wa) (wv wb) < 0 by omega)
    omega
   have hle : (wof (wv wa)).length <= (wof (wv wb)).length := bu hd
   refine aj ?_;show AWP _ _ _ _ _ _;refine aA tok mixed (A := [[], [], [], [], [], [0, 2, 3], []]) (an := [{}, {}, {}, {}, {}, {}, {}]) rfl (by kernel_rfl) rfl fun _ Z9=>?_;refine Z4 ?_;refine Z6 ?_;refine Z8 ?_;refine Z8 ?_;refine ab rfl rfl (xj _ _ (aw _) (aw _) (by omega) hle (by rw [aF, aF]; exact hd)) rfl rfl rfl rfl ?_;refine ab rfl rfl (ju nb _ (zv (!nb) wa + zv nb wb) (bI _ _) (by rw [aD]; omega) (by unfold zv; rw [bU, aF, aF, Nat.mod_eq_of_lt (by omega)]; cases nb <;> simp <;> omega)) rfl rfl rfl rfl ?_;refine ak rfl rfl rfl rfl rfl ?_;refine eQ Z9 ?_;clear Z9;exact ai aE

theorem DT (na nb : Bool) (wa wb : List Nat) (ha : wOK wa) (hb : wOK wb) (la : wa.length <= 536870912) (lb : wb.length <= 536870912) :
  Con Tryz.prog 206 [AG (IC na wa), AG (IC nb wb)] { v := AG (ZC (zv na wa - zv nb wb)) } := by
 have hz : zv na wa - zv nb wb = zv na wa + zv (!nb) wb := by unfold zv; cases na <;> cases nb <;> simp <;> omega
 rw [hz];refine Z2 Tryz.func206 ?_
 intro w0 X
 rw [aq _ _ [(0, AG (IC na wa)), (1, AG (IC nb wb))] rfl rfl];refine gQ fun _ Z9=>?_;refine aB rfl rfl rfl rfl rfl rfl ?_;refine aB rfl rfl rfl rfl rfl rfl ?_;refine av rfl rfl rfl rfl rfl rfl ?_;refine eQ Z9 ?_;clear Z9;refine gQ fun _ Z9=>?_;refine Z6 ?_;refine Z4 ?_;refine Z6 ?_;refine bd rfl rfl rfl ?_;refine Z4 ?_;refine Z6 ?_;refine aG rfl rfl rfl ?_;refine ab rfl rfl (vT na (!nb) wa wb ha hb la lb) rfl rfl rfl rfl ?_;refine ak rfl rfl rfl rfl rfl ?_;refine eQ Z9 ?_;clear Z9;exact ai aE

theorem vR (na nb : Bool) (wa wb : List Nat) (ha : wOK wa) (hb : wOK wb) (la : wa.length <= 536870912) (lb : wb.length <= 536870912) :
  Con Tryz.prog 84 [AG (IC na wa), AG (IC nb wb)] { v := AG (ZC (zv na wa * zv nb wb)) } := by
 have hla := bg ha
 have hlb := bg hb
 have hm : wv wa * wv wb < 4294967296 ^ ((wof (wv wa)).length + (wof (wv wb)).length) := by
  have := yH (wv wa) (wv wb)
  exact Nat.lt_of_lt_of_le (rG _) (Nat.pow_le_pow_right (by decide) this)
 refine Z2 Tryz.func84 ?_
 intro w0 X
 rw [aq _ _ [(0, AG (IC na wa)), (1, AG (IC nb wb))] rfl rfl];refine gQ fun _ Z9=>?_;refine aB rfl rfl rfl rfl rfl rfl ?_;refine aB rfl rfl rfl rfl rfl rfl ?_;refine av rfl rfl rfl rfl rfl rfl ?_;refine eQ Z9 ?_;clear Z9;refine aA tok mixed (A := [[], [], [], [], [0, 2], [], [], [5], [], [], [5, 6, 8], [5, 6, 8, 9], [0, 1, 2, 3, 5, 6, 7, 8, 9, 10], []]) (an := [{}, {}, {}, {}, {}, {}, {}, {}, { c := [12] }, { c := [12] }, {}, {}, {}, {}]) rfl (by kernel_rfl) rfl fun _ Z9=>?_;refine Z4 ?_;refine Z6 ?_;refine Z4 ?_;refine Z6 ?_;refine Z5 ?_;refine Z4 ?_;refine Z6 ?_;refine ab rfl rfl (ck wa ha (by omega)) rfl rfl rfl rfl ?_;refine Z4 ?_;refine Z6 ?_;refine ab rfl rfl (ck wb hb (by omega)) rfl rfl rfl rfl ?_;refine ab rfl rfl (Bz _ _ (aw _) (aw _) (by omega) (by omega)) rfl rfl rfl rfl ?_;refine ab rfl rfl (ju (!(na == nb)) _ (zv na wa * zv nb wb) (bI _ _) (by rw [aD]; omega) (by unfold zv; rw [bU, aF, aF, Nat.mod_eq_of_lt hm]; cases na <;> cases nb <;> simp [Int.natCast_mul, Int.mul_neg, Int.neg_mul])) rfl rfl rfl rfl ?_;refine ak rfl rfl rfl rfl rfl ?_;refine eQ Z9 ?_;clear Z9;exact ai aE
end Go.Proofs.YtnoildlijhapaaaGreatDoor

/- Integers: division with remainder, the greatest common divisor. No condition. -/
namespace Go.Proofs.YtnoildlijhapaaaGreatDoor
attribute [local irreducible] aC

theorem xv {x y q r : Int} (hy : y ≠ 0) (h : r + y * q = x) (h0 : 0 <= r) (h1 : r < y.natAbs) : x / y = q /\ x % y = r := by
 rcases Int.lt_trichotomy y 0 with hn | hn | hn
 ·have hp : 0 < -y := by omega
  have := (Int.ediv_emod_unique hp (a := x) (q := -q) (r := r)).2 ⟨by rw [<- h]; grind, h0, by omega⟩
  rw [Int.ediv_neg, Int.emod_neg] at this;exact ⟨by omega, this.2⟩
 ·exact absurd hn hy
 ·exact (Int.ediv_emod_unique hn).2 ⟨h, h0, by omega⟩
theorem Aq (na nb : Bool) (wa wb : List Nat) (z : Int) (ha : wOK wa) (hb : wOK wb) (la : wa.length <= 536870912) (lb : wb.length <= 536870912) (h : zv na wa + zv nb wb = z) :
  Con Tryz.prog 97 [AG (IC na wa), AG (IC nb wb)] { v := AG (ZC z) } := h ▸ vT na nb wa wb ha hb la lb
def tq (na nb : Bool) (A B : Nat) : Int := if na = nb then ((A / B : Nat) : Int) else -((A / B : Nat) : Int)
def tr (na : Bool) (A B : Nat) : Int := if na then -((A % B : Nat) : Int) else ((A % B : Nat) : Int)
def sg (n : Bool) (A : Nat) : Int := if n then -(A : Int) else A
theorem tqr (na nb : Bool) {A B : Nat} (hB : 0 < B) : tr na A B + sg nb B * tq na nb A B = sg na A /\ (tr na A B).natAbs < B := by
 have h := Nat.div_add_mod A B
 have h2 := Nat.mod_lt A hB
 have hz : (B : Int) * ((A / B : Nat) : Int) + ((A % B : Nat) : Int) = A := by rw [<- Int.natCast_mul, <- Int.natCast_add, h]
 unfold tr tq sg
 generalize ((A / B : Nat) : Int) = q at *;refine ⟨?_, ?_⟩
 ·cases na <;> cases nb <;> simp only [Bool.false_eq_true, if_true, if_false, reduceCtorEq] <;> grind
 ·cases na <;> simp <;> omega
theorem wI (na nb : Bool) {A B : Nat} (hB : 0 < B) (h : 0 <= tr na A B) : sg na A / sg nb B = tq na nb A B /\ sg na A % sg nb B = tr na A B := by
 obtain ⟨h1, h2⟩ := tqr na nb (A := A) hB
 refine xv ?_ h1 h ?_ <;> (unfold sg; split <;> omega)
theorem wJ (na nb : Bool) {A B : Nat} (hB : 0 < B) (h : tr na A B < 0) : sg na A / sg nb B = tq na nb A B + sg (!nb) 1 /\ sg na A % sg nb B = tr na A B + B := by
 obtain ⟨h1, h2⟩ := tqr na nb (A := A) hB
 refine xv ?_ ?_ (by omega) ?_
 ·unfold sg; split <;> omega
 ·rw [<- h1]; unfold sg; cases nb <;> simp <;> grind
 ·unfold sg; split <;> omega

theorem rM (na nb : Bool) (wa wb : List Nat) (ha : wOK wa) (hb : wOK wb) (la : wa.length <= 268435456) (lb : wb.length <= 268435456) (h0 : zv nb wb ≠ 0) :
  Con Tryz.prog 120 [AG (IC na wa), AG (IC nb wb)] { v := .tup [.agg (ZC (zv na wa / zv nb wb)), .agg (ZC (zv na wa % zv nb wb)), .one (.d (lI 0))] } := by
 have hB0 : wv wb ≠ 0 := by intro h; apply h0; unfold zv; rw [h]; simp
 have hBp : 0 < wv wb := by omega
 have hBn : wof (wv wb) ≠ [] := by rw [ne_eq, eg]; exact hB0
 have hla := bg ha
 have hlb := bg hb
 have hxa : zv na wa = sg na (wv wa) := rfl
 have hxb : zv nb wb = sg nb (wv wb) := rfl
 rw [hxa, hxb];generalize hA : wv wa = A at *;generalize hB : wv wb = B at *
 have hql : (pc (wof A) (wof B)).length <= 268435457 := Nat.le_trans (AT _ _) (by omega)
 have hrl : (o9 (wof A) (wof B)).length <= 536870912 := Nat.le_trans (AS _ _) (by omega)
 have hqv := Cy (aw A) hBn (bX B)
 have hrv := Cw (a := wof A) (aw B) hBn (bX B)
 rw [aF, aF] at hqv hrv
 have hrok := Cx (aw A) (aw B) hBn (bX B)
 have hrle : (wof (tr na A B).natAbs).length <= (wof A).length := bu (by unfold tr; have := Nat.mod_le A B; split <;> omega)
 have hqle : (wof (tq na nb A B).natAbs).length <= (wof A).length := bu (by unfold tq; have := Nat.div_le_self A B; split <;> omega)
 refine Z2 Tryz.func120 ?_
 intro w0 X
 rw [aq _ _ [(0, AG (IC na wa)), (1, AG (IC nb wb))] rfl rfl];refine gQ fun _ Z9=>?_;refine aB rfl rfl rfl rfl rfl rfl ?_;refine aB rfl rfl rfl rfl rfl rfl ?_;refine av rfl rfl rfl rfl rfl rfl ?_;refine av rfl rfl rfl rfl rfl rfl ?_;refine Z7 ?_;refine eQ Z9 ?_;clear Z9;refine aA tok mixed (A := [[], [], [0], [], [], [0, 1, 3], [3, 4], []]) (an := [{}, {}, {}, { c := [15] }, { c := [15] }, {}, {}, {}]) rfl (by kernel_rfl) rfl fun _ Z9=>?_;refine Z4 ?_;refine Z6 ?_;refine ab rfl rfl (hA ▸ ck wa ha (by omega)) rfl rfl rfl rfl ?_;refine Z4 ?_;refine Z6 ?_;refine ab rfl rfl (hB ▸ ck wb hb (by omega)) rfl rfl rfl rfl ?_;refine Z7 ?_;refine Z7 ?_;refine eQ Z9 ?_;clear Z9;refine ah ?_;refine gQ fun _ Z9=>?_;refine Z8 ?_;refine ay rfl (aP rfl rfl rfl) rfl ?_;refine Z5 ?_;refine eQ Z9 ?_;clear Z9;refine ap rfl (fun hc => ?_) (fun hc => ?_)
 ·exact absurd (by simpa using hc) hBn
 refine aj ?_;show AWP _ _ _ _ _ _;refine gQ fun _ Z9=>?_;refine Z8 ?_;refine Z8 ?_;refine ab rfl rfl (AR _ _ (aw A) (aw B) (bX A) (bX B) hBn (by omega) (by omega)) rfl rfl rfl rfl ?_;refine Z8 ?_;refine au rfl rfl rfl ?_;refine au rfl rfl rfl ?_;refine Z7 ?_;refine Z7 ?_;refine eQ Z9 ?_;clear Z9;refine aA tok mixed (A := [[], [], [], [], [0, 2], [], [0, 1, 2, 3], [], [], [], [0, 1, 2, 3, 4, 5, 7], [], [], [7, 8, 9], []]) (an := [{}, {}, {}, {}, {}, {}, {}, { c := [36] }, { c := [36] }, { c := [36] }, {}, { c := [36, 40] }, { c := [36, 40, 11] }, {}, {}]) rfl (by kernel_rfl) rfl fun _ Z9=>?_;refine Z4 ?_;refine Z6 ?_;refine Z4 ?_;refine Z6 ?_;refine Z5 ?_;refine Z8 ?_;refine ab rfl rfl (ju (!(na == nb)) _ (tq na nb A B) (Cz _ _) (by omega) (by unfold zv tq; rw [hqv]; cases na <;> cases nb <;> simp)) rfl rfl rfl rfl ?_;refine Z4 ?_;refine Z6 ?_;refine Z8 ?_;refine ab rfl rfl (ju na _ (tr na A B) hrok (by omega) (by unfold zv tr; rw [hrv])) rfl rfl rfl rfl ?_;refine av rfl rfl rfl rfl rfl rfl ?_;refine av rfl rfl rfl rfl rfl rfl ?_;refine ak rfl rfl rfl rfl rfl ?_;refine ak rfl rfl rfl rfl rfl ?_;refine eQ Z9 ?_;clear Z9;refine aO (α := Unit) (fun _ => mk 56 [(4, .ptr 4 0), (5, .ptr 5 0), (11, .ptr 11 0), (12, .ptr 12 0)] [(4, some (.box [.d (.lit (.bool false)), .nil])), (5, some (.box [.d (.lit (.bool false)), .nil])), (11, some (.box (ZC (sg na A / sg nb B)))), (12, some (.box (ZC (sg na A % sg nb B))))] []) (fun _ => True) ?_ ?_
 ·refine gQ fun _ Z9=>?_;refine Z4 ?_;refine Z6 ?_;refine eQ Z9 ?_;clear Z9;refine ap rfl (fun hd => ?_) (fun hd => ?_)
  ·have hd : tr na A B < 0 := of_decide_eq_true hd
   obtain ⟨e1, e2⟩ := wJ na nb hBp hd
   refine gQ fun _ Z9=>?_;refine Z6 ?_;refine Z8 ?_;refine aG rfl rfl rfl ?_;refine ab rfl rfl (Aq (decide (tr na A B < 0)) false (wof (tr na A B).natAbs) (wof B) (sg na A % sg nb B) (aw _) (aw _) (by omega) (by omega) (by rw [aZ, e2]; unfold zv; rw [aF]; simp)) rfl rfl rfl rfl ?_;refine ak rfl rfl rfl rfl rfl ?_;refine eQ Z9 ?_;clear Z9;refine bL fun _ Z9=>?_;refine aa tok rfl ?_;refine Z6 ?_;refine ae ?_;refine aa tok rfl ?_;refine Z4 ?_;refine ae ?_;refine aa tok rfl ?_;refine Z6 ?_;refine ae ?_;refine aa tok rfl ?_;refine bd rfl rfl rfl ?_;refine ae ?_;refine aa tok rfl ?_;refine aI rfl rfl rfl rfl ?_;refine ae ?_;refine sh (Wk.fzNew rfl rfl rfl) ?_;refine aa tok rfl ?_;refine aG rfl rfl rfl ?_;refine ae ?_;refine aa tok rfl ?_;refine ab rfl rfl (Aq (decide (tq na nb A B < 0)) (!nb) (wof (tq na nb A B).natAbs) [1] (sg na A / sg nb B) (aw _) (wOK.one (by decide)) (by omega) (by simp) (by rw [aZ, e1]; rfl)) rfl rfl rfl rfl ?_;refine ae ?_;refine aa tok rfl ?_;refine ak rfl rfl rfl rfl rfl ?_;refine ae ?_;refine aS rfl (Z9 _ ?_); clear Z9;exact ⟨(), trivial, Wk.mk' ⟨rfl, rfl, rfl, rfl, trivial⟩ ⟨rfl, rfl, rfl, rfl, trivial⟩⟩
  ·have hd : 0 <= tr na A B := by have := of_decide_eq_false hd; omega
   obtain ⟨e1, e2⟩ := wI na nb hBp hd
   refine aj ?_;exact ⟨(), trivial, Wk.mk' ⟨rfl, rfl, rfl, rfl, trivial⟩ ⟨rfl, rfl, by rw [e1]; rfl, by rw [e2]; rfl, trivial⟩⟩
 rintro - -
 show AWP _ _ _ _ _ (mk 56 [(4, .ptr 4 0), (5, .ptr 5 0), (11, .ptr 11 0), (12, .ptr 12 0)] [(4, some (.box [.d (.lit (.bool false)), .nil])), (5, some (.box [.d (.lit (.bool false)), .nil])), (11, some (.box (ZC (sg na A / sg nb B)))), (12, some (.box (ZC (sg na A % sg nb B))))] []);refine aA tok mixed (A := [[], [], [], [], []]) (an := [{}, {}, { d := [12] }, {}, {}]) rfl (by kernel_rfl) rfl fun _ Z9=>?_;refine Z6 ?_;refine Z6 ?_;refine ak rfl rfl rfl rfl rfl ?_;refine ak rfl rfl rfl rfl rfl ?_;refine Z7 ?_;refine eQ Z9 ?_;clear Z9;exact ai aE

theorem vS (x y : Int) (hx : zl x <= 268435456) (hy : zl y <= 268435456) (h0 : y ≠ 0) :
  Con Tryz.prog 120 [AG (ZC x), AG (ZC y)] { v := .tup [.agg (ZC (x / y)), .agg (ZC (x % y)), .one (.d (lI 0))] } := by
 have := rM (decide (x < 0)) (decide (y < 0)) (wof x.natAbs) (wof y.natAbs) (aw _) (aw _) hx hy (by rw [aZ]; exact h0)
 rw [aZ, aZ] at this;exact this

theorem Ap (na nb : Bool) (wa wb : List Nat) (ha : wOK wa) (hb : wOK wb) (la : wa.length <= 268435456) (lb : wb.length <= 268435456) :
  Con Tryz.prog 119 [AG (IC na wa), AG (IC nb wb)] { v := AG (ZC (Int.gcd (zv na wa) (zv nb wb) : Int)) } := by
 have h1 : zl ((zv na wa).natAbs : Int) <= 268435456 := by unfold zl; rw [Int.natAbs_natCast, bm]; exact Nat.le_trans (bg ha) la
 have h2 : zl ((zv nb wb).natAbs : Int) <= 268435456 := by unfold zl; rw [Int.natAbs_natCast, bm]; exact Nat.le_trans (bg hb) lb
 have hg : Int.gcd (zv na wa) (zv nb wb) = Nat.gcd (zv na wa).natAbs (zv nb wb).natAbs := rfl
 refine Z2 Tryz.func119 ?_
 intro w0 X
 rw [aq _ _ [(0, AG (IC na wa)), (1, AG (IC nb wb))] rfl rfl];rw [hg];refine gQ fun _ Z9=>?_;refine aB rfl rfl rfl rfl rfl rfl ?_;refine aB rfl rfl rfl rfl rfl rfl ?_;refine av rfl rfl rfl rfl rfl rfl ?_;refine eQ Z9 ?_;clear Z9;refine aA tok mixed (A := [[], [], [], [0], [], [], [2], []]) (an := [{}, {}, { c := [11] }, {}, { c := [11, 13] }, { c := [11, 13, 5] }, {}, {}]) rfl (by kernel_rfl) rfl fun _ Z9=>?_;refine Z6 ?_;refine ab rfl rfl (Ar na wa ha (by omega)) rfl rfl rfl rfl ?_;refine Z6 ?_;refine ab rfl rfl (Ar nb wb hb (by omega)) rfl rfl rfl rfl ?_;refine av rfl rfl rfl rfl rfl rfl ?_;refine av rfl rfl rfl rfl rfl rfl ?_;refine ak rfl rfl rfl rfl rfl ?_;refine ak rfl rfl rfl rfl rfl ?_;refine eQ Z9 ?_;clear Z9;generalize (zv na wa).natAbs = A at *;generalize (zv nb wb).natAbs = B at *;refine ah ?_;refine ar (aN (α := Nat × Nat) (fun p => mk 28 [(4, .ptr 4 0), (5, .ptr 5 0), (6, .ptr 6 0)] [(4, some (.box [.d (.lit (.bool false)), .nil])), (5, some (.box (ZC (p.1 : Int)))), (6, some (.box (ZC (p.2 : Int))))] []) (fun p => zl (p.1 : Int) <= 268435456 /\ zl (p.2 : Int) <= 268435456 /\ Nat.gcd p.1 p.2 = Nat.gcd A B) (fun p => p.2) (A, B) ?_ ⟨h1, h2, rfl⟩ ?_)
 ·exact Wk.mk' ⟨rfl, rfl, rfl, trivial⟩ ⟨rfl, rfl, rfl, trivial⟩
 rintro ⟨m, n⟩ ⟨i1, i2, i3⟩
 simp only at i1 i2 i3
 show AWP _ _ _ _ _ (mk 28 [(4, .ptr 4 0), (5, .ptr 5 0), (6, .ptr 6 0)] [(4, some (.box [.d (.lit (.bool false)), .nil])), (5, some (.box (ZC (m : Int)))), (6, some (.box (ZC (n : Int))))] []);refine ah ?_;refine gQ fun _ Z9=>?_;refine Z4 ?_;refine Z6 ?_;refine ay rfl (aP rfl rfl rfl) rfl ?_;refine Z5 ?_;refine eQ Z9 ?_;clear Z9;refine ap rfl (fun hc => ?_) (fun hc => ?_)
 ·have hn : n ≠ 0 := by
   intro h; subst h
   have : wof ((0 : Nat) : Int).natAbs = [] := rfl
   rw [this] at hc; simp at hc
  refine aj ?_;show AWP _ _ _ _ _ _;refine ar ?_;refine gQ fun _ Z9=>?_;refine Z6 ?_;refine Z6 ?_;refine ab rfl rfl (vS (m : Int) (n : Int) i1 i2 (by omega)) rfl rfl rfl rfl ?_;refine Z8 ?_;refine au rfl rfl rfl ?_;refine au rfl rfl rfl ?_;refine au rfl rfl rfl ?_;refine av rfl rfl rfl rfl rfl rfl ?_;refine av rfl rfl rfl rfl rfl rfl ?_;refine ak rfl rfl rfl rfl rfl ?_;refine ak rfl rfl rfl rfl rfl ?_;refine Z7 ?_;refine eQ Z9 ?_;clear Z9;refine cE tok mixed (A := [[], [], [], []]) (an := [{}, {}, { d := [8] }, {}]) rfl (by kernel_rfl) rfl fun _ Z9=>?_;refine Z6 ?_;refine Z6 ?_;refine ak rfl rfl rfl rfl rfl ?_;refine ak rfl rfl rfl rfl rfl ?_;refine eQ Z9 ?_;clear Z9
  have hmod : (m : Int) % (n : Int) = ((m % n : Nat) : Int) := rfl
  refine ⟨(n, m % n), Nat.mod_lt _ (by omega), ⟨i2, ?_, ?_⟩, Wk.mk' ⟨rfl, rfl, rfl, trivial⟩ ⟨rfl, rfl, by rw [hmod]; rfl, trivial⟩⟩
  ·refine Nat.le_trans ?_ i2;exact bu (by simp only [Int.natAbs_natCast]; exact Nat.le_of_lt (Nat.mod_lt _ (by omega)))
  ·simp only; rw [<- i3, Nat.gcd_comm m n, Nat.gcd_rec n m, Nat.gcd_comm]
 ·have hn : n = 0 := by
   have : wof (n : Int).natAbs = [] := by
    apply List.length_eq_zero_iff.1
    simp at hc; simpa using hc
   rw [eg] at this; omega
  subst hn
  rw [Nat.gcd_zero_right] at i3
  subst i3
  refine az ?_;show AWP _ _ _ _ _ _;refine gQ fun _ Z9=>?_;refine Z6 ?_;refine ak rfl rfl rfl rfl rfl ?_;refine eQ Z9 ?_;clear Z9;exact ai aE
end Go.Proofs.YtnoildlijhapaaaGreatDoor

/- Integers in canonical form; rationals as the program computes them. No condition. -/
namespace Go.Proofs.YtnoildlijhapaaaGreatDoor
attribute [local irreducible] aC

/-! ### Integers in canonical form -/
theorem Cj (x : Int) (hx : zl x <= 268435456) : Con Tryz.prog 118 [AG (ZC x)] { v := AG (ZC (-x)) } := by
 have := s7 (decide (x < 0)) (wof x.natAbs) (aw _) (Nat.le_trans hx (by decide))
 rw [aZ] at this; exact this
theorem s8 (x y : Int) (hx : zl x <= 536870912) (hy : zl y <= 536870912) : Con Tryz.prog 97 [AG (ZC x), AG (ZC y)] { v := AG (ZC (x + y)) } := by
 have := vT (decide (x < 0)) (decide (y < 0)) (wof x.natAbs) (wof y.natAbs) (aw _) (aw _) hx hy
 rw [aZ, aZ] at this; exact this
theorem Ci (x y : Int) (hx : zl x <= 536870912) (hy : zl y <= 536870912) : Con Tryz.prog 206 [AG (ZC x), AG (ZC y)] { v := AG (ZC (x - y)) } := by
 have := DT (decide (x < 0)) (decide (y < 0)) (wof x.natAbs) (wof y.natAbs) (aw _) (aw _) hx hy
 rw [aZ, aZ] at this; exact this
theorem eZ (x y : Int) (hx : zl x <= 536870912) (hy : zl y <= 536870912) : Con Tryz.prog 84 [AG (ZC x), AG (ZC y)] { v := AG (ZC (x * y)) } := by
 have := vR (decide (x < 0)) (decide (y < 0)) (wof x.natAbs) (wof y.natAbs) (aw _) (aw _) hx hy
 rw [aZ, aZ] at this; exact this
theorem kM (na nb : Bool) (wa wb : List Nat) (x y q : Int) (ha : wOK wa) (hb : wOK wb) (la : wa.length <= 268435456) (lb : wb.length <= 268435456) (hx : zv na wa = x) (hy : zv nb wb = y) (h0 : y ≠ 0) (hq : x / y = q) :
  Con Tryz.prog 120 [AG (IC na wa), AG (IC nb wb)] { v := .tup [.agg (ZC q), .agg (ZC (x % y)), .one (.d (lI 0))] } := by
 subst hx hy hq
 exact rM na nb wa wb ha hb la lb h0

/-! ### Rationals -/
def QC (na : Bool) (wa : List Nat) (nb : Bool) (wb : List Nat) : List SC := [.d (.lit (.bool na)), .d (dW wa), .d (.lit (.bool nb)), .d (dW wb)]
def qv (na : Bool) (wa : List Nat) (nb : Bool) (wb : List Nat) : Rat := Rat.divInt (zv na wa) (zv nb wb)
def QZ (q : Rat) : List SC := QC (decide (q.num < 0)) (wof q.num.natAbs) (decide ((q.den : Int) < 0)) (wof (q.den : Int).natAbs)
theorem dw (q : Rat) : qv (decide (q.num < 0)) (wof q.num.natAbs) (decide ((q.den : Int) < 0)) (wof (q.den : Int).natAbs) = q := by
 unfold qv; rw [aZ, aZ, oU]
theorem xu {x y : Int} (h : y ≠ 0) : Int.gcd x y ≠ 0 := by
 intro h'
 have := Int.gcd_eq_zero_iff.1 h'
 exact h this.2
theorem pN (x : Int) {y : Int} (h : y ≠ 0) : zl (Int.gcd x y : Int) <= zl y := by
 unfold zl
 refine bu ?_;rw [Int.natAbs_natCast];exact Nat.gcd_le_right _ (by omega)

theorem sR (na nb : Bool) (wa wb : List Nat) (ha : wOK wa) (hb : wOK wb) (la : wa.length <= 268435456) (lb : wb.length <= 268435456) :
  Con Tryz.prog 79 [AG (IC na wa), AG (IC nb wb)] { v := AG (QZ (Rat.divInt (zv na wa) (zv nb wb))) } := by
 have lza : zl (zv na wa) <= 268435456 := by unfold zl; rw [bm]; exact Nat.le_trans (bg ha) la
 have lzb : zl (zv nb wb) <= 268435456 := by unfold zl; rw [bm]; exact Nat.le_trans (bg hb) lb
 refine Z2 Tryz.func79 ?_
 intro w0 X
 rw [aq _ _ [(0, AG (IC na wa)), (1, AG (IC nb wb))] rfl rfl];refine gQ fun _ Z9=>?_;refine aB rfl rfl rfl rfl rfl rfl ?_;refine aB rfl rfl rfl rfl rfl rfl ?_;refine av rfl rfl rfl rfl rfl rfl ?_;refine eQ Z9 ?_;clear Z9;refine ah ?_;refine gQ fun _ Z9=>?_;refine Z6 ?_;refine ab rfl rfl (em nb wb hb (by omega)) rfl rfl rfl rfl ?_;refine Z5 ?_;refine eQ Z9 ?_;clear Z9;refine ap rfl (fun hc => ?_) (fun hc => ?_)
 ·have h0 : zv nb wb = 0 := Int.sign_eq_zero_iff_zero.1 (by simpa using hc)
  refine gQ fun _ Z9=>?_;refine ab rfl rfl (rL 0 (by unfold I64; omega)) rfl rfl rfl rfl ?_;refine ab rfl rfl (rL 1 (by unfold I64; omega)) rfl rfl rfl rfl ?_;refine aG rfl rfl rfl ?_;refine ak rfl rfl rfl rfl rfl ?_;refine eQ Z9 ?_;clear Z9;exact ai (bf (h3 := by rw [h0, Rat.divInt_zero]; rfl))
 have h0 : zv nb wb ≠ 0 := by intro h; rw [h] at hc; simp at hc
 refine aj ?_;show AWP _ _ _ _ _ _;generalize hx : zv na wa = x at *;generalize hy : zv nb wb = y at *;refine cr [(2, .ptr 2 0), (3, .ptr 3 0), (4, .ptr 4 0)] [(2, some (.box (IC na wa))), (3, some (.box (IC nb wb))), (4, some (.box [.d (.lit (.bool false)), .nil, .d (.lit (.bool false)), .nil]))] ⟨rfl, rfl, rfl, trivial⟩ ⟨rfl, rfl, rfl, trivial⟩ ?_;refine aO (α := (Bool × List Nat) × (Bool × List Nat)) (fun p => mk 45 [(2, .ptr 2 0), (3, .ptr 3 0), (4, .ptr 4 0)] [(2, some (.box (IC p.1.1 p.1.2))), (3, some (.box (IC p.2.1 p.2.2))), (4, some (.box [.d (.lit (.bool false)), .nil, .d (.lit (.bool false)), .nil]))] []) (fun p => wOK p.1.2 /\ wOK p.2.2 /\ p.1.2.length <= 268435456 /\ p.2.2.length <= 268435456 /\ zv p.1.1 p.1.2 = y.sign * x /\ zv p.2.1 p.2.2 = (y.natAbs : Int)) ?_ ?_
 ·refine gQ fun _ Z9=>?_;refine Z6 ?_;refine ab rfl rfl (hy ▸ em nb wb hb (by omega)) rfl rfl rfl rfl ?_;refine Z5 ?_;refine eQ Z9 ?_;clear Z9;refine ap rfl (fun hd => ?_) (fun hd => ?_)
  ·have hd : y < 0 := by
    have h1 : y.sign < 0 := of_decide_eq_true hd
    rcases Int.lt_trichotomy y 0 with h | h | h
    ·exact h
    ·exact absurd h h0
    ·rw [Int.sign_eq_one_of_pos h] at h1; omega
   refine cE tok mixed (A := [[], [], [], [0], [2], []]) (an := [{}, {}, { c := [22] }, {}, {}, {}]) rfl (by kernel_rfl) rfl fun _ Z9=>?_;refine Z6 ?_;refine ab rfl rfl (hx ▸ s7 na wa ha (by omega)) rfl rfl rfl rfl ?_;refine Z6 ?_;refine ab rfl rfl (hy ▸ s7 nb wb hb (by omega)) rfl rfl rfl rfl ?_;refine ak rfl rfl rfl rfl rfl ?_;refine ak rfl rfl rfl rfl rfl ?_;refine eQ Z9 ?_;clear Z9;refine ⟨((decide (-x < 0), wof (-x).natAbs), (decide (-y < 0), wof (-y).natAbs)), ⟨aw _, aw _, ?_, ?_, ?_, ?_⟩, Wk.mk' ⟨rfl, rfl, rfl, trivial⟩ ⟨rfl, rfl, rfl, trivial⟩⟩
   ·show zl (-x) <= _; rw [lH]; exact lza
   ·show zl (-y) <= _; rw [lH]; exact lzb
   ·simp only; rw [aZ, Int.sign_eq_neg_one_of_neg hd]; omega
   ·simp only; rw [aZ]; omega
  ·have hd : 0 < y := by
    have h1 : ¬ y.sign < 0 := of_decide_eq_false hd
    rcases Int.lt_trichotomy y 0 with h | h | h
    ·rw [Int.sign_eq_neg_one_of_neg h] at h1; omega
    ·exact absurd h h0
    ·exact h
   refine aj ?_;refine ⟨((na, wa), (nb, wb)), ⟨ha, hb, la, lb, ?_, ?_⟩, Wk.mk' ⟨rfl, rfl, rfl, trivial⟩ ⟨rfl, rfl, rfl, trivial⟩⟩
   ·simp only; rw [hx, Int.sign_eq_one_of_pos hd]; omega
   ·simp only; rw [hy]; omega
 rintro ⟨⟨na', wa'⟩, ⟨nb', wb'⟩⟩ ⟨oa, ob, ka, kb, va, vb⟩
 simp only at oa ob ka kb va vb
 show AWP _ _ _ _ _ (mk 45 [(2, .ptr 2 0), (3, .ptr 3 0), (4, .ptr 4 0)] [(2, some (.box (IC na' wa'))), (3, some (.box (IC nb' wb'))), (4, some (.box [.d (.lit (.bool false)), .nil, .d (.lit (.bool false)), .nil]))] [])
 have hg : (Int.gcd (zv na' wa') (zv nb' wb') : Int) = (Int.gcd x y : Int) := by
  rw [va, vb]
  show ((Nat.gcd (y.sign * x).natAbs (y.natAbs : Int).natAbs : Nat) : Int) = _
  rw [Int.natAbs_mul, Int.natAbs_natCast]
  have : y.sign.natAbs = 1 := by
   rcases Int.lt_trichotomy y 0 with h | h | h
   ·rw [Int.sign_eq_neg_one_of_neg h]; rfl
   ·exact absurd h h0
   ·rw [Int.sign_eq_one_of_pos h]; rfl
  rw [this, Nat.one_mul]; rfl
 have hgn : (Int.gcd x y : Int) ≠ 0 := by have := xu (x := x) h0; omega
 have hgl : (wof (Int.gcd x y : Int).natAbs).length <= 268435456 := Nat.le_trans (pN x h0) lzb
 refine gQ fun _ Z9=>?_;refine Z6 ?_;refine Z6 ?_;refine ab rfl rfl (hg ▸ Ap na' nb' wa' wb' oa ob ka kb) rfl rfl rfl rfl ?_;refine av rfl rfl rfl rfl rfl rfl ?_;refine ak rfl rfl rfl rfl rfl ?_;refine eQ Z9 ?_;clear Z9;refine gQ fun _ Z9=>?_;refine Z6 ?_;refine Z6 ?_;refine ab rfl rfl (kM na' (decide ((Int.gcd x y : Int) < 0)) wa' (wof (Int.gcd x y : Int).natAbs) (y.sign * x) (Int.gcd x y : Int) (Rat.divInt x y).num oa (aw _) ka hgl va (aZ _) hgn (xe x y).symm) rfl rfl rfl rfl ?_;refine Z8 ?_;refine au rfl rfl rfl ?_;refine au rfl rfl rfl ?_;refine au rfl rfl rfl ?_;refine av rfl rfl rfl rfl rfl rfl ?_;refine av rfl rfl rfl rfl rfl rfl ?_;refine ak rfl rfl rfl rfl rfl ?_;refine ak rfl rfl rfl rfl rfl ?_;refine Z7 ?_;refine eQ Z9 ?_;clear Z9;refine gQ fun _ Z9=>?_;refine Z6 ?_;refine Z6 ?_;refine ab rfl rfl (kM nb' (decide ((Int.gcd x y : Int) < 0)) wb' (wof (Int.gcd x y : Int).natAbs) (y.natAbs : Int) (Int.gcd x y : Int) ((Rat.divInt x y).den : Int) ob (aw _) kb hgl vb (aZ _) hgn (xy h0).symm) rfl rfl rfl rfl ?_;refine Z8 ?_;refine au rfl rfl rfl ?_;refine au rfl rfl rfl ?_;refine au rfl rfl rfl ?_;refine av rfl rfl rfl rfl rfl rfl ?_;refine av rfl rfl rfl rfl rfl rfl ?_;refine ak rfl rfl rfl rfl rfl ?_;refine ak rfl rfl rfl rfl rfl ?_;refine Z7 ?_;refine eQ Z9 ?_;clear Z9;refine gQ fun _ Z9=>?_;refine Z6 ?_;refine Z6 ?_;refine aG rfl rfl rfl ?_;refine ak rfl rfl rfl rfl rfl ?_;refine eQ Z9 ?_;clear Z9;exact ai aE

theorem ub (n d : Int) (hn : I64 n) (hd : I64 d) : Con Tryz.prog 35 [dI n, dI d] { v := AG (QZ (Rat.divInt n d)) } := by
 have h1 := nA hn
 have h2 := nA hd
 have hz : Rat.divInt (zv (decide (n < 0)) (wof n.natAbs)) (zv (decide (d < 0)) (wof d.natAbs)) = Rat.divInt n d := by rw [aZ, aZ]
 refine Z2 Tryz.func35 ?_
 intro w0 X
 rw [aq _ _ [(0, dI n), (1, dI d)] rfl rfl];refine gQ fun _ Z9=>?_;refine av rfl rfl rfl rfl rfl rfl ?_;refine eQ Z9 ?_;clear Z9;refine gQ fun _ Z9=>?_;refine Z8 ?_;refine ab rfl rfl (rL n hn) rfl rfl rfl rfl ?_;refine Z8 ?_;refine ab rfl rfl (rL d hd) rfl rfl rfl rfl ?_;refine ab rfl rfl (hz ▸ sR (decide (n < 0)) (decide (d < 0)) (wof n.natAbs) (wof d.natAbs) (aw _) (aw _) (Nat.le_trans h1 (by decide)) (Nat.le_trans h2 (by decide))) rfl rfl rfl rfl ?_;refine ak rfl rfl rfl rfl rfl ?_;refine eQ Z9 ?_;clear Z9;exact ai aE

theorem pw (x y : Int) (q : Rat) (hx : zl x <= 268435456) (hy : zl y <= 268435456) (h : Rat.divInt x y = q) : Con Tryz.prog 79 [AG (ZC x), AG (ZC y)] { v := AG (QZ q) } := by
 have := sR (decide (x < 0)) (decide (y < 0)) (wof x.natAbs) (wof y.natAbs) (aw _) (aw _) hx hy
 rw [aZ, aZ, h] at this; exact this

theorem sQ (na nb : Bool) (wa wb : List Nat) (ha : wOK wa) (hb : wOK wb) (la : wa.length <= 268435456) (lb : wb.length <= 268435456) :
  Con Tryz.prog 82 [AG (QC na wa nb wb)] { v := AG (QZ (qv na wa nb wb)) } := by
 refine Z2 Tryz.func82 ?_
 intro w0 X
 rw [aq _ _ [(0, AG (QC na wa nb wb))] rfl rfl];refine gQ fun _ Z9=>?_;refine aB rfl rfl rfl rfl rfl rfl ?_;refine av rfl rfl rfl rfl rfl rfl ?_;refine eQ Z9 ?_;clear Z9;refine gQ fun _ Z9=>?_;refine Z4 ?_;refine Z6 ?_;refine Z4 ?_;refine Z6 ?_;refine ab rfl rfl (sR na nb wa wb ha hb la lb) rfl rfl rfl rfl ?_;refine ak rfl rfl rfl rfl rfl ?_;refine eQ Z9 ?_;clear Z9;exact ai aE

theorem zT (na nb : Bool) (wa wb : List Nat) (ha : wOK wa) (hb : wOK wb) (la : wa.length <= 268435456) (lb : wb.length <= 268435456) :
  Con Tryz.prog 81 [AG (QC na wa nb wb)] { v := AG (QZ (-(qv na wa nb wb))) } := by
 have hz : Rat.divInt (zv (decide (-(zv na wa) < 0)) (wof (-(zv na wa)).natAbs)) (zv nb wb) = -(qv na wa nb wb) := by rw [aZ]; unfold qv; rw [Rat.neg_divInt]
 have hl : (wof (-(zv na wa)).natAbs).length <= 268435456 := by rw [Int.natAbs_neg, bm]; exact Nat.le_trans (bg ha) la
 refine Z2 Tryz.func81 ?_
 intro w0 X
 rw [aq _ _ [(0, AG (QC na wa nb wb))] rfl rfl];refine gQ fun _ Z9=>?_;refine aB rfl rfl rfl rfl rfl rfl ?_;refine av rfl rfl rfl rfl rfl rfl ?_;refine eQ Z9 ?_;clear Z9;refine aA tok mixed (A := [[], [], [0], [], [], [0, 1, 3], []]) (an := [{}, {}, {}, { c := [5] }, { c := [5] }, {}, {}]) rfl (by kernel_rfl) rfl fun _ Z9=>?_;refine Z4 ?_;refine Z6 ?_;refine ab rfl rfl (s7 na wa ha (by omega)) rfl rfl rfl rfl ?_;refine Z4 ?_;refine Z6 ?_;refine ab rfl rfl (hz ▸ sR (decide (-(zv na wa) < 0)) nb (wof (-(zv na wa)).natAbs) wb (aw _) hb hl lb) rfl rfl rfl rfl ?_;refine ak rfl rfl rfl rfl rfl ?_;refine eQ Z9 ?_;clear Z9;exact ai aE

theorem zU (na nb nc nd : Bool) (wa wb wc wd : List Nat) (ha : wOK wa) (hb : wOK wb) (hc : wOK wc) (hd : wOK wd) (la : wa.length <= 16777216) (lb : wb.length <= 16777216) (lc : wc.length <= 16777216) (ld : wd.length <= 16777216) :
  Con Tryz.prog 54 [AG (QC na wa nb wb), AG (QC nc wc nd wd)] { v := AG (QZ (qv na wa nb wb + qv nc wc nd wd)) } := by
 have hx : ql (qv na wa nb wb) <= 16777217 := by
  refine Nat.le_trans (eC _ _) ?_
  have h1 := bg ha
  have h2 := bg hb
  unfold zl wl; rw [bm, bm]; omega
 have hy : ql (qv nc wc nd wd) <= 16777217 := by
  refine Nat.le_trans (eC _ _) ?_
  have h1 := bg hc
  have h2 := bg hd
  unfold zl wl; rw [bm, bm]; omega
 refine Z2 Tryz.func54 ?_
 intro w0 X
 rw [aq _ _ [(0, AG (QC na wa nb wb)), (1, AG (QC nc wc nd wd))] rfl rfl];refine gQ fun _ Z9=>?_;refine aB rfl rfl rfl rfl rfl rfl ?_;refine aB rfl rfl rfl rfl rfl rfl ?_;refine av rfl rfl rfl rfl rfl rfl ?_;refine eQ Z9 ?_;clear Z9;refine aA tok mixed (A := [[], [], [], [0], [2], []]) (an := [{}, {}, { c := [6] }, {}, {}, {}]) rfl (by kernel_rfl) rfl fun _ Z9=>?_;refine Z6 ?_;refine ab rfl rfl (sQ na nb wa wb ha hb (by omega) (by omega)) rfl rfl rfl rfl ?_;refine Z6 ?_;refine ab rfl rfl (sQ nc nd wc wd hc hd (by omega) (by omega)) rfl rfl rfl rfl ?_;refine ak rfl rfl rfl rfl rfl ?_;refine ak rfl rfl rfl rfl rfl ?_;refine eQ Z9 ?_;clear Z9;generalize qv na wa nb wb = x at *;generalize qv nc wc nd wd = y at *
 have a1 := cb x
 have a2 := cp x
 have b1 := cb y
 have b2 := cp y
 have m1 := bN x.num y.den
 have m2 := bN y.num x.den
 have m3 := bN x.den y.den
 have m4 := jY (x.num * y.den) (y.num * x.den)
 refine cr [(2, .ptr 2 0), (3, .ptr 3 0), (4, .ptr 4 0)] [(2, some (.box (QZ x))), (3, some (.box (QZ y))), (4, some (.box [.d (.lit (.bool false)), .nil, .d (.lit (.bool false)), .nil]))] ⟨rfl, rfl, rfl, trivial⟩ ⟨rfl, rfl, rfl, trivial⟩ ?_;refine aA tok mixed (A := [[], [], [], [], [0, 2], [], [], [], [], [0, 1, 2, 3, 5, 7], [0, 1, 2, 3, 5, 6, 7, 8], [], [], [], [], [0, 1, 2, 3, 4, 5, 6, 7, 8, 9, 11, 13], [0, 1, 2, 3, 4, 5, 6, 7, 8, 9, 11, 12, 13, 14], []]) (an := [{}, {}, {}, {}, {}, { c := [13] }, { c := [13] }, { c := [13] }, { c := [13] }, {}, {}, { c := [13, 18, 19] }, { c := [13, 18, 19] }, { c := [13, 18, 19] }, { c := [13, 18, 19] }, {}, {}, {}]) rfl (by kernel_rfl) rfl fun _ Z9=>?_;refine Z4 ?_;refine Z6 ?_;refine Z4 ?_;refine Z6 ?_;refine ab rfl rfl (eZ x.num y.den (by omega) (by omega)) rfl rfl rfl rfl ?_;refine Z4 ?_;refine Z6 ?_;refine Z4 ?_;refine Z6 ?_;refine ab rfl rfl (eZ y.num x.den (by omega) (by omega)) rfl rfl rfl rfl ?_;refine ab rfl rfl (s8 (x.num * y.den) (y.num * x.den) (by omega) (by omega)) rfl rfl rfl rfl ?_;refine Z4 ?_;refine Z6 ?_;refine Z4 ?_;refine Z6 ?_;refine ab rfl rfl (eZ x.den y.den (by omega) (by omega)) rfl rfl rfl rfl ?_;refine ab rfl rfl (pw (x.num * y.den + y.num * x.den) ((x.den : Int) * y.den) (x + y) (by omega) (by omega) (l6 x y).symm) rfl rfl rfl rfl ?_;refine ak rfl rfl rfl rfl rfl ?_;refine eQ Z9 ?_;clear Z9;exact ai aE

theorem Dz (na nb nc nd : Bool) (wa wb wc wd : List Nat) (ha : wOK wa) (hb : wOK wb) (hc : wOK wc) (hd : wOK wd) (la : wa.length <= 16777216) (lb : wb.length <= 16777216) (lc : wc.length <= 16777215) (ld : wd.length <= 16777215) :
  Con Tryz.prog 36 [AG (QC na wa nb wb), AG (QC nc wc nd wd)] { v := AG (QZ (qv na wa nb wb - qv nc wc nd wd)) } := by
 have hy : ql (-(qv nc wc nd wd)) <= 16777216 := by
  rw [sO];refine Nat.le_trans (eC _ _) ?_
  have h1 := bg hc
  have h2 := bg hd
  unfold zl wl; rw [bm, bm]; omega
 have h1 := cb (-(qv nc wc nd wd))
 have h2 := cp (-(qv nc wc nd wd))
 have hz : qv na wa nb wb + qv (decide ((-(qv nc wc nd wd)).num < 0)) (wof (-(qv nc wc nd wd)).num.natAbs) (decide (((-(qv nc wc nd wd)).den : Int) < 0)) (wof ((-(qv nc wc nd wd)).den : Int).natAbs) = qv na wa nb wb - qv nc wc nd wd := by
  rw [dw, Rat.sub_eq_add_neg]
 refine Z2 Tryz.func36 ?_
 intro w0 X
 rw [aq _ _ [(0, AG (QC na wa nb wb)), (1, AG (QC nc wc nd wd))] rfl rfl];refine gQ fun _ Z9=>?_;refine aB rfl rfl rfl rfl rfl rfl ?_;refine aB rfl rfl rfl rfl rfl rfl ?_;refine av rfl rfl rfl rfl rfl rfl ?_;refine eQ Z9 ?_;clear Z9;refine aA tok mixed (A := [[], [], [], [1], []]) (an := [{}, {}, {}, {}, {}]) rfl (by kernel_rfl) rfl fun _ Z9=>?_;refine Z6 ?_;refine Z6 ?_;refine ab rfl rfl (zT nc nd wc wd hc hd (by omega) (by omega)) rfl rfl rfl rfl ?_;refine ab rfl rfl (hz ▸ zU na nb _ _ wa wb _ _ ha hb (aw _) (aw _) la lb (Nat.le_trans h1 hy) (Nat.le_trans h2 hy)) rfl rfl rfl rfl ?_;refine ak rfl rfl rfl rfl rfl ?_;refine eQ Z9 ?_;clear Z9;exact ai aE

theorem DE (na nb nc nd : Bool) (wa wb wc wd : List Nat) (ha : wOK wa) (hb : wOK wb) (hc : wOK wc) (hd : wOK wd) (la : wa.length <= 16777216) (lb : wb.length <= 16777216) (lc : wc.length <= 16777216) (ld : wd.length <= 16777216) :
  Con Tryz.prog 93 [AG (QC na wa nb wb), AG (QC nc wc nd wd)] { v := AG (QZ (qv na wa nb wb * qv nc wc nd wd)) } := by
 have z1 : zl (zv na wa) <= 16777216 := by unfold zl; rw [bm]; exact Nat.le_trans (bg ha) la
 have z2 : zl (zv nb wb) <= 16777216 := by unfold zl; rw [bm]; exact Nat.le_trans (bg hb) lb
 have z3 : zl (zv nc wc) <= 16777216 := by unfold zl; rw [bm]; exact Nat.le_trans (bg hc) lc
 have z4 : zl (zv nd wd) <= 16777216 := by unfold zl; rw [bm]; exact Nat.le_trans (bg hd) ld
 have m1 := bN (zv na wa) (zv nc wc)
 have m2 := bN (zv nb wb) (zv nd wd)
 have hz : Rat.divInt (zv na wa * zv nc wc) (zv nb wb * zv nd wd) = qv na wa nb wb * qv nc wc nd wd := by unfold qv; rw [Rat.divInt_mul_divInt]
 refine Z2 Tryz.func93 ?_
 intro w0 X
 rw [aq _ _ [(0, AG (QC na wa nb wb)), (1, AG (QC nc wc nd wd))] rfl rfl];refine gQ fun _ Z9=>?_;refine aB rfl rfl rfl rfl rfl rfl ?_;refine aB rfl rfl rfl rfl rfl rfl ?_;refine av rfl rfl rfl rfl rfl rfl ?_;refine eQ Z9 ?_;clear Z9;refine aA tok mixed (A := [[], [], [], [], [0, 2], [], [], [], [], [0, 1, 2, 3, 5, 7], [0, 1, 2, 3, 5, 6, 7, 8], []]) (an := [{}, {}, {}, {}, {}, { c := [9] }, { c := [9] }, { c := [9] }, { c := [9] }, {}, {}, {}]) rfl (by kernel_rfl) rfl fun _ Z9=>?_;refine Z4 ?_;refine Z6 ?_;refine Z4 ?_;refine Z6 ?_;refine ab rfl rfl (vR na nc wa wc ha hc (by omega) (by omega)) rfl rfl rfl rfl ?_;refine Z4 ?_;refine Z6 ?_;refine Z4 ?_;refine Z6 ?_;refine ab rfl rfl (vR nb nd wb wd hb hd (by omega) (by omega)) rfl rfl rfl rfl ?_;refine ab rfl rfl (pw (zv na wa * zv nc wc) (zv nb wb * zv nd wd) _ (by omega) (by omega) hz) rfl rfl rfl rfl ?_;refine ak rfl rfl rfl rfl rfl ?_;refine eQ Z9 ?_;clear Z9;exact ai aE

theorem jM {na nb : Bool} {wa wb : List Nat} {k : Nat} (ha : wOK wa) (hb : wOK wb) (la : wa.length <= k) (lb : wb.length <= k) (hk : 1 <= k) : ql (qv na wa nb wb) <= k := by
 refine Nat.le_trans (eC _ _) ?_
 have h1 := bg ha
 have h2 := bg hb
 unfold zl wl; rw [bm, bm]; omega
theorem lT (x y : Rat) (na nb nc nd : Bool) (wa wb wc wd : List Nat) (ha : wOK wa) (hb : wOK wb) (hc : wOK wc) (hd : wOK wd) (la : wa.length <= 16777216) (lb : wb.length <= 16777216) (lc : wc.length <= 16777216) (ld : wd.length <= 16777216)
  (hx : qv na wa nb wb = x) (hy : qv nc wc nd wd = y) :
  Con Tryz.prog 93 [AG (QC na wa nb wb), AG (QC nc wc nd wd)] { v := AG (QZ (x * y)) } := by
 subst hx hy
 exact DE na nb nc nd wa wb wc wd ha hb hc hd la lb lc ld
theorem sS (x y : Rat) (na nb nc nd : Bool) (wa wb wc wd : List Nat) (ha : wOK wa) (hb : wOK wb) (hc : wOK wc) (hd : wOK wd) (la : wa.length <= 16777216) (lb : wb.length <= 16777216) (lc : wc.length <= 16777216) (ld : wd.length <= 16777216)
  (hx : qv na wa nb wb = x) (hy : qv nc wc nd wd = y) :
  Con Tryz.prog 54 [AG (QC na wa nb wb), AG (QC nc wc nd wd)] { v := AG (QZ (x + y)) } := by
 subst hx hy
 exact zU na nb nc nd wa wb wc wd ha hb hc hd la lb lc ld
theorem B6 (x y : Rat) (hx : ql x <= 16777216) (hy : ql y <= 16777216) : Con Tryz.prog 54 [AG (QZ x), AG (QZ y)] { v := AG (QZ (x + y)) } :=
 sS x y _ _ _ _ _ _ _ _ (aw _) (aw _) (aw _) (aw _) (Nat.le_trans (cb x) hx) (Nat.le_trans (cp x) hx) (Nat.le_trans (cb y) hy) (Nat.le_trans (cp y) hy) (dw x) (dw y)
theorem zR (x y : Rat) (na nb nc nd : Bool) (wa wb wc wd : List Nat) (ha : wOK wa) (hb : wOK wb) (hc : wOK wc) (hd : wOK wd) (la : wa.length <= 16777215) (lb : wb.length <= 16777215) (lc : wc.length <= 16777215) (ld : wd.length <= 16777215)
  (hx : qv na wa nb wb = x) (hy : qv nc wc nd wd = y) :
  Con Tryz.prog 36 [AG (QC na wa nb wb), AG (QC nc wc nd wd)] { v := AG (QZ (x - y)) } := by
 subst hx hy
 exact Dz na nb nc nd wa wb wc wd ha hb hc hd (by omega) (by omega) lc ld
theorem B5 (x y : Rat) (hx : ql x <= 16777215) (hy : ql y <= 16777215) : Con Tryz.prog 36 [AG (QZ x), AG (QZ y)] { v := AG (QZ (x - y)) } :=
 zR x y _ _ _ _ _ _ _ _ (aw _) (aw _) (aw _) (aw _) (Nat.le_trans (cb x) hx) (Nat.le_trans (cp x) hx) (Nat.le_trans (cb y) hy) (Nat.le_trans (cp y) hy) (dw x) (dw y)
end Go.Proofs.YtnoildlijhapaaaGreatDoor

/- The reference's integers: words trimmed, compared, added, subtracted. No condition. -/
namespace Go.Proofs.YtnoildlijhapaaaGreatDoor
attribute [local irreducible] aC

theorem dg (ws : List Nat) (hw : wOK ws) (hl : ws.length <= 1073741824) : Con Tryz.prog 172 [V1 (dW ws)] { v := V1 (dW (wof (wv ws))) } := by
 rw [<- gC hw];refine Z2 Tryz.func172 ?_
 intro w0 X
 rw [aq _ _ [(0, V1 (dW ws))] rfl rfl];refine gQ fun _ Z9=>?_;refine Z7 ?_;refine eQ Z9 ?_;clear Z9;refine ah ?_;refine ar (aN (α := List Nat) (fun us => mk 23 [(0, V1 (dW us))] [] []) (fun us => us.length <= ws.length /\ dC us = dC ws) List.length ws ?_ ⟨Nat.le_refl _, rfl⟩ ?_)
 ·exact Wk.mk' ⟨rfl, trivial⟩ trivial
 rintro us ⟨hle, hus⟩
 refine ah ?_;refine aO (α := Bool) (fun c => mk 23 [(0, V1 (dW us)), (14, dB c)] [] []) (fun c => (c = true -> ∃ vs, us = vs ++ [0]) /\ (c = false -> dC us = us)) ?_ ?_
 ·refine gR fun _ Z9=>?_;refine Z8 ?_;refine ay rfl (aP rfl rfl rfl) rfl ?_;refine Z5 ?_;refine Z8 ?_;refine db (fun hb => ?_) (fun hb => ?_)
  ·rcases List.eq_nil_or_concat us with rfl | ⟨vs, x, rfl⟩
   ·simp at hb
   rw [List.concat_eq_append] at *;simp only [List.length_append, List.length_singleton] at *;refine Z8 ?_;refine Z8 ?_;refine ay rfl (aP rfl rfl (List.length_append)) rfl ?_;refine am rfl (bE (c := (vs.length : Int)) (by simp) (by omega)) rfl ?_;refine ac rfl (x_w (i := vs.length) rfl rfl rfl rfl rfl (by simp)) rfl ?_;refine Z6 ?_;refine Z5 ?_;refine Z3 ?_;refine eQ Z9 ?_;clear Z9;refine ⟨_, ⟨fun h => ?_, fun h => ?_⟩, Wk.mk' ⟨rfl, rfl, trivial⟩ trivial⟩
   ·have hx : x = 0 := by simpa using h
    exact ⟨vs, by rw [hx]⟩
   ·have hx : x ≠ 0 := by simpa using h
    exact jh _ hx
  ·have hu : us = [] := by simpa using hb
   subst hu
   refine ag rfl ?_;refine ag rfl ?_;refine ag rfl ?_;refine ag rfl ?_;refine ag rfl ?_;refine ag rfl ?_;refine ag rfl ?_;refine Z3 ?_;refine eQ Z9 ?_;clear Z9;exact ⟨false, ⟨fun h => (by cases h), fun _ => rfl⟩, Wk.mk' ⟨rfl, rfl, trivial⟩ trivial⟩
 rintro c ⟨h1, h2⟩
 refine ap rfl (fun hc => ?_) (fun hc => ?_)
 ·obtain ⟨vs, rfl⟩ := h1 hc
  simp only [List.length_append, List.length_singleton] at *;refine aj ?_;show AWP _ _ _ _ _ _;refine ar ?_;refine gR fun _ Z9=>?_;refine Z8 ?_;refine Z8 ?_;refine ay rfl (aP rfl rfl (List.length_append)) rfl ?_;refine am rfl (bE (c := (vs.length : Int)) (by simp) (by omega)) rfl ?_;refine mC rfl rfl rfl (Dj (lo := 0) (hi := vs.length) rfl rfl rfl rfl rfl rfl (by omega) (by simp)) rfl ?_;refine Z7 ?_;refine eQ Z9 ?_;clear Z9;exact ⟨vs, by simp, ⟨by omega, by rw [<- hus, im]⟩, Wk.mk' ⟨by show V1 _ = _; simp, trivial⟩ trivial⟩
 ·have h2 := h2 hc
  refine az ?_;show AWP _ _ _ _ _ _;refine gQ fun _ Z9=>?_;refine aI rfl rfl rfl rfl ?_;refine Z8 ?_;refine bK rfl (n9 (es := []) rfl rfl rfl rfl rfl rfl (by decide) (Nat.le_of_ble_eq_true rfl) rfl tu rfl rfl rfl (by simp; omega)) rfl rfl rfl ?_;refine Z7 ?_;refine eQ Z9 ?_;clear Z9;refine eL [2] [22] 22 [(2, V1 (dW us))] [] rfl ?_ trivial ?_
  ·exact ⟨i6 (by simp) (by simp), trivial⟩
  exact ai (bf (h3 := by rw [<- hus, h2]; rfl))

theorem iS (n : Bool) (w : List Nat) (hw : wOK w) (hl : w.length <= 1073741824) : Con Tryz.prog 148 [AG (IC n w)] { v := AG (ZC (zv n w)) } := by
 have hz : ZC (zv n w) = IC (n && decide (wv w ≠ 0)) (wof (wv w)) := by rw [xk hw, gC hw]
 have h0 : decide (((wof (wv w)).length : Int) > 0) = decide (wv w ≠ 0) := by
  have := eg (n := wv w)
  by_cases h : wv w = 0
  ·rw [h]; rfl
  ·have h1 : wof (wv w) ≠ [] := fun h' => h (this.1 h')
   have h2 := List.length_pos_iff.2 h1
   simp [h]; omega
 refine Z2 Tryz.func148 ?_
 intro w0 X
 rw [aq _ _ [(0, AG (IC n w))] rfl rfl];refine gQ fun _ Z9=>?_;refine aB rfl rfl rfl rfl rfl rfl ?_;refine av rfl rfl rfl rfl rfl rfl ?_;refine eQ Z9 ?_;clear Z9;refine gQ fun _ Z9=>?_;refine Z4 ?_;refine Z6 ?_;refine ab rfl rfl (dg w hw hl) rfl rfl rfl rfl ?_;refine Z7 ?_;refine eQ Z9 ?_;clear Z9;refine gQ fun _ Z9=>?_;refine Z4 ?_;refine Z6 ?_;refine Z8 ?_;refine db (fun hn => ?_) (fun hn => ?_)
 ·have hn : n = true := hn
  subst hn
  refine Z8 ?_;refine ay rfl (aP rfl rfl rfl) rfl ?_;refine Z5 ?_;refine Z3 ?_;refine Z8 ?_;refine aG rfl rfl rfl ?_;refine ak rfl rfl rfl rfl rfl ?_;refine eQ Z9 ?_;clear Z9;exact ai (bf (h3 := by rw [hz, Bool.true_and, <- h0]; rfl))
 ·have hn : n = false := hn
  subst hn
  refine ag rfl ?_;refine ag rfl ?_;refine ag rfl ?_;refine Z3 ?_;refine Z8 ?_;refine aG rfl rfl rfl ?_;refine ak rfl rfl rfl rfl rfl ?_;refine eQ Z9 ?_;clear Z9;exact ai (bf (h3 := by rw [hz, Bool.false_and]; rfl))

theorem ke (n : Int) (hn : I64 n) : Con Tryz.prog 104 [dI n] { v := AG (ZC n) } := by
 unfold I64 at hn
 refine Z2 Tryz.func104 ?_
 intro w0 X
 rw [aq _ _ [(0, dI n)] rfl rfl];refine gQ fun _ Z9=>?_;refine av rfl rfl rfl rfl rfl rfl ?_;refine eQ Z9 ?_;clear Z9;refine gQ fun _ Z9=>?_;refine Z8 ?_;refine aQ rfl (aR (m := ((n % 18446744073709551616).toNat : Int)) rfl rfl rfl (by rw [oh]; omega)) rfl ?_;refine Z7 ?_;refine eQ Z9 ?_;clear Z9;refine aO (α := Unit) (fun _ => mk 20 [(0, dI n), (2, .ptr 2 0), (3, dL n.natAbs)] [(2, some (.box [.d (.lit (.bool false)), .nil]))] []) (fun _ => True) ?_ ?_
 ·refine gQ fun _ Z9=>?_;refine Z8 ?_;refine Z5 ?_;refine eQ Z9 ?_;clear Z9;refine ap rfl (fun hc => ?_) (fun hc => ?_)
  ·have hc : n < 0 := by simpa using hc
   refine gR fun _ Z9=>?_;refine Z8 ?_;refine bd rfl rfl rfl ?_;refine Z7 ?_;refine eQ Z9 ?_;clear Z9;refine ⟨(), trivial, Wk.mk' ⟨rfl, rfl, ?_, trivial⟩ ⟨rfl, trivial⟩⟩
   show V1 (.lit (.int .u64 (IntKind.u64.wrap (0 - ((n % 18446744073709551616).toNat : Int))))) = _
   rw [oh]
   have : (0 - ((n % 18446744073709551616).toNat : Int)) % 18446744073709551616 = (n.natAbs : Int) := by omega
   rw [this]
  ·have hc : ¬ n < 0 := by simpa using hc
   refine aj ?_;refine ⟨(), trivial, Wk.mk' ⟨rfl, rfl, ?_, trivial⟩ ⟨rfl, trivial⟩⟩
   show dL _ = dL _
   have : (n % 18446744073709551616).toNat = n.natAbs := by omega
   rw [this]
 rintro - -
 have hd : n.natAbs / 2 ^ 32 % 4294967296 = n.natAbs / 4294967296 := by show n.natAbs / 4294967296 % 4294967296 = _; omega
 have hv : zv (decide (n < 0)) [n.natAbs % 4294967296, n.natAbs / 2 ^ 32 % 4294967296] = n := by unfold zv; simp only [wv, hd]; by_cases h : n < 0 <;> simp [h] <;> omega
 refine bh fun _ Z9=>?_;refine aa tok rfl ?_;refine Z8 ?_;refine ae ?_;refine aa tok rfl ?_;refine Z5 ?_;refine ae ?_;refine aa tok rfl ?_;refine Z8 ?_;refine ae ?_;refine aa tok rfl ?_;refine aQ rfl (aR rfl rfl rfl (dZ _)) rfl ?_;refine ae ?_;refine aa tok rfl ?_;refine Z8 ?_;refine ae ?_;refine aa tok rfl ?_;refine am rfl (jD (s := 32) (by omega) rfl) rfl ?_;refine ae ?_;refine aa tok rfl ?_;refine aQ rfl (aR rfl rfl rfl (dZ _)) rfl ?_;refine ae ?_;refine aa tok rfl ?_;refine aI rfl rfl rfl rfl ?_;refine ae ?_;refine sh (Wk.fzNew rfl rfl rfl) ?_;refine aa tok rfl ?_;refine aG rfl rfl rfl ?_;refine ae ?_;refine aa tok rfl ?_;refine ab rfl rfl (iS (decide (n < 0)) [n.natAbs % 4294967296, n.natAbs / 2 ^ 32 % 4294967296] (fun x hx => by simp at hx; omega) (by simp)) rfl rfl rfl rfl ?_;refine ae ?_;refine aa tok rfl ?_;refine ak rfl rfl rfl rfl rfl ?_;refine ae ?_;refine aS rfl (Z9 _ ?_); clear Z9;exact ai (bf (h3 := by rw [hv]; rfl))

theorem pp (a b : List Nat) (ha : wOK a) (hb : wOK b) (ta : jZ a) (tb : jZ b) (la : a.length <= 1073741824) (lb : b.length <= 1073741824) :
  Con Tryz.prog 151 [V1 (dW a), V1 (dW b)] { v := dI (gX (wv a) (wv b)) } := by
 refine Z2 Tryz.func151 ?_
 intro w0 X
 rw [aq _ _ [(0, V1 (dW a)), (1, V1 (dW b))] rfl rfl];refine gQ fun _ Z9=>?_;refine Z7 ?_;refine eQ Z9 ?_;clear Z9;refine ah ?_;refine gQ fun _ Z9=>?_;refine Z8 ?_;refine ay rfl (aP rfl rfl rfl) rfl ?_;refine Z8 ?_;refine ay rfl (aP rfl rfl rfl) rfl ?_;refine Z5 ?_;refine eQ Z9 ?_;clear Z9;refine ap rfl (fun hc => ?_) (fun hc => ?_)
 ·have hc : a.length ≠ b.length := by simp at hc; omega
  refine ah ?_;refine gQ fun _ Z9=>?_;refine Z8 ?_;refine ay rfl (aP rfl rfl rfl) rfl ?_;refine Z8 ?_;refine ay rfl (aP rfl rfl rfl) rfl ?_;refine Z5 ?_;refine eQ Z9 ?_;clear Z9;refine ap rfl (fun hd => ?_) (fun hd => ?_)
  ·have hd : a.length < b.length := by simp at hd; omega
   refine gQ fun _ Z9=>?_;refine Z7 ?_;refine eQ Z9 ?_;clear Z9;exact ai (bf (h3 := by have := iL ha tb hd; unfold gX; rw [if_pos this]; rfl))
  ·have hd : b.length < a.length := by simp at hd; omega
   refine aj ?_;show AWP _ _ _ _ _ _;refine gQ fun _ Z9=>?_;refine Z7 ?_;refine eQ Z9 ?_;clear Z9;exact ai (bf (h3 := by have := iL hb ta hd; unfold gX; rw [if_neg (by omega), if_pos this]; rfl))
 have hc : a.length = b.length := by simp at hc; omega
 refine aj ?_;show AWP _ _ _ _ _ _;refine ah ?_;refine gQ fun _ Z9=>?_;refine Z8 ?_;refine ay rfl (aP rfl rfl rfl) rfl ?_;refine am rfl (bE rfl (by omega)) rfl ?_;refine Z7 ?_;refine eQ Z9 ?_;clear Z9;refine ar (aN (α := Nat) (fun k => mk 41 [(0, V1 (dW a)), (1, V1 (dW b)), (5, dI ((k : Int) - 1))] [] []) (fun k => k <= a.length /\ a.drop k = b.drop k) (fun k => k) a.length ?_ ⟨Nat.le_refl _, by simp [hc]⟩ ?_)
 ·exact Wk.mk' ⟨rfl, rfl, rfl, trivial⟩ trivial
 rintro k ⟨hk, hdr⟩
 refine ah ?_;refine gQ fun _ Z9=>?_;refine Z8 ?_;refine Z5 ?_;refine eQ Z9 ?_;clear Z9;refine ap rfl (fun hg => ?_) (fun hg => ?_)
 ·obtain ⟨j, rfl⟩ : ∃ j, k = j + 1 := ⟨k - 1, by simp at hg; omega⟩
  refine aj ?_;show AWP _ _ _ _ _ _;refine ah ?_;refine ar ?_
  have hja : j < a.length := by omega
  have hjb : j < b.length := by omega
  refine ah ?_;refine cr [(0, V1 (dW a)), (1, V1 (dW b)), (5, dI j)] [] ⟨rfl, rfl, by exact qT (by omega), trivial⟩ trivial ?_;refine aA tok mixed (A := [[], [], [], [0, 1], [], [], [], [4, 5], [0, 1, 2, 4, 5, 6]]) (an := [{}, {}, {}, {}, {}, {}, {}, {}, {}]) rfl (by kernel_rfl) rfl fun _ Z9=>?_;refine Z8 ?_;refine Z8 ?_;refine ac rfl (x_w (i := j) rfl rfl rfl rfl rfl hja) rfl ?_;refine Z6 ?_;refine Z8 ?_;refine Z8 ?_;refine ac rfl (x_w (i := j) rfl rfl rfl rfl rfl hjb) rfl ?_;refine Z6 ?_;refine Z5 ?_;refine eQ Z9 ?_;clear Z9;refine ap rfl (fun hl => ?_) (fun hl => ?_)
  ·have hl : a[j] < b[j] := by simp at hl; omega
   refine gQ fun _ Z9=>?_;refine Z7 ?_;refine eQ Z9 ?_;clear Z9;exact ai (bf (h3 := by have := pg ha hc (by omega) hdr hl; unfold gX; rw [if_pos this]; rfl))
  have hl : b[j] <= a[j] := by simp at hl; omega
  refine aj ?_;show AWP _ _ _ _ _ _;refine cr [(0, V1 (dW a)), (1, V1 (dW b)), (5, dI j)] [] ⟨rfl, rfl, rfl, trivial⟩ trivial ?_;refine aA tok mixed (A := [[], [], [], [0, 1], [], [], [], [4, 5], [0, 1, 2, 4, 5, 6]]) (an := [{}, {}, {}, {}, {}, {}, {}, {}, {}]) rfl (by kernel_rfl) rfl fun _ Z9=>?_;refine Z8 ?_;refine Z8 ?_;refine ac rfl (x_w (i := j) rfl rfl rfl rfl rfl hja) rfl ?_;refine Z6 ?_;refine Z8 ?_;refine Z8 ?_;refine ac rfl (x_w (i := j) rfl rfl rfl rfl rfl hjb) rfl ?_;refine Z6 ?_;refine Z5 ?_;refine eQ Z9 ?_;clear Z9;refine ap rfl (fun hm => ?_) (fun hm => ?_)
  ·have hm : b[j] < a[j] := by simp at hm; omega
   refine gQ fun _ Z9=>?_;refine Z7 ?_;refine eQ Z9 ?_;clear Z9;exact ai (bf (h3 := by have := pg hb hc.symm (by omega) hdr.symm hm; unfold gX; rw [if_neg (by omega), if_pos this]; rfl))
  have hn : a[j] = b[j] := by simp at hm; omega
  refine aj ?_;show AWP _ _ _ _ _ _;refine gR fun _ Z9=>?_;refine Z8 ?_;refine am rfl (bE (c := (j : Int) - 1) (by omega) (by omega)) rfl ?_;refine Z7 ?_;refine eQ Z9 ?_;clear Z9;exact ⟨j, by omega, ⟨by omega, by rw [List.drop_eq_getElem_cons hja, List.drop_eq_getElem_cons hjb, hn, hdr]⟩, Wk.mk' ⟨rfl, rfl, rfl, trivial⟩ trivial⟩
 ·have hk0 : k = 0 := by simp at hg; omega
  subst hk0
  refine az ?_;show AWP _ _ _ _ _ _;refine gQ fun _ Z9=>?_;refine Z7 ?_;refine eQ Z9 ?_;clear Z9
  have : a = b := by simpa using hdr
  exact ai (bf (h3 := by subst this; unfold gX; rw [if_neg (by omega), if_neg (by omega)]; rfl))

theorem yY {x y : List Nat} (hx : wOK x) (hy : wOK y) {i : Nat} (hi : max x.length y.length + 1 <= i) : b9 x y i / 4294967296 ^ i = 0 := by
 have h1 : b9 x y i = wv x + wv y := by unfold b9; rw [List.take_of_length_le (by omega), List.take_of_length_le (by omega)]
 have h2 := w6 hx hy
 have h3 : 4294967296 ^ (max x.length y.length + 1) <= 4294967296 ^ i := Nat.pow_le_pow_right (by decide) hi
 rw [h1]; exact Nat.div_eq_of_lt (by omega)

theorem pq (a b : List Nat) (ha : wOK a) (hb : wOK b) (la : a.length <= 1073741800) (lb : b.length <= 1073741800) :
  Con Tryz.prog 150 [V1 (dW a), V1 (dW b)] { v := V1 (dW (wof (wv a + wv b))) } := by
 refine Z2 Tryz.func150 ?_
 intro w0 X
 rw [aq _ _ [(0, V1 (dW a)), (1, V1 (dW b))] rfl rfl];refine gQ fun _ Z9=>?_;refine Z7 ?_;refine eQ Z9 ?_;clear Z9;refine gQ fun _ Z9=>?_;refine Z7 ?_;refine eQ Z9 ?_;clear Z9;refine gQ fun _ Z9=>?_;refine Z7 ?_;refine eQ Z9 ?_;clear Z9;refine ah ?_;refine gQ fun _ Z9=>?_;refine Z7 ?_;refine eQ Z9 ?_;clear Z9;refine ar (aN (α := Nat) (fun i => mk 55 [(0, V1 (dW a)), (1, V1 (dW b)), (5, dK 5 1 i), (6, dL (b9 a b i / 4294967296 ^ i)), (7, dI i)] [(5, gf 1 ((aW i (b9 a b i)).map cW) i)] []) (fun i => i <= max a.length b.length + 1) (fun i => max a.length b.length + 1 - i) 0 ?_ (Nat.zero_le _) ?_)
 ·exact Wk.mk' ⟨rfl, rfl, rfl, by simp [b9, wv]; rfl, rfl, trivial⟩ ⟨rfl, trivial⟩
 intro i hi
 have hcar := pW ha hb i
 refine ah ?_;refine aO (α := Bool) (fun c => mk 55 [(0, V1 (dW a)), (1, V1 (dW b)), (5, dK 5 1 i), (6, dL (b9 a b i / 4294967296 ^ i)), (7, dI i), (21, dB c)] [(5, gf 1 ((aW i (b9 a b i)).map cW) i)] []) (fun c => (c = true -> i <= max a.length b.length) /\ (c = false -> a.length <= i /\ b.length <= i /\ b9 a b i / 4294967296 ^ i = 0)) ?_ ?_
 ·refine gR fun _ Z9=>?_;refine Z8 ?_;refine Z8 ?_;refine ay rfl (aP rfl rfl rfl) rfl ?_;refine Z5 ?_;refine Z8 ?_;refine db (fun hx => ?_) (fun hx => ?_)
  ·have hx : i < a.length := by simp at hx; omega
   refine ag rfl ?_;refine ag rfl ?_;refine ag rfl ?_;refine ag rfl ?_;refine Z3 ?_;refine Z8 ?_;refine ag rfl ?_;refine ag rfl ?_;refine Z3 ?_;refine eQ Z9 ?_;clear Z9;exact ⟨true, ⟨fun _ => by omega, fun h => (by cases h)⟩, Wk.mk' ⟨rfl, rfl, rfl, rfl, rfl, rfl, trivial⟩ ⟨rfl, trivial⟩⟩
  have hx : a.length <= i := by simp at hx; omega
  refine Z8 ?_;refine Z8 ?_;refine ay rfl (aP rfl rfl rfl) rfl ?_;refine Z5 ?_;refine Z3 ?_;refine Z8 ?_;refine db (fun hy => ?_) (fun hy => ?_)
  ·have hy : i < b.length := by simp at hy; omega
   refine ag rfl ?_;refine ag rfl ?_;refine Z3 ?_;refine eQ Z9 ?_;clear Z9;exact ⟨true, ⟨fun _ => by omega, fun h => (by cases h)⟩, Wk.mk' ⟨rfl, rfl, rfl, rfl, rfl, rfl, trivial⟩ ⟨rfl, trivial⟩⟩
  have hy : b.length <= i := by simp at hy; omega
  refine Z8 ?_;refine Z5 ?_;refine Z3 ?_;refine eQ Z9 ?_;clear Z9;refine ⟨_, ⟨fun h => ?_, fun h => ?_⟩, Wk.mk' ⟨rfl, rfl, rfl, rfl, rfl, rfl, trivial⟩ ⟨rfl, trivial⟩⟩
  ·rcases Nat.lt_or_ge (max a.length b.length) i with h' | h'
   ·rw [yY ha hb h'] at h; simp at h
   ·exact h'
  ·refine ⟨hx, hy, ?_⟩;generalize b9 a b i / 4294967296 ^ i = q at *
   simp at h; omega
 rintro c ⟨h1, h2⟩
 refine ap rfl (fun hc => ?_) (fun hc => ?_)
 ·have hi' := h1 hc
  have hax := aX ha i
  have hbx := aX hb i
  refine aj ?_;show AWP _ _ _ _ _ _;refine ah ?_;refine ar ?_;refine aO (α := Unit) (fun _ => mk 55 [(0, V1 (dW a)), (1, V1 (dW b)), (5, dK 5 1 i), (6, dL (b9 a b i / 4294967296 ^ i + a.getD i 0)), (7, dI i)] [(5, gf 1 ((aW i (b9 a b i)).map cW) i)] []) (fun _ => True) ?_ ?_
  ·refine gQ fun _ Z9=>?_;refine Z8 ?_;refine Z8 ?_;refine ay rfl (aP rfl rfl rfl) rfl ?_;refine Z5 ?_;refine eQ Z9 ?_;clear Z9;refine ap rfl (fun hx => ?_) (fun hx => ?_)
   ·have hx : i < a.length := by simp at hx; omega
    refine gR fun _ Z9=>?_;refine Z8 ?_;refine Z8 ?_;refine Z8 ?_;refine ac rfl (gT (i := i) rfl rfl rfl rfl rfl hx) rfl ?_;refine Z6 ?_;refine aQ rfl (aR rfl rfl rfl (cv (ha.lt64 i))) rfl ?_;refine am rfl (iI rfl (by omega)) rfl ?_;refine Z7 ?_;refine eQ Z9 ?_;clear Z9;exact ⟨(), trivial, Wk.mk' ⟨rfl, rfl, rfl, rfl, rfl, trivial⟩ ⟨rfl, trivial⟩⟩
   ·have hx : a.length <= i := by simp at hx; omega
    refine aj ?_;exact ⟨(), trivial, Wk.mk' ⟨rfl, rfl, rfl, by rw [ie hx]; rfl, rfl, trivial⟩ ⟨rfl, trivial⟩⟩
  rintro - -
  show AWP _ _ _ _ _ (mk 55 [(0, V1 (dW a)), (1, V1 (dW b)), (5, dK 5 1 i), (6, dL (b9 a b i / 4294967296 ^ i + a.getD i 0)), (7, dI i)] [(5, gf 1 ((aW i (b9 a b i)).map cW) i)] []);refine aO (α := Unit) (fun _ => mk 55 [(0, V1 (dW a)), (1, V1 (dW b)), (5, dK 5 1 i), (6, dL (b9 a b (i + 1) / 4294967296 ^ i)), (7, dI i)] [(5, gf 1 ((aW i (b9 a b i)).map cW) i)] []) (fun _ => True) ?_ ?_
  ·have e1 : b9 a b i / 4294967296 ^ i + a.getD i 0 + b.getD i 0 = b9 a b (i + 1) / 4294967296 ^ i := by rw [nG]; omega
   refine gQ fun _ Z9=>?_;refine Z8 ?_;refine Z8 ?_;refine ay rfl (aP rfl rfl rfl) rfl ?_;refine Z5 ?_;refine eQ Z9 ?_;clear Z9;refine ap rfl (fun hx => ?_) (fun hx => ?_)
   ·have hx : i < b.length := by simp at hx; omega
    refine gR fun _ Z9=>?_;refine Z8 ?_;refine Z8 ?_;refine Z8 ?_;refine ac rfl (gT (i := i) rfl rfl rfl rfl rfl hx) rfl ?_;refine Z6 ?_;refine aQ rfl (aR rfl rfl rfl (cv (hb.lt64 i))) rfl ?_;refine am rfl (iI e1 (by omega)) rfl ?_;refine Z7 ?_;refine eQ Z9 ?_;clear Z9;exact ⟨(), trivial, Wk.mk' ⟨rfl, rfl, rfl, rfl, rfl, trivial⟩ ⟨rfl, trivial⟩⟩
   ·have hx : b.length <= i := by simp at hx; omega
    rw [ie hx, Nat.add_zero] at e1;refine aj ?_;exact ⟨(), trivial, Wk.mk' ⟨rfl, rfl, rfl, by rw [<- e1]; rfl, rfl, trivial⟩ ⟨rfl, trivial⟩⟩
  rintro - -
  show AWP _ _ _ _ _ (mk 55 [(0, V1 (dW a)), (1, V1 (dW b)), (5, dK 5 1 i), (6, dL (b9 a b (i + 1) / 4294967296 ^ i)), (7, dI i)] [(5, gf 1 ((aW i (b9 a b i)).map cW) i)] [])
  have e2 : (aW i (b9 a b i)).map cW ++ [[.lit (.int .u32 ((b9 a b (i + 1) / 4294967296 ^ i % 4294967296 : Nat) : Int))]] = (aW (i + 1) (b9 a b (i + 1))).map cW := by
   rw [g6, kE, tM, <- kE]; simp [cW]
  have hsl : b9 a b (i + 1) / 4294967296 ^ i < 18446744073709551616 := by rw [nG]; omega
  refine aO (α := Unit) (fun _ => mk 55 [(0, V1 (dW a)), (1, V1 (dW b)), (5, .val (.one (.own 50 1 0 (i + 1)))), (6, dL (b9 a b (i + 1) / 4294967296 ^ i)), (7, dI i)] [(50, some (.arr 1 ((aW (i + 1) (b9 a b (i + 1))).map cW)))] []) (fun _ => True) ?_ ?_
  ·rcases i with _ | i
   ·refine gR fun _ Z9=>?_;refine Z8 ?_;refine Z8 ?_;refine aQ rfl (aR rfl rfl rfl (dZ _)) rfl ?_;refine aI rfl rfl rfl rfl ?_;refine bK rfl (oc rfl rfl rfl rfl rfl (by decide) (Nat.le_of_ble_eq_true rfl) rfl (by simp) rfl (by simp) (by simp)) rfl rfl rfl ?_;refine Z7 ?_;refine eQ Z9 ?_;clear Z9;exact ⟨(), trivial, Wk.mk' ⟨rfl, rfl, rfl, rfl, rfl, trivial⟩ ⟨by rw [<- e2]; rfl, trivial⟩⟩
   ·refine gR fun _ Z9=>?_;refine Z8 ?_;refine Z8 ?_;refine aQ rfl (aR rfl rfl rfl (dZ _)) rfl ?_;refine aI rfl rfl rfl rfl ?_;refine bK rfl (n9 rfl rfl rfl rfl rfl rfl (by decide) (Nat.le_of_ble_eq_true rfl) rfl (by simp) rfl rfl (by simp [aD]) (by simp; omega)) rfl rfl rfl ?_;refine Z7 ?_;refine eQ Z9 ?_;clear Z9;refine ⟨(), trivial, Wk.mk' ⟨rfl, rfl, ?_, rfl, rfl, trivial⟩ ⟨by rw [<- e2]; rfl, trivial⟩⟩
    show SV.val (.one (.own 50 1 0 _)) = _
    simp [aD]
  rintro - -
  refine gR fun _ Z9=>?_;refine Z8 ?_;refine am rfl (jD (s := 32) (by omega) rfl) rfl ?_;refine Z7 ?_;refine eQ Z9 ?_;clear Z9;show AWP _ _ _ _ _ _;refine gR fun _ Z9=>?_;refine Z8 ?_;refine am rfl (aJ (c := ((i + 1 : Nat) : Int)) (by omega) (by omega)) rfl ?_;refine Z7 ?_;refine eQ Z9 ?_;clear Z9;refine ⟨i + 1, by omega, by omega, Wk.rn [0, 1, 5, 6, 7] [50] 50 5 rfl rfl rfl ⟨rfl, rfl, rfl, ?_, rfl, trivial⟩ ⟨rfl, trivial⟩⟩
  show dL _ = dL _
  rw [Nat.div_div_eq_div_mul, show (2 : Nat) ^ 32 = 4294967296 from rfl, <- Nat.pow_succ]
 ·obtain ⟨hx, hy, hz⟩ := h2 hc
  have hs : b9 a b i = wv a + wv b := by unfold b9; rw [List.take_of_length_le hx, List.take_of_length_le hy]
  have hlt : wv a + wv b < 4294967296 ^ i := by
   rw [hs] at hz
   rcases Nat.lt_or_ge (wv a + wv b) (4294967296 ^ i) with h' | h'
   ·exact h'
   ·have := Nat.div_pos h' (pow_pos i); omega
  have hw : wv (aW i (b9 a b i)) = wv a + wv b := by rw [bU, hs, Nat.mod_eq_of_lt hlt]
  refine az ?_;show AWP _ _ _ _ _ _
  rcases i with _ | i
  ·have h0 : wv a + wv b = 0 := by simpa using hlt
   refine gQ fun _ Z9=>?_;refine Z8 ?_;refine ab rfl rfl (dg [] wOK.nil (by simp)) rfl rfl rfl rfl ?_;refine Z7 ?_;refine eQ Z9 ?_;clear Z9;exact ai (bf (h3 := by rw [h0]; rfl))
  ·refine eL [5] [5] 5 [(5, V1 (dW (aW (i + 1) (b9 a b (i + 1)))))] [] rfl ?_ trivial ?_
   ·exact ⟨i6 rfl (by simp [aD]), trivial⟩
   refine gQ fun _ Z9=>?_;refine Z8 ?_;refine ab rfl rfl (dg _ (bI _ _) (by rw [aD]; omega)) rfl rfl rfl rfl ?_;refine Z7 ?_;refine eQ Z9 ?_;clear Z9;exact ai (bf (h3 := by rw [hw]; rfl))

theorem mJ (a b : List Nat) (ha : wOK a) (hb : wOK b) (la : a.length <= 1073741800) (hl : b.length <= a.length) (hle : wv b <= wv a) :
  Con Tryz.prog 152 [V1 (dW a), V1 (dW b)] { v := V1 (dW (wof (wv a - wv b))) } := by
 refine Z2 Tryz.func152 ?_
 intro w0 X
 rw [aq _ _ [(0, V1 (dW a)), (1, V1 (dW b))] rfl rfl];refine gQ fun _ Z9=>?_;refine Z7 ?_;refine eQ Z9 ?_;clear Z9;refine gQ fun _ Z9=>?_;refine Z7 ?_;refine eQ Z9 ?_;clear Z9;refine gQ fun _ Z9=>?_;refine Z7 ?_;refine eQ Z9 ?_;clear Z9;refine ah ?_;refine gQ fun _ Z9=>?_;refine Z7 ?_;refine eQ Z9 ?_;clear Z9;refine ar (aN (α := Nat) (fun i => mk 44 [(0, V1 (dW a)), (1, V1 (dW b)), (5, dK 5 1 i), (6, dI ((1 - difN a b i / 4294967296 ^ i : Nat) : Int)), (7, dI i)] [(5, gf 1 ((aW i (difN a b i)).map cW) i)] []) (fun i => i <= a.length) (fun i => a.length - i) 0 ?_ (Nat.zero_le _) ?_)
 ·exact Wk.mk' ⟨rfl, rfl, rfl, by rw [rX]; rfl, rfl, trivial⟩ ⟨rfl, trivial⟩
 intro i hi
 have hcar := qQ (y := b) ha i
 refine ah ?_;refine gQ fun _ Z9=>?_;refine Z8 ?_;refine Z8 ?_;refine ay rfl (aP rfl rfl rfl) rfl ?_;refine Z5 ?_;refine eQ Z9 ?_;clear Z9;refine ap rfl (fun hg => ?_) (fun hg => ?_)
 ·have hg : i < a.length := by simp at hg; omega
  have hst := rY a hb i
  have hxl := aX ha i
  have hyl := aX hb i
  have hbo : difN a b (i + 1) / 4294967296 ^ (i + 1) = difN a b (i + 1) / 4294967296 ^ i / 4294967296 := by rw [Nat.pow_succ, <- Nat.div_div_eq_div_mul]
  have e3 : aW i (difN a b (i + 1)) = aW i (difN a b i) := by
   refine mw ?_
   have := congrArg (· % 4294967296 ^ i) (nW a hb i)
   simp only [Nat.add_mul_mod_self_right, Nat.add_comm (_ * _)] at this;exact this
  have e2 : (aW i (difN a b i)).map cW ++ [[.lit (.int .u32 ((difN a b (i + 1) / 4294967296 ^ i % 4294967296 : Nat) : Int))]] = (aW (i + 1) (difN a b (i + 1))).map cW := by
   rw [g6, e3]; simp [cW]
  generalize hq : difN a b i / 4294967296 ^ i = q at *;generalize hq' : difN a b (i + 1) / 4294967296 ^ i = q' at *;refine aj ?_;show AWP _ _ _ _ _ _;refine ah ?_;refine ar ?_;refine gQ fun _ Z9=>?_;refine Z8 ?_;refine Z8 ?_;refine ac rfl (gT (i := i) rfl rfl rfl rfl rfl hg) rfl ?_;refine Z6 ?_;refine aQ rfl (aR (m := (a.getD i 0 : Int)) rfl rfl rfl (IntWalk.i64_in _ (by omega))) rfl ?_;refine Z8 ?_;refine am rfl (bE rfl (by omega)) rfl ?_;refine Z7 ?_;refine eQ Z9 ?_;clear Z9;refine aO (α := Unit) (fun _ => mk 44 [(0, V1 (dW a)), (1, V1 (dW b)), (5, dK 5 1 i), (7, dI i), (8, dI ((a.getD i 0 : Int) - ((1 - q : Nat) : Int) - b.getD i 0))] [(5, gf 1 ((aW i (difN a b i)).map cW) i)] []) (fun _ => True) ?_ ?_
  ·refine gQ fun _ Z9=>?_;refine Z8 ?_;refine Z8 ?_;refine ay rfl (aP rfl rfl rfl) rfl ?_;refine Z5 ?_;refine eQ Z9 ?_;clear Z9;refine ap rfl (fun hx => ?_) (fun hx => ?_)
   ·have hx : i < b.length := by simp at hx; omega
    refine gR fun _ Z9=>?_;refine Z8 ?_;refine Z8 ?_;refine Z8 ?_;refine ac rfl (gT (i := i) rfl rfl rfl rfl rfl hx) rfl ?_;refine Z6 ?_;refine aQ rfl (aR (m := (b.getD i 0 : Int)) rfl rfl rfl (IntWalk.i64_in _ (by omega))) rfl ?_;refine am rfl (bE rfl (by omega)) rfl ?_;refine Z7 ?_;refine eQ Z9 ?_;clear Z9;exact ⟨(), trivial, Wk.mk' ⟨rfl, rfl, rfl, rfl, rfl, trivial⟩ ⟨rfl, trivial⟩⟩
   ·have hx : b.length <= i := by simp at hx; omega
    refine aj ?_;exact ⟨(), trivial, Wk.mk' ⟨rfl, rfl, rfl, rfl, by rw [ie hx]; exact qT (by omega), trivial⟩ ⟨rfl, trivial⟩⟩
  rintro - -
  refine gQ fun _ Z9=>?_;refine Z7 ?_;refine eQ Z9 ?_;clear Z9;refine aO (α := Unit) (fun _ => mk 44 [(0, V1 (dW a)), (1, V1 (dW b)), (5, dK 5 1 i), (6, dI ((1 - difN a b (i + 1) / 4294967296 ^ (i + 1) : Nat) : Int)), (7, dI i), (8, dI ((q' % 4294967296 : Nat) : Int))] [(5, gf 1 ((aW i (difN a b i)).map cW) i)] []) (fun _ => True) ?_ ?_
  ·rw [hbo];refine gQ fun _ Z9=>?_;refine Z8 ?_;refine Z5 ?_;refine eQ Z9 ?_;clear Z9;refine ap rfl (fun hx => ?_) (fun hx => ?_)
   ·have hx : (a.getD i 0 : Int) - ((1 - q : Nat) : Int) - b.getD i 0 < 0 := by simpa using hx
    refine gQ fun _ Z9=>?_;refine Z8 ?_;refine am rfl (aJ rfl (by omega)) rfl ?_;refine Z7 ?_;refine eQ Z9 ?_;clear Z9;refine gR fun _ Z9=>?_;refine Z7 ?_;refine eQ Z9 ?_;clear Z9;refine ⟨(), trivial, Wk.mk' ⟨rfl, rfl, rfl, ?_, rfl, ?_, trivial⟩ ⟨rfl, trivial⟩⟩
    ·exact qT (by omega)
    ·exact qT (by omega)
   ·have hx : ¬ (a.getD i 0 : Int) - ((1 - q : Nat) : Int) - b.getD i 0 < 0 := by simpa using hx
    refine aj ?_;refine ⟨(), trivial, Wk.mk' ⟨rfl, rfl, rfl, ?_, rfl, ?_, trivial⟩ ⟨rfl, trivial⟩⟩
    ·exact qT (by omega)
    ·exact qT (by omega)
  rintro - -
  show AWP _ _ _ _ _ (mk 44 [(0, V1 (dW a)), (1, V1 (dW b)), (5, dK 5 1 i), (6, dI ((1 - difN a b (i + 1) / 4294967296 ^ (i + 1) : Nat) : Int)), (7, dI i), (8, dI ((q' % 4294967296 : Nat) : Int))] [(5, gf 1 ((aW i (difN a b i)).map cW) i)] [])
  rcases i with _ | i
  ·refine gR fun _ Z9=>?_;refine Z8 ?_;refine Z8 ?_;refine aQ rfl (aR (m := ((q' % 4294967296 : Nat) : Int)) rfl rfl rfl (by rw [dZ, Nat.mod_mod])) rfl ?_;refine aI rfl rfl rfl rfl ?_;refine bK rfl (oc rfl rfl rfl rfl rfl (by decide) (Nat.le_of_ble_eq_true rfl) rfl (by simp) rfl (by simp) (by simp)) rfl rfl rfl ?_;refine Z7 ?_;refine eQ Z9 ?_;clear Z9;show AWP _ _ _ _ _ _;refine gR fun _ Z9=>?_;refine Z8 ?_;refine am rfl (aJ (c := ((0 + 1 : Nat) : Int)) (by omega) (by omega)) rfl ?_;refine Z7 ?_;refine eQ Z9 ?_;clear Z9;exact ⟨0 + 1, by omega, by omega, Wk.rn [0, 1, 5, 6, 7] [41] 41 5 rfl rfl rfl ⟨rfl, rfl, rfl, rfl, rfl, trivial⟩ ⟨by rw [<- e2]; rfl, trivial⟩⟩
  ·refine gR fun _ Z9=>?_;refine Z8 ?_;refine Z8 ?_;refine aQ rfl (aR (m := ((q' % 4294967296 : Nat) : Int)) rfl rfl rfl (by rw [dZ, Nat.mod_mod])) rfl ?_;refine aI rfl rfl rfl rfl ?_;refine bK rfl (n9 rfl rfl rfl rfl rfl rfl (by decide) (Nat.le_of_ble_eq_true rfl) rfl (by simp) rfl rfl (by simp [aD]) (by simp; omega)) rfl rfl rfl ?_;refine Z7 ?_;refine eQ Z9 ?_;clear Z9;show AWP _ _ _ _ _ _;refine gR fun _ Z9=>?_;refine Z8 ?_;refine am rfl (aJ (c := ((i + 1 + 1 : Nat) : Int)) (by omega) (by omega)) rfl ?_;refine Z7 ?_;refine eQ Z9 ?_;clear Z9;refine ⟨i + 1 + 1, by omega, by omega, Wk.rn [0, 1, 5, 6, 7] [41] 41 5 rfl rfl rfl ⟨rfl, rfl, ?_, rfl, rfl, trivial⟩ ⟨by rw [<- e2]; rfl, trivial⟩⟩
   show SV.val (.one (.own 5 1 0 _)) = .val (.one (.own 5 1 0 _))
   simp [aD]
 ·have hg : i = a.length := by simp at hg; omega
  subst hg
  have hw : wv (aW a.length (difN a b a.length)) = wv a - wv b := by
   rw [uK hl hle, bU, Nat.mod_eq_of_lt (Nat.lt_of_le_of_lt (Nat.sub_le _ _) (dR ha))]
  generalize hal : a.length = i at *;refine az ?_;show AWP _ _ _ _ _ _
  rcases i with _ | i
  ·have h0 : wv a - wv b = 0 := by
    have : a = [] := List.length_eq_zero_iff.1 hal
    subst this; simp [wv]
   refine gQ fun _ Z9=>?_;refine Z8 ?_;refine ab rfl rfl (dg [] wOK.nil (by simp)) rfl rfl rfl rfl ?_;refine Z7 ?_;refine eQ Z9 ?_;clear Z9;exact ai (bf (h3 := by rw [h0]; rfl))
  ·refine eL [5] [5] 5 [(5, V1 (dW (aW (i + 1) (difN a b (i + 1)))))] [] rfl ?_ trivial ?_
   ·exact ⟨i6 rfl (by simp [aD]), trivial⟩
   refine gQ fun _ Z9=>?_;refine Z8 ?_;refine ab rfl rfl (dg _ (bI _ _) (by rw [aD]; omega)) rfl rfl rfl rfl ?_;refine Z7 ?_;refine eQ Z9 ?_;clear Z9;exact ai (bf (h3 := by rw [hw]; rfl))
end Go.Proofs.YtnoildlijhapaaaGreatDoor

/- The reference's integers: signs, sums, differences. No condition. -/
namespace Go.Proofs.YtnoildlijhapaaaGreatDoor
attribute [local irreducible] aC

theorem gG (n : Bool) (w : List Nat) (z : Int) (hw : wOK w) (hl : w.length <= 1073741824) (h : zv n w = z) : Con Tryz.prog 148 [AG (IC n w)] { v := AG (ZC z) } :=
 h ▸ iS n w hw hl

theorem kd (n : Bool) (w : List Nat) (hw : wOK w) (hl : w.length <= 1073741824) : Con Tryz.prog 143 [AG (IC n w)] { v := dI (zv n w).sign } := by
 have h0 : wof (wv w) = [] ↔ zv n w = 0 := by rw [eg]; unfold zv; split <;> omega
 have hs : (zv n w < 0 -> n = true) /\ (n = true -> zv n w <= 0) := by unfold zv; cases n <;> simp <;> omega
 refine Z2 Tryz.func143 ?_
 intro w0 X
 rw [aq _ _ [(0, AG (IC n w))] rfl rfl];refine gQ fun _ Z9=>?_;refine aB rfl rfl rfl rfl rfl rfl ?_;refine Z7 ?_;refine eQ Z9 ?_;clear Z9;refine ah ?_;refine gQ fun _ Z9=>?_;refine Z4 ?_;refine Z6 ?_;refine ab rfl rfl (dg w hw hl) rfl rfl rfl rfl ?_;refine ay rfl (aP rfl rfl rfl) rfl ?_;refine Z5 ?_;refine eQ Z9 ?_;clear Z9;refine ap rfl (fun hc => ?_) (fun hc => ?_)
 ·have hc : wof (wv w) = [] := by simpa using hc
  refine gQ fun _ Z9=>?_;refine Z7 ?_;refine eQ Z9 ?_;clear Z9;exact ai (bf (h3 := by rw [h0.1 hc]; rfl))
 ·have hc : ¬ zv n w = 0 := by rw [<- h0]; simpa using hc
  refine aj ?_;show AWP _ _ _ _ _ _;refine ah ?_;refine gQ fun _ Z9=>?_;refine Z4 ?_;refine Z6 ?_;refine eQ Z9 ?_;clear Z9;refine ap rfl (fun hd => ?_) (fun hd => ?_)
  ·have hd : n = true := hd
   have : zv n w < 0 := by have := hs.2 hd; omega
   refine gQ fun _ Z9=>?_;refine Z7 ?_;refine eQ Z9 ?_;clear Z9;exact ai (bf (h3 := by rw [Int.sign_eq_neg_one_of_neg this]; rfl))
  ·have hd : n = false := hd
   have : 0 < zv n w := by
    have := hs.1
    rcases Int.lt_trichotomy (zv n w) 0 with h | h | h
    ·rw [this h] at hd; cases hd
    ·exact absurd h hc
    ·exact h
   refine aj ?_;show AWP _ _ _ _ _ _;refine gQ fun _ Z9=>?_;refine Z7 ?_;refine eQ Z9 ?_;clear Z9;exact ai (bf (h3 := by rw [Int.sign_eq_one_of_pos this]; rfl))

theorem pt (n : Bool) (w : List Nat) (hw : wOK w) (hl : w.length <= 1073741824) : Con Tryz.prog 145 [AG (IC n w)] { v := AG (ZC (-(zv n w))) } := by
 refine Z2 Tryz.func145 ?_
 intro w0 X
 rw [aq _ _ [(0, AG (IC n w))] rfl rfl];refine gQ fun _ Z9=>?_;refine aB rfl rfl rfl rfl rfl rfl ?_;refine av rfl rfl rfl rfl rfl rfl ?_;refine eQ Z9 ?_;clear Z9;refine gQ fun _ Z9=>?_;refine Z4 ?_;refine Z6 ?_;refine bd rfl rfl rfl ?_;refine Z4 ?_;refine Z6 ?_;refine aG rfl rfl rfl ?_;refine ab rfl rfl (gG (!n) w (-(zv n w)) hw hl (by unfold zv; cases n <;> simp)) rfl rfl rfl rfl ?_;refine ak rfl rfl rfl rfl rfl ?_;refine eQ Z9 ?_;clear Z9;exact ai aE

theorem sN (n : Bool) (w : List Nat) (hw : wOK w) (hl : w.length <= 1073741824) : Con Tryz.prog 173 [AG (IC n w)] { v := AG (ZC ((zv n w).natAbs : Int)) } := by
 refine Z2 Tryz.func173 ?_
 intro w0 X
 rw [aq _ _ [(0, AG (IC n w))] rfl rfl];refine gQ fun _ Z9=>?_;refine aB rfl rfl rfl rfl rfl rfl ?_;refine av rfl rfl rfl rfl rfl rfl ?_;refine eQ Z9 ?_;clear Z9;refine gQ fun _ Z9=>?_;refine Z4 ?_;refine Z6 ?_;refine aG rfl rfl rfl ?_;refine ab rfl rfl (gG false w ((zv n w).natAbs : Int) hw hl (by rw [bm]; unfold zv; simp)) rfl rfl rfl rfl ?_;refine ak rfl rfl rfl rfl rfl ?_;refine eQ Z9 ?_;clear Z9;exact ai aE

theorem sL (na nb : Bool) (wa wb : List Nat) (ha : wOK wa) (hb : wOK wb) (la : wa.length <= 536870912) (lb : wb.length <= 536870912) :
  Con Tryz.prog 107 [AG (IC na wa), AG (IC nb wb)] { v := AG (ZC (zv na wa + zv nb wb)) } := by
 have hla : (wof (zv na wa).natAbs).length <= wa.length := by rw [bm]; exact bg ha
 have hlb : (wof (zv nb wb).natAbs).length <= wb.length := by rw [bm]; exact bg hb
 refine Z2 Tryz.func107 ?_
 intro w0 X
 rw [aq _ _ [(0, AG (IC na wa)), (1, AG (IC nb wb))] rfl rfl];refine gQ fun _ Z9=>?_;refine aB rfl rfl rfl rfl rfl rfl ?_;refine aB rfl rfl rfl rfl rfl rfl ?_;refine av rfl rfl rfl rfl rfl rfl ?_;refine eQ Z9 ?_;clear Z9;refine gQ fun _ Z9=>?_;refine Z6 ?_;refine ab rfl rfl (iS na wa ha (by omega)) rfl rfl rfl rfl ?_;refine ak rfl rfl rfl rfl rfl ?_;refine eQ Z9 ?_;clear Z9;refine gQ fun _ Z9=>?_;refine Z6 ?_;refine ab rfl rfl (iS nb wb hb (by omega)) rfl rfl rfl rfl ?_;refine ak rfl rfl rfl rfl rfl ?_;refine eQ Z9 ?_;clear Z9;generalize zv na wa = x at *;generalize zv nb wb = y at *
 have hpl := yI x.natAbs y.natAbs
 unfold wl at hpl
 refine cr [(2, .ptr 2 0), (3, .ptr 3 0), (4, .ptr 4 0)] [(2, some (.box (ZC x))), (3, some (.box (ZC y))), (4, some (.box [.d (.lit (.bool false)), .nil]))] ⟨rfl, rfl, rfl, trivial⟩ ⟨rfl, rfl, rfl, trivial⟩ ?_;refine ah ?_;refine gQ fun _ Z9=>?_;refine Z4 ?_;refine Z6 ?_;refine Z4 ?_;refine Z6 ?_;refine Z5 ?_;refine eQ Z9 ?_;clear Z9;refine ap rfl (fun hc => ?_) (fun hc => ?_)
 ·have hc : (x < 0) ↔ (y < 0) := by simpa using hc
  refine aA tok mixed (A := [[], [], [], [], [], [], [2, 4], [0, 2, 3, 4, 5], [0, 1, 2, 3, 4, 5], []]) (an := [{}, {}, {}, {}, {}, {}, {}, {}, {}, {}]) rfl (by kernel_rfl) rfl fun _ Z9=>?_;refine Z4 ?_;refine Z6 ?_;refine Z4 ?_;refine Z6 ?_;refine Z4 ?_;refine Z6 ?_;refine ab rfl rfl (pq (wof x.natAbs) (wof y.natAbs) (aw _) (aw _) (by omega) (by omega)) rfl rfl rfl rfl ?_;refine aG rfl rfl rfl ?_;refine ab rfl rfl (gG (decide (x < 0)) _ (x + y) (aw _) (by rw [aF, aF]; omega) (by unfold zv; rw [aF, aF, aF]; by_cases h : x < 0 <;> simp [h] <;> omega)) rfl rfl rfl rfl ?_;refine ak rfl rfl rfl rfl rfl ?_;refine eQ Z9 ?_;clear Z9;exact ai aE
 ·have hc : ¬ ((x < 0) ↔ (y < 0)) := by simpa using hc
  refine aj ?_;show AWP _ _ _ _ _ _;refine cr [(2, .ptr 2 0), (3, .ptr 3 0), (4, .ptr 4 0)] [(2, some (.box (ZC x))), (3, some (.box (ZC y))), (4, some (.box [.d (.lit (.bool false)), .nil]))] ⟨rfl, rfl, rfl, trivial⟩ ⟨rfl, rfl, rfl, trivial⟩ ?_;refine ah ?_;refine gQ fun _ Z9=>?_;refine Z4 ?_;refine Z6 ?_;refine Z4 ?_;refine Z6 ?_;refine ab rfl rfl (pp (wof x.natAbs) (wof y.natAbs) (aw _) (aw _) (bX _) (bX _) (by omega) (by omega)) rfl rfl rfl rfl ?_;refine Z5 ?_;refine eQ Z9 ?_;clear Z9;refine ap rfl (fun hd => ?_) (fun hd => ?_)
  ·have hd : x.natAbs < y.natAbs := by have := ip.1 (of_decide_eq_true hd); rwa [aF, aF] at this
   have hle : (wof x.natAbs).length <= (wof y.natAbs).length := bu (by omega)
   have hsl : (wof (y.natAbs - x.natAbs)).length <= (wof y.natAbs).length := bu (by omega)
   refine aA tok mixed (A := [[], [], [], [], [], [], [2, 4], [0, 2, 3, 4, 5], [0, 1, 2, 3, 4, 5], []]) (an := [{}, {}, {}, {}, {}, {}, {}, {}, {}, {}]) rfl (by kernel_rfl) rfl fun _ Z9=>?_;refine Z4 ?_;refine Z6 ?_;refine Z4 ?_;refine Z6 ?_;refine Z4 ?_;refine Z6 ?_;refine ab rfl rfl (mJ (wof y.natAbs) (wof x.natAbs) (aw _) (aw _) (by omega) hle (by rw [aF, aF]; omega)) rfl rfl rfl rfl ?_;refine aG rfl rfl rfl ?_;refine ab rfl rfl (gG (decide (y < 0)) _ (x + y) (aw _) (by rw [aF, aF]; omega) (by unfold zv; rw [aF, aF, aF]; by_cases h : y < 0 <;> simp [h] <;> omega)) rfl rfl rfl rfl ?_;refine ak rfl rfl rfl rfl rfl ?_;refine eQ Z9 ?_;clear Z9;exact ai aE
  ·have hd : y.natAbs <= x.natAbs := by have := mt ip.2 (of_decide_eq_false hd); rw [aF, aF] at this; omega
   have hle : (wof y.natAbs).length <= (wof x.natAbs).length := bu (by omega)
   have hsl : (wof (x.natAbs - y.natAbs)).length <= (wof x.natAbs).length := bu (by omega)
   refine aj ?_;show AWP _ _ _ _ _ _;refine cr [(2, .ptr 2 0), (3, .ptr 3 0), (4, .ptr 4 0)] [(2, some (.box (ZC x))), (3, some (.box (ZC y))), (4, some (.box [.d (.lit (.bool false)), .nil]))] ⟨rfl, rfl, rfl, trivial⟩ ⟨rfl, rfl, rfl, trivial⟩ ?_;refine aA tok mixed (A := [[], [], [], [], [], [], [2, 4], [0, 2, 3, 4, 5], [0, 1, 2, 3, 4, 5], []]) (an := [{}, {}, {}, {}, {}, {}, {}, {}, {}, {}]) rfl (by kernel_rfl) rfl fun _ Z9=>?_;refine Z4 ?_;refine Z6 ?_;refine Z4 ?_;refine Z6 ?_;refine Z4 ?_;refine Z6 ?_;refine ab rfl rfl (mJ (wof x.natAbs) (wof y.natAbs) (aw _) (aw _) (by omega) hle (by rw [aF, aF]; omega)) rfl rfl rfl rfl ?_;refine aG rfl rfl rfl ?_;refine ab rfl rfl (gG (decide (x < 0)) _ (x + y) (aw _) (by rw [aF, aF]; omega) (by unfold zv; rw [aF, aF, aF]; by_cases h : x < 0 <;> simp [h] <;> omega)) rfl rfl rfl rfl ?_;refine ak rfl rfl rfl rfl rfl ?_;refine eQ Z9 ?_;clear Z9;exact ai aE

theorem wZ (na nb : Bool) (wa wb : List Nat) (ha : wOK wa) (hb : wOK wb) (la : wa.length <= 536870912) (lb : wb.length <= 536870912) :
  Con Tryz.prog 195 [AG (IC na wa), AG (IC nb wb)] { v := AG (ZC (zv na wa - zv nb wb)) } := by
 have hlb : (wof (-(zv nb wb)).natAbs).length <= wb.length := by rw [Int.natAbs_neg, bm]; exact bg hb
 have hz : zv na wa + zv (decide (-(zv nb wb) < 0)) (wof (-(zv nb wb)).natAbs) = zv na wa - zv nb wb := by rw [aZ]; omega
 refine Z2 Tryz.func195 ?_
 intro w0 X
 rw [aq _ _ [(0, AG (IC na wa)), (1, AG (IC nb wb))] rfl rfl];refine gQ fun _ Z9=>?_;refine aB rfl rfl rfl rfl rfl rfl ?_;refine aB rfl rfl rfl rfl rfl rfl ?_;refine av rfl rfl rfl rfl rfl rfl ?_;refine eQ Z9 ?_;clear Z9;refine aA tok mixed (A := [[], [], [], [1], []]) (an := [{}, {}, {}, {}, {}]) rfl (by kernel_rfl) rfl fun _ Z9=>?_;refine Z6 ?_;refine Z6 ?_;refine ab rfl rfl (pt nb wb hb (by omega)) rfl rfl rfl rfl ?_;refine ab rfl rfl (hz ▸ sL na (decide (-(zv nb wb) < 0)) wa (wof (-(zv nb wb)).natAbs) ha (aw _) la (by omega)) rfl rfl rfl rfl ?_;refine ak rfl rfl rfl rfl rfl ?_;refine eQ Z9 ?_;clear Z9;exact ai aE
end Go.Proofs.YtnoildlijhapaaaGreatDoor

/- The reference's integers: products, division bit by bit. No condition. -/
namespace Go.Proofs.YtnoildlijhapaaaGreatDoor
attribute [local irreducible] aC

theorem WTI.rowk {a b : List Nat} {i k : Nat} {out : List Nat} (h : WTI a (b ++ [0]) i k out 0) (hk : b.length <= k) : WTI a (b ++ [0]) (i + 1) 0 out 0 := by
 have hb : wv ((b ++ [0]).take k) = wv (b ++ [0]) := by
  rcases Nat.lt_or_ge b.length k with h' | h'
  ·rw [List.take_of_length_le (by simp; omega)]
  ·have : k = b.length := by omega
   subst this
   rw [List.take_append_of_le_length (Nat.le_refl _), List.take_of_length_le (Nat.le_refl _), ew]; simp [wv]
 have hv := h.val
 rw [hb] at hv;refine ⟨h.ok, h.len, fun m hm => h.hi m (by omega), ?_, by decide⟩;rw [bP];simp only [List.take_zero, wv, Nat.mul_zero, Nat.zero_mul, Nat.add_zero] at *;rw [hv]; grind
theorem WTI.c0 {a b : List Nat} (ha : wOK a) (hb : wOK b) {i : Nat} {out : List Nat} {c : Nat} (h : WTI a (b ++ [0]) i (b.length + 1) out c) : c = 0 := by
 have hv := h.val
 have e0 : (b ++ [0]).take (b.length + 1) = b ++ [0] := List.take_of_length_le (by simp)
 rw [e0] at hv
 have hw : wv (b ++ [0]) = wv b := by rw [ew]; simp [wv]
 rw [hw] at hv
 have e : wv (a.take i) * wv b + a.getD i 0 * wv b * 4294967296 ^ i = wv (a.take (i + 1)) * wv b := by rw [bP]; grind
 rw [e] at hv
 have h1 := bQ ha (i + 1)
 have h2 := dR hb
 have h3 : wv (a.take (i + 1)) * wv b < 4294967296 ^ (i + (b.length + 1)) := by
  rw [show i + (b.length + 1) = i + 1 + b.length from by omega, Nat.pow_add]
  rcases Nat.eq_zero_or_pos (wv b) with h0 | h0
  ·rw [h0, Nat.mul_zero]; exact Nat.mul_pos (pow_pos _) (pow_pos _)
  ·calc wv (a.take (i + 1)) * wv b < 4294967296 ^ (i + 1) * wv b := Nat.mul_lt_mul_of_pos_right h1 h0
    _ <= 4294967296 ^ (i + 1) * 4294967296 ^ b.length := Nat.mul_le_mul_left _ (Nat.le_of_lt h2)
 rcases Nat.eq_zero_or_pos c with h0 | h0
 ·exact h0
 ·have : 1 * 4294967296 ^ (i + (b.length + 1)) <= c * 4294967296 ^ (i + (b.length + 1)) := Nat.mul_le_mul_right _ h0
  omega
theorem yh (b : List Nat) (k : Nat) : (b ++ [0]).getD k 0 = b.getD k 0 := by
 rw [List.getD_eq_getElem?_getD, List.getD_eq_getElem?_getD, List.getElem?_append]
 split
 ·rfl
 ·rename_i h
  rw [List.getElem?_eq_none (by omega : b.length <= k)]
  rcases Nat.lt_or_ge (k - b.length) 1 with h' | h'
  ·have : k - b.length = 0 := by omega
   rw [this]; rfl
  ·rw [List.getElem?_eq_none (by simpa using h')]

theorem B2 (na nb : Bool) (wa wb : List Nat) (ha : wOK wa) (hb : wOK wb) (la : wa.length <= 500000000) (lb : wb.length <= 500000000) :
  Con Tryz.prog 108 [AG (IC na wa), AG (IC nb wb)] { v := AG (ZC (zv na wa * zv nb wb)) } := by
 have hb' : wOK (wb ++ [0]) := hb.append (wOK.one (by decide))
 have lb' : (wb ++ [0]).length = wb.length + 1 := by simp
 refine Z2 Tryz.func108 ?_
 intro w0 X
 rw [aq _ _ [(0, AG (IC na wa)), (1, AG (IC nb wb))] rfl rfl];refine gQ fun _ Z9=>?_;refine aB rfl rfl rfl rfl rfl rfl ?_;refine aB rfl rfl rfl rfl rfl rfl ?_;refine av rfl rfl rfl rfl rfl rfl ?_;refine eQ Z9 ?_;clear Z9;refine gQ fun _ Z9=>?_;refine Z4 ?_;refine Z6 ?_;refine ay rfl (aP rfl rfl rfl) rfl ?_;refine Z4 ?_;refine Z6 ?_;refine ay rfl (aP rfl rfl rfl) rfl ?_;refine am rfl (aJ (c := ((wa.length + wb.length : Nat) : Int)) (by omega) (by omega)) rfl ?_;refine am rfl (aJ (c := ((wa.length + (wb.length + 1) : Nat) : Int)) (by omega) (by omega)) rfl ?_;refine bn (sz := _) (es := _) (f := _) (v := _) rfl (sW (l := wa.length + (wb.length + 1)) (c := wa.length + (wb.length + 1)) rfl rfl rfl rfl rfl (Nat.le_of_ble_eq_true rfl) rfl rfl (by omega) (by omega)) rfl rfl ?_;refine Z7 ?_;refine eQ Z9 ?_;clear Z9;refine ah ?_;refine gQ fun _ Z9=>?_;refine Z7 ?_;refine eQ Z9 ?_;clear Z9;refine ar (aN (α := Nat × List Nat) (fun p => mk 83 [(2, .ptr 2 0), (3, .ptr 3 0), (4, .ptr 4 0), (5, .val (.one (.own 18 1 0 (wa.length + (wb.length + 1))))), (6, dI p.1)] [(2, some (.box (IC na wa))), (3, some (.box (IC nb wb))), (4, some (.box [.d (.lit (.bool false)), .nil])), (18, some (.arr 1 (p.2.map cW)))] []) (fun p => p.1 <= wa.length /\ WTI wa (wb ++ [0]) p.1 0 p.2 0) (fun p => wa.length - p.1) (0, List.replicate (wa.length + (wb.length + 1)) 0) ?_ ⟨Nat.zero_le _, lb' ▸ WTI.start wa (wb ++ [0])⟩ ?_)
 ·exact Wk.mk' ⟨rfl, rfl, rfl, rfl, rfl, trivial⟩ ⟨rfl, rfl, rfl, rfl, trivial⟩
 rintro ⟨i, out⟩ ⟨hi, hti⟩
 simp only at hi hti
 show AWP _ _ _ _ _ (mk 83 [(2, .ptr 2 0), (3, .ptr 3 0), (4, .ptr 4 0), (5, .val (.one (.own 18 1 0 (wa.length + (wb.length + 1))))), (6, dI i)] [(2, some (.box (IC na wa))), (3, some (.box (IC nb wb))), (4, some (.box [.d (.lit (.bool false)), .nil])), (18, some (.arr 1 (out.map cW)))] []);refine ah ?_;refine gQ fun _ Z9=>?_;refine Z8 ?_;refine Z4 ?_;refine Z6 ?_;refine ay rfl (aP rfl rfl rfl) rfl ?_;refine Z5 ?_;refine eQ Z9 ?_;clear Z9;refine ap rfl (fun hg => ?_) (fun hg => ?_)
 ·have hg : i < wa.length := by simp at hg; omega
  refine aj ?_;show AWP _ _ _ _ _ _;refine ah ?_;refine ar ?_;refine gQ fun _ Z9=>?_;refine Z7 ?_;refine eQ Z9 ?_;clear Z9;refine gQ fun _ Z9=>?_;refine Z7 ?_;refine eQ Z9 ?_;clear Z9;refine ar (aN (α := Nat × List Nat × Nat) (fun p => mk 83 [(2, .ptr 2 0), (3, .ptr 3 0), (4, .ptr 4 0), (5, .val (.one (.own 18 1 0 (wa.length + (wb.length + 1))))), (6, dI i), (7, dL p.2.2), (8, dI p.1)] [(2, some (.box (IC na wa))), (3, some (.box (IC nb wb))), (4, some (.box [.d (.lit (.bool false)), .nil])), (18, some (.arr 1 (p.2.1.map cW)))] []) (fun p => p.1 <= wb.length + 1 /\ WTI wa (wb ++ [0]) i p.1 p.2.1 p.2.2) (fun p => wb.length + 1 - p.1) (0, out, 0) ?_ ⟨Nat.zero_le _, hti⟩ ?_)
  ·exact Wk.mk' ⟨rfl, rfl, rfl, rfl, rfl, rfl, rfl, trivial⟩ ⟨rfl, rfl, rfl, rfl, trivial⟩
  rintro ⟨j, out, c⟩ ⟨hj, hti⟩
  simp only at hj hti
  show AWP _ _ _ _ _ (mk 83 [(2, .ptr 2 0), (3, .ptr 3 0), (4, .ptr 4 0), (5, .val (.one (.own 18 1 0 (wa.length + (wb.length + 1))))), (6, dI i), (7, dL c), (8, dI j)] [(2, some (.box (IC na wa))), (3, some (.box (IC nb wb))), (4, some (.box [.d (.lit (.bool false)), .nil])), (18, some (.arr 1 (out.map cW)))] [])
  have hlen := hti.len
  rw [lb'] at hlen
  have hcl := hti.cl
  refine ah ?_;refine aO (α := Bool) (fun p => mk 83 [(2, .ptr 2 0), (3, .ptr 3 0), (4, .ptr 4 0), (5, .val (.one (.own 18 1 0 (wa.length + (wb.length + 1))))), (6, dI i), (7, dL c), (8, dI j), (34, dB p)] [(2, some (.box (IC na wa))), (3, some (.box (IC nb wb))), (4, some (.box [.d (.lit (.bool false)), .nil])), (18, some (.arr 1 (out.map cW)))] []) (fun p => (p = true -> j <= wb.length) /\ (p = false -> wb.length <= j /\ c = 0)) ?_ ?_
  ·refine gR fun _ Z9=>?_;refine Z8 ?_;refine Z4 ?_;refine Z6 ?_;refine ay rfl (aP rfl rfl rfl) rfl ?_;refine Z5 ?_;refine Z8 ?_;refine db (fun hx => ?_) (fun hx => ?_)
   ·have hx : j < wb.length := by simp at hx; omega
    refine ag rfl ?_;refine ag rfl ?_;refine Z3 ?_;refine eQ Z9 ?_;clear Z9;exact ⟨true, ⟨fun _ => by omega, fun h => (by cases h)⟩, Wk.mk' ⟨rfl, rfl, rfl, rfl, rfl, rfl, rfl, rfl, trivial⟩ ⟨rfl, rfl, rfl, rfl, trivial⟩⟩
   ·have hx : wb.length <= j := by simp at hx; omega
    refine Z8 ?_;refine Z5 ?_;refine Z3 ?_;refine eQ Z9 ?_;clear Z9;refine ⟨_, ⟨fun h => ?_, fun h => ?_⟩, Wk.mk' ⟨rfl, rfl, rfl, rfl, rfl, rfl, rfl, rfl, trivial⟩ ⟨rfl, rfl, rfl, rfl, trivial⟩⟩
    ·rcases Nat.lt_or_ge wb.length j with h' | h'
     ·have : j = wb.length + 1 := by omega
      subst this
      have := hti.c0 ha hb
      subst this
      simp at h
     ·exact h'
    ·exact ⟨hx, by simp at h; omega⟩
  rintro p ⟨h1, h2⟩
  refine ap rfl (fun hh => ?_) (fun hh => ?_)
  ·have hh := h1 hh
   have hB := hti.bound ha hb'
   have hij : i + j < out.length := by omega
   have hst := hti.step hg (by omega) hB
   rw [yh] at hB hst
   have hm : wa.getD i 0 * wb.getD j 0 < 18446744073709551616 := by omega
   have hou := aX hti.ok (i + j)
   refine aj ?_;show AWP _ _ _ _ _ _;refine ah ?_;refine ar ?_;refine cr [(2, .ptr 2 0), (3, .ptr 3 0), (4, .ptr 4 0), (5, .val (.one (.own 18 1 0 (wa.length + (wb.length + 1))))), (6, dI i), (7, dL c), (8, dI j)] [(2, some (.box (IC na wa))), (3, some (.box (IC nb wb))), (4, some (.box [.d (.lit (.bool false)), .nil])), (18, some (.arr 1 (out.map cW)))] ⟨rfl, rfl, rfl, rfl, rfl, rfl, rfl, trivial⟩ ⟨rfl, rfl, rfl, rfl, trivial⟩ ?_;refine gQ fun _ Z9=>?_;refine Z8 ?_;refine Z8 ?_;refine Z8 ?_;refine am rfl (aJ (c := ((i + j : Nat) : Int)) (by omega) (by omega)) rfl ?_;refine ac rfl (x_o (i := i + j) (j := i + j) rfl rfl rfl rfl rfl (by omega) (by omega)) rfl ?_;refine bq rfl (lV rfl rfl rfl rfl hij) rfl ?_;refine aQ rfl (aR rfl rfl rfl (cv (hti.ok.lt64 _))) rfl ?_;refine Z8 ?_;refine am rfl (iI rfl (by omega)) rfl ?_;refine Z7 ?_;refine eQ Z9 ?_;clear Z9;refine aO (α := Unit) (fun _ => mk 83 [(2, .ptr 2 0), (3, .ptr 3 0), (4, .ptr 4 0), (5, .val (.one (.own 18 1 0 (wa.length + (wb.length + 1))))), (6, dI i), (8, dI j), (9, dL (wa.getD i 0 * wb.getD j 0 + out.getD (i + j) 0 + c))] [(2, some (.box (IC na wa))), (3, some (.box (IC nb wb))), (4, some (.box [.d (.lit (.bool false)), .nil])), (18, some (.arr 1 (out.map cW)))] []) (fun _ => True) ?_ ?_
   ·refine gQ fun _ Z9=>?_;refine Z8 ?_;refine Z4 ?_;refine Z6 ?_;refine ay rfl (aP rfl rfl rfl) rfl ?_;refine Z5 ?_;refine eQ Z9 ?_;clear Z9;refine ap rfl (fun hx => ?_) (fun hx => ?_)
    ·have hx : j < wb.length := by simp at hx; omega
     refine cr [(2, .ptr 2 0), (3, .ptr 3 0), (4, .ptr 4 0), (5, .val (.one (.own 18 1 0 (wa.length + (wb.length + 1))))), (6, dI i), (8, dI j), (9, dL (out.getD (i + j) 0 + c))] [(2, some (.box (IC na wa))), (3, some (.box (IC nb wb))), (4, some (.box [.d (.lit (.bool false)), .nil])), (18, some (.arr 1 (out.map cW)))] ⟨rfl, rfl, rfl, rfl, rfl, rfl, rfl, trivial⟩ ⟨rfl, rfl, rfl, rfl, trivial⟩ ?_;refine cE tok mixed (A := [[], [], [], [], [1], [1, 2, 3], [1, 2, 3, 4], [], [], [], [7], [7, 8, 9], [7, 8, 9, 10], [1, 2, 3, 4, 5, 7, 8, 9, 10, 11], [1, 2, 3, 4, 5, 6, 7, 8, 9, 10, 11, 12], []]) (an := [{}, {}, {}, {}, {}, {}, {}, {}, {}, {}, {}, {}, {}, {}, {}, {}]) rfl (by kernel_rfl) rfl fun _ Z9=>?_;refine Z8 ?_;refine Z4 ?_;refine Z6 ?_;refine Z8 ?_;refine ac rfl (gT (i := i) rfl rfl rfl rfl rfl hg) rfl ?_;refine Z6 ?_;refine aQ rfl (aR rfl rfl rfl (cv (ha.lt64 i))) rfl ?_;refine Z4 ?_;refine Z6 ?_;refine Z8 ?_;refine ac rfl (gT (i := j) rfl rfl rfl rfl rfl hx) rfl ?_;refine Z6 ?_;refine aQ rfl (aR rfl rfl rfl (cv (hb.lt64 j))) rfl ?_;refine am rfl (tl rfl hm) rfl ?_;refine am rfl (iI (z := wa.getD i 0 * wb.getD j 0 + out.getD (i + j) 0 + c) (by omega) hB) rfl ?_;refine Z7 ?_;refine eQ Z9 ?_;clear Z9;exact ⟨(), trivial, Wk.mk' ⟨rfl, rfl, rfl, rfl, rfl, rfl, rfl, trivial⟩ ⟨rfl, rfl, rfl, rfl, trivial⟩⟩
    ·have hx : wb.length <= j := by simp at hx; omega
     refine aj ?_;exact ⟨(), trivial, Wk.mk' ⟨rfl, rfl, rfl, rfl, rfl, rfl, EO (by rw [ie hx]; omega), trivial⟩ ⟨rfl, rfl, rfl, rfl, trivial⟩⟩
   rintro - -
   show AWP _ _ _ _ _ (mk 83 [(2, .ptr 2 0), (3, .ptr 3 0), (4, .ptr 4 0), (5, .val (.one (.own 18 1 0 (wa.length + (wb.length + 1))))), (6, dI i), (8, dI j), (9, dL (wa.getD i 0 * wb.getD j 0 + out.getD (i + j) 0 + c))] [(2, some (.box (IC na wa))), (3, some (.box (IC nb wb))), (4, some (.box [.d (.lit (.bool false)), .nil])), (18, some (.arr 1 (out.map cW)))] []);refine gQ fun _ Z9=>?_;refine Z8 ?_;refine Z8 ?_;refine Z8 ?_;refine am rfl (aJ (c := ((i + j : Nat) : Int)) (by omega) (by omega)) rfl ?_;refine Z8 ?_;refine aQ rfl (aR rfl rfl rfl (dZ _)) rfl ?_;refine ac rfl (x_o (i := i + j) (j := i + j) rfl rfl rfl rfl rfl (by omega) (by omega)) rfl ?_;refine ak rfl (lM rfl rfl rfl hij) rfl rfl rfl ?_;refine eQ Z9 ?_;clear Z9;refine gR fun _ Z9=>?_;refine Z8 ?_;refine am rfl (jD (s := 32) (by omega) rfl) rfl ?_;refine Z7 ?_;refine eQ Z9 ?_;clear Z9;show AWP _ _ _ _ _ _;refine gR fun _ Z9=>?_;refine Z8 ?_;refine am rfl (aJ (c := ((j + 1 : Nat) : Int)) (by omega) (by omega)) rfl ?_;refine Z7 ?_;refine eQ Z9 ?_;clear Z9;exact ⟨(j + 1, _, _), by simp only; omega, ⟨by simp only; omega, hst⟩, Wk.mk' ⟨rfl, rfl, rfl, rfl, rfl, rfl, rfl, trivial⟩ ⟨rfl, rfl, rfl, rfl, trivial⟩⟩
  ·obtain ⟨hx, hc0⟩ := h2 hh
   subst hc0
   refine az ?_;show AWP _ _ _ _ _ _;refine gR fun _ Z9=>?_;refine Z8 ?_;refine am rfl (aJ (c := ((i + 1 : Nat) : Int)) (by omega) (by omega)) rfl ?_;refine Z7 ?_;refine eQ Z9 ?_;clear Z9;exact ⟨(i + 1, _), by simp only; omega, ⟨hg, hti.rowk hx⟩, Wk.mk' ⟨rfl, rfl, rfl, rfl, rfl, trivial⟩ ⟨rfl, rfl, rfl, rfl, trivial⟩⟩
 ·have hg : i = wa.length := by simp at hg; omega
  subst hg
  have hfin := hti.fin
  have hw0 : wv (wb ++ [0]) = wv wb := by rw [ew]; simp [wv]
  have hout : wv out = wv wa * wv wb := by
   have hv := hti.val
   simp only [List.take_zero, wv, Nat.mul_zero, Nat.zero_mul, Nat.add_zero, List.take_of_length_le (Nat.le_refl _)] at hv;rw [hv, hw0]
  have hol := hti.len
  rw [lb'] at hol;refine az ?_;show AWP _ _ _ _ _ _;refine eL [2, 3, 4, 5] [2, 3, 4, 18] 18 [(2, .ptr 2 0), (3, .ptr 3 0), (4, .ptr 4 0), (5, V1 (dW out))] [(2, some (.box (IC na wa))), (3, some (.box (IC nb wb))), (4, some (.box [.d (.lit (.bool false)), .nil]))] rfl ?_ ?_ ?_
  ·exact ⟨rfl, rfl, rfl, i6 rfl (by omega), trivial⟩
  ·exact ⟨rfl, rfl, rfl, trivial⟩
  refine gQ fun _ Z9=>?_;refine Z4 ?_;refine Z6 ?_;refine Z4 ?_;refine Z6 ?_;refine Z5 ?_;refine Z8 ?_;refine aG rfl rfl rfl ?_;refine ab rfl rfl (gG (!(na == nb)) out (zv na wa * zv nb wb) hti.ok (by omega) (by unfold zv; rw [hout]; cases na <;> cases nb <;> simp [Int.natCast_mul, Int.mul_neg, Int.neg_mul])) rfl rfl rfl rfl ?_;refine ak rfl rfl rfl rfl rfl ?_;refine eQ Z9 ?_;clear Z9;exact ai aE

theorem uf (k : Nat) : 4294967296 ^ k = 2 ^ (32 * k) := by rw [show 4294967296 = 2 ^ 32 from rfl, <- Nat.pow_mul]
theorem nJ (i : Nat) : 2 ^ i = 4294967296 ^ (i / 32) * 2 ^ (i % 32) := by rw [uf, <- Nat.pow_add, Nat.div_add_mod]
theorem A8 {m : List Nat} (hm : wOK m) (i : Nat) : m.getD (i / 32) 0 / 2 ^ (i % 32) % 2 = wv m / 2 ^ i % 2 := by
 rw [lJ hm, nJ i, <- Nat.div_div_eq_div_mul];generalize wv m / 4294967296 ^ (i / 32) = y
 have hs : i % 32 < 32 := Nat.mod_lt _ (by decide)
 generalize i % 32 = s at *
 have e : 4294967296 = 2 ^ s * (2 * 2 ^ (31 - s)) := by
  rw [<- Nat.pow_succ', <- Nat.pow_add, show s + (31 - s + 1) = 32 from by omega]
 rw [e, Nat.mod_mul_right_div_self, Nat.mod_mul_right_mod]

theorem B0 (m : List Nat) (i : Nat) (hm : wOK m) (lm : m.length <= 1073741824) (hi : i <= 9223372036854775807) :
  Con Tryz.prog 207 [V1 (dW m), dI i] { v := dU (wv m / 2 ^ i % 2) } := by
 refine Z2 Tryz.func207 ?_
 intro w0 X
 rw [aq _ _ [(0, V1 (dW m)), (1, dI i)] rfl rfl];refine gQ fun _ Z9=>?_;refine Z7 ?_;refine eQ Z9 ?_;clear Z9;refine ah ?_;refine gQ fun _ Z9=>?_;refine Z8 ?_;refine am rfl (tj (y := 32) (by omega) hi rfl) rfl ?_;refine Z8 ?_;refine ay rfl (aP rfl rfl rfl) rfl ?_;refine Z5 ?_;refine eQ Z9 ?_;clear Z9;refine ap rfl (fun hc => ?_) (fun hc => ?_)
 ·have hc : m.length <= i / 32 := by simp at hc; omega
  have h0 : wv m / 2 ^ i = 0 := by
   refine Nat.div_eq_of_lt (Nat.lt_of_lt_of_le (dR hm) ?_);rw [uf]; exact Nat.pow_le_pow_right (by decide) (by omega)
  refine gQ fun _ Z9=>?_;refine Z7 ?_;refine eQ Z9 ?_;clear Z9;exact ai (bf (h3 := by rw [h0]; rfl))
 ·have hc : i / 32 < m.length := by simp at hc; omega
  refine aj ?_;show AWP _ _ _ _ _ _;refine gQ fun _ Z9=>?_;refine Z8 ?_;refine Z8 ?_;refine am rfl (tj (y := 32) (by omega) hi rfl) rfl ?_;refine ac rfl (gT (i := i / 32) rfl rfl rfl rfl rfl hc) rfl ?_;refine Z6 ?_;refine Z8 ?_;refine am rfl (AE (y := 32) (by omega) hi rfl) rfl ?_;refine aQ rfl (aR rfl rfl rfl (cv (by omega))) rfl ?_;refine am rfl (kn (s := i % 32) (by omega) rfl) rfl ?_;refine am rfl (nV (y := 2) (by omega) rfl) rfl ?_;refine Z7 ?_;refine eQ Z9 ?_;clear Z9;exact ai (bf (h3 := by rw [A8 hm]; rfl))

theorem A9 {A B n : Nat} (hB : 0 < B) : (2 * (A / 2 ^ (n + 1) % B) + A / 2 ^ n % 2) / B + 2 * (A / 2 ^ (n + 1) / B) = A / 2 ^ n / B /\ (2 * (A / 2 ^ (n + 1) % B) + A / 2 ^ n % 2) % B = A / 2 ^ n % B := by
 have e : A / 2 ^ (n + 1) = A / 2 ^ n / 2 := by rw [Nat.pow_succ, Nat.div_div_eq_div_mul]
 rw [e];generalize A / 2 ^ n = y
 have h := Nat.div_add_mod (y / 2) B
 have h2 := Nat.div_add_mod y 2
 generalize y / 2 / B = q at *;generalize y / 2 % B = r at *;generalize y / 2 = x at *;generalize y % 2 = b at *
 have : y = (2 * r + b) + B * (2 * q) := by grind
 rw [this, Nat.add_mul_div_left _ _ hB, Nat.add_mul_mod_self_left];exact ⟨rfl, rfl⟩
structure BQ (A B L n : Nat) (q : List Nat) : Prop where
 ok : wOK q
 len : q.length = L
 val : wv q = A / 2 ^ n / B * 2 ^ n
theorem BQ.zero {A B L n : Nat} {q : List Nat} (h : BQ A B L (n + 1) q) (h0 : A / 2 ^ n / B = 2 * (A / 2 ^ (n + 1) / B)) : BQ A B L n q :=
 ⟨h.ok, h.len, by rw [h.val, h0, Nat.pow_succ]; grind⟩
theorem BQ.one {A B L n : Nat} {q : List Nat} (h : BQ A B L (n + 1) q) (h0 : A / 2 ^ n / B = 1 + 2 * (A / 2 ^ (n + 1) / B)) (hn : n / 32 < L) :
  BQ A B L n (q.set (n / 32) ((q.getD (n / 32) 0 + 1 * 2 ^ (n % 32) % 4294967296) % 4294967296)) := by
 have hs : n % 32 < 32 := Nat.mod_lt _ (by decide)
 have hp : 1 * 2 ^ (n % 32) % 4294967296 = 2 ^ (n % 32) := by
  rw [Nat.one_mul, Nat.mod_eq_of_lt];exact Nat.pow_lt_pow_right (by decide) hs
 have hw : q.getD (n / 32) 0 % 2 ^ (n % 32 + 1) = 0 := by
  rw [lJ h.ok, h.val]
  have e1 : A / 2 ^ (n + 1) / B * 2 ^ (n + 1) / 4294967296 ^ (n / 32) = A / 2 ^ (n + 1) / B * 2 ^ (n % 32 + 1) := by
   rw [Nat.pow_succ, nJ n, Nat.pow_succ]
   have : A / (4294967296 ^ (n / 32) * 2 ^ (n % 32) * 2) / B * (4294967296 ^ (n / 32) * 2 ^ (n % 32) * 2) = A / (4294967296 ^ (n / 32) * 2 ^ (n % 32) * 2) / B * (2 ^ (n % 32) * 2) * 4294967296 ^ (n / 32) := by
    generalize A / (4294967296 ^ (n / 32) * 2 ^ (n % 32) * 2) / B = z;generalize 2 ^ (n % 32) = y;generalize 4294967296 ^ (n / 32) = x
    grind
   rw [this, Nat.mul_div_cancel _ (pow_pos _)]
  rw [e1]
  have e2 : 4294967296 = 2 ^ (n % 32 + 1) * 2 ^ (31 - n % 32) := by rw [<- Nat.pow_add, show n % 32 + 1 + (31 - n % 32) = 32 from by omega]
  rw [e2, Nat.mod_mul_right_mod, Nat.mul_mod_left]
 have hlt : q.getD (n / 32) 0 + 2 ^ (n % 32) < 4294967296 := by
  have h1 := aX h.ok (n / 32)
  obtain ⟨z, hz⟩ := Nat.dvd_of_mod_eq_zero hw
  rw [hz] at h1 ⊢
  have e2 : 4294967296 = 2 ^ (n % 32 + 1) * 2 ^ (31 - n % 32) := by rw [<- Nat.pow_add, show n % 32 + 1 + (31 - n % 32) = 32 from by omega]
  have h2 : z < 2 ^ (31 - n % 32) := Nat.lt_of_mul_lt_mul_left (a := 2 ^ (n % 32 + 1)) (by rw [<- e2]; exact h1)
  have h3 : 2 ^ (n % 32 + 1) * (z + 1) <= 2 ^ (n % 32 + 1) * 2 ^ (31 - n % 32) := Nat.mul_le_mul_left _ h2
  rw [<- e2, Nat.mul_succ, Nat.pow_succ] at h3
  have h4 : 0 < 2 ^ (n % 32) := Nat.two_pow_pos _
  rw [Nat.pow_succ]; omega
 rw [hp, Nat.mod_eq_of_lt hlt];refine ⟨h.ok.set _ hlt, by rw [List.length_set]; exact h.len, ?_⟩
 have hsv := ik (a := q) (i := n / 32) (by rw [h.len]; exact hn) (q.getD (n / 32) 0 + 2 ^ (n % 32))
 have hv := h.val
 rw [h0, Nat.add_mul, Nat.one_mul];rw [Nat.add_mul] at hsv
 have hps := nJ n
 rw [Nat.mul_comm (4294967296 ^ (n / 32))] at hps;rw [<- hps] at hsv;rw [Nat.pow_succ] at hv
 have : A / 2 ^ (n + 1) / B * (2 ^ n * 2) = 2 * (A / 2 ^ (n + 1) / B) * 2 ^ n := by
  generalize A / 2 ^ (n + 1) / B = z; grind
 rw [Nat.pow_succ] at this;rw [this] at hv;rw [Nat.pow_succ]
 omega

theorem vp (a b : List Nat) (ha : wOK a) (hb : wOK b) (tb : jZ b) (h0 : 0 < wv b) (la : a.length <= 268435456) (lb : b.length <= 268435456) :
  Con Tryz.prog 194 [V1 (dW a), V1 (dW b)] { v := .tup [.one (.d (dW (wof (wv a / wv b)))), .one (.d (dW (wof (wv a % wv b))))] } := by
 have hrl : ∀ n, n < 2 * wv b -> (wof n).length <= b.length + 1 := by
  intro n hn
  have h1 := dR hb
  refine tK ?_;rw [Nat.pow_succ]; omega
 have hbw : b = wof (wv b) := tP hb (aw _) tb (bX _) (aF _).symm
 refine Z2 Tryz.func194 ?_
 intro w0 X
 rw [aq _ _ [(0, V1 (dW a)), (1, V1 (dW b))] rfl rfl];refine gQ fun _ Z9=>?_;refine Z7 ?_;refine Z7 ?_;refine eQ Z9 ?_;clear Z9;refine gQ fun _ Z9=>?_;refine Z8 ?_;refine ay rfl (aP rfl rfl rfl) rfl ?_;refine bn (sz := _) (es := _) (f := _) (v := _) rfl (sW (l := a.length) (c := a.length) rfl rfl rfl rfl rfl (Nat.le_of_ble_eq_true rfl) rfl rfl (by omega) (by omega)) rfl rfl ?_;refine Z7 ?_;refine eQ Z9 ?_;clear Z9;refine gQ fun _ Z9=>?_;refine Z7 ?_;refine eQ Z9 ?_;clear Z9;refine ah ?_;refine gQ fun _ Z9=>?_;refine Z8 ?_;refine ay rfl (aP rfl rfl rfl) rfl ?_;refine am rfl (lG (c := ((32 * a.length : Nat) : Int)) (by omega) (by omega)) rfl ?_;refine am rfl (bE rfl (by omega)) rfl ?_;refine Z7 ?_;refine eQ Z9 ?_;clear Z9;refine ar (aN (α := Nat × List Nat) (fun p => mk 54 [(7, V1 (dW (wof (wv a / 2 ^ p.1 % wv b)))), (0, V1 (dW a)), (1, V1 (dW b)), (6, .val (.one (.own 11 1 0 a.length))), (8, dI ((p.1 : Int) - 1))] [(11, some (.arr 1 (p.2.map cW)))] []) (fun p => p.1 <= 32 * a.length /\ BQ (wv a) (wv b) a.length p.1 p.2) (fun p => p.1) (32 * a.length, List.replicate a.length 0) ?_ ⟨Nat.le_refl _, ?_⟩ ?_)
 ·have hz : wv a / 2 ^ (32 * a.length) = 0 := by rw [<- uf]; exact Nat.div_eq_of_lt (dR ha)
  simp only [hz, Nat.zero_mod];exact Wk.trans (Wk.mk' (E' := [(7, .val (.one .nil)), (0, V1 (dW a)), (1, V1 (dW b)), (6, .val (.one (.own 11 1 0 a.length))), (8, dI (((32 * a.length : Nat) : Int) - 1))]) (S' := [(11, some (.arr 1 ((List.replicate a.length 0).map cW)))]) ⟨rfl, rfl, rfl, rfl, rfl, trivial⟩ ⟨rfl, trivial⟩) Wk.nilD
 ·have hz : wv a / 2 ^ (32 * a.length) = 0 := by rw [<- uf]; exact Nat.div_eq_of_lt (dR ha)
  exact ⟨wOK.rep0 _, by simp, by simp only; rw [hz, kB]; simp⟩
 rintro ⟨m, q⟩ ⟨hm, hbq⟩
 simp only at hm hbq
 show AWP _ _ _ _ _ (mk 54 [(7, V1 (dW (wof (wv a / 2 ^ m % wv b)))), (0, V1 (dW a)), (1, V1 (dW b)), (6, .val (.one (.own 11 1 0 a.length))), (8, dI ((m : Int) - 1))] [(11, some (.arr 1 (q.map cW)))] [])
 have hql := hbq.len
 refine ah ?_;refine gQ fun _ Z9=>?_;refine Z8 ?_;refine Z5 ?_;refine eQ Z9 ?_;clear Z9;refine ap rfl (fun hg => ?_) (fun hg => ?_)
 ·obtain ⟨i, rfl⟩ : ∃ i, m = i + 1 := ⟨m - 1, by simp at hg; omega⟩
  obtain ⟨s1, s2⟩ := A9 (A := wv a) (B := wv b) (n := i) h0
  have hr := Nat.mod_lt (wv a / 2 ^ (i + 1)) h0
  have hbit : wv a / 2 ^ i % 2 < 2 := Nat.mod_lt _ (by decide)
  generalize hx : wv a / 2 ^ (i + 1) % wv b = r at *;generalize hy : wv a / 2 ^ i % 2 = bt at *;refine aj ?_;show AWP _ _ _ _ _ _;refine ah ?_;refine ar ?_;refine cr [(0, V1 (dW a)), (1, V1 (dW b)), (6, .val (.one (.own 11 1 0 a.length))), (7, V1 (dW (wof r))), (8, dI i)] [(11, some (.arr 1 (q.map cW)))] ⟨rfl, rfl, rfl, rfl, qT (by omega), trivial⟩ ⟨rfl, trivial⟩ ?_
  have l1 := hrl r (by omega)
  refine gQ fun _ Z9=>?_;refine Z8 ?_;refine Z8 ?_;refine ab rfl rfl (pq (wof r) (wof r) (aw _) (aw _) (by omega) (by omega)) rfl rfl rfl rfl ?_;refine Z7 ?_;refine eQ Z9 ?_;clear Z9;refine aO (α := Unit) (fun _ => mk 54 [(0, V1 (dW a)), (1, V1 (dW b)), (6, .val (.one (.own 11 1 0 a.length))), (7, V1 (dW (wof (2 * r + bt)))), (8, dI i)] [(11, some (.arr 1 (q.map cW)))] []) (fun _ => True) ?_ ?_
  ·have l2 := hrl (r + r) (by omega)
   have e2 : wv (wof r) + wv (wof r) = r + r := by rw [aF]
   refine gQ fun _ Z9=>?_;refine Z8 ?_;refine Z8 ?_;refine ab rfl rfl (hy ▸ B0 a i ha (by omega) (by omega)) rfl rfl rfl rfl ?_;refine Z5 ?_;refine eQ Z9 ?_;clear Z9;refine ap rfl (fun hc => ?_) (fun hc => ?_)
   ·have hc : bt = 1 := by simp at hc; omega
    subst hc
    refine bL fun _ Z9=>?_;refine aa tok rfl ?_;refine Z8 ?_;refine ae ?_;refine aa tok rfl ?_;refine aI rfl rfl rfl rfl ?_;refine ae ?_;refine sh (Wk.fzNew rfl rfl rfl) ?_;refine aa tok rfl ?_;refine ab rfl rfl (pq (wof (wv (wof r) + wv (wof r))) [1] (aw _) (wOK.one (by decide)) (by rw [e2]; omega) (by simp)) rfl rfl rfl rfl ?_;refine ae ?_;refine aa tok rfl ?_;refine Z7 ?_;refine ae ?_;refine aS rfl (Z9 _ ?_); clear Z9;refine ⟨(), trivial, Wk.mk' ⟨rfl, rfl, rfl, ?_, rfl, trivial⟩ ⟨rfl, trivial⟩⟩
    show V1 (dW _) = V1 (dW _)
    rw [aF, e2, show wv [1] = 1 from rfl, show r + r + 1 = 2 * r + 1 from by omega]
   ·have hc : bt = 0 := by simp at hc; omega
    subst hc
    refine aj ?_;refine ⟨(), trivial, Wk.mk' ⟨rfl, rfl, rfl, ?_, rfl, trivial⟩ ⟨rfl, trivial⟩⟩
    show V1 (dW _) = V1 (dW _)
    rw [e2, show r + r = 2 * r + 0 from by omega]
  rintro - -
  show AWP _ _ _ _ _ (mk 54 [(0, V1 (dW a)), (1, V1 (dW b)), (6, .val (.one (.own 11 1 0 a.length))), (7, V1 (dW (wof (2 * r + bt)))), (8, dI i)] [(11, some (.arr 1 (q.map cW)))] [])
  have l3 := hrl (2 * r + bt) (by omega)
  refine gQ fun _ Z9=>?_;refine Z8 ?_;refine Z8 ?_;refine ab rfl rfl (pp (wof (2 * r + bt)) b (aw _) hb (bX _) tb (by omega) (by omega)) rfl rfl rfl rfl ?_;refine Z5 ?_;refine eQ Z9 ?_;clear Z9;refine ap rfl (fun hc => ?_) (fun hc => ?_)
  ·have hc : wv b <= 2 * r + bt := by
    have h1 := of_decide_eq_true hc
    have := mt (ip (m := wv (wof (2 * r + bt))) (n := wv b)).2 (by omega)
    rw [aF] at this; omega
   have hd1 : (2 * r + bt) / wv b = 1 := Nat.div_eq_of_lt_le (by omega) (by omega)
   have hd2 : (2 * r + bt) % wv b = 2 * r + bt - wv b := by rw [Nat.mod_eq_sub_mod hc, Nat.mod_eq_of_lt (by omega)]
   rw [hd1] at s1;rw [hd2] at s2
   have hbl : b.length <= (wof (2 * r + bt)).length := by
    have := bu hc
    unfold wl at this
    rwa [<- hbw] at this
   have hi32 : i / 32 < q.length := by omega
   refine gQ fun _ Z9=>?_;refine Z8 ?_;refine Z8 ?_;refine ab rfl rfl (mJ (wof (2 * r + bt)) b (aw _) hb (by omega) hbl (by rw [aF]; exact hc)) rfl rfl rfl rfl ?_;refine Z7 ?_;refine eQ Z9 ?_;clear Z9;refine gR fun _ Z9=>?_;refine Z8 ?_;refine Z8 ?_;refine am rfl (tj (y := 32) (by omega) (by omega) rfl) rfl ?_;refine Z8 ?_;refine Z8 ?_;refine am rfl (tj (y := 32) (by omega) (by omega) rfl) rfl ?_;refine ac rfl (x_o (i := i / 32) (j := i / 32) rfl rfl rfl rfl rfl (by omega) (by omega)) rfl ?_;refine bq rfl (lV rfl rfl rfl rfl hi32) rfl ?_;refine Z8 ?_;refine am rfl (AE (y := 32) (by omega) (by omega) rfl) rfl ?_;refine aQ rfl (aR rfl rfl rfl (cv (by omega))) rfl ?_;refine am rfl (v7 (x := 1) (s := i % 32) (by omega) rfl) rfl ?_;refine am rfl (wg rfl) rfl ?_;refine ac rfl (x_o (i := i / 32) (j := i / 32) rfl rfl rfl rfl rfl (by omega) (by omega)) rfl ?_;refine ak rfl (lM rfl rfl rfl hi32) rfl rfl rfl ?_;refine eQ Z9 ?_;clear Z9;show AWP _ _ _ _ _ _;refine gR fun _ Z9=>?_;refine Z8 ?_;refine am rfl (bE rfl (by omega)) rfl ?_;refine Z7 ?_;refine eQ Z9 ?_;clear Z9;refine ⟨(i, _), by simp only; omega, ⟨by simp only; omega, hbq.one s1.symm (by omega)⟩, Wk.mk' ⟨?_, rfl, rfl, rfl, rfl, trivial⟩ ⟨rfl, trivial⟩⟩
   show V1 (dW _) = V1 (dW _)
   rw [aF, s2]
  ·have hc : 2 * r + bt < wv b := by
    have h1 := of_decide_eq_false hc
    have := (ip (m := wv (wof (2 * r + bt))) (n := wv b)).1 (by omega)
    rwa [aF] at this
   have hd1 : (2 * r + bt) / wv b = 0 := Nat.div_eq_of_lt hc
   have hd2 : (2 * r + bt) % wv b = 2 * r + bt := Nat.mod_eq_of_lt hc
   rw [hd1, Nat.zero_add] at s1;rw [hd2] at s2;refine aj ?_;show AWP _ _ _ _ _ _;refine gR fun _ Z9=>?_;refine Z8 ?_;refine am rfl (bE rfl (by omega)) rfl ?_;refine Z7 ?_;refine eQ Z9 ?_;clear Z9;refine ⟨(i, q), by simp only; omega, ⟨by simp only; omega, hbq.zero s1.symm⟩, Wk.mk' ⟨?_, rfl, rfl, rfl, rfl, trivial⟩ ⟨rfl, trivial⟩⟩
   show V1 (dW _) = V1 (dW _)
   rw [s2]
 ·have hm0 : m = 0 := by simp at hg; omega
  subst hm0
  have hv := hbq.val
  simp only [Nat.pow_zero, Nat.div_one, Nat.mul_one] at hv;refine az ?_;show AWP _ _ _ _ _ _;refine eL [6, 7] [11] 11 [(6, V1 (dW q)), (7, V1 (dW (wof (wv a / 2 ^ 0 % wv b))))] [] rfl ?_ trivial ?_
  ·exact ⟨i6 rfl (by omega), rfl, trivial⟩
  refine gQ fun _ Z9=>?_;refine Z8 ?_;refine ab rfl rfl (dg q hbq.ok (by omega)) rfl rfl rfl rfl ?_;refine Z8 ?_;refine Z7 ?_;refine Z7 ?_;refine eQ Z9 ?_;clear Z9;exact ai (bf (h3 := by rw [hv, Nat.pow_zero, Nat.div_one]; rfl))
end Go.Proofs.YtnoildlijhapaaaGreatDoor

/- The reference's integers: halves, quotients, the greatest common divisor. No condition. -/
namespace Go.Proofs.YtnoildlijhapaaaGreatDoor
attribute [local irreducible] aC

theorem Ei (n : Nat) : ZC (n : Int) = IC false (wof n) := by
 unfold ZC
 rw [Int.natAbs_natCast, decide_eq_false (by omega)]
theorem xi {m n : Nat} : gX m n = 0 ↔ m = n := by
 unfold gX
 by_cases h : m < n
 ·simp [h]; omega
 ·rw [if_neg h]; split <;> omega
theorem xh {m n : Nat} : gX m n > 0 ↔ n < m := by
 unfold gX
 by_cases h : m < n
 ·simp [h]; omega
 ·rw [if_neg h]; split <;> omega
theorem mu (X : Nat) : (wof X).getD 0 0 % 2 = X % 2 := by
 rw [lJ (aw X), aF, Nat.pow_zero, Nat.div_one]; omega
theorem pi {X : Nat} (h : 0 < X) : 0 < (wof X).length := by
 rw [List.length_pos_iff, ne_eq, eg]; omega
theorem uz {X Y : Nat} (hx : X % 2 = 0) (hy : Y % 2 = 1) : Nat.gcd (X / 2) Y = Nat.gcd X Y := by
 have hc : Nat.Coprime 2 Y := by unfold Nat.Coprime; rw [Nat.gcd_rec, hy]; rfl
 have : X = 2 * (X / 2) := by omega
 conv => rhs; rw [this]
 exact (Nat.Coprime.gcd_mul_left_cancel _ hc).symm

theorem mK (m : List Nat) (hm : wOK m) (lm : m.length <= 1073741824) : Con Tryz.prog 174 [V1 (dW m)] { v := V1 (dW (wof (wv m / 2))) } := by
 refine Z2 Tryz.func174 ?_
 intro w0 X
 rw [aq _ _ [(0, V1 (dW m))] rfl rfl];refine gQ fun _ Z9=>?_;refine Z7 ?_;refine eQ Z9 ?_;clear Z9;refine gQ fun _ Z9=>?_;refine aI rfl rfl rfl rfl ?_;refine Z8 ?_;refine bK rfl (n9 (es := []) rfl rfl rfl rfl rfl rfl (by decide) (Nat.le_of_ble_eq_true rfl) rfl tu rfl rfl rfl (by simp; omega)) rfl rfl rfl ?_;refine Z7 ?_;refine eQ Z9 ?_;clear Z9;refine ah ?_;refine gQ fun _ Z9=>?_;refine Z7 ?_;refine eQ Z9 ?_;clear Z9;refine ar (aN (α := Nat × List Nat) (fun p => mk 44 [(0, V1 (dW m)), (3, .val (.one (.own 7 1 0 m.length))), (4, dI p.1)] [(7, some (.arr 1 (p.2.map cW)))] []) (fun p => p.1 <= m.length /\ p.2.length = m.length /\ ∀ k, p.2.getD k 0 = if k < p.1 then wv m / 2 / 4294967296 ^ k % 4294967296 else m.getD k 0) (fun p => m.length - p.1) (0, m) ?_ ⟨Nat.zero_le _, rfl, fun k => by simp⟩ ?_)
 ·refine Wk.mk' ⟨rfl, ?_, rfl, trivial⟩ ⟨rfl, trivial⟩
  show SV.val (.one (.own 7 1 0 _)) = _
  simp
 rintro ⟨i, o⟩ ⟨hi, hol, ho⟩
 simp only at hi hol ho
 show AWP _ _ _ _ _ (mk 44 [(0, V1 (dW m)), (3, .val (.one (.own 7 1 0 m.length))), (4, dI i)] [(7, some (.arr 1 (o.map cW)))] []);refine ah ?_;refine gQ fun _ Z9=>?_;refine Z8 ?_;refine Z8 ?_;refine ay rfl rfl rfl ?_;refine Z5 ?_;refine eQ Z9 ?_;clear Z9;refine ap rfl (fun hc => ?_) (fun hc => ?_)
 ·have hc : i < m.length := by simp at hc; omega
  have hoi := ho i
  rw [if_neg (by omega)] at hoi
  have hdig := ru (n := 1) (by omega) i hm
  have hx0 := aX hm i
  have hx1 := aX hm (i + 1)
  rw [Nat.pow_one] at hdig
  have hdig' : m.getD i 0 / 2 + m.getD (i + 1) 0 % 2 * 2147483648 = wv m / 2 / 4294967296 ^ i % 4294967296 := by rw [<- hdig]; omega
  refine aj ?_;show AWP _ _ _ _ _ _;refine ah ?_;refine ar ?_;refine gQ fun _ Z9=>?_;refine Z8 ?_;refine Z8 ?_;refine Z8 ?_;refine Z8 ?_;refine ac rfl (x_o (i := i) (j := i) rfl rfl rfl rfl rfl hc (by omega)) rfl ?_;refine bq rfl ((lV rfl rfl rfl rfl (by omega)).trans (by rw [hoi])) rfl ?_;refine am rfl (kn (s := 1) (by omega) rfl) rfl ?_;refine ac rfl (x_o (i := i) (j := i) rfl rfl rfl rfl rfl hc (by omega)) rfl ?_;refine ak rfl (lM rfl rfl rfl (by omega)) rfl rfl rfl ?_;refine eQ Z9 ?_;clear Z9
  have hset : ∀ (y z : Nat), (o.set i y).set i z = o.set i z := fun y z => by simp
  have hnew : ∀ z, z = wv m / 2 / 4294967296 ^ i % 4294967296 -> ∀ k, (o.set i z).getD k 0 = if k < i + 1 then wv m / 2 / 4294967296 ^ k % 4294967296 else m.getD k 0 := by
   intro z hz k
   rw [gi _ _ _ _ (by omega)]
   by_cases hk : k = i
   ·rw [if_pos hk, if_pos (by omega), hz, hk]
   ·rw [if_neg hk, ho k]
    by_cases hk2 : k < i
    ·rw [if_pos hk2, if_pos (by omega)]
    ·rw [if_neg hk2, if_neg (by omega)]
  refine gQ fun _ Z9=>?_;refine Z8 ?_;refine am rfl (aJ (c := ((i + 1 : Nat) : Int)) (by omega) (by omega)) rfl ?_;refine Z8 ?_;refine ay rfl (aP rfl rfl rfl) rfl ?_;refine Z5 ?_;refine eQ Z9 ?_;clear Z9;refine ap rfl (fun hd => ?_) (fun hd => ?_)
  ·have hd : i + 1 < m.length := by simp at hd; omega
   refine cr [(0, V1 (dW m)), (3, .val (.one (.own 7 1 0 m.length))), (4, dI i)] [(7, some (.arr 1 ((o.set i (m.getD i 0 / 2)).map cW)))] ⟨rfl, rfl, rfl, trivial⟩ ⟨rfl, trivial⟩ ?_
   have hgi : (o.set i (m.getD i 0 / 2)).getD i 0 = m.getD i 0 / 2 := by rw [gi _ _ _ _ (by omega), if_pos rfl]
   refine cE tok mixed (A := [[], [], [], [], [], [2, 3], [], [], [], [7], [6, 7, 8], [6, 7, 8, 9], [6, 7, 8, 9, 10], [2, 3, 4, 6, 7, 8, 9, 10, 11], [], []]) (an := [{}, {}, {}, {}, {}, {}, {}, {}, {}, {}, {}, {}, {}, {}, {}, {}]) rfl (by kernel_rfl) rfl fun _ Z9=>?_;refine Z8 ?_;refine Z8 ?_;refine Z8 ?_;refine Z8 ?_;refine ac rfl (x_o (i := i) (j := i) rfl rfl rfl rfl rfl hc (by omega)) rfl ?_;refine bq rfl ((lV rfl rfl rfl rfl (by rw [List.length_set]; omega)).trans (by rw [hgi])) rfl ?_;refine Z8 ?_;refine Z8 ?_;refine am rfl (aJ (c := ((i + 1 : Nat) : Int)) (by omega) (by omega)) rfl ?_;refine ac rfl (gT (i := i + 1) rfl rfl rfl rfl rfl hd) rfl ?_;refine Z6 ?_;refine am rfl (nV (y := 2) (by omega) rfl) rfl ?_;refine am rfl (v7 (s := 31) (z := m.getD (i + 1) 0 % 2 * 2147483648) (by omega) (by show m.getD (i + 1) 0 % 2 * 2147483648 % 4294967296 = _; omega)) rfl ?_;refine am rfl (wg (z := wv m / 2 / 4294967296 ^ i % 4294967296) (by rw [hdig', Nat.mod_mod])) rfl ?_;refine ac rfl (x_o (i := i) (j := i) rfl rfl rfl rfl rfl hc (by omega)) rfl ?_;refine ak rfl (lM rfl rfl rfl (by rw [List.length_set]; omega)) rfl rfl rfl ?_;refine eQ Z9 ?_;clear Z9;show AWP _ _ _ _ _ _;refine gR fun _ Z9=>?_;refine Z8 ?_;refine am rfl (aJ (c := ((i + 1 : Nat) : Int)) (by omega) (by omega)) rfl ?_;refine Z7 ?_;refine eQ Z9 ?_;clear Z9;exact ⟨(i + 1, o.set i (wv m / 2 / 4294967296 ^ i % 4294967296)), by simp only; omega, ⟨hc, by simpa using hol, hnew _ rfl⟩, Wk.mk' ⟨rfl, rfl, rfl, trivial⟩ ⟨by rw [hset]; rfl, trivial⟩⟩
  ·have hd : m.length <= i + 1 := by simp at hd; omega
   rw [ie hd] at hdig';refine aj ?_;show AWP _ _ _ _ _ _;refine gR fun _ Z9=>?_;refine Z8 ?_;refine am rfl (aJ (c := ((i + 1 : Nat) : Int)) (by omega) (by omega)) rfl ?_;refine Z7 ?_;refine eQ Z9 ?_;clear Z9;exact ⟨(i + 1, o.set i (m.getD i 0 / 2)), by simp only; omega, ⟨hc, by simpa using hol, hnew _ (by omega)⟩, Wk.mk' ⟨rfl, rfl, rfl, trivial⟩ ⟨rfl, trivial⟩⟩
 ·have hc : i = m.length := by simp at hc; omega
  subst hc
  have hfin : o = aW m.length (wv m / 2) := by
   refine rJ (by rw [hol, aD]) (fun k hk => ?_);rw [ho k, if_pos (by omega), nB _ (by omega)]
  have hlt := dR hm
  refine az ?_;show AWP _ _ _ _ _ _;refine eL [3] [7] 7 [(3, V1 (dW (aW m.length (wv m / 2))))] [] rfl ?_ trivial ?_
  ·exact ⟨i6 (by rw [hfin]) (by rw [aD]), trivial⟩
  refine gQ fun _ Z9=>?_;refine Z8 ?_;refine ab rfl rfl (dg _ (bI _ _) (by rw [aD]; omega)) rfl rfl rfl rfl ?_;refine Z7 ?_;refine eQ Z9 ?_;clear Z9;exact ai (bf (h3 := by rw [bU, Nat.mod_eq_of_lt (by omega)]; rfl))

theorem w4 (na nb : Bool) (wa wb : List Nat) (z : Int) (ha : wOK wa) (hb : wOK wb) (la : wa.length <= 536870912) (lb : wb.length <= 536870912) (h : zv na wa + zv nb wb = z) :
  Con Tryz.prog 107 [AG (IC na wa), AG (IC nb wb)] { v := AG (ZC z) } := h ▸ sL na nb wa wb ha hb la lb
theorem B1 (na nb : Bool) (wa wb : List Nat) (z : Int) (ha : wOK wa) (hb : wOK wb) (la : wa.length <= 536870912) (lb : wb.length <= 536870912) (h : zv na wa - zv nb wb = z) :
  Con Tryz.prog 195 [AG (IC na wa), AG (IC nb wb)] { v := AG (ZC z) } := h ▸ wZ na nb wa wb ha hb la lb

theorem C9 (na : Bool) (A B : Nat) : (tr na A B).natAbs = A % B := by
 unfold tr; split
 ·rw [Int.natAbs_neg, Int.natAbs_natCast]
 ·rw [Int.natAbs_natCast]
theorem Da (na nb : Bool) (A B : Nat) : (tq na nb A B).natAbs = A / B := by
 unfold tq; split
 ·rw [Int.natAbs_natCast]
 ·rw [Int.natAbs_neg, Int.natAbs_natCast]
theorem qh (na nb : Bool) (wa wb : List Nat) (ha : wOK wa) (hb : wOK wb) (la : wa.length <= 268435456) (lb : wb.length <= 268435456) (h0 : zv nb wb ≠ 0) :
  Con Tryz.prog 175 [AG (IC na wa), AG (IC nb wb)] { v := .tup [.agg (ZC (zv na wa / zv nb wb)), .agg (ZC (zv na wa % zv nb wb)), .one (.d (lI 0))] } := by
 have hB0 : wv wb ≠ 0 := by intro h; apply h0; unfold zv; rw [h]; simp
 have hBp : 0 < wv wb := by omega
 have hla := bg ha
 have hlb := bg hb
 have hxa : zv na wa = sg na (wv wa) := rfl
 have hxb : zv nb wb = sg nb (wv wb) := rfl
 have habs : zv nb wb = sg nb (wv wb) := rfl
 rw [hxa, hxb];generalize hA : wv wa = A at *;generalize hB : wv wb = B at *
 have hsgB : (sg nb B).natAbs = B := by unfold sg; split <;> omega
 have hrle : (wof (tr na A B).natAbs).length <= (wof A).length := bu (by rw [C9]; exact Nat.mod_le A B)
 have hqle : (wof (tq na nb A B).natAbs).length <= (wof A).length := bu (by rw [Da]; exact Nat.div_le_self A B)
 have hql : (wof (A / B)).length <= (wof A).length := bu (Nat.div_le_self A B)
 have hrl : (wof (A % B)).length <= (wof A).length := bu (Nat.mod_le A B)
 refine Z2 Tryz.func175 ?_
 intro w0 X
 rw [aq _ _ [(0, AG (IC na wa)), (1, AG (IC nb wb))] rfl rfl];refine gQ fun _ Z9=>?_;refine aB rfl rfl rfl rfl rfl rfl ?_;refine aB rfl rfl rfl rfl rfl rfl ?_;refine av rfl rfl rfl rfl rfl rfl ?_;refine av rfl rfl rfl rfl rfl rfl ?_;refine Z7 ?_;refine eQ Z9 ?_;clear Z9;refine ah ?_;refine gQ fun _ Z9=>?_;refine Z6 ?_;refine ab rfl rfl (kd nb wb hb (by omega)) rfl rfl rfl rfl ?_;refine Z5 ?_;refine eQ Z9 ?_;clear Z9;refine ap rfl (fun hc => ?_) (fun hc => ?_)
 ·exfalso
  have : (zv nb wb).sign = 0 := by simpa using hc
  exact h0 (Int.sign_eq_zero_iff_zero.1 this)
 refine aj ?_;show AWP _ _ _ _ _ _;refine cr [(2, .ptr 2 0), (3, .ptr 3 0), (4, .ptr 4 0), (5, .ptr 5 0)] [(2, some (.box (IC na wa))), (3, some (.box (IC nb wb))), (4, some (.box [.d (.lit (.bool false)), .nil])), (5, some (.box [.d (.lit (.bool false)), .nil]))] ⟨rfl, rfl, rfl, rfl, trivial⟩ ⟨rfl, rfl, rfl, rfl, trivial⟩ ?_;refine aA tok mixed (A := [[], [], [0], [], [], [0, 1, 3], [0, 1, 3, 4], [0, 1, 2, 3, 4, 5], [0, 1, 2, 3, 4, 5, 6], [0, 1, 2, 3, 4, 5, 6], [], []]) (an := [{}, {}, {}, { c := [19] }, { c := [19] }, {}, {}, {}, {}, {}, {}, {}]) rfl (by kernel_rfl) rfl fun _ Z9=>?_;refine Z4 ?_;refine Z6 ?_;refine ab rfl rfl (hA ▸ dg wa ha (by omega)) rfl rfl rfl rfl ?_;refine Z4 ?_;refine Z6 ?_;refine ab rfl rfl (hB ▸ dg wb hb (by omega)) rfl rfl rfl rfl ?_;refine ab rfl rfl (vp (wof A) (wof B) (aw A) (aw B) (bX B) (by rw [aF]; exact hBp) (by omega) (by omega)) rfl rfl rfl rfl ?_;refine Z8 ?_;refine au rfl rfl rfl ?_;refine au rfl rfl rfl ?_;refine Z7 ?_;refine Z7 ?_;refine eQ Z9 ?_;clear Z9;refine gQ fun _ Z9=>?_;refine Z4 ?_;refine Z6 ?_;refine Z4 ?_;refine Z6 ?_;refine Z5 ?_;refine Z8 ?_;refine aG rfl rfl rfl ?_;refine ab rfl rfl (gG (!(na == nb)) _ (tq na nb A B) (aw _) (by rw [aF, aF]; omega) (by unfold zv tq; rw [aF, aF, aF]; cases na <;> cases nb <;> simp)) rfl rfl rfl rfl ?_;refine av rfl rfl rfl rfl rfl rfl ?_;refine ak rfl rfl rfl rfl rfl ?_;refine eQ Z9 ?_;clear Z9;refine gQ fun _ Z9=>?_;refine Z4 ?_;refine Z6 ?_;refine Z8 ?_;refine aG rfl rfl rfl ?_;refine ab rfl rfl (gG na _ (tr na A B) (aw _) (by rw [aF, aF]; omega) (by unfold zv tr; rw [aF, aF, aF])) rfl rfl rfl rfl ?_;refine av rfl rfl rfl rfl rfl rfl ?_;refine ak rfl rfl rfl rfl rfl ?_;refine eQ Z9 ?_;clear Z9;refine aO (α := Unit) (fun _ => mk 55 [(4, .ptr 4 0), (5, .ptr 5 0), (9, .ptr 9 0), (10, .ptr 10 0)] [(4, some (.box [.d (.lit (.bool false)), .nil])), (5, some (.box [.d (.lit (.bool false)), .nil])), (9, some (.box (ZC (sg na A / sg nb B)))), (10, some (.box (ZC (sg na A % sg nb B))))] []) (fun _ => True) ?_ ?_
 ·refine cr [(3, .ptr 3 0), (4, .ptr 4 0), (5, .ptr 5 0), (9, .ptr 9 0), (10, .ptr 10 0)] [(3, some (.box (IC nb wb))), (4, some (.box [.d (.lit (.bool false)), .nil])), (5, some (.box [.d (.lit (.bool false)), .nil])), (9, some (.box (ZC (tq na nb A B)))), (10, some (.box (ZC (tr na A B))))] ⟨rfl, rfl, rfl, rfl, rfl, trivial⟩ ⟨rfl, rfl, rfl, rfl, rfl, trivial⟩ ?_;refine gQ fun _ Z9=>?_;refine Z4 ?_;refine Z6 ?_;refine eQ Z9 ?_;clear Z9;refine ap rfl (fun hd => ?_) (fun hd => ?_)
  ·have hd : tr na A B < 0 := of_decide_eq_true hd
   obtain ⟨e1, e2⟩ := wJ na nb hBp hd
   refine cr [(3, .ptr 3 0), (4, .ptr 4 0), (5, .ptr 5 0), (9, .ptr 9 0), (10, .ptr 10 0)] [(3, some (.box (IC nb wb))), (4, some (.box [.d (.lit (.bool false)), .nil])), (5, some (.box [.d (.lit (.bool false)), .nil])), (9, some (.box (ZC (tq na nb A B)))), (10, some (.box (ZC (tr na A B))))] ⟨rfl, rfl, rfl, rfl, rfl, trivial⟩ ⟨rfl, rfl, rfl, rfl, rfl, trivial⟩ ?_
   have habB : (zv nb wb).natAbs = B := by rw [bm]; exact hB
   refine aA tok mixed (A := [[], [], [], [1], []]) (an := [{}, {}, {}, {}, {}]) rfl (by kernel_rfl) rfl fun _ Z9=>?_;refine Z6 ?_;refine Z6 ?_;refine ab rfl rfl (habB ▸ sN nb wb hb (by omega)) rfl rfl rfl rfl ?_;refine ab rfl rfl (w4 (decide (tr na A B < 0)) (decide ((B : Int) < 0)) (wof (tr na A B).natAbs) (wof (B : Int).natAbs) (sg na A % sg nb B) (aw _) (aw _) (by omega) (by simp only [Int.natAbs_natCast]; omega) (by rw [aZ, aZ, e2])) rfl rfl rfl rfl ?_;refine ak rfl rfl rfl rfl rfl ?_;refine eQ Z9 ?_;clear Z9;refine gQ fun _ Z9=>?_;refine Z4 ?_;refine Z6 ?_;refine eQ Z9 ?_;clear Z9;refine ap rfl (fun hn => ?_) (fun hn => ?_)
   ·have hn : nb = true := hn
    subst hn
    refine cE tok mixed (A := [[], [], [], []]) (an := [{}, {}, {}, {}]) rfl (by kernel_rfl) rfl fun _ Z9=>?_;refine Z6 ?_;refine ab rfl rfl (ke 1 (by unfold I64; omega)) rfl rfl rfl rfl ?_;refine ab rfl rfl (w4 (decide (tq na true A B < 0)) (decide ((1 : Int) < 0)) (wof (tq na true A B).natAbs) (wof (1 : Int).natAbs) (sg na A / sg true B) (aw _) (aw _) (by omega) (by decide) (by rw [aZ, aZ, e1]; rfl)) rfl rfl rfl rfl ?_;refine ak rfl rfl rfl rfl rfl ?_;refine eQ Z9 ?_;clear Z9;exact ⟨(), trivial, Wk.mk' ⟨rfl, rfl, rfl, rfl, trivial⟩ ⟨rfl, rfl, rfl, rfl, trivial⟩⟩
   ·have hn : nb = false := hn
    subst hn
    refine cE tok mixed (A := [[], [], [], []]) (an := [{}, {}, {}, {}]) rfl (by kernel_rfl) rfl fun _ Z9=>?_;refine Z6 ?_;refine ab rfl rfl (ke 1 (by unfold I64; omega)) rfl rfl rfl rfl ?_;refine ab rfl rfl (B1 (decide (tq na false A B < 0)) (decide ((1 : Int) < 0)) (wof (tq na false A B).natAbs) (wof (1 : Int).natAbs) (sg na A / sg false B) (aw _) (aw _) (by omega) (by decide) (by rw [aZ, aZ, e1]; rfl)) rfl rfl rfl rfl ?_;refine ak rfl rfl rfl rfl rfl ?_;refine eQ Z9 ?_;clear Z9;exact ⟨(), trivial, Wk.mk' ⟨rfl, rfl, rfl, rfl, trivial⟩ ⟨rfl, rfl, rfl, rfl, trivial⟩⟩
  ·have hd : 0 <= tr na A B := by have := of_decide_eq_false hd; omega
   obtain ⟨e1, e2⟩ := wI na nb hBp hd
   refine aj ?_;exact ⟨(), trivial, Wk.mk' ⟨rfl, rfl, rfl, rfl, trivial⟩ ⟨rfl, rfl, by rw [e1]; rfl, by rw [e2]; rfl, trivial⟩⟩
 rintro - -
 show AWP _ _ _ _ _ (mk 55 [(4, .ptr 4 0), (5, .ptr 5 0), (9, .ptr 9 0), (10, .ptr 10 0)] [(4, some (.box [.d (.lit (.bool false)), .nil])), (5, some (.box [.d (.lit (.bool false)), .nil])), (9, some (.box (ZC (sg na A / sg nb B)))), (10, some (.box (ZC (sg na A % sg nb B))))] []);refine aA tok mixed (A := [[], [], [], [], []]) (an := [{}, {}, { d := [10] }, {}, {}]) rfl (by kernel_rfl) rfl fun _ Z9=>?_;refine Z6 ?_;refine Z6 ?_;refine ak rfl rfl rfl rfl rfl ?_;refine ak rfl rfl rfl rfl rfl ?_;refine Z7 ?_;refine eQ Z9 ?_;clear Z9;exact ai aE

theorem oG (x y : Int) (hx : zl x <= 268435456) (hy : zl y <= 268435456) (h0 : y ≠ 0) :
  Con Tryz.prog 175 [AG (ZC x), AG (ZC y)] { v := .tup [.agg (ZC (x / y)), .agg (ZC (x % y)), .one (.d (lI 0))] } := by
 have := qh (decide (x < 0)) (decide (y < 0)) (wof x.natAbs) (wof y.natAbs) (aw _) (aw _) hx hy (by rw [aZ]; exact h0)
 rw [aZ, aZ] at this;exact this

theorem w3 (na nb : Bool) (wa wb : List Nat) (ha : wOK wa) (hb : wOK wb) (la : wa.length <= 268435456) (lb : wb.length <= 268435456) :
  Con Tryz.prog 146 [AG (IC na wa), AG (IC nb wb)] { v := AG (ZC (Int.gcd (zv na wa) (zv nb wb) : Int)) } := by
 have hg : Int.gcd (zv na wa) (zv nb wb) = Nat.gcd (wv wa) (wv wb) := by
  show Nat.gcd (zv na wa).natAbs (zv nb wb).natAbs = _
  rw [bm, bm]
 have hla := bg ha
 have hlb := bg hb
 have eA : (zv na wa).natAbs = wv wa := bm na wa
 have eB : (zv nb wb).natAbs = wv wb := bm nb wb
 rw [hg];generalize hA : wv wa = A at *;generalize hB : wv wb = B at *;refine Z2 Tryz.func146 ?_
 intro w0 X
 rw [aq _ _ [(0, AG (IC na wa)), (1, AG (IC nb wb))] rfl rfl];refine gQ fun _ Z9=>?_;refine aB rfl rfl rfl rfl rfl rfl ?_;refine aB rfl rfl rfl rfl rfl rfl ?_;refine av rfl rfl rfl rfl rfl rfl ?_;refine eQ Z9 ?_;clear Z9;refine gQ fun _ Z9=>?_;refine Z4 ?_;refine Z6 ?_;refine ab rfl rfl (hA ▸ dg wa ha (by omega)) rfl rfl rfl rfl ?_;refine Z7 ?_;refine eQ Z9 ?_;clear Z9;refine gQ fun _ Z9=>?_;refine Z4 ?_;refine Z6 ?_;refine ab rfl rfl (hB ▸ dg wb hb (by omega)) rfl rfl rfl rfl ?_;refine Z7 ?_;refine eQ Z9 ?_;clear Z9;refine ah ?_;refine gQ fun _ Z9=>?_;refine Z8 ?_;refine ay rfl (aP rfl rfl rfl) rfl ?_;refine Z5 ?_;refine eQ Z9 ?_;clear Z9;refine ap rfl (fun hc => ?_) (fun hc => ?_)
 ·have hc : wof A = [] := by simpa using hc
  have hA0 : A = 0 := eg.1 hc
  refine gQ fun _ Z9=>?_;refine Z6 ?_;refine ab rfl rfl (sN nb wb hb (by omega)) rfl rfl rfl rfl ?_;refine ak rfl rfl rfl rfl rfl ?_;refine eQ Z9 ?_;clear Z9;exact ai (bf (h3 := by rw [eB, hA0, Nat.gcd_zero_left]; rfl))
 have hc : wof A ≠ [] := by simpa using hc
 have hA0 : 0 < A := by
  rcases Nat.eq_zero_or_pos A with h | h
  ·exact absurd (eg.2 h) hc
  ·exact h
 refine aj ?_;show AWP _ _ _ _ _ _;refine ah ?_;refine gQ fun _ Z9=>?_;refine Z8 ?_;refine ay rfl (aP rfl rfl rfl) rfl ?_;refine Z5 ?_;refine eQ Z9 ?_;clear Z9;refine ap rfl (fun hd => ?_) (fun hd => ?_)
 ·have hd : wof B = [] := by simpa using hd
  have hB0 : B = 0 := eg.1 hd
  refine gQ fun _ Z9=>?_;refine Z6 ?_;refine ab rfl rfl (sN na wa ha (by omega)) rfl rfl rfl rfl ?_;refine ak rfl rfl rfl rfl rfl ?_;refine eQ Z9 ?_;clear Z9;exact ai (bf (h3 := by rw [eA, hB0, Nat.gcd_zero_right]; rfl))
 have hd : wof B ≠ [] := by simpa using hd
 have hB0 : 0 < B := by
  rcases Nat.eq_zero_or_pos B with h | h
  ·exact absurd (eg.2 h) hd
  ·exact h
 refine aj ?_;show AWP _ _ _ _ _ _;refine gQ fun _ Z9=>?_;refine Z7 ?_;refine eQ Z9 ?_;clear Z9
 have hlen : ∀ X, X <= A -> (wof X).length <= 268435456 := fun X h => Nat.le_trans (bu h) (Nat.le_trans hla la)
 have hlen' : ∀ X, X <= B -> (wof X).length <= 268435456 := fun X h => Nat.le_trans (bu h) (Nat.le_trans hlb lb)
 refine aO (α := Nat × Nat × Nat) (fun p => mk 84 [(4, .ptr 4 0), (5, V1 (dW (wof p.1))), (6, V1 (dW (wof p.2.1))), (7, dI p.2.2)] [(4, some (.box [.d (.lit (.bool false)), .nil]))] []) (fun p => p.1 * 2 ^ p.2.2 = A /\ p.2.1 * 2 ^ p.2.2 = B /\ p.2.2 <= 8589934592 /\ ¬ (p.1 % 2 = 0 /\ p.2.1 % 2 = 0)) ?_ ?_
 ·refine ar (aN (α := Nat × Nat × Nat) (fun p => mk 84 [(4, .ptr 4 0), (5, V1 (dW (wof p.1))), (6, V1 (dW (wof p.2.1))), (7, dI p.2.2)] [(4, some (.box [.d (.lit (.bool false)), .nil]))] []) (fun p => p.1 * 2 ^ p.2.2 = A /\ p.2.1 * 2 ^ p.2.2 = B) (fun p => p.1) (A, B, 0) ?_ ⟨by simp, by simp⟩ ?_)
  ·exact Wk.mk' ⟨rfl, rfl, rfl, rfl, trivial⟩ ⟨rfl, trivial⟩
  rintro ⟨x, y, t⟩ ⟨i1, i2⟩
  simp only at i1 i2
  show AWP _ _ _ _ _ (mk 84 [(4, .ptr 4 0), (5, V1 (dW (wof x))), (6, V1 (dW (wof y))), (7, dI t)] [(4, some (.box [.d (.lit (.bool false)), .nil]))] [])
  have hx : 0 < x := by
   rcases Nat.eq_zero_or_pos x with h | h
   ·rw [h, Nat.zero_mul] at i1; omega
   ·exact h
  have hy : 0 < y := by
   rcases Nat.eq_zero_or_pos y with h | h
   ·rw [h, Nat.zero_mul] at i2; omega
   ·exact h
  have hxA : x <= A := by rw [<- i1]; exact Nat.le_mul_of_pos_right _ (Nat.two_pow_pos t)
  have hyB : y <= B := by rw [<- i2]; exact Nat.le_mul_of_pos_right _ (Nat.two_pow_pos t)
  have ht : t <= 8589934592 := by
   have h1 : 2 ^ t <= A := by rw [<- i1]; exact Nat.le_mul_of_pos_left _ hx
   have h2 := uU A
   rw [uf] at h2
   have h3 : 2 ^ t < 2 ^ (32 * (wof A).length) := by omega
   have := (Nat.pow_lt_pow_iff_right (by decide : 1 < 2)).1 h3
   omega
  refine ah ?_;refine aO (α := Bool) (fun c => mk 84 [(4, .ptr 4 0), (5, V1 (dW (wof x))), (6, V1 (dW (wof y))), (7, dI t), (36, dB c)] [(4, some (.box [.d (.lit (.bool false)), .nil]))] []) (fun c => (c = true -> x % 2 = 0 /\ y % 2 = 0) /\ (c = false -> ¬ (x % 2 = 0 /\ y % 2 = 0))) ?_ ?_
  ·refine gR fun _ Z9=>?_;refine Z8 ?_;refine ac rfl (gT (i := 0) rfl rfl rfl rfl rfl (pi hx)) rfl ?_;refine Z6 ?_;refine am rfl (nV (y := 2) (z := x % 2) (by omega) (mu x)) rfl ?_;refine Z5 ?_;refine Z8 ?_;refine db (fun he => ?_) (fun he => ?_)
   ·have he : x % 2 = 0 := by simp at he; omega
    refine Z8 ?_;refine ac rfl (gT (i := 0) rfl rfl rfl rfl rfl (pi hy)) rfl ?_;refine Z6 ?_;refine am rfl (nV (y := 2) (z := y % 2) (by omega) (mu y)) rfl ?_;refine Z5 ?_;refine Z3 ?_;refine eQ Z9 ?_;clear Z9;refine ⟨_, ⟨fun h => ⟨he, ?_⟩, fun h => ?_⟩, Wk.mk' ⟨rfl, rfl, rfl, rfl, rfl, trivial⟩ ⟨rfl, trivial⟩⟩
    ·simp at h; omega
    ·simp at h; omega
   ·have he : ¬ x % 2 = 0 := by simp at he; omega
    refine ag rfl ?_;refine ag rfl ?_;refine ag rfl ?_;refine ag rfl ?_;refine ag rfl ?_;refine Z3 ?_;refine eQ Z9 ?_;clear Z9;exact ⟨false, ⟨fun h => (by cases h), fun _ h => he h.1⟩, Wk.mk' ⟨rfl, rfl, rfl, rfl, rfl, trivial⟩ ⟨rfl, trivial⟩⟩
  rintro c ⟨k1, k2⟩
  refine ap rfl (fun he => ?_) (fun he => ?_)
  ·obtain ⟨ex, ey⟩ := k1 he
   have l1 := hlen x hxA
   have l2 := hlen' y hyB
   refine aj ?_;show AWP _ _ _ _ _ _;refine ar ?_;refine gQ fun _ Z9=>?_;refine Z8 ?_;refine ab rfl rfl (mK (wof x) (aw _) (by omega)) rfl rfl rfl rfl ?_;refine Z7 ?_;refine eQ Z9 ?_;clear Z9;refine gQ fun _ Z9=>?_;refine Z8 ?_;refine ab rfl rfl (mK (wof y) (aw _) (by omega)) rfl rfl rfl rfl ?_;refine Z7 ?_;refine eQ Z9 ?_;clear Z9;refine gR fun _ Z9=>?_;refine Z8 ?_;refine am rfl (aJ (c := ((t + 1 : Nat) : Int)) (by omega) (by omega)) rfl ?_;refine Z7 ?_;refine eQ Z9 ?_;clear Z9;refine ⟨(x / 2, y / 2, t + 1), by simp only; omega, ⟨?_, ?_⟩, Wk.mk' ⟨rfl, qS (by rw [aF]), qS (by rw [aF]), rfl, trivial⟩ ⟨rfl, trivial⟩⟩
   ·rw [<- i1, Nat.pow_succ]
    have : x = 2 * (x / 2) := by omega
    conv => rhs; rw [this]
    simp only; grind
   ·rw [<- i2, Nat.pow_succ]
    have : y = 2 * (y / 2) := by omega
    conv => rhs; rw [this]
    simp only; grind
  ·refine az ?_;exact ⟨(x, y, t), ⟨i1, i2, ht, k2 he⟩, Wk.mk' ⟨rfl, rfl, rfl, rfl, trivial⟩ ⟨rfl, trivial⟩⟩
 rintro ⟨x0, y0, t⟩ ⟨i1, i2, ht, hne⟩
 simp only at i1 i2 ht hne
 have hG : Nat.gcd x0 y0 * 2 ^ t = Nat.gcd A B := by rw [<- i1, <- i2, Nat.gcd_mul_right]
 have hx0 : 0 < x0 := by
  rcases Nat.eq_zero_or_pos x0 with h | h
  ·rw [h, Nat.zero_mul] at i1; omega
  ·exact h
 have hy0 : 0 < y0 := by
  rcases Nat.eq_zero_or_pos y0 with h | h
  ·rw [h, Nat.zero_mul] at i2; omega
  ·exact h
 have hxA : x0 <= A := by rw [<- i1]; exact Nat.le_mul_of_pos_right _ (Nat.two_pow_pos t)
 have hyB : y0 <= B := by rw [<- i2]; exact Nat.le_mul_of_pos_right _ (Nat.two_pow_pos t)
 show AWP _ _ _ _ _ (mk 84 [(4, .ptr 4 0), (5, V1 (dW (wof x0))), (6, V1 (dW (wof y0))), (7, dI t)] [(4, some (.box [.d (.lit (.bool false)), .nil]))] []);refine aO (α := Unit) (fun _ => mk 84 [(4, .ptr 4 0), (5, V1 (dW (wof (Nat.gcd x0 y0)))), (7, dI t)] [(4, some (.box [.d (.lit (.bool false)), .nil]))] []) (fun _ => True) ?_ ?_
 ·refine ar (aN (α := Nat × Nat) (fun p => mk 84 [(4, .ptr 4 0), (5, V1 (dW (wof p.1))), (6, V1 (dW (wof p.2))), (7, dI t)] [(4, some (.box [.d (.lit (.bool false)), .nil]))] []) (fun p => 0 < p.1 /\ 0 < p.2 /\ p.1 <= A /\ p.2 <= B /\ Nat.gcd p.1 p.2 = Nat.gcd x0 y0 /\ ¬ (p.1 % 2 = 0 /\ p.2 % 2 = 0)) (fun p => p.1 + p.2) (x0, y0) ?_ ⟨hx0, hy0, hxA, hyB, rfl, hne⟩ ?_)
  ·exact Wk.mk' ⟨rfl, rfl, rfl, rfl, trivial⟩ ⟨rfl, trivial⟩
  rintro ⟨x, y⟩ ⟨px, py, lx, ly, hgc, hnb⟩
  simp only at px py lx ly hgc hnb
  show AWP _ _ _ _ _ (mk 84 [(4, .ptr 4 0), (5, V1 (dW (wof x))), (6, V1 (dW (wof y))), (7, dI t)] [(4, some (.box [.d (.lit (.bool false)), .nil]))] [])
  have l1 := hlen x lx
  have l2 := hlen' y ly
  have hcx : gX (wv (wof x)) (wv (wof y)) = gX x y := by rw [aF, aF]
  refine ah ?_;refine gQ fun _ Z9=>?_;refine Z8 ?_;refine Z8 ?_;refine ab rfl rfl (pp (wof x) (wof y) (aw _) (aw _) (bX _) (bX _) (by omega) (by omega)) rfl rfl rfl rfl ?_;refine Z5 ?_;refine eQ Z9 ?_;clear Z9;refine ap rfl (fun he => ?_) (fun he => ?_)
  ·have he : x ≠ y := by
    rw [hcx] at he
    intro h
    rw [xi.2 h] at he; simp at he
   refine aj ?_;show AWP _ _ _ _ _ _;refine ar ?_;refine ar ?_;refine cr [(4, .ptr 4 0), (5, V1 (dW (wof x))), (6, V1 (dW (wof y))), (7, dI t)] [(4, some (.box [.d (.lit (.bool false)), .nil]))] ⟨rfl, rfl, rfl, rfl, trivial⟩ ⟨rfl, trivial⟩ ?_;refine gQ fun _ Z9=>?_;refine Z8 ?_;refine ac rfl (gT (i := 0) rfl rfl rfl rfl rfl (pi px)) rfl ?_;refine Z6 ?_;refine am rfl (nV (y := 2) (z := x % 2) (by omega) (mu x)) rfl ?_;refine Z5 ?_;refine Z7 ?_;refine eQ Z9 ?_;clear Z9;refine ap rfl (fun hev => ?_) (fun hev => ?_)
   ·have hev : x % 2 = 0 := by simp at hev; omega
    have hyo : y % 2 = 1 := by have : ¬ y % 2 = 0 := fun h => hnb ⟨hev, h⟩; omega
    refine gR fun _ Z9=>?_;refine Z8 ?_;refine ab rfl rfl (mK (wof x) (aw _) (by omega)) rfl rfl rfl rfl ?_;refine Z7 ?_;refine eQ Z9 ?_;clear Z9;exact ⟨(x / 2, y), by simp only; omega, ⟨by simp only; omega, py, by simp only; omega, ly, by rw [<- hgc]; exact uz hev hyo, by simp only; omega⟩, Wk.mk' ⟨rfl, qS (by rw [aF]), rfl, rfl, trivial⟩ ⟨rfl, trivial⟩⟩
   have hev : x % 2 = 1 := by simp at hev; omega
   refine gQ fun _ Z9=>?_;refine Z8 ?_;refine ac rfl (gT (i := 0) rfl rfl rfl rfl rfl (pi py)) rfl ?_;refine Z6 ?_;refine am rfl (nV (y := 2) (z := y % 2) (by omega) (mu y)) rfl ?_;refine Z5 ?_;refine Z7 ?_;refine eQ Z9 ?_;clear Z9;refine ap rfl (fun hod => ?_) (fun hod => ?_)
   ·have hod : y % 2 = 0 := by simp at hod; omega
    refine gR fun _ Z9=>?_;refine Z8 ?_;refine ab rfl rfl (mK (wof y) (aw _) (by omega)) rfl rfl rfl rfl ?_;refine Z7 ?_;refine eQ Z9 ?_;clear Z9;exact ⟨(x, y / 2), by simp only; omega, ⟨px, by simp only; omega, lx, by simp only; omega, by rw [<- hgc, Nat.gcd_comm x, Nat.gcd_comm x]; exact uz hod hev, by simp only; omega⟩, Wk.mk' ⟨rfl, rfl, qS (by rw [aF]), rfl, trivial⟩ ⟨rfl, trivial⟩⟩
   have hod : y % 2 = 1 := by simp at hod; omega
   refine gQ fun _ Z9=>?_;refine Z8 ?_;refine Z8 ?_;refine ab rfl rfl (pp (wof x) (wof y) (aw _) (aw _) (bX _) (bX _) (by omega) (by omega)) rfl rfl rfl rfl ?_;refine Z5 ?_;refine Z7 ?_;refine eQ Z9 ?_;clear Z9;refine ap rfl (fun hgt => ?_) (fun hgt => ?_)
   ·have hgt : y < x := by
     rw [hcx] at hgt;exact xh.1 (of_decide_eq_true hgt)
    refine gR fun _ Z9=>?_;refine Z8 ?_;refine Z8 ?_;refine ab rfl rfl (mJ (wof x) (wof y) (aw _) (aw _) (by omega) (bu (by omega)) (by rw [aF, aF]; omega)) rfl rfl rfl rfl ?_;refine Z7 ?_;refine eQ Z9 ?_;clear Z9;exact ⟨(x - y, y), by simp only; omega, ⟨by simp only; omega, py, by simp only; omega, ly, by rw [<- hgc]; exact Nat.gcd_sub_self_left (by omega), by simp only; omega⟩, Wk.mk' ⟨rfl, qS (by rw [aF, aF]), rfl, rfl, trivial⟩ ⟨rfl, trivial⟩⟩
   ·have hgt : x < y := by
     rw [hcx] at hgt
     have := mt xh.2 (of_decide_eq_false hgt)
     omega
    refine gR fun _ Z9=>?_;refine Z8 ?_;refine Z8 ?_;refine ab rfl rfl (mJ (wof y) (wof x) (aw _) (aw _) (by omega) (bu (by omega)) (by rw [aF, aF]; omega)) rfl rfl rfl rfl ?_;refine Z7 ?_;refine eQ Z9 ?_;clear Z9;exact ⟨(x, y - x), by simp only; omega, ⟨px, by simp only; omega, lx, by simp only; omega, by rw [<- hgc]; exact Nat.gcd_sub_self_right (by omega), by simp only; omega⟩, Wk.mk' ⟨rfl, rfl, qS (by rw [aF, aF]), rfl, trivial⟩ ⟨rfl, trivial⟩⟩
  ·have he : x = y := by
    rw [hcx] at he
    simp at he; exact xi.1 he
   subst he
   rw [Nat.gcd_self] at hgc;refine az ?_;exact ⟨(), trivial, Wk.mk' ⟨rfl, by rw [<- hgc]; rfl, rfl, trivial⟩ ⟨rfl, trivial⟩⟩
 rintro - -
 have hgle : Nat.gcd A B <= A := Nat.gcd_le_left _ hA0
 generalize hgg : Nat.gcd x0 y0 = g at *;show AWP _ _ _ _ _ (mk 84 [(4, .ptr 4 0), (5, V1 (dW (wof g))), (7, dI t)] [(4, some (.box [.d (.lit (.bool false)), .nil]))] []);refine ah ?_;refine gQ fun _ Z9=>?_;refine Z7 ?_;refine eQ Z9 ?_;clear Z9;refine ar (aN (α := Nat) (fun i => mk 84 [(4, .ptr 4 0), (5, V1 (dW (wof (g * 2 ^ i)))), (7, dI t), (8, dI i)] [(4, some (.box [.d (.lit (.bool false)), .nil]))] []) (fun i => i <= t) (fun i => t - i) 0 ?_ (Nat.zero_le _) ?_)
 ·exact Wk.mk' ⟨rfl, by simp; rfl, rfl, rfl, trivial⟩ ⟨rfl, trivial⟩
 intro i hi
 refine ah ?_;refine gQ fun _ Z9=>?_;refine Z8 ?_;refine Z8 ?_;refine Z5 ?_;refine eQ Z9 ?_;clear Z9;refine ap rfl (fun he => ?_) (fun he => ?_)
 ·have he : i < t := by simp at he; omega
  have hle : g * 2 ^ i <= A := by
   have : g * 2 ^ i <= g * 2 ^ t := Nat.mul_le_mul_left _ (Nat.pow_le_pow_right (by decide) hi)
   omega
  have l1 := hlen _ hle
  refine aj ?_;show AWP _ _ _ _ _ _;refine ah ?_;refine ar ?_;refine gR fun _ Z9=>?_;refine Z8 ?_;refine Z8 ?_;refine ab rfl rfl (pq (wof (g * 2 ^ i)) (wof (g * 2 ^ i)) (aw _) (aw _) (by omega) (by omega)) rfl rfl rfl rfl ?_;refine Z7 ?_;refine eQ Z9 ?_;clear Z9;show AWP _ _ _ _ _ _;refine gR fun _ Z9=>?_;refine Z8 ?_;refine am rfl (aJ (c := ((i + 1 : Nat) : Int)) (by omega) (by omega)) rfl ?_;refine Z7 ?_;refine eQ Z9 ?_;clear Z9;refine ⟨i + 1, by omega, he, Wk.mk' ⟨rfl, ?_, rfl, rfl, trivial⟩ ⟨rfl, trivial⟩⟩;refine qS ?_;rw [aF, Nat.pow_succ]
  congr 1; grind
 ·have he : i = t := by simp at he; omega
  subst he
  rw [hG] at *;refine az ?_;show AWP _ _ _ _ _ _;refine gQ fun _ Z9=>?_;refine Z8 ?_;refine aG rfl rfl rfl ?_;refine ak rfl rfl rfl rfl rfl ?_;refine eQ Z9 ?_;clear Z9;exact ai (bf (h3 := by rw [Ei]; rfl))
end Go.Proofs.YtnoildlijhapaaaGreatDoor

/- The reference's rationals. No condition. -/
namespace Go.Proofs.YtnoildlijhapaaaGreatDoor
attribute [local irreducible] aC

theorem qg (x : Int) (hx : zl x <= 268435456) : Con Tryz.prog 145 [AG (ZC x)] { v := AG (ZC (-x)) } := by
 have := pt (decide (x < 0)) (wof x.natAbs) (aw _) (Nat.le_trans hx (by decide))
 rw [aZ] at this; exact this
theorem mL (x y : Int) (hx : zl x <= 536870912) (hy : zl y <= 536870912) : Con Tryz.prog 107 [AG (ZC x), AG (ZC y)] { v := AG (ZC (x + y)) } := by
 have := sL (decide (x < 0)) (decide (y < 0)) (wof x.natAbs) (wof y.natAbs) (aw _) (aw _) hx hy
 rw [aZ, aZ] at this; exact this
theorem zM (x y : Int) (hx : zl x <= 536870912) (hy : zl y <= 536870912) : Con Tryz.prog 195 [AG (ZC x), AG (ZC y)] { v := AG (ZC (x - y)) } := by
 have := wZ (decide (x < 0)) (decide (y < 0)) (wof x.natAbs) (wof y.natAbs) (aw _) (aw _) hx hy
 rw [aZ, aZ] at this; exact this
theorem d4 (x y : Int) (hx : zl x <= 500000000) (hy : zl y <= 500000000) : Con Tryz.prog 108 [AG (ZC x), AG (ZC y)] { v := AG (ZC (x * y)) } := by
 have := B2 (decide (x < 0)) (decide (y < 0)) (wof x.natAbs) (wof y.natAbs) (aw _) (aw _) hx hy
 rw [aZ, aZ] at this; exact this
theorem iR (x : Int) (hx : zl x <= 536870912) : Con Tryz.prog 143 [AG (ZC x)] { v := dI x.sign } := by
 have := kd (decide (x < 0)) (wof x.natAbs) (aw _) (Nat.le_trans hx (by decide))
 rw [aZ] at this; exact this
theorem vq (na nb : Bool) (wa wb : List Nat) (x y q : Int) (ha : wOK wa) (hb : wOK wb) (la : wa.length <= 268435456) (lb : wb.length <= 268435456) (hx : zv na wa = x) (hy : zv nb wb = y) (h0 : y ≠ 0) (hq : x / y = q) :
  Con Tryz.prog 175 [AG (IC na wa), AG (IC nb wb)] { v := .tup [.agg (ZC q), .agg (ZC (x % y)), .one (.d (lI 0))] } := by
 subst hx hy hq
 exact qh na nb wa wb ha hb la lb h0

theorem BW : Con Tryz.prog 144 [] { v := AG (ZC 1) } := by
 refine Z2 Tryz.func144 ?_
 intro w0 X
 rw [aq _ _ [] rfl rfl];refine gQ fun _ Z9=>?_;refine av rfl rfl rfl rfl rfl rfl ?_;refine eQ Z9 ?_;clear Z9;refine gQ fun _ Z9=>?_;refine ab rfl rfl (ke 1 (by unfold I64; omega)) rfl rfl rfl rfl ?_;refine ak rfl rfl rfl rfl rfl ?_;refine eQ Z9 ?_;clear Z9;exact ai aE

theorem tZ (na nb : Bool) (wa wb : List Nat) (x y q : Int) (ha : wOK wa) (hb : wOK wb) (la : wa.length <= 268435456) (lb : wb.length <= 268435456) (hx : zv na wa = x) (hy : zv nb wb = y) (h0 : y ≠ 0) (hq : x / y = q) :
  Con Tryz.prog 147 [AG (IC na wa), AG (IC nb wb)] { v := AG (ZC q) } := by
 refine Z2 Tryz.func147 ?_
 intro w0 X
 rw [aq _ _ [(0, AG (IC na wa)), (1, AG (IC nb wb))] rfl rfl];refine gQ fun _ Z9=>?_;refine aB rfl rfl rfl rfl rfl rfl ?_;refine aB rfl rfl rfl rfl rfl rfl ?_;refine av rfl rfl rfl rfl rfl rfl ?_;refine eQ Z9 ?_;clear Z9;refine gQ fun _ Z9=>?_;refine Z6 ?_;refine Z6 ?_;refine ab rfl rfl (vq na nb wa wb x y q ha hb la lb hx hy h0 hq) rfl rfl rfl rfl ?_;refine Z8 ?_;refine au rfl rfl rfl ?_;refine au rfl rfl rfl ?_;refine au rfl rfl rfl ?_;refine av rfl rfl rfl rfl rfl rfl ?_;refine av rfl rfl rfl rfl rfl rfl ?_;refine ak rfl rfl rfl rfl rfl ?_;refine ak rfl rfl rfl rfl rfl ?_;refine Z7 ?_;refine eQ Z9 ?_;clear Z9;refine gQ fun _ Z9=>?_;refine Z6 ?_;refine ak rfl rfl rfl rfl rfl ?_;refine eQ Z9 ?_;clear Z9;exact ai aE

theorem sJ (na nb : Bool) (wa wb : List Nat) (ha : wOK wa) (hb : wOK wb) (la : wa.length <= 268435456) (lb : wb.length <= 268435456) :
  Con Tryz.prog 103 [AG (IC na wa), AG (IC nb wb)] { v := AG (QZ (Rat.divInt (zv na wa) (zv nb wb))) } := by
 have lza : zl (zv na wa) <= 268435456 := by unfold zl; rw [bm]; exact Nat.le_trans (bg ha) la
 have lzb : zl (zv nb wb) <= 268435456 := by unfold zl; rw [bm]; exact Nat.le_trans (bg hb) lb
 generalize hx : zv na wa = x at *;generalize hy : zv nb wb = y at *;refine Z2 Tryz.func103 ?_
 intro w0 X
 rw [aq _ _ [(0, AG (IC na wa)), (1, AG (IC nb wb))] rfl rfl];refine gQ fun _ Z9=>?_;refine aB rfl rfl rfl rfl rfl rfl ?_;refine aB rfl rfl rfl rfl rfl rfl ?_;refine av rfl rfl rfl rfl rfl rfl ?_;refine eQ Z9 ?_;clear Z9;refine ah ?_;refine aO (α := Bool) (fun c => mk 34 [(2, .ptr 2 0), (3, .ptr 3 0), (4, .ptr 4 0), (13, dB c)] [(2, some (.box (IC na wa))), (3, some (.box (IC nb wb))), (4, some (.box [.d (.lit (.bool false)), .nil, .d (.lit (.bool false)), .nil]))] []) (fun c => (c = true -> x = 0 \/ y = 0) /\ (c = false -> x ≠ 0 /\ y ≠ 0)) ?_ ?_
 ·refine gR fun _ Z9=>?_;refine Z6 ?_;refine ab rfl rfl (hx ▸ kd na wa ha (by omega)) rfl rfl rfl rfl ?_;refine Z5 ?_;refine Z8 ?_;refine db (fun he => ?_) (fun he => ?_)
  ·have he : x = 0 := Int.sign_eq_zero_iff_zero.1 (by simpa using he)
   refine ag rfl ?_;refine ag rfl ?_;refine ag rfl ?_;refine Z3 ?_;refine eQ Z9 ?_;clear Z9;exact ⟨true, ⟨fun _ => Or.inl he, fun h => (by cases h)⟩, Wk.mk' ⟨rfl, rfl, rfl, rfl, trivial⟩ ⟨rfl, rfl, rfl, trivial⟩⟩
  ·have he : x ≠ 0 := by intro h; subst h; simp at he
   refine Z6 ?_;refine ab rfl rfl (hy ▸ kd nb wb hb (by omega)) rfl rfl rfl rfl ?_;refine Z5 ?_;refine Z3 ?_;refine eQ Z9 ?_;clear Z9;refine ⟨_, ⟨fun h => ?_, fun h => ?_⟩, Wk.mk' ⟨rfl, rfl, rfl, rfl, trivial⟩ ⟨rfl, rfl, rfl, trivial⟩⟩
   ·exact Or.inr (Int.sign_eq_zero_iff_zero.1 (by simpa using h))
   ·exact ⟨he, by intro h'; subst h'; simp at h⟩
 rintro c ⟨k1, k2⟩
 refine ap rfl (fun hc => ?_) (fun hc => ?_)
 ·have h0 : Rat.divInt x y = 0 := by
   rcases k1 hc with h | h
   ·rw [h, Rat.zero_divInt]
   ·rw [h, Rat.divInt_zero]
  refine gQ fun _ Z9=>?_;refine ab rfl rfl (ke 0 (by unfold I64; omega)) rfl rfl rfl rfl ?_;refine ab rfl rfl (BW) rfl rfl rfl rfl ?_;refine aG rfl rfl rfl ?_;refine ak rfl rfl rfl rfl rfl ?_;refine eQ Z9 ?_;clear Z9;exact ai (bf (h3 := by rw [h0]; rfl))
 obtain ⟨hx0, h0⟩ := k2 hc
 refine aj ?_;show AWP _ _ _ _ _ _;refine aO (α := (Bool × List Nat) × (Bool × List Nat)) (fun p => mk 34 [(2, .ptr 2 0), (3, .ptr 3 0), (4, .ptr 4 0)] [(2, some (.box (IC p.1.1 p.1.2))), (3, some (.box (IC p.2.1 p.2.2))), (4, some (.box [.d (.lit (.bool false)), .nil, .d (.lit (.bool false)), .nil]))] []) (fun p => wOK p.1.2 /\ wOK p.2.2 /\ p.1.2.length <= 268435456 /\ p.2.2.length <= 268435456 /\ zv p.1.1 p.1.2 = y.sign * x /\ zv p.2.1 p.2.2 = (y.natAbs : Int)) ?_ ?_
 ·refine gQ fun _ Z9=>?_;refine Z6 ?_;refine ab rfl rfl (hy ▸ kd nb wb hb (by omega)) rfl rfl rfl rfl ?_;refine Z5 ?_;refine eQ Z9 ?_;clear Z9;refine ap rfl (fun hd => ?_) (fun hd => ?_)
  ·have hd : y < 0 := by
    have h1 : y.sign < 0 := of_decide_eq_true hd
    rcases Int.lt_trichotomy y 0 with h | h | h
    ·exact h
    ·exact absurd h h0
    ·rw [Int.sign_eq_one_of_pos h] at h1; omega
   refine gQ fun _ Z9=>?_;refine Z6 ?_;refine ab rfl rfl (hx ▸ pt na wa ha (by omega)) rfl rfl rfl rfl ?_;refine ak rfl rfl rfl rfl rfl ?_;refine eQ Z9 ?_;clear Z9;show AWP _ _ _ _ _ _;refine gR fun _ Z9=>?_;refine Z6 ?_;refine ab rfl rfl (hy ▸ pt nb wb hb (by omega)) rfl rfl rfl rfl ?_;refine ak rfl rfl rfl rfl rfl ?_;refine eQ Z9 ?_;clear Z9;refine ⟨((decide (-x < 0), wof (-x).natAbs), (decide (-y < 0), wof (-y).natAbs)), ⟨aw _, aw _, ?_, ?_, ?_, ?_⟩, Wk.mk' ⟨rfl, rfl, rfl, trivial⟩ ⟨rfl, rfl, rfl, trivial⟩⟩
   ·show zl (-x) <= _; rw [lH]; exact lza
   ·show zl (-y) <= _; rw [lH]; exact lzb
   ·simp only; rw [aZ, Int.sign_eq_neg_one_of_neg hd]; omega
   ·simp only; rw [aZ]; omega
  ·have hd : 0 < y := by
    have h1 : ¬ y.sign < 0 := of_decide_eq_false hd
    rcases Int.lt_trichotomy y 0 with h | h | h
    ·rw [Int.sign_eq_neg_one_of_neg h] at h1; omega
    ·exact absurd h h0
    ·exact h
   refine aj ?_;refine ⟨((na, wa), (nb, wb)), ⟨ha, hb, la, lb, ?_, ?_⟩, Wk.mk' ⟨rfl, rfl, rfl, trivial⟩ ⟨rfl, rfl, rfl, trivial⟩⟩
   ·simp only; rw [hx, Int.sign_eq_one_of_pos hd]; omega
   ·simp only; rw [hy]; omega
 rintro ⟨⟨na', wa'⟩, ⟨nb', wb'⟩⟩ ⟨oa, ob, ka, kb, va, vb⟩
 simp only at oa ob ka kb va vb
 show AWP _ _ _ _ _ (mk 34 [(2, .ptr 2 0), (3, .ptr 3 0), (4, .ptr 4 0)] [(2, some (.box (IC na' wa'))), (3, some (.box (IC nb' wb'))), (4, some (.box [.d (.lit (.bool false)), .nil, .d (.lit (.bool false)), .nil]))] [])
 have hg : (Int.gcd (zv na' wa') (zv nb' wb') : Int) = (Int.gcd x y : Int) := by
  rw [va, vb]
  show ((Nat.gcd (y.sign * x).natAbs (y.natAbs : Int).natAbs : Nat) : Int) = _
  rw [Int.natAbs_mul, Int.natAbs_natCast]
  have : y.sign.natAbs = 1 := by
   rcases Int.lt_trichotomy y 0 with h | h | h
   ·rw [Int.sign_eq_neg_one_of_neg h]; rfl
   ·exact absurd h h0
   ·rw [Int.sign_eq_one_of_pos h]; rfl
  rw [this, Nat.one_mul]; rfl
 have hgn : (Int.gcd x y : Int) ≠ 0 := by have := xu (x := x) h0; omega
 have hgl : (wof (Int.gcd x y : Int).natAbs).length <= 268435456 := Nat.le_trans (pN x h0) lzb
 refine gQ fun _ Z9=>?_;refine Z6 ?_;refine Z6 ?_;refine ab rfl rfl (hg ▸ w3 na' nb' wa' wb' oa ob ka kb) rfl rfl rfl rfl ?_;refine av rfl rfl rfl rfl rfl rfl ?_;refine ak rfl rfl rfl rfl rfl ?_;refine eQ Z9 ?_;clear Z9;refine cr [(2, .ptr 2 0), (3, .ptr 3 0), (4, .ptr 4 0), (5, .ptr 5 0)] [(2, some (.box (IC na' wa'))), (3, some (.box (IC nb' wb'))), (4, some (.box [.d (.lit (.bool false)), .nil, .d (.lit (.bool false)), .nil])), (5, some (.box (ZC (Int.gcd x y : Int))))] ⟨rfl, rfl, rfl, rfl, trivial⟩ ⟨rfl, rfl, rfl, rfl, trivial⟩ ?_;refine aA tok mixed (A := [[], [], [], [], [], [0, 1], [0, 1, 3, 4], []]) (an := [{}, {}, {}, { c := [29] }, { c := [29] }, {}, {}, {}]) rfl (by kernel_rfl) rfl fun _ Z9=>?_;refine Z6 ?_;refine Z6 ?_;refine ab rfl rfl (tZ na' (decide ((Int.gcd x y : Int) < 0)) wa' (wof (Int.gcd x y : Int).natAbs) (y.sign * x) (Int.gcd x y : Int) (Rat.divInt x y).num oa (aw _) ka hgl va (aZ _) hgn (xe x y).symm) rfl rfl rfl rfl ?_;refine Z6 ?_;refine Z6 ?_;refine ab rfl rfl (tZ nb' (decide ((Int.gcd x y : Int) < 0)) wb' (wof (Int.gcd x y : Int).natAbs) (y.natAbs : Int) (Int.gcd x y : Int) ((Rat.divInt x y).den : Int) ob (aw _) kb hgl vb (aZ _) hgn (xy h0).symm) rfl rfl rfl rfl ?_;refine aG rfl rfl rfl ?_;refine ak rfl rfl rfl rfl rfl ?_;refine eQ Z9 ?_;clear Z9;exact ai aE

theorem zJ (n d : Int) (hn : I64 n) (hd : I64 d) : Con Tryz.prog 63 [dI n, dI d] { v := AG (QZ (Rat.divInt n d)) } := by
 have h1 := nA hn
 have h2 := nA hd
 have hz : Rat.divInt (zv (decide (n < 0)) (wof n.natAbs)) (zv (decide (d < 0)) (wof d.natAbs)) = Rat.divInt n d := by rw [aZ, aZ]
 refine Z2 Tryz.func63 ?_
 intro w0 X
 rw [aq _ _ [(0, dI n), (1, dI d)] rfl rfl];refine gQ fun _ Z9=>?_;refine av rfl rfl rfl rfl rfl rfl ?_;refine eQ Z9 ?_;clear Z9;refine gQ fun _ Z9=>?_;refine Z8 ?_;refine ab rfl rfl (ke n hn) rfl rfl rfl rfl ?_;refine Z8 ?_;refine ab rfl rfl (ke d hd) rfl rfl rfl rfl ?_;refine ab rfl rfl (hz ▸ sJ (decide (n < 0)) (decide (d < 0)) (wof n.natAbs) (wof d.natAbs) (aw _) (aw _) (Nat.le_trans h1 (by decide)) (Nat.le_trans h2 (by decide))) rfl rfl rfl rfl ?_;refine ak rfl rfl rfl rfl rfl ?_;refine eQ Z9 ?_;clear Z9;exact ai aE

theorem kc (x y : Int) (q : Rat) (hx : zl x <= 268435456) (hy : zl y <= 268435456) (h : Rat.divInt x y = q) : Con Tryz.prog 103 [AG (ZC x), AG (ZC y)] { v := AG (QZ q) } := by
 have := sJ (decide (x < 0)) (decide (y < 0)) (wof x.natAbs) (wof y.natAbs) (aw _) (aw _) hx hy
 rw [aZ, aZ, h] at this; exact this

theorem iP (na nb : Bool) (wa wb : List Nat) (ha : wOK wa) (hb : wOK wb) (la : wa.length <= 268435456) (lb : wb.length <= 268435456) :
  Con Tryz.prog 106 [AG (QC na wa nb wb)] { v := AG (QZ (qv na wa nb wb)) } := by
 refine Z2 Tryz.func106 ?_
 intro w0 X
 rw [aq _ _ [(0, AG (QC na wa nb wb))] rfl rfl];refine gQ fun _ Z9=>?_;refine aB rfl rfl rfl rfl rfl rfl ?_;refine av rfl rfl rfl rfl rfl rfl ?_;refine eQ Z9 ?_;clear Z9;refine gQ fun _ Z9=>?_;refine Z4 ?_;refine Z6 ?_;refine Z4 ?_;refine Z6 ?_;refine ab rfl rfl (sJ na nb wa wb ha hb la lb) rfl rfl rfl rfl ?_;refine ak rfl rfl rfl rfl rfl ?_;refine eQ Z9 ?_;clear Z9;exact ai aE

theorem zI (na nb : Bool) (wa wb : List Nat) (ha : wOK wa) (hb : wOK wb) (la : wa.length <= 268435456) (lb : wb.length <= 268435456) :
  Con Tryz.prog 117 [AG (QC na wa nb wb)] { v := dI (qv na wa nb wb).num.sign } := by
 have h1 := jM (na := na) (nb := nb) ha hb la lb (by decide)
 have h2 := cb (qv na wa nb wb)
 refine Z2 Tryz.func117 ?_
 intro w0 X
 rw [aq _ _ [(0, AG (QC na wa nb wb))] rfl rfl];refine gQ fun _ Z9=>?_;refine aB rfl rfl rfl rfl rfl rfl ?_;refine Z7 ?_;refine eQ Z9 ?_;clear Z9;refine gQ fun _ Z9=>?_;refine Z6 ?_;refine ab rfl rfl (iP na nb wa wb ha hb la lb) rfl rfl rfl rfl ?_;refine sv rfl rfl rfl ?_;refine ab rfl rfl (iR (qv na wa nb wb).num (by omega)) rfl rfl rfl rfl ?_;refine Z7 ?_;refine eQ Z9 ?_;clear Z9;exact ai aE

theorem BX (na nb : Bool) (wa wb : List Nat) (ha : wOK wa) (hb : wOK wb) (la : wa.length <= 268435456) (lb : wb.length <= 268435456) :
  Con Tryz.prog 109 [AG (QC na wa nb wb)] { v := AG (QZ (-(qv na wa nb wb))) } := by
 have h1 := jM (na := na) (nb := nb) ha hb la lb (by decide)
 have h2 := cb (qv na wa nb wb)
 have h3 := cp (qv na wa nb wb)
 have hz : Rat.divInt (-(qv na wa nb wb).num) (qv na wa nb wb).den = -(qv na wa nb wb) := by rw [<- Rat.neg_divInt, oU]
 refine Z2 Tryz.func109 ?_
 intro w0 X
 rw [aq _ _ [(0, AG (QC na wa nb wb))] rfl rfl];refine gQ fun _ Z9=>?_;refine aB rfl rfl rfl rfl rfl rfl ?_;refine av rfl rfl rfl rfl rfl rfl ?_;refine eQ Z9 ?_;clear Z9;refine gQ fun _ Z9=>?_;refine Z6 ?_;refine ab rfl rfl (iP na nb wa wb ha hb la lb) rfl rfl rfl rfl ?_;refine av rfl rfl rfl rfl rfl rfl ?_;refine ak rfl rfl rfl rfl rfl ?_;refine eQ Z9 ?_;clear Z9;refine aA tok mixed (A := [[], [], [0], [], [], [0, 1, 3], []]) (an := [{}, {}, {}, { c := [8] }, { c := [8] }, {}, {}]) rfl (by kernel_rfl) rfl fun _ Z9=>?_;refine Z4 ?_;refine Z6 ?_;refine ab rfl rfl (qg (qv na wa nb wb).num (by omega)) rfl rfl rfl rfl ?_;refine Z4 ?_;refine Z6 ?_;refine ab rfl rfl (kc (-(qv na wa nb wb).num) (qv na wa nb wb).den _ (by rw [lH]; omega) (by omega) hz) rfl rfl rfl rfl ?_;refine ak rfl rfl rfl rfl rfl ?_;refine eQ Z9 ?_;clear Z9;exact ai aE

theorem BZ (na nb nc nd : Bool) (wa wb wc wd : List Nat) (ha : wOK wa) (hb : wOK wb) (hc : wOK wc) (hd : wOK wd) (la : wa.length <= 16777216) (lb : wb.length <= 16777216) (lc : wc.length <= 16777216) (ld : wd.length <= 16777216) :
  Con Tryz.prog 65 [AG (QC na wa nb wb), AG (QC nc wc nd wd)] { v := AG (QZ (qv na wa nb wb + qv nc wc nd wd)) } := by
 have hx := jM (na := na) (nb := nb) ha hb la lb (by decide)
 have hy := jM (na := nc) (nb := nd) hc hd lc ld (by decide)
 have a1 := cb (qv na wa nb wb)
 have a2 := cp (qv na wa nb wb)
 have b1 := cb (qv nc wc nd wd)
 have b2 := cp (qv nc wc nd wd)
 have m1 := bN (qv na wa nb wb).num (qv nc wc nd wd).den
 have m2 := bN (qv nc wc nd wd).num (qv na wa nb wb).den
 have m3 := bN (qv na wa nb wb).den (qv nc wc nd wd).den
 have m4 := jY ((qv na wa nb wb).num * (qv nc wc nd wd).den) ((qv nc wc nd wd).num * (qv na wa nb wb).den)
 refine Z2 Tryz.func65 ?_
 intro w0 X
 rw [aq _ _ [(0, AG (QC na wa nb wb)), (1, AG (QC nc wc nd wd))] rfl rfl];refine gQ fun _ Z9=>?_;refine aB rfl rfl rfl rfl rfl rfl ?_;refine aB rfl rfl rfl rfl rfl rfl ?_;refine av rfl rfl rfl rfl rfl rfl ?_;refine eQ Z9 ?_;clear Z9;refine gQ fun _ Z9=>?_;refine Z6 ?_;refine ab rfl rfl (iP na nb wa wb ha hb (by omega) (by omega)) rfl rfl rfl rfl ?_;refine av rfl rfl rfl rfl rfl rfl ?_;refine ak rfl rfl rfl rfl rfl ?_;refine eQ Z9 ?_;clear Z9;refine gQ fun _ Z9=>?_;refine Z6 ?_;refine ab rfl rfl (iP nc nd wc wd hc hd (by omega) (by omega)) rfl rfl rfl rfl ?_;refine av rfl rfl rfl rfl rfl rfl ?_;refine ak rfl rfl rfl rfl rfl ?_;refine eQ Z9 ?_;clear Z9;refine aA tok mixed (A := [[], [], [], [], [0, 2], [], [], [], [], [0, 1, 2, 3, 5, 7], [0, 1, 2, 3, 5, 6, 7, 8], [], [], [], [], [0, 1, 2, 3, 4, 5, 6, 7, 8, 9, 11, 13], [0, 1, 2, 3, 4, 5, 6, 7, 8, 9, 11, 12, 13, 14], []]) (an := [{}, {}, {}, {}, {}, { c := [15] }, { c := [15] }, { c := [15] }, { c := [15] }, {}, {}, { c := [15, 20, 21] }, { c := [15, 20, 21] }, { c := [15, 20, 21] }, { c := [15, 20, 21] }, {}, {}, {}]) rfl (by kernel_rfl) rfl fun _ Z9=>?_;refine Z4 ?_;refine Z6 ?_;refine Z4 ?_;refine Z6 ?_;refine ab rfl rfl (d4 (qv na wa nb wb).num (qv nc wc nd wd).den (by omega) (by omega)) rfl rfl rfl rfl ?_;refine Z4 ?_;refine Z6 ?_;refine Z4 ?_;refine Z6 ?_;refine ab rfl rfl (d4 (qv nc wc nd wd).num (qv na wa nb wb).den (by omega) (by omega)) rfl rfl rfl rfl ?_;refine ab rfl rfl (mL ((qv na wa nb wb).num * (qv nc wc nd wd).den) ((qv nc wc nd wd).num * (qv na wa nb wb).den) (by omega) (by omega)) rfl rfl rfl rfl ?_;refine Z4 ?_;refine Z6 ?_;refine Z4 ?_;refine Z6 ?_;refine ab rfl rfl (d4 (qv na wa nb wb).den (qv nc wc nd wd).den (by omega) (by omega)) rfl rfl rfl rfl ?_;refine ab rfl rfl (kc ((qv na wa nb wb).num * (qv nc wc nd wd).den + (qv nc wc nd wd).num * (qv na wa nb wb).den) (((qv na wa nb wb).den : Int) * (qv nc wc nd wd).den) _ (by omega) (by omega) (l6 (qv na wa nb wb) (qv nc wc nd wd)).symm) rfl rfl rfl rfl ?_;refine ak rfl rfl rfl rfl rfl ?_;refine eQ Z9 ?_;clear Z9;exact ai aE

theorem BY (na nb nc nd : Bool) (wa wb wc wd : List Nat) (ha : wOK wa) (hb : wOK wb) (hc : wOK wc) (hd : wOK wd) (la : wa.length <= 16777216) (lb : wb.length <= 16777216) (lc : wc.length <= 16777216) (ld : wd.length <= 16777216) :
  Con Tryz.prog 76 [AG (QC na wa nb wb), AG (QC nc wc nd wd)] { v := AG (QZ (qv na wa nb wb * qv nc wc nd wd)) } := by
 have hx := jM (na := na) (nb := nb) ha hb la lb (by decide)
 have hy := jM (na := nc) (nb := nd) hc hd lc ld (by decide)
 have a1 := cb (qv na wa nb wb)
 have a2 := cp (qv na wa nb wb)
 have b1 := cb (qv nc wc nd wd)
 have b2 := cp (qv nc wc nd wd)
 have m1 := bN (qv na wa nb wb).num (qv nc wc nd wd).num
 have m3 := bN (qv na wa nb wb).den (qv nc wc nd wd).den
 refine Z2 Tryz.func76 ?_
 intro w0 X
 rw [aq _ _ [(0, AG (QC na wa nb wb)), (1, AG (QC nc wc nd wd))] rfl rfl];refine gQ fun _ Z9=>?_;refine aB rfl rfl rfl rfl rfl rfl ?_;refine aB rfl rfl rfl rfl rfl rfl ?_;refine av rfl rfl rfl rfl rfl rfl ?_;refine eQ Z9 ?_;clear Z9;refine gQ fun _ Z9=>?_;refine Z6 ?_;refine ab rfl rfl (iP na nb wa wb ha hb (by omega) (by omega)) rfl rfl rfl rfl ?_;refine av rfl rfl rfl rfl rfl rfl ?_;refine ak rfl rfl rfl rfl rfl ?_;refine eQ Z9 ?_;clear Z9;refine gQ fun _ Z9=>?_;refine Z6 ?_;refine ab rfl rfl (iP nc nd wc wd hc hd (by omega) (by omega)) rfl rfl rfl rfl ?_;refine av rfl rfl rfl rfl rfl rfl ?_;refine ak rfl rfl rfl rfl rfl ?_;refine eQ Z9 ?_;clear Z9;refine aA tok mixed (A := [[], [], [], [], [0, 2], [], [], [], [], [0, 1, 2, 3, 5, 7], [0, 1, 2, 3, 5, 6, 7, 8], []]) (an := [{}, {}, {}, {}, {}, { c := [15] }, { c := [15] }, { c := [15] }, { c := [15] }, {}, {}, {}]) rfl (by kernel_rfl) rfl fun _ Z9=>?_;refine Z4 ?_;refine Z6 ?_;refine Z4 ?_;refine Z6 ?_;refine ab rfl rfl (d4 (qv na wa nb wb).num (qv nc wc nd wd).num (by omega) (by omega)) rfl rfl rfl rfl ?_;refine Z4 ?_;refine Z6 ?_;refine Z4 ?_;refine Z6 ?_;refine ab rfl rfl (d4 (qv na wa nb wb).den (qv nc wc nd wd).den (by omega) (by omega)) rfl rfl rfl rfl ?_;refine ab rfl rfl (kc ((qv na wa nb wb).num * (qv nc wc nd wd).num) (((qv na wa nb wb).den : Int) * (qv nc wc nd wd).den) _ (by omega) (by omega) (qP (qv na wa nb wb) (qv nc wc nd wd)).symm) rfl rfl rfl rfl ?_;refine ak rfl rfl rfl rfl rfl ?_;refine eQ Z9 ?_;clear Z9;exact ai aE

theorem mI (x y : Rat) (na nb nc nd : Bool) (wa wb wc wd : List Nat) (ha : wOK wa) (hb : wOK wb) (hc : wOK wc) (hd : wOK wd) (la : wa.length <= 16777216) (lb : wb.length <= 16777216) (lc : wc.length <= 16777216) (ld : wd.length <= 16777216)
  (hx : qv na wa nb wb = x) (hy : qv nc wc nd wd = y) :
  Con Tryz.prog 76 [AG (QC na wa nb wb), AG (QC nc wc nd wd)] { v := AG (QZ (x * y)) } := by
 subst hx hy
 exact BY na nb nc nd wa wb wc wd ha hb hc hd la lb lc ld
theorem sK (x y : Rat) (na nb nc nd : Bool) (wa wb wc wd : List Nat) (ha : wOK wa) (hb : wOK wb) (hc : wOK wc) (hd : wOK wd) (la : wa.length <= 16777216) (lb : wb.length <= 16777216) (lc : wc.length <= 16777216) (ld : wd.length <= 16777216)
  (hx : qv na wa nb wb = x) (hy : qv nc wc nd wd = y) :
  Con Tryz.prog 65 [AG (QC na wa nb wb), AG (QC nc wc nd wd)] { v := AG (QZ (x + y)) } := by
 subst hx hy
 exact BZ na nb nc nd wa wb wc wd ha hb hc hd la lb lc ld
theorem zK (x y : Rat) (hx : ql x <= 16777216) (hy : ql y <= 16777216) : Con Tryz.prog 65 [AG (QZ x), AG (QZ y)] { v := AG (QZ (x + y)) } :=
 sK x y _ _ _ _ _ _ _ _ (aw _) (aw _) (aw _) (aw _) (Nat.le_trans (cb x) hx) (Nat.le_trans (cp x) hx) (Nat.le_trans (cb y) hy) (Nat.le_trans (cp y) hy) (dw x) (dw y)
theorem xV (x : Rat) (hx : ql x <= 268435456) : Con Tryz.prog 117 [AG (QZ x)] { v := dI x.num.sign } := by
 have := zI (decide (x.num < 0)) (decide ((x.den : Int) < 0)) (wof x.num.natAbs) (wof (x.den : Int).natAbs) (aw _) (aw _) (Nat.le_trans (cb x) hx) (Nat.le_trans (cp x) hx)
 rw [dw] at this; exact this

theorem sI (x y : Rat) (na nb nc nd : Bool) (wa wb wc wd : List Nat) (ha : wOK wa) (hb : wOK wb) (hc : wOK wc) (hd : wOK wd) (la : wa.length <= 16777215) (lb : wb.length <= 16777215) (lc : wc.length <= 16777215) (ld : wd.length <= 16777215)
  (hx : qv na wa nb wb = x) (hy : qv nc wc nd wd = y) :
  Con Tryz.prog 66 [AG (QC na wa nb wb), AG (QC nc wc nd wd)] { v := AG (QZ (x - y)) } := by
 have y1 : ql (-y) <= 16777215 := by rw [sO, <- hy]; exact jM hc hd lc ld (by decide)
 have e : x - y = x + -y := Rat.sub_eq_add_neg x y
 rw [e];refine Z2 Tryz.func66 ?_
 intro w0 X
 rw [aq _ _ [(0, AG (QC na wa nb wb)), (1, AG (QC nc wc nd wd))] rfl rfl];refine gQ fun _ Z9=>?_;refine aB rfl rfl rfl rfl rfl rfl ?_;refine aB rfl rfl rfl rfl rfl rfl ?_;refine av rfl rfl rfl rfl rfl rfl ?_;refine eQ Z9 ?_;clear Z9;refine aA tok mixed (A := [[], [], [], [1], []]) (an := [{}, {}, {}, {}, {}]) rfl (by kernel_rfl) rfl fun _ Z9=>?_;refine Z6 ?_;refine Z6 ?_;refine ab rfl rfl (hy ▸ BX nc nd wc wd hc hd (aM lc rfl) (aM ld rfl)) rfl rfl rfl rfl ?_;refine ab rfl rfl (sK x (-y) na nb _ _ wa wb _ _ ha hb (aw _) (aw _) (aM la rfl) (aM lb rfl) (aM (bM y1) rfl) (aM (bw y1) rfl) hx (dw _)) rfl rfl rfl rfl ?_;refine ak rfl rfl rfl rfl rfl ?_;refine eQ Z9 ?_;clear Z9;exact ai aE

theorem zH (x y : Rat) (hx : ql x <= 16777215) (hy : ql y <= 16777215) : Con Tryz.prog 66 [AG (QZ x), AG (QZ y)] { v := AG (QZ (x - y)) } :=
 sI x y _ _ _ _ _ _ _ _ (aw _) (aw _) (aw _) (aw _) (Nat.le_trans (cb x) hx) (Nat.le_trans (cp x) hx) (Nat.le_trans (cb y) hy) (Nat.le_trans (cp y) hy) (dw x) (dw y)

end Go.Proofs.YtnoildlijhapaaaGreatDoor

/- Rotations as the program computes them. No condition. -/
namespace Go.Proofs.YtnoildlijhapaaaGreatDoor
attribute [local irreducible] aC

def PZ (x y : Int) : List SC := QC (decide (x < 0)) (wof x.natAbs) (decide (y < 0)) (wof y.natAbs)
theorem y7 {n : Bool} {w : List Nat} {x : Int} (h : zv n w = x) : (((zv n w).sign == 0) = true ↔ x = 0) /\ (((zv n w).sign == 0) = false ↔ x ≠ 0) := by
 subst h
 have := Int.sign_eq_zero_iff_zero (a := zv n w)
 constructor
 ·simp [this]
 ·simp [this]

theorem Db (np nq : Bool) (wp wq : List Nat) (hp : wOK wp) (hq : wOK wq) (lp : wp.length <= 268435456) (lq : wq.length <= 268435456) (h1 : zv np wp = 0) (h2 : zv nq wq = 0) :
  Con Tryz.prog 190 [AG (QC np wp nq wq)] { v := AG (PZ 1 0) } := by
 refine Z2 Tryz.func190 ?_
 intro w0 X
 rw [aq _ _ [(0, AG (QC np wp nq wq))] rfl rfl];refine gQ fun _ Z9=>?_;refine aB rfl rfl rfl rfl rfl rfl ?_;refine av rfl rfl rfl rfl rfl rfl ?_;refine eQ Z9 ?_;clear Z9;refine ah ?_;refine gQ fun _ Z9=>?_;refine Z4 ?_;refine Z6 ?_;refine ab rfl rfl (em np wp hp (by omega)) rfl rfl rfl rfl ?_;refine Z5 ?_;refine Z8 ?_;rw [h1];refine C0 (v' := dB true) rfl ?_;refine Z4 ?_;refine Z6 ?_;refine ab rfl rfl (em nq wq hq (by omega)) rfl rfl rfl rfl ?_;refine Z5 ?_;rw [h2];refine Z3 ?_;refine eQ Z9 ?_;clear Z9;refine ap rfl (fun hc => ?_) (fun hc => by cases hc);refine gQ fun _ Z9=>?_;refine ab rfl rfl (rL 1 (by unfold I64; omega)) rfl rfl rfl rfl ?_;refine aG rfl rfl rfl ?_;refine ak rfl rfl rfl rfl rfl ?_;refine eQ Z9 ?_;clear Z9;exact ai aE

theorem yV (np nq : Bool) (wp wq : List Nat) (hp : wOK wp) (hq : wOK wq) (lp : wp.length <= 268435456) (lq : wq.length <= 268435456) (h : ¬ (zv np wp = 0 /\ zv nq wq = 0)) :
  Con Tryz.prog 190 [AG (QC np wp nq wq)] { v := AG (QC nq wq np wp) } := by
 refine Z2 Tryz.func190 ?_
 intro w0 X
 rw [aq _ _ [(0, AG (QC np wp nq wq))] rfl rfl];refine gQ fun _ Z9=>?_;refine aB rfl rfl rfl rfl rfl rfl ?_;refine av rfl rfl rfl rfl rfl rfl ?_;refine eQ Z9 ?_;clear Z9;refine ah ?_;refine aO (α := Unit) (fun _ => mk 20 [(1, .ptr 1 0), (2, .ptr 2 0), (12, dB false)] [(1, some (.box (QC np wp nq wq))), (2, some (.box [.d (.lit (.bool false)), .nil, .d (.lit (.bool false)), .nil]))] []) (fun _ => True) ?_ ?_
 ·refine gR fun _ Z9=>?_;refine Z4 ?_;refine Z6 ?_;refine ab rfl rfl (em np wp hp (by omega)) rfl rfl rfl rfl ?_;refine Z5 ?_;refine Z8 ?_;refine db (fun hb => ?_) (fun hb => ?_)
  ·have hb : zv np wp = 0 := (y7 rfl).1.1 hb
   have h2 : zv nq wq ≠ 0 := fun h' => h ⟨hb, h'⟩
   refine Z4 ?_;refine Z6 ?_;refine ab rfl rfl (em nq wq hq (by omega)) rfl rfl rfl rfl ?_;refine Z5 ?_;refine Z3 ?_;refine eQ Z9 ?_;clear Z9;refine ⟨(), trivial, Wk.mk' ⟨rfl, rfl, ?_, trivial⟩ ⟨rfl, rfl, trivial⟩⟩;exact eH ((y7 rfl).2.2 h2)
  ·refine ag rfl ?_;refine ag rfl ?_;refine ag rfl ?_;refine ag rfl ?_;refine Z3 ?_;refine eQ Z9 ?_;clear Z9;exact ⟨(), trivial, Wk.mk' ⟨rfl, rfl, rfl, trivial⟩ ⟨rfl, rfl, trivial⟩⟩
 rintro - -
 refine ap rfl (fun hc => by cases hc) (fun hc => ?_);refine aj ?_;show AWP _ _ _ _ _ _;refine gQ fun _ Z9=>?_;refine Z4 ?_;refine Z6 ?_;refine Z4 ?_;refine Z6 ?_;refine aG rfl rfl rfl ?_;refine ak rfl rfl rfl rfl rfl ?_;refine eQ Z9 ?_;clear Z9;exact ai aE

theorem yR (nr ni : Bool) (wr wi : List Nat) (hr : wOK wr) (hi : wOK wi) (lr : wr.length <= 268435456) (li : wi.length <= 268435456) (h : ¬ (zv ni wi = 0 /\ zv nr wr = 0)) :
  Con Tryz.prog 205 [AG (QC nr wr ni wi)] { v := AG (PZ (rP (zv ni wi) (zv nr wr)) (rQ (zv ni wi) (zv nr wr))) } := by
 have lzr : zl (zv nr wr) <= 268435456 := by unfold zl; rw [bm]; exact Nat.le_trans (bg hr) lr
 have lzi : zl (zv ni wi) <= 268435456 := by unfold zl; rw [bm]; exact Nat.le_trans (bg hi) li
 generalize hx : zv nr wr = x at *;generalize hy : zv ni wi = y at *
 have hg : zl (Int.gcd y x : Int) <= 268435456 := by
  by_cases h0 : x = 0
  ·have : y ≠ 0 := fun h' => h ⟨h', h0⟩
   rw [Int.gcd_comm]; exact Nat.le_trans (pN x this) lzi
  ·exact Nat.le_trans (pN y h0) lzr
 have hgc : Int.gcd (zv nr wr) (zv ni wi) = Int.gcd y x := by rw [hx, hy, Int.gcd_comm]
 have hrg : zl (rg y x) <= 268435456 := by unfold zl; rw [yb]; rw [uT] at hg; exact hg
 have hrn := Ev h
 have sx := y7 hx
 have sxl : (zv nr wr).sign < 0 ↔ x < 0 := by rw [hx]; exact Int.sign_neg_iff
 have syl : (zv ni wi).sign < 0 ↔ y < 0 := by rw [hy]; exact Int.sign_neg_iff
 refine Z2 Tryz.func205 ?_
 intro w0 X
 rw [aq _ _ [(0, AG (QC nr wr ni wi))] rfl rfl];refine gQ fun _ Z9=>?_;refine aB rfl rfl rfl rfl rfl rfl ?_;refine av rfl rfl rfl rfl rfl rfl ?_;refine eQ Z9 ?_;clear Z9;refine gQ fun _ Z9=>?_;refine Z4 ?_;refine Z6 ?_;refine Z4 ?_;refine Z6 ?_;refine ab rfl rfl (hgc ▸ Ap nr ni wr wi hr hi lr li) rfl rfl rfl rfl ?_;refine av rfl rfl rfl rfl rfl rfl ?_;refine ak rfl rfl rfl rfl rfl ?_;refine eQ Z9 ?_;clear Z9;refine aO (α := Unit) (fun _ => mk 52 [(1, .ptr 1 0), (2, .ptr 2 0), (3, .ptr 3 0)] [(1, some (.box (QC nr wr ni wi))), (2, some (.box [.d (.lit (.bool false)), .nil, .d (.lit (.bool false)), .nil])), (3, some (.box (ZC (rg y x))))] []) (fun _ => True) ?_ ?_
 ·refine gQ fun _ Z9=>?_;refine Z4 ?_;refine Z6 ?_;refine ab rfl rfl (em nr wr hr (by omega)) rfl rfl rfl rfl ?_;refine Z7 ?_;refine eQ Z9 ?_;clear Z9;refine aO (α := Bool) (fun c => mk 52 [(1, .ptr 1 0), (2, .ptr 2 0), (3, .ptr 3 0), (30, dB c)] [(1, some (.box (QC nr wr ni wi))), (2, some (.box [.d (.lit (.bool false)), .nil, .d (.lit (.bool false)), .nil])), (3, some (.box (ZC (Int.gcd y x : Int))))] []) (fun c => c = q9 y x) ?_ ?_
  ·refine bL fun _ Z9=>?_;refine aa tok rfl ?_;refine Z8 ?_;refine ae ?_;refine aa tok rfl ?_;refine Z5 ?_;refine ae ?_;refine aa tok rfl ?_;refine Z8 ?_;refine ae ?_;refine aU (fun hb => ?_) (fun hb => ?_)
   ·have hb : x < 0 := sxl.1 (of_decide_eq_true hb)
    refine al rfl rfl ?_;refine al rfl rfl ?_;refine al rfl rfl ?_;refine bJ rfl rfl rfl ?_;refine bJ rfl rfl rfl ?_;refine bJ rfl rfl rfl ?_;refine bJ rfl rfl rfl ?_;refine al rfl rfl ?_;refine aa tok rfl ?_;refine Z3 ?_;refine ae ?_;refine aS rfl (Z9 _ ?_); clear Z9;exact ⟨true, by unfold q9; simp [hb], Wk.mk' ⟨rfl, rfl, rfl, rfl, trivial⟩ ⟨rfl, rfl, rfl, trivial⟩⟩
   have hb : ¬ x < 0 := fun h' => of_decide_eq_false hb (sxl.2 h')
   refine aa tok rfl ?_;refine Z8 ?_;refine ae ?_;refine aa tok rfl ?_;refine Z5 ?_;refine ae ?_;refine aa tok rfl ?_;refine Z8 ?_;refine ae ?_;refine aU (fun he => ?_) (fun he => ?_)
   ·have he : x = 0 := sx.1.1 he
    refine aa tok rfl ?_;refine Z4 ?_;refine ae ?_;refine aa tok rfl ?_;refine Z6 ?_;refine ae ?_;refine aa tok rfl ?_;refine ab rfl rfl (em ni wi hi (by omega)) rfl rfl rfl rfl ?_;refine ae ?_;refine aa tok rfl ?_;refine Z5 ?_;refine ae ?_;refine aa tok rfl ?_;refine Z3 ?_;refine ae ?_;refine aa tok rfl ?_;refine Z3 ?_;refine ae ?_;refine aS rfl (Z9 _ ?_); clear Z9;refine ⟨_, ?_, Wk.mk' ⟨rfl, rfl, rfl, rfl, trivial⟩ ⟨rfl, rfl, rfl, trivial⟩⟩
    unfold q9
    rw [decide_eq_false hb, decide_eq_true he, Bool.false_or, Bool.true_and];exact decide_eq_decide.2 syl
   ·have he : x ≠ 0 := sx.2.1 he
    refine al rfl rfl ?_;refine al rfl rfl ?_;refine al rfl rfl ?_;refine al rfl rfl ?_;refine aa tok rfl ?_;refine Z3 ?_;refine ae ?_;refine aa tok rfl ?_;refine Z3 ?_;refine ae ?_;refine aS rfl (Z9 _ ?_); clear Z9;exact ⟨false, by unfold q9; simp [hb, he], Wk.mk' ⟨rfl, rfl, rfl, rfl, trivial⟩ ⟨rfl, rfl, rfl, trivial⟩⟩
  rintro c hcr
  refine ap rfl (fun hc => ?_) (fun hc => ?_)
  ·rw [hcr] at hc;refine gR fun _ Z9=>?_;refine Z6 ?_;refine ab rfl rfl (Cj (Int.gcd y x : Int) hg) rfl rfl rfl rfl ?_;refine ak rfl rfl rfl rfl rfl ?_;refine eQ Z9 ?_;clear Z9;exact ⟨(), trivial, Wk.mk' ⟨rfl, rfl, rfl, trivial⟩ ⟨rfl, rfl, by unfold rg; rw [if_pos hc]; rfl, trivial⟩⟩
  ·rw [hcr] at hc;refine aj ?_;exact ⟨(), trivial, Wk.mk' ⟨rfl, rfl, rfl, trivial⟩ ⟨rfl, rfl, by unfold rg; rw [if_neg (by simp [hc])]; rfl, trivial⟩⟩
 rintro - -
 have e1 : rQ y x = x / rg y x := by unfold rQ; rw [if_neg h]
 have e2 : rP y x = y / rg y x := by unfold rP; rw [if_neg h]
 refine gQ fun _ Z9=>?_;refine Z4 ?_;refine Z6 ?_;refine Z6 ?_;refine ab rfl rfl (kM nr (decide (rg y x < 0)) wr (wof (rg y x).natAbs) x (rg y x) (rQ y x) hr (aw _) lr hrg hx (aZ _) hrn e1.symm) rfl rfl rfl rfl ?_;refine Z8 ?_;refine au rfl rfl rfl ?_;refine au rfl rfl rfl ?_;refine au rfl rfl rfl ?_;refine av rfl rfl rfl rfl rfl rfl ?_;refine av rfl rfl rfl rfl rfl rfl ?_;refine ak rfl rfl rfl rfl rfl ?_;refine ak rfl rfl rfl rfl rfl ?_;refine Z7 ?_;refine eQ Z9 ?_;clear Z9;refine gQ fun _ Z9=>?_;refine Z4 ?_;refine Z6 ?_;refine Z6 ?_;refine ab rfl rfl (kM ni (decide (rg y x < 0)) wi (wof (rg y x).natAbs) y (rg y x) (rP y x) hi (aw _) li hrg hy (aZ _) hrn e2.symm) rfl rfl rfl rfl ?_;refine Z8 ?_;refine au rfl rfl rfl ?_;refine au rfl rfl rfl ?_;refine au rfl rfl rfl ?_;refine av rfl rfl rfl rfl rfl rfl ?_;refine av rfl rfl rfl rfl rfl rfl ?_;refine ak rfl rfl rfl rfl rfl ?_;refine ak rfl rfl rfl rfl rfl ?_;refine Z7 ?_;refine eQ Z9 ?_;clear Z9;refine gQ fun _ Z9=>?_;refine Z6 ?_;refine Z6 ?_;refine aG rfl rfl rfl ?_;refine ak rfl rfl rfl rfl rfl ?_;refine eQ Z9 ?_;clear Z9;exact ai aE

theorem Bx (x y : Int) (hx : zl x <= 268435456) (hy : zl y <= 268435456) (h : ¬ (y = 0 /\ x = 0)) :
  Con Tryz.prog 205 [AG (PZ x y)] { v := AG (PZ (rP y x) (rQ y x)) } := by
 have := yR (decide (x < 0)) (decide (y < 0)) (wof x.natAbs) (wof y.natAbs) (aw _) (aw _) hx hy (by rw [aZ, aZ]; exact h)
 rw [aZ, aZ] at this; exact this

theorem BC (np nq : Bool) (wp wq : List Nat) (hp : wOK wp) (hq : wOK wq) (lp : wp.length <= 268435456) (lq : wq.length <= 268435456) :
  Con Tryz.prog 191 [AG (QC np wp nq wq)] { v := AG (PZ (rP (zv np wp) (zv nq wq)) (rQ (zv np wp) (zv nq wq))) } := by
 by_cases h : zv np wp = 0 /\ zv nq wq = 0
 ·have e : PZ (rP (zv np wp) (zv nq wq)) (rQ (zv np wp) (zv nq wq)) = PZ (rP 0 1) (rQ 0 1) := by rw [h.1, h.2]; rfl
  rw [e];refine Z2 Tryz.func191 ?_
  intro w0 X
  rw [aq _ _ [(0, AG (QC np wp nq wq))] rfl rfl];refine gQ fun _ Z9=>?_;refine aB rfl rfl rfl rfl rfl rfl ?_;refine av rfl rfl rfl rfl rfl rfl ?_;refine eQ Z9 ?_;clear Z9;refine gQ fun _ Z9=>?_;refine Z6 ?_;refine ab rfl rfl (Db np nq wp wq hp hq lp lq h.1 h.2) rfl rfl rfl rfl ?_;refine ab rfl rfl (Bx 1 0 (by decide) (by decide) (by decide)) rfl rfl rfl rfl ?_;refine ak rfl rfl rfl rfl rfl ?_;refine eQ Z9 ?_;clear Z9;exact ai aE
 ·show Con _ _ _ _
  refine Z2 Tryz.func191 ?_
  intro w0 X
  rw [aq _ _ [(0, AG (QC np wp nq wq))] rfl rfl];refine gQ fun _ Z9=>?_;refine aB rfl rfl rfl rfl rfl rfl ?_;refine av rfl rfl rfl rfl rfl rfl ?_;refine eQ Z9 ?_;clear Z9;refine gQ fun _ Z9=>?_;refine Z6 ?_;refine ab rfl rfl (yV np nq wp wq hp hq lp lq h) rfl rfl rfl rfl ?_;refine ab rfl rfl (yR nq np wq wp hq hp lq lp h) rfl rfl rfl rfl ?_;refine ak rfl rfl rfl rfl rfl ?_;refine eQ Z9 ?_;clear Z9;exact ai aE

theorem yU (x y : Int) (hx : zl x <= 268435456) (hy : zl y <= 268435456) (h : ¬ (x = 0 /\ y = 0)) : Con Tryz.prog 190 [AG (PZ x y)] { v := AG (PZ y x) } :=
 yV (decide (x < 0)) (decide (y < 0)) (wof x.natAbs) (wof y.natAbs) (aw _) (aw _) hx hy (by rw [aZ, aZ]; exact h)

theorem tN (a b c d : Int) (ha : zl a <= 134217728) (hb : zl b <= 134217728) (hc : zl c <= 134217728) (hd : zl d <= 134217728) :
  Con Tryz.prog 192 [AG (PZ a b), AG (PZ c d)] { v := AG (PZ (a * c - b * d) (a * d + b * c)) } := by
 have m1 := bN a c
 have m2 := bN b d
 have m3 := bN a d
 have m4 := bN b c
 refine Z2 Tryz.func192 ?_
 intro w0 X
 rw [aq _ _ [(0, AG (PZ a b)), (1, AG (PZ c d))] rfl rfl];refine gQ fun _ Z9=>?_;refine aB rfl rfl rfl rfl rfl rfl ?_;refine aB rfl rfl rfl rfl rfl rfl ?_;refine av rfl rfl rfl rfl rfl rfl ?_;refine eQ Z9 ?_;clear Z9;refine aA tok mixed (A := [[], [], [], [], [0, 2], [], [], [], [], [0, 1, 2, 3, 5, 7], [0, 1, 2, 3, 5, 6, 7, 8], [], [], [], [], [0, 1, 2, 3, 4, 5, 6, 7, 8, 9, 11, 13], [], [], [], [], [0, 1, 2, 3, 4, 5, 6, 7, 8, 9, 10, 11, 12, 13, 14, 16, 18], [0, 1, 2, 3, 4, 5, 6, 7, 8, 9, 10, 11, 12, 13, 14, 16, 17, 18, 19], [0, 1, 2, 3, 4, 5, 6, 7, 8, 9, 11, 12, 13, 14, 15, 16, 17, 18, 19, 20], []]) (an := [{}, {}, {}, {}, {}, { c := [9] }, { c := [9] }, { c := [9] }, { c := [9] }, {}, {}, { c := [9, 14, 15] }, { c := [9, 14, 15] }, { c := [9, 14, 15] }, { c := [9, 14, 15] }, {}, { c := [9, 14, 15, 20] }, { c := [9, 14, 15, 20] }, { c := [9, 14, 15, 20] }, { c := [9, 14, 15, 20] }, {}, {}, {}, {}]) rfl (by kernel_rfl) rfl fun _ Z9=>?_;refine Z4 ?_;refine Z6 ?_;refine Z4 ?_;refine Z6 ?_;refine ab rfl rfl (eZ a c (by omega) (by omega)) rfl rfl rfl rfl ?_;refine Z4 ?_;refine Z6 ?_;refine Z4 ?_;refine Z6 ?_;refine ab rfl rfl (eZ b d (by omega) (by omega)) rfl rfl rfl rfl ?_;refine ab rfl rfl (Ci (a * c) (b * d) (by omega) (by omega)) rfl rfl rfl rfl ?_;refine Z4 ?_;refine Z6 ?_;refine Z4 ?_;refine Z6 ?_;refine ab rfl rfl (eZ a d (by omega) (by omega)) rfl rfl rfl rfl ?_;refine Z4 ?_;refine Z6 ?_;refine Z4 ?_;refine Z6 ?_;refine ab rfl rfl (eZ b c (by omega) (by omega)) rfl rfl rfl rfl ?_;refine ab rfl rfl (s8 (a * d) (b * c) (by omega) (by omega)) rfl rfl rfl rfl ?_;refine aG rfl rfl rfl ?_;refine ak rfl rfl rfl rfl rfl ?_;refine eQ Z9 ?_;clear Z9;exact ai aE

theorem rq (a b : Int) (ha : zl a <= 134217728) (hb : zl b <= 134217728) :
  Con Tryz.prog 193 [AG (PZ a b)] { v := AG (ZC (a * a + b * b)) } := by
 have m1 := bN a a
 have m2 := bN b b
 refine Z2 Tryz.func193 ?_
 intro w0 X
 rw [aq _ _ [(0, AG (PZ a b))] rfl rfl];refine gQ fun _ Z9=>?_;refine aB rfl rfl rfl rfl rfl rfl ?_;refine av rfl rfl rfl rfl rfl rfl ?_;refine eQ Z9 ?_;clear Z9;refine aA tok mixed (A := [[], [], [], [], [0, 2], [], [], [], [], [0, 1, 2, 3, 5, 7], [0, 1, 2, 3, 5, 6, 7, 8], []]) (an := [{}, {}, {}, {}, {}, { c := [7] }, { c := [7] }, { c := [7] }, { c := [7] }, {}, {}, {}]) rfl (by kernel_rfl) rfl fun _ Z9=>?_;refine Z4 ?_;refine Z6 ?_;refine Z4 ?_;refine Z6 ?_;refine ab rfl rfl (eZ a a (by omega) (by omega)) rfl rfl rfl rfl ?_;refine Z4 ?_;refine Z6 ?_;refine Z4 ?_;refine Z6 ?_;refine ab rfl rfl (eZ b b (by omega) (by omega)) rfl rfl rfl rfl ?_;refine ab rfl rfl (s8 (a * a) (b * b) (by omega) (by omega)) rfl rfl rfl rfl ?_;refine ak rfl rfl rfl rfl rfl ?_;refine eQ Z9 ?_;clear Z9;exact ai aE

theorem dQ {n : Bool} {w : List Nat} {k : Nat} (h : wOK w) (l : w.length <= k) : zl (zv n w) <= k := by
 unfold zl; rw [bm]; exact Nat.le_trans (bg h) l

theorem wL (np nq : Bool) (wp wq : List Nat) (a b : Int) (hp : wOK wp) (hq : wOK wq) (lp : wp.length <= 268435456) (lq : wq.length <= 268435456) (ha : rP (zv np wp) (zv nq wq) = a) (hb : rQ (zv np wp) (zv nq wq) = b) :
  Con Tryz.prog 191 [AG (QC np wp nq wq)] { v := AG (PZ a b) } := by
 subst ha hb
 exact BC np nq wp wq hp hq lp lq

theorem De (np nq : Bool) (wp wq : List Nat) (hp : wOK wp) (hq : wOK wq) (lp : wp.length <= 67108864) (lq : wq.length <= 67108864) :
  Con Tryz.prog 170 [AG (QC np wp nq wq)] { v := AG (QZ (jF (zv np wp) (zv nq wq))) } := by
 have r1 : zl (rP (zv np wp) (zv nq wq)) <= 67108864 := mq rfl (dQ hp lp)
 have r2 : zl (rQ (zv np wp) (zv nq wq)) <= 67108864 := mp rfl (dQ hq lq)
 have n1 := zC (zv np wp) (zv nq wq)
 unfold jF
 generalize hA : rP (zv np wp) (zv nq wq) = a at *;generalize hB : rQ (zv np wp) (zv nq wq) = b at *
 have m5 : zl (b * b - a * a) <= 268435456 := aM (rl (aY r2 r2) (aY r1 r1)) rfl
 have m6 : zl (b * b + a * a) <= 268435456 := aM (gZ (aY r2 r2) (aY r1 r1)) rfl
 refine Z2 Tryz.func170 ?_
 intro w0 X
 rw [aq _ _ [(0, AG (QC np wp nq wq))] rfl rfl];refine gQ fun _ Z9=>?_;refine aB rfl rfl rfl rfl rfl rfl ?_;refine av rfl rfl rfl rfl rfl rfl ?_;refine eQ Z9 ?_;clear Z9;refine gQ fun _ Z9=>?_;refine Z6 ?_;refine ab rfl rfl (wL np nq wp wq a b hp hq (aM lp rfl) (aM lq rfl) hA hB) rfl rfl rfl rfl ?_;refine ab rfl rfl (yU a b (aM r1 rfl) (aM r2 rfl) n1) rfl rfl rfl rfl ?_;refine av rfl rfl rfl rfl rfl rfl ?_;refine ak rfl rfl rfl rfl rfl ?_;refine eQ Z9 ?_;clear Z9;refine aA tok mixed (A := [[], [], [], [0, 1], [], [0, 1], [0, 1, 2, 4], []]) (an := [{}, {}, {}, {}, { c := [9] }, {}, {}, {}]) rfl (by kernel_rfl) rfl fun _ Z9=>?_;refine Z6 ?_;refine Z6 ?_;refine ab rfl rfl (tN b a b a (aM r2 rfl) (aM r1 rfl) (aM r2 rfl) (aM r1 rfl)) rfl rfl rfl rfl ?_;refine sv rfl rfl rfl ?_;refine Z6 ?_;refine ab rfl rfl (rq b a (aM r2 rfl) (aM r1 rfl)) rfl rfl rfl rfl ?_;refine ab rfl rfl (pw (b * b - a * a) (b * b + a * a) _ m5 m6 rfl) rfl rfl rfl rfl ?_;refine ak rfl rfl rfl rfl rfl ?_;refine eQ Z9 ?_;clear Z9;exact ai aE

theorem Dd (np nq : Bool) (wp wq : List Nat) (hp : wOK wp) (hq : wOK wq) (lp : wp.length <= 67108864) (lq : wq.length <= 67108864) :
  Con Tryz.prog 171 [AG (QC np wp nq wq)] { v := AG (QZ (jl (zv np wp) (zv nq wq))) } := by
 have r1 : zl (rP (zv np wp) (zv nq wq)) <= 67108864 := mq rfl (dQ hp lp)
 have r2 : zl (rQ (zv np wp) (zv nq wq)) <= 67108864 := mp rfl (dQ hq lq)
 have n1 := zC (zv np wp) (zv nq wq)
 unfold jl
 generalize hA : rP (zv np wp) (zv nq wq) = a at *;generalize hB : rQ (zv np wp) (zv nq wq) = b at *
 have m5 : zl (b * a + a * b) <= 268435456 := aM (gZ (aY r2 r1) (aY r1 r2)) rfl
 have m6 : zl (b * b + a * a) <= 268435456 := aM (gZ (aY r2 r2) (aY r1 r1)) rfl
 refine Z2 Tryz.func171 ?_
 intro w0 X
 rw [aq _ _ [(0, AG (QC np wp nq wq))] rfl rfl];refine gQ fun _ Z9=>?_;refine aB rfl rfl rfl rfl rfl rfl ?_;refine av rfl rfl rfl rfl rfl rfl ?_;refine eQ Z9 ?_;clear Z9;refine gQ fun _ Z9=>?_;refine Z6 ?_;refine ab rfl rfl (wL np nq wp wq a b hp hq (aM lp rfl) (aM lq rfl) hA hB) rfl rfl rfl rfl ?_;refine ab rfl rfl (yU a b (aM r1 rfl) (aM r2 rfl) n1) rfl rfl rfl rfl ?_;refine av rfl rfl rfl rfl rfl rfl ?_;refine ak rfl rfl rfl rfl rfl ?_;refine eQ Z9 ?_;clear Z9;refine aA tok mixed (A := [[], [], [], [0, 1], [], [0, 1], [0, 1, 2, 4], []]) (an := [{}, {}, {}, {}, { c := [9] }, {}, {}, {}]) rfl (by kernel_rfl) rfl fun _ Z9=>?_;refine Z6 ?_;refine Z6 ?_;refine ab rfl rfl (tN b a b a (aM r2 rfl) (aM r1 rfl) (aM r2 rfl) (aM r1 rfl)) rfl rfl rfl rfl ?_;refine sv rfl rfl rfl ?_;refine Z6 ?_;refine ab rfl rfl (rq b a (aM r2 rfl) (aM r1 rfl)) rfl rfl rfl rfl ?_;refine ab rfl rfl (pw (b * a + a * b) (b * b + a * a) _ m5 m6 rfl) rfl rfl rfl rfl ?_;refine ak rfl rfl rfl rfl rfl ?_;refine eQ Z9 ?_;clear Z9;exact ai aE

theorem BB (np nq na nb nc nd : Bool) (wp wq wa wb wc wd : List Nat) (hp : wOK wp) (hq : wOK wq) (ha : wOK wa) (hb : wOK wb) (hc : wOK wc) (hd : wOK wd)
  (lp : wp.length <= 1048576) (lq : wq.length <= 1048576) (la : wa.length <= 1048576) (lb : wb.length <= 1048576) (lc : wc.length <= 1048576) (ld : wd.length <= 1048576) :
  Con Tryz.prog 141 [AG (QC np wp nq wq), AG (QC na wa nb wb), AG (QC nc wc nd wd)]
   { v := .tup [.agg (QZ (jF (zv np wp) (zv nq wq) * qv na wa nb wb - jl (zv np wp) (zv nq wq) * qv nc wc nd wd)), .agg (QZ (jl (zv np wp) (zv nq wq) * qv na wa nb wb + jF (zv np wp) (zv nq wq) * qv nc wc nd wd))] } := by
 have c1 : ql (jF (zv np wp) (zv nq wq)) <= 2097153 := vt (zv np wp) (zv nq wq) (dQ hp lp) (dQ hq lq) (by decide)
 have s1 : ql (jl (zv np wp) (zv nq wq)) <= 2097153 := vr (zv np wp) (zv nq wq) (dQ hp lp) (dQ hq lq) (by decide)
 have x1 := jM (na := na) (nb := nb) ha hb la lb (by decide)
 have y1 := jM (na := nc) (nb := nd) hc hd lc ld (by decide)
 generalize hC : jF (zv np wp) (zv nq wq) = C at *;generalize hS : jl (zv np wp) (zv nq wq) = S at *;generalize hx : qv na wa nb wb = x at *;generalize hy : qv nc wc nd wd = y at *;refine Z2 Tryz.func141 ?_
 intro w0 X
 rw [aq _ _ [(0, AG (QC np wp nq wq)), (1, AG (QC na wa nb wb)), (2, AG (QC nc wc nd wd))] rfl rfl];refine gQ fun _ Z9=>?_;refine aB rfl rfl rfl rfl rfl rfl ?_;refine aB rfl rfl rfl rfl rfl rfl ?_;refine aB rfl rfl rfl rfl rfl rfl ?_;refine av rfl rfl rfl rfl rfl rfl ?_;refine av rfl rfl rfl rfl rfl rfl ?_;refine eQ Z9 ?_;clear Z9;refine aA tok mixed (A := [[], [], [], [0], [], [], [2], []]) (an := [{}, {}, { c := [11] }, {}, { c := [11, 13] }, { c := [11, 13, 8] }, {}, {}]) rfl (by kernel_rfl) rfl fun _ Z9=>?_;refine Z6 ?_;refine ab rfl rfl (hC ▸ De np nq wp wq hp hq (aM lp rfl) (aM lq rfl)) rfl rfl rfl rfl ?_;refine Z6 ?_;refine ab rfl rfl (hS ▸ Dd np nq wp wq hp hq (aM lp rfl) (aM lq rfl)) rfl rfl rfl rfl ?_;refine av rfl rfl rfl rfl rfl rfl ?_;refine av rfl rfl rfl rfl rfl rfl ?_;refine ak rfl rfl rfl rfl rfl ?_;refine ak rfl rfl rfl rfl rfl ?_;refine eQ Z9 ?_;clear Z9;refine aA tok mixed (A := [[], [], [], [], [], [0, 1], [0, 1, 3, 4], [], [], [0, 1, 2, 3, 4, 5], [], [], [0, 1, 2, 3, 4, 5, 6, 7, 8], [0, 1, 2, 3, 4, 5, 6, 7, 8, 10, 11], [7, 8, 9, 10, 11, 12], []]) (an := [{}, {}, {}, { c := [16] }, { c := [16] }, {}, {}, { c := [16, 19, 20] }, { c := [16, 19, 20] }, {}, { c := [16, 19, 20, 23] }, { c := [16, 19, 20, 23] }, {}, {}, {}, {}]) rfl (by kernel_rfl) rfl fun _ Z9=>?_;refine Z6 ?_;refine Z6 ?_;refine ab rfl rfl (lT C x _ _ _ _ _ _ _ _ (aw _) (aw _) ha hb (aM (bM c1) rfl) (aM (bw c1) rfl) (aM la rfl) (aM lb rfl) (dw C) hx) rfl rfl rfl rfl ?_;refine Z6 ?_;refine Z6 ?_;refine ab rfl rfl (lT S y _ _ _ _ _ _ _ _ (aw _) (aw _) hc hd (aM (bM s1) rfl) (aM (bw s1) rfl) (aM lc rfl) (aM ld rfl) (dw S) hy) rfl rfl rfl rfl ?_;refine ab rfl rfl (B5 (C * x) (S * y) (aM (bT c1 x1) rfl) (aM (bT s1 y1) rfl)) rfl rfl rfl rfl ?_;refine Z6 ?_;refine Z6 ?_;refine ab rfl rfl (lT S x _ _ _ _ _ _ _ _ (aw _) (aw _) ha hb (aM (bM s1) rfl) (aM (bw s1) rfl) (aM la rfl) (aM lb rfl) (dw S) hx) rfl rfl rfl rfl ?_;refine Z6 ?_;refine Z6 ?_;refine ab rfl rfl (lT C y _ _ _ _ _ _ _ _ (aw _) (aw _) hc hd (aM (bM c1) rfl) (aM (bw c1) rfl) (aM lc rfl) (aM ld rfl) (dw C) hy) rfl rfl rfl rfl ?_;refine ab rfl rfl (B6 (S * x) (C * y) (aM (bT s1 x1) rfl) (aM (bT c1 y1) rfl)) rfl rfl rfl rfl ?_;refine ak rfl rfl rfl rfl rfl ?_;refine ak rfl rfl rfl rfl rfl ?_;refine eQ Z9 ?_;clear Z9;exact ai aE
end Go.Proofs.YtnoildlijhapaaaGreatDoor
