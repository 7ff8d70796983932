/- Part of a proof that a Go function answers true for every input. No condition. -/
import Derived.Test.YtnoildlijhapaaaDoorC3
import Derived.Test.YtnoildlijhapaaaDoorProg
import Derived.Shelf.Slices.Cells
import Derived.Shelf.Strings.OnBuilder
import Derived.Shelf.Strconv.Itoa1
import Derived.Shelf.Strconv.Itoa2
set_option linter.unusedVariables false
set_option linter.unusedSimpArgs false
set_option linter.unusedSectionVars false
/- The library functions Join and Reverse at this program: what the kit proves of them over any program. No condition. -/
namespace Go.Proofs.YtnoildlijhapaaaDoor
open Go.Shelf
def sh_lays156_ren : Go.Shelf.Ren := ⟨fun | 156 => 62 | 165 => 72 | 166 => 73 | 169 => 75 | 240 => 87 | 241 => 88 | 276 => 95 | 277 => 96 | n => n, fun | 31 => 100 | 9 => 9 | 3 => 3 | 4 => 4 | 0 => 0 | 20 => 20 | 72 => 118 | 76 => 122 | 70 => 115 | 37 => 116 | 75 => 121 | 127 => 137 | 164 => 144 | 5 => 5 | 80 => 125 | n => n, fun | n => n⟩
theorem sh_lays156 : Go.Proofs.Lays.n156 Tryd.prog sh_lays156_ren := {
 mixed := by kernel_rfl
 f156 := Tryd.func62.trans (congrArg some (by kernel_rfl))
 f165 := Tryd.func72.trans (congrArg some (by kernel_rfl))
 f166 := Tryd.func73.trans (congrArg some (by kernel_rfl))
 f169 := Tryd.func75.trans (congrArg some (by kernel_rfl))
 f240 := Tryd.func87.trans (congrArg some (by kernel_rfl))
 f241 := Tryd.func88.trans (congrArg some (by kernel_rfl))
 f276 := Tryd.func95.trans (congrArg some (by kernel_rfl))
 f277 := Tryd.func96.trans (congrArg some (by kernel_rfl))
 t0 := Tryd.underlying0
 a0 := Tryd.isAgg0
 z0 := Tryd.sizeOf0
 v0 := Tryd.zeroValue0
 t3 := Tryd.underlying3
 a3 := Tryd.isAgg3
 z3 := Tryd.sizeOf3
 v3 := Tryd.zeroValue3
 t4 := Tryd.underlying4
 a4 := Tryd.isAgg4
 z4 := Tryd.sizeOf4
 v4 := Tryd.zeroValue4
 t9 := Tryd.underlying9
 a9 := Tryd.isAgg9
 z9 := Tryd.sizeOf9
 v9 := Tryd.zeroValue9
 t20 := Tryd.underlying20
 a20 := Tryd.isAgg20
 z20 := Tryd.sizeOf20
 v20 := Tryd.zeroValue20
 t31 := Tryd.underlying100
 a31 := Tryd.isAgg100
 z31 := Tryd.sizeOf100
 v31 := Tryd.zeroValue100
 t37 := Tryd.underlying116
 a37 := Tryd.isAgg116
 z37 := Tryd.sizeOf116
 v37 := Tryd.zeroValue116
 t70 := Tryd.underlying115
 a70 := Tryd.isAgg115
 z70 := Tryd.sizeOf115
 v70 := Tryd.zeroValue115
 t72 := Tryd.underlying118
 a72 := Tryd.isAgg118
 z72 := Tryd.sizeOf118
 v72 := Tryd.zeroValue118
 t75 := Tryd.underlying121
 a75 := Tryd.isAgg121
 z75 := Tryd.sizeOf121
 v75 := Tryd.zeroValue121
 t76 := Tryd.underlying122
 a76 := Tryd.isAgg122
 z76 := Tryd.sizeOf122
 v76 := Tryd.zeroValue122
 t127 := Tryd.underlying137
 a127 := Tryd.isAgg137
 z127 := Tryd.sizeOf137
 v127 := Tryd.zeroValue137
 t164 := Tryd.underlying144
 a164 := Tryd.isAgg144
 z164 := Tryd.sizeOf144
 v164 := Tryd.zeroValue144 }
theorem sh_Builder_Extra_156 : Builder.Extra Tryd.prog sh_lays156_ren := {
 sizeBuilder := by kernel_rfl
 liesBuilder := by kernel_rfl
 t5 := Tryd.underlying5
 a5 := Tryd.isAgg5
 z5 := Tryd.sizeOf5
 v5 := Tryd.zeroValue5
 infoByte := by kernel_rfl
 cellsByte := by kernel_rfl
 sizeByte := by kernel_rfl
 neB5 := by decide }
open Go.RowKit in
theorem sh_strings_Join (bk o c : Nat) (xs : List ByteArray) (sep : ByteArray) (w : World) (hcells : ∀ (j : Nat) x, xs[j]? = some x -> w.cell? ⟨bk, o + j, none⟩ = some (.string x)) (hbk : bk < w.heap.size) (hN : xs.length <= 140737488355328) (hcap : xs.length <= c) (hlen : (Lib.join (xs.map (·.data.toList)) sep.data.toList).length <= 140737488355328) :
  Calls Tryd.prog 62 #[.slice (some ⟨bk, o, none⟩) xs.length c, .string sep] w fun e w' => e = .returned (.string ⟨(Lib.join (xs.map (·.data.toList)) sep.data.toList).toArray⟩) /\ Below w.heap.size w w' := Any.strings_Join sh_lays156 sh_Builder_Extra_156 bk o c xs sep w hcells hbk hN hcap hlen
def sh_laysNm217_ren : Go.Shelf.Ren := ⟨fun | 17 => 61 | n => n, fun | 24 => 100 | 9 => 9 | 3 => 3 | 4 => 4 | 0 => 0 | n => n, fun | n => n⟩
theorem sh_laysNm217 : Go.Proofs.Lays2.n17 Tryd.prog sh_laysNm217_ren := {
 mixed := by kernel_rfl
 f17 := Tryd.func61.trans (congrArg some (by kernel_rfl))
 t0 := Tryd.underlying0
 a0 := Tryd.isAgg0
 z0 := Tryd.sizeOf0
 v0 := Tryd.zeroValue0
 t3 := Tryd.underlying3
 a3 := Tryd.isAgg3
 z3 := Tryd.sizeOf3
 v3 := Tryd.zeroValue3
 t4 := Tryd.underlying4
 a4 := Tryd.isAgg4
 z4 := Tryd.sizeOf4
 v4 := Tryd.zeroValue4
 t9 := Tryd.underlying9
 a9 := Tryd.isAgg9
 z9 := Tryd.sizeOf9
 v9 := Tryd.zeroValue9
 t24 := Tryd.underlying100
 a24 := Tryd.isAgg100
 z24 := Tryd.sizeOf100
 v24 := Tryd.zeroValue100 }
open Go.RowKit Go.Lib Go.Sort in
theorem sh_slices_Reverse_string_cells (b off n c : Nat) (Sx : Nat -> ByteArray) (w : World) (hbig : n <= 9223372036854775807) (hc : ∀ i, i < n -> w.cell? ⟨b, off + i, none⟩ = some (.string (Sx i))) (hf : ∀ j, j < n -> w.frozen? ⟨b, off + j, none⟩ = false) :
  Calls Tryd.prog 61 #[.slice (some ⟨b, off, none⟩) n c] w fun e w' => e = .returned (.tuple #[]) /\ ∃ q, w' = (w.drewN q).setCells b off ((Lib.strsOf Sx n).reverse.map encStr) := Any.slices_Reverse_string_cells sh_laysNm217 b off n c Sx w hbig hc hf
end Go.Proofs.YtnoildlijhapaaaDoor

/- Numbers as text: negative ones, fractions. No condition. -/
namespace Go.Proofs.YtnoildlijhapaaaDoor
attribute [local irreducible] aw
open Go.RowKit

theorem q5 (y : ByteArray) : (⟨y.data.toList.toArray⟩ : ByteArray) = y := by cases y; simp
theorem mQ {w : World} {b : Nat} {cs : Array Value} {E : TypeId} {fr : Nat × Nat} (h : w.heap[b]? = some (.cells cs E fr)) (i : Nat) : w.cell? ⟨b, i, none⟩ = cs[i]? := by
 simp [World.cell?, h]
theorem w7 : yl Tryd.prog 61 := by
 refine ⟨⟨Tryd.f61, Tryd.func61, by kernel_rfl, rfl⟩, fun w b cap x y cs E hh h0 h1 => ?_⟩;refine (sh_slices_Reverse_string_cells b 0 2 cap (fun i => if i = 0 then x else y) w (by decide) (fun i hi => ?_) (fun j _ => gO hh _)).mono fun e w' ⟨he, q, hw⟩ => ⟨he, w.drewN q, ⟨rfl, rfl, rfl, Nat.le_refl _, fun _ _ => rfl⟩, rfl, ?_⟩
 ·rw [mQ hh]
  match i, hi with
  | 0, _ => exact h0
  | 1, _ => exact h1
 ·rw [hw]
  have hh' : (w.drewN q).heap[b]? = some (.cells cs E (0, 0)) := hh
  show ((w.drewN q).setCell ⟨b, 0, none⟩ (.string ⟨y.data.toList.toArray⟩)).setCell ⟨b, 1, none⟩ (.string ⟨x.data.toList.toArray⟩) = _
  rw [q5, q5, gH hh', gH (b7 hh' _), ie hh']
theorem vD (x y : List UInt8) (hx : x.length <= 1000) (hy : y.length <= 1000) : Con Tryd.prog 62 [V1 (.sl [[sB x], [sB y]]), V1 (sB [])] { v := V1 (sB (x ++ y)) } := by
 refine ⟨⟨Tryd.f62, Tryd.func62, by kernel_rfl, rfl⟩, fun w X μ vs _ hX hl ha => ?_⟩
 obtain ⟨v0, e0, r0⟩ := ha 0 _ rfl
 obtain ⟨v1, e1, r1⟩ := ha 1 _ rfl
 obtain ⟨u0, u1, rfl⟩ : ∃ u0 u1, vs = [u0, u1] := by
  match vs, hl with
  | [u0, u1], _ => exact ⟨u0, u1, rfl⟩
 have r0 : RdC w X u0 (.sl [[sB x], [sB y]]) := by cases e0; exact r0
 have r1 : RdC w X u1 (sB []) := by cases e1; exact r1
 obtain rfl : u1 = .string ⟨#[]⟩ := by cases r1; rfl
 cases r0 with
 | sl gs hh hxx hlen hcap hs hv hr =>
  rename_i b off len cap sz cs E fr
  subst hlen
  have hsz : 1 = sz := hs 0 [sB x] rfl
  subst hsz
  have key : ∀ v s, RdC w X v (.lit (.string s)) -> v = .string s := fun v s h => by cases h; rfl
  have g0 : gs 0 0 = .string ⟨x.toArray⟩ := key _ _ (hr 0 0 (sB x) rfl)
  have g1 : gs 1 0 = .string ⟨y.toArray⟩ := key _ _ (hr 1 0 (sB y) rfl)
  have v0 := hv 0 0 (sB x) rfl
  have v1 := hv 1 0 (sB y) rfl
  rw [g0] at v0;rw [g1] at v1
  have hj : Lib.join ([(⟨x.toArray⟩ : ByteArray), ⟨y.toArray⟩].map (·.data.toList)) (⟨#[]⟩ : ByteArray).data.toList = x ++ y := by
   simp [Lib.join, List.intercalate]
  have := sh_strings_Join b off cap [⟨x.toArray⟩, ⟨y.toArray⟩] ⟨#[]⟩ w (fun j z hz => by
   rw [mQ hh]
   match j, hz with
   | 0, hz => cases hz; simpa using v0
   | 1, hz => cases hz; simpa using v1
   | j + 2, hz => cases hz) (bh hh) (by simp) hcap (by rw [hj, List.length_append]; omega)
  rw [hj] at this;exact this.mono fun e w' ⟨he, hb⟩ => ⟨_, he, hb, 0, fun _ _ h => (by cases h), RdC.lit rfl⟩
theorem tN (d : Nat) (h0 : 0 < d) (hd : d < 100) : Con Tryd.prog 41 [AG (ZC (-(d : Int)))] { v := V1 (sB (45 :: txL d)) } := by
 have ltx : (txL d).length <= 2 := by unfold txL; split <;> simp <;> omega
 refine dK (fn := Tryd.f41) aM Tryd.func41 (by kernel_rfl) rfl ?_
 intro w0 X
 rw [aj _ _ [(0, AG (ZC (-(d : Int))))] rfl rfl]
 have hw : wof d = [d] := by
  have e : wv [d] = d := by simp [wv]
  rw [<- e, <- gD (wOK.one (by omega))];exact mj (by omega)
 have hz : ZC (-(d : Int)) = IC true [d] := by unfold ZC; rw [Int.natAbs_neg, Int.natAbs_natCast, hw, decide_eq_true (by omega)]
 have hok : wOK [d] := wOK.one (by omega)
 have hv : wv [d] = d := by simp [wv]
 have cs := nj [d] 1000000000 hok (by decide) (by decide) (by simp)
 rw [hv, Nat.div_eq_of_lt (show d < 1000000000 by omega), Nat.mod_eq_of_lt (show d < 1000000000 by omega)] at cs
 have ct := bJ (aU [d].length 0) (bt _ _) (by simp [aU])
 rw [bE, Nat.zero_mod] at ct
 have c0 := bJ [d] hok (by simp)
 rw [hv, hw] at c0
 have cj := vD [45] (txL d) (by simp) (by omega)
 rw [hz];refine av aM fun _ F=>?_;refine aC rfl rfl rfl rfl rfl rfl ?_;refine Z8 ?_;refine eQ F ?_;clear F;refine av aM fun _ F=>?_;refine Z5 ?_;refine Z7 ?_;refine aa rfl rfl (c0) rfl rfl rfl rfl ?_;refine aa rfl rfl (ib [d] (by simp)) rfl rfl rfl rfl ?_;refine Z8 ?_;refine eQ F ?_;clear F;refine ah ?_;refine av aM fun _ F=>?_;refine Z9 ?_;refine aA rfl (aP rfl rfl rfl) rfl ?_;refine Z6 ?_;refine eQ F ?_;clear F;refine ap rfl (fun hc => by cases hc) (fun _ => ?_);refine ak ?_;show AWP _ _ _ _ _ _;refine av aM fun _ F=>?_;refine Z8 ?_;refine eQ F ?_;clear F;refine ah ?_;refine ar (bm (α := Nat) (fun i => mk 49 [(1, .ptr 1 0), (3, V1 (dW ([d].drop i))), (4, xV 4 1 i)] [(1, some (.box (IC true [d]))), (4, rS 1 [[sB (txL d)]] i)] []) (fun i => i <= 1) (fun i => 1 - i) 0 ?_ (Nat.zero_le _) ?_)
 ·exact Wk.mk' ⟨rfl, rfl, rfl, trivial⟩ ⟨rfl, rfl, trivial⟩
 intro i hi
 refine ah ?_
 rcases i with _ | i
 ·refine av aM fun _ F=>?_;refine Z9 ?_;refine aA rfl (aP rfl rfl rfl) rfl ?_;refine Z6 ?_;refine eQ F ?_;clear F;refine ap rfl (fun _ => ?_) (fun hc => by cases hc);refine ak ?_;show AWP _ _ _ _ _ _;refine ar ?_;refine av aM fun _ F=>?_;refine Z8 ?_;refine eQ F ?_;clear F;refine av aM fun _ F=>?_;refine Z9 ?_;refine aa rfl rfl (cs) rfl rfl rfl rfl ?_;refine Z9 ?_;refine am rfl rfl rfl ?_;refine am rfl rfl rfl ?_;refine Z8 ?_;refine Z8 ?_;refine eQ F ?_;clear F;refine av aM fun _ F=>?_;refine Z9 ?_;refine aa rfl rfl (ct) rfl rfl rfl rfl ?_;refine Z8 ?_;refine eQ F ?_;clear F;refine av aM fun _ F=>?_;refine Z9 ?_;refine aG rfl (aH rfl rfl rfl (by show IntKind.u64.wrap (d : Int) = (d : Int); rw [oe]; omega)) rfl ?_;refine aa rfl rfl (wD d hd) rfl rfl rfl rfl ?_;refine Z8 ?_;refine eQ F ?_;clear F;refine ah ?_;refine av aM fun _ F=>?_;refine Z9 ?_;refine aA rfl (aP rfl rfl rfl) rfl ?_;refine Z6 ?_;refine eQ F ?_;clear F;refine ap rfl (fun hc => by cases hc) (fun _ => ?_);refine ak ?_;show AWP _ _ _ _ _ _;refine kl aM fun _ F=>?_;refine Z9 ?_;refine Z9 ?_;refine bU rfl rfl rfl rfl ?_;refine bM rfl (n4 rfl rfl rfl rfl rfl (by decide) (Nat.le_of_ble_eq_true rfl) rfl (by simp) rfl (by simp) (by simp)) rfl rfl rfl ?_;refine Z8 ?_;refine eQ F ?_;clear F;refine ⟨1, by omega, by omega, Wk.rn [1, 3, 4] [1, 39] 39 4 rfl rfl rfl ⟨rfl, rfl, rfl, trivial⟩ ⟨rfl, rfl, trivial⟩⟩
 ·obtain rfl : i = 0 := by omega
  refine av aM fun _ F=>?_;refine Z9 ?_;refine aA rfl (aP rfl rfl rfl) rfl ?_;refine Z6 ?_;refine eQ F ?_;clear F;refine ap rfl (fun hc => by cases hc) (fun _ => ?_);refine aF ?_;show AWP _ _ _ _ _ _;refine bI (α := Unit) (fun _ => mk 49 [(4, .val (.one (.own 4 1 0 2)))] [(4, some (.arr 1 [[sB (txL d)], [sB [45]]]))] []) (fun _ => True) ?_ ?_
  ·refine av aM fun _ F=>?_;refine Z5 ?_;refine Z7 ?_;refine eQ F ?_;clear F;refine ap rfl (fun _ => ?_) (fun hc => by cases hc);refine kl aM fun _ F=>?_;refine Z9 ?_;refine bU rfl rfl rfl rfl ?_;refine bM rfl (nZ rfl rfl rfl rfl rfl rfl (by decide) (Nat.le_of_ble_eq_true rfl) rfl (by simp) rfl rfl rfl (by simp)) rfl rfl rfl ?_;refine Z8 ?_;refine eQ F ?_;clear F;exact ⟨(), trivial, Wk.rn [4] [44] 44 4 rfl rfl rfl ⟨rfl, trivial⟩ ⟨rfl, trivial⟩⟩
  rintro - -
  refine cb fun _ F=>?_;refine ac aM rfl ?_;refine Z9 ?_;refine ai ?_;refine xG (x := ⟨(txL d).toArray⟩) (y := ⟨[45].toArray⟩) w7 rfl rfl rfl ?_;refine bK rfl (F _ ?_); clear F;refine iE [4] [4] 4 [(4, V1 (.sl [[sB [45]], [sB (txL d)]]))] [] rfl ?_ trivial ?_
  ·exact ⟨iV rfl rfl, trivial⟩
  refine av aM fun _ F=>?_;refine Z9 ?_;refine aa rfl rfl (cj) rfl rfl rfl rfl ?_;refine Z8 ?_;refine eQ F ?_;clear F;exact ag aT

def ztx (z : Int) : List UInt8 := if z < 0 then 45 :: txL z.natAbs else txL z.natAbs
theorem oU (z : Int) (h : -100 < z /\ z < 100) : Con Tryd.prog 41 [AG (ZC z)] { v := V1 (sB (ztx z)) } := by
 unfold ztx
 split
 ·have e : z = -((z.natAbs : Nat) : Int) := by omega
  have := tN z.natAbs (by omega) (by omega)
  rw [<- e] at this; exact this
 ·have e : z = ((z.natAbs : Nat) : Int) := by omega
  have := vF z.natAbs (by omega)
  rw [<- e] at this; exact this
def qtx (q : Rat) : List UInt8 := if q.den = 1 then ztx q.num else ztx q.num ++ [47] ++ ztx q.den
theorem qi (z : Int) : (ztx z).length <= 3 := by
 have h : ∀ d, (txL d).length <= 2 := fun d => by unfold txL; split <;> simp <;> omega
 unfold ztx; split
 ·have := h z.natAbs; simp; omega
 ·have := h z.natAbs; omega
theorem ui {T : Tab} {t : TypeId} (a b : List UInt8) (h : a.length + b.length <= 1000) : aE T .add t (V1 (sB a)) (V1 (sB b)) = .set (V1 (sB (a ++ b))) := by
 have hb : gq .add (.string ⟨a.toArray⟩) (.string ⟨b.toArray⟩) = some (.string ⟨(a ++ b).toArray⟩) := by
  have e1 : (ByteArray.mk a.toArray).size = a.length := by simp [ByteArray.size]
  have e2 : (ByteArray.mk b.toArray).size = b.length := by simp [ByteArray.size]
  simp only [gq];rw [if_pos (by rw [e1, e2]; omega)]
  congr 2
 simp only [aE, ck, hb]; rfl
theorem vo (a : RW) (ok : a.OK 16777216) (hn : -100 < a.v.num /\ a.v.num < 100) (hd : (a.v.den : Int) < 100) : Con Tryd.prog 16 [AG a.cs] { v := V1 (sB (qtx a.v)) } := by
 have c1 := nx a ok
 have h1 := ok.ql rfl
 generalize a.v = x at *
 have c2 := xg (x.den : Int) (aN (cr h1) rfl)
 have c3 := oU x.num hn
 have c4 := oU (x.den : Int) (by omega)
 have l1 := qi x.num
 have l2 := qi (x.den : Int)
 refine dK (fn := Tryd.f16) aM Tryd.func16 (by kernel_rfl) rfl ?_
 intro w0 X
 rw [aj _ _ [(0, AG a.cs)] rfl rfl];refine av aM fun _ F=>?_;refine aC rfl rfl rfl rfl rfl rfl ?_;refine Z8 ?_;refine eQ F ?_;clear F;refine av aM fun _ F=>?_;refine Z7 ?_;refine aa rfl rfl (c1) rfl rfl rfl rfl ?_;refine ae rfl rfl rfl rfl rfl ?_;refine eQ F ?_;clear F;refine ah ?_;refine av aM fun _ F=>?_;refine Z5 ?_;refine Z7 ?_;refine aa rfl rfl (c2) rfl rfl rfl rfl ?_;refine eQ F ?_;clear F;refine ap rfl (fun hc => ?_) (fun hc => ?_)
 ·have hc : x.den = 1 := by have := of_decide_eq_true hc; omega
  refine av aM fun _ F=>?_;refine Z5 ?_;refine Z7 ?_;refine aa rfl rfl (c3) rfl rfl rfl rfl ?_;refine Z8 ?_;refine eQ F ?_;clear F;exact ag (bR (h3 := by unfold qtx; rw [if_pos hc]; rfl))
 ·have hc : ¬ x.den = 1 := by have := of_decide_eq_false hc; omega
  refine ak ?_;show AWP _ _ _ _ _ _;refine aD aM mixed (A := [[], [], [0], [0, 1], [], [], [0, 1, 4], [0, 1, 2, 4, 5], []]) (an := [{}, {}, {}, {}, { c := [13] }, { c := [13] }, {}, {}, {}]) rfl (by kernel_rfl) rfl fun _ F=>?_;refine Z5 ?_;refine Z7 ?_;refine aa rfl rfl (c3) rfl rfl rfl rfl ?_;refine aq rfl (ui _ [47] (by simp; omega)) rfl ?_;refine Z5 ?_;refine Z7 ?_;refine aa rfl rfl (c4) rfl rfl rfl rfl ?_;refine aq rfl (ui _ _ (by simp; omega)) rfl ?_;refine Z8 ?_;refine eQ F ?_;clear F;exact ag (bR (h3 := by unfold qtx; rw [if_neg hc]; rfl))
end Go.Proofs.YtnoildlijhapaaaDoor

/- adjust: Worst, Graph; awake. No condition. -/
namespace Go.Proofs.YtnoildlijhapaaaDoor
attribute [local irreducible] aw
open Go.RowKit

/-! ### Worst -/
end Go.Proofs.YtnoildlijhapaaaDoor

/- Slices as arguments, with their lengths; bytes. No condition. -/
namespace Go.Proofs.YtnoildlijhapaaaDoor
open Go.RowKit

section
variable {P : Program} {T : Tab} {w : World} {t : TypeId} {ti : TI} {H : Type} {enc : TypeId × Value -> H} {sp : Nat -> Bool} {v : Value} {d : DataW H} {ps : List MemPlace} {base : Nat}
theorem rh {e : TypeId} (hT : TOK P T) (h : T t = some ti) (hu : ti.und = .slice e) (hv : Value.okWide P w .any base t v) {X : Nat -> Prop} {μ : Nat -> Nat} {es : List (List DC)} (hr : RelV w X μ v (.val (.one (.d (.sl es))))) : es.length <= 9223372036854775807 := by
 have hP := je hT h hu
 unfold Value.okWide at hv
 rw [hP] at hv
 simp only at hv
 unfold Cell.okWide at hv
 rw [hP] at hv
 simp only at hv
 have hr : RdC w X v (.sl es) := hr
 cases hr with
 | nil => exact Nat.zero_le _
 | sl vs hh hx hl hcap hs hv' hr' =>
  unfold Cell.ok at hv
  rw [hP] at hv
  simp only at hv
  obtain ⟨h1, h2, _⟩ := hv
  have e : IntKind.i64.max = 9223372036854775807 := by decide
  rw [e] at h2
  omega
theorem p7 {e : TypeId} {α : Type} {f : α -> List DC} {Q : α -> Prop} (hT : TOK P T) (h : T t = some ti) (hu : ti.und = .slice e) (hr : Reads P w t (fun ds => ∃ l : List α, (∀ x ∈ l, Q x) /\ ds = [.sl (l.map f)])) (hv : Value.okWide P w .any base t v) (hd : DataW.Trod enc P w 0 sp true t v d ps) (μ : Nat -> Nat) :
  ∃ l : List α, ((∀ x ∈ l, Q x) /\ l.length <= 9223372036854775807) /\ RelV w (fun _ => False) μ v (.val (.one (.d (.sl (l.map f))))) := by
 obtain ⟨l, h1, h2⟩ := mU hT h hu hr hv hd μ
 have := rh hT h hu hv h2
 rw [List.length_map] at this;exact ⟨l, ⟨h1, this⟩, h2⟩
end
section
variable {w : World} {H : Type} {enc : TypeId × Value -> H} {sp : Nat -> Bool} {v : Value} {d : DataW H} {ps : List MemPlace} {base : Nat}
end
end Go.Proofs.YtnoildlijhapaaaDoor

/- law31: awake; alike; Least. No condition. -/
namespace Go.Proofs.YtnoildlijhapaaaDoor
attribute [local irreducible] aw
open Go.RowKit

/-! ### alike -/
/-! ### Least -/
end Go.Proofs.YtnoildlijhapaaaDoor

/- law31: Gradient. No condition. -/
namespace Go.Proofs.YtnoildlijhapaaaDoor
attribute [local irreducible] aw
open Go.RowKit

end Go.Proofs.YtnoildlijhapaaaDoor

/- law31: Order, Merges. No condition. -/
namespace Go.Proofs.YtnoildlijhapaaaDoor
attribute [local irreducible] aw
open Go.RowKit

section
variable {T : Tab} {t e : TypeId} {ti ei : TI}
end
end Go.Proofs.YtnoildlijhapaaaDoor

/- law31: Merges. No condition. -/
namespace Go.Proofs.YtnoildlijhapaaaDoor
attribute [local irreducible] aw
open Go.RowKit

end Go.Proofs.YtnoildlijhapaaaDoor

/- Quarter turns: what turns exactly. No condition. -/
namespace Go.Proofs.YtnoildlijhapaaaDoor
attribute [local irreducible] aw
open Go.RowKit

/-! ### Plainly -/
theorem m4 (t : Nat) : t % 4 = 0 \/ t % 4 = 1 \/ t % 4 = 2 \/ t % 4 = 3 := by omega
/-! ### Walks -/
end Go.Proofs.YtnoildlijhapaaaDoor

/- law31: Truth. No condition. -/
namespace Go.Proofs.YtnoildlijhapaaaDoor
attribute [local irreducible] aw
open Go.RowKit

/-! ### Plainly -/
section
variable {P : Nat -> PT} {ts : List Nat} {n : Nat} {pr : List PT}
variable (h1 : 1 <= n) (h5 : n <= 5) (hn : n <= ts.length) (hp : pr.length <= 5) (hP : ∀ i, (-1000 <= (P i).x /\ (P i).x <= 1000) /\ (-1000 <= (P i).y /\ (P i).y <= 1000))
include h1 h5 hn hp hP
end
end Go.Proofs.YtnoildlijhapaaaDoor

/- Chains and closures that are measured exactly, plainly. No condition. -/
namespace Go.Proofs.YtnoildlijhapaaaDoor

section
variable {P : Nat -> PT} {ts : List Nat} {n : Nat} {ls : List LK}
end
end Go.Proofs.YtnoildlijhapaaaDoor

/- Law 3: guards; fixed calls. No condition. -/
namespace Go.Proofs.YtnoildlijhapaaaDoor
attribute [local irreducible] aw

end Go.Proofs.YtnoildlijhapaaaDoor

/- Law 3: circle, group, rigid motions, actions. No condition. -/
namespace Go.Proofs.YtnoildlijhapaaaDoor
attribute [local irreducible] aw

theorem RW.OK.big {r : RW} {k : Nat} (h : r.OK k) (hk : Nat.ble k 16777216 = true) : r.wp.length <= 9223372036854775806 /\ r.wq.length <= 9223372036854775806 :=
 ⟨Nat.le_trans (h.mono hk).lp (by decide), Nat.le_trans (h.mono hk).lq (by decide)⟩
theorem cO (a : RW) {k : Nat} (h : a.OK k) (hk : Nat.ble k 16777216 = true) : Con Tryd.prog 14 [AG a.cs, AG a.cs] { v := dB true } := by
 have c := xz a a (h.big hk).1 (h.big hk).2
 rwa [decide_eq_true rfl] at c
end Go.Proofs.YtnoildlijhapaaaDoor

/- Law 3: actions, marks. No condition. -/
namespace Go.Proofs.YtnoildlijhapaaaDoor
attribute [local irreducible] aw

theorem uq (t u : TR) : (cmV t u).r.cn = gc (gm t.r.cn u.r.cn) := by show (pz2 _).cn = _; rw [tm, qU]
theorem q7 (t u : TR) (x y : Rat) : acX (cmV t u) x y = acX t (acX u x y) (acY u x y) /\ acY (cmV t u) x y = acY t (acX u x y) (acY u x y) := by
 have h := su t.r.cn_nz u.r.cn_nz x y
 have h2 := pp t.r.cn (tnX u.r.cn x y) (tnY u.r.cn x y) u.x.v u.y.v
 have e1 : (cmV t u).x.v = acX t u.x.v u.y.v := cF _
 have e2 : (cmV t u).y.v = acY t u.x.v u.y.v := cF _
 constructor
 ·show tnX (cmV t u).r.cn x y + (cmV t u).x.v = tnX t.r.cn (acX u x y) (acY u x y) + t.x.v
  rw [uq, h.1, e1]
  unfold acX acY
  rw [h2.1]; grind
 ·show tnY (cmV t u).r.cn x y + (cmV t u).y.v = tnY t.r.cn (acX u x y) (acY u x y) + t.y.v
  rw [uq, h.2, e2]
  unfold acX acY
  rw [h2.2]; grind
end Go.Proofs.YtnoildlijhapaaaDoor

/- Chains as products of transforms, plainly. No condition. -/
namespace Go.Proofs.YtnoildlijhapaaaDoor

theorem wQ (a b : RW) : thW a b = pz2 (gc (gm a.cn b.cn)) := rfl
theorem m7 (a b : RW) : (thW a b).cn = gc (gm a.cn b.cn) := by rw [wQ, tm, qU]
theorem wI (r : RW) (l : LK) : alX r l = tnX r.cn (l.x : Rat) (l.y : Rat) /\ alY r l = tnY r.cn (l.x : Rat) (l.y : Rat) := by
 unfold alX alY tnX tnY
 rw [(ia r).1, (ia r).2];exact ⟨rfl, rfl⟩
theorem uV (a : Int × Int) : tnX a 0 0 = 0 /\ tnY a 0 0 = 0 := by
 unfold tnX tnY; constructor <;> grind
def pXY (ts : List RW) (st : List PT) : Nat -> Rat × Rat
 | 0 => (0, 0)
 | i + 1 => ((pXY ts st i).1 + tnX (cn ts i).cn ((PT.at st i).x : Rat) ((PT.at st i).y : Rat), (pXY ts st i).2 + tnY (cn ts i).cn ((PT.at st i).x : Rat) ((PT.at st i).y : Rat))
def nG (f : Nat -> RW) (st : List PT) : GR := ⟨(List.range (st.length + 1)).map f, (List.range st.length).map (lkN st 1)⟩
theorem pi (ts : List RW) (st : List PT) : chG ts st 1 = nG (cn ts) st := rfl
section
variable {f : Nat -> RW} {st : List PT}
theorem kX : (nG f st).nodes.length = st.length + 1 := by simp [nG]
theorem qQ (h : st.length <= 15) (hB : chB st 1 = true) : GV (nG f st) := by
 have e := kX (f := f) (st := st)
 refine ⟨by rw [e]; omega, by rw [e]; omega, by simp [nG]; omega, fun l hl => ?_⟩
 obtain ⟨i, hi, rfl⟩ := List.mem_map.1 hl
 have hi := List.mem_range.1 hi
 rw [e]
 have hs : gF (PT.at st i).x (PT.at st i).y 1 = true := by
  rw [chB, Bool.and_eq_true, List.all_eq_true] at hB
  have : PT.at st i = st[i] := by unfold PT.at; rw [List.getD_eq_getElem?_getD, List.getElem?_eq_getElem hi]; rfl
  rw [this];exact hB.2 _ (List.getElem_mem hi)
 unfold gx
 simp only [Bool.and_eq_true];refine ⟨⟨⟨?_, ?_⟩, ?_⟩, hs⟩
 ·show decide _ = true
  exact decide_eq_true (by simp only [lkN]; omega)
 ·show decide _ = true
  exact decide_eq_true (by simp only [lkN]; omega)
 ·simp only [lkN, Bool.not_eq_true', beq_eq_false_iff_ne, ne_eq]; omega
theorem xX {i : Nat} (hi : i < st.length) : frN (nG f st) (lkN st 1 i) = f i := by
 show ((List.range (st.length + 1)).map f).getD ((i : Int).toNat) _ = _
 rw [Int.toNat_natCast, List.getD_eq_getElem?_getD, List.getElem?_map, List.getElem?_range (by omega)]; rfl
theorem tE (gv : GV (nG f st)) : cnB (nG f st) = true := by
 refine decide_eq_true fun v hv => ?_
 have e := kX (f := f) (st := st)
 rw [nK gv hv (by omega)]
 have key : ∀ v, v < st.length + 1 -> Cnn (prs (nG f st).links) v 0 := by
  intro v
  induction v with
  | zero => intro _; exact .refl _
  | succ v ih =>
   intro hv
   refine Cnn.trans (.one (Or.inr ?_)) (ih (by omega));refine List.mem_map.2 ⟨lkN st 1 v, List.mem_map.2 ⟨v, List.mem_range.2 (by omega), rfl⟩, ?_⟩
   show ((v : Int).toNat, ((v : Int) + 1).toNat) = _
   congr 1
 exact key v (by omega)
theorem wx {P : Nat -> Rat × Rat} (gv : GV (nG f st)) (h0 : P 0 = (0, 0)) (hP : ∀ i, i < st.length -> (P (i + 1)).1 = (P i).1 + tnX (f i).cn ((PT.at st i).x : Rat) ((PT.at st i).y : Rat) /\ (P (i + 1)).2 = (P i).2 + tnY (f i).cn ((PT.at st i).x : Rat) ((PT.at st i).y : Rat)) {v : Nat} (hv : v < st.length + 1) :
  rkX (nG f st) v = (P v).1 /\ rkY (nG f st) v = (P v).2 := by
 have e := kX (f := f) (st := st)
 have ha := tE gv
 rw [<- qe gv] at ha
 have r := oF (g := nG f st) (P := fun v => (P v).1) (Q := fun v => (P v).2) (fun l hl => by
  obtain ⟨i, hi, rfl⟩ := List.mem_map.1 hl
  have hi := List.mem_range.1 hi
  unfold dX dY
  rw [xX hi, (wI _ _).1, (wI _ _).2]
  show (P (((i : Int) + 1).toNat)).1 - (P ((i : Int).toNat)).1 = _ /\ (P (((i : Int) + 1).toNat)).2 - (P ((i : Int).toNat)).2 = _
  rw [show ((i : Int) + 1).toNat = i + 1 by omega, Int.toNat_natCast, (hP i hi).1, (hP i hi).2]
  show _ = tnX (f i).cn ((PT.at st i).x : Rat) ((PT.at st i).y : Rat) /\ _ = tnY (f i).cn ((PT.at st i).x : Rat) ((PT.at st i).y : Rat)
  constructor <;> grind) _ v (kk.1 ha v (by omega))
 unfold rkX rkY
 rw [r.1, r.2, h0]
 constructor <;> grind
end
def stT (ts : List RW) (st : List PT) (i : Nat) : TR := ⟨ts.getD i eI, qzW ((PT.at st i).x : Rat), qzW ((PT.at st i).y : Rat)⟩
def prT (a : TR) (ts : List RW) (st : List PT) : Nat -> TR
 | 0 => a
 | i + 1 => cmV (prT a ts st i) (stT ts st i)
def at0 : TR := shV (qzW 0) (qzW 0)
theorem uB (x y : Rat) : acX at0 x y = x /\ acY at0 x y = y /\ at0.r.cn = eI.cn := by
 have e1 : cs2 at0.r.cn = 1 /\ sn2 at0.r.cn = 0 := by decide +kernel
 have e2 : at0.x.v = 0 /\ at0.y.v = 0 := by decide +kernel
 refine ⟨?_, ?_, by decide +kernel⟩
 ·show cs2 at0.r.cn * x - sn2 at0.r.cn * y + at0.x.v = x
  rw [e1.1, e1.2, e2.1]; grind
 ·show sn2 at0.r.cn * x + cs2 at0.r.cn * y + at0.y.v = y
  rw [e1.1, e1.2, e2.2]; grind
theorem pJ (ts : List RW) (st : List PT) : ∀ i, (prT at0 ts st i).r.cn = (cn ts i).cn /\ ∀ x y, acX (prT at0 ts st i) x y = tnX (cn ts i).cn x y + (pXY ts st i).1 /\ acY (prT at0 ts st i) x y = tnY (cn ts i).cn x y + (pXY ts st i).2
 | 0 => by
  refine ⟨(uB 0 0).2.2, fun x y => ?_⟩
  obtain ⟨h1, h2, h3⟩ := uB x y
  have e1 : cs2 eI.cn = 1 /\ sn2 eI.cn = 0 := by decide +kernel
  show acX at0 x y = tnX eI.cn x y + 0 /\ acY at0 x y = tnY eI.cn x y + 0
  rw [h1, h2]
  unfold tnX tnY
  rw [e1.1, e1.2]
  constructor <;> grind
 | i + 1 => by
  obtain ⟨h1, h2⟩ := pJ ts st i
  refine ⟨?_, fun x y => ?_⟩
  ·show (cmV (prT at0 ts st i) (stT ts st i)).r.cn = (thW (cn ts i) (ts.getD i eI)).cn
   rw [uq, m7, h1]; rfl
  ·have a := q7 (prT at0 ts st i) (stT ts st i) x y
   have b := h2 (acX (stT ts st i) x y) (acY (stT ts st i) x y)
   have c := su (cn ts i).cn_nz (ts.getD i eI).cn_nz x y
   have d := pp (cn ts i).cn (tnX (ts.getD i eI).cn x y) (tnY (ts.getD i eI).cn x y) ((PT.at st i).x : Rat) ((PT.at st i).y : Rat)
   have e1 : acX (stT ts st i) x y = tnX (ts.getD i eI).cn x y + ((PT.at st i).x : Rat) := by show _ + (qzW _).v = _; rw [cF]; rfl
   have e2 : acY (stT ts st i) x y = tnY (ts.getD i eI).cn x y + ((PT.at st i).y : Rat) := by show _ + (qzW _).v = _; rw [cF]; rfl
   rw [e1, e2] at a b;rw [<- e1, <- e2] at a
   constructor
   ·show acX (cmV (prT at0 ts st i) (stT ts st i)) x y = tnX (thW (cn ts i) (ts.getD i eI)).cn x y + ((pXY ts st i).1 + tnX (cn ts i).cn ((PT.at st i).x : Rat) ((PT.at st i).y : Rat))
    rw [a.1, e1, e2, b.1, d.1, m7, c.1]; grind
   ·show acY (cmV (prT at0 ts st i) (stT ts st i)) x y = tnY (thW (cn ts i) (ts.getD i eI)).cn x y + ((pXY ts st i).2 + tnY (cn ts i).cn ((PT.at st i).x : Rat) ((PT.at st i).y : Rat))
    rw [a.2, e1, e2, b.2, d.2, m7, c.2]; grind
theorem tu (a b : TR) (ts : List RW) (st : List PT) (x y : Rat) : ∀ i, ∀ u v : Rat, acX (prT (cmV a b) ts st i) u v = acX a (acX (prT b ts st i) u v) (acY (prT b ts st i) u v) /\ acY (prT (cmV a b) ts st i) u v = acY a (acX (prT b ts st i) u v) (acY (prT b ts st i) u v)
 | 0, u, v => q7 a b u v
 | i + 1, u, v => by
  have h1 := q7 (prT (cmV a b) ts st i) (stT ts st i) u v
  have h2 := tu a b ts st x y i (acX (stT ts st i) u v) (acY (stT ts st i) u v)
  have h3 := q7 (prT b ts st i) (stT ts st i) u v
  show acX (cmV (prT (cmV a b) ts st i) (stT ts st i)) u v = acX a (acX (cmV (prT b ts st i) (stT ts st i)) u v) (acY (cmV (prT b ts st i) (stT ts st i)) u v) /\ acY (cmV (prT (cmV a b) ts st i) (stT ts st i)) u v = acY a (acX (cmV (prT b ts st i) (stT ts st i)) u v) (acY (cmV (prT b ts st i) (stT ts st i)) u v)
  rw [h1.1, h1.2, h2.1, h2.2, h3.1, h3.2];exact ⟨rfl, rfl⟩
theorem rM {ts : List RW} {st : List PT} (h : st.length <= 15) (hB : chB st 1 = true) (w : RW) (all : TR) {i : Nat} (hi : i < st.length + 1) :
  acX (prT at0 ts st i) 0 0 = rkX (chG ts st 1) i /\ acY (prT at0 ts st i) 0 0 = rkY (chG ts st 1) i /\
  acX (prT (cmV all at0) ts st i) 0 0 = acX all (rkX (chG ts st 1) i) (rkY (chG ts st 1) i) /\ acY (prT (cmV all at0) ts st i) 0 0 = acY all (rkX (chG ts st 1) i) (rkY (chG ts st 1) i) /\
  tnX w.cn (rkX (chG ts st 1) i) (rkY (chG ts st 1) i) = rkX (nG (fun i => thW w (cn ts i)) st) i /\ tnY w.cn (rkX (chG ts st 1) i) (rkY (chG ts st 1) i) = rkY (nG (fun i => thW w (cn ts i)) st) i := by
 rw [pi]
 have g1 := qQ (f := cn ts) h hB
 have g2 := qQ (f := fun i => thW w (cn ts i)) h hB
 have r1 := wx (P := pXY ts st) g1 rfl (fun i _ => ⟨rfl, rfl⟩) hi
 have r2 := wx (P := fun i => (tnX w.cn (pXY ts st i).1 (pXY ts st i).2, tnY w.cn (pXY ts st i).1 (pXY ts st i).2)) g2 (by show (tnX w.cn 0 0, tnY w.cn 0 0) = _; rw [(uV _).1, (uV _).2]) (fun i _ => by
  have c := su w.cn_nz (cn ts i).cn_nz ((PT.at st i).x : Rat) ((PT.at st i).y : Rat)
  have d := pp w.cn (pXY ts st i).1 (pXY ts st i).2 (tnX (cn ts i).cn ((PT.at st i).x : Rat) ((PT.at st i).y : Rat)) (tnY (cn ts i).cn ((PT.at st i).x : Rat) ((PT.at st i).y : Rat))
  rw [m7, c.1, c.2]
  exact d) hi
 obtain ⟨a1, a2⟩ := pJ ts st i
 have a3 := a2 0 0
 rw [(uV _).1, (uV _).2] at a3
 have m := tu all at0 ts st 0 0 i 0 0
 have e1 : acX (prT at0 ts st i) 0 0 = (pXY ts st i).1 := by rw [a3.1]; grind
 have e2 : acY (prT at0 ts st i) 0 0 = (pXY ts st i).2 := by rw [a3.2]; grind
 rw [e1, e2] at m;rw [r1.1, r1.2, r2.1, r2.2];exact ⟨e1, e2, m.1, m.2, rfl, rfl⟩
end Go.Proofs.YtnoildlijhapaaaDoor

/- Matrices and lists of small integers as arguments, with their lengths. No condition. -/
namespace Go.Proofs.YtnoildlijhapaaaDoor
open Go.RowKit

section
variable {P : Program} {T : Tab} {w : World} {t e : TypeId} {ti ei : TI}
end
def I8 (n : Int) : Prop := -128 <= n /\ n <= 127
def L8 (l : List Int) : Prop := (∀ x ∈ l, I8 x) /\ l.length <= 9223372036854775807
section
variable {w : World} {H : Type} {enc : TypeId × Value -> H} {sp : Nat -> Bool} {v : Value} {d : DataW H} {ps : List MemPlace} {base : Nat}
end
end Go.Proofs.YtnoildlijhapaaaDoor

/- Arrays of numbers as arguments. No condition. -/
namespace Go.Proofs.YtnoildlijhapaaaDoor
open Go.RowKit

section
variable {P : Program} {w : World} {t e : TypeId}
end
section
variable {w : World} {H : Type} {enc : TypeId × Value -> H} {sp : Nat -> Bool} {v : Value} {d : DataW H} {ps : List MemPlace} {base : Nat}

end
end Go.Proofs.YtnoildlijhapaaaDoor

/- Arguments of law30's and of the last ones. No condition. -/
namespace Go.Proofs.YtnoildlijhapaaaDoor
open Go.RowKit

section
variable {P : Program} {w : World} {t e : TypeId}
end
structure PL where
 at' : PT
 tn : Nat
def PL.dc (p : PL) : List DC := [lI p.at'.x, lI p.at'.y, .lit (.int .u8 p.tn)]
def PL.I (p : PL) : Prop := p.at'.I /\ p.tn < 256
section
variable {w : World} {H : Type} {enc : TypeId × Value -> H} {sp : Nat -> Bool} {v : Value} {d : DataW H} {ps : List MemPlace} {base : Nat}
end
end Go.Proofs.YtnoildlijhapaaaDoor

/- A graph as an argument, with the lengths of its lists. No condition. -/
namespace Go.Proofs.YtnoildlijhapaaaDoor
attribute [local irreducible] aw
open Go.ChangeShapes Go.WideShapes Go.ChangeAt Go.RowKit
section
variable {w : World} {H : Type} {enc : TypeId × Value -> H} {sp : Nat -> Bool} {v : Value} {d : DataW H} {ps : List MemPlace} {base : Nat}
set_option maxRecDepth 100000 in
theorem rU (hv : Value.okWide Tryd.prog w .any base 22 v) (hd : DataW.Trod enc Tryd.prog w 0 sp true 22 v d ps) : ∃ l : List RW, ((∀ r ∈ l, r.W) /\ l.length <= 9223372036854775807) /\ RelV w (fun _ => False) (fun _ => 0) v (V1 (dRs l)) := by
 obtain ⟨ti, e, a, b⟩ : ∃ ti e, tab.ty 22 = some ti /\ ti.und = .slice e := ⟨_, _, rfl, rfl⟩
 exact p7 tok a b vn hv hd _
end
end Go.Proofs.YtnoildlijhapaaaDoor

/- WholeChain. No condition. -/
namespace Go.Proofs.YtnoildlijhapaaaDoor
attribute [local irreducible] aw
open Go.RowKit

/-! ### awake -/
def gC4 : GR := chG [nk] [⟨10, 0⟩] 3
theorem bW1 : chV [nk] [⟨10, 0⟩] 3 = (gC4, 0) := by unfold chV; rw [if_pos (by decide), if_pos (by decide)]; rfl
theorem bW2 : pE gC4 = ([szW 0 0, szW 10 0], 0) := by decide +kernel
theorem vO {T : Tab} {t : TypeId} (a : ByteArray) : aE T .eql t (V1 (.lit (.string a))) (V1 (.lit (.string a))) = .set (dB true) := by
 show Eff.set (dB (a.toList == a.toList)) = _
 rw [beq_self_eq_true]
theorem oC {k : Nat} : nk.OK k := ⟨fun x hx => (List.not_mem_nil hx).elim, fun x hx => (List.not_mem_nil hx).elim, Nat.zero_le _, Nat.zero_le _⟩
set_option maxHeartbeats 1000000 in
theorem mP : Con Tryd.prog 4 [] { v := dB true } := by
 have cC := o5 [nk] [⟨10, 0⟩] 3 (fun r hr => by rw [List.mem_singleton.1 hr]; exact oC) (by decide)
 rw [bW1] at cC
 have ok : ∀ r ∈ gC4.nodes, r.OK 4096 := fun r hr => by
  obtain ⟨i, hi, rfl⟩ := List.mem_map.1 hr
  have hi := List.mem_range.1 hi
  exact (un (k := 1) (fun r hr => by rw [List.mem_singleton.1 hr]; exact oC) (by decide) i).mono (Nat.ble_eq_true_of_le (by simp at hi; omega))
 have cR := nX gC4 ok
 rw [bW2] at cR
 have t1 := vo (qzW 10) (bP (by decide +kernel)) (by rw [cF]; decide +kernel) (by rw [cF]; decide +kernel)
 rw [cF, show qtx (10 : Rat) = [49, 48] by decide +kernel] at t1
 have eS : [szW 0 0, szW 10 0] = [⟨qzW 0, qzW 0⟩, ⟨qzW 10, qzW 0⟩] := rfl
 rw [eS] at cR;generalize qzW (10 : Rat) = A at *;generalize qzW (0 : Rat) = Z at *;generalize gC4 = G at *;refine dK (fn := Tryd.f4) aM Tryd.func4 (by kernel_rfl) rfl ?_
 intro w0 X
 rw [aj _ _ [] rfl rfl];refine av aM fun _ F=>?_;refine Z8 ?_;refine eQ F ?_;clear F;refine av aM fun _ F=>?_;refine aI rfl rfl rfl ?_;refine bU rfl rfl rfl rfl ?_;refine aI rfl rfl rfl ?_;refine bU rfl rfl rfl rfl ?_;refine aa rfl rfl (cC) rfl rfl rfl rfl ?_;refine Z9 ?_;refine am rfl rfl rfl ?_;refine am rfl rfl rfl ?_;refine al rfl rfl rfl rfl rfl rfl ?_;refine ae rfl rfl rfl rfl rfl ?_;refine Z8 ?_;refine eQ F ?_;clear F;refine av aM fun _ F=>?_;refine Z7 ?_;refine aa rfl rfl (cR) rfl rfl rfl rfl ?_;refine Z9 ?_;refine am rfl rfl rfl ?_;refine am rfl rfl rfl ?_;refine Z8 ?_;refine Z8 ?_;refine eQ F ?_;clear F;refine av aM fun _ F=>?_;refine Z9 ?_;refine aq rfl (ug rfl) rfl ?_;refine Z9 ?_;refine Z9 ?_;refine aq rfl (ug rfl) rfl ?_;refine Z4 ?_;refine Z9 ?_;refine Z9 ?_;refine aA rfl (bT SP.dc rfl rfl) rfl ?_;refine aq rfl (ug rfl) rfl ?_;refine Z4 ?_;refine Z9 ?_;refine Z9 ?_;refine ab rfl (x_m SP.dc (i := 1) rfl rfl rfl rfl (by simp) rfl) rfl ?_;refine Z5 ?_;refine Z7 ?_;refine aa rfl rfl (t1) rfl rfl rfl rfl ?_;refine aq rfl (vO _) rfl ?_;refine Z4 ?_;refine Z8 ?_;refine eQ F ?_;clear F;exact ag aT
/-! ### Words -/
theorem uo {a b : TR} {k : Nat} (ha : a.OK k) (hb : b.OK 2) (hk : 1 <= k) : (cmV a b).OK (5 * k + 8) := by
 have h1 := ss (m := 4 * k + 7) ha.r hk (hb.x.ql rfl) (hb.y.ql rfl) (by omega)
 refine ⟨?_, ?_, ?_⟩
 ·show (thW a.r b.r).OK _
  exact pq ha.r hb.r hk (by decide) (by omega)
 ·exact bP (Nat.le_trans (cu h1.1 (ha.x.ql (Nat.ble_eq_true_of_le hk))) (by omega))
 ·exact bP (Nat.le_trans (cu h1.2 (ha.y.ql (Nat.ble_eq_true_of_le hk))) (by omega))
def bW5 : Nat -> Nat
 | 0 => 13
 | i + 1 => 5 * bW5 i + 8
theorem wH : ∀ i, 1 <= bW5 i
 | 0 => by decide
 | i + 1 => by have := wH i; simp only [bW5]; omega
theorem tp {a : TR} {ts : List RW} {st : List PT} (ha : a.OK 13) (hs : ∀ i, (stT ts st i).OK 2) : ∀ i, (prT a ts st i).OK (bW5 i)
 | 0 => ha
 | i + 1 => uo (tp ha hs i) (hs i) (wH i)
theorem kg {a : TR} {ts : List RW} {st : List PT} (ha : a.OK 13) (hs : ∀ i, (stT ts st i).OK 2) {i : Nat} (hi : i <= 6) : (prT a ts st i).OK 1048576 := by
 have h := tp ha hs i
 have : bW5 i <= 1048576 := by
  rcases i with _ | _ | _ | _ | _ | _ | _ | i <;> first | decide | omega
 exact h.mono (Nat.ble_eq_true_of_le this)

/-! ### The law -/
def gt (w : RW) : TR := ⟨w, qzW (Rat.divInt 7 2), qzW (Rat.divInt (-3) 1)⟩
set_option maxHeartbeats 4000000 in
theorem pR (ts : List RW) (st : List PT) (w : RW) (hts : ∀ r ∈ ts, r.W) (htl : ts.length <= 9223372036854775807) (hst : ∀ p ∈ st, p.I) (hw : w.W) : Con Tryd.prog 3 [V1 (dRs ts), V1 (dPs st), AG w.cs] { v := dB true } := by
 have cS1 := kA ts htl
 have cS2 := kA [w] (by simp)
 refine dK (fn := Tryd.f3) aM Tryd.func3 (by kernel_rfl) rfl ?_
 intro w0 X
 rw [aj _ _ [(0, V1 (dRs ts)), (1, V1 (dPs st)), (2, AG w.cs)] rfl rfl];refine av aM fun _ F=>?_;refine aC rfl rfl rfl rfl rfl rfl ?_;refine Z8 ?_;refine eQ F ?_;clear F;refine ah ?_;refine bI (α := Bool) (fun c => mk 268 [(0, V1 (dRs ts)), (1, V1 (dPs st)), (5, .ptr 5 0), (46, dB c)] [(5, some (.box w.cs))] []) (fun c => c = !(shN ts && (shN [w] && decide (st.length <= 6)))) ?_ ?_
 ·refine dp fun _ F=>?_;refine ac aM rfl ?_;refine aa rfl rfl (mP) rfl rfl rfl rfl ?_;refine ai ?_;refine ac aM rfl ?_;refine db rfl rfl rfl ?_;refine ai ?_;refine ac aM rfl ?_;refine Z9 ?_;refine ai ?_;refine b5 (fun h0 => ?_) (fun h0 => ?_)
  ·refine au rfl rfl ?_;refine au rfl rfl ?_;refine au rfl rfl ?_;refine ac aM rfl ?_;refine Z4 ?_;refine ai ?_;refine ac aM rfl ?_;refine Z9 ?_;refine ai ?_;refine au rfl rfl ?_;refine au rfl rfl ?_;refine au rfl rfl ?_;refine au rfl rfl ?_;refine ac aM rfl ?_;refine Z4 ?_;refine ai ?_;refine ac aM rfl ?_;refine Z9 ?_;refine ai ?_;refine au rfl rfl ?_;refine au rfl rfl ?_;refine au rfl rfl ?_;refine ac aM rfl ?_;refine Z4 ?_;refine ai ?_;refine bK rfl (F _ ?_); clear F
   first|(exact absurd h0 (by decide))|exact ⟨_, (by simp only [decide_eq_true_eq, decide_eq_false_iff_not, Bool.not_eq_true', Bool.not_eq_false'] at h0; rw [Bool.eq_iff_iff]; simp only [h0, decide_eq_true_eq, Bool.not_eq_true', Bool.and_eq_false_iff, decide_eq_false_iff_not, reduceCtorEq, false_or, true_or, or_true, false_iff, true_iff, iff_true] <;> omega), Wk.mk' ⟨rfl, rfl, rfl, rfl, trivial⟩ ⟨rfl, trivial⟩⟩
  ·refine ac aM rfl ?_;refine Z9 ?_;refine ai ?_;refine ac aM rfl ?_;refine aa rfl rfl (cS1) rfl rfl rfl rfl ?_;refine ai ?_;refine ac aM rfl ?_;refine db rfl rfl rfl ?_;refine ai ?_;refine ac aM rfl ?_;refine Z4 ?_;refine ai ?_;refine ac aM rfl ?_;refine Z9 ?_;refine ai ?_;refine b5 (fun h1 => ?_) (fun h1 => ?_)
   ·refine au rfl rfl ?_;refine au rfl rfl ?_;refine au rfl rfl ?_;refine au rfl rfl ?_;refine ac aM rfl ?_;refine Z4 ?_;refine ai ?_;refine ac aM rfl ?_;refine Z9 ?_;refine ai ?_;refine au rfl rfl ?_;refine au rfl rfl ?_;refine au rfl rfl ?_;refine ac aM rfl ?_;refine Z4 ?_;refine ai ?_;refine bK rfl (F _ ?_); clear F
    first|(exact absurd h0 (by decide))|exact ⟨_, (by simp only [decide_eq_true_eq, decide_eq_false_iff_not, Bool.not_eq_true', Bool.not_eq_false'] at h0 h1; rw [Bool.eq_iff_iff]; simp only [h0, h1, decide_eq_true_eq, Bool.not_eq_true', Bool.and_eq_false_iff, decide_eq_false_iff_not, reduceCtorEq, false_or, true_or, or_true, false_iff, true_iff, iff_true] <;> omega), Wk.mk' ⟨rfl, rfl, rfl, rfl, trivial⟩ ⟨rfl, trivial⟩⟩
   ·refine ac aM rfl ?_;refine Z7 ?_;refine ai ?_;refine ac aM rfl ?_;refine bU rfl rfl rfl rfl ?_;refine ai ?_;refine ac aM rfl ?_;refine aa rfl rfl (cS2) rfl rfl rfl rfl ?_;refine ai ?_;refine ac aM rfl ?_;refine db rfl rfl rfl ?_;refine ai ?_;refine ac aM rfl ?_;refine Z4 ?_;refine ai ?_;refine ac aM rfl ?_;refine Z9 ?_;refine ai ?_;refine b5 (fun h2 => ?_) (fun h2 => ?_)
    ·refine au rfl rfl ?_;refine au rfl rfl ?_;refine au rfl rfl ?_;refine ac aM rfl ?_;refine Z4 ?_;refine ai ?_;refine bK rfl (F _ ?_); clear F
     first|(exact absurd h0 (by decide))|exact ⟨_, (by simp only [decide_eq_true_eq, decide_eq_false_iff_not, Bool.not_eq_true', Bool.not_eq_false'] at h0 h1 h2; rw [Bool.eq_iff_iff]; simp only [h0, h1, h2, decide_eq_true_eq, Bool.not_eq_true', Bool.and_eq_false_iff, decide_eq_false_iff_not, reduceCtorEq, false_or, true_or, or_true, false_iff, true_iff, iff_true] <;> omega), Wk.mk' ⟨rfl, rfl, rfl, rfl, trivial⟩ ⟨rfl, trivial⟩⟩
    ·refine ac aM rfl ?_;refine Z9 ?_;refine ai ?_;refine ac aM rfl ?_;refine aA rfl (bT PT.dc rfl rfl) rfl ?_;refine ai ?_;refine ac aM rfl ?_;refine aq rfl (uf (c := decide (6 < st.length)) (by rw [Bool.eq_iff_iff, decide_eq_true_eq, decide_eq_true_eq]; omega)) rfl ?_;refine ai ?_;refine ac aM rfl ?_;refine Z4 ?_;refine ai ?_;refine bK rfl (F _ ?_); clear F
     first|(exact absurd h0 (by decide))|exact ⟨_, (by simp only [decide_eq_true_eq, decide_eq_false_iff_not, Bool.not_eq_true', Bool.not_eq_false'] at h0 h1 h2; rw [Bool.eq_iff_iff]; simp only [h0, h1, h2, decide_eq_true_eq, Bool.not_eq_true', Bool.and_eq_false_iff, decide_eq_false_iff_not, reduceCtorEq, false_or, true_or, or_true, false_iff, true_iff, iff_true] <;> omega), Wk.mk' ⟨rfl, rfl, rfl, rfl, trivial⟩ ⟨rfl, trivial⟩⟩
 rintro c rfl
 refine ap rfl (fun hc => ?_) (fun hc => ?_)
 ·refine gQ fun _ F=>?_;refine aa rfl rfl (mP) rfl rfl rfl rfl ?_;refine Z8 ?_;refine eQ F ?_;clear F;exact ag aT
 rw [Bool.not_eq_false', Bool.and_eq_true, Bool.and_eq_true] at hc
 obtain ⟨h1, h2, h3⟩ := hc
 have hs6 := of_decide_eq_true h3
 obtain ⟨okT, ht6⟩ := sI hts h1
 have okW : w.OK 1 := (sI (l := [w]) (fun r hr => by rw [List.mem_singleton.1 hr]; exact hw) h2).1 w List.mem_cons_self
 have cC := o5 ts st 1 (fun r hr => (okT r hr).mono rfl) (by omega)
 refine ak ?_;show AWP _ _ _ _ _ _
 by_cases hb : chA ts st = true /\ chB st 1 = true
 ·obtain ⟨hA, hB⟩ := hb
  have hl := (of_decide_eq_true hA).1
  rw [chV, if_pos hA, if_pos hB] at cC
  have gv := qQ (f := cn ts) (st := st) (by omega) hB
  have gv2 := qQ (f := fun i => thW w (cn ts i)) (st := st) (by omega) hB
  have a1 : alP (chG ts st 1) = true := by rw [pi, qe gv]; exact tE gv
  have a2 : alP (nG (fun i => thW w (cn ts i)) st) = true := by rw [qe gv2]; exact tE gv2
  have v1 : cM (chG ts st 1) = true := by rw [pi]; exact dO.2 gv
  have v2 : cM (nG (fun i => thW w (cn ts i)) st) = true := dO.2 gv2
  have ocn : ∀ i, i < st.length + 1 -> (cn ts i).OK 13 := fun i hi => (un (k := 1) okT (by decide) i).mono (Nat.ble_eq_true_of_le (by omega))
  have otw : ∀ i, i < st.length + 1 -> (thW w (cn ts i)).OK 15 := fun i hi => pq okW (ocn i hi) (by decide) (by decide) (by decide)
  have ok1 : ∀ r ∈ (chG ts st 1).nodes, r.OK 13 := fun r hr => by
   obtain ⟨i, hi, rfl⟩ := List.mem_map.1 hr
   exact ocn i (List.mem_range.1 hi)
  have ok2 : ∀ r ∈ (nG (fun i => thW w (cn ts i)) st).nodes, r.OK 15 := fun r hr => by
   obtain ⟨i, hi, rfl⟩ := List.mem_map.1 hr
   exact otw i (List.mem_range.1 hi)
  have cR := nX (chG ts st 1) (fun r hr => (ok1 r hr).mono rfl)
  have cR2 := nX (nG (fun i => thW w (cn ts i)) st) (fun r hr => (ok2 r hr).mono rfl)
  rw [pE, if_pos v1, if_pos a1] at cR;rw [pE, if_pos v2, if_pos a2] at cR2
  have os1 : ∀ p ∈ rkL (chG ts st 1), p.OK 901 := fun p hp => (sR (by rw [pi]; exact gv) ok1 rfl p hp).mono rfl
  have os2 : ∀ p ∈ rkL (nG (fun i => thW w (cn ts i)) st), p.OK 1021 := fun p hp => (sR gv2 ok2 rfl p hp).mono rfl
  have ls1 : (rkL (chG ts st 1)).length = st.length + 1 := by rw [dR, pi]; exact kX
  have ls2 : (rkL (nG (fun i => thW w (cn ts i)) st)).length = st.length + 1 := by rw [dR]; exact kX
  have ge1 : ∀ i (h : i < (rkL (chG ts st 1)).length), (rkL (chG ts st 1))[i]'h = szW (rkX (chG ts st 1) i) (rkY (chG ts st 1) i) := fun i h => by
   have := sS (g := chG ts st 1) (v := i) (by rw [dR] at h; exact h)
   rw [List.getD_eq_getElem?_getD, List.getElem?_eq_getElem h] at this; exact this
  have ge2 : ∀ i (h : i < (rkL (nG (fun i => thW w (cn ts i)) st)).length), (rkL (nG (fun i => thW w (cn ts i)) st))[i]'h = szW (rkX (nG (fun i => thW w (cn ts i)) st) i) (rkY (nG (fun i => thW w (cn ts i)) st) i) := fun i h => by
   have := sS (g := nG (fun i => thW w (cn ts i)) st) (v := i) (by rw [dR] at h; exact h)
   rw [List.getD_eq_getElem?_getD, List.getElem?_eq_getElem h] at this; exact this
  have law := fun i hi => rM (ts := ts) (st := st) (by omega) hB w (gt w) (i := i) hi
  have hpr := fun i => (pJ ts st i).1
  have oStp : ∀ i, (stT ts st i).OK 2 := fun i => by
   have hp : (PT.at st i).I := by
    unfold PT.at
    rw [List.getD_eq_getElem?_getD]
    rcases Nat.lt_or_ge i st.length with h | h
    ·rw [List.getElem?_eq_getElem h]; exact hst _ (List.getElem_mem h)
    ·rw [List.getElem?_eq_none h]; exact ⟨⟨by decide, by decide⟩, ⟨by decide, by decide⟩⟩
   exact ⟨(qT okT (by decide) i).mono rfl, bP (jj hp.1), bP (jj hp.2)⟩
  have oZ : (qzW 0).OK 1 := bP (by decide +kernel)
  have oA0 : at0.OK 13 := ⟨tl (by decide +kernel), bP (by decide +kernel), bP (by decide +kernel)⟩
  have oA02 : at0.OK 2 := ⟨tl (by decide +kernel), bP (by decide +kernel), bP (by decide +kernel)⟩
  have oAl : (gt w).OK 1 := ⟨okW, bP (by decide +kernel), bP (by decide +kernel)⟩
  have oMv : (cmV (gt w) at0).OK 13 := uo oAl oA02 (by decide)
  have cz : Con Tryd.prog 8 [dI 0, dI 1] { v := AG (qzW 0).cs } := ms 0 1 ⟨by decide, by decide⟩ ⟨by decide, by decide⟩
  have c72 : Con Tryd.prog 8 [dI 7, dI 2] { v := AG (qzW (Rat.divInt 7 2)).cs } := ms 7 2 ⟨by decide, by decide⟩ ⟨by decide, by decide⟩
  have c31 : Con Tryd.prog 8 [dI (-3), dI 1] { v := AG (qzW (Rat.divInt (-3) 1)).cs } := ms (-3) 1 ⟨by decide, by decide⟩ ⟨by decide, by decide⟩
  have cSh : Con Tryd.prog 9 [AG (qzW 0).cs, AG (qzW 0).cs] { v := AG at0.cs } := by
   have := sv (qzW 0) (qzW 0) (oZ.mono rfl) (oZ.mono rfl)
   exact this
  have cCm := iq (gt w) at0 (oAl.mono rfl) (oA0.mono rfl)
  have cTh := fun i hi => qq w (cn ts i) (okW.mono rfl) ((ocn i hi).mono rfl)
  have eN : (chG ts st 1).nodes.length = st.length + 1 := by simp [chG]
  have eNi : ∀ i (h : i < (chG ts st 1).nodes.length), (chG ts st 1).nodes[i]'h = cn ts i := fun i h => by simp [chG]
  have eCs : (nG (fun i => thW w (cn ts i)) st).cs = [.d (dRs ((List.range (st.length + 1)).map fun i => thW w (cn ts i))), .d (dLs (chG ts st 1).links)] := rfl
  rw [eCs] at cR2
  have eG : (chG ts st 1).cs = [.d (dRs (chG ts st 1).nodes), .d (dLs (chG ts st 1).links)] := rfl
  -- what one round compares
  have rd : ∀ i (h1 : i < (rkL (chG ts st 1)).length) (h2 : i < (rkL (nG (fun i => thW w (cn ts i)) st)).length), ∃ u v a b c d : RW,
    Con Tryd.prog 12 [AG (prT at0 ts st i).cs, AG (qzW 0).cs, AG (qzW 0).cs] { v := .tup [.agg u.cs, .agg v.cs] } /\
    Con Tryd.prog 12 [AG (prT (cmV (gt w) at0) ts st i).cs, AG (qzW 0).cs, AG (qzW 0).cs] { v := .tup [.agg a.cs, .agg b.cs] } /\
    Con Tryd.prog 12 [AG (gt w).cs, AG ((rkL (chG ts st 1))[i]'h1).x.cs, AG ((rkL (chG ts st 1))[i]'h1).y.cs] { v := .tup [.agg a.cs, .agg b.cs] } /\
    Con Tryd.prog 13 [AG w.cs, AG ((rkL (chG ts st 1))[i]'h1).x.cs, AG ((rkL (chG ts st 1))[i]'h1).y.cs] { v := .tup [.agg c.cs, .agg d.cs] } /\
    Con Tryd.prog 14 [AG u.cs, AG ((rkL (chG ts st 1))[i]'h1).x.cs] { v := dB true } /\
    Con Tryd.prog 14 [AG v.cs, AG ((rkL (chG ts st 1))[i]'h1).y.cs] { v := dB true } /\
    Con Tryd.prog 14 [AG a.cs, AG a.cs] { v := dB true } /\
    Con Tryd.prog 14 [AG b.cs, AG b.cs] { v := dB true } /\
    Con Tryd.prog 14 [AG c.cs, AG ((rkL (nG (fun i => thW w (cn ts i)) st))[i]'h2).x.cs] { v := dB true } /\
    Con Tryd.prog 14 [AG d.cs, AG ((rkL (nG (fun i => thW w (cn ts i)) st))[i]'h2).y.cs] { v := dB true } := fun i h1 h2 => by
   have hi : i < st.length + 1 := by omega
   obtain ⟨l1, l2, l3, l4, l5, l6⟩ := law i hi
   have q1 := m9 (prT at0 ts st i) (qzW 0) (qzW 0) (kg oA0 oStp (by omega)) (oZ.mono rfl) (oZ.mono rfl)
   have q2 := m9 (prT (cmV (gt w) at0) ts st i) (qzW 0) (qzW 0) (kg oMv oStp (by omega)) (oZ.mono rfl) (oZ.mono rfl)
   have o1x := (os1 _ (List.getElem_mem h1)).x
   have o1y := (os1 _ (List.getElem_mem h1)).y
   have o2x := (os2 _ (List.getElem_mem h2)).x
   have o2y := (os2 _ (List.getElem_mem h2)).y
   have ex : ((rkL (chG ts st 1))[i]'h1).x = qzW (rkX (chG ts st 1) i) := by rw [ge1 i h1]; rfl
   have ey : ((rkL (chG ts st 1))[i]'h1).y = qzW (rkY (chG ts st 1) i) := by rw [ge1 i h1]; rfl
   have ex2 : ((rkL (nG (fun i => thW w (cn ts i)) st))[i]'h2).x = qzW (rkX (nG (fun i => thW w (cn ts i)) st) i) := by rw [ge2 i h2]; rfl
   have ey2 : ((rkL (nG (fun i => thW w (cn ts i)) st))[i]'h2).y = qzW (rkY (nG (fun i => thW w (cn ts i)) st) i) := by rw [ge2 i h2]; rfl
   rw [ex] at o1x;rw [ey] at o1y;rw [ex2] at o2x;rw [ey2] at o2y
   have q3 := m9 (gt w) (qzW (rkX (chG ts st 1) i)) (qzW (rkY (chG ts st 1) i)) (oAl.mono rfl) (o1x.mono rfl) (o1y.mono rfl)
   have q4 := qo w (qzW (rkX (chG ts st 1) i)) (qzW (rkY (chG ts st 1) i)) (okW.mono rfl) (o1x.mono rfl) (o1y.mono rfl)
   have qx := o1x.ql rfl
   have qy := o1y.ql rfl
   rw [cF] at qx qy;rw [cF, l1, l2] at q1;rw [cF, l3, l4] at q2;rw [cF, cF] at q3;rw [cF, cF, l5, l6] at q4
   have oa := ss (m := 1809) oAl.r (by decide) qx qy (by decide)
   have oA : (qzW (acX (gt w) (rkX (chG ts st 1) i) (rkY (chG ts st 1) i))).OK 1811 := bP (cu oa.1 (oAl.x.ql rfl))
   have oB : (qzW (acY (gt w) (rkX (chG ts st 1) i) (rkY (chG ts st 1) i))).OK 1811 := bP (cu oa.2 (oAl.y.ql rfl))
   rw [ex, ey, ex2, ey2];exact ⟨_, _, _, _, _, _, q1, q2, q3, q4, cO _ o1x rfl, cO _ o1y rfl, cO _ oA rfl, cO _ oB rfl, cO _ o2x rfl, cO _ o2y rfl⟩
  have oP0 := fun i (hi : i <= 6) => kg (ts := ts) (st := st) oA0 oStp hi
  have oPM := fun i (hi : i <= 6) => kg (ts := ts) (st := st) oMv oStp hi
  clear law ge1 ge2 os1 os2 a1 a2 v1 v2 gv gv2 ok1 ok2;generalize rkL (chG ts st 1) = S1 at *;generalize rkL (nG (fun i => thW w (cn ts i)) st) = S2 at *;refine gQ fun _ F=>?_;refine Z9 ?_;refine Z9 ?_;refine aa rfl rfl (cC) rfl rfl rfl rfl ?_;refine Z9 ?_;refine am rfl rfl rfl ?_;refine am rfl rfl rfl ?_;refine al rfl rfl rfl rfl rfl rfl ?_;refine ae rfl rfl rfl rfl rfl ?_;refine Z8 ?_;refine eQ F ?_;clear F;refine ah ?_;refine gQ fun _ F=>?_;refine Z9 ?_;refine aq rfl (lL (c := false) rfl) rfl ?_;refine eQ F ?_;clear F;refine ap rfl (fun h => by cases h) (fun _ => ?_);refine ak ?_;show AWP _ _ _ _ _ _;refine gQ fun _ F=>?_;refine Z7 ?_;refine aa rfl rfl (cR) rfl rfl rfl rfl ?_;refine Z9 ?_;refine am rfl rfl rfl ?_;refine am rfl rfl rfl ?_;refine Z8 ?_;refine Z8 ?_;refine eQ F ?_;clear F;refine ah ?_;refine gQ fun _ F=>?_;refine Z9 ?_;refine aq rfl (lL (c := false) rfl) rfl ?_;refine Z9 ?_;refine Z9 ?_;refine aA rfl (bT SP.dc rfl rfl) rfl ?_;refine Z9 ?_;refine aA rfl (bT PT.dc rfl rfl) rfl ?_;refine aq rfl (aY (c := ((st.length + 1 : Nat) : Int)) (by omega) (by omega)) rfl ?_;refine aq rfl (lL (c := false) (by rw [ls1]; simp)) rfl ?_;refine Z4 ?_;refine Z9 ?_;refine Z5 ?_;refine Z7 ?_;refine aA rfl (bT RW.dc rfl rfl) rfl ?_;refine Z9 ?_;refine aA rfl (bT SP.dc rfl rfl) rfl ?_;refine aq rfl (lL (c := false) (by rw [ls1, eN]; simp)) rfl ?_;refine Z4 ?_;refine eQ F ?_;clear F;refine ap rfl (fun h => by cases h) (fun _ => ?_);refine ak ?_;show AWP _ _ _ _ _ _;refine gQ fun _ F=>?_;refine aa rfl rfl (cz) rfl rfl rfl rfl ?_;refine al rfl rfl rfl rfl rfl rfl ?_;refine ae rfl rfl rfl rfl rfl ?_;refine eQ F ?_;clear F;refine gQ fun _ F=>?_;refine Z7 ?_;refine Z7 ?_;refine aa rfl rfl (cSh) rfl rfl rfl rfl ?_;refine al rfl rfl rfl rfl rfl rfl ?_;refine ae rfl rfl rfl rfl rfl ?_;refine eQ F ?_;clear F;refine aD tok mixed (A := [[], [], [], [], [], []]) (an := [{}, {}, {}, {}, { c := [88, 89] }, {}]) rfl (by kernel_rfl) rfl fun _ F=>?_;refine Z7 ?_;refine aa rfl rfl (c72) rfl rfl rfl rfl ?_;refine aa rfl rfl (c31) rfl rfl rfl rfl ?_;refine aI rfl rfl rfl ?_;refine al rfl rfl rfl rfl rfl rfl ?_;refine ae rfl rfl rfl rfl rfl ?_;refine eQ F ?_;clear F;refine gQ fun _ F=>?_;refine Z7 ?_;refine Z7 ?_;refine aa rfl rfl (cCm) rfl rfl rfl rfl ?_;refine al rfl rfl rfl rfl rfl rfl ?_;refine ae rfl rfl rfl rfl rfl ?_;refine eQ F ?_;clear F;refine gQ fun _ F=>?_;refine Z5 ?_;refine Z7 ?_;refine aI rfl rfl rfl ?_;refine al rfl rfl rfl rfl rfl rfl ?_;refine ae rfl rfl rfl rfl rfl ?_;refine eQ F ?_;clear F;refine ah ?_;refine gQ fun _ F=>?_;refine Z8 ?_;refine eQ F ?_;clear F;refine ar (bm (α := Nat) (fun i => mk 268 [(0, V1 (dRs ts)), (1, V1 (dPs st)), (5, .ptr 5 0), (7, .ptr 7 0), (9, V1 (dSs S1)), (11, .ptr 11 0), (12, .ptr 12 0), (13, .ptr 13 0), (14, .ptr 14 0), (15, .ptr 15 0), (16, dI i)] [(5, some (.box w.cs)), (7, some (.box (chG ts st 1).cs)), (11, some (.box (qzW 0).cs)), (12, some (.box at0.cs)), (13, some (.box (gt w).cs)), (14, some (.box (cmV (gt w) at0).cs)), (15, some (.box [vt 200 4 i, .d (dLs (chG ts st 1).links)])), (200, rS 4 ((List.range i).map fun j => (thW w (cn ts j)).dc) i)] [15]) (fun i => i <= st.length + 1) (fun i => st.length + 1 - i) 0 ?_ (Nat.zero_le _) ?_)
  ·exact Wk.trans (Wk.rbE rfl) (Wk.mk' ⟨rfl, rfl, rfl, rfl, rfl, rfl, rfl, rfl, rfl, rfl, rfl, trivial⟩ ⟨rfl, rfl, rfl, rfl, rfl, rfl, rfl, rfl, trivial⟩)
  intro i hi
  refine ah ?_;refine gQ fun _ F=>?_;refine Z9 ?_;refine Z5 ?_;refine Z7 ?_;refine aA rfl (bT RW.dc rfl rfl) rfl ?_;refine Z6 ?_;refine eQ F ?_;clear F;refine ap rfl (fun hg => ?_) (fun hg => ?_)
  ·have hg : i < st.length + 1 := by rw [eN] at hg; simp at hg; omega
   have hgn : i < (chG ts st 1).nodes.length := by omega
   have cT := cTh i hg
   rw [<- eNi i hgn] at cT
   have n1 : ((List.range i).map fun j => (thW w (cn ts j)).dc) ++ [(thW w (chG ts st 1).nodes[i]).dc] = (List.range (i + 1)).map fun j => (thW w (cn ts j)).dc := by
    rw [eNi i hgn, List.range_succ, List.map_append]; rfl
   have z1 : ((List.range i).map fun j => (thW w (cn ts j)).dc).length = i := by simp
   generalize ((List.range i).map fun j => (thW w (cn ts j)).dc) = es at n1 z1 ⊢;generalize thW w (chG ts st 1).nodes[i] = nw at cT n1;refine ak ?_;show AWP _ _ _ _ _ _;refine ah ?_;refine ar ?_
   rcases i with _ | i
   ·refine ec tok mixed (A := [[], [], [], [], [], [], [3], [3, 4, 5], [3, 4, 5, 6], [2, 3, 4, 5, 6, 7], [0, 2, 3, 4, 5, 6, 7], [], []]) (an := [{}, {}, {}, {}, {}, {}, {}, {}, {}, {}, {}, {}, {}]) rfl (by kernel_rfl) rfl fun _ F=>?_;refine Z5 ?_;refine Z7 ?_;refine Z7 ?_;refine Z5 ?_;refine Z7 ?_;refine Z9 ?_;refine ab rfl (x_m RW.dc rfl rfl rfl rfl hgn rfl) rfl ?_;refine Z7 ?_;refine aa rfl rfl (cT) rfl rfl rfl rfl ?_;refine aO rfl rfl rfl rfl ?_;refine bM rfl (n4 rfl rfl rfl rfl rfl (by decide) (Nat.le_of_ble_eq_true rfl) rfl (by simp) rfl (by simp) (by simp)) rfl rfl rfl ?_;refine Z5 ?_;refine de rfl rfl rfl rfl rfl ?_;refine eQ F ?_;clear F;show AWP _ _ _ _ _ _;refine gR fun _ F=>?_;refine Z9 ?_;refine aq rfl (aY (c := ((0 + 1 : Nat) : Int)) (by omega) (by omega)) rfl ?_;refine Z8 ?_;refine eQ F ?_;clear F;refine ⟨0 + 1, by omega, hg, Wk.rnB [0, 1, 5, 7, 9, 11, 12, 13, 14, 15, 16] [5, 7, 11, 12, 13, 14, 15, 114] 114 200 rfl rfl rfl ⟨rfl, rfl, rfl, rfl, rfl, rfl, rfl, rfl, rfl, rfl, rfl, trivial⟩ ⟨rfl, rfl, rfl, rfl, rfl, rfl, ?_, ?_, trivial⟩ rfl⟩
    ·first
      | rfl
      | (show some (OO.box [.own 200 4 0 _, _]) = _
         rw [List.length_append, z1]; rfl)
    ·first
      | (rw [<- n1, List.length_eq_zero_iff.1 z1]; rfl)
      | (rw [<- n1]; rfl)
   ·refine ec tok mixed (A := [[], [], [], [], [], [], [3], [3, 4, 5], [3, 4, 5, 6], [2, 3, 4, 5, 6, 7], [0, 2, 3, 4, 5, 6, 7], [], []]) (an := [{}, {}, {}, {}, {}, {}, {}, {}, {}, {}, {}, {}, {}]) rfl (by kernel_rfl) rfl fun _ F=>?_;refine Z5 ?_;refine Z7 ?_;refine Z7 ?_;refine Z5 ?_;refine Z7 ?_;refine Z9 ?_;refine ab rfl (x_m RW.dc rfl rfl rfl rfl hgn rfl) rfl ?_;refine Z7 ?_;refine aa rfl rfl (cT) rfl rfl rfl rfl ?_;refine aO rfl rfl rfl rfl ?_;refine bM rfl (nZ rfl rfl rfl rfl rfl rfl (by decide) (Nat.le_of_ble_eq_true rfl) rfl (by simp) rfl rfl z1.symm (by simp <;> omega)) rfl rfl rfl ?_;refine Z5 ?_;refine de rfl rfl rfl rfl rfl ?_;refine eQ F ?_;clear F;show AWP _ _ _ _ _ _;refine gR fun _ F=>?_;refine Z9 ?_;refine aq rfl (aY (c := ((i + 1 + 1 : Nat) : Int)) (by omega) (by omega)) rfl ?_;refine Z8 ?_;refine eQ F ?_;clear F;refine ⟨i + 1 + 1, by omega, hg, Wk.rnB [0, 1, 5, 7, 9, 11, 12, 13, 14, 15, 16] [5, 7, 11, 12, 13, 14, 15, 114] 114 200 rfl rfl rfl ⟨rfl, rfl, rfl, rfl, rfl, rfl, rfl, rfl, rfl, rfl, rfl, trivial⟩ ⟨rfl, rfl, rfl, rfl, rfl, rfl, ?_, ?_, trivial⟩ rfl⟩
    ·first
      | rfl
      | (show some (OO.box [.own 200 4 0 _, _]) = _
         rw [List.length_append, z1]; rfl)
    ·first
      | (rw [<- n1, List.length_eq_zero_iff.1 z1]; rfl)
      | (rw [<- n1]; rfl)
  have hg : i = st.length + 1 := by rw [eN] at hg; simp at hg; omega
  subst hg
  refine aF ?_;show AWP _ _ _ _ _ _;refine iE [0, 1, 5, 7, 9, 11, 12, 13, 14, 15] [5, 7, 11, 12, 13, 14, 15, 200] 200 [(0, V1 (dRs ts)), (1, V1 (dPs st)), (5, .ptr 5 0), (7, .ptr 7 0), (9, V1 (dSs S1)), (11, .ptr 11 0), (12, .ptr 12 0), (13, .ptr 13 0), (14, .ptr 14 0), (15, .ptr 15 0)] [(5, some (.box w.cs)), (7, some (.box (chG ts st 1).cs)), (11, some (.box (qzW 0).cs)), (12, some (.box at0.cs)), (13, some (.box (gt w).cs)), (14, some (.box (cmV (gt w) at0).cs)), (15, some (.box [.d (dRs ((List.range (st.length + 1)).map fun i => thW w (cn ts i))), .d (dLs (chG ts st 1).links)]))] rfl ⟨rfl, rfl, rfl, rfl, rfl, rfl, rfl, rfl, rfl, rfl, trivial⟩ ⟨rfl, rfl, rfl, rfl, rfl, rfl, (by show some (OO.box [gN 200 4 _ (.own 200 4 0 _), .d (dLs _)]) = _; rw [iW rfl (by simp)]; show some (OO.box [.d (.sl _), _]) = some (OO.box [.d (.sl (List.map _ (List.map _ _))), _]); rw [List.map_map]; rfl), trivial⟩ ?_;refine gQ fun _ F=>?_;refine Z7 ?_;refine aa rfl rfl (cR2) rfl rfl rfl rfl ?_;refine Z9 ?_;refine am rfl rfl rfl ?_;refine am rfl rfl rfl ?_;refine Z8 ?_;refine Z8 ?_;refine eQ F ?_;clear F;refine ah ?_;refine gQ fun _ F=>?_;refine Z9 ?_;refine aq rfl (lL (c := false) rfl) rfl ?_;refine Z9 ?_;refine Z9 ?_;refine aA rfl (bT SP.dc rfl rfl) rfl ?_;refine Z9 ?_;refine aA rfl (bT SP.dc rfl rfl) rfl ?_;refine aq rfl (lL (c := false) (by rw [ls1, ls2]; simp)) rfl ?_;refine Z4 ?_;refine eQ F ?_;clear F;refine ap rfl (fun h => by cases h) (fun _ => ?_);refine ak ?_;show AWP _ _ _ _ _ _;refine ah ?_;refine gQ fun _ F=>?_;refine Z8 ?_;refine eQ F ?_;clear F;refine ar (bm (α := Nat) (fun i => mk 268 [(0, V1 (dRs ts)), (1, V1 (dPs st)), (5, .ptr 5 0), (7, .ptr 7 0), (9, V1 (dSs S1)), (11, .ptr 11 0), (12, .ptr 12 0), (13, .ptr 13 0), (14, .ptr 14 0), (17, V1 (dSs S2)), (19, dI i)] [(5, some (.box w.cs)), (7, some (.box (chG ts st 1).cs)), (11, some (.box (qzW 0).cs)), (12, some (.box (prT at0 ts st (min i st.length)).cs)), (13, some (.box (gt w).cs)), (14, some (.box (prT (cmV (gt w) at0) ts st (min i st.length)).cs))] [15]) (fun i => i <= st.length + 1) (fun i => st.length + 1 - i) 0 ?_ (Nat.zero_le _) ?_)
  ·rw [Nat.zero_min];exact Wk.mk' ⟨rfl, rfl, rfl, rfl, rfl, rfl, rfl, rfl, rfl, rfl, rfl, trivial⟩ ⟨rfl, rfl, rfl, rfl, rfl, rfl, trivial⟩
  intro i hi
  refine ah ?_;refine gQ fun _ F=>?_;refine Z9 ?_;refine Z9 ?_;refine aA rfl (bT SP.dc rfl rfl) rfl ?_;refine Z6 ?_;refine eQ F ?_;clear F;refine ap rfl (fun hg => ?_) (fun hg => ?_)
  ·have hg : i < S1.length := by simp at hg; omega
   have hg2 : i < S2.length := by omega
   have hgn : i < (chG ts st 1).nodes.length := by omega
   have him : min i st.length = i := by omega
   obtain ⟨u, v, a, b, c, d, q1, q2, q3, q4, k1, k2, k3, k4, k5, k6⟩ := rd i hg hg2
   have cSm := uZ (prT at0 ts st i).r (chG ts st 1).nodes[i] ((oP0 i (by omega)).r.mono rfl) (by rw [eNi i hgn]; exact (ocn i (by omega)).mono rfl)
   rw [decide_eq_true (by rw [eNi i hgn]; exact hpr i)] at cSm;rw [him];refine ak ?_;show AWP _ _ _ _ _ _;refine ah ?_;refine ar ?_;refine gQ fun _ F=>?_;refine Z7 ?_;refine Z7 ?_;refine Z7 ?_;refine aa rfl rfl (q1) rfl rfl rfl rfl ?_;refine Z9 ?_;refine am rfl rfl rfl ?_;refine am rfl rfl rfl ?_;refine al rfl rfl rfl rfl rfl rfl ?_;refine al rfl rfl rfl rfl rfl rfl ?_;refine ae rfl rfl rfl rfl rfl ?_;refine ae rfl rfl rfl rfl rfl ?_;refine eQ F ?_;clear F;refine gQ fun _ F=>?_;refine Z7 ?_;refine Z7 ?_;refine Z7 ?_;refine aa rfl rfl (q2) rfl rfl rfl rfl ?_;refine Z9 ?_;refine am rfl rfl rfl ?_;refine am rfl rfl rfl ?_;refine al rfl rfl rfl rfl rfl rfl ?_;refine al rfl rfl rfl rfl rfl rfl ?_;refine ae rfl rfl rfl rfl rfl ?_;refine ae rfl rfl rfl rfl rfl ?_;refine eQ F ?_;clear F;refine aD tok mixed (A := [[], [], [], [], [1, 2], [1, 2, 3], [], [], [], [6, 7], [6, 7, 8], [1, 2, 3, 4, 6, 7, 8, 9], [0, 1, 2, 3, 4, 5, 6, 7, 8, 9, 10], [0, 1, 2, 3, 4, 5, 6, 7, 8, 9, 10, 11], [0, 1, 2, 3, 4, 5, 6, 7, 8, 9, 10, 11], [], [], [], []]) (an := [{}, {}, {}, {}, {}, {}, {}, {}, {}, {}, {}, {}, {}, {}, {}, { c := [162] }, { c := [162, 24] }, {}, {}]) rfl (by kernel_rfl) rfl fun _ F=>?_;refine Z7 ?_;refine Z9 ?_;refine Z9 ?_;refine ab rfl (x_m SP.dc rfl rfl rfl rfl hg rfl) rfl ?_;refine Z5 ?_;refine Z7 ?_;refine Z9 ?_;refine Z9 ?_;refine ab rfl (x_m SP.dc rfl rfl rfl rfl hg rfl) rfl ?_;refine Z5 ?_;refine Z7 ?_;refine aa rfl rfl (q3) rfl rfl rfl rfl ?_;refine Z9 ?_;refine am rfl rfl rfl ?_;refine am rfl rfl rfl ?_;refine al rfl rfl rfl rfl rfl rfl ?_;refine al rfl rfl rfl rfl rfl rfl ?_;refine ae rfl rfl rfl rfl rfl ?_;refine ae rfl rfl rfl rfl rfl ?_;refine eQ F ?_;clear F;refine aD tok mixed (A := [[], [], [], [], [1, 2], [1, 2, 3], [], [], [], [6, 7], [6, 7, 8], [1, 2, 3, 4, 6, 7, 8, 9], [0, 1, 2, 3, 4, 5, 6, 7, 8, 9, 10], [0, 1, 2, 3, 4, 5, 6, 7, 8, 9, 10, 11], [0, 1, 2, 3, 4, 5, 6, 7, 8, 9, 10, 11], [], [], [], []]) (an := [{}, {}, {}, {}, {}, {}, {}, {}, {}, {}, {}, {}, {}, {}, {}, { c := [177] }, { c := [177, 26] }, {}, {}]) rfl (by kernel_rfl) rfl fun _ F=>?_;refine Z7 ?_;refine Z9 ?_;refine Z9 ?_;refine ab rfl (x_m SP.dc rfl rfl rfl rfl hg rfl) rfl ?_;refine Z5 ?_;refine Z7 ?_;refine Z9 ?_;refine Z9 ?_;refine ab rfl (x_m SP.dc rfl rfl rfl rfl hg rfl) rfl ?_;refine Z5 ?_;refine Z7 ?_;refine aa rfl rfl (q4) rfl rfl rfl rfl ?_;refine Z9 ?_;refine am rfl rfl rfl ?_;refine am rfl rfl rfl ?_;refine al rfl rfl rfl rfl rfl rfl ?_;refine al rfl rfl rfl rfl rfl rfl ?_;refine ae rfl rfl rfl rfl rfl ?_;refine ae rfl rfl rfl rfl rfl ?_;refine eQ F ?_;clear F;refine ah ?_;refine aD tok mixed (A := [[], [], [], [], [1, 2], [1, 2, 3], [1, 2, 3, 4], [0, 1, 2, 3, 4, 5], [0, 1, 2, 3, 4, 5], [0, 1, 2, 3, 4, 5, 6, 7], [0, 1, 2, 3, 4, 5, 6, 7], [0, 1, 2, 3, 4, 5, 6, 7], [0, 1, 2, 3, 4, 5, 6, 7], [0, 1, 2, 3, 4, 5, 6, 7, 10, 11], [0, 1, 2, 3, 4, 5, 6, 7, 10, 11, 12], [0, 1, 2, 3, 4, 5, 6, 7, 10, 11, 12, 13], [0, 1, 2, 3, 4, 5, 6, 7, 9, 10, 11, 12, 13, 14], [0, 1, 2, 3, 4, 5, 6, 7, 9, 10, 11, 12, 13, 14, 15], [0, 1, 2, 3, 4, 5, 6, 7, 8, 9, 10, 11, 12, 13, 14, 16], [0, 1, 2, 3, 4, 5, 6, 7, 8, 9, 10, 11, 12, 13, 14, 15, 16, 17], [0, 1, 2, 3, 4, 5, 6, 7, 8, 9, 10, 11, 12, 13, 14, 15, 16, 17], [0, 1, 2, 3, 4, 5, 6, 7, 8, 9, 10, 11, 12, 13, 14, 15, 16, 17], [0, 1, 2, 3, 4, 5, 6, 7, 8, 9, 10, 11, 12, 13, 14, 15, 16, 17], [0, 1, 2, 3, 4, 5, 6, 7, 8, 9, 10, 11, 12, 13, 14, 15, 16, 17], [0, 1, 2, 3, 4, 5, 6, 7, 8, 9, 10, 11, 12, 13, 14, 15, 16, 17, 21], [0, 1, 2, 3, 4, 5, 6, 7, 8, 9, 10, 11, 12, 13, 14, 15, 16, 17, 21, 22, 23], [0, 1, 2, 3, 4, 5, 6, 7, 8, 9, 10, 11, 12, 13, 14, 15, 16, 17, 19, 21, 22, 23, 24], [0, 1, 2, 3, 4, 5, 6, 7, 8, 9, 10, 11, 12, 13, 14, 15, 16, 17, 19, 20, 21, 22, 23, 24, 25], [0, 1, 2, 3, 4, 5, 6, 7, 8, 9, 10, 11, 12, 13, 14, 15, 16, 17, 19, 20, 21, 22, 23, 24, 25, 26], [0, 1, 2, 3, 4, 5, 6, 7, 8, 9, 10, 11, 12, 13, 14, 15, 16, 17, 18, 19, 20, 21, 22, 23, 24, 25, 27], [0, 1, 2, 3, 4, 5, 6, 7, 8, 9, 10, 11, 12, 13, 14, 15, 16, 17, 18, 19, 20, 21, 22, 23, 24, 25, 26, 27, 28], [0, 1, 2, 3, 4, 5, 6, 7, 8, 9, 10, 11, 12, 13, 14, 15, 16, 17, 18, 19, 20, 21, 22, 23, 24, 25, 26, 27, 28], [0, 1, 2, 3, 4, 5, 6, 7, 8, 9, 10, 11, 12, 13, 14, 15, 16, 17, 18, 19, 20, 21, 22, 23, 24, 25, 26, 27, 28], [0, 1, 2, 3, 4, 5, 6, 7, 8, 9, 10, 11, 12, 13, 14, 15, 16, 17, 18, 19, 20, 21, 22, 23, 24, 25, 26, 27, 28, 30, 31], [0, 1, 2, 3, 4, 5, 6, 7, 8, 9, 10, 11, 12, 13, 14, 15, 16, 17, 18, 19, 20, 21, 22, 23, 24, 25, 26, 27, 28, 30, 31, 32], [0, 1, 2, 3, 4, 5, 6, 7, 8, 9, 10, 11, 12, 13, 14, 15, 16, 17, 18, 19, 20, 21, 22, 23, 24, 25, 26, 27, 28, 29, 30, 31, 33], [0, 1, 2, 3, 4, 5, 6, 7, 8, 9, 10, 11, 12, 13, 14, 15, 16, 17, 18, 19, 20, 21, 22, 23, 24, 25, 26, 27, 28, 29, 30, 31, 32, 33, 34], [0, 1, 2, 3, 4, 5, 6, 7, 8, 9, 10, 11, 12, 13, 14, 15, 16, 17, 18, 19, 20, 21, 22, 23, 24, 25, 26, 27, 28, 29, 30, 31, 32, 33, 34], [0, 1, 2, 3, 4, 5, 6, 7, 8, 9, 10, 11, 12, 13, 14, 15, 16, 17, 18, 19, 20, 21, 22, 23, 24, 25, 26, 27, 28, 29, 30, 31, 32, 33, 34], [0, 1, 2, 3, 4, 5, 6, 7, 8, 9, 10, 11, 12, 13, 14, 15, 16, 17, 18, 19, 20, 21, 22, 23, 24, 25, 26, 27, 28, 29, 30, 31, 32, 33, 34, 36, 37], [0, 1, 2, 3, 4, 5, 6, 7, 8, 9, 10, 11, 12, 13, 14, 15, 16, 17, 18, 19, 20, 21, 22, 23, 24, 25, 26, 27, 28, 29, 30, 31, 32, 33, 34, 36, 37, 38], [0, 1, 2, 3, 4, 5, 6, 7, 8, 9, 10, 11, 12, 13, 14, 15, 16, 17, 18, 19, 20, 21, 22, 23, 24, 25, 26, 27, 28, 29, 30, 31, 32, 33, 34, 35, 36, 37, 39], [0, 1, 2, 3, 4, 5, 6, 7, 8, 9, 10, 11, 12, 13, 14, 15, 16, 17, 18, 19, 20, 21, 22, 23, 24, 25, 26, 27, 28, 29, 30, 31, 32, 33, 34, 35, 36, 37, 38, 39, 40], [0, 1, 2, 3, 4, 5, 6, 7, 8, 9, 10, 11, 12, 13, 14, 15, 16, 17, 18, 19, 20, 21, 22, 23, 24, 25, 26, 27, 28, 29, 30, 31, 32, 33, 34, 35, 36, 37, 38, 39, 40], [0, 1, 2, 3, 4, 5, 6, 7, 8, 9, 10, 11, 12, 13, 14, 15, 16, 17, 18, 19, 20, 21, 22, 23, 24, 25, 26, 27, 28, 29, 30, 31, 32, 33, 34, 35, 36, 37, 38, 39, 40], [0, 1, 2, 3, 4, 5, 6, 7, 8, 9, 10, 11, 12, 13, 14, 15, 16, 17, 18, 19, 20, 21, 22, 23, 24, 25, 26, 27, 28, 29, 30, 31, 32, 33, 34, 35, 36, 37, 38, 39, 40], [0, 1, 2, 3, 4, 5, 6, 7, 8, 9, 10, 11, 12, 13, 14, 15, 16, 17, 18, 19, 20, 21, 22, 23, 24, 25, 26, 27, 28, 29, 30, 31, 32, 33, 34, 35, 36, 37, 38, 39, 40, 43, 44], [0, 1, 2, 3, 4, 5, 6, 7, 8, 9, 10, 11, 12, 13, 14, 15, 16, 17, 18, 19, 20, 21, 22, 23, 24, 25, 26, 27, 28, 29, 30, 31, 32, 33, 34, 35, 36, 37, 38, 39, 40, 43, 44, 45], [0, 1, 2, 3, 4, 5, 6, 7, 8, 9, 10, 11, 12, 13, 14, 15, 16, 17, 18, 19, 20, 21, 22, 23, 24, 25, 26, 27, 28, 29, 30, 31, 32, 33, 34, 35, 36, 37, 38, 39, 40, 43, 44, 45, 46], [0, 1, 2, 3, 4, 5, 6, 7, 8, 9, 10, 11, 12, 13, 14, 15, 16, 17, 18, 19, 20, 21, 22, 23, 24, 25, 26, 27, 28, 29, 30, 31, 32, 33, 34, 35, 36, 37, 38, 39, 40, 42, 43, 44, 45, 46, 47], [0, 1, 2, 3, 4, 5, 6, 7, 8, 9, 10, 11, 12, 13, 14, 15, 16, 17, 18, 19, 20, 21, 22, 23, 24, 25, 26, 27, 28, 29, 30, 31, 32, 33, 34, 35, 36, 37, 38, 39, 40, 42, 43, 44, 45, 46, 47, 48], [0, 1, 2, 3, 4, 5, 6, 7, 8, 9, 10, 11, 12, 13, 14, 15, 16, 17, 18, 19, 20, 21, 22, 23, 24, 25, 26, 27, 28, 29, 30, 31, 32, 33, 34, 35, 36, 37, 38, 39, 40, 41, 42, 43, 44, 45, 46, 47, 49], [0, 1, 2, 3, 4, 5, 6, 7, 8, 9, 10, 11, 12, 13, 14, 15, 16, 17, 18, 19, 20, 21, 22, 23, 24, 25, 26, 27, 28, 29, 30, 31, 32, 33, 34, 35, 36, 37, 38, 39, 40, 41, 42, 43, 44, 45, 46, 47, 48, 49, 50], [0, 1, 2, 3, 4, 5, 6, 7, 8, 9, 10, 11, 12, 13, 14, 15, 16, 17, 18, 19, 20, 21, 22, 23, 24, 25, 26, 27, 28, 29, 30, 31, 32, 33, 34, 35, 36, 37, 38, 39, 40, 41, 42, 43, 44, 45, 46, 47, 48, 49, 50], [0, 1, 2, 3, 4, 5, 6, 7, 8, 9, 10, 11, 12, 13, 14, 15, 16, 17, 18, 19, 20, 21, 22, 23, 24, 25, 26, 27, 28, 29, 30, 31, 32, 33, 34, 35, 36, 37, 38, 39, 40, 41, 42, 43, 44, 45, 46, 47, 48, 49, 50], [0, 1, 2, 3, 4, 5, 6, 7, 8, 9, 10, 11, 12, 13, 14, 15, 16, 17, 18, 19, 20, 21, 22, 23, 24, 25, 26, 27, 28, 29, 30, 31, 32, 33, 34, 35, 36, 37, 38, 39, 40, 41, 42, 43, 44, 45, 46, 47, 48, 49, 50], [0, 1, 2, 3, 4, 5, 6, 7, 8, 9, 10, 11, 12, 13, 14, 15, 16, 17, 18, 19, 20, 21, 22, 23, 24, 25, 26, 27, 28, 29, 30, 31, 32, 33, 34, 35, 36, 37, 38, 39, 40, 41, 42, 43, 44, 45, 46, 47, 48, 49, 50, 53, 54], [0, 1, 2, 3, 4, 5, 6, 7, 8, 9, 10, 11, 12, 13, 14, 15, 16, 17, 18, 19, 20, 21, 22, 23, 24, 25, 26, 27, 28, 29, 30, 31, 32, 33, 34, 35, 36, 37, 38, 39, 40, 41, 42, 43, 44, 45, 46, 47, 48, 49, 50, 53, 54, 55], [0, 1, 2, 3, 4, 5, 6, 7, 8, 9, 10, 11, 12, 13, 14, 15, 16, 17, 18, 19, 20, 21, 22, 23, 24, 25, 26, 27, 28, 29, 30, 31, 32, 33, 34, 35, 36, 37, 38, 39, 40, 41, 42, 43, 44, 45, 46, 47, 48, 49, 50, 53, 54, 55, 56], [0, 1, 2, 3, 4, 5, 6, 7, 8, 9, 10, 11, 12, 13, 14, 15, 16, 17, 18, 19, 20, 21, 22, 23, 24, 25, 26, 27, 28, 29, 30, 31, 32, 33, 34, 35, 36, 37, 38, 39, 40, 41, 42, 43, 44, 45, 46, 47, 48, 49, 50, 52, 53, 54, 55, 56, 57], [0, 1, 2, 3, 4, 5, 6, 7, 8, 9, 10, 11, 12, 13, 14, 15, 16, 17, 18, 19, 20, 21, 22, 23, 24, 25, 26, 27, 28, 29, 30, 31, 32, 33, 34, 35, 36, 37, 38, 39, 40, 41, 42, 43, 44, 45, 46, 47, 48, 49, 50, 52, 53, 54, 55, 56, 57, 58]]) (an := [{}, {}, {}, {}, {}, {}, {}, {}, {}, {}, {}, {}, {}, {}, {}, {}, {}, {}, {}, {}, {}, {}, {}, {}, {}, {}, {}, {}, {}, {}, {}, {}, {}, {}, {}, {}, {}, {}, {}, {}, {}, {}, {}, {}, {}, {}, {}, {}, {}, {}, {}, {}, {}, {}, {}, {}, {}, {}, {}, {}, {}]) rfl (by kernel_rfl) rfl fun _ F=>?_;refine Z7 ?_;refine Z9 ?_;refine Z9 ?_;refine ab rfl (x_m SP.dc rfl rfl rfl rfl hg rfl) rfl ?_;refine Z5 ?_;refine Z7 ?_;refine aa rfl rfl (k1) rfl rfl rfl rfl ?_;refine db rfl rfl rfl ?_;refine Z9 ?_;refine Z7 ?_;refine Z9 ?_;refine Z9 ?_;refine ab rfl (x_m SP.dc rfl rfl rfl rfl hg rfl) rfl ?_;refine Z5 ?_;refine Z7 ?_;refine aa rfl rfl (k2) rfl rfl rfl rfl ?_;refine db rfl rfl rfl ?_;refine Z4 ?_;refine Z9 ?_;refine Z5 ?_;refine Z7 ?_;refine Z5 ?_;refine Z7 ?_;refine Z9 ?_;refine ab rfl (x_m RW.dc rfl rfl rfl rfl hgn rfl) rfl ?_;refine Z7 ?_;refine aa rfl rfl (cSm) rfl rfl rfl rfl ?_;refine db rfl rfl rfl ?_;refine Z4 ?_;refine Z9 ?_;refine Z7 ?_;refine Z7 ?_;refine aa rfl rfl (k3) rfl rfl rfl rfl ?_;refine db rfl rfl rfl ?_;refine Z4 ?_;refine Z9 ?_;refine Z7 ?_;refine Z7 ?_;refine aa rfl rfl (k4) rfl rfl rfl rfl ?_;refine db rfl rfl rfl ?_;refine Z4 ?_;refine Z9 ?_;refine Z7 ?_;refine Z9 ?_;refine Z9 ?_;refine ab rfl (x_m SP.dc rfl rfl rfl rfl hg2 rfl) rfl ?_;refine Z5 ?_;refine Z7 ?_;refine aa rfl rfl (k5) rfl rfl rfl rfl ?_;refine db rfl rfl rfl ?_;refine Z4 ?_;refine Z9 ?_;refine Z7 ?_;refine Z9 ?_;refine Z9 ?_;refine ab rfl (x_m SP.dc rfl rfl rfl rfl hg2 rfl) rfl ?_;refine Z5 ?_;refine Z7 ?_;refine aa rfl rfl (k6) rfl rfl rfl rfl ?_;refine db rfl rfl rfl ?_;refine Z4 ?_;refine eQ F ?_;clear F;refine ap rfl (fun h => by cases h) (fun _ => ?_);refine ak ?_;show AWP _ _ _ _ _ _;refine gQ fun _ F=>?_;refine Z9 ?_;refine Z9 ?_;refine aA rfl (bT PT.dc rfl rfl) rfl ?_;refine Z6 ?_;refine eQ F ?_;clear F;refine ap rfl (fun hq => ?_) (fun hq => ?_)
   ·have hq : i < st.length := by simp at hq; omega
    have hqt : i < ts.length := by omega
    have hI := hst _ (List.getElem_mem hq)
    have f1 := pI st[i].x hI.1
    have f2 := pI st[i].y hI.2
    have eS : stT ts st i = ⟨ts[i], qzW (st[i].x : Rat), qzW (st[i].y : Rat)⟩ := by
     unfold stT PT.at
     rw [List.getD_eq_getElem?_getD, List.getD_eq_getElem?_getD, List.getElem?_eq_getElem hqt, List.getElem?_eq_getElem hq]; rfl
    have m1 : Con Tryd.prog 10 [AG (prT at0 ts st i).cs, AG (TR.mk ts[i] (qzW (st[i].x : Rat)) (qzW (st[i].y : Rat))).cs] { v := AG (prT at0 ts st (i + 1)).cs } := by
     rw [<- eS]; exact iq (prT at0 ts st i) (stT ts st i) (oP0 i (by omega)) ((oStp i).mono rfl)
    have m2 : Con Tryd.prog 10 [AG (prT (cmV (gt w) at0) ts st i).cs, AG (TR.mk ts[i] (qzW (st[i].x : Rat)) (qzW (st[i].y : Rat))).cs] { v := AG (prT (cmV (gt w) at0) ts st (i + 1)).cs } := by
     rw [<- eS]; exact iq (prT (cmV (gt w) at0) ts st i) (stT ts st i) (oPM i (by omega)) ((oStp i).mono rfl)
    have him2 : min (i + 1) st.length = i + 1 := by omega
    refine aD tok mixed (A := [[], [], [], [0, 1], [], [], [], [4, 5], [4, 5, 6], [4, 5, 6, 7], [], [], [], [10, 11], [10, 11, 12], [4, 5, 6, 7, 8, 10, 11, 12, 13], [0, 1, 2, 4, 5, 6, 7, 8, 10, 11, 12, 13, 14], [], []]) (an := [{}, {}, {}, {}, {}, {}, {}, {}, {}, {}, { c := [254] }, { c := [254] }, { c := [254] }, { c := [254] }, { c := [254] }, {}, {}, { c := [254, 260] }, {}]) rfl (by kernel_rfl) rfl fun _ F=>?_;refine Z9 ?_;refine Z9 ?_;refine ab rfl (x_m RW.dc rfl rfl rfl rfl hqt rfl) rfl ?_;refine Z7 ?_;refine Z9 ?_;refine Z9 ?_;refine ab rfl (x_m PT.dc rfl rfl rfl rfl hq rfl) rfl ?_;refine Z5 ?_;refine Z7 ?_;refine aa rfl rfl (f1) rfl rfl rfl rfl ?_;refine Z9 ?_;refine Z9 ?_;refine ab rfl (x_m PT.dc rfl rfl rfl rfl hq rfl) rfl ?_;refine Z5 ?_;refine Z7 ?_;refine aa rfl rfl (f2) rfl rfl rfl rfl ?_;refine aI rfl rfl rfl ?_;refine al rfl rfl rfl rfl rfl rfl ?_;refine ae rfl rfl rfl rfl rfl ?_;refine eQ F ?_;clear F;refine gQ fun _ F=>?_;refine Z7 ?_;refine Z7 ?_;refine aa rfl rfl (m1) rfl rfl rfl rfl ?_;refine ae rfl rfl rfl rfl rfl ?_;refine eQ F ?_;clear F;refine gR fun _ F=>?_;refine Z7 ?_;refine Z7 ?_;refine aa rfl rfl (m2) rfl rfl rfl rfl ?_;refine ae rfl rfl rfl rfl rfl ?_;refine eQ F ?_;clear F;show AWP _ _ _ _ _ _;refine gR fun _ F=>?_;refine Z9 ?_;refine aq rfl (aY (c := ((i + 1 : Nat) : Int)) (by omega) (by omega)) rfl ?_;refine Z8 ?_;refine eQ F ?_;clear F;refine ⟨i + 1, by omega, by omega, ?_⟩;rw [him2];exact Wk.mk' ⟨rfl, rfl, rfl, rfl, rfl, rfl, rfl, rfl, rfl, rfl, rfl, trivial⟩ ⟨rfl, rfl, rfl, rfl, rfl, rfl, trivial⟩
   ·have hq : i = st.length := by simp at hq; omega
    refine ak ?_;show AWP _ _ _ _ _ _
    have him2 : min (i + 1) st.length = i := by omega
    refine gR fun _ F=>?_;refine Z9 ?_;refine aq rfl (aY (c := ((i + 1 : Nat) : Int)) (by omega) (by omega)) rfl ?_;refine Z8 ?_;refine eQ F ?_;clear F;refine ⟨i + 1, by omega, by omega, ?_⟩;rw [him2];exact Wk.mk' ⟨rfl, rfl, rfl, rfl, rfl, rfl, rfl, rfl, rfl, rfl, rfl, trivial⟩ ⟨rfl, rfl, rfl, rfl, rfl, rfl, trivial⟩
  ·refine aF ?_;show AWP _ _ _ _ _ _;refine gQ fun _ F=>?_;refine Z8 ?_;refine eQ F ?_;clear F;exact ag aT
 ·have eC : (chV ts st 1).1 = g00 /\ ((chV ts st 1).2 != 0) = true := by
   unfold chV
   split
   ·rename_i h1
    split
    ·rename_i h2; exact absurd ⟨h1, h2⟩ hb
    ·exact ⟨rfl, rfl⟩
   ·exact ⟨rfl, rfl⟩
  rw [eC.1] at cC
  have en := eC.2
  generalize (chV ts st 1).2 = e at *;refine gQ fun _ F=>?_;refine Z9 ?_;refine Z9 ?_;refine aa rfl rfl (cC) rfl rfl rfl rfl ?_;refine Z9 ?_;refine am rfl rfl rfl ?_;refine am rfl rfl rfl ?_;refine al rfl rfl rfl rfl rfl rfl ?_;refine ae rfl rfl rfl rfl rfl ?_;refine Z8 ?_;refine eQ F ?_;clear F;refine ah ?_;refine gQ fun _ F=>?_;refine Z9 ?_;refine aq rfl (lL en) rfl ?_;refine eQ F ?_;clear F;refine ap rfl (fun _ => ?_) (fun h => by cases h);refine gQ fun _ F=>?_;refine Z5 ?_;refine Z7 ?_;refine aA rfl (bT RW.dc rfl rfl) rfl ?_;refine aq rfl (yc (c := true) rfl) rfl ?_;refine Z8 ?_;refine eQ F ?_;clear F;exact ag aT
end Go.Proofs.YtnoildlijhapaaaDoor
