/- Part of a proof that a Go function answers true for every input. No condition. -/
import Derived.Test.YtceacleokgoooaaGreatDoorB2
import Derived.WalkKit
import Derived.BigCall
import Derived.BigGuard
import Derived.WalkSpells
import Derived.Shelf.RegionOpenPlain
import Derived.Deep.LoopGhost
import Derived.Deep.RegionLaw
import Derived.Lib.Walk
import Derived.Lib.SliceRun
import Derived.Shelf.Slices.Cells
set_option linter.unusedVariables false
set_option linter.unusedSimpArgs false
set_option linter.unusedSectionVars false
/- Magnitudes compared. No condition. -/
namespace Go.Proofs.YtceacleokgoooaaGreatDoor
attribute [local irreducible] aF

def gT (m n : Nat) : Int := if m < n then -1 else if n < m then 1 else 0
theorem sG (a : List Nat) (k : Nat) (h : k <= a.length) : wv a = wv (a.take k) + 4294967296 ^ k * wv (a.drop k) := by
 have := iT (a.take k) (a.drop k)
 rw [List.take_append_drop, List.length_take, Nat.min_eq_left h] at this;exact this
theorem nL {a b : List Nat} (ha : wOK a) (hl : a.length = b.length) {k : Nat} (hk : k < a.length) (hd : a.drop (k + 1) = b.drop (k + 1)) (hlt : a[k] < b[k]'(by omega)) : wv a < wv b := by
 rw [sG a (k + 1) (by omega), sG b (k + 1) (by omega), hd, jh hk, jh (by omega)]
 have h1 := ee (ha.take k)
 rw [List.length_take, Nat.min_eq_left (by omega)] at h1
 have h2 : (a[k] + 1) * 4294967296 ^ k <= b[k] * 4294967296 ^ k := Nat.mul_le_mul_right _ hlt
 rw [Nat.add_mul, Nat.one_mul] at h2
 omega
theorem iS {a b : List Nat} (ha : wOK a) (tb : jM b) (h : a.length < b.length) : wv a < wv b := by
 have h1 := ee ha
 have h2 := lg tb (by intro h'; simp [h'] at h)
 have : 4294967296 ^ a.length <= 4294967296 ^ (b.length - 1) := Nat.pow_le_pow_right (by decide) (by omega)
 omega

theorem mO (a b : List Nat) (ha : wOK a) (hb : wOK b) (ta : jM a) (tb : jM b) (la : a.length <= 1073741824) (lb : b.length <= 1073741824) :
  Con Tryz.prog 120 [V1 (dW a), V1 (dW b)] { v := dI (gT (wv a) (wv b)) } := by
 refine Z3 Tryz.func120 ?_
 intro w0 X
 rw [aq _ _ [(0, V1 (dW a)), (1, V1 (dW b))] rfl rfl];refine gQ fun _ O=>?_;refine Z8 ?_;refine eQ O ?_;clear O;refine ag ?_;refine gQ fun _ O=>?_;refine Z9 ?_;refine az rfl (aZ rfl rfl rfl) rfl ?_;refine Z9 ?_;refine az rfl (aZ rfl rfl rfl) rfl ?_;refine Z6 ?_;refine eQ O ?_;clear O;refine ap rfl (fun hc => ?_) (fun hc => ?_)
 ·have hc : a.length ≠ b.length := by simp at hc; omega
  refine ag ?_;refine gQ fun _ O=>?_;refine Z9 ?_;refine az rfl (aZ rfl rfl rfl) rfl ?_;refine Z9 ?_;refine az rfl (aZ rfl rfl rfl) rfl ?_;refine Z6 ?_;refine eQ O ?_;clear O;refine ap rfl (fun hd => ?_) (fun hd => ?_)
  ·have hd : a.length < b.length := by simp at hd; omega
   refine gQ fun _ O=>?_;refine Z8 ?_;refine eQ O ?_;clear O;exact ah (bz (h3 := by have := iS ha tb hd; unfold gT; rw [if_pos this]; rfl))
  ·have hd : b.length < a.length := by simp at hd; omega
   refine ak ?_;show AWP _ _ _ _ _ _;refine gQ fun _ O=>?_;refine Z8 ?_;refine eQ O ?_;clear O;exact ah (bz (h3 := by have := iS hb ta hd; unfold gT; rw [if_neg (by omega), if_pos this]; rfl))
 have hc : a.length = b.length := by simp at hc; omega
 refine ak ?_;show AWP _ _ _ _ _ _;refine ag ?_;refine gQ fun _ O=>?_;refine Z9 ?_;refine az rfl (aZ rfl rfl rfl) rfl ?_;refine av rfl (bZ rfl (by omega)) rfl ?_;refine Z8 ?_;refine eQ O ?_;clear O;refine al (aS (α := Nat) (fun k => mk 41 [(0, V1 (dW a)), (1, V1 (dW b)), (5, dI ((k : Int) - 1))] [] []) (fun k => k <= a.length /\ a.drop k = b.drop k) (fun k => k) a.length ?_ ⟨Nat.le_refl _, by simp [hc]⟩ ?_)
 ·exact Wk.mk' ⟨rfl, rfl, rfl, trivial⟩ trivial
 rintro k ⟨hk, hdr⟩
 refine ag ?_;refine gQ fun _ O=>?_;refine Z9 ?_;refine Z6 ?_;refine eQ O ?_;clear O;refine ap rfl (fun hg => ?_) (fun hg => ?_)
 ·obtain ⟨j, rfl⟩ : ∃ j, k = j + 1 := ⟨k - 1, by simp at hg; omega⟩
  refine ak ?_;show AWP _ _ _ _ _ _;refine ag (al ?_)
  have hjb : j < b.length := by omega
  refine aL tok mixed (A := [[], [], [], [0, 1], [], [], [], [4, 5], [0, 1, 2, 4, 5, 6]]) (an := [{}, {}, {}, {}, {}, {}, {}, {}, {}]) rfl (by kernel_rfl) rfl fun _ O=>?_;refine Z9 ?_;refine Z9 ?_;refine ae rfl (x_w (i := j) rfl rfl rfl rfl (by simp) (by omega)) rfl ?_;refine Z7 ?_;refine Z9 ?_;refine Z9 ?_;refine ae rfl (x_w (i := j) rfl rfl rfl rfl (by simp) (by omega)) rfl ?_;refine Z7 ?_;refine Z6 ?_;refine eQ O ?_;clear O;refine ap rfl (fun hn => ?_) (fun hn => ?_)
  ·have hn : a[j] ≠ b[j] := by simp at hn; omega
   refine ag ?_;refine EX [(0, V1 (dW a)), (1, V1 (dW b)), (5, dI (((j + 1 : Nat) : Int) - 1))] ⟨rfl, rfl, rfl, trivial⟩ ?_;refine aL tok mixed (A := [[], [], [], [0, 1], [], [], [], [4, 5], [0, 1, 2, 4, 5, 6]]) (an := [{}, {}, {}, {}, {}, {}, {}, {}, {}]) rfl (by kernel_rfl) rfl fun _ O=>?_;refine Z9 ?_;refine Z9 ?_;refine ae rfl (x_w (i := j) rfl rfl rfl rfl (by simp) (by omega)) rfl ?_;refine Z7 ?_;refine Z9 ?_;refine Z9 ?_;refine ae rfl (x_w (i := j) rfl rfl rfl rfl (by simp) (by omega)) rfl ?_;refine Z7 ?_;refine Z6 ?_;refine eQ O ?_;clear O;refine ap rfl (fun hl => ?_) (fun hl => ?_)
   ·have hl : a[j] < b[j] := by simp at hl; omega
    refine gQ fun _ O=>?_;refine Z8 ?_;refine eQ O ?_;clear O;exact ah (bz (h3 := by have := nL ha hc (by omega) hdr hl; unfold gT; rw [if_pos this]; rfl))
   ·have hl : b[j] < a[j] := by simp at hl; omega
    refine ak ?_;show AWP _ _ _ _ _ _;refine gQ fun _ O=>?_;refine Z8 ?_;refine eQ O ?_;clear O;exact ah (bz (h3 := by have := nL hb hc.symm (by omega) hdr.symm hl; unfold gT; rw [if_neg (by omega), if_pos this]; rfl))
  ·have hn : a[j] = b[j] := by simp at hn; omega
   refine ak ?_;show AWP _ _ _ _ _ _;refine gR fun _ O=>?_;refine Z9 ?_;refine av rfl (bZ (c := (j : Int) - 1) (by omega) (by omega)) rfl ?_;refine Z8 ?_;refine eQ O ?_;clear O;exact ⟨j, by omega, ⟨by omega, by rw [List.drop_eq_getElem_cons (by omega), List.drop_eq_getElem_cons hjb, hn, hdr]⟩, Wk.mk' ⟨rfl, rfl, rfl, trivial⟩ trivial⟩
 ·have hk0 : k = 0 := by simp at hg; omega
  subst hk0
  refine aD ?_;show AWP _ _ _ _ _ _;refine gQ fun _ O=>?_;refine Z8 ?_;refine eQ O ?_;clear O
  have : a = b := by simpa using hdr
  exact ah (bz (h3 := by subst this; unfold gT; rw [if_neg (by omega), if_neg (by omega)]; rfl))
end Go.Proofs.YtceacleokgoooaaGreatDoor

/- Magnitudes added and subtracted. No condition. -/
namespace Go.Proofs.YtceacleokgoooaaGreatDoor
attribute [local irreducible] aF

def cw (x y : List Nat) (i : Nat) : Nat := wv (x.take i) + wv (y.take i)
theorem kc (x y : List Nat) (i : Nat) : cw x y (i + 1) = cw x y i + (x.getD i 0 + y.getD i 0) * 4294967296 ^ i := by
 unfold cw; rw [ci, ci, Nat.add_mul]; omega
theorem oD {x y : List Nat} (hx : wOK x) (hy : wOK y) (i : Nat) : cw x y i / 4294967296 ^ i <= 1 := by
 unfold cw
 have h1 := ee (hx.take i)
 have h2 := ee (hy.take i)
 have h3 : 4294967296 ^ (x.take i).length <= 4294967296 ^ i := Nat.pow_le_pow_right (by decide) (by simp; omega)
 have h4 : 4294967296 ^ (y.take i).length <= 4294967296 ^ i := Nat.pow_le_pow_right (by decide) (by simp; omega)
 have : (wv (x.take i) + wv (y.take i)) / 4294967296 ^ i < 2 := by
  rw [Nat.div_lt_iff_lt_mul (pow_pos i)]; omega
 omega
theorem mo (x y : List Nat) (i : Nat) : cw x y (i + 1) / 4294967296 ^ i = x.getD i 0 + y.getD i 0 + cw x y i / 4294967296 ^ i := by
 rw [kc, Nat.add_mul_div_right _ _ (pow_pos i)]; omega

theorem DG (a b : List Nat) (ha : wOK a) (hb : wOK b) (la : a.length <= 1073741824) (lb : b.length <= 1073741824) :
  Con Tryz.prog 154 [V1 (dW a), V1 (dW b)] { v := V1 (dW (a8 (max a.length b.length + 1) (wv a + wv b))) } := by
 refine Z3 Tryz.func154 ?_
 intro w0 X
 rw [aq _ _ [(0, V1 (dW a)), (1, V1 (dW b))] rfl rfl];refine gQ fun _ O=>?_;refine Z8 ?_;refine eQ O ?_;clear O;refine bd (α := List Nat × List Nat) (fun p => mk 53 [(0, V1 (dW p.1)), (1, V1 (dW p.2))] [] []) (fun p => wOK p.1 /\ wOK p.2 /\ p.2.length <= p.1.length /\ p.1.length = max a.length b.length /\ wv p.1 + wv p.2 = wv a + wv b) ?_ ?_
 ·refine gQ fun _ O=>?_;refine Z9 ?_;refine az rfl (aZ rfl rfl rfl) rfl ?_;refine Z9 ?_;refine az rfl (aZ rfl rfl rfl) rfl ?_;refine Z6 ?_;refine eQ O ?_;clear O;refine ap rfl (fun hc => ?_) (fun hc => ?_)
  ·have hc : a.length < b.length := by simp at hc; omega
   refine gR fun _ O=>?_;refine Z9 ?_;refine Z9 ?_;refine Z8 ?_;refine Z8 ?_;refine eQ O ?_;clear O;exact ⟨(b, a), ⟨hb, ha, by simp only; omega, by simp only; omega, by simp only; omega⟩, Wk.mk' ⟨rfl, rfl, trivial⟩ trivial⟩
  ·have hc : b.length <= a.length := by simp at hc; omega
   refine ak ?_;exact ⟨(a, b), ⟨ha, hb, by simp only; omega, by simp only; omega, rfl⟩, Wk.mk' ⟨rfl, rfl, trivial⟩ trivial⟩
 rintro ⟨x, y⟩ ⟨hx, hy, hl, hm, hs⟩
 simp only at hx hy hl hm hs
 rw [<- hm, <- hs]
 have lx : x.length <= 1073741824 := by omega
 show AWP _ _ _ _ _ (mk 53 [(0, V1 (dW x)), (1, V1 (dW y))] [] []);refine gQ fun _ O=>?_;refine Z9 ?_;refine az rfl (aZ rfl rfl rfl) rfl ?_;refine av rfl (aP (c := ((x.length + 1 : Nat) : Int)) (by omega) (by omega)) rfl ?_;refine bP (sz := _) (es := _) (f := _) (v := _) rfl (tE (l := 0) (c := x.length + 1) rfl rfl rfl rfl rfl (Nat.le_of_ble_eq_true rfl) rfl rfl (by omega) (by omega)) rfl rfl ?_;refine Z8 ?_;refine eQ O ?_;clear O;refine gQ fun _ O=>?_;refine Z8 ?_;refine eQ O ?_;clear O;refine ag ?_;refine gQ fun _ O=>?_;refine Z9 ?_;refine az rfl (aZ rfl rfl rfl) rfl ?_;refine Z9 ?_;refine eQ O ?_;clear O
 refine al (aS (α := Nat) (fun i => mk 53 [(22, V1 (dW x)), (23, dI x.length), (24, dI i), (1, V1 (dW y)), (6, dU (cw x y i / 4294967296 ^ i)), (5, .val (.one (.own 21 1 0 i)))] [(21, some (.arr 1 ((a8 i (cw x y i)).map cW)))] [])
  (fun i => i <= x.length) (fun i => x.length - i) 0 ?_ (Nat.zero_le _) ?_)
 ·exact Wk.mk' ⟨rfl, rfl, rfl, rfl, by simp [cw, wv]; rfl, rfl, trivial⟩ ⟨rfl, trivial⟩
 intro i hi
 have hcar := oD hx hy i
 refine gQ fun _ O=>?_;refine Z6 ?_;refine eQ O ?_;clear O;refine ag ?_;refine ap rfl (fun hg => ?_) (fun hg => ?_)
 ·have hg : i < x.length := by simp at hg; omega
  refine ak ?_;show AWP _ _ _ _ _ _;refine ag (al ?_);refine gQ fun _ O=>?_;refine Z9 ?_;refine ae rfl (x_w (i := i) rfl rfl rfl rfl rfl hg) rfl ?_;refine Z7 ?_;refine Z8 ?_;refine Z8 ?_;refine eQ O ?_;clear O;refine gQ fun _ O=>?_;refine Z8 ?_;refine eQ O ?_;clear O;refine bd (α := Unit) (fun _ => mk 53 [(22, V1 (dW x)), (23, dI x.length), (24, dI i), (1, V1 (dW y)), (6, dU (cw x y i / 4294967296 ^ i)), (8, dU x[i]), (9, dU (y.getD i 0)), (5, .val (.one (.own 21 1 0 i)))] [(21, some (.arr 1 ((a8 i (cw x y i)).map cW)))] []) (fun _ => True) ?_ ?_
  ·refine gQ fun _ O=>?_;refine Z9 ?_;refine Z9 ?_;refine az rfl (aZ rfl rfl rfl) rfl ?_;refine Z6 ?_;refine eQ O ?_;clear O;refine ap rfl (fun hc => ?_) (fun hc => ?_)
   ·have hc : i < y.length := by simp at hc; omega
    refine gR fun _ O=>?_;refine Z9 ?_;refine Z9 ?_;refine ae rfl (x_w (i := i) rfl rfl rfl rfl rfl hc) rfl ?_;refine Z7 ?_;refine Z8 ?_;refine eQ O ?_;clear O;exact ⟨(), trivial, Wk.mk' ⟨rfl, rfl, rfl, rfl, rfl, rfl, by rw [dS hc]; rfl, rfl, trivial⟩ ⟨rfl, trivial⟩⟩
   ·have hc : y.length <= i := by simp at hc; omega
    refine ak ?_;exact ⟨(), trivial, Wk.mk' ⟨rfl, rfl, rfl, rfl, rfl, rfl, by rw [List.getD_eq_getElem?_getD, List.getElem?_eq_none hc]; rfl, rfl, trivial⟩ ⟨rfl, trivial⟩⟩
  rintro - -
  have e1 : x[i] + y.getD i 0 + cw x y i / 4294967296 ^ i = cw x y (i + 1) / 4294967296 ^ i := by rw [mo, dS hg]
  refine gQ fun _ O=>?_;refine Z8 ?_;refine eQ O ?_;clear O;refine gQ fun _ O=>?_;refine Z9 ?_;refine Z9 ?_;refine Z9 ?_;refine ac rfl rfl (w6 x[i] (y.getD i 0) (cw x y i / 4294967296 ^ i) (hx.get hg) (ba hy i) hcar) rfl rfl rfl rfl ?_;refine Z9 ?_;refine au rfl rfl rfl ?_;refine au rfl rfl rfl ?_;refine Z8 ?_;refine Z8 ?_;refine eQ O ?_;clear O;refine gR fun _ O=>?_;refine Z9 ?_;refine Z9 ?_;refine ax rfl rfl rfl rfl ?_;refine aN rfl (et rfl rfl rfl rfl rfl rfl (by decide) (Nat.le_of_ble_eq_true rfl) rfl (by simp) rfl rfl (by simp [aC]) (by simp; omega)) rfl rfl rfl ?_;refine Z8 ?_;refine eQ O ?_;clear O;show AWP _ _ _ _ _ _;refine gR fun _ O=>?_;refine av rfl (aP (c := ((i + 1 : Nat) : Int)) (by omega) (by omega)) rfl ?_;refine Z9 ?_;refine eQ O ?_;clear O;refine ⟨i + 1, by omega, hg, Wk.rn [22, 23, 24, 1, 6, 5] [47] 47 21 rfl rfl rfl ⟨rfl, rfl, rfl, rfl, ?_, ?_, trivial⟩ ⟨?_, trivial⟩⟩
  ·show dU _ = dU _
   rw [e1, Nat.div_div_eq_div_mul, <- Nat.pow_succ]
  ·show SV.val (.one (.own 21 1 0 _)) = _
   simp [aC]
  ·show some (OO.arr 1 _) = _
   rw [gV, e1, kc, sI]
   simp [cW]
 ·have hg : i = x.length := by simp at hg; omega
  subst hg
  refine aD ?_;show AWP _ _ _ _ _ _;refine gQ fun _ O=>?_;refine Z9 ?_;refine Z9 ?_;refine ax rfl rfl rfl rfl ?_;refine aN rfl (et rfl rfl rfl rfl rfl rfl (by decide) (Nat.le_of_ble_eq_true rfl) rfl (by simp) rfl rfl (by simp [aC]) (by simp; omega)) rfl rfl rfl ?_;refine Z8 ?_;refine eQ O ?_;clear O;refine dK [4] [52] 52 [(4, V1 (dW (a8 (x.length + 1) (wv x + wv y))))] [] rfl ?_ trivial ?_
  ·refine ⟨jG ?_ (by simp [aC]), trivial⟩;rw [gV]
   have e1 : cw x y x.length = wv x + wv y := by unfold cw; rw [List.take_of_length_le (Nat.le_refl _), List.take_of_length_le hl]
   have e2 : (wv x + wv y) / 4294967296 ^ x.length % 4294967296 = (wv x + wv y) / 4294967296 ^ x.length := Nat.mod_eq_of_lt (by rw [<- e1]; omega)
   rw [e1, e2]; simp [cW]
  exact ah aT

theorem wF (a b : List Nat) (ha : wOK a) (hb : wOK b) (la : a.length <= 1073741824) (hl : b.length <= a.length) (hle : wv b <= wv a) :
  Con Tryz.prog 155 [V1 (dW a), V1 (dW b)] { v := V1 (dW (a8 a.length (wv a - wv b))) } := by
 refine Z3 Tryz.func155 ?_
 intro w0 X
 rw [aq _ _ [(0, V1 (dW a)), (1, V1 (dW b))] rfl rfl];refine gQ fun _ O=>?_;refine Z8 ?_;refine eQ O ?_;clear O;refine gQ fun _ O=>?_;refine Z9 ?_;refine az rfl (aZ rfl rfl rfl) rfl ?_;refine bP (sz := _) (es := _) (f := _) (v := _) rfl (tE (l := 0) (c := a.length) rfl rfl rfl rfl rfl (Nat.le_of_ble_eq_true rfl) rfl rfl (by omega) (by omega)) rfl rfl ?_;refine Z8 ?_;refine eQ O ?_;clear O;refine gQ fun _ O=>?_;refine Z8 ?_;refine eQ O ?_;clear O;refine ag ?_;refine gQ fun _ O=>?_;refine Z9 ?_;refine az rfl (aZ rfl rfl rfl) rfl ?_;refine Z9 ?_;refine eQ O ?_;clear O
 refine al (aS (α := Nat) (fun i => mk 42 [(14, V1 (dW a)), (15, dI a.length), (16, dI i), (1, V1 (dW b)), (6, dU (1 - difN a b i / 4294967296 ^ i)), (5, .val (.one (.own 13 1 0 i)))] [(13, some (.arr 1 ((a8 i (difN a b i)).map cW)))] [])
  (fun i => i <= a.length) (fun i => a.length - i) 0 ?_ (Nat.zero_le _) ?_)
 ·exact Wk.mk' ⟨rfl, rfl, rfl, rfl, by rw [q9]; rfl, rfl, trivial⟩ ⟨rfl, trivial⟩
 intro i hi
 have hcar := pM (y := b) ha i
 refine gQ fun _ O=>?_;refine Z6 ?_;refine eQ O ?_;clear O;refine ag ?_;refine ap rfl (fun hg => ?_) (fun hg => ?_)
 ·have hg : i < a.length := by simp at hg; omega
  refine ak ?_;show AWP _ _ _ _ _ _;refine ag (al ?_);refine gQ fun _ O=>?_;refine Z9 ?_;refine ae rfl (x_w (i := i) rfl rfl rfl rfl rfl hg) rfl ?_;refine Z7 ?_;refine Z8 ?_;refine Z8 ?_;refine eQ O ?_;clear O;refine gQ fun _ O=>?_;refine Z8 ?_;refine eQ O ?_;clear O;refine bd (α := Unit) (fun _ => mk 42 [(14, V1 (dW a)), (15, dI a.length), (16, dI i), (1, V1 (dW b)), (6, dU (1 - difN a b i / 4294967296 ^ i)), (8, dU a[i]), (9, dU (b.getD i 0)), (5, .val (.one (.own 13 1 0 i)))] [(13, some (.arr 1 ((a8 i (difN a b i)).map cW)))] []) (fun _ => True) ?_ ?_
  ·refine gQ fun _ O=>?_;refine Z9 ?_;refine Z9 ?_;refine az rfl (aZ rfl rfl rfl) rfl ?_;refine Z6 ?_;refine eQ O ?_;clear O;refine ap rfl (fun hc => ?_) (fun hc => ?_)
   ·have hc : i < b.length := by simp at hc; omega
    refine gR fun _ O=>?_;refine Z9 ?_;refine Z9 ?_;refine ae rfl (x_w (i := i) rfl rfl rfl rfl rfl hc) rfl ?_;refine Z7 ?_;refine Z8 ?_;refine eQ O ?_;clear O;exact ⟨(), trivial, Wk.mk' ⟨rfl, rfl, rfl, rfl, rfl, rfl, by rw [dS hc]; rfl, rfl, trivial⟩ ⟨rfl, trivial⟩⟩
   ·have hc : b.length <= i := by simp at hc; omega
    refine ak ?_;exact ⟨(), trivial, Wk.mk' ⟨rfl, rfl, rfl, rfl, rfl, rfl, by rw [List.getD_eq_getElem?_getD, List.getElem?_eq_none hc]; rfl, rfl, trivial⟩ ⟨rfl, trivial⟩⟩
  rintro - -
  have hst := ra a hb i
  have hxl := ha.get hg
  have hyl := ba hb i
  rw [dS hg] at hst
  have e1 : (a[i] + 8589934592 - b.getD i 0 - (1 - difN a b i / 4294967296 ^ i)) % 4294967296 = difN a b (i + 1) / 4294967296 ^ i % 4294967296 := by
   generalize difN a b i / 4294967296 ^ i = q at *;generalize difN a b (i + 1) / 4294967296 ^ i = q' at *
   omega
  have e2 : (if a[i] < b.getD i 0 + (1 - difN a b i / 4294967296 ^ i) then 1 else 0) = 1 - difN a b (i + 1) / 4294967296 ^ (i + 1) := by
   rw [Nat.pow_succ, <- Nat.div_div_eq_div_mul];generalize difN a b i / 4294967296 ^ i = q at *;generalize difN a b (i + 1) / 4294967296 ^ i = q' at *
   split <;> omega
  refine gQ fun _ O=>?_;refine Z8 ?_;refine eQ O ?_;clear O;refine gQ fun _ O=>?_;refine Z9 ?_;refine Z9 ?_;refine Z9 ?_;refine ac rfl rfl (rt a[i] (b.getD i 0) (1 - difN a b i / 4294967296 ^ i) (ha.get hg) (ba hb i) (Nat.sub_le _ _)) rfl rfl rfl rfl ?_;refine Z9 ?_;refine au rfl rfl rfl ?_;refine au rfl rfl rfl ?_;refine Z8 ?_;refine Z8 ?_;refine eQ O ?_;clear O;refine gR fun _ O=>?_;refine Z9 ?_;refine Z9 ?_;refine ax rfl rfl rfl rfl ?_;refine aN rfl (et rfl rfl rfl rfl rfl rfl (by decide) (Nat.le_of_ble_eq_true rfl) rfl (by simp) rfl rfl (by simp [aC]) (by simp; omega)) rfl rfl rfl ?_;refine Z8 ?_;refine eQ O ?_;clear O;show AWP _ _ _ _ _ _;refine gR fun _ O=>?_;refine av rfl (aP (c := ((i + 1 : Nat) : Int)) (by omega) (by omega)) rfl ?_;refine Z9 ?_;refine eQ O ?_;clear O;refine ⟨i + 1, by omega, hg, Wk.rn [14, 15, 16, 1, 6, 5] [39] 39 13 rfl rfl rfl ⟨rfl, rfl, rfl, rfl, ?_, ?_, trivial⟩ ⟨?_, trivial⟩⟩
  ·show dU _ = dU _
   rw [e2]
  ·show SV.val (.one (.own 13 1 0 _)) = _
   simp [aC]
  ·show some (OO.arr 1 _) = _
   have e3 : a8 i (difN a b (i + 1)) = a8 i (difN a b i) := by
    refine ll ?_
    have := congrArg (· % 4294967296 ^ i) (mL a hb i)
    simp only [Nat.add_mul_mod_self_right, Nat.add_comm (_ * _)] at this;exact this
   rw [gV, e1, e3]
   simp [cW]
 ·have hg : i = a.length := by simp at hg; omega
  subst hg
  refine aD ?_;show AWP _ _ _ _ _ _;refine gQ fun _ O=>?_;refine Z9 ?_;refine Z8 ?_;refine eQ O ?_;clear O;refine dK [4] [13] 13 [(4, V1 (dW (a8 a.length (wv a - wv b))))] [] rfl ?_ trivial ?_
  ·exact ⟨jG (by rw [ui hl hle]) (by simp [aC]), trivial⟩
  exact ah aT
end Go.Proofs.YtceacleokgoooaaGreatDoor

/- Magnitudes: products, division by a word, bits moved up. No condition. -/
namespace Go.Proofs.YtceacleokgoooaaGreatDoor
attribute [local irreducible] aF

theorem Ba (a b : List Nat) (ha : wOK a) (hb : wOK b) (la : a.length <= 1073741824) (lb : b.length <= 1073741824) :
  Con Tryz.prog 119 [V1 (dW a), V1 (dW b)] { v := V1 (dW (a8 (a.length + b.length) (wv a * wv b))) } := by
 refine Z3 Tryz.func119 ?_
 intro w0 X
 rw [aq _ _ [(0, V1 (dW a)), (1, V1 (dW b))] rfl rfl];refine gQ fun _ O=>?_;refine Z8 ?_;refine eQ O ?_;clear O;refine gQ fun _ O=>?_;refine Z9 ?_;refine az rfl (aZ rfl rfl rfl) rfl ?_;refine Z9 ?_;refine az rfl (aZ rfl rfl rfl) rfl ?_;refine av rfl (aP (c := ((a.length + b.length : Nat) : Int)) (by omega) (by omega)) rfl ?_;refine bP (sz := _) (es := _) (f := _) (v := _) rfl (tE (l := a.length + b.length) (c := a.length + b.length) rfl rfl rfl rfl rfl (Nat.le_of_ble_eq_true rfl) rfl rfl (by omega) (by omega)) rfl rfl ?_;refine Z8 ?_;refine eQ O ?_;clear O;refine ag ?_;refine gQ fun _ O=>?_;refine Z9 ?_;refine az rfl (aZ rfl rfl rfl) rfl ?_;refine Z9 ?_;refine eQ O ?_;clear O;refine al (aS (α := Nat × List Nat) (fun p => mk 67 [(1, V1 (dW b)), (5, .val (.one (.own 17 1 0 (a.length + b.length)))), (18, V1 (dW a)), (19, dI a.length), (20, dI p.1)] [(17, some (.arr 1 (p.2.map cW)))] []) (fun p => p.1 <= a.length /\ WTI a b p.1 0 p.2 0) (fun p => a.length - p.1) (0, List.replicate (a.length + b.length) 0) ?_ ⟨Nat.zero_le _, WTI.start a b⟩ ?_)
 ·exact Wk.mk' ⟨rfl, rfl, rfl, rfl, rfl, trivial⟩ ⟨rfl, trivial⟩
 rintro ⟨i, out⟩ ⟨hi, hti⟩
 simp only at hi hti
 show AWP _ _ _ _ _ (mk 67 [(1, V1 (dW b)), (5, .val (.one (.own 17 1 0 (a.length + b.length)))), (18, V1 (dW a)), (19, dI a.length), (20, dI i)] [(17, some (.arr 1 (out.map cW)))] []);refine gQ fun _ O=>?_;refine Z6 ?_;refine eQ O ?_;clear O;refine ag ?_;refine ap rfl (fun hg => ?_) (fun hg => ?_)
 ·have hg : i < a.length := by simp at hg; omega
  refine ak ?_;show AWP _ _ _ _ _ _;refine ag ?_;refine al ?_;refine gQ fun _ O=>?_;refine Z9 ?_;refine ae rfl (im (i := i) rfl rfl rfl rfl rfl hg) rfl ?_;refine Z7 ?_;refine Z8 ?_;refine Z8 ?_;refine eQ O ?_;clear O;refine gQ fun _ O=>?_;refine Z8 ?_;refine eQ O ?_;clear O;refine ag ?_;refine gQ fun _ O=>?_;refine Z9 ?_;refine az rfl (aZ rfl rfl rfl) rfl ?_;refine Z9 ?_;refine eQ O ?_;clear O;refine al (aS (α := Nat × List Nat × Nat) (fun p => mk 67 [(1, V1 (dW b)), (5, .val (.one (.own 17 1 0 (a.length + b.length)))), (6, dI i), (7, dU (a.getD i 0)), (8, dL p.2.2), (18, V1 (dW a)), (19, dI a.length), (20, dI i), (25, V1 (dW b)), (26, dI b.length), (27, dI p.1)] [(17, some (.arr 1 (p.2.1.map cW)))] []) (fun p => p.1 <= b.length /\ WTI a b i p.1 p.2.1 p.2.2) (fun p => b.length - p.1) (0, out, 0) ?_ ⟨Nat.zero_le _, hti⟩ ?_)
  ·exact Wk.mk' ⟨rfl, rfl, rfl, rfl, rfl, rfl, rfl, rfl, rfl, rfl, rfl, trivial⟩ ⟨rfl, trivial⟩
  rintro ⟨j, out, c⟩ ⟨hj, hti⟩
  simp only at hj hti
  show AWP _ _ _ _ _ (mk 67 [(1, V1 (dW b)), (5, .val (.one (.own 17 1 0 (a.length + b.length)))), (6, dI i), (7, dU (a.getD i 0)), (8, dL c), (18, V1 (dW a)), (19, dI a.length), (20, dI i), (25, V1 (dW b)), (26, dI b.length), (27, dI j)] [(17, some (.arr 1 (out.map cW)))] [])
  have hlen := hti.len
  refine gQ fun _ O=>?_;refine Z6 ?_;refine eQ O ?_;clear O;refine ag ?_;refine ap rfl (fun hh => ?_) (fun hh => ?_)
  ·have hh : j < b.length := by simp at hh; omega
   have hB := hti.bound ha hb
   have hij : i + j < out.length := by omega
   have hm : a.getD i 0 * b.getD j 0 < 18446744073709551616 := by omega
   refine ak ?_;show AWP _ _ _ _ _ _;refine ag ?_;refine al ?_;refine gQ fun _ O=>?_;refine Z9 ?_;refine ae rfl (im (i := j) rfl rfl rfl rfl rfl hh) rfl ?_;refine Z7 ?_;refine Z8 ?_;refine Z8 ?_;refine eQ O ?_;clear O;refine gQ fun _ O=>?_;refine Z9 ?_;refine aV rfl (aW rfl rfl rfl (dm (ha.lt64 i))) rfl ?_;refine Z9 ?_;refine aV rfl (aW rfl rfl rfl (dm (hb.lt64 j))) rfl ?_;refine av rfl (vq rfl hm) rfl ?_;refine Z9 ?_;refine Z9 ?_;refine Z9 ?_;refine av rfl (aP (c := ((i + j : Nat) : Int)) (by omega) (by omega)) rfl ?_;refine ae rfl (x_o (i := i + j) (j := i + j) rfl rfl rfl rfl rfl (by omega) (by omega)) rfl ?_;refine bb rfl (lV rfl rfl rfl rfl hij) rfl ?_;refine aV rfl (aW rfl rfl rfl (dm (hti.ok.lt64 _))) rfl ?_;refine av rfl (j4 rfl (by omega)) rfl ?_;refine Z9 ?_;refine av rfl (j4 rfl (by omega)) rfl ?_;refine Z8 ?_;refine eQ O ?_;clear O;refine gQ fun _ O=>?_;refine Z9 ?_;refine Z9 ?_;refine Z9 ?_;refine av rfl (aP (c := ((i + j : Nat) : Int)) (by omega) (by omega)) rfl ?_;refine Z9 ?_;refine aV rfl (aW rfl rfl rfl (ew _)) rfl ?_;refine ae rfl (x_o (i := i + j) (j := i + j) rfl rfl rfl rfl rfl (by omega) (by omega)) rfl ?_;refine aj rfl (lB rfl rfl rfl hij) rfl rfl rfl ?_;refine eQ O ?_;clear O;refine gR fun _ O=>?_;refine Z9 ?_;refine av rfl (j3 (s := 32) (by omega) rfl) rfl ?_;refine Z8 ?_;refine eQ O ?_;clear O;show AWP _ _ _ _ _ _;refine gR fun _ O=>?_;refine av rfl (aP (c := ((j + 1 : Nat) : Int)) (by omega) (by omega)) rfl ?_;refine Z9 ?_;refine eQ O ?_;clear O;exact ⟨(j + 1, _, _), by simp only; omega, ⟨hh, hti.step hg hh hB⟩, Wk.mk' ⟨rfl, rfl, rfl, rfl, rfl, rfl, rfl, rfl, rfl, rfl, rfl, trivial⟩ ⟨rfl, trivial⟩⟩
  ·have hh : j = b.length := by simp at hh; omega
   subst hh
   have hij : i + b.length < out.length := by omega
   have hcl := hti.cl
   refine aD ?_;show AWP _ _ _ _ _ _;refine gR fun _ O=>?_;refine Z9 ?_;refine Z9 ?_;refine Z9 ?_;refine az rfl (aZ rfl rfl rfl) rfl ?_;refine av rfl (aP (c := ((i + b.length : Nat) : Int)) (by omega) (by omega)) rfl ?_;refine Z9 ?_;refine aV rfl (aW (m := (c : Int)) rfl rfl rfl (by rw [ew, Nat.mod_eq_of_lt hcl])) rfl ?_;refine ae rfl (x_o (i := i + b.length) (j := i + b.length) rfl rfl rfl rfl rfl (by omega) (by omega)) rfl ?_;refine aj rfl (lB rfl rfl rfl hij) rfl rfl rfl ?_;refine eQ O ?_;clear O;show AWP _ _ _ _ _ _;refine gR fun _ O=>?_;refine av rfl (aP (c := ((i + 1 : Nat) : Int)) (by omega) (by omega)) rfl ?_;refine Z9 ?_;refine eQ O ?_;clear O;exact ⟨(i + 1, _), by simp only; omega, ⟨hg, hti.row hg⟩, Wk.mk' ⟨rfl, rfl, rfl, rfl, rfl, trivial⟩ ⟨rfl, trivial⟩⟩
 ·have hg : i = a.length := by simp at hg; omega
  subst hg
  refine aD ?_;show AWP _ _ _ _ _ _;refine gQ fun _ O=>?_;refine Z9 ?_;refine Z8 ?_;refine eQ O ?_;clear O;refine dK [4] [17] 17 [(4, V1 (dW (a8 (a.length + b.length) (wv a * wv b))))] [] rfl ?_ trivial ?_
  ·exact ⟨jG (by rw [hti.fin]) (by simp [aC]), trivial⟩
  exact ah aT

theorem rz (a : List Nat) (d : Nat) (ha : wOK a) (hd : 0 < d) (hdl : d < 4294967296) (la : a.length <= 1073741824) :
  Con Tryz.prog 106 [V1 (dW a), dU d] { v := .tup [.one (.d (dW (a8 a.length (wv a / d)))), .one (.d (.lit (.int .u32 ((wv a % d : Nat) : Int))))] } := by
 refine Z3 Tryz.func106 ?_
 intro w0 X
 rw [aq _ _ [(0, V1 (dW a)), (1, dU d)] rfl rfl];refine gQ fun _ O=>?_;refine Z8 ?_;refine Z8 ?_;refine eQ O ?_;clear O;refine gQ fun _ O=>?_;refine Z9 ?_;refine az rfl (aZ rfl rfl rfl) rfl ?_;refine bP (sz := _) (es := _) (f := _) (v := _) rfl (tE (l := a.length) (c := a.length) rfl rfl rfl rfl rfl (Nat.le_of_ble_eq_true rfl) rfl rfl (by omega) (by omega)) rfl rfl ?_;refine Z8 ?_;refine eQ O ?_;clear O;refine gQ fun _ O=>?_;refine Z8 ?_;refine eQ O ?_;clear O;refine ag ?_;refine gQ fun _ O=>?_;refine Z9 ?_;refine az rfl (aZ rfl rfl rfl) rfl ?_;refine av rfl (bZ rfl (by omega)) rfl ?_;refine Z8 ?_;refine eQ O ?_;clear O;refine al (aS (α := Nat) (fun i => mk 34 [(0, V1 (dW a)), (1, dU d), (6, .val (.one (.own 11 1 0 a.length))), (7, dU (wv (a.drop i) % d)), (8, dI ((i : Int) - 1))] [(11, some (.arr 1 ((shq a d i).map cW)))] []) (fun i => i <= a.length) (fun i => i) a.length ?_ (Nat.le_refl _) ?_)
 ·exact Wk.mk' ⟨rfl, rfl, rfl, by simp [wv]; rfl, rfl, trivial⟩ ⟨by simp [shq, a8]; rfl, trivial⟩
 intro i hi
 refine ag ?_;refine gQ fun _ O=>?_;refine Z9 ?_;refine Z6 ?_;refine eQ O ?_;clear O;refine ap rfl (fun hg => ?_) (fun hg => ?_)
 ·obtain ⟨j, rfl⟩ : ∃ j, i = j + 1 := ⟨i - 1, by simp at hg; omega⟩
  have hj : j < a.length := by omega
  have hs := sh_step a hd j
  refine ak ?_;show AWP _ _ _ _ _ _;refine ag ?_;refine al ?_;refine c8 [(0, V1 (dW a)), (1, dU d), (6, .val (.one (.own 11 1 0 a.length))), (7, dU (wv (a.drop (j + 1)) % d)), (8, dI j)] [(11, some (.arr 1 ((shq a d (j + 1)).map cW)))] ⟨rfl, rfl, rfl, rfl, by show dI _ = dI _; congr; omega, trivial⟩ ⟨rfl, trivial⟩ ?_;refine gR fun _ O=>?_;refine Z9 ?_;refine Z9 ?_;refine Z9 ?_;refine Z9 ?_;refine Z9 ?_;refine ae rfl (im (i := j) rfl rfl rfl rfl rfl hj) rfl ?_;refine Z7 ?_;refine Z9 ?_;refine ac rfl rfl (Cn (wv (a.drop (j + 1)) % d) (a.getD j 0) d (Nat.mod_lt _ hd) hdl (ba ha j)) rfl rfl rfl rfl ?_;refine Z9 ?_;refine au rfl rfl rfl ?_;refine au rfl rfl rfl ?_;refine ae rfl (x_o (i := j) (j := j) rfl rfl rfl rfl rfl hj (by omega)) rfl ?_;refine aj rfl (lB rfl rfl rfl (by rw [Bn a d hi]; exact hj)) rfl rfl rfl ?_;refine Z8 ?_;refine eQ O ?_;clear O;show AWP _ _ _ _ _ _;refine gR fun _ O=>?_;refine Z9 ?_;refine av rfl (bZ rfl (by omega)) rfl ?_;refine Z8 ?_;refine eQ O ?_;clear O;refine ⟨j, by omega, by omega, Wk.mk' ⟨rfl, rfl, rfl, ?_, rfl, trivial⟩ ⟨?_, trivial⟩⟩
  ·rw [hs.2]; rfl
  ·rw [<- yO ha hd hj]; rfl
 ·have hg : i = 0 := by simp at hg; omega
  subst hg
  refine aD ?_;show AWP _ _ _ _ _ _;refine gQ fun _ O=>?_;refine Z9 ?_;refine Z9 ?_;refine Z8 ?_;refine Z8 ?_;refine eQ O ?_;clear O;refine dK [4, 5] [11] 11 [(4, V1 (dW (a8 a.length (wv a / d)))), (5, dU (wv a % d))] [] rfl ?_ trivial ?_
  ·exact ⟨jG (by simp [shq]) (by simp [aC]), rfl, trivial⟩
  exact ah aT

theorem oR (a : List Nat) (n : Nat) (ha : wOK a) (hn : n <= 31) (la : a.length <= 1073741824) :
  Con Tryz.prog 151 [V1 (dW a), dL n] { v := .val (.one (.own 0 1 0 (a.length + 1))), ob := some (1, (a8 (a.length + 1) (wv a * 2 ^ n)).map cW) } := by
 refine Z3 Tryz.func151 ?_
 intro w0 X
 rw [aq _ _ [(0, V1 (dW a)), (1, dL n)] rfl rfl];refine gQ fun _ O=>?_;refine Z8 ?_;refine eQ O ?_;clear O;refine gQ fun _ O=>?_;refine Z9 ?_;refine az rfl (aZ rfl rfl rfl) rfl ?_;refine av rfl (aP (c := ((a.length + 1 : Nat) : Int)) (by omega) (by omega)) rfl ?_;refine bP (sz := _) (es := _) (f := _) (v := _) rfl (tE (l := a.length + 1) (c := a.length + 1) rfl rfl rfl rfl rfl (Nat.le_of_ble_eq_true rfl) rfl rfl (by omega) (by omega)) rfl rfl ?_;refine Z8 ?_;refine eQ O ?_;clear O;refine ag ?_;refine gQ fun _ O=>?_;refine Z9 ?_;refine az rfl (aZ rfl rfl rfl) rfl ?_;refine Z9 ?_;refine eQ O ?_;clear O;refine al (aS (α := Nat) (fun i => mk 41 [(1, dL n), (5, .val (.one (.own 12 1 0 (a.length + 1)))), (13, V1 (dW a)), (14, dI a.length), (15, dI i)] [(12, some (.arr 1 ((a8 (a.length + 1) (wv (a.take i) * 2 ^ n)).map cW)))] []) (fun i => i <= a.length) (fun i => a.length - i) 0 ?_ (Nat.zero_le _) ?_)
 ·refine Wk.mk' ⟨rfl, rfl, rfl, rfl, rfl, trivial⟩ ⟨?_, trivial⟩
  have : List.replicate (a.length + 1) 0 = a8 (a.length + 1) (wv (a.take 0) * 2 ^ n) := iV (wOK.rep0 _) (by simp) (by simp [j8, wv])
  rw [<- this]; rfl
 intro i hi
 refine gQ fun _ O=>?_;refine Z6 ?_;refine eQ O ?_;clear O;refine ag ?_;refine ap rfl (fun hg => ?_) (fun hg => ?_)
 ·have hg : i < a.length := by simp at hg; omega
  have hl : (a8 (a.length + 1) (wv (a.take i) * 2 ^ n)).length = a.length + 1 := aC _ _
  obtain ⟨hw1, hw2, hw3⟩ := sP ha hn hg
  obtain ⟨hs1, hs2⟩ := Bo ha hn hg
  have hsm := (oS ha n i).2
  have ht : a.getD i 0 * 2 ^ n < 18446744073709551616 := by
   have h1 := ba ha i
   have h2 : 2 ^ n <= 4294967296 := Nat.le_trans (Nat.pow_le_pow_right (by decide) hn) (by decide)
   have h3 : a.getD i 0 * 2 ^ n <= 4294967295 * 4294967296 := Nat.mul_le_mul (by omega) h2
   omega
  have hmod : a.getD i 0 * 2 ^ n % 4294967296 % 2 ^ n = 0 := by
   have : 4294967296 = 2 ^ n * 2 ^ (32 - n) := by rw [<- Nat.pow_add, show n + (32 - n) = 32 from by omega]
   rw [this, Nat.mul_comm (a.getD i 0), Nat.mul_mod_mul_left, Nat.mul_mod_right]
  refine ak ?_;show AWP _ _ _ _ _ _;refine ag ?_;refine al ?_;refine gQ fun _ O=>?_;refine Z9 ?_;refine ae rfl (im (i := i) rfl rfl rfl rfl rfl hg) rfl ?_;refine Z7 ?_;refine Z8 ?_;refine Z8 ?_;refine eQ O ?_;clear O;refine gQ fun _ O=>?_;refine Z9 ?_;refine aV rfl (aW rfl rfl rfl (dm (ha.lt64 i))) rfl ?_;refine Z9 ?_;refine av rfl (pI (s := n) (z := a.getD i 0 * 2 ^ n) (by omega) (Nat.mod_eq_of_lt ht)) rfl ?_;refine Z8 ?_;refine eQ O ?_;clear O;refine gQ fun _ O=>?_;refine Z9 ?_;refine Z9 ?_;refine ae rfl (x_o (i := i) (j := i) rfl rfl rfl rfl rfl (by omega) (by omega)) rfl ?_;refine bb rfl ((lV rfl rfl rfl rfl (by omega)).trans (by rw [hw1])) rfl ?_;refine Z9 ?_;refine aV rfl (aW rfl rfl rfl (ew _)) rfl ?_;refine av rfl (D4 (s := n) hsm hmod hs2 rfl) rfl ?_;refine ae rfl (x_o (i := i) (j := i) rfl rfl rfl rfl rfl (by omega) (by omega)) rfl ?_;refine aj rfl (lB rfl rfl rfl (by omega)) rfl rfl rfl ?_;refine eQ O ?_;clear O;refine gR fun _ O=>?_;refine Z9 ?_;refine Z9 ?_;refine av rfl (aP (c := ((i + 1 : Nat) : Int)) (by omega) (by omega)) rfl ?_;refine Z9 ?_;refine av rfl (j3 (s := 32) (by omega) rfl) rfl ?_;refine aV rfl (aW (m := ((a.getD i 0 * 2 ^ n / 4294967296 : Nat) : Int)) rfl rfl rfl (by rw [ew, Nat.mod_eq_of_lt (by omega)])) rfl ?_;refine ae rfl (x_o (i := i + 1) (j := i + 1) rfl rfl rfl rfl rfl (by omega) (by omega)) rfl ?_;refine aj rfl (lB rfl rfl rfl (by rw [List.length_set]; omega)) rfl rfl rfl ?_;refine eQ O ?_;clear O;show AWP _ _ _ _ _ _;refine gR fun _ O=>?_;refine av rfl (aP (c := ((i + 1 : Nat) : Int)) (by omega) (by omega)) rfl ?_;refine Z9 ?_;refine eQ O ?_;clear O;refine ⟨i + 1, by omega, hg, Wk.mk' ⟨rfl, rfl, rfl, rfl, rfl, trivial⟩ ⟨?_, trivial⟩⟩;rw [<- hs1]; rfl
 ·have hg : i = a.length := by simp at hg; omega
  subst hg
  refine aD ?_;show AWP _ _ _ _ _ _;refine gQ fun _ O=>?_;refine Z9 ?_;refine Z8 ?_;refine eQ O ?_;clear O;refine ah ?_;refine tp (wP (by rfl) ?_);rw [List.take_of_length_le (Nat.le_refl _)]; rfl
theorem xk (a : List Nat) (n : Nat) (ha : wOK a) (hn : n <= 31) (la : a.length <= 1073741824) :
  Con Tryz.prog 151 [V1 (dW a), dL n] { v := V1 (dW (a8 (a.length + 1) (wv a * 2 ^ n))) } :=
 Con.data (by simp [aC]) (oR a n ha hn la)
end Go.Proofs.YtceacleokgoooaaGreatDoor

/- Magnitudes: copies, long division. No condition. -/
namespace Go.Proofs.YtceacleokgoooaaGreatDoor
attribute [local irreducible] aF

theorem iC {m n : Nat} : gT m n < 0 ↔ m < n := by
 unfold gT
 by_cases h : m < n
 ·simp [h]
 ·rw [if_neg h]; split <;> omega
theorem kv (a : List Nat) (la : a.length <= 1073741824) : Con Tryz.prog 105 [V1 (dW a)] { v := V1 (dW a) } := by
 refine Z3 Tryz.func105 ?_
 intro w0 X
 rw [aq _ _ [(0, V1 (dW a))] rfl rfl];refine gQ fun _ O=>?_;refine Z8 ?_;refine eQ O ?_;clear O;refine ag ?_;refine mV (es := a.map cW) tok rfl rfl rfl rfl rfl rfl rfl rfl rfl rfl fun b hb => ?_;rw [eI, eI];refine ap rfl (fun hc => ?_) (fun hc => ?_)
 ·have h0 : a = [] := by simpa using hb hc
  subst h0
  refine gQ fun _ O=>?_;refine Z8 ?_;refine eQ O ?_;clear O;exact ah aT
 ·refine ak ?_;show AWP _ _ _ _ _ _;refine gQ fun _ O=>?_;refine ax rfl rfl rfl rfl ?_;refine Z9 ?_;refine aN rfl (et (es := []) rfl rfl rfl rfl rfl rfl (by decide) (Nat.le_of_ble_eq_true rfl) rfl sy rfl rfl rfl (by simp; omega)) rfl rfl rfl ?_;refine Z8 ?_;refine eQ O ?_;clear O;refine dK [2] [7] 7 [(2, V1 (dW a))] [] rfl ?_ trivial ?_
  ·exact ⟨jG (by simp) (by simp), trivial⟩
  exact ah aT

set_option maxHeartbeats 1000000 in
theorem AD (a b : List Nat) (ha : wOK a) (hb : wOK b) (ta : jM a) (tb : jM b) (hne : b ≠ []) (la : a.length <= 1073741824) (lb : b.length <= 1073741824) :
  Con Tryz.prog 122 [V1 (dW a), V1 (dW b)] { v := .tup [.one (.d (dW (nH a b))), .one (.d (dW (nG a b)))] } := by
 have hb0 : 0 < wv b := Nat.lt_of_lt_of_le (pow_pos _) (lg tb hne)
 have hbl : 0 < b.length := List.length_pos_iff.2 hne
 refine Z3 Tryz.func122 ?_
 intro w0 X
 rw [aq _ _ [(0, V1 (dW a)), (1, V1 (dW b))] rfl rfl];refine gQ fun _ O=>?_;refine Z8 ?_;refine Z8 ?_;refine eQ O ?_;clear O;refine ag ?_;refine gQ fun _ O=>?_;refine Z9 ?_;refine Z9 ?_;refine ac rfl rfl (mO a b ha hb ta tb la lb) rfl rfl rfl rfl ?_;refine Z6 ?_;refine eQ O ?_;clear O;refine ap rfl (fun hc => ?_) (fun hc => ?_)
 ·have hc : wv a < wv b := by
   exact iC.1 (of_decide_eq_true hc)
  refine gQ fun _ O=>?_;refine Z9 ?_;refine ac rfl rfl (kv a la) rfl rfl rfl rfl ?_;refine Z8 ?_;refine Z8 ?_;refine eQ O ?_;clear O;exact ah (bz (h3 := by unfold nH nG; rw [if_pos hc, if_pos hc]; rfl))
 have hc : wv b <= wv a := by
  have := mt iC.2 (of_decide_eq_false hc)
  omega
 refine ak ?_;show AWP _ _ _ _ _ _;refine ag ?_;refine gQ fun _ O=>?_;refine Z9 ?_;refine az rfl (aZ rfl rfl rfl) rfl ?_;refine Z6 ?_;refine eQ O ?_;clear O;refine ap rfl (fun h1 => ?_) (fun h1 => ?_)
 ·have h1 : b.length = 1 := by simp at h1; omega
  obtain ⟨d, rfl⟩ := List.length_eq_one_iff.1 h1
  have hd : wv [d] = d := by simp [wv]
  rw [hd] at hb0;refine gQ fun _ O=>?_;refine Z9 ?_;refine Z9 ?_;refine ae rfl (im (i := 0) rfl rfl rfl rfl rfl (by simp)) rfl ?_;refine Z7 ?_;refine ac rfl rfl (rz a d ha hb0 (hb d (by simp)) la) rfl rfl rfl rfl ?_;refine Z9 ?_;refine au rfl rfl rfl ?_;refine au rfl rfl rfl ?_;refine Z8 ?_;refine Z8 ?_;refine eQ O ?_;clear O;refine gQ fun _ O=>?_;refine Z9 ?_;refine Z9 ?_;refine ax rfl rfl rfl rfl ?_;refine Z8 ?_;refine Z8 ?_;refine eQ O ?_;clear O
  have e1 : nH a [d] = a8 a.length (wv a / d) := by unfold nH; rw [if_neg (by omega), if_pos h1, hd]
  have e2 : nG a [d] = [wv a % d] := by unfold nG; rw [if_neg (by omega), if_pos h1, hd]
  exact ah (bz (h3 := by rw [e1, e2]; rfl))
 have h1 : 2 <= b.length := by simp at h1; omega
 have hla : b.length <= a.length := by
  rcases Nat.lt_or_ge a.length b.length with h' | h'
  ·have := iS ha tb h'; omega
  ·exact h'
 -- the shift
 obtain ⟨n, hn⟩ : ∃ n, n = 32 - bl (b.getD (b.length - 1) 0) := ⟨_, rfl⟩
 have htop0 : b.getD (b.length - 1) 0 ≠ 0 := by
  have := tb hne
  rw [List.getLast_eq_getElem] at this;rw [dS (by omega)]; exact this
 have hbl32 : bl (b.getD (b.length - 1) 0) <= 32 := AN (ba hb _)
 obtain ⟨hbb1, hbb2, hbb3⟩ := x6 htop0
 have hn31 : n <= 31 := by omega
 have hpn : 2 ^ n * 2 ^ bl (b.getD (b.length - 1) 0) = 4294967296 := by rw [<- Nat.pow_add, show n + bl (b.getD (b.length - 1) 0) = 32 from by omega]
 have hbsplit : wv b = wv (b.take (b.length - 1)) + b.getD (b.length - 1) 0 * 4294967296 ^ (b.length - 1) := by
  have := ci b (b.length - 1)
  rwa [show b.length - 1 + 1 = b.length from by omega, List.take_of_length_le (Nat.le_refl _)] at this
 have hblow := ce hb (b.length - 1)
 obtain ⟨V, hV⟩ : ∃ V, V = wv b * 2 ^ n := ⟨_, rfl⟩
 have hVlt : V < 4294967296 ^ b.length := by
  have e1 : wv b < (b.getD (b.length - 1) 0 + 1) * 4294967296 ^ (b.length - 1) := by rw [hbsplit, Nat.add_mul]; omega
  have e2 : (b.getD (b.length - 1) 0 + 1) * 4294967296 ^ (b.length - 1) <= 2 ^ bl (b.getD (b.length - 1) 0) * 4294967296 ^ (b.length - 1) := Nat.mul_le_mul_right _ hbb2
  have e3 : wv b * 2 ^ n < 2 ^ bl (b.getD (b.length - 1) 0) * 4294967296 ^ (b.length - 1) * 2 ^ n := Nat.mul_lt_mul_of_pos_right (by omega) (Nat.two_pow_pos n)
  have e4 : 2 ^ bl (b.getD (b.length - 1) 0) * 4294967296 ^ (b.length - 1) * 2 ^ n = 4294967296 ^ (b.length - 1) * (2 ^ n * 2 ^ bl (b.getD (b.length - 1) 0)) := by grind
  rw [e4, hpn, <- Nat.pow_succ, show (b.length - 1).succ = b.length from by omega] at e3;rw [hV]; exact e3
 have hVge : 2147483648 * 4294967296 ^ (b.length - 1) <= V := by
  have e1 : 2 ^ (bl (b.getD (b.length - 1) 0) - 1) * 4294967296 ^ (b.length - 1) <= wv b := by
   rw [hbsplit]
   have := Nat.mul_le_mul_right (4294967296 ^ (b.length - 1)) hbb1
   omega
  have e2 := Nat.mul_le_mul_right (2 ^ n) e1
  have e3 : 2 ^ (bl (b.getD (b.length - 1) 0) - 1) * 2 ^ n = 2147483648 := by rw [<- Nat.pow_add, show bl (b.getD (b.length - 1) 0) - 1 + n = 31 from by omega]
  have e4 : 2 ^ (bl (b.getD (b.length - 1) 0) - 1) * 4294967296 ^ (b.length - 1) * 2 ^ n = (2 ^ (bl (b.getD (b.length - 1) 0) - 1) * 2 ^ n) * 4294967296 ^ (b.length - 1) := by grind
  rw [e4, e3] at e2;rw [hV]; exact e2
 have hV0 : 0 < V := by rw [hV]; exact Nat.mul_pos hb0 (Nat.two_pow_pos n)
 obtain ⟨vs, hvs⟩ : ∃ vs, vs = a8 b.length V := ⟨_, rfl⟩
 have ov : wOK vs := by rw [hvs]; exact bV _ _
 have lv : vs.length = b.length := by rw [hvs, aC]
 have vv : wv vs = V := by rw [hvs, b7, Nat.mod_eq_of_lt hVlt]
 have hv1 : 2147483648 <= vs.getD (b.length - 1) 0 := by
  have : vs.getD (b.length - 1) 0 = V / 4294967296 ^ (b.length - 1) := by
   rw [hvs, mj _ (by omega), Nat.mod_eq_of_lt];rw [Nat.div_lt_iff_lt_mul (pow_pos _), Nat.mul_comm, <- Nat.pow_succ, show (b.length - 1).succ = b.length from by omega];exact hVlt
  rw [this, Nat.le_div_iff_mul_le (pow_pos _)]; exact hVge
 have hv1l : vs.getD (b.length - 1) 0 < 4294967296 := ba ov _
 have hv2l : vs.getD (b.length - 2) 0 < 4294967296 := ba ov _
 obtain ⟨U, hU⟩ : ∃ U, U = wv a * 2 ^ n := ⟨_, rfl⟩
 have hUlt : U < 4294967296 ^ (a.length + 1) := by
  have := yP ha hn31 a.length
  rwa [List.take_of_length_le (Nat.le_refl _), <- hU] at this
 obtain ⟨us, hus⟩ : ∃ us, us = a8 (a.length + 1) U := ⟨_, rfl⟩
 have ou : wOK us := by rw [hus]; exact bV _ _
 have lu : us.length = a.length + 1 := by rw [hus, aC]
 have uu : wv us = U := by rw [hus, b7, Nat.mod_eq_of_lt hUlt]
 have hstart : wv (us.drop (a.length + 1 - b.length)) < V := by
  rw [nM ou, uu, Nat.div_lt_iff_lt_mul (pow_pos _), hU, hV]
  have e1 := lg tb hne
  have e2 := ee ha
  have e3 : wv b * 4294967296 ^ (a.length + 1 - b.length) >= 4294967296 ^ a.length := by
   have := Nat.mul_le_mul_right (4294967296 ^ (a.length + 1 - b.length)) e1
   rwa [<- Nat.pow_add, show b.length - 1 + (a.length + 1 - b.length) = a.length from by omega] at this
  have e4 : wv b * 2 ^ n * 4294967296 ^ (a.length + 1 - b.length) = (wv b * 4294967296 ^ (a.length + 1 - b.length)) * 2 ^ n := by grind
  rw [e4];exact Nat.mul_lt_mul_of_pos_right (by omega) (Nat.two_pow_pos n)
 refine ak ?_;show AWP _ _ _ _ _ _;refine gQ fun _ O=>?_;refine Z9 ?_;refine Z9 ?_;refine az rfl (aZ rfl rfl rfl) rfl ?_;refine av rfl (bZ (c := ((b.length - 1 : Nat) : Int)) (by omega) (by omega)) rfl ?_;refine ae rfl (im (i := b.length - 1) rfl rfl rfl rfl rfl (by omega)) rfl ?_;refine Z7 ?_;refine ac rfl rfl (DQ (b.getD (b.length - 1) 0) (ba hb _)) rfl rfl rfl rfl ?_;refine aV rfl (aW (m := (n : Int)) rfl rfl rfl (by rw [show (32 - (bl (b.getD (b.length - 1) 0) : Int)) = ((32 - bl (b.getD (b.length - 1) 0) : Nat) : Int) by omega, <- hn]; exact dm (by omega))) rfl ?_;refine Z8 ?_;refine eQ O ?_;clear O;refine aL tok mixed (A := [[], [], [], [], [], [0, 1], [], [], [0, 1, 2, 3, 4, 6], [3, 4], []]) (an := [{}, {}, {}, { c := [57] }, { c := [57] }, {}, { c := [57, 60] }, { c := [57, 60] }, {}, {}, {}]) rfl (by kernel_rfl) rfl fun _ O=>?_;refine Z9 ?_;refine Z9 ?_;refine v6 rfl rfl (oR a n ha hn31 la) (Or.inl rfl) rfl rfl rfl rfl ?_;refine Z9 ?_;refine Z9 ?_;refine ac rfl rfl (xk b n hb hn31 lb) rfl rfl rfl rfl ?_;refine Z9 ?_;refine az rfl (aZ rfl rfl rfl) rfl ?_;refine gP rfl rfl rfl (Dk (lo := 0) (hi := b.length) rfl rfl rfl rfl rfl rfl (by omega) (by rw [aC]; omega)) rfl ?_;refine Z8 ?_;refine Z8 ?_;refine eQ O ?_;clear O;refine c8 [(8, dL n), (9, .val (.one (.own 57 1 0 (a.length + 1)))), (10, V1 (dW vs))] [(57, some (.arr 1 (us.map cW)))] ⟨rfl, rfl, ?_, trivial⟩ ⟨by rw [hus, hU]; rfl, trivial⟩ ?_
 ·show V1 (dW _) = _
  rw [List.drop_zero, xg, hvs, hV]
 refine gQ fun _ O=>?_;refine Z9 ?_;refine az rfl (aZ rfl rfl lv) rfl ?_;refine Z8 ?_;refine eQ O ?_;clear O;refine gQ fun _ O=>?_;refine Z9 ?_;refine az rfl rfl rfl ?_;refine Z9 ?_;refine av rfl (bZ (c := ((a.length + 1 - b.length : Nat) : Int)) (by omega) (by omega)) rfl ?_;refine bP (sz := _) (es := _) (f := _) (v := _) rfl (tE (l := a.length + 1 - b.length) (c := a.length + 1 - b.length) rfl rfl rfl rfl rfl (Nat.le_of_ble_eq_true rfl) rfl rfl (by omega) (by omega)) rfl rfl ?_;refine Z8 ?_;refine eQ O ?_;clear O;refine ag ?_;refine gQ fun _ O=>?_;refine Z9 ?_;refine az rfl rfl rfl ?_;refine Z9 ?_;refine av rfl (bZ (c := ((a.length + 1 - b.length : Nat) : Int)) (by omega) (by omega)) rfl ?_;refine av rfl (bZ rfl (by omega)) rfl ?_;refine Z8 ?_;refine eQ O ?_;clear O;refine al (aS (α := List Nat × List Nat × Nat) (fun p => mk 273 [(8, dL n), (9, .val (.one (.own 57 1 0 (a.length + 1)))), (10, V1 (dW vs)), (11, dI b.length), (12, .val (.one (.own 70 1 0 (a.length + 1 - b.length)))), (13, dI ((p.2.2 : Int) - 1))] [(57, some (.arr 1 (p.1.map cW))), (70, some (.arr 1 (p.2.1.map cW)))] []) (fun p => p.2.2 <= a.length + 1 - b.length /\ WDV U V (a.length + 1) b.length p.1 p.2.1 p.2.2) (fun p => p.2.2) (us, List.replicate (a.length + 1 - b.length) 0, a.length + 1 - b.length) ?_ ⟨Nat.le_refl _, ?_⟩ ?_)
 ·exact Wk.mk' ⟨rfl, rfl, rfl, rfl, rfl, rfl, trivial⟩ ⟨rfl, rfl, trivial⟩
 ·have := WDV.start (V := V) (k := b.length) (n := a.length + 1 - b.length) ou (by omega) hstart
  rw [uu, lu] at this;exact this
 rintro ⟨u, q, m⟩ ⟨hm, hdv⟩
 simp only at hm hdv
 have hlu := hdv.lenu
 have hlq := hdv.lenq
 show AWP _ _ _ _ _ (mk 273 [(8, dL n), (9, .val (.one (.own 57 1 0 (a.length + 1)))), (10, V1 (dW vs)), (11, dI b.length), (12, .val (.one (.own 70 1 0 (a.length + 1 - b.length)))), (13, dI ((m : Int) - 1))] [(57, some (.arr 1 (u.map cW))), (70, some (.arr 1 (q.map cW)))] []);refine ag ?_;refine gQ fun _ O=>?_;refine Z9 ?_;refine Z6 ?_;refine eQ O ?_;clear O;refine ap rfl (fun hg => ?_) (fun hg => ?_)
 ·obtain ⟨j, rfl⟩ : ∃ j, m = j + 1 := ⟨m - 1, by simp at hg; omega⟩
  have hj : j < q.length := by omega
  have hdv' := hdv
  rw [<- vv, <- lv] at hdv'
  obtain ⟨dv, du, dl1, dl2, hUs⟩ := hdv'.digits ov (by omega)
  rw [lv] at dv du dl1 dl2 hUs;rw [vv] at dv
  have ouu := hdv.oku
  obtain ⟨D, hD⟩ : ∃ D, D = wv (u.drop j) := ⟨_, rfl⟩
  rw [<- hD] at du
  have hDW : D < 4294967296 * V := by
   have h2 := hdv.top
   have h3 := ba ouu j
   rw [hD, gM]
   omega
  have hT0 := ba ouu (j + b.length - 1)
  have hT1 := ba ouu (j + b.length)
  have hT2 := ba ouu (j + b.length - 2)
  generalize hw : 4294967296 ^ (b.length - 2) = w at *;generalize wv ((u.drop j).take (b.length - 2)) = dlow at *;generalize wv (vs.take (b.length - 2)) = vlow at *;generalize hv1e : vs.getD (b.length - 1) 0 = v1 at *;generalize hv2e : vs.getD (b.length - 2) 0 = v2 at *;generalize hT0e : u.getD (j + b.length - 1) 0 = T0 at *;generalize hT1e : u.getD (j + b.length) 0 = T1 at *;generalize hT2e : u.getD (j + b.length - 2) 0 = T2 at *
  have hVl : (v1 * 4294967296 + v2) * w <= V := by rw [dv]; exact Nat.le_add_right _ _
  have hVr : V < (v1 * 4294967296 + v2 + 1) * w := by rw [dv, Nat.add_mul _ 1, Nat.one_mul]; exact Nat.add_lt_add_left dl1 _
  have hDl : ((T1 * 4294967296 + T0) * 4294967296 + T2) * w <= D := by rw [du]; exact Nat.le_add_right _ _
  have hDr : D < ((T1 * 4294967296 + T0) * 4294967296 + T2 + 1) * w := by rw [du, Nat.add_mul _ 1, Nat.one_mul]; exact Nat.add_lt_add_left dl2 _
  have hw0 : 0 < w := by rw [<- hw]; exact pow_pos _
  have hT1v : T1 <= v1 := by
   have e1 : (T1 * (4294967296 * 4294967296)) * w <= D := Nat.le_trans (Nat.mul_le_mul_right _ (by omega)) hDl
   have e2 : 4294967296 * V < (4294967296 * ((v1 + 1) * 4294967296)) * w := by
    have : 4294967296 * V < 4294967296 * ((v1 * 4294967296 + v2 + 1) * w) := Nat.mul_lt_mul_of_pos_left hVr (by decide)
    rw [<- Nat.mul_assoc] at this;exact Nat.lt_of_lt_of_le this (Nat.mul_le_mul_right _ (by omega))
   have e3 := Nat.lt_of_mul_lt_mul_right (a := w) (show (T1 * (4294967296 * 4294967296)) * w < (4294967296 * ((v1 + 1) * 4294967296)) * w by omega)
   omega
  obtain ⟨top, htope⟩ : ∃ top, T1 * 4294967296 + T0 = top := ⟨_, rfl⟩
  rw [htope] at hDl hDr;clear du
  have htopl : top < 18446744073709551616 := by omega
  have hg0 : top / v1 <= 4294967297 := by
   have : top / v1 < 4294967298 := by
    rw [Nat.div_lt_iff_lt_mul (by omega)]; omega
   omega
  refine ak ?_;show AWP _ _ _ _ _ _;refine ag ?_;refine al ?_;refine c8 [(8, dL n), (9, .val (.one (.own 57 1 0 (a.length + 1)))), (10, V1 (dW vs)), (11, dI b.length), (12, .val (.one (.own 70 1 0 (a.length + 1 - b.length)))), (13, dI j)] [(57, some (.arr 1 (u.map cW))), (70, some (.arr 1 (q.map cW)))] ⟨rfl, rfl, rfl, rfl, rfl, by show dI _ = dI _; congr; omega, trivial⟩ ⟨rfl, rfl, trivial⟩ ?_;refine aL tok mixed (A := [[], [], [], [], [1, 2], [0, 1, 2, 3], [0, 1, 2, 3, 4], [0, 1, 2, 3, 4, 5], [], [], [], [], [9, 10], [9, 10, 11], [8, 9, 10, 11, 12], [8, 9, 10, 11, 12, 13], [0, 1, 2, 3, 4, 5, 6, 8, 9, 10, 11, 12, 13, 14], []]) (an := [{}, {}, {}, {}, {}, {}, {}, {}, {}, {}, {}, {}, {}, {}, {}, {}, {}, {}]) rfl (by kernel_rfl) rfl fun _ O=>?_;refine Z9 ?_;refine Z9 ?_;refine Z9 ?_;refine av rfl (aP (c := ((j + b.length : Nat) : Int)) (by omega) (by omega)) rfl ?_;refine ae rfl (x_o (i := j + b.length) (j := j + b.length) rfl rfl rfl rfl rfl (by omega) (by omega)) rfl ?_;refine bb rfl ((lV rfl rfl rfl rfl (by omega)).trans (by rw [hT1e])) rfl ?_;refine aV rfl (aW rfl rfl rfl (dm (by omega))) rfl ?_;refine av rfl (pI (s := 32) (z := T1 * 4294967296) (by omega) (by show T1 * 4294967296 % _ = _; omega)) rfl ?_;refine Z9 ?_;refine Z9 ?_;refine Z9 ?_;refine av rfl (aP (c := ((j + b.length : Nat) : Int)) (by omega) (by omega)) rfl ?_;refine av rfl (bZ (c := ((j + b.length - 1 : Nat) : Int)) (by omega) (by omega)) rfl ?_;refine ae rfl (x_o (i := j + b.length - 1) (j := j + b.length - 1) rfl rfl rfl rfl rfl (by omega) (by omega)) rfl ?_;refine bb rfl ((lV rfl rfl rfl rfl (by omega)).trans (by rw [hT0e])) rfl ?_;refine aV rfl (aW rfl rfl rfl (dm (by omega))) rfl ?_;refine av rfl (wU (s := 32) (z := top) (by show T1 * 4294967296 % 4294967296 = 0; omega) (by omega) htopl htope) rfl ?_;refine Z8 ?_;refine eQ O ?_;clear O;refine aL tok mixed (A := [[], [], [], [], [2], [1, 2, 3], [1, 2, 3, 4], [1, 2, 3, 4, 5], [], [], [], [], [10], [9, 10, 11], [9, 10, 11, 12], [9, 10, 11, 12, 13], [], []]) (an := [{}, {}, {}, {}, {}, {}, {}, {}, {}, {}, {}, {}, {}, {}, {}, {}, {}, {}]) rfl (by kernel_rfl) rfl fun _ O=>?_;refine Z9 ?_;refine Z9 ?_;refine Z9 ?_;refine av rfl (bZ (c := ((b.length - 1 : Nat) : Int)) (by omega) (by omega)) rfl ?_;refine ae rfl (im (i := b.length - 1) rfl rfl rfl rfl rfl (by omega)) rfl ?_;refine Z7 ?_;refine aV rfl (aW (m := (v1 : Int)) rfl rfl rfl (by rw [hv1e]; exact dm (by omega))) rfl ?_;refine av rfl (Av (by omega) htopl rfl) rfl ?_;refine Z9 ?_;refine Z9 ?_;refine Z9 ?_;refine av rfl (bZ (c := ((b.length - 1 : Nat) : Int)) (by omega) (by omega)) rfl ?_;refine ae rfl (im (i := b.length - 1) rfl rfl rfl rfl rfl (by omega)) rfl ?_;refine Z7 ?_;refine aV rfl (aW (m := (v1 : Int)) rfl rfl rfl (by rw [hv1e]; exact dm (by omega))) rfl ?_;refine av rfl (At (by omega) rfl) rfl ?_;refine Z8 ?_;refine Z8 ?_;refine eQ O ?_;clear O;refine bd (α := Nat) (fun g => mk 273 [(8, dL n), (9, .val (.one (.own 57 1 0 (a.length + 1)))), (10, V1 (dW vs)), (11, dI b.length), (12, .val (.one (.own 70 1 0 (a.length + 1 - b.length)))), (13, dI j), (15, dL g)] [(57, some (.arr 1 (u.map cW))), (70, some (.arr 1 (q.map cW)))] []) (fun g => g < 4294967296 /\ D < (g + 1) * V /\ g * V <= D + V) ?_ ?_
  ·refine al (aS (α := Nat × Nat) (fun p => mk 273 [(8, dL n), (9, .val (.one (.own 57 1 0 (a.length + 1)))), (10, V1 (dW vs)), (11, dI b.length), (12, .val (.one (.own 70 1 0 (a.length + 1 - b.length)))), (13, dI j), (15, dL p.1), (16, dL p.2)] [(57, some (.arr 1 (u.map cW))), (70, some (.arr 1 (q.map cW)))] []) (fun p => p.1 * v1 + p.2 = top /\ p.2 < 4294967296 /\ p.1 <= 4294967297 /\ D < (p.1 + 1) * V) (fun p => p.1) (top / v1, top % v1) ?_ ⟨?_, ?_, hg0, ?_⟩ ?_)
   ·exact Wk.mk' ⟨rfl, rfl, rfl, rfl, rfl, rfl, rfl, rfl, trivial⟩ ⟨rfl, rfl, trivial⟩
   ·rw [Nat.mul_comm]; exact Nat.div_add_mod top v1
   ·exact Nat.lt_trans (Nat.mod_lt _ (by omega)) hv1l
   ·exact tQ hVl hDr (by omega) hT2
   rintro ⟨g, r⟩ ⟨i1, i2, i3, i4⟩
   simp only at i1 i2 i3 i4
   show AWP _ _ _ _ _ (mk 273 [(8, dL n), (9, .val (.one (.own 57 1 0 (a.length + 1)))), (10, V1 (dW vs)), (11, dI b.length), (12, .val (.one (.own 70 1 0 (a.length + 1 - b.length)))), (13, dI j), (15, dL g), (16, dL r)] [(57, some (.arr 1 (u.map cW))), (70, some (.arr 1 (q.map cW)))] []);refine ag ?_;refine bd (α := Bool) (fun c => mk 273 [(8, dL n), (9, .val (.one (.own 57 1 0 (a.length + 1)))), (10, V1 (dW vs)), (11, dI b.length), (12, .val (.one (.own 70 1 0 (a.length + 1 - b.length)))), (13, dI j), (15, dL g), (16, dL r), (136, dB c)] [(57, some (.arr 1 (u.map cW))), (70, some (.arr 1 (q.map cW)))] []) (fun c => (c = true -> 4294967296 <= g \/ r * 4294967296 + T2 < g * v2) /\ (c = false -> g < 4294967296 /\ g * v2 <= r * 4294967296 + T2)) ?_ ?_
   ·refine br tok mixed (A := [[], [], [0], [0, 1], [0, 1], [0, 1], [0, 1], [0, 1, 5], [0, 1, 4, 5, 6], [0, 1, 4, 5, 6, 7], [0, 1, 4, 5, 6, 7, 8], [0, 1], [0, 1], [0, 1], [0, 1], [0, 1], [0, 1], [0, 1, 14, 15], [0, 1, 14, 15, 16], [0, 1, 13, 14, 15, 16, 17], [0, 1, 13, 14, 15, 16, 17, 18], [0, 1, 11, 13, 14, 15, 16, 17, 18, 19], [0, 1, 3, 4, 5, 6, 7, 8, 9, 11, 12, 13, 14, 15, 16, 17, 18, 19, 20], [0, 1, 3, 4, 5, 6, 7, 8, 9, 10, 11, 12, 13, 14, 15, 16, 17, 18, 19, 20, 21]]) (an := [{}, {}, {}, {}, {}, {}, {}, {}, {}, {}, {}, {}, {}, {}, {}, {}, {}, {}, {}, {}, {}, {}, {}, {}]) rfl (by kernel_rfl) rfl fun _ O=>?_;refine Z9 ?_;refine Z6 ?_;refine Z9 ?_;refine ep (fun hb => ?_) (fun hb => ?_)
    ·have hb : 4294967296 <= g := by simp at hb; omega
     refine aA rfl ?_;refine aA rfl ?_;refine aA rfl ?_;refine aA rfl ?_;refine aA rfl ?_;refine aA rfl ?_;refine aA rfl ?_;refine aA rfl ?_;refine aA rfl ?_;refine aA rfl ?_;refine aA rfl ?_;refine aA rfl ?_;refine aA rfl ?_;refine aA rfl ?_;refine aA rfl ?_;refine aA rfl ?_;refine aA rfl ?_;refine aA rfl ?_;refine aA rfl ?_;refine aA rfl ?_;refine Z4 ?_;refine eQ O ?_;clear O;exact ⟨true, ⟨fun _ => Or.inl hb, fun h => by cases h⟩, Wk.mk' ⟨rfl, rfl, rfl, rfl, rfl, rfl, rfl, rfl, rfl, trivial⟩ ⟨rfl, rfl, trivial⟩⟩
    ·have hb : g < 4294967296 := by simp at hb; omega
     have hgv : g * v2 < 18446744073709551616 := by
      have : g * v2 <= 4294967295 * 4294967295 := Nat.mul_le_mul (by omega) (by omega)
      omega
     refine Z9 ?_;refine Z9 ?_;refine Z9 ?_;refine av rfl (bZ (c := ((b.length - 2 : Nat) : Int)) (by omega) (by omega)) rfl ?_;refine ae rfl (im (i := b.length - 2) rfl rfl rfl rfl rfl (by omega)) rfl ?_;refine Z7 ?_;refine aV rfl (aW (m := (v2 : Int)) rfl rfl rfl (by rw [hv2e]; exact dm (by omega))) rfl ?_;refine av rfl (vq rfl hgv) rfl ?_;refine Z9 ?_;refine av rfl (pI (s := 32) (z := r * 4294967296) (by omega) (by show r * 4294967296 % _ = _; omega)) rfl ?_;refine Z9 ?_;refine Z9 ?_;refine Z9 ?_;refine av rfl (aP (c := ((j + b.length : Nat) : Int)) (by omega) (by omega)) rfl ?_;refine av rfl (bZ (c := ((j + b.length - 2 : Nat) : Int)) (by omega) (by omega)) rfl ?_;refine ae rfl (x_o (i := j + b.length - 2) (j := j + b.length - 2) rfl rfl rfl rfl rfl (by omega) (by omega)) rfl ?_;refine bb rfl ((lV rfl rfl rfl rfl (by omega)).trans (by rw [hT2e])) rfl ?_;refine aV rfl (aW rfl rfl rfl (dm (by omega))) rfl ?_;refine av rfl (wU (s := 32) (by show r * 4294967296 % 4294967296 = 0; omega) (by omega) (by omega) rfl) rfl ?_;refine Z6 ?_;refine Z4 ?_;refine eQ O ?_;clear O;refine ⟨_, ⟨?_, ?_⟩, Wk.mk' ⟨rfl, rfl, rfl, rfl, rfl, rfl, rfl, rfl, rfl, trivial⟩ ⟨rfl, rfl, trivial⟩⟩
     ·intro h; simp only [gt_iff_lt, decide_eq_true_eq] at h; right; omega
     ·intro h; simp only [gt_iff_lt, decide_eq_false_iff_not] at h; exact ⟨hb, by omega⟩
   rintro c ⟨hct, hcf⟩
   refine ap rfl (fun hc => ?_) (fun hc => ?_)
   ·have hlow : D < g * V := by
     rcases hct hc with h | h
     ·exact Nat.lt_of_lt_of_le hDW (Nat.mul_le_mul_right _ h)
     ·exact vk hVl hDr i1 h
    have hgp : 0 < g := by
     rcases Nat.eq_zero_or_pos g with h | h
     ·subst h; rw [Nat.zero_mul] at hlow; omega
     ·exact h
    obtain ⟨g', rfl⟩ : ∃ g', g = g' + 1 := ⟨g - 1, by omega⟩
    have i1' : g' * v1 + (r + v1) = top := by rw [<- i1, Nat.add_mul]; omega
    refine ak ?_;show AWP _ _ _ _ _ _;refine al ?_;refine gQ fun _ O=>?_;refine Z9 ?_;refine av rfl (Ar (x := g' + 1) (y := 1) (z := g') rfl (by omega)) rfl ?_;refine Z8 ?_;refine eQ O ?_;clear O;refine gQ fun _ O=>?_;refine Z9 ?_;refine Z9 ?_;refine Z9 ?_;refine av rfl (bZ (c := ((b.length - 1 : Nat) : Int)) (by omega) (by omega)) rfl ?_;refine ae rfl (im (i := b.length - 1) rfl rfl rfl rfl rfl (by omega)) rfl ?_;refine Z7 ?_;refine aV rfl (aW (m := (v1 : Int)) rfl rfl rfl (by rw [hv1e]; exact dm (by omega))) rfl ?_;refine av rfl (j4 rfl (by omega)) rfl ?_;refine Z8 ?_;refine eQ O ?_;clear O;refine gQ fun _ O=>?_;refine Z9 ?_;refine Z6 ?_;refine eQ O ?_;clear O;refine ap rfl (fun hr => ?_) (fun hr => ?_)
    ·have hr : 4294967296 <= r + v1 := by simp at hr; omega
     have hgl : g' < 4294967296 := by
      refine Nat.lt_of_mul_lt_mul_right (a := v1) ?_
      omega
     refine aD ?_;exact ⟨g', ⟨hgl, hlow, pk hVl hVr hDl i1' hgl hv1 hv2l (Or.inr hr)⟩, Wk.mk' ⟨rfl, rfl, rfl, rfl, rfl, rfl, rfl, trivial⟩ ⟨rfl, rfl, trivial⟩⟩
    ·have hr : r + v1 < 4294967296 := by simp at hr; omega
     refine ak ?_;exact ⟨(g', r + v1), by simp only; omega, ⟨i1', hr, by simp only; omega, hlow⟩, Wk.mk' ⟨rfl, rfl, rfl, rfl, rfl, rfl, rfl, rfl, trivial⟩ ⟨rfl, rfl, trivial⟩⟩
   ·obtain ⟨h2, h3⟩ := hcf hc
    refine aD ?_;exact ⟨g, ⟨h2, i4, pk hVl hVr hDl i1 h2 hv1 hv2l (Or.inl h3)⟩, Wk.mk' ⟨rfl, rfl, rfl, rfl, rfl, rfl, rfl, trivial⟩ ⟨rfl, rfl, trivial⟩⟩
  rintro g ⟨hgl, hgD, hgV⟩
  subst hD
  have hUs' : wv u < 4294967296 ^ (j + (vs.length + 1)) := by rw [lv]; exact hUs
  have hjk : j + vs.length < u.length := by rw [lv]; omega
  refine gQ fun _ O=>?_;refine Z8 ?_;refine eQ O ?_;clear O;refine gQ fun _ O=>?_;refine Z8 ?_;refine eQ O ?_;clear O;refine ag ?_;refine gQ fun _ O=>?_;refine Z9 ?_;refine az rfl (aZ rfl rfl lv) rfl ?_;refine Z9 ?_;refine eQ O ?_;clear O;refine al (aS (α := List Nat × Nat × Nat × Nat) (fun p => mk 273 [(8, dL n), (9, .val (.one (.own 57 1 0 (a.length + 1)))), (10, V1 (dW vs)), (11, dI b.length), (12, .val (.one (.own 70 1 0 (a.length + 1 - b.length)))), (13, dI j), (15, dL g), (17, dL p.2.1), (18, dU p.2.2.1), (149, V1 (dW vs)), (150, dI b.length), (151, dI p.2.2.2)] [(57, some (.arr 1 (p.1.map cW))), (70, some (.arr 1 (q.map cW)))] []) (fun p => p.2.2.2 <= b.length /\ WMS u vs g j p.2.2.2 p.1 p.2.1 p.2.2.1) (fun p => b.length - p.2.2.2) (u, 0, 0, 0) ?_ ⟨Nat.zero_le _, WMS.start ouu vs g j⟩ ?_)
  ·exact Wk.mk' ⟨rfl, rfl, rfl, rfl, rfl, rfl, rfl, rfl, rfl, rfl, rfl, rfl, trivial⟩ ⟨rfl, rfl, trivial⟩
  rintro ⟨u1, c, bo, i⟩ ⟨hi, hms⟩
  simp only at hi hms
  show AWP _ _ _ _ _ (mk 273 [(8, dL n), (9, .val (.one (.own 57 1 0 (a.length + 1)))), (10, V1 (dW vs)), (11, dI b.length), (12, .val (.one (.own 70 1 0 (a.length + 1 - b.length)))), (13, dI j), (15, dL g), (17, dL c), (18, dU bo), (149, V1 (dW vs)), (150, dI b.length), (151, dI i)] [(57, some (.arr 1 (u1.map cW))), (70, some (.arr 1 (q.map cW)))] [])
  have hl1 := hms.len
  refine gQ fun _ O=>?_;refine Z6 ?_;refine eQ O ?_;clear O;refine ag ?_;refine ap rfl (fun hh => ?_) (fun hh => ?_)
  ·have hh : i < b.length := by simp at hh; omega
   have hB := hms.bound ov hgl
   have hpb : g * vs.getD i 0 < 18446744073709551616 := by omega
   refine ak ?_;show AWP _ _ _ _ _ _;refine ag ?_;refine al ?_;refine gQ fun _ O=>?_;refine Z9 ?_;refine ae rfl (im (i := i) rfl rfl rfl rfl rfl (by omega)) rfl ?_;refine Z7 ?_;refine Z8 ?_;refine Z8 ?_;refine eQ O ?_;clear O;refine gQ fun _ O=>?_;refine Z9 ?_;refine Z9 ?_;refine aV rfl (aW rfl rfl rfl (dm (ov.lt64 i))) rfl ?_;refine av rfl (vq rfl hpb) rfl ?_;refine Z9 ?_;refine av rfl (j4 rfl hB) rfl ?_;refine Z8 ?_;refine eQ O ?_;clear O;refine gQ fun _ O=>?_;refine Z9 ?_;refine av rfl (j3 (s := 32) (by omega) rfl) rfl ?_;refine Z8 ?_;refine eQ O ?_;clear O;refine gR fun _ O=>?_;refine Z9 ?_;refine Z9 ?_;refine Z9 ?_;refine av rfl (aP (c := ((j + i : Nat) : Int)) (by omega) (by omega)) rfl ?_;refine Z9 ?_;refine Z9 ?_;refine Z9 ?_;refine av rfl (aP (c := ((j + i : Nat) : Int)) (by omega) (by omega)) rfl ?_;refine ae rfl (x_o (i := j + i) (j := j + i) rfl rfl rfl rfl rfl (by omega) (by omega)) rfl ?_;refine bb rfl (lV rfl rfl rfl rfl (by omega)) rfl ?_;refine Z9 ?_;refine aV rfl (aW rfl rfl rfl (ew _)) rfl ?_;refine Z9 ?_;refine ac rfl rfl (rt (u1.getD (j + i) 0) ((g * vs.getD i 0 + c) % 4294967296) bo (ba hms.ok _) (Nat.mod_lt _ (by decide)) hms.bl) rfl rfl rfl rfl ?_;refine Z9 ?_;refine au rfl rfl rfl ?_;refine au rfl rfl rfl ?_;refine ae rfl (x_o (i := j + i) (j := j + i) rfl rfl rfl rfl rfl (by omega) (by omega)) rfl ?_;refine aj rfl (lB rfl rfl rfl (by omega)) rfl rfl rfl ?_;refine Z8 ?_;refine eQ O ?_;clear O;show AWP _ _ _ _ _ _;refine gR fun _ O=>?_;refine av rfl (aP (c := ((i + 1 : Nat) : Int)) (by omega) (by omega)) rfl ?_;refine Z9 ?_;refine eQ O ?_;clear O;exact ⟨(_, _, _, i + 1), by simp only; omega, ⟨hh, hms.step ov hgl (by omega)⟩, Wk.mk' ⟨rfl, rfl, rfl, rfl, rfl, rfl, rfl, rfl, rfl, rfl, rfl, rfl, trivial⟩ ⟨rfl, rfl, trivial⟩⟩
  have hh : i = vs.length := by simp at hh; omega
  subst hh
  have hcl := hms.cl
  have hfin := hms.last ov hgl hjk
  rw [lv] at hfin;refine aD ?_;show AWP _ _ _ _ _ _;refine gQ fun _ O=>?_;refine Z9 ?_;refine Z9 ?_;refine Z9 ?_;refine av rfl (aP (c := ((j + b.length : Nat) : Int)) (by omega) (by omega)) rfl ?_;refine Z9 ?_;refine Z9 ?_;refine Z9 ?_;refine av rfl (aP (c := ((j + b.length : Nat) : Int)) (by omega) (by omega)) rfl ?_;refine ae rfl (x_o (i := j + b.length) (j := j + b.length) rfl rfl rfl rfl rfl (by omega) (by omega)) rfl ?_;refine bb rfl (lV rfl rfl rfl rfl (by omega)) rfl ?_;refine Z9 ?_;refine aV rfl (aW (m := (c : Int)) rfl rfl rfl (by rw [ew, Nat.mod_eq_of_lt hcl])) rfl ?_;refine Z9 ?_;refine ac rfl rfl (rt (u1.getD (j + b.length) 0) c bo (ba hms.ok _) hcl hms.bl) rfl rfl rfl rfl ?_;refine Z9 ?_;refine au rfl rfl rfl ?_;refine au rfl rfl rfl ?_;refine ae rfl (x_o (i := j + b.length) (j := j + b.length) rfl rfl rfl rfl rfl (by omega) (by omega)) rfl ?_;refine aj rfl (lB rfl rfl rfl (by omega)) rfl rfl rfl ?_;refine Z8 ?_;refine eQ O ?_;clear O;refine c8 [(8, dL n), (9, .val (.one (.own 57 1 0 (a.length + 1)))), (10, V1 (dW vs)), (11, dI b.length), (12, .val (.one (.own 70 1 0 (a.length + 1 - b.length)))), (13, dI j), (15, dL g), (18, dU (if u1.getD (j + b.length) 0 < c + bo then 1 else 0))] [(57, some (.arr 1 ((u1.set (j + b.length) ((u1.getD (j + b.length) 0 + 8589934592 - c - bo) % 4294967296)).map cW))), (70, some (.arr 1 (q.map cW)))] ⟨rfl, rfl, rfl, rfl, rfl, rfl, rfl, rfl, trivial⟩ ⟨rfl, rfl, trivial⟩ ?_;clear hms hl1 hi hcl;generalize u1.set (j + b.length) ((u1.getD (j + b.length) 0 + 8589934592 - c - bo) % 4294967296) = u2 at *;generalize (if u1.getD (j + b.length) 0 < c + bo then 1 else 0) = b2 at *
  have hb2 := hfin.bl
  have hl2 := hfin.len
  rw [<- lv] at hfin;refine bd (α := List Nat × Nat) (fun p => mk 273 [(8, dL n), (9, .val (.one (.own 57 1 0 (a.length + 1)))), (10, V1 (dW vs)), (11, dI b.length), (12, .val (.one (.own 70 1 0 (a.length + 1 - b.length)))), (13, dI j), (15, dL p.2)] [(57, some (.arr 1 (p.1.map cW))), (70, some (.arr 1 (q.map cW)))] []) (fun p => wOK p.1 /\ p.1.length = u.length /\ p.2 < 4294967296 /\ wv (p.1.drop j) = wv (u.drop j) % V /\ wv p.1 + p.2 * V * 4294967296 ^ j = wv u) ?_ ?_
  ·refine gQ fun _ O=>?_;refine Z9 ?_;refine Z6 ?_;refine eQ O ?_;clear O;refine ap rfl (fun hz => ?_) (fun hz => ?_)
   ·have hz : b2 = 1 := by
     rcases Nat.lt_or_ge b2 1 with h | h
     ·have : b2 = 0 := by omega
      subst this; simp at hz
     ·omega
    subst hz
    have hgp := hfin.pos ouu hUs'
    obtain ⟨g', rfl⟩ : ∃ g', g = g' + 1 := ⟨g - 1, by omega⟩
    refine gQ fun _ O=>?_;refine Z9 ?_;refine av rfl (Ar (x := g' + 1) (y := 1) (z := g') rfl (by omega)) rfl ?_;refine Z8 ?_;refine eQ O ?_;clear O;refine gQ fun _ O=>?_;refine Z8 ?_;refine eQ O ?_;clear O;refine ag ?_;refine gQ fun _ O=>?_;refine Z9 ?_;refine az rfl (aZ rfl rfl lv) rfl ?_;refine Z9 ?_;refine eQ O ?_;clear O;refine al (aS (α := List Nat × Nat × Nat) (fun p => mk 273 [(8, dL n), (9, .val (.one (.own 57 1 0 (a.length + 1)))), (10, V1 (dW vs)), (11, dI b.length), (12, .val (.one (.own 70 1 0 (a.length + 1 - b.length)))), (13, dI j), (15, dL g'), (22, dU p.2.1), (205, V1 (dW vs)), (206, dI b.length), (207, dI p.2.2)] [(57, some (.arr 1 (p.1.map cW))), (70, some (.arr 1 (q.map cW)))] []) (fun p => p.2.2 <= b.length /\ WAB u2 vs j p.2.2 p.1 p.2.1) (fun p => b.length - p.2.2) (u2, 0, 0) ?_ ⟨Nat.zero_le _, WAB.start hfin.ok vs j⟩ ?_)
    ·exact Wk.mk' ⟨rfl, rfl, rfl, rfl, rfl, rfl, rfl, rfl, rfl, rfl, rfl, trivial⟩ ⟨rfl, rfl, trivial⟩
    rintro ⟨u3, c3, i⟩ ⟨hi, hab⟩
    simp only at hi hab
    show AWP _ _ _ _ _ (mk 273 [(8, dL n), (9, .val (.one (.own 57 1 0 (a.length + 1)))), (10, V1 (dW vs)), (11, dI b.length), (12, .val (.one (.own 70 1 0 (a.length + 1 - b.length)))), (13, dI j), (15, dL g'), (22, dU c3), (205, V1 (dW vs)), (206, dI b.length), (207, dI i)] [(57, some (.arr 1 (u3.map cW))), (70, some (.arr 1 (q.map cW)))] [])
    have hl3 := hab.len
    refine gQ fun _ O=>?_;refine Z6 ?_;refine eQ O ?_;clear O;refine ag ?_;refine ap rfl (fun hh => ?_) (fun hh => ?_)
    ·have hh : i < b.length := by simp at hh; omega
     refine ak ?_;show AWP _ _ _ _ _ _;refine ag ?_;refine al ?_;refine gQ fun _ O=>?_;refine Z9 ?_;refine ae rfl (im (i := i) rfl rfl rfl rfl rfl (by omega)) rfl ?_;refine Z7 ?_;refine Z8 ?_;refine Z8 ?_;refine eQ O ?_;clear O;refine gR fun _ O=>?_;refine Z9 ?_;refine Z9 ?_;refine Z9 ?_;refine av rfl (aP (c := ((j + i : Nat) : Int)) (by omega) (by omega)) rfl ?_;refine Z9 ?_;refine Z9 ?_;refine Z9 ?_;refine av rfl (aP (c := ((j + i : Nat) : Int)) (by omega) (by omega)) rfl ?_;refine ae rfl (x_o (i := j + i) (j := j + i) rfl rfl rfl rfl rfl (by omega) (by omega)) rfl ?_;refine bb rfl (lV rfl rfl rfl rfl (by omega)) rfl ?_;refine Z9 ?_;refine Z9 ?_;refine ac rfl rfl (w6 (u3.getD (j + i) 0) (vs.getD i 0) c3 (ba hab.ok _) (ba ov _) hab.cl) rfl rfl rfl rfl ?_;refine Z9 ?_;refine au rfl rfl rfl ?_;refine au rfl rfl rfl ?_;refine ae rfl (x_o (i := j + i) (j := j + i) rfl rfl rfl rfl rfl (by omega) (by omega)) rfl ?_;refine aj rfl (lB rfl rfl rfl (by omega)) rfl rfl rfl ?_;refine Z8 ?_;refine eQ O ?_;clear O;show AWP _ _ _ _ _ _;refine gR fun _ O=>?_;refine av rfl (aP (c := ((i + 1 : Nat) : Int)) (by omega) (by omega)) rfl ?_;refine Z9 ?_;refine eQ O ?_;clear O;exact ⟨(_, _, i + 1), by simp only; omega, ⟨hh, hab.step ov (by omega)⟩, Wk.mk' ⟨rfl, rfl, rfl, rfl, rfl, rfl, rfl, rfl, rfl, rfl, rfl, trivial⟩ ⟨rfl, rfl, trivial⟩⟩
    ·have hh : i = vs.length := by simp at hh; omega
     subst hh
     have habf := hab.last ov (by omega)
     obtain ⟨f1, f2, f3⟩ := WAB.fits ouu hfin habf hUs' (by rw [vv]; exact hgV) (by rw [vv]; exact hV0)
     rw [vv] at f2 f3;rw [lv] at habf f2 f3;refine aD ?_;show AWP _ _ _ _ _ _;refine gR fun _ O=>?_;refine Z9 ?_;refine Z9 ?_;refine Z9 ?_;refine av rfl (aP (c := ((j + b.length : Nat) : Int)) (by omega) (by omega)) rfl ?_;refine ae rfl (x_o (i := j + b.length) (j := j + b.length) rfl rfl rfl rfl rfl (by omega) (by omega)) rfl ?_;refine bb rfl (lV rfl rfl rfl rfl (by omega)) rfl ?_;refine Z9 ?_;refine av rfl (vt rfl) rfl ?_;refine ae rfl (x_o (i := j + b.length) (j := j + b.length) rfl rfl rfl rfl rfl (by omega) (by omega)) rfl ?_;refine aj rfl (lB rfl rfl rfl (by omega)) rfl rfl rfl ?_;refine eQ O ?_;clear O;exact ⟨(_, g'), ⟨habf.ok, by rw [habf.len]; exact hl2, by simp only; omega, f2, f3⟩, Wk.mk' ⟨rfl, rfl, rfl, rfl, rfl, rfl, rfl, trivial⟩ ⟨rfl, rfl, trivial⟩⟩
   ·have hz : b2 = 0 := by
     rcases Nat.lt_or_ge b2 1 with h | h
     ·omega
     ·have : b2 = 1 := by omega
      subst this; simp at hz
    subst hz
    obtain ⟨f1, f2, f3⟩ := hfin.fits (by rw [vv]; exact hgD)
    rw [vv] at f2 f3;refine ak ?_;exact ⟨(u2, g), ⟨hfin.ok, hl2, hgl, f2, f3⟩, Wk.mk' ⟨rfl, rfl, rfl, rfl, rfl, rfl, rfl, trivial⟩ ⟨rfl, rfl, trivial⟩⟩
  rintro ⟨u4, g4⟩ ⟨o4, l4, gl4, r4, v4⟩
  simp only at o4 l4 gl4 r4 v4
  show AWP _ _ _ _ _ (mk 273 [(8, dL n), (9, .val (.one (.own 57 1 0 (a.length + 1)))), (10, V1 (dW vs)), (11, dI b.length), (12, .val (.one (.own 70 1 0 (a.length + 1 - b.length)))), (13, dI j), (15, dL g4)] [(57, some (.arr 1 (u4.map cW))), (70, some (.arr 1 (q.map cW)))] []);refine gR fun _ O=>?_;refine Z9 ?_;refine Z9 ?_;refine Z9 ?_;refine aV rfl (aW (m := (g4 : Int)) rfl rfl rfl (by rw [ew, Nat.mod_eq_of_lt gl4])) rfl ?_;refine ae rfl (x_o (i := j) (j := j) rfl rfl rfl rfl rfl (by omega) (by omega)) rfl ?_;refine aj rfl (lB rfl rfl rfl hj) rfl rfl rfl ?_;refine eQ O ?_;clear O;show AWP _ _ _ _ _ _;refine gR fun _ O=>?_;refine Z9 ?_;refine av rfl (bZ rfl (by omega)) rfl ?_;refine Z8 ?_;refine eQ O ?_;clear O;exact ⟨(u4, q.set j g4, j), by simp only; omega, ⟨by simp only; omega, hdv.step o4 l4 hj r4 v4 gl4 hV0⟩, Wk.mk' ⟨rfl, rfl, rfl, rfl, rfl, rfl, trivial⟩ ⟨rfl, rfl, trivial⟩⟩
 have hm0 : m = 0 := by simp at hg; omega
 subst hm0
 obtain ⟨fu, fq⟩ := hdv.fin hV0
 have hquo : U / V = wv a / wv b := by rw [hU, hV]; exact Nat.mul_div_mul_right _ _ (Nat.two_pow_pos n)
 have hrem : wv u / 2 ^ n = wv a % wv b := by
  rw [fu, hU, hV, Nat.mul_mod_mul_right, Nat.mul_div_cancel _ (Nat.two_pow_pos n)]
 have hq : q = a8 (a.length + 1 - b.length) (wv a / wv b) := by
  refine iV hdv.okq (by omega) ?_;rw [fq, hquo]
 refine aD ?_;show AWP _ _ _ _ _ _;refine gQ fun _ O=>?_;refine Z9 ?_;refine bP (sz := _) (es := _) (f := _) (v := _) rfl (tE (l := b.length) (c := b.length) rfl rfl rfl rfl rfl (Nat.le_of_ble_eq_true rfl) rfl rfl (by omega) (by omega)) rfl rfl ?_;refine Z8 ?_;refine eQ O ?_;clear O;refine ag ?_;refine gQ fun _ O=>?_;refine Z9 ?_;refine az rfl rfl rfl ?_;refine Z9 ?_;refine eQ O ?_;clear O;refine al (aS (α := List Nat × Nat) (fun p => mk 273 [(8, dL n), (9, .val (.one (.own 57 1 0 (a.length + 1)))), (12, .val (.one (.own 70 1 0 (a.length + 1 - b.length)))), (25, .val (.one (.own 245 1 0 b.length))), (247, dI b.length), (248, dI p.2)] [(57, some (.arr 1 (u.map cW))), (70, some (.arr 1 (q.map cW))), (245, some (.arr 1 (p.1.map cW)))] []) (fun p => p.2 <= b.length /\ p.1.length = b.length /\ ∀ k, k < p.2 -> p.1.getD k 0 = (a8 b.length (wv a % wv b)).getD k 0) (fun p => b.length - p.2) (List.replicate b.length 0, 0) ?_ ⟨Nat.zero_le _, by simp, fun k hk => absurd hk (Nat.not_lt_zero _)⟩ ?_)
 ·exact Wk.mk' ⟨rfl, rfl, rfl, rfl, rfl, rfl, trivial⟩ ⟨rfl, rfl, rfl, trivial⟩
 rintro ⟨rs, i⟩ ⟨hi, hrl, hrd⟩
 simp only at hi hrl hrd
 show AWP _ _ _ _ _ (mk 273 [(8, dL n), (9, .val (.one (.own 57 1 0 (a.length + 1)))), (12, .val (.one (.own 70 1 0 (a.length + 1 - b.length)))), (25, .val (.one (.own 245 1 0 b.length))), (247, dI b.length), (248, dI i)] [(57, some (.arr 1 (u.map cW))), (70, some (.arr 1 (q.map cW))), (245, some (.arr 1 (rs.map cW)))] []);refine gQ fun _ O=>?_;refine Z6 ?_;refine eQ O ?_;clear O;refine ag ?_;refine ap rfl (fun hh => ?_) (fun hh => ?_)
 ·have hh : i < b.length := by simp at hh; omega
  have hx1 := ba hdv.oku (i + 1)
  have hx0 := ba hdv.oku i
  have hdig := qu hn31 i hdv.oku
  rw [hrem, <- mj (k := b.length) _ hh] at hdig;refine ak ?_;show AWP _ _ _ _ _ _;refine ag ?_;refine al ?_;refine gQ fun _ O=>?_;refine Z9 ?_;refine Z8 ?_;refine eQ O ?_;clear O;refine br tok mixed (A := [[], [], [], [], [], [3], [2, 3, 4], [2, 3, 4, 5], [2, 3, 4, 5, 6], [], [], [], [9, 10], [9, 10, 11], [2, 3, 4, 5, 6, 7, 9, 10, 11, 12], [], [2, 3, 4, 5, 6, 7, 8, 9, 10, 11, 12, 13], [2, 3, 4, 5, 6, 7, 8, 9, 10, 11, 12, 13, 14, 15], [], []]) (an := [{}, {}, {}, {}, {}, {}, {}, {}, {}, {}, {}, {}, {}, {}, {}, {}, {}, {}, {}, {}]) rfl (by kernel_rfl) rfl fun _ O=>?_;refine Z9 ?_;refine Z9 ?_;refine Z9 ?_;refine Z9 ?_;refine av rfl (aP (c := ((i + 1 : Nat) : Int)) (by omega) (by omega)) rfl ?_;refine ae rfl (x_o (i := i + 1) (j := i + 1) rfl rfl rfl rfl rfl (by omega) (by omega)) rfl ?_;refine bb rfl (lV rfl rfl rfl rfl (by omega)) rfl ?_;refine aV rfl (aW rfl rfl rfl (dm (hdv.oku.lt64 _))) rfl ?_;refine av rfl (pI (s := 32) (z := u.getD (i + 1) 0 * 4294967296) (by omega) (by show u.getD (i + 1) 0 * 4294967296 % _ = _; omega)) rfl ?_;refine Z9 ?_;refine Z9 ?_;refine ae rfl (x_o (i := i) (j := i) rfl rfl rfl rfl rfl (by omega) (by omega)) rfl ?_;refine bb rfl (lV rfl rfl rfl rfl (by omega)) rfl ?_;refine aV rfl (aW rfl rfl rfl (dm (hdv.oku.lt64 _))) rfl ?_;refine av rfl (wU (s := 32) (by show u.getD (i + 1) 0 * 4294967296 % 4294967296 = 0; omega) (by omega) (by omega) rfl) rfl ?_;refine Z9 ?_;refine av rfl (j3 (s := n) (by omega) rfl) rfl ?_;refine aV rfl (aW rfl rfl rfl (ew _)) rfl ?_;refine ae rfl (x_o (i := i) (j := i) rfl rfl rfl rfl rfl (by omega) (by omega)) rfl ?_;refine aj rfl (lB rfl rfl rfl (by omega)) rfl rfl rfl ?_;refine eQ O ?_;clear O;show AWP _ _ _ _ _ _;refine gR fun _ O=>?_;refine av rfl (aP (c := ((i + 1 : Nat) : Int)) (by omega) (by omega)) rfl ?_;refine Z9 ?_;refine eQ O ?_;clear O;refine ⟨(_, i + 1), by simp only; omega, ⟨hh, ?_, fun k hk => ?_⟩, Wk.mk' ⟨rfl, rfl, rfl, rfl, rfl, rfl, trivial⟩ ⟨rfl, rfl, rfl, trivial⟩⟩
  ·simpa using hrl
  ·simp only at hk ⊢
   rw [hdig, e6 _ _ _ _ (by omega)]
   by_cases hki : k = i
   ·rw [if_pos hki, hki]
   ·rw [if_neg hki]; exact hrd k (by omega)
 ·have hh : i = b.length := by simp at hh; omega
  subst hh
  have hrs : rs = a8 b.length (wv a % wv b) := qP (by rw [hrl, aC]) (fun k hk => hrd k (by omega))
  refine aD ?_;show AWP _ _ _ _ _ _;refine gQ fun _ O=>?_;refine Z9 ?_;refine Z9 ?_;refine Z8 ?_;refine Z8 ?_;refine eQ O ?_;clear O;refine dK [4, 5] [70, 245] 70 [(4, V1 (dW q)), (5, .val (.one (.own 245 1 0 b.length)))] [(245, some (.arr 1 (rs.map cW)))] rfl ?_ ?_ ?_
  ·exact ⟨jG rfl (by omega), rfl, trivial⟩
  ·exact ⟨rfl, trivial⟩
  refine dK [4, 5] [245] 245 [(4, V1 (dW q)), (5, V1 (dW rs))] [] rfl ?_ trivial ?_
  ·exact ⟨rfl, jG rfl (by omega), trivial⟩
  exact ah (bz (h3 := by unfold nH nG; rw [if_neg (by omega), if_neg (by omega), if_neg (by omega), if_neg (by omega), <- hq, <- hrs]; rfl))
end Go.Proofs.YtceacleokgoooaaGreatDoor

/- Rationals: numerators and denominators, and how many words they have. No condition. -/
namespace Go.Proofs.YtceacleokgoooaaGreatDoor

def zl (z : Int) : Nat := wl z.natAbs
theorem rl (z : Int) : zl (-z) = zl z := by unfold zl; rw [Int.natAbs_neg]
theorem cu (x y : Int) : zl (x * y) <= zl x + zl y := by unfold zl; rw [Int.natAbs_mul]; exact yn _ _
theorem kC (x y : Int) : zl (x + y) <= max (zl x) (zl y) + 1 := by
 unfold zl
 exact Nat.le_trans (bM (Int.natAbs_add_le x y)) (yo _ _)
theorem yf (x y : Int) : zl (x - y) <= max (zl x) (zl y) + 1 := by
 have := kC x (-y)
 rwa [rl, <- Int.sub_eq_add_neg] at this
theorem ut (n : Nat) : zl (n : Int) = wl n := by unfold zl; rw [Int.natAbs_natCast]
theorem ym {n : Nat} (h : 0 < n) : 1 <= wl n := by
 unfold wl
 have := List.length_pos_iff.2 (fun h' => by rw [em] at h'; omega : wof n ≠ [])
 exact this
theorem ux : wl 1 = 1 := by
 have := qj (n := 1) (k := 1) (by decide)
 have := ym (n := 1) (by decide)
 omega
theorem rm {n : Int} (h : -9223372036854775808 <= n /\ n <= 9223372036854775807) : zl n <= 2 := by
 unfold zl
 exact qj (by show n.natAbs < 18446744073709551616; omega)

def ql (q : Rat) : Nat := max (zl q.num) (wl q.den)
theorem gB (q : Rat) : zl q.num <= ql q := Nat.le_max_left _ _
theorem gC (q : Rat) : zl (q.den : Int) <= ql q := by rw [ut]; exact Nat.le_max_right _ _
theorem uR (q : Rat) : 1 <= ql q := Nat.le_trans (ym (Nat.pos_of_ne_zero q.den_nz)) (Nat.le_max_right _ _)
theorem dR (x : Int) (g : Nat) : (x / (g : Int)).natAbs <= x.natAbs := by
 rcases Nat.eq_zero_or_pos g with h | h
 ·subst h; simp
 ·exact Int.natAbs_ediv_le_natAbs x g
theorem d5 (x y : Int) : ql (Rat.divInt x y) <= max 1 (max (zl x) (zl y)) := by
 unfold ql
 have h1 : zl (Rat.divInt x y).num <= zl x := by
  unfold zl
  refine bM ?_;rw [Rat.num_divInt];refine Nat.le_trans (dR _ _) ?_;rw [Int.natAbs_mul]
  have : y.sign.natAbs <= 1 := by
   rcases Int.lt_trichotomy y 0 with h | h | h
   ·rw [Int.sign_eq_neg_one_of_neg h]; decide
   ·subst h; decide
   ·rw [Int.sign_eq_one_of_pos h]; decide
  calc y.sign.natAbs * x.natAbs <= 1 * x.natAbs := Nat.mul_le_mul_right _ this
   _ = x.natAbs := Nat.one_mul _
 have h2 : wl (Rat.divInt x y).den <= max 1 (zl y) := by
  rw [Rat.den_divInt]
  split
  ·rw [ux]; omega
  ·unfold zl
   exact Nat.le_trans (bM (Nat.div_le_self _ _)) (Nat.le_max_right _ _)
 omega
theorem pL (a b : Rat) : a + b = Rat.divInt (a.num * b.den + b.num * a.den) ((a.den : Int) * b.den) := by
 rw [Rat.add_def', <- Rat.divInt_ofNat]; rfl
theorem vA (a b : Rat) : a * b = Rat.divInt (a.num * b.num) ((a.den : Int) * b.den) := by
 rw [Rat.mul_def', <- Rat.divInt_ofNat]; rfl
theorem uh (a : Rat) : Rat.divInt a.num a.den = a := Rat.num_divInt_den a
theorem zj (a b : Rat) : ql (a + b) <= ql a + ql b + 1 := by
 rw [pL];refine Nat.le_trans (d5 _ _) ?_
 have h1 := kC (a.num * b.den) (b.num * a.den)
 have h2 := cu a.num b.den
 have h3 := cu b.num a.den
 have h4 := cu a.den b.den
 have h5 := gB a
 have h6 := gC a
 have h7 := gB b
 have h8 := gC b
 omega
theorem zg (a b : Rat) : ql (a * b) <= ql a + ql b := by
 rw [vA];refine Nat.le_trans (d5 _ _) ?_
 have h2 := cu a.num b.num
 have h4 := cu a.den b.den
 have h5 := gB a
 have h6 := gC a
 have h7 := gB b
 have h8 := gC b
 have h9 := uR a
 omega
theorem zf (a : Rat) : ql (-a) = ql a := by
 unfold ql
 rw [Rat.neg_num, Rat.neg_den, rl]
theorem zb (a b : Rat) : ql (a - b) <= ql a + ql b + 1 := by
 have := zj a (-b)
 rwa [zf, <- Rat.sub_eq_add_neg] at this
theorem zh (n : Int) : ql (n : Rat) = max (zl n) 1 := by
 unfold ql
 rw [Rat.num_intCast, Rat.den_intCast, ux]
theorem kV (n : Int) : Rat.divInt n 1 = (n : Rat) := by
 rw [Rat.divInt_eq_div]
 show (n : Rat) / ((1 : Int) : Rat) = n
 rw [Rat.intCast_one]
 grind
theorem BK (x y : Int) : (Rat.divInt x y).num = (y.sign * x) / (Int.gcd x y : Int) := by rw [Rat.num_divInt, Int.gcd_comm]
theorem Co {x y : Int} (h : y ≠ 0) : ((Rat.divInt x y).den : Int) = (y.natAbs : Int) / (Int.gcd x y : Int) := by
 rw [Rat.den_divInt, if_neg h, Int.gcd_comm]; rfl
/-! ### Bounds put together -/
theorem bc {a k m : Nat} (h : a <= k) (hk : Nat.ble k m = true) : a <= m := Nat.le_trans h (Nat.le_of_ble_eq_true hk)
theorem dy {x y : Int} {k l : Nat} (hx : zl x <= k) (hy : zl y <= l) : zl (x * y) <= k + l := Nat.le_trans (cu x y) (Nat.add_le_add hx hy)
theorem mi {x y : Int} {k : Nat} (hx : zl x <= k) (hy : zl y <= k) : zl (x + y) <= k + 1 := Nat.le_trans (kC x y) (Nat.add_le_add_right (Nat.max_le.2 ⟨hx, hy⟩) 1)
theorem xc {x y : Int} {k : Nat} (hx : zl x <= k) (hy : zl y <= k) : zl (x - y) <= k + 1 := Nat.le_trans (yf x y) (Nat.add_le_add_right (Nat.max_le.2 ⟨hx, hy⟩) 1)
theorem aO {x y : Rat} {k l : Nat} (hx : ql x <= k) (hy : ql y <= l) : ql (x * y) <= k + l := Nat.le_trans (zg x y) (Nat.add_le_add hx hy)
theorem bC {x y : Rat} {k l : Nat} (hx : ql x <= k) (hy : ql y <= l) : ql (x + y) <= k + l + 1 := Nat.le_trans (zj x y) (Nat.add_le_add_right (Nat.add_le_add hx hy) 1)
theorem kj {x y : Rat} {k l : Nat} (hx : ql x <= k) (hy : ql y <= l) : ql (x - y) <= k + l + 1 := Nat.le_trans (zb x y) (Nat.add_le_add_right (Nat.add_le_add hx hy) 1)
theorem cp {x : Rat} {k : Nat} (hx : ql x <= k) : zl x.num <= k := Nat.le_trans (gB x) hx
theorem cr {x : Rat} {k : Nat} (hx : ql x <= k) : zl (x.den : Int) <= k := Nat.le_trans (gC x) hx
theorem rH {x y : Int} {k : Nat} (hk : Nat.ble 1 k = true) (hx : zl x <= k) (hy : zl y <= k) : ql (Rat.divInt x y) <= k :=
 Nat.le_trans (d5 x y) (Nat.max_le.2 ⟨Nat.le_of_ble_eq_true hk, Nat.max_le.2 ⟨hx, hy⟩⟩)
end Go.Proofs.YtceacleokgoooaaGreatDoor

/- Integers: made of numbers, negated, added, multiplied, divided; the greatest common divisor. No condition. -/
namespace Go.Proofs.YtceacleokgoooaaGreatDoor
attribute [local irreducible] aF

theorem de (ws : List Nat) (hw : wOK ws) (hl : ws.length <= 1073741824) : Con Tryz.prog 65 [V1 (dW ws)] { v := V1 (dW (wof (wv ws))) } := by
 rw [<- g8 hw]; exact yA ws hl
theorem jv (neg : Bool) (ws : List Nat) (z : Int) (hw : wOK ws) (hl : ws.length <= 1073741824) (h : zv neg ws = z) : Con Tryz.prog 88 [dB neg, V1 (dW ws)] { v := AG (ZC z) } :=
 h ▸ DP neg ws hw hl
theorem bw {ws : List Nat} (h : wOK ws) : (wof (wv ws)).length <= ws.length := by rw [<- g8 h]; exact yB ws
theorem wo {a b : List Nat} (ha : wOK a) (hb : wOK b) : wv a + wv b < 4294967296 ^ (max a.length b.length + 1) := by
 have h1 := ee ha
 have h2 := ee hb
 have h3 : 4294967296 ^ a.length <= 4294967296 ^ max a.length b.length := Nat.pow_le_pow_right (by decide) (by omega)
 have h4 : 4294967296 ^ b.length <= 4294967296 ^ max a.length b.length := Nat.pow_le_pow_right (by decide) (by omega)
 rw [Nat.pow_succ]; omega
theorem uw (n : Nat) : n < 4294967296 ^ (wof n).length := by have := ee (ay n); rwa [aE] at this

theorem qS (n : Int) (hn : I64 n) : Con Tryz.prog 41 [dI n] { v := AG (ZC n) } := by
 unfold I64 at hn
 refine Z3 Tryz.func41 ?_
 intro w0 X
 rw [aq _ _ [(0, dI n)] rfl rfl];refine gQ fun _ O=>?_;refine aw rfl rfl rfl rfl rfl rfl ?_;refine eQ O ?_;clear O;refine gQ fun _ O=>?_;refine Z9 ?_;refine aV rfl (aW (m := ((n % 18446744073709551616).toNat : Int)) rfl rfl rfl (by rw [oh]; omega)) rfl ?_;refine Z8 ?_;refine eQ O ?_;clear O;refine bd (α := Unit) (fun _ => mk 19 [(0, dI n), (2, .ptr 2 0), (3, dL n.natAbs)] [(2, some (.box [.d (.lit (.bool false)), .nil]))] []) (fun _ => True) ?_ ?_
 ·refine gQ fun _ O=>?_;refine Z9 ?_;refine Z6 ?_;refine eQ O ?_;clear O;refine ap rfl (fun hc => ?_) (fun hc => ?_)
  ·have hc : n < 0 := by simpa using hc
   refine gR fun _ O=>?_;refine Z9 ?_;refine dr rfl rfl rfl ?_;refine Z8 ?_;refine eQ O ?_;clear O;refine ⟨(), trivial, Wk.mk' ⟨rfl, rfl, ?_, trivial⟩ ⟨rfl, trivial⟩⟩
   show V1 (.lit (.int .u64 (IntKind.u64.wrap (0 - ((n % 18446744073709551616).toNat : Int))))) = _
   rw [oh]
   have : (0 - ((n % 18446744073709551616).toNat : Int)) % 18446744073709551616 = (n.natAbs : Int) := by omega
   rw [this]
  ·have hc : ¬ n < 0 := by simpa using hc
   refine ak ?_;refine ⟨(), trivial, Wk.mk' ⟨rfl, rfl, ?_, trivial⟩ ⟨rfl, trivial⟩⟩
   show dL _ = dL _
   have : (n % 18446744073709551616).toNat = n.natAbs := by omega
   rw [this]
 rintro - -
 have hd : n.natAbs / 2 ^ 32 % 4294967296 = n.natAbs / 4294967296 := by show n.natAbs / 4294967296 % 4294967296 = _; omega
 refine aU fun _ O=>?_;refine aa tok rfl ?_;refine Z9 ?_;refine ab ?_;refine aa tok rfl ?_;refine Z6 ?_;refine ab ?_;refine aa tok rfl ?_;refine Z9 ?_;refine ab ?_;refine aa tok rfl ?_;refine aV rfl (aW rfl rfl rfl (ew _)) rfl ?_;refine ab ?_;refine aa tok rfl ?_;refine Z9 ?_;refine ab ?_;refine aa tok rfl ?_;refine av rfl (j3 (s := 32) (by omega) rfl) rfl ?_;refine ab ?_;refine aa tok rfl ?_;refine aV rfl (aW rfl rfl rfl (ew _)) rfl ?_;refine ab ?_;refine aa tok rfl ?_;refine ax rfl rfl rfl rfl ?_;refine ab ?_;refine uy (Wk.fzNew rfl rfl rfl) ?_;refine aa tok rfl ?_;refine ac rfl rfl (jv (decide (n < 0)) [n.natAbs % 4294967296, n.natAbs / 2 ^ 32 % 4294967296] n (fun x hx => by simp at hx; omega) (by simp) (by unfold zv; simp only [wv, hd]; by_cases h : n < 0 <;> simp [h] <;> omega)) rfl rfl rfl rfl ?_;refine ab ?_;refine aa tok rfl ?_;refine aj rfl rfl rfl rfl rfl ?_;refine ab ?_;refine aM rfl (O _ ?_); clear O;exact ah aT

theorem d6 (n : Bool) (w : List Nat) (hw : wOK w) (hl : w.length <= 1073741824) : Con Tryz.prog 30 [AG (IC n w)] { v := dI (zv n w).sign } := by
 have h0 : wof (wv w) = [] ↔ zv n w = 0 := by rw [em]; unfold zv; split <;> omega
 have hs : (zv n w < 0 -> n = true) /\ (n = true -> zv n w <= 0) := by unfold zv; cases n <;> simp <;> omega
 refine Z3 Tryz.func30 ?_
 intro w0 X
 rw [aq _ _ [(0, AG (IC n w))] rfl rfl];refine gQ fun _ O=>?_;refine aG rfl rfl rfl rfl rfl rfl ?_;refine Z8 ?_;refine eQ O ?_;clear O;refine ag ?_;refine al ?_;refine gQ fun _ O=>?_;refine Z5 ?_;refine Z7 ?_;refine ac rfl rfl (de w hw hl) rfl rfl rfl rfl ?_;refine az rfl (aZ rfl rfl rfl) rfl ?_;refine Z6 ?_;refine Z8 ?_;refine eQ O ?_;clear O;refine ap rfl (fun hc => ?_) (fun hc => ?_)
 ·have hc : wof (wv w) = [] := by simpa using hc
  refine gQ fun _ O=>?_;refine Z8 ?_;refine eQ O ?_;clear O;exact ah (bz (h3 := by rw [h0.1 hc]; rfl))
 ·have hc : ¬ zv n w = 0 := by rw [<- h0]; simpa using hc
  refine gQ fun _ O=>?_;refine Z5 ?_;refine Z7 ?_;refine Z8 ?_;refine eQ O ?_;clear O;refine ap rfl (fun hd => ?_) (fun hd => ?_)
  ·have hd : n = true := hd
   have : zv n w < 0 := by have := hs.2 hd; omega
   refine gQ fun _ O=>?_;refine Z8 ?_;refine eQ O ?_;clear O;exact ah (bz (h3 := by rw [Int.sign_eq_neg_one_of_neg this]; rfl))
  ·have hd : n = false := hd
   have : 0 < zv n w := by
    have := hs.1
    rcases Int.lt_trichotomy (zv n w) 0 with h | h | h
    ·rw [this h] at hd; cases hd
    ·exact absurd h hc
    ·exact h
   refine ak ?_;show AWP _ _ _ _ _ _;refine gQ fun _ O=>?_;refine Z8 ?_;refine eQ O ?_;clear O;exact ah (bz (h3 := by rw [Int.sign_eq_one_of_pos this]; rfl))

theorem Ad (n : Bool) (w : List Nat) (hw : wOK w) (hl : w.length <= 1073741824) : Con Tryz.prog 121 [AG (IC n w)] { v := AG (ZC ((zv n w).natAbs : Int)) } := by
 have hlen := bw hw
 refine Z3 Tryz.func121 ?_
 intro w0 X
 rw [aq _ _ [(0, AG (IC n w))] rfl rfl];refine gQ fun _ O=>?_;refine aG rfl rfl rfl rfl rfl rfl ?_;refine aw rfl rfl rfl rfl rfl rfl ?_;refine eQ O ?_;clear O;refine gQ fun _ O=>?_;refine Z5 ?_;refine Z7 ?_;refine ac rfl rfl (de w hw hl) rfl rfl rfl rfl ?_;refine ac rfl rfl (kv _ (by omega)) rfl rfl rfl rfl ?_;refine ac rfl rfl (jv false _ ((zv n w).natAbs : Int) (ay _) (by omega) (by rw [bJ]; unfold zv; simp [aE])) rfl rfl rfl rfl ?_;refine aj rfl rfl rfl rfl rfl ?_;refine eQ O ?_;clear O;exact ah aT

theorem sa (n : Bool) (w : List Nat) (hw : wOK w) (hl : w.length <= 1073741824) : Con Tryz.prog 85 [AG (IC n w)] { v := AG (ZC (-(zv n w))) } := by
 have hlen := bw hw
 refine Z3 Tryz.func85 ?_
 intro w0 X
 rw [aq _ _ [(0, AG (IC n w))] rfl rfl];refine gQ fun _ O=>?_;refine aG rfl rfl rfl rfl rfl rfl ?_;refine aw rfl rfl rfl rfl rfl rfl ?_;refine eQ O ?_;clear O;refine aL tok mixed (A := [[], [], [0], [], [], [3], [3, 4], [0, 1, 3, 4, 5], []]) (an := [{}, {}, {}, {}, {}, {}, {}, {}, {}]) rfl (by kernel_rfl) rfl fun _ O=>?_;refine Z5 ?_;refine Z7 ?_;refine dr rfl rfl rfl ?_;refine Z5 ?_;refine Z7 ?_;refine ac rfl rfl (de w hw hl) rfl rfl rfl rfl ?_;refine ac rfl rfl (kv _ (by omega)) rfl rfl rfl rfl ?_;refine ac rfl rfl (jv (!n) _ (-(zv n w)) (ay _) (by omega) (by unfold zv; cases n <;> simp [aE])) rfl rfl rfl rfl ?_;refine aj rfl rfl rfl rfl rfl ?_;refine eQ O ?_;clear O;exact ah aT

theorem vj (na nb : Bool) (wa wb : List Nat) (ha : wOK wa) (hb : wOK wb) (la : wa.length <= 536870912) (lb : wb.length <= 536870912) :
  Con Tryz.prog 123 [AG (IC na wa), AG (IC nb wb)] { v := AG (ZC (zv na wa + zv nb wb)) } := by
 have hla := bw ha
 have hlb := bw hb
 have hpl : wv (wof (wv wa)) + wv (wof (wv wb)) < 4294967296 ^ (max (wof (wv wa)).length (wof (wv wb)).length + 1) := wo (ay _) (ay _)
 have hpa := uw (wv wa)
 have hpb := uw (wv wb)
 rw [aE, aE] at hpl;refine Z3 Tryz.func123 ?_
 intro w0 X
 rw [aq _ _ [(0, AG (IC na wa)), (1, AG (IC nb wb))] rfl rfl];refine gQ fun _ O=>?_;refine aG rfl rfl rfl rfl rfl rfl ?_;refine aG rfl rfl rfl rfl rfl rfl ?_;refine aw rfl rfl rfl rfl rfl rfl ?_;refine eQ O ?_;clear O;refine aL tok mixed (A := [[], [], [0], [], [], [0, 1, 3], [3, 4], []]) (an := [{}, {}, {}, { c := [9] }, { c := [9] }, {}, {}, {}]) rfl (by kernel_rfl) rfl fun _ O=>?_;refine Z5 ?_;refine Z7 ?_;refine ac rfl rfl (de wa ha (by omega)) rfl rfl rfl rfl ?_;refine Z5 ?_;refine Z7 ?_;refine ac rfl rfl (de wb hb (by omega)) rfl rfl rfl rfl ?_;refine Z8 ?_;refine Z8 ?_;refine eQ O ?_;clear O;refine ag ?_;refine al ?_;refine gQ fun _ O=>?_;refine Z5 ?_;refine Z7 ?_;refine Z5 ?_;refine Z7 ?_;refine Z6 ?_;refine Z8 ?_;refine eQ O ?_;clear O;refine ap rfl (fun hc => ?_) (fun hc => ?_)
 ·have hc : na = nb := by simpa using hc
  subst hc
  refine aL tok mixed (A := [[], [], [], [], [], [0, 2, 3], []]) (an := [{}, {}, {}, {}, {}, {}, {}]) rfl (by kernel_rfl) rfl fun _ O=>?_;refine Z5 ?_;refine Z7 ?_;refine Z9 ?_;refine Z9 ?_;refine ac rfl rfl (DG _ _ (ay _) (ay _) (by omega) (by omega)) rfl rfl rfl rfl ?_;refine ac rfl rfl (jv na _ (zv na wa + zv na wb) (bV _ _) (by rw [aC]; omega) (by unfold zv; rw [b7, aE, aE, Nat.mod_eq_of_lt hpl]; cases na <;> simp <;> omega)) rfl rfl rfl rfl ?_;refine aj rfl rfl rfl rfl rfl ?_;refine eQ O ?_;clear O;exact ah aT
 ·have hc : na = !nb := by cases na <;> cases nb <;> simp_all
  subst hc
  refine gQ fun _ O=>?_;refine Z9 ?_;refine Z9 ?_;refine ac rfl rfl (mO _ _ (ay _) (ay _) (b9 _) (b9 _) (by omega) (by omega)) rfl rfl rfl rfl ?_;refine Z6 ?_;refine Z8 ?_;refine eQ O ?_;clear O;refine ap rfl (fun hd => ?_) (fun hd => ?_)
  ·have hd : wv wb <= wv wa := by
    simp only [ge_iff_le, decide_eq_true_eq] at hd;rw [aE, aE] at hd
    have h2 := mt (iC (m := wv wa) (n := wv wb)).2 (by omega)
    omega
   have hle : (wof (wv wb)).length <= (wof (wv wa)).length := bM hd
   refine aL tok mixed (A := [[], [], [], [], [], [0, 2, 3], []]) (an := [{}, {}, {}, {}, {}, {}, {}]) rfl (by kernel_rfl) rfl fun _ O=>?_;refine Z5 ?_;refine Z7 ?_;refine Z9 ?_;refine Z9 ?_;refine ac rfl rfl (wF _ _ (ay _) (ay _) (by omega) hle (by rw [aE, aE]; exact hd)) rfl rfl rfl rfl ?_;refine ac rfl rfl (jv (!nb) _ (zv (!nb) wa + zv nb wb) (bV _ _) (by rw [aC]; omega) (by unfold zv; rw [b7, aE, aE, Nat.mod_eq_of_lt (by omega)]; cases nb <;> simp <;> omega)) rfl rfl rfl rfl ?_;refine aj rfl rfl rfl rfl rfl ?_;refine eQ O ?_;clear O;exact ah aT
  ·have hd : wv wa <= wv wb := by
    simp only [ge_iff_le, decide_eq_false_iff_not] at hd;rw [aE, aE] at hd
    have := iC.1 (show gT (wv wa) (wv wb) < 0 by omega)
    omega
   have hle : (wof (wv wa)).length <= (wof (wv wb)).length := bM hd
   refine ak ?_;show AWP _ _ _ _ _ _;refine aL tok mixed (A := [[], [], [], [], [], [0, 2, 3], []]) (an := [{}, {}, {}, {}, {}, {}, {}]) rfl (by kernel_rfl) rfl fun _ O=>?_;refine Z5 ?_;refine Z7 ?_;refine Z9 ?_;refine Z9 ?_;refine ac rfl rfl (wF _ _ (ay _) (ay _) (by omega) hle (by rw [aE, aE]; exact hd)) rfl rfl rfl rfl ?_;refine ac rfl rfl (jv nb _ (zv (!nb) wa + zv nb wb) (bV _ _) (by rw [aC]; omega) (by unfold zv; rw [b7, aE, aE, Nat.mod_eq_of_lt (by omega)]; cases nb <;> simp <;> omega)) rfl rfl rfl rfl ?_;refine aj rfl rfl rfl rfl rfl ?_;refine eQ O ?_;clear O;exact ah aT

theorem DU (na nb : Bool) (wa wb : List Nat) (ha : wOK wa) (hb : wOK wb) (la : wa.length <= 536870912) (lb : wb.length <= 536870912) :
  Con Tryz.prog 180 [AG (IC na wa), AG (IC nb wb)] { v := AG (ZC (zv na wa - zv nb wb)) } := by
 have hz : zv na wa - zv nb wb = zv na wa + zv (!nb) wb := by unfold zv; cases na <;> cases nb <;> simp <;> omega
 rw [hz];refine Z3 Tryz.func180 ?_
 intro w0 X
 rw [aq _ _ [(0, AG (IC na wa)), (1, AG (IC nb wb))] rfl rfl];refine gQ fun _ O=>?_;refine aG rfl rfl rfl rfl rfl rfl ?_;refine aG rfl rfl rfl rfl rfl rfl ?_;refine aw rfl rfl rfl rfl rfl rfl ?_;refine eQ O ?_;clear O;refine gQ fun _ O=>?_;refine Z7 ?_;refine Z5 ?_;refine Z7 ?_;refine dr rfl rfl rfl ?_;refine Z5 ?_;refine Z7 ?_;refine aI rfl rfl rfl ?_;refine ac rfl rfl (vj na (!nb) wa wb ha hb la lb) rfl rfl rfl rfl ?_;refine aj rfl rfl rfl rfl rfl ?_;refine eQ O ?_;clear O;exact ah aT

theorem vg (na nb : Bool) (wa wb : List Nat) (ha : wOK wa) (hb : wOK wb) (la : wa.length <= 536870912) (lb : wb.length <= 536870912) :
  Con Tryz.prog 81 [AG (IC na wa), AG (IC nb wb)] { v := AG (ZC (zv na wa * zv nb wb)) } := by
 have hla := bw ha
 have hlb := bw hb
 have hm : wv wa * wv wb < 4294967296 ^ ((wof (wv wa)).length + (wof (wv wb)).length) := by
  have := yn (wv wa) (wv wb)
  exact Nat.lt_of_lt_of_le (qO _) (Nat.pow_le_pow_right (by decide) this)
 refine Z3 Tryz.func81 ?_
 intro w0 X
 rw [aq _ _ [(0, AG (IC na wa)), (1, AG (IC nb wb))] rfl rfl];refine gQ fun _ O=>?_;refine aG rfl rfl rfl rfl rfl rfl ?_;refine aG rfl rfl rfl rfl rfl rfl ?_;refine aw rfl rfl rfl rfl rfl rfl ?_;refine eQ O ?_;clear O;refine aL tok mixed (A := [[], [], [], [], [0, 2], [], [], [5], [], [], [5, 6, 8], [5, 6, 8, 9], [0, 1, 2, 3, 5, 6, 7, 8, 9, 10], []]) (an := [{}, {}, {}, {}, {}, {}, {}, {}, { c := [12] }, { c := [12] }, {}, {}, {}, {}]) rfl (by kernel_rfl) rfl fun _ O=>?_;refine Z5 ?_;refine Z7 ?_;refine Z5 ?_;refine Z7 ?_;refine Z6 ?_;refine Z5 ?_;refine Z7 ?_;refine ac rfl rfl (de wa ha (by omega)) rfl rfl rfl rfl ?_;refine Z5 ?_;refine Z7 ?_;refine ac rfl rfl (de wb hb (by omega)) rfl rfl rfl rfl ?_;refine ac rfl rfl (Ba _ _ (ay _) (ay _) (by omega) (by omega)) rfl rfl rfl rfl ?_;refine ac rfl rfl (jv (!(na == nb)) _ (zv na wa * zv nb wb) (bV _ _) (by rw [aC]; omega) (by unfold zv; rw [b7, aE, aE, Nat.mod_eq_of_lt hm]; cases na <;> cases nb <;> simp [Int.natCast_mul, Int.mul_neg, Int.neg_mul])) rfl rfl rfl rfl ?_;refine aj rfl rfl rfl rfl rfl ?_;refine eQ O ?_;clear O;exact ah aT
end Go.Proofs.YtceacleokgoooaaGreatDoor

/- Integers: division with remainder, the greatest common divisor. No condition. -/
namespace Go.Proofs.YtceacleokgoooaaGreatDoor
attribute [local irreducible] aF

theorem wT {x y q r : Int} (hy : y ≠ 0) (h : r + y * q = x) (h0 : 0 <= r) (h1 : r < y.natAbs) : x / y = q /\ x % y = r := by
 rcases Int.lt_trichotomy y 0 with hn | hn | hn
 ·have hp : 0 < -y := by omega
  have := (Int.ediv_emod_unique hp (a := x) (q := -q) (r := r)).2 ⟨by rw [<- h]; grind, h0, by omega⟩
  rw [Int.ediv_neg, Int.emod_neg] at this;exact ⟨by omega, this.2⟩
 ·exact absurd hn hy
 ·exact (Int.ediv_emod_unique hn).2 ⟨h, h0, by omega⟩
theorem Ac (na nb : Bool) (wa wb : List Nat) (z : Int) (ha : wOK wa) (hb : wOK wb) (la : wa.length <= 536870912) (lb : wb.length <= 536870912) (h : zv na wa + zv nb wb = z) :
  Con Tryz.prog 123 [AG (IC na wa), AG (IC nb wb)] { v := AG (ZC z) } := h ▸ vj na nb wa wb ha hb la lb
def tq (na nb : Bool) (A B : Nat) : Int := if na = nb then ((A / B : Nat) : Int) else -((A / B : Nat) : Int)
def tr (na : Bool) (A B : Nat) : Int := if na then -((A % B : Nat) : Int) else ((A % B : Nat) : Int)
def sg (n : Bool) (A : Nat) : Int := if n then -(A : Int) else A
theorem tqr (na nb : Bool) {A B : Nat} (hB : 0 < B) : tr na A B + sg nb B * tq na nb A B = sg na A /\ (tr na A B).natAbs < B := by
 have h := Nat.div_add_mod A B
 have h2 := Nat.mod_lt A hB
 have hz : (B : Int) * ((A / B : Nat) : Int) + ((A % B : Nat) : Int) = A := by rw [<- Int.natCast_mul, <- Int.natCast_add, h]
 unfold tr tq sg
 generalize ((A / B : Nat) : Int) = q at *;refine ⟨?_, ?_⟩
 ·cases na <;> cases nb <;> simp only [Bool.false_eq_true, if_true, if_false, reduceCtorEq] <;> grind
 ·cases na <;> simp <;> omega
theorem vT (na nb : Bool) {A B : Nat} (hB : 0 < B) (h : 0 <= tr na A B) : sg na A / sg nb B = tq na nb A B /\ sg na A % sg nb B = tr na A B := by
 obtain ⟨h1, h2⟩ := tqr na nb (A := A) hB
 refine wT ?_ h1 h ?_ <;> (unfold sg; split <;> omega)
theorem vU (na nb : Bool) {A B : Nat} (hB : 0 < B) (h : tr na A B < 0) : sg na A / sg nb B = tq na nb A B + sg (!nb) 1 /\ sg na A % sg nb B = tr na A B + B := by
 obtain ⟨h1, h2⟩ := tqr na nb (A := A) hB
 refine wT ?_ ?_ (by omega) ?_
 ·unfold sg; split <;> omega
 ·rw [<- h1]; unfold sg; cases nb <;> simp <;> grind
 ·unfold sg; split <;> omega

theorem qT (na nb : Bool) (wa wb : List Nat) (ha : wOK wa) (hb : wOK wb) (la : wa.length <= 268435456) (lb : wb.length <= 268435456) (h0 : zv nb wb ≠ 0) :
  Con Tryz.prog 87 [AG (IC na wa), AG (IC nb wb)] { v := .tup [.agg (ZC (zv na wa / zv nb wb)), .agg (ZC (zv na wa % zv nb wb)), .one (.d (lI 0))] } := by
 have hB0 : wv wb ≠ 0 := by intro h; apply h0; unfold zv; rw [h]; simp
 have hBp : 0 < wv wb := by omega
 have hBn : wof (wv wb) ≠ [] := by rw [ne_eq, em]; exact hB0
 have hla := bw ha
 have hlb := bw hb
 have hxa : zv na wa = sg na (wv wa) := rfl
 have hxb : zv nb wb = sg nb (wv wb) := rfl
 rw [hxa, hxb];generalize hA : wv wa = A at *;generalize hB : wv wb = B at *
 have hql : (nH (wof A) (wof B)).length <= 268435457 := Nat.le_trans (AF _ _) (by omega)
 have hrl : (nG (wof A) (wof B)).length <= 536870912 := Nat.le_trans (AE _ _) (by omega)
 have hqv := Cl (ay A) hBn (b9 B)
 have hrv := Cj (a := wof A) (ay B) hBn (b9 B)
 rw [aE, aE] at hqv hrv
 have hrok := Ck (ay A) (ay B) hBn (b9 B)
 have hrle : (wof (tr na A B).natAbs).length <= (wof A).length := bM (by unfold tr; have := Nat.mod_le A B; split <;> omega)
 have hqle : (wof (tq na nb A B).natAbs).length <= (wof A).length := bM (by unfold tq; have := Nat.div_le_self A B; split <;> omega)
 refine Z3 Tryz.func87 ?_
 intro w0 X
 rw [aq _ _ [(0, AG (IC na wa)), (1, AG (IC nb wb))] rfl rfl];refine gQ fun _ O=>?_;refine aG rfl rfl rfl rfl rfl rfl ?_;refine aG rfl rfl rfl rfl rfl rfl ?_;refine aw rfl rfl rfl rfl rfl rfl ?_;refine aw rfl rfl rfl rfl rfl rfl ?_;refine Z8 ?_;refine eQ O ?_;clear O;refine aL tok mixed (A := [[], [], [0], [], [], [0, 1, 3], [3, 4], []]) (an := [{}, {}, {}, { c := [15] }, { c := [15] }, {}, {}, {}]) rfl (by kernel_rfl) rfl fun _ O=>?_;refine Z5 ?_;refine Z7 ?_;refine ac rfl rfl (hA ▸ de wa ha (by omega)) rfl rfl rfl rfl ?_;refine Z5 ?_;refine Z7 ?_;refine ac rfl rfl (hB ▸ de wb hb (by omega)) rfl rfl rfl rfl ?_;refine Z8 ?_;refine Z8 ?_;refine eQ O ?_;clear O;refine ag ?_;refine gQ fun _ O=>?_;refine Z9 ?_;refine az rfl (aZ rfl rfl rfl) rfl ?_;refine Z6 ?_;refine eQ O ?_;clear O;refine ap rfl (fun hc => ?_) (fun hc => ?_)
 ·exact absurd (by simpa using hc) hBn
 refine ak ?_;show AWP _ _ _ _ _ _;refine gQ fun _ O=>?_;refine Z9 ?_;refine Z9 ?_;refine ac rfl rfl (AD _ _ (ay A) (ay B) (b9 A) (b9 B) hBn (by omega) (by omega)) rfl rfl rfl rfl ?_;refine Z9 ?_;refine au rfl rfl rfl ?_;refine au rfl rfl rfl ?_;refine Z8 ?_;refine Z8 ?_;refine eQ O ?_;clear O;refine aL tok mixed (A := [[], [], [], [], [0, 2], [], [0, 1, 2, 3], [], [], [], [0, 1, 2, 3, 4, 5, 7], [], [], [7, 8, 9], []]) (an := [{}, {}, {}, {}, {}, {}, {}, { c := [36] }, { c := [36] }, { c := [36] }, {}, { c := [36, 40] }, { c := [36, 40, 11] }, {}, {}]) rfl (by kernel_rfl) rfl fun _ O=>?_;refine Z5 ?_;refine Z7 ?_;refine Z5 ?_;refine Z7 ?_;refine Z6 ?_;refine Z9 ?_;refine ac rfl rfl (jv (!(na == nb)) _ (tq na nb A B) (Cm _ _) (by omega) (by unfold zv tq; rw [hqv]; cases na <;> cases nb <;> simp)) rfl rfl rfl rfl ?_;refine Z5 ?_;refine Z7 ?_;refine Z9 ?_;refine ac rfl rfl (jv na _ (tr na A B) hrok (by omega) (by unfold zv tr; rw [hrv])) rfl rfl rfl rfl ?_;refine aw rfl rfl rfl rfl rfl rfl ?_;refine aw rfl rfl rfl rfl rfl rfl ?_;refine aj rfl rfl rfl rfl rfl ?_;refine aj rfl rfl rfl rfl rfl ?_;refine eQ O ?_;clear O;refine bd (α := Unit) (fun _ => mk 56 [(4, .ptr 4 0), (5, .ptr 5 0), (11, .ptr 11 0), (12, .ptr 12 0)] [(4, some (.box [.d (.lit (.bool false)), .nil])), (5, some (.box [.d (.lit (.bool false)), .nil])), (11, some (.box (ZC (sg na A / sg nb B)))), (12, some (.box (ZC (sg na A % sg nb B))))] []) (fun _ => True) ?_ ?_
 ·refine gQ fun _ O=>?_;refine Z5 ?_;refine Z7 ?_;refine eQ O ?_;clear O;refine ap rfl (fun hd => ?_) (fun hd => ?_)
  ·have hd : tr na A B < 0 := of_decide_eq_true hd
   obtain ⟨e1, e2⟩ := vU na nb hBp hd
   refine gQ fun _ O=>?_;refine Z7 ?_;refine Z9 ?_;refine aI rfl rfl rfl ?_;refine ac rfl rfl (Ac (decide (tr na A B < 0)) false (wof (tr na A B).natAbs) (wof B) (sg na A % sg nb B) (ay _) (ay _) (by omega) (by omega) (by rw [bu, e2]; unfold zv; rw [aE]; simp)) rfl rfl rfl rfl ?_;refine aj rfl rfl rfl rfl rfl ?_;refine eQ O ?_;clear O;refine dx fun _ O=>?_;refine aa tok rfl ?_;refine Z7 ?_;refine ab ?_;refine aa tok rfl ?_;refine Z5 ?_;refine ab ?_;refine aa tok rfl ?_;refine Z7 ?_;refine ab ?_;refine aa tok rfl ?_;refine dr rfl rfl rfl ?_;refine ab ?_;refine aa tok rfl ?_;refine ax rfl rfl rfl rfl ?_;refine ab ?_;refine uy (Wk.fzNew rfl rfl rfl) ?_;refine aa tok rfl ?_;refine aI rfl rfl rfl ?_;refine ab ?_;refine aa tok rfl ?_;refine ac rfl rfl (Ac (decide (tq na nb A B < 0)) (!nb) (wof (tq na nb A B).natAbs) [1] (sg na A / sg nb B) (ay _) (wOK.one (by decide)) (by omega) (by simp) (by rw [bu, e1]; rfl)) rfl rfl rfl rfl ?_;refine ab ?_;refine aa tok rfl ?_;refine aj rfl rfl rfl rfl rfl ?_;refine ab ?_;refine aM rfl (O _ ?_); clear O;exact ⟨(), trivial, Wk.mk' ⟨rfl, rfl, rfl, rfl, trivial⟩ ⟨rfl, rfl, rfl, rfl, trivial⟩⟩
  ·have hd : 0 <= tr na A B := by have := of_decide_eq_false hd; omega
   obtain ⟨e1, e2⟩ := vT na nb hBp hd
   refine ak ?_;exact ⟨(), trivial, Wk.mk' ⟨rfl, rfl, rfl, rfl, trivial⟩ ⟨rfl, rfl, by rw [e1]; rfl, by rw [e2]; rfl, trivial⟩⟩
 rintro - -
 show AWP _ _ _ _ _ (mk 56 [(4, .ptr 4 0), (5, .ptr 5 0), (11, .ptr 11 0), (12, .ptr 12 0)] [(4, some (.box [.d (.lit (.bool false)), .nil])), (5, some (.box [.d (.lit (.bool false)), .nil])), (11, some (.box (ZC (sg na A / sg nb B)))), (12, some (.box (ZC (sg na A % sg nb B))))] []);refine aL tok mixed (A := [[], [], [], [], []]) (an := [{}, {}, { d := [12] }, {}, {}]) rfl (by kernel_rfl) rfl fun _ O=>?_;refine Z7 ?_;refine Z7 ?_;refine aj rfl rfl rfl rfl rfl ?_;refine aj rfl rfl rfl rfl rfl ?_;refine Z8 ?_;refine eQ O ?_;clear O;exact ah aT

theorem vh (x y : Int) (hx : zl x <= 268435456) (hy : zl y <= 268435456) (h0 : y ≠ 0) :
  Con Tryz.prog 87 [AG (ZC x), AG (ZC y)] { v := .tup [.agg (ZC (x / y)), .agg (ZC (x % y)), .one (.d (lI 0))] } := by
 have := qT (decide (x < 0)) (decide (y < 0)) (wof x.natAbs) (wof y.natAbs) (ay _) (ay _) hx hy (by rw [bu]; exact h0)
 rw [bu, bu] at this;exact this

theorem Ab (na nb : Bool) (wa wb : List Nat) (ha : wOK wa) (hb : wOK wb) (la : wa.length <= 268435456) (lb : wb.length <= 268435456) :
  Con Tryz.prog 86 [AG (IC na wa), AG (IC nb wb)] { v := AG (ZC (Int.gcd (zv na wa) (zv nb wb) : Int)) } := by
 have h1 : zl ((zv na wa).natAbs : Int) <= 268435456 := by unfold zl; rw [Int.natAbs_natCast, bJ]; exact Nat.le_trans (bw ha) la
 have h2 : zl ((zv nb wb).natAbs : Int) <= 268435456 := by unfold zl; rw [Int.natAbs_natCast, bJ]; exact Nat.le_trans (bw hb) lb
 have hg : Int.gcd (zv na wa) (zv nb wb) = Nat.gcd (zv na wa).natAbs (zv nb wb).natAbs := rfl
 refine Z3 Tryz.func86 ?_
 intro w0 X
 rw [aq _ _ [(0, AG (IC na wa)), (1, AG (IC nb wb))] rfl rfl];rw [hg];refine gQ fun _ O=>?_;refine aG rfl rfl rfl rfl rfl rfl ?_;refine aG rfl rfl rfl rfl rfl rfl ?_;refine aw rfl rfl rfl rfl rfl rfl ?_;refine eQ O ?_;clear O;refine aL tok mixed (A := [[], [], [], [0], [], [], [2], []]) (an := [{}, {}, { c := [11] }, {}, { c := [11, 13] }, { c := [11, 13, 5] }, {}, {}]) rfl (by kernel_rfl) rfl fun _ O=>?_;refine Z7 ?_;refine ac rfl rfl (Ad na wa ha (by omega)) rfl rfl rfl rfl ?_;refine Z7 ?_;refine ac rfl rfl (Ad nb wb hb (by omega)) rfl rfl rfl rfl ?_;refine aw rfl rfl rfl rfl rfl rfl ?_;refine aw rfl rfl rfl rfl rfl rfl ?_;refine aj rfl rfl rfl rfl rfl ?_;refine aj rfl rfl rfl rfl rfl ?_;refine eQ O ?_;clear O;generalize (zv na wa).natAbs = A at *;generalize (zv nb wb).natAbs = B at *;refine ag ?_;refine al (aS (α := Nat × Nat) (fun p => mk 28 [(4, .ptr 4 0), (5, .ptr 5 0), (6, .ptr 6 0)] [(4, some (.box [.d (.lit (.bool false)), .nil])), (5, some (.box (ZC (p.1 : Int)))), (6, some (.box (ZC (p.2 : Int))))] []) (fun p => zl (p.1 : Int) <= 268435456 /\ zl (p.2 : Int) <= 268435456 /\ Nat.gcd p.1 p.2 = Nat.gcd A B) (fun p => p.2) (A, B) ?_ ⟨h1, h2, rfl⟩ ?_)
 ·exact Wk.mk' ⟨rfl, rfl, rfl, trivial⟩ ⟨rfl, rfl, rfl, trivial⟩
 rintro ⟨m, n⟩ ⟨i1, i2, i3⟩
 simp only at i1 i2 i3
 show AWP _ _ _ _ _ (mk 28 [(4, .ptr 4 0), (5, .ptr 5 0), (6, .ptr 6 0)] [(4, some (.box [.d (.lit (.bool false)), .nil])), (5, some (.box (ZC (m : Int)))), (6, some (.box (ZC (n : Int))))] []);refine ag ?_;refine gQ fun _ O=>?_;refine Z5 ?_;refine Z7 ?_;refine az rfl (aZ rfl rfl rfl) rfl ?_;refine Z6 ?_;refine eQ O ?_;clear O;refine ap rfl (fun hc => ?_) (fun hc => ?_)
 ·have hn : n ≠ 0 := by
   intro h; subst h
   have : wof ((0 : Nat) : Int).natAbs = [] := rfl
   rw [this] at hc; simp at hc
  refine ak ?_;show AWP _ _ _ _ _ _;refine al ?_;refine gQ fun _ O=>?_;refine Z7 ?_;refine Z7 ?_;refine ac rfl rfl (vh (m : Int) (n : Int) i1 i2 (by omega)) rfl rfl rfl rfl ?_;refine Z9 ?_;refine au rfl rfl rfl ?_;refine au rfl rfl rfl ?_;refine au rfl rfl rfl ?_;refine aw rfl rfl rfl rfl rfl rfl ?_;refine aw rfl rfl rfl rfl rfl rfl ?_;refine aj rfl rfl rfl rfl rfl ?_;refine aj rfl rfl rfl rfl rfl ?_;refine Z8 ?_;refine eQ O ?_;clear O;refine br tok mixed (A := [[], [], [], []]) (an := [{}, {}, { d := [8] }, {}]) rfl (by kernel_rfl) rfl fun _ O=>?_;refine Z7 ?_;refine Z7 ?_;refine aj rfl rfl rfl rfl rfl ?_;refine aj rfl rfl rfl rfl rfl ?_;refine eQ O ?_;clear O
  have hmod : (m : Int) % (n : Int) = ((m % n : Nat) : Int) := rfl
  refine ⟨(n, m % n), Nat.mod_lt _ (by omega), ⟨i2, ?_, ?_⟩, Wk.mk' ⟨rfl, rfl, rfl, trivial⟩ ⟨rfl, rfl, by rw [hmod]; rfl, trivial⟩⟩
  ·refine Nat.le_trans ?_ i2;exact bM (by simp only [Int.natAbs_natCast]; exact Nat.le_of_lt (Nat.mod_lt _ (by omega)))
  ·simp only; rw [<- i3, Nat.gcd_comm m n, Nat.gcd_rec n m, Nat.gcd_comm]
 ·have hn : n = 0 := by
   have : wof (n : Int).natAbs = [] := by
    apply List.length_eq_zero_iff.1
    simp at hc; simpa using hc
   rw [em] at this; omega
  subst hn
  rw [Nat.gcd_zero_right] at i3
  subst i3
  refine aD ?_;show AWP _ _ _ _ _ _;refine gQ fun _ O=>?_;refine Z7 ?_;refine aj rfl rfl rfl rfl rfl ?_;refine eQ O ?_;clear O;exact ah aT
end Go.Proofs.YtceacleokgoooaaGreatDoor

/- Integers in canonical form; rationals as the program computes them. No condition. -/
namespace Go.Proofs.YtceacleokgoooaaGreatDoor
attribute [local irreducible] aF

/-! ### Integers in canonical form -/
theorem B5 (x : Int) (hx : zl x <= 268435456) : Con Tryz.prog 85 [AG (ZC x)] { v := AG (ZC (-x)) } := by
 have := sa (decide (x < 0)) (wof x.natAbs) (ay _) (Nat.le_trans hx (by decide))
 rw [bu] at this; exact this
theorem sb (x y : Int) (hx : zl x <= 536870912) (hy : zl y <= 536870912) : Con Tryz.prog 123 [AG (ZC x), AG (ZC y)] { v := AG (ZC (x + y)) } := by
 have := vj (decide (x < 0)) (decide (y < 0)) (wof x.natAbs) (wof y.natAbs) (ay _) (ay _) hx hy
 rw [bu, bu] at this; exact this
theorem B4 (x y : Int) (hx : zl x <= 536870912) (hy : zl y <= 536870912) : Con Tryz.prog 180 [AG (ZC x), AG (ZC y)] { v := AG (ZC (x - y)) } := by
 have := DU (decide (x < 0)) (decide (y < 0)) (wof x.natAbs) (wof y.natAbs) (ay _) (ay _) hx hy
 rw [bu, bu] at this; exact this
theorem eK (x y : Int) (hx : zl x <= 536870912) (hy : zl y <= 536870912) : Con Tryz.prog 81 [AG (ZC x), AG (ZC y)] { v := AG (ZC (x * y)) } := by
 have := vg (decide (x < 0)) (decide (y < 0)) (wof x.natAbs) (wof y.natAbs) (ay _) (ay _) hx hy
 rw [bu, bu] at this; exact this
theorem kn (na nb : Bool) (wa wb : List Nat) (x y q : Int) (ha : wOK wa) (hb : wOK wb) (la : wa.length <= 268435456) (lb : wb.length <= 268435456) (hx : zv na wa = x) (hy : zv nb wb = y) (h0 : y ≠ 0) (hq : x / y = q) :
  Con Tryz.prog 87 [AG (IC na wa), AG (IC nb wb)] { v := .tup [.agg (ZC q), .agg (ZC (x % y)), .one (.d (lI 0))] } := by
 subst hx hy hq
 exact qT na nb wa wb ha hb la lb h0

/-! ### Rationals -/
def QC (na : Bool) (wa : List Nat) (nb : Bool) (wb : List Nat) : List SC := [.d (.lit (.bool na)), .d (dW wa), .d (.lit (.bool nb)), .d (dW wb)]
def qv (na : Bool) (wa : List Nat) (nb : Bool) (wb : List Nat) : Rat := Rat.divInt (zv na wa) (zv nb wb)
def QZ (q : Rat) : List SC := QC (decide (q.num < 0)) (wof q.num.natAbs) (decide ((q.den : Int) < 0)) (wof (q.den : Int).natAbs)
theorem iB (q : Rat) : qv (decide (q.num < 0)) (wof q.num.natAbs) (decide ((q.den : Int) < 0)) (wof (q.den : Int).natAbs) = q := by
 unfold qv; rw [bu, bu, uh]
theorem B9 {x y : Int} (h : y ≠ 0) : Int.gcd x y ≠ 0 := by
 intro h'
 have := Int.gcd_eq_zero_iff.1 h'
 exact h this.2
theorem ro (x : Int) {y : Int} (h : y ≠ 0) : zl (Int.gcd x y : Int) <= zl y := by
 unfold zl
 refine bM ?_;rw [Int.natAbs_natCast];exact Nat.gcd_le_right _ (by omega)

theorem rM (na nb : Bool) (wa wb : List Nat) (ha : wOK wa) (hb : wOK wb) (la : wa.length <= 268435456) (lb : wb.length <= 268435456) :
  Con Tryz.prog 40 [AG (IC na wa), AG (IC nb wb)] { v := AG (QZ (Rat.divInt (zv na wa) (zv nb wb))) } := by
 have lza : zl (zv na wa) <= 268435456 := by unfold zl; rw [bJ]; exact Nat.le_trans (bw ha) la
 have lzb : zl (zv nb wb) <= 268435456 := by unfold zl; rw [bJ]; exact Nat.le_trans (bw hb) lb
 refine Z3 Tryz.func40 ?_
 intro w0 X
 rw [aq _ _ [(0, AG (IC na wa)), (1, AG (IC nb wb))] rfl rfl];refine gQ fun _ O=>?_;refine aG rfl rfl rfl rfl rfl rfl ?_;refine aG rfl rfl rfl rfl rfl rfl ?_;refine aw rfl rfl rfl rfl rfl rfl ?_;refine eQ O ?_;clear O;refine ag ?_;refine gQ fun _ O=>?_;refine Z7 ?_;refine ac rfl rfl (d6 nb wb hb (by omega)) rfl rfl rfl rfl ?_;refine Z6 ?_;refine eQ O ?_;clear O;refine ap rfl (fun hc => ?_) (fun hc => ?_)
 ·have h0 : zv nb wb = 0 := Int.sign_eq_zero_iff_zero.1 (by simpa using hc)
  refine gQ fun _ O=>?_;refine ac rfl rfl (qS 0 (by unfold I64; omega)) rfl rfl rfl rfl ?_;refine ac rfl rfl (qS 1 (by unfold I64; omega)) rfl rfl rfl rfl ?_;refine aI rfl rfl rfl ?_;refine aj rfl rfl rfl rfl rfl ?_;refine eQ O ?_;clear O;exact ah (bz (h3 := by rw [h0, Rat.divInt_zero]; rfl))
 have h0 : zv nb wb ≠ 0 := by intro h; rw [h] at hc; simp at hc
 refine ak ?_;show AWP _ _ _ _ _ _;generalize hx : zv na wa = x at *;generalize hy : zv nb wb = y at *;refine c8 [(2, .ptr 2 0), (3, .ptr 3 0), (4, .ptr 4 0)] [(2, some (.box (IC na wa))), (3, some (.box (IC nb wb))), (4, some (.box [.d (.lit (.bool false)), .nil, .d (.lit (.bool false)), .nil]))] ⟨rfl, rfl, rfl, trivial⟩ ⟨rfl, rfl, rfl, trivial⟩ ?_;refine bd (α := (Bool × List Nat) × (Bool × List Nat)) (fun p => mk 45 [(2, .ptr 2 0), (3, .ptr 3 0), (4, .ptr 4 0)] [(2, some (.box (IC p.1.1 p.1.2))), (3, some (.box (IC p.2.1 p.2.2))), (4, some (.box [.d (.lit (.bool false)), .nil, .d (.lit (.bool false)), .nil]))] []) (fun p => wOK p.1.2 /\ wOK p.2.2 /\ p.1.2.length <= 268435456 /\ p.2.2.length <= 268435456 /\ zv p.1.1 p.1.2 = y.sign * x /\ zv p.2.1 p.2.2 = (y.natAbs : Int)) ?_ ?_
 ·refine gQ fun _ O=>?_;refine Z7 ?_;refine ac rfl rfl (hy ▸ d6 nb wb hb (by omega)) rfl rfl rfl rfl ?_;refine Z6 ?_;refine eQ O ?_;clear O;refine ap rfl (fun hd => ?_) (fun hd => ?_)
  ·have hd : y < 0 := by
    have h1 : y.sign < 0 := of_decide_eq_true hd
    rcases Int.lt_trichotomy y 0 with h | h | h
    ·exact h
    ·exact absurd h h0
    ·rw [Int.sign_eq_one_of_pos h] at h1; omega
   refine br tok mixed (A := [[], [], [], [0], [2], []]) (an := [{}, {}, { c := [22] }, {}, {}, {}]) rfl (by kernel_rfl) rfl fun _ O=>?_;refine Z7 ?_;refine ac rfl rfl (hx ▸ sa na wa ha (by omega)) rfl rfl rfl rfl ?_;refine Z7 ?_;refine ac rfl rfl (hy ▸ sa nb wb hb (by omega)) rfl rfl rfl rfl ?_;refine aj rfl rfl rfl rfl rfl ?_;refine aj rfl rfl rfl rfl rfl ?_;refine eQ O ?_;clear O;refine ⟨((decide (-x < 0), wof (-x).natAbs), (decide (-y < 0), wof (-y).natAbs)), ⟨ay _, ay _, ?_, ?_, ?_, ?_⟩, Wk.mk' ⟨rfl, rfl, rfl, trivial⟩ ⟨rfl, rfl, rfl, trivial⟩⟩
   ·show zl (-x) <= _; rw [rl]; exact lza
   ·show zl (-y) <= _; rw [rl]; exact lzb
   ·simp only; rw [bu, Int.sign_eq_neg_one_of_neg hd]; omega
   ·simp only; rw [bu]; omega
  ·have hd : 0 < y := by
    have h1 : ¬ y.sign < 0 := of_decide_eq_false hd
    rcases Int.lt_trichotomy y 0 with h | h | h
    ·rw [Int.sign_eq_neg_one_of_neg h] at h1; omega
    ·exact absurd h h0
    ·exact h
   refine ak ?_;refine ⟨((na, wa), (nb, wb)), ⟨ha, hb, la, lb, ?_, ?_⟩, Wk.mk' ⟨rfl, rfl, rfl, trivial⟩ ⟨rfl, rfl, rfl, trivial⟩⟩
   ·simp only; rw [hx, Int.sign_eq_one_of_pos hd]; omega
   ·simp only; rw [hy]; omega
 rintro ⟨⟨na', wa'⟩, ⟨nb', wb'⟩⟩ ⟨oa, ob, ka, kb, va, vb⟩
 simp only at oa ob ka kb va vb
 show AWP _ _ _ _ _ (mk 45 [(2, .ptr 2 0), (3, .ptr 3 0), (4, .ptr 4 0)] [(2, some (.box (IC na' wa'))), (3, some (.box (IC nb' wb'))), (4, some (.box [.d (.lit (.bool false)), .nil, .d (.lit (.bool false)), .nil]))] [])
 have hg : (Int.gcd (zv na' wa') (zv nb' wb') : Int) = (Int.gcd x y : Int) := by
  rw [va, vb]
  show ((Nat.gcd (y.sign * x).natAbs (y.natAbs : Int).natAbs : Nat) : Int) = _
  rw [Int.natAbs_mul, Int.natAbs_natCast]
  have : y.sign.natAbs = 1 := by
   rcases Int.lt_trichotomy y 0 with h | h | h
   ·rw [Int.sign_eq_neg_one_of_neg h]; rfl
   ·exact absurd h h0
   ·rw [Int.sign_eq_one_of_pos h]; rfl
  rw [this, Nat.one_mul]; rfl
 have hgn : (Int.gcd x y : Int) ≠ 0 := by have := B9 (x := x) h0; omega
 have hgl : (wof (Int.gcd x y : Int).natAbs).length <= 268435456 := Nat.le_trans (ro x h0) lzb
 refine gQ fun _ O=>?_;refine Z7 ?_;refine Z7 ?_;refine ac rfl rfl (hg ▸ Ab na' nb' wa' wb' oa ob ka kb) rfl rfl rfl rfl ?_;refine aw rfl rfl rfl rfl rfl rfl ?_;refine aj rfl rfl rfl rfl rfl ?_;refine eQ O ?_;clear O;refine gQ fun _ O=>?_;refine Z7 ?_;refine Z7 ?_;refine ac rfl rfl (kn na' (decide ((Int.gcd x y : Int) < 0)) wa' (wof (Int.gcd x y : Int).natAbs) (y.sign * x) (Int.gcd x y : Int) (Rat.divInt x y).num oa (ay _) ka hgl va (bu _) hgn (BK x y).symm) rfl rfl rfl rfl ?_;refine Z9 ?_;refine au rfl rfl rfl ?_;refine au rfl rfl rfl ?_;refine au rfl rfl rfl ?_;refine aw rfl rfl rfl rfl rfl rfl ?_;refine aw rfl rfl rfl rfl rfl rfl ?_;refine aj rfl rfl rfl rfl rfl ?_;refine aj rfl rfl rfl rfl rfl ?_;refine Z8 ?_;refine eQ O ?_;clear O;refine gQ fun _ O=>?_;refine Z7 ?_;refine Z7 ?_;refine ac rfl rfl (kn nb' (decide ((Int.gcd x y : Int) < 0)) wb' (wof (Int.gcd x y : Int).natAbs) (y.natAbs : Int) (Int.gcd x y : Int) ((Rat.divInt x y).den : Int) ob (ay _) kb hgl vb (bu _) hgn (Co h0).symm) rfl rfl rfl rfl ?_;refine Z9 ?_;refine au rfl rfl rfl ?_;refine au rfl rfl rfl ?_;refine au rfl rfl rfl ?_;refine aw rfl rfl rfl rfl rfl rfl ?_;refine aw rfl rfl rfl rfl rfl rfl ?_;refine aj rfl rfl rfl rfl rfl ?_;refine aj rfl rfl rfl rfl rfl ?_;refine Z8 ?_;refine eQ O ?_;clear O;refine gQ fun _ O=>?_;refine Z7 ?_;refine Z7 ?_;refine aI rfl rfl rfl ?_;refine aj rfl rfl rfl rfl rfl ?_;refine eQ O ?_;clear O;exact ah aT

theorem wn (n d : Int) (hn : I64 n) (hd : I64 d) : Con Tryz.prog 36 [dI n, dI d] { v := AG (QZ (Rat.divInt n d)) } := by
 have h1 := rm hn
 have h2 := rm hd
 have hz : Rat.divInt (zv (decide (n < 0)) (wof n.natAbs)) (zv (decide (d < 0)) (wof d.natAbs)) = Rat.divInt n d := by rw [bu, bu]
 refine Z3 Tryz.func36 ?_
 intro w0 X
 rw [aq _ _ [(0, dI n), (1, dI d)] rfl rfl];refine gQ fun _ O=>?_;refine aw rfl rfl rfl rfl rfl rfl ?_;refine eQ O ?_;clear O;refine gQ fun _ O=>?_;refine Z9 ?_;refine ac rfl rfl (qS n hn) rfl rfl rfl rfl ?_;refine Z9 ?_;refine ac rfl rfl (qS d hd) rfl rfl rfl rfl ?_;refine ac rfl rfl (hz ▸ rM (decide (n < 0)) (decide (d < 0)) (wof n.natAbs) (wof d.natAbs) (ay _) (ay _) (Nat.le_trans h1 (by decide)) (Nat.le_trans h2 (by decide))) rfl rfl rfl rfl ?_;refine aj rfl rfl rfl rfl rfl ?_;refine eQ O ?_;clear O;exact ah aT

theorem nV (x y : Int) (q : Rat) (hx : zl x <= 268435456) (hy : zl y <= 268435456) (h : Rat.divInt x y = q) : Con Tryz.prog 40 [AG (ZC x), AG (ZC y)] { v := AG (QZ q) } := by
 have := rM (decide (x < 0)) (decide (y < 0)) (wof x.natAbs) (wof y.natAbs) (ay _) (ay _) hx hy
 rw [bu, bu, h] at this; exact this

theorem rL (na nb : Bool) (wa wb : List Nat) (ha : wOK wa) (hb : wOK wb) (la : wa.length <= 268435456) (lb : wb.length <= 268435456) :
  Con Tryz.prog 83 [AG (QC na wa nb wb)] { v := AG (QZ (qv na wa nb wb)) } := by
 refine Z3 Tryz.func83 ?_
 intro w0 X
 rw [aq _ _ [(0, AG (QC na wa nb wb))] rfl rfl];refine gQ fun _ O=>?_;refine aG rfl rfl rfl rfl rfl rfl ?_;refine aw rfl rfl rfl rfl rfl rfl ?_;refine eQ O ?_;clear O;refine gQ fun _ O=>?_;refine Z5 ?_;refine Z7 ?_;refine Z5 ?_;refine Z7 ?_;refine ac rfl rfl (rM na nb wa wb ha hb la lb) rfl rfl rfl rfl ?_;refine aj rfl rfl rfl rfl rfl ?_;refine eQ O ?_;clear O;exact ah aT

theorem Dz (na nb : Bool) (wa wb : List Nat) (ha : wOK wa) (hb : wOK wb) (la : wa.length <= 268435456) (lb : wb.length <= 268435456) :
  Con Tryz.prog 114 [AG (QC na wa nb wb)] { v := AG (QZ (-(qv na wa nb wb))) } := by
 have hz : Rat.divInt (zv (decide (-(zv na wa) < 0)) (wof (-(zv na wa)).natAbs)) (zv nb wb) = -(qv na wa nb wb) := by rw [bu]; unfold qv; rw [Rat.neg_divInt]
 have hl : (wof (-(zv na wa)).natAbs).length <= 268435456 := by rw [Int.natAbs_neg, bJ]; exact Nat.le_trans (bw ha) la
 refine Z3 Tryz.func114 ?_
 intro w0 X
 rw [aq _ _ [(0, AG (QC na wa nb wb))] rfl rfl];refine gQ fun _ O=>?_;refine aG rfl rfl rfl rfl rfl rfl ?_;refine aw rfl rfl rfl rfl rfl rfl ?_;refine eQ O ?_;clear O;refine aL tok mixed (A := [[], [], [0], [], [], [0, 1, 3], []]) (an := [{}, {}, {}, { c := [5] }, { c := [5] }, {}, {}]) rfl (by kernel_rfl) rfl fun _ O=>?_;refine Z5 ?_;refine Z7 ?_;refine ac rfl rfl (sa na wa ha (by omega)) rfl rfl rfl rfl ?_;refine Z5 ?_;refine Z7 ?_;refine ac rfl rfl (hz ▸ rM (decide (-(zv na wa) < 0)) nb (wof (-(zv na wa)).natAbs) wb (ay _) hb hl lb) rfl rfl rfl rfl ?_;refine aj rfl rfl rfl rfl rfl ?_;refine eQ O ?_;clear O;exact ah aT

theorem zr (na nb nc nd : Bool) (wa wb wc wd : List Nat) (ha : wOK wa) (hb : wOK wb) (hc : wOK wc) (hd : wOK wd) (la : wa.length <= 16777216) (lb : wb.length <= 16777216) (lc : wc.length <= 16777216) (ld : wd.length <= 16777216) :
  Con Tryz.prog 92 [AG (QC na wa nb wb), AG (QC nc wc nd wd)] { v := AG (QZ (qv na wa nb wb + qv nc wc nd wd)) } := by
 have hx : ql (qv na wa nb wb) <= 16777217 := by
  refine Nat.le_trans (d5 _ _) ?_
  have h1 := bw ha
  have h2 := bw hb
  unfold zl wl; rw [bJ, bJ]; omega
 have hy : ql (qv nc wc nd wd) <= 16777217 := by
  refine Nat.le_trans (d5 _ _) ?_
  have h1 := bw hc
  have h2 := bw hd
  unfold zl wl; rw [bJ, bJ]; omega
 refine Z3 Tryz.func92 ?_
 intro w0 X
 rw [aq _ _ [(0, AG (QC na wa nb wb)), (1, AG (QC nc wc nd wd))] rfl rfl];refine gQ fun _ O=>?_;refine aG rfl rfl rfl rfl rfl rfl ?_;refine aG rfl rfl rfl rfl rfl rfl ?_;refine aw rfl rfl rfl rfl rfl rfl ?_;refine eQ O ?_;clear O;refine aL tok mixed (A := [[], [], [], [0], [2], []]) (an := [{}, {}, { c := [6] }, {}, {}, {}]) rfl (by kernel_rfl) rfl fun _ O=>?_;refine Z7 ?_;refine ac rfl rfl (rL na nb wa wb ha hb (by omega) (by omega)) rfl rfl rfl rfl ?_;refine Z7 ?_;refine ac rfl rfl (rL nc nd wc wd hc hd (by omega) (by omega)) rfl rfl rfl rfl ?_;refine aj rfl rfl rfl rfl rfl ?_;refine aj rfl rfl rfl rfl rfl ?_;refine eQ O ?_;clear O;generalize qv na wa nb wb = x at *;generalize qv nc wc nd wd = y at *
 have a1 := gB x
 have a2 := gC x
 have b1 := gB y
 have b2 := gC y
 have m1 := cu x.num y.den
 have m2 := cu y.num x.den
 have m3 := cu x.den y.den
 have m4 := kC (x.num * y.den) (y.num * x.den)
 refine c8 [(2, .ptr 2 0), (3, .ptr 3 0), (4, .ptr 4 0)] [(2, some (.box (QZ x))), (3, some (.box (QZ y))), (4, some (.box [.d (.lit (.bool false)), .nil, .d (.lit (.bool false)), .nil]))] ⟨rfl, rfl, rfl, trivial⟩ ⟨rfl, rfl, rfl, trivial⟩ ?_;refine aL tok mixed (A := [[], [], [], [], [0, 2], [], [], [], [], [0, 1, 2, 3, 5, 7], [0, 1, 2, 3, 5, 6, 7, 8], [], [], [], [], [0, 1, 2, 3, 4, 5, 6, 7, 8, 9, 11, 13], [0, 1, 2, 3, 4, 5, 6, 7, 8, 9, 11, 12, 13, 14], []]) (an := [{}, {}, {}, {}, {}, { c := [13] }, { c := [13] }, { c := [13] }, { c := [13] }, {}, {}, { c := [13, 18, 19] }, { c := [13, 18, 19] }, { c := [13, 18, 19] }, { c := [13, 18, 19] }, {}, {}, {}]) rfl (by kernel_rfl) rfl fun _ O=>?_;refine Z5 ?_;refine Z7 ?_;refine Z5 ?_;refine Z7 ?_;refine ac rfl rfl (eK x.num y.den (by omega) (by omega)) rfl rfl rfl rfl ?_;refine Z5 ?_;refine Z7 ?_;refine Z5 ?_;refine Z7 ?_;refine ac rfl rfl (eK y.num x.den (by omega) (by omega)) rfl rfl rfl rfl ?_;refine ac rfl rfl (sb (x.num * y.den) (y.num * x.den) (by omega) (by omega)) rfl rfl rfl rfl ?_;refine Z5 ?_;refine Z7 ?_;refine Z5 ?_;refine Z7 ?_;refine ac rfl rfl (eK x.den y.den (by omega) (by omega)) rfl rfl rfl rfl ?_;refine ac rfl rfl (nV (x.num * y.den + y.num * x.den) ((x.den : Int) * y.den) (x + y) (by omega) (by omega) (pL x y).symm) rfl rfl rfl rfl ?_;refine aj rfl rfl rfl rfl rfl ?_;refine eQ O ?_;clear O;exact ah aT

theorem Dx (na nb nc nd : Bool) (wa wb wc wd : List Nat) (ha : wOK wa) (hb : wOK wb) (hc : wOK wc) (hd : wOK wd) (la : wa.length <= 16777216) (lb : wb.length <= 16777216) (lc : wc.length <= 16777215) (ld : wd.length <= 16777215) :
  Con Tryz.prog 125 [AG (QC na wa nb wb), AG (QC nc wc nd wd)] { v := AG (QZ (qv na wa nb wb - qv nc wc nd wd)) } := by
 have hy : ql (-(qv nc wc nd wd)) <= 16777216 := by
  rw [zf];refine Nat.le_trans (d5 _ _) ?_
  have h1 := bw hc
  have h2 := bw hd
  unfold zl wl; rw [bJ, bJ]; omega
 have h1 := gB (-(qv nc wc nd wd))
 have h2 := gC (-(qv nc wc nd wd))
 have hz : qv na wa nb wb + qv (decide ((-(qv nc wc nd wd)).num < 0)) (wof (-(qv nc wc nd wd)).num.natAbs) (decide (((-(qv nc wc nd wd)).den : Int) < 0)) (wof ((-(qv nc wc nd wd)).den : Int).natAbs) = qv na wa nb wb - qv nc wc nd wd := by
  rw [iB, Rat.sub_eq_add_neg]
 refine Z3 Tryz.func125 ?_
 intro w0 X
 rw [aq _ _ [(0, AG (QC na wa nb wb)), (1, AG (QC nc wc nd wd))] rfl rfl];refine gQ fun _ O=>?_;refine aG rfl rfl rfl rfl rfl rfl ?_;refine aG rfl rfl rfl rfl rfl rfl ?_;refine aw rfl rfl rfl rfl rfl rfl ?_;refine eQ O ?_;clear O;refine aL tok mixed (A := [[], [], [], [1], []]) (an := [{}, {}, {}, {}, {}]) rfl (by kernel_rfl) rfl fun _ O=>?_;refine Z7 ?_;refine Z7 ?_;refine ac rfl rfl (Dz nc nd wc wd hc hd (by omega) (by omega)) rfl rfl rfl rfl ?_;refine ac rfl rfl (hz ▸ zr na nb _ _ wa wb _ _ ha hb (ay _) (ay _) la lb (Nat.le_trans h1 hy) (Nat.le_trans h2 hy)) rfl rfl rfl rfl ?_;refine aj rfl rfl rfl rfl rfl ?_;refine eQ O ?_;clear O;exact ah aT

theorem DA (na nb nc nd : Bool) (wa wb wc wd : List Nat) (ha : wOK wa) (hb : wOK wb) (hc : wOK wc) (hd : wOK wd) (la : wa.length <= 16777216) (lb : wb.length <= 16777216) (lc : wc.length <= 16777216) (ld : wd.length <= 16777216) :
  Con Tryz.prog 37 [AG (QC na wa nb wb), AG (QC nc wc nd wd)] { v := AG (QZ (qv na wa nb wb * qv nc wc nd wd)) } := by
 have z1 : zl (zv na wa) <= 16777216 := by unfold zl; rw [bJ]; exact Nat.le_trans (bw ha) la
 have z2 : zl (zv nb wb) <= 16777216 := by unfold zl; rw [bJ]; exact Nat.le_trans (bw hb) lb
 have z3 : zl (zv nc wc) <= 16777216 := by unfold zl; rw [bJ]; exact Nat.le_trans (bw hc) lc
 have z4 : zl (zv nd wd) <= 16777216 := by unfold zl; rw [bJ]; exact Nat.le_trans (bw hd) ld
 have m1 := cu (zv na wa) (zv nc wc)
 have m2 := cu (zv nb wb) (zv nd wd)
 have hz : Rat.divInt (zv na wa * zv nc wc) (zv nb wb * zv nd wd) = qv na wa nb wb * qv nc wc nd wd := by unfold qv; rw [Rat.divInt_mul_divInt]
 refine Z3 Tryz.func37 ?_
 intro w0 X
 rw [aq _ _ [(0, AG (QC na wa nb wb)), (1, AG (QC nc wc nd wd))] rfl rfl];refine gQ fun _ O=>?_;refine aG rfl rfl rfl rfl rfl rfl ?_;refine aG rfl rfl rfl rfl rfl rfl ?_;refine aw rfl rfl rfl rfl rfl rfl ?_;refine eQ O ?_;clear O;refine aL tok mixed (A := [[], [], [], [], [0, 2], [], [], [], [], [0, 1, 2, 3, 5, 7], [0, 1, 2, 3, 5, 6, 7, 8], []]) (an := [{}, {}, {}, {}, {}, { c := [9] }, { c := [9] }, { c := [9] }, { c := [9] }, {}, {}, {}]) rfl (by kernel_rfl) rfl fun _ O=>?_;refine Z5 ?_;refine Z7 ?_;refine Z5 ?_;refine Z7 ?_;refine ac rfl rfl (vg na nc wa wc ha hc (by omega) (by omega)) rfl rfl rfl rfl ?_;refine Z5 ?_;refine Z7 ?_;refine Z5 ?_;refine Z7 ?_;refine ac rfl rfl (vg nb nd wb wd hb hd (by omega) (by omega)) rfl rfl rfl rfl ?_;refine ac rfl rfl (nV (zv na wa * zv nc wc) (zv nb wb * zv nd wd) _ (by omega) (by omega) hz) rfl rfl rfl rfl ?_;refine aj rfl rfl rfl rfl rfl ?_;refine eQ O ?_;clear O;exact ah aT

theorem ze {na nb : Bool} {wa wb : List Nat} {k : Nat} (ha : wOK wa) (hb : wOK wb) (la : wa.length <= k) (lb : wb.length <= k) (hk : 1 <= k) : ql (qv na wa nb wb) <= k := by
 refine Nat.le_trans (d5 _ _) ?_
 have h1 := bw ha
 have h2 := bw hb
 unfold zl wl; rw [bJ, bJ]; omega
theorem jV (x y : Rat) (na nb nc nd : Bool) (wa wb wc wd : List Nat) (ha : wOK wa) (hb : wOK wb) (hc : wOK wc) (hd : wOK wd) (la : wa.length <= 16777216) (lb : wb.length <= 16777216) (lc : wc.length <= 16777216) (ld : wd.length <= 16777216)
  (hx : qv na wa nb wb = x) (hy : qv nc wc nd wd = y) :
  Con Tryz.prog 37 [AG (QC na wa nb wb), AG (QC nc wc nd wd)] { v := AG (QZ (x * y)) } := by
 subst hx hy
 exact DA na nb nc nd wa wb wc wd ha hb hc hd la lb lc ld
theorem o7 (x y : Rat) (na nb nc nd : Bool) (wa wb wc wd : List Nat) (ha : wOK wa) (hb : wOK wb) (hc : wOK wc) (hd : wOK wd) (la : wa.length <= 16777216) (lb : wb.length <= 16777216) (lc : wc.length <= 16777216) (ld : wd.length <= 16777216)
  (hx : qv na wa nb wb = x) (hy : qv nc wc nd wd = y) :
  Con Tryz.prog 92 [AG (QC na wa nb wb), AG (QC nc wc nd wd)] { v := AG (QZ (x + y)) } := by
 subst hx hy
 exact zr na nb nc nd wa wb wc wd ha hb hc hd la lb lc ld
theorem BG (x y : Rat) (hx : ql x <= 16777216) (hy : ql y <= 16777216) : Con Tryz.prog 92 [AG (QZ x), AG (QZ y)] { v := AG (QZ (x + y)) } :=
 o7 x y _ _ _ _ _ _ _ _ (ay _) (ay _) (ay _) (ay _) (Nat.le_trans (gB x) hx) (Nat.le_trans (gC x) hx) (Nat.le_trans (gB y) hy) (Nat.le_trans (gC y) hy) (iB x) (iB y)
theorem zn (x y : Rat) (na nb nc nd : Bool) (wa wb wc wd : List Nat) (ha : wOK wa) (hb : wOK wb) (hc : wOK wc) (hd : wOK wd) (la : wa.length <= 16777215) (lb : wb.length <= 16777215) (lc : wc.length <= 16777215) (ld : wd.length <= 16777215)
  (hx : qv na wa nb wb = x) (hy : qv nc wc nd wd = y) :
  Con Tryz.prog 125 [AG (QC na wa nb wb), AG (QC nc wc nd wd)] { v := AG (QZ (x - y)) } := by
 subst hx hy
 exact Dx na nb nc nd wa wb wc wd ha hb hc hd (by omega) (by omega) lc ld
theorem BE (x y : Rat) (hx : ql x <= 16777215) (hy : ql y <= 16777215) : Con Tryz.prog 125 [AG (QZ x), AG (QZ y)] { v := AG (QZ (x - y)) } :=
 zn x y _ _ _ _ _ _ _ _ (ay _) (ay _) (ay _) (ay _) (Nat.le_trans (gB x) hx) (Nat.le_trans (gC x) hx) (Nat.le_trans (gB y) hy) (Nat.le_trans (gC y) hy) (iB x) (iB y)
end Go.Proofs.YtceacleokgoooaaGreatDoor

/- Rotations as pairs of integers. No condition. -/
namespace Go.Proofs.YtceacleokgoooaaGreatDoor

def mr (p q : Int) : Bool := decide (q < 0) || (decide (q = 0) && decide (p < 0))
def rg (p q : Int) : Int := if mr p q then -(Int.gcd p q : Int) else (Int.gcd p q : Int)
def rP (p q : Int) : Int := if p = 0 /\ q = 0 then 0 else p / rg p q
def rQ (p q : Int) : Int := if p = 0 /\ q = 0 then 1 else q / rg p q

theorem sc {p q : Int} (h : ¬ (p = 0 /\ q = 0)) : (Int.gcd p q : Int) ≠ 0 := by
 intro h'
 have := Int.gcd_eq_zero_iff.1 (by omega : Int.gcd p q = 0)
 exact h this
theorem CN {p q : Int} (h : ¬ (p = 0 /\ q = 0)) : rg p q ≠ 0 := by
 have := sc h
 unfold rg; split <;> omega
theorem yZ (p q : Int) : rg p q ∣ p /\ rg p q ∣ q := by
 have h1 : (Int.gcd p q : Int) ∣ p := Int.gcd_dvd_left ..
 have h2 : (Int.gcd p q : Int) ∣ q := Int.gcd_dvd_right ..
 unfold rg
 split
 ·exact ⟨Int.neg_dvd.2 h1, Int.neg_dvd.2 h2⟩
 ·exact ⟨h1, h2⟩
theorem nS {p q : Int} (h : ¬ (p = 0 /\ q = 0)) : rP p q * rg p q = p /\ rQ p q * rg p q = q := by
 unfold rP rQ
 rw [if_neg h, if_neg h];exact ⟨Int.ediv_mul_cancel (yZ p q).1, Int.ediv_mul_cancel (yZ p q).2⟩
theorem uN (p q : Int) : ¬ (rP p q = 0 /\ rQ p q = 0) := by
 by_cases h : p = 0 /\ q = 0
 ·unfold rP rQ; rw [if_pos h, if_pos h]; omega
 ·intro h'
  have := nS h
  rw [h'.1, h'.2] at this
  omega
theorem qN (p q : Int) : (rg p q).natAbs = Int.gcd p q := by unfold rg; split <;> omega
theorem nh (x p q : Int) : (x / rg p q).natAbs <= x.natAbs := by
 unfold rg
 split
 ·rw [Int.ediv_neg, Int.natAbs_neg]; exact dR x _
 ·exact dR x _
theorem yh (p q : Int) : zl (rP p q) <= max 1 (zl p) := by
 unfold rP
 split
 ·simp [zl, wl, og]
 ·exact Nat.le_trans (bM (nh p p q)) (Nat.le_max_right _ _)
theorem yg (p q : Int) : zl (rQ p q) <= max 1 (zl q) := by
 unfold rQ
 split
 ·show wl 1 <= _; rw [ux]; omega
 ·exact Nat.le_trans (bM (nh q p q)) (Nat.le_max_right _ _)
theorem od {p q : Int} {k : Nat} (hk : Nat.ble 1 k = true) (hp : zl p <= k) : zl (rP p q) <= k := Nat.le_trans (yh p q) (Nat.max_le.2 ⟨Nat.le_of_ble_eq_true hk, hp⟩)
theorem oc {p q : Int} {k : Nat} (hk : Nat.ble 1 k = true) (hq : zl q <= k) : zl (rQ p q) <= k := Nat.le_trans (yg p q) (Nat.max_le.2 ⟨Nat.le_of_ble_eq_true hk, hq⟩)
def pQ (p q : Int) : Rat := Rat.divInt (rQ p q * rQ p q - rP p q * rP p q) (rQ p q * rQ p q + rP p q * rP p q)
def oO (p q : Int) : Rat := Rat.divInt (rQ p q * rP p q + rP p q * rQ p q) (rQ p q * rQ p q + rP p q * rP p q)
theorem zi (p q : Int) {k : Nat} (hp : zl p <= k) (hq : zl q <= k) (hk : 1 <= k) : ql (pQ p q) <= 2 * k + 1 := by
 have h1 := yh p q
 have h2 := yg p q
 refine Nat.le_trans (d5 _ _) ?_
 have m1 := cu (rQ p q) (rQ p q)
 have m2 := cu (rP p q) (rP p q)
 have m3 := yf (rQ p q * rQ p q) (rP p q * rP p q)
 have m4 := kC (rQ p q * rQ p q) (rP p q * rP p q)
 omega
theorem zd (p q : Int) {k : Nat} (hp : zl p <= k) (hq : zl q <= k) (hk : 1 <= k) : ql (oO p q) <= 2 * k + 1 := by
 have h1 := yh p q
 have h2 := yg p q
 refine Nat.le_trans (d5 _ _) ?_
 have m1 := cu (rQ p q) (rQ p q)
 have m2 := cu (rP p q) (rP p q)
 have m5 := cu (rQ p q) (rP p q)
 have m6 := cu (rP p q) (rQ p q)
 have m3 := kC (rQ p q * rP p q) (rP p q * rQ p q)
 have m4 := kC (rQ p q * rQ p q) (rP p q * rP p q)
 omega
end Go.Proofs.YtceacleokgoooaaGreatDoor

/- Rotations as the program computes them. No condition. -/
namespace Go.Proofs.YtceacleokgoooaaGreatDoor
attribute [local irreducible] aF

def PZ (x y : Int) : List SC := QC (decide (x < 0)) (wof x.natAbs) (decide (y < 0)) (wof y.natAbs)
theorem yN {n : Bool} {w : List Nat} {x : Int} (h : zv n w = x) : (((zv n w).sign == 0) = true ↔ x = 0) /\ (((zv n w).sign == 0) = false ↔ x ≠ 0) := by
 subst h
 have := Int.sign_eq_zero_iff_zero (a := zv n w)
 constructor
 ·simp [this]
 ·simp [this]

theorem Db (np nq : Bool) (wp wq : List Nat) (hp : wOK wp) (hq : wOK wq) (lp : wp.length <= 268435456) (lq : wq.length <= 268435456) (h1 : zv np wp = 0) (h2 : zv nq wq = 0) :
  Con Tryz.prog 52 [AG (QC np wp nq wq)] { v := AG (PZ 1 0) } := by
 refine Z3 Tryz.func52 ?_
 intro w0 X
 rw [aq _ _ [(0, AG (QC np wp nq wq))] rfl rfl];refine gQ fun _ O=>?_;refine aG rfl rfl rfl rfl rfl rfl ?_;refine aw rfl rfl rfl rfl rfl rfl ?_;refine eQ O ?_;clear O;refine ag ?_;refine gQ fun _ O=>?_;refine Z5 ?_;refine Z7 ?_;refine ac rfl rfl (d6 np wp hp (by omega)) rfl rfl rfl rfl ?_;refine Z6 ?_;refine Z9 ?_;rw [h1];refine CL (v' := dB true) rfl ?_;refine Z5 ?_;refine Z7 ?_;refine ac rfl rfl (d6 nq wq hq (by omega)) rfl rfl rfl rfl ?_;refine Z6 ?_;rw [h2];refine Z4 ?_;refine eQ O ?_;clear O;refine ap rfl (fun hc => ?_) (fun hc => by cases hc);refine gQ fun _ O=>?_;refine ac rfl rfl (qS 1 (by unfold I64; omega)) rfl rfl rfl rfl ?_;refine aI rfl rfl rfl ?_;refine aj rfl rfl rfl rfl rfl ?_;refine eQ O ?_;clear O;exact ah aT

theorem yD (np nq : Bool) (wp wq : List Nat) (hp : wOK wp) (hq : wOK wq) (lp : wp.length <= 268435456) (lq : wq.length <= 268435456) (h : ¬ (zv np wp = 0 /\ zv nq wq = 0)) :
  Con Tryz.prog 52 [AG (QC np wp nq wq)] { v := AG (QC nq wq np wp) } := by
 refine Z3 Tryz.func52 ?_
 intro w0 X
 rw [aq _ _ [(0, AG (QC np wp nq wq))] rfl rfl];refine gQ fun _ O=>?_;refine aG rfl rfl rfl rfl rfl rfl ?_;refine aw rfl rfl rfl rfl rfl rfl ?_;refine eQ O ?_;clear O;refine ag ?_;refine bd (α := Unit) (fun _ => mk 20 [(1, .ptr 1 0), (2, .ptr 2 0), (12, dB false)] [(1, some (.box (QC np wp nq wq))), (2, some (.box [.d (.lit (.bool false)), .nil, .d (.lit (.bool false)), .nil]))] []) (fun _ => True) ?_ ?_
 ·refine gR fun _ O=>?_;refine Z5 ?_;refine Z7 ?_;refine ac rfl rfl (d6 np wp hp (by omega)) rfl rfl rfl rfl ?_;refine Z6 ?_;refine Z9 ?_;refine ep (fun hb => ?_) (fun hb => ?_)
  ·have hb : zv np wp = 0 := (yN rfl).1.1 hb
   have h2 : zv nq wq ≠ 0 := fun h' => h ⟨hb, h'⟩
   refine Z5 ?_;refine Z7 ?_;refine ac rfl rfl (d6 nq wq hq (by omega)) rfl rfl rfl rfl ?_;refine Z6 ?_;refine Z4 ?_;refine eQ O ?_;clear O;refine ⟨(), trivial, Wk.mk' ⟨rfl, rfl, ?_, trivial⟩ ⟨rfl, rfl, trivial⟩⟩;exact d7 ((yN rfl).2.2 h2)
  ·refine aA rfl ?_;refine aA rfl ?_;refine aA rfl ?_;refine aA rfl ?_;refine Z4 ?_;refine eQ O ?_;clear O;exact ⟨(), trivial, Wk.mk' ⟨rfl, rfl, rfl, trivial⟩ ⟨rfl, rfl, trivial⟩⟩
 rintro - -
 refine ap rfl (fun hc => by cases hc) (fun hc => ?_);refine ak ?_;show AWP _ _ _ _ _ _;refine gQ fun _ O=>?_;refine Z5 ?_;refine Z7 ?_;refine Z5 ?_;refine Z7 ?_;refine aI rfl rfl rfl ?_;refine aj rfl rfl rfl rfl rfl ?_;refine eQ O ?_;clear O;exact ah aT

theorem yz (nr ni : Bool) (wr wi : List Nat) (hr : wOK wr) (hi : wOK wi) (lr : wr.length <= 268435456) (li : wi.length <= 268435456) (h : ¬ (zv ni wi = 0 /\ zv nr wr = 0)) :
  Con Tryz.prog 53 [AG (QC nr wr ni wi)] { v := AG (PZ (rP (zv ni wi) (zv nr wr)) (rQ (zv ni wi) (zv nr wr))) } := by
 have lzr : zl (zv nr wr) <= 268435456 := by unfold zl; rw [bJ]; exact Nat.le_trans (bw hr) lr
 have lzi : zl (zv ni wi) <= 268435456 := by unfold zl; rw [bJ]; exact Nat.le_trans (bw hi) li
 generalize hx : zv nr wr = x at *;generalize hy : zv ni wi = y at *
 have hg : zl (Int.gcd y x : Int) <= 268435456 := by
  by_cases h0 : x = 0
  ·have : y ≠ 0 := fun h' => h ⟨h', h0⟩
   rw [Int.gcd_comm]; exact Nat.le_trans (ro x this) lzi
  ·exact Nat.le_trans (ro y h0) lzr
 have hgc : Int.gcd (zv nr wr) (zv ni wi) = Int.gcd y x := by rw [hx, hy, Int.gcd_comm]
 have hrg : zl (rg y x) <= 268435456 := by unfold zl; rw [qN]; rw [ut] at hg; exact hg
 have hrn := CN h
 have sx := yN hx
 have sxl : (zv nr wr).sign < 0 ↔ x < 0 := by rw [hx]; exact Int.sign_neg_iff
 have syl : (zv ni wi).sign < 0 ↔ y < 0 := by rw [hy]; exact Int.sign_neg_iff
 refine Z3 Tryz.func53 ?_
 intro w0 X
 rw [aq _ _ [(0, AG (QC nr wr ni wi))] rfl rfl];refine gQ fun _ O=>?_;refine aG rfl rfl rfl rfl rfl rfl ?_;refine aw rfl rfl rfl rfl rfl rfl ?_;refine eQ O ?_;clear O;refine gQ fun _ O=>?_;refine Z5 ?_;refine Z7 ?_;refine Z5 ?_;refine Z7 ?_;refine ac rfl rfl (hgc ▸ Ab nr ni wr wi hr hi lr li) rfl rfl rfl rfl ?_;refine aw rfl rfl rfl rfl rfl rfl ?_;refine aj rfl rfl rfl rfl rfl ?_;refine eQ O ?_;clear O;refine bd (α := Unit) (fun _ => mk 52 [(1, .ptr 1 0), (2, .ptr 2 0), (3, .ptr 3 0)] [(1, some (.box (QC nr wr ni wi))), (2, some (.box [.d (.lit (.bool false)), .nil, .d (.lit (.bool false)), .nil])), (3, some (.box (ZC (rg y x))))] []) (fun _ => True) ?_ ?_
 ·refine gQ fun _ O=>?_;refine Z5 ?_;refine Z7 ?_;refine ac rfl rfl (d6 nr wr hr (by omega)) rfl rfl rfl rfl ?_;refine Z8 ?_;refine eQ O ?_;clear O;refine bd (α := Bool) (fun c => mk 52 [(1, .ptr 1 0), (2, .ptr 2 0), (3, .ptr 3 0), (30, dB c)] [(1, some (.box (QC nr wr ni wi))), (2, some (.box [.d (.lit (.bool false)), .nil, .d (.lit (.bool false)), .nil])), (3, some (.box (ZC (Int.gcd y x : Int))))] []) (fun c => c = mr y x) ?_ ?_
  ·refine dx fun _ O=>?_;refine aa tok rfl ?_;refine Z9 ?_;refine ab ?_;refine aa tok rfl ?_;refine Z6 ?_;refine ab ?_;refine aa tok rfl ?_;refine Z9 ?_;refine ab ?_;refine bF (fun hb => ?_) (fun hb => ?_)
   ·have hb : x < 0 := sxl.1 (of_decide_eq_true hb)
    refine ar rfl rfl ?_;refine ar rfl rfl ?_;refine ar rfl rfl ?_;refine jj rfl rfl rfl ?_;refine jj rfl rfl rfl ?_;refine jj rfl rfl rfl ?_;refine jj rfl rfl rfl ?_;refine ar rfl rfl ?_;refine aa tok rfl ?_;refine Z4 ?_;refine ab ?_;refine aM rfl (O _ ?_); clear O;exact ⟨true, by unfold mr; simp [hb], Wk.mk' ⟨rfl, rfl, rfl, rfl, trivial⟩ ⟨rfl, rfl, rfl, trivial⟩⟩
   have hb : ¬ x < 0 := fun h' => of_decide_eq_false hb (sxl.2 h')
   refine aa tok rfl ?_;refine Z9 ?_;refine ab ?_;refine aa tok rfl ?_;refine Z6 ?_;refine ab ?_;refine aa tok rfl ?_;refine Z9 ?_;refine ab ?_;refine bF (fun he => ?_) (fun he => ?_)
   ·have he : x = 0 := sx.1.1 he
    refine aa tok rfl ?_;refine Z5 ?_;refine ab ?_;refine aa tok rfl ?_;refine Z7 ?_;refine ab ?_;refine aa tok rfl ?_;refine ac rfl rfl (d6 ni wi hi (by omega)) rfl rfl rfl rfl ?_;refine ab ?_;refine aa tok rfl ?_;refine Z6 ?_;refine ab ?_;refine aa tok rfl ?_;refine Z4 ?_;refine ab ?_;refine aa tok rfl ?_;refine Z4 ?_;refine ab ?_;refine aM rfl (O _ ?_); clear O;refine ⟨_, ?_, Wk.mk' ⟨rfl, rfl, rfl, rfl, trivial⟩ ⟨rfl, rfl, rfl, trivial⟩⟩
    unfold mr
    rw [decide_eq_false hb, decide_eq_true he, Bool.false_or, Bool.true_and];exact decide_eq_decide.2 syl
   ·have he : x ≠ 0 := sx.2.1 he
    refine ar rfl rfl ?_;refine ar rfl rfl ?_;refine ar rfl rfl ?_;refine ar rfl rfl ?_;refine aa tok rfl ?_;refine Z4 ?_;refine ab ?_;refine aa tok rfl ?_;refine Z4 ?_;refine ab ?_;refine aM rfl (O _ ?_); clear O;exact ⟨false, by unfold mr; simp [hb, he], Wk.mk' ⟨rfl, rfl, rfl, rfl, trivial⟩ ⟨rfl, rfl, rfl, trivial⟩⟩
  rintro c hcr
  refine ap rfl (fun hc => ?_) (fun hc => ?_)
  ·rw [hcr] at hc;refine gR fun _ O=>?_;refine Z7 ?_;refine ac rfl rfl (B5 (Int.gcd y x : Int) hg) rfl rfl rfl rfl ?_;refine aj rfl rfl rfl rfl rfl ?_;refine eQ O ?_;clear O;exact ⟨(), trivial, Wk.mk' ⟨rfl, rfl, rfl, trivial⟩ ⟨rfl, rfl, by unfold rg; rw [if_pos hc]; rfl, trivial⟩⟩
  ·rw [hcr] at hc;refine ak ?_;exact ⟨(), trivial, Wk.mk' ⟨rfl, rfl, rfl, trivial⟩ ⟨rfl, rfl, by unfold rg; rw [if_neg (by simp [hc])]; rfl, trivial⟩⟩
 rintro - -
 have e1 : rQ y x = x / rg y x := by unfold rQ; rw [if_neg h]
 have e2 : rP y x = y / rg y x := by unfold rP; rw [if_neg h]
 refine gQ fun _ O=>?_;refine Z5 ?_;refine Z7 ?_;refine Z7 ?_;refine ac rfl rfl (kn nr (decide (rg y x < 0)) wr (wof (rg y x).natAbs) x (rg y x) (rQ y x) hr (ay _) lr hrg hx (bu _) hrn e1.symm) rfl rfl rfl rfl ?_;refine Z9 ?_;refine au rfl rfl rfl ?_;refine au rfl rfl rfl ?_;refine au rfl rfl rfl ?_;refine aw rfl rfl rfl rfl rfl rfl ?_;refine aw rfl rfl rfl rfl rfl rfl ?_;refine aj rfl rfl rfl rfl rfl ?_;refine aj rfl rfl rfl rfl rfl ?_;refine Z8 ?_;refine eQ O ?_;clear O;refine gQ fun _ O=>?_;refine Z5 ?_;refine Z7 ?_;refine Z7 ?_;refine ac rfl rfl (kn ni (decide (rg y x < 0)) wi (wof (rg y x).natAbs) y (rg y x) (rP y x) hi (ay _) li hrg hy (bu _) hrn e2.symm) rfl rfl rfl rfl ?_;refine Z9 ?_;refine au rfl rfl rfl ?_;refine au rfl rfl rfl ?_;refine au rfl rfl rfl ?_;refine aw rfl rfl rfl rfl rfl rfl ?_;refine aw rfl rfl rfl rfl rfl rfl ?_;refine aj rfl rfl rfl rfl rfl ?_;refine aj rfl rfl rfl rfl rfl ?_;refine Z8 ?_;refine eQ O ?_;clear O;refine gQ fun _ O=>?_;refine Z7 ?_;refine Z7 ?_;refine aI rfl rfl rfl ?_;refine aj rfl rfl rfl rfl rfl ?_;refine eQ O ?_;clear O;exact ah aT

theorem A9 (x y : Int) (hx : zl x <= 268435456) (hy : zl y <= 268435456) (h : ¬ (y = 0 /\ x = 0)) :
  Con Tryz.prog 53 [AG (PZ x y)] { v := AG (PZ (rP y x) (rQ y x)) } := by
 have := yz (decide (x < 0)) (decide (y < 0)) (wof x.natAbs) (wof y.natAbs) (ay _) (ay _) hx hy (by rw [bu, bu]; exact h)
 rw [bu, bu] at this; exact this

theorem vW (np nq : Bool) (wp wq : List Nat) (hp : wOK wp) (hq : wOK wq) (lp : wp.length <= 268435456) (lq : wq.length <= 268435456) :
  Con Tryz.prog 18 [AG (QC np wp nq wq)] { v := AG (PZ (rP (zv np wp) (zv nq wq)) (rQ (zv np wp) (zv nq wq))) } := by
 by_cases h : zv np wp = 0 /\ zv nq wq = 0
 ·have e : PZ (rP (zv np wp) (zv nq wq)) (rQ (zv np wp) (zv nq wq)) = PZ (rP 0 1) (rQ 0 1) := by rw [h.1, h.2]; rfl
  rw [e];refine Z3 Tryz.func18 ?_
  intro w0 X
  rw [aq _ _ [(0, AG (QC np wp nq wq))] rfl rfl];refine gQ fun _ O=>?_;refine aG rfl rfl rfl rfl rfl rfl ?_;refine aw rfl rfl rfl rfl rfl rfl ?_;refine eQ O ?_;clear O;refine gQ fun _ O=>?_;refine Z7 ?_;refine ac rfl rfl (Db np nq wp wq hp hq lp lq h.1 h.2) rfl rfl rfl rfl ?_;refine ac rfl rfl (A9 1 0 (by decide) (by decide) (by decide)) rfl rfl rfl rfl ?_;refine aj rfl rfl rfl rfl rfl ?_;refine eQ O ?_;clear O;exact ah aT
 ·show Con _ _ _ _
  refine Z3 Tryz.func18 ?_
  intro w0 X
  rw [aq _ _ [(0, AG (QC np wp nq wq))] rfl rfl];refine gQ fun _ O=>?_;refine aG rfl rfl rfl rfl rfl rfl ?_;refine aw rfl rfl rfl rfl rfl rfl ?_;refine eQ O ?_;clear O;refine gQ fun _ O=>?_;refine Z7 ?_;refine ac rfl rfl (yD np nq wp wq hp hq lp lq h) rfl rfl rfl rfl ?_;refine ac rfl rfl (yz nq np wq wp hq hp lq lp h) rfl rfl rfl rfl ?_;refine aj rfl rfl rfl rfl rfl ?_;refine eQ O ?_;clear O;exact ah aT

theorem yC (x y : Int) (hx : zl x <= 268435456) (hy : zl y <= 268435456) (h : ¬ (x = 0 /\ y = 0)) : Con Tryz.prog 52 [AG (PZ x y)] { v := AG (PZ y x) } :=
 yD (decide (x < 0)) (decide (y < 0)) (wof x.natAbs) (wof y.natAbs) (ay _) (ay _) hx hy (by rw [bu, bu]; exact h)

theorem sK (a b c d : Int) (ha : zl a <= 134217728) (hb : zl b <= 134217728) (hc : zl c <= 134217728) (hd : zl d <= 134217728) :
  Con Tryz.prog 167 [AG (PZ a b), AG (PZ c d)] { v := AG (PZ (a * c - b * d) (a * d + b * c)) } := by
 have m1 := cu a c
 have m2 := cu b d
 have m3 := cu a d
 have m4 := cu b c
 refine Z3 Tryz.func167 ?_
 intro w0 X
 rw [aq _ _ [(0, AG (PZ a b)), (1, AG (PZ c d))] rfl rfl];refine gQ fun _ O=>?_;refine aG rfl rfl rfl rfl rfl rfl ?_;refine aG rfl rfl rfl rfl rfl rfl ?_;refine aw rfl rfl rfl rfl rfl rfl ?_;refine eQ O ?_;clear O;refine aL tok mixed (A := [[], [], [], [], [0, 2], [], [], [], [], [0, 1, 2, 3, 5, 7], [0, 1, 2, 3, 5, 6, 7, 8], [], [], [], [], [0, 1, 2, 3, 4, 5, 6, 7, 8, 9, 11, 13], [], [], [], [], [0, 1, 2, 3, 4, 5, 6, 7, 8, 9, 10, 11, 12, 13, 14, 16, 18], [0, 1, 2, 3, 4, 5, 6, 7, 8, 9, 10, 11, 12, 13, 14, 16, 17, 18, 19], [0, 1, 2, 3, 4, 5, 6, 7, 8, 9, 11, 12, 13, 14, 15, 16, 17, 18, 19, 20], []]) (an := [{}, {}, {}, {}, {}, { c := [9] }, { c := [9] }, { c := [9] }, { c := [9] }, {}, {}, { c := [9, 14, 15] }, { c := [9, 14, 15] }, { c := [9, 14, 15] }, { c := [9, 14, 15] }, {}, { c := [9, 14, 15, 20] }, { c := [9, 14, 15, 20] }, { c := [9, 14, 15, 20] }, { c := [9, 14, 15, 20] }, {}, {}, {}, {}]) rfl (by kernel_rfl) rfl fun _ O=>?_;refine Z5 ?_;refine Z7 ?_;refine Z5 ?_;refine Z7 ?_;refine ac rfl rfl (eK a c (by omega) (by omega)) rfl rfl rfl rfl ?_;refine Z5 ?_;refine Z7 ?_;refine Z5 ?_;refine Z7 ?_;refine ac rfl rfl (eK b d (by omega) (by omega)) rfl rfl rfl rfl ?_;refine ac rfl rfl (B4 (a * c) (b * d) (by omega) (by omega)) rfl rfl rfl rfl ?_;refine Z5 ?_;refine Z7 ?_;refine Z5 ?_;refine Z7 ?_;refine ac rfl rfl (eK a d (by omega) (by omega)) rfl rfl rfl rfl ?_;refine Z5 ?_;refine Z7 ?_;refine Z5 ?_;refine Z7 ?_;refine ac rfl rfl (eK b c (by omega) (by omega)) rfl rfl rfl rfl ?_;refine ac rfl rfl (sb (a * d) (b * c) (by omega) (by omega)) rfl rfl rfl rfl ?_;refine aI rfl rfl rfl ?_;refine aj rfl rfl rfl rfl rfl ?_;refine eQ O ?_;clear O;exact ah aT

theorem qn (a b : Int) (ha : zl a <= 134217728) (hb : zl b <= 134217728) :
  Con Tryz.prog 168 [AG (PZ a b)] { v := AG (ZC (a * a + b * b)) } := by
 have m1 := cu a a
 have m2 := cu b b
 refine Z3 Tryz.func168 ?_
 intro w0 X
 rw [aq _ _ [(0, AG (PZ a b))] rfl rfl];refine gQ fun _ O=>?_;refine aG rfl rfl rfl rfl rfl rfl ?_;refine aw rfl rfl rfl rfl rfl rfl ?_;refine eQ O ?_;clear O;refine aL tok mixed (A := [[], [], [], [], [0, 2], [], [], [], [], [0, 1, 2, 3, 5, 7], [0, 1, 2, 3, 5, 6, 7, 8], []]) (an := [{}, {}, {}, {}, {}, { c := [7] }, { c := [7] }, { c := [7] }, { c := [7] }, {}, {}, {}]) rfl (by kernel_rfl) rfl fun _ O=>?_;refine Z5 ?_;refine Z7 ?_;refine Z5 ?_;refine Z7 ?_;refine ac rfl rfl (eK a a (by omega) (by omega)) rfl rfl rfl rfl ?_;refine Z5 ?_;refine Z7 ?_;refine Z5 ?_;refine Z7 ?_;refine ac rfl rfl (eK b b (by omega) (by omega)) rfl rfl rfl rfl ?_;refine ac rfl rfl (sb (a * a) (b * b) (by omega) (by omega)) rfl rfl rfl rfl ?_;refine aj rfl rfl rfl rfl rfl ?_;refine eQ O ?_;clear O;exact ah aT

theorem gH {n : Bool} {w : List Nat} {k : Nat} (h : wOK w) (l : w.length <= k) : zl (zv n w) <= k := by
 unfold zl; rw [bJ]; exact Nat.le_trans (bw h) l

theorem vV (np nq : Bool) (wp wq : List Nat) (a b : Int) (hp : wOK wp) (hq : wOK wq) (lp : wp.length <= 268435456) (lq : wq.length <= 268435456) (ha : rP (zv np wp) (zv nq wq) = a) (hb : rQ (zv np wp) (zv nq wq) = b) :
  Con Tryz.prog 18 [AG (QC np wp nq wq)] { v := AG (PZ a b) } := by
 subst ha hb
 exact vW np nq wp wq hp hq lp lq

theorem De (np nq : Bool) (wp wq : List Nat) (hp : wOK wp) (hq : wOK wq) (lp : wp.length <= 67108864) (lq : wq.length <= 67108864) :
  Con Tryz.prog 145 [AG (QC np wp nq wq)] { v := AG (QZ (pQ (zv np wp) (zv nq wq))) } := by
 have r1 : zl (rP (zv np wp) (zv nq wq)) <= 67108864 := od rfl (gH hp lp)
 have r2 : zl (rQ (zv np wp) (zv nq wq)) <= 67108864 := oc rfl (gH hq lq)
 have n1 := uN (zv np wp) (zv nq wq)
 unfold pQ
 generalize hA : rP (zv np wp) (zv nq wq) = a at *;generalize hB : rQ (zv np wp) (zv nq wq) = b at *
 have m5 : zl (b * b - a * a) <= 268435456 := bc (xc (dy r2 r2) (dy r1 r1)) rfl
 have m6 : zl (b * b + a * a) <= 268435456 := bc (mi (dy r2 r2) (dy r1 r1)) rfl
 refine Z3 Tryz.func145 ?_
 intro w0 X
 rw [aq _ _ [(0, AG (QC np wp nq wq))] rfl rfl];refine gQ fun _ O=>?_;refine aG rfl rfl rfl rfl rfl rfl ?_;refine aw rfl rfl rfl rfl rfl rfl ?_;refine eQ O ?_;clear O;refine gQ fun _ O=>?_;refine Z7 ?_;refine ac rfl rfl (vV np nq wp wq a b hp hq (bc lp rfl) (bc lq rfl) hA hB) rfl rfl rfl rfl ?_;refine ac rfl rfl (yC a b (bc r1 rfl) (bc r2 rfl) n1) rfl rfl rfl rfl ?_;refine aw rfl rfl rfl rfl rfl rfl ?_;refine aj rfl rfl rfl rfl rfl ?_;refine eQ O ?_;clear O;refine aL tok mixed (A := [[], [], [], [0, 1], [], [0, 1], [0, 1, 2, 4], []]) (an := [{}, {}, {}, {}, { c := [9] }, {}, {}, {}]) rfl (by kernel_rfl) rfl fun _ O=>?_;refine Z7 ?_;refine Z7 ?_;refine ac rfl rfl (sK b a b a (bc r2 rfl) (bc r1 rfl) (bc r2 rfl) (bc r1 rfl)) rfl rfl rfl rfl ?_;refine lF rfl rfl rfl ?_;refine Z7 ?_;refine ac rfl rfl (qn b a (bc r2 rfl) (bc r1 rfl)) rfl rfl rfl rfl ?_;refine ac rfl rfl (nV (b * b - a * a) (b * b + a * a) _ m5 m6 rfl) rfl rfl rfl rfl ?_;refine aj rfl rfl rfl rfl rfl ?_;refine eQ O ?_;clear O;exact ah aT

theorem Dd (np nq : Bool) (wp wq : List Nat) (hp : wOK wp) (hq : wOK wq) (lp : wp.length <= 67108864) (lq : wq.length <= 67108864) :
  Con Tryz.prog 146 [AG (QC np wp nq wq)] { v := AG (QZ (oO (zv np wp) (zv nq wq))) } := by
 have r1 : zl (rP (zv np wp) (zv nq wq)) <= 67108864 := od rfl (gH hp lp)
 have r2 : zl (rQ (zv np wp) (zv nq wq)) <= 67108864 := oc rfl (gH hq lq)
 have n1 := uN (zv np wp) (zv nq wq)
 unfold oO
 generalize hA : rP (zv np wp) (zv nq wq) = a at *;generalize hB : rQ (zv np wp) (zv nq wq) = b at *
 have m5 : zl (b * a + a * b) <= 268435456 := bc (mi (dy r2 r1) (dy r1 r2)) rfl
 have m6 : zl (b * b + a * a) <= 268435456 := bc (mi (dy r2 r2) (dy r1 r1)) rfl
 refine Z3 Tryz.func146 ?_
 intro w0 X
 rw [aq _ _ [(0, AG (QC np wp nq wq))] rfl rfl];refine gQ fun _ O=>?_;refine aG rfl rfl rfl rfl rfl rfl ?_;refine aw rfl rfl rfl rfl rfl rfl ?_;refine eQ O ?_;clear O;refine gQ fun _ O=>?_;refine Z7 ?_;refine ac rfl rfl (vV np nq wp wq a b hp hq (bc lp rfl) (bc lq rfl) hA hB) rfl rfl rfl rfl ?_;refine ac rfl rfl (yC a b (bc r1 rfl) (bc r2 rfl) n1) rfl rfl rfl rfl ?_;refine aw rfl rfl rfl rfl rfl rfl ?_;refine aj rfl rfl rfl rfl rfl ?_;refine eQ O ?_;clear O;refine aL tok mixed (A := [[], [], [], [0, 1], [], [0, 1], [0, 1, 2, 4], []]) (an := [{}, {}, {}, {}, { c := [9] }, {}, {}, {}]) rfl (by kernel_rfl) rfl fun _ O=>?_;refine Z7 ?_;refine Z7 ?_;refine ac rfl rfl (sK b a b a (bc r2 rfl) (bc r1 rfl) (bc r2 rfl) (bc r1 rfl)) rfl rfl rfl rfl ?_;refine lF rfl rfl rfl ?_;refine Z7 ?_;refine ac rfl rfl (qn b a (bc r2 rfl) (bc r1 rfl)) rfl rfl rfl rfl ?_;refine ac rfl rfl (nV (b * a + a * b) (b * b + a * a) _ m5 m6 rfl) rfl rfl rfl rfl ?_;refine aj rfl rfl rfl rfl rfl ?_;refine eQ O ?_;clear O;exact ah aT

theorem Bc (np nq na nb nc nd : Bool) (wp wq wa wb wc wd : List Nat) (hp : wOK wp) (hq : wOK wq) (ha : wOK wa) (hb : wOK wb) (hc : wOK wc) (hd : wOK wd)
  (lp : wp.length <= 1048576) (lq : wq.length <= 1048576) (la : wa.length <= 1048576) (lb : wb.length <= 1048576) (lc : wc.length <= 1048576) (ld : wd.length <= 1048576) :
  Con Tryz.prog 115 [AG (QC np wp nq wq), AG (QC na wa nb wb), AG (QC nc wc nd wd)]
   { v := .tup [.agg (QZ (pQ (zv np wp) (zv nq wq) * qv na wa nb wb - oO (zv np wp) (zv nq wq) * qv nc wc nd wd)), .agg (QZ (oO (zv np wp) (zv nq wq) * qv na wa nb wb + pQ (zv np wp) (zv nq wq) * qv nc wc nd wd))] } := by
 have c1 : ql (pQ (zv np wp) (zv nq wq)) <= 2097153 := zi (zv np wp) (zv nq wq) (gH hp lp) (gH hq lq) (by decide)
 have s1 : ql (oO (zv np wp) (zv nq wq)) <= 2097153 := zd (zv np wp) (zv nq wq) (gH hp lp) (gH hq lq) (by decide)
 have x1 := ze (na := na) (nb := nb) ha hb la lb (by decide)
 have y1 := ze (na := nc) (nb := nd) hc hd lc ld (by decide)
 generalize hC : pQ (zv np wp) (zv nq wq) = C at *;generalize hS : oO (zv np wp) (zv nq wq) = S at *;generalize hx : qv na wa nb wb = x at *;generalize hy : qv nc wc nd wd = y at *;refine Z3 Tryz.func115 ?_
 intro w0 X
 rw [aq _ _ [(0, AG (QC np wp nq wq)), (1, AG (QC na wa nb wb)), (2, AG (QC nc wc nd wd))] rfl rfl];refine gQ fun _ O=>?_;refine aG rfl rfl rfl rfl rfl rfl ?_;refine aG rfl rfl rfl rfl rfl rfl ?_;refine aG rfl rfl rfl rfl rfl rfl ?_;refine aw rfl rfl rfl rfl rfl rfl ?_;refine aw rfl rfl rfl rfl rfl rfl ?_;refine eQ O ?_;clear O;refine aL tok mixed (A := [[], [], [], [0], [], [], [2], []]) (an := [{}, {}, { c := [11] }, {}, { c := [11, 13] }, { c := [11, 13, 8] }, {}, {}]) rfl (by kernel_rfl) rfl fun _ O=>?_;refine Z7 ?_;refine ac rfl rfl (hC ▸ De np nq wp wq hp hq (bc lp rfl) (bc lq rfl)) rfl rfl rfl rfl ?_;refine Z7 ?_;refine ac rfl rfl (hS ▸ Dd np nq wp wq hp hq (bc lp rfl) (bc lq rfl)) rfl rfl rfl rfl ?_;refine aw rfl rfl rfl rfl rfl rfl ?_;refine aw rfl rfl rfl rfl rfl rfl ?_;refine aj rfl rfl rfl rfl rfl ?_;refine aj rfl rfl rfl rfl rfl ?_;refine eQ O ?_;clear O;refine aL tok mixed (A := [[], [], [], [], [], [0, 1], [0, 1, 3, 4], [], [], [0, 1, 2, 3, 4, 5], [], [], [0, 1, 2, 3, 4, 5, 6, 7, 8], [0, 1, 2, 3, 4, 5, 6, 7, 8, 10, 11], [7, 8, 9, 10, 11, 12], []]) (an := [{}, {}, {}, { c := [16] }, { c := [16] }, {}, {}, { c := [16, 19, 20] }, { c := [16, 19, 20] }, {}, { c := [16, 19, 20, 23] }, { c := [16, 19, 20, 23] }, {}, {}, {}, {}]) rfl (by kernel_rfl) rfl fun _ O=>?_;refine Z7 ?_;refine Z7 ?_;refine ac rfl rfl (jV C x _ _ _ _ _ _ _ _ (ay _) (ay _) ha hb (bc (cp c1) rfl) (bc (cr c1) rfl) (bc la rfl) (bc lb rfl) (iB C) hx) rfl rfl rfl rfl ?_;refine Z7 ?_;refine Z7 ?_;refine ac rfl rfl (jV S y _ _ _ _ _ _ _ _ (ay _) (ay _) hc hd (bc (cp s1) rfl) (bc (cr s1) rfl) (bc lc rfl) (bc ld rfl) (iB S) hy) rfl rfl rfl rfl ?_;refine ac rfl rfl (BE (C * x) (S * y) (bc (aO c1 x1) rfl) (bc (aO s1 y1) rfl)) rfl rfl rfl rfl ?_;refine Z7 ?_;refine Z7 ?_;refine ac rfl rfl (jV S x _ _ _ _ _ _ _ _ (ay _) (ay _) ha hb (bc (cp s1) rfl) (bc (cr s1) rfl) (bc la rfl) (bc lb rfl) (iB S) hx) rfl rfl rfl rfl ?_;refine Z7 ?_;refine Z7 ?_;refine ac rfl rfl (jV C y _ _ _ _ _ _ _ _ (ay _) (ay _) hc hd (bc (cp c1) rfl) (bc (cr c1) rfl) (bc lc rfl) (bc ld rfl) (iB C) hy) rfl rfl rfl rfl ?_;refine ac rfl rfl (BG (S * x) (C * y) (bc (aO s1 x1) rfl) (bc (aO c1 y1) rfl)) rfl rfl rfl rfl ?_;refine aj rfl rfl rfl rfl rfl ?_;refine aj rfl rfl rfl rfl rfl ?_;refine eQ O ?_;clear O;exact ah aT
end Go.Proofs.YtceacleokgoooaaGreatDoor

/- Data of the graph layer: rationals, rotations, links, positions as they stand. No condition. -/
namespace Go.Proofs.YtceacleokgoooaaGreatDoor

structure RW where
 np : Bool
 wp : List Nat
 nq : Bool
 wq : List Nat
  deriving DecidableEq
def RW.dc (r : RW) : List DC := [.lit (.bool r.np), dW r.wp, .lit (.bool r.nq), dW r.wq]
abbrev RW.cs (r : RW) : List SC := QC r.np r.wp r.nq r.wq
structure RW.OK (k : Nat) (r : RW) : Prop where
 op : wOK r.wp
 oq : wOK r.wq
 lp : r.wp.length <= k
 lq : r.wq.length <= k
def RW.p (r : RW) : Int := zv r.np r.wp
def RW.q (r : RW) : Int := zv r.nq r.wq
def RW.v (r : RW) : Rat := qv r.np r.wp r.nq r.wq
def pzW (x y : Int) : RW := ⟨decide (x < 0), wof x.natAbs, decide (y < 0), wof y.natAbs⟩
def qzW (q : Rat) : RW := pzW q.num q.den
theorem zu (x y : Int) : (pzW x y).p = x := bu x
theorem zt (x y : Int) : (pzW x y).q = y := bu y
theorem bA (q : Rat) : (qzW q).v = q := iB q
theorem zw {x y : Int} {k : Nat} (hx : zl x <= k) (hy : zl y <= k) : (pzW x y).OK k := ⟨ay _, ay _, hx, hy⟩
theorem bi {q : Rat} {k : Nat} (h : ql q <= k) : (qzW q).OK k := zw (cp h) (cr h)
theorem RW.OK.mono {r : RW} {k m : Nat} (h : r.OK k) (hk : Nat.ble k m = true) : r.OK m := ⟨h.op, h.oq, bc h.lp hk, bc h.lq hk⟩
theorem RW.OK.ql {r : RW} {k : Nat} (h : r.OK k) (hk : Nat.ble 1 k = true) : ql r.v <= k := ze h.op h.oq h.lp h.lq (Nat.le_of_ble_eq_true hk)

structure LK where
 f : Int
 t : Int
 x : Int
 y : Int
 w : Int
  deriving DecidableEq
def LK.dc (l : LK) : List DC := [lI l.f, lI l.t, lI l.x, lI l.y, lI l.w]
structure SP where
 x : RW
 y : RW
  deriving DecidableEq
def SP.dc (s : SP) : List DC := [.lit (.bool s.x.np), dW s.x.wp, .lit (.bool s.x.nq), dW s.x.wq, .lit (.bool s.y.np), dW s.y.wp, .lit (.bool s.y.nq), dW s.y.wq]
def SP.cs (s : SP) : List SC := [.d (.lit (.bool s.x.np)), .d (dW s.x.wp), .d (.lit (.bool s.x.nq)), .d (dW s.x.wq), .d (.lit (.bool s.y.np)), .d (dW s.y.wp), .d (.lit (.bool s.y.nq)), .d (dW s.y.wq)]
structure PT where
 x : Int
 y : Int
  deriving DecidableEq
def PT.dc (p : PT) : List DC := [lI p.x, lI p.y]
def dRs (l : List RW) : DC := .sl (l.map RW.dc)
def dLs (l : List LK) : DC := .sl (l.map LK.dc)
def dSs (l : List SP) : DC := .sl (l.map SP.dc)
def cM (l : List RW) : List DC := [dRs l]
def dMs (m : List (List RW)) : DC := .sl (m.map cM)
structure GR where
 nodes : List RW
 links : List LK
def GR.cs (g : GR) : List SC := [.d (dRs g.nodes), .d (dLs g.links)]

section
variable {T : Tab} {t e : TypeId} {ti ei : TI} {α : Type}
theorem x_m {k : IntKind} {n : Int} {i : Nat} {l : List α} (f : α -> List DC) (h1 : T t = some ti) (h2 : ti.und = .slice e) (h3 : T e = some ei) (hn : n = (i : Int)) (hi : i < l.length) (hl : (f l[i]).length = ei.size) :
  bg T t (V1 (.sl (l.map f))) (V1 (.lit (.int k n))) = .set (.pd (f l[i])) :=
 x_d h1 h2 h3 hn (by rw [List.getElem?_map, List.getElem?_eq_getElem hi]; rfl) hl
theorem bD {S : ck} {l : List α} (f : α -> List DC) (h1 : T t = some ti) (h2 : ti.und = .slice e) : bh T ⟨[], S, []⟩ (.builtin .len) [V1 (.sl (l.map f))] [t] = .set (dI l.length) :=
 jZ h1 h2 (by simp)
end
theorem rr {α : Type} {a b : List α} {i : Nat} (ha : i < a.length) (hb : i < b.length) (h : a.take i = b.take i) (he : a[i] = b[i]) : a.take (i + 1) = b.take (i + 1) := by
 rw [List.take_succ_eq_append_getElem ha, List.take_succ_eq_append_getElem hb, h, he]
theorem sN {α : Type} {a b : List α} (hl : a.length = b.length) (h : a.take a.length = b.take a.length) : a = b := by
 rwa [List.take_of_length_le (Nat.le_refl _), List.take_of_length_le (by omega)] at h
theorem xJ {α : Type} {a b : List α} {i : Nat} (ha : i < a.length) (hb : i < b.length) (he : a[i] ≠ b[i]) : a ≠ b := by
 intro h; subst h; exact he rfl
end Go.Proofs.YtceacleokgoooaaGreatDoor

/- Comparisons of the base package; sizes of numbers. No condition. -/
namespace Go.Proofs.YtceacleokgoooaaGreatDoor
attribute [local irreducible] aF

theorem AS (na nb : Bool) (wa wb : List Nat) (la : wa.length <= 9223372036854775806) : Con Tryz.prog 51 [AG (IC na wa), AG (IC nb wb)] { v := dB (decide (na = nb /\ wa = wb)) } := by
 refine Z3 Tryz.func51 ?_
 intro w0 X
 rw [aq _ _ [(0, AG (IC na wa)), (1, AG (IC nb wb))] rfl rfl];refine gQ fun _ O=>?_;refine aG rfl rfl rfl rfl rfl rfl ?_;refine aG rfl rfl rfl rfl rfl rfl ?_;refine Z8 ?_;refine eQ O ?_;clear O;refine ag ?_;refine bd (α := Bool) (fun c => mk 38 [(2, .ptr 2 0), (3, .ptr 3 0), (19, dB c)] [(2, some (.box (IC na wa))), (3, some (.box (IC nb wb)))] []) (fun c => (c = true -> ¬ (na = nb /\ wa = wb)) /\ (c = false -> na = nb /\ wa.length = wb.length)) ?_ ?_
 ·refine gR fun _ O=>?_;refine Z5 ?_;refine Z7 ?_;refine Z5 ?_;refine Z7 ?_;refine Z6 ?_;refine Z9 ?_;refine ep (fun h => ?_) (fun h => ?_)
  ·have h : na ≠ nb := by simpa using h
   refine aA rfl ?_;refine aA rfl ?_;refine aA rfl ?_;refine aA rfl ?_;refine aA rfl ?_;refine aA rfl ?_;refine aA rfl ?_;refine Z4 ?_;refine eQ O ?_;clear O;exact ⟨true, ⟨fun _ h' => h h'.1, fun h => (by cases h)⟩, Wk.mk' ⟨rfl, rfl, rfl, trivial⟩ ⟨rfl, rfl, trivial⟩⟩
  ·have h : na = nb := by simpa using h
   refine Z5 ?_;refine Z7 ?_;refine az rfl (aZ rfl rfl rfl) rfl ?_;refine Z5 ?_;refine Z7 ?_;refine az rfl (aZ rfl rfl rfl) rfl ?_;refine Z6 ?_;refine Z4 ?_;refine eQ O ?_;clear O;refine ⟨_, ⟨fun h' h2 => ?_, fun h' => ⟨h, ?_⟩⟩, Wk.mk' ⟨rfl, rfl, rfl, trivial⟩ ⟨rfl, rfl, trivial⟩⟩
   ·rw [h2.2] at h'; simp at h'
   ·simp at h'; omega
 rintro c ⟨k1, k2⟩
 refine ap rfl (fun hc => ?_) (fun hc => ?_)
 ·refine gQ fun _ O=>?_;refine Z8 ?_;refine eQ O ?_;clear O;exact ah (bz (h3 := by rw [decide_eq_false (k1 hc)]; rfl))
 obtain ⟨hn, hl⟩ := k2 hc
 refine ak ?_;show AWP _ _ _ _ _ _;refine ag ?_;refine gQ fun _ O=>?_;refine Z8 ?_;refine eQ O ?_;clear O;refine al (aS (α := Nat) (fun i => mk 38 [(2, .ptr 2 0), (3, .ptr 3 0), (5, dI i)] [(2, some (.box (IC na wa))), (3, some (.box (IC nb wb)))] []) (fun i => i <= wa.length /\ wa.take i = wb.take i) (fun i => wa.length - i) 0 ?_ ⟨Nat.zero_le _, rfl⟩ ?_)
 ·exact Wk.mk' ⟨rfl, rfl, rfl, trivial⟩ ⟨rfl, rfl, trivial⟩
 rintro i ⟨hi, ht⟩
 refine ag ?_;refine gQ fun _ O=>?_;refine Z9 ?_;refine Z5 ?_;refine Z7 ?_;refine az rfl (aZ rfl rfl rfl) rfl ?_;refine Z6 ?_;refine eQ O ?_;clear O;refine ap rfl (fun hg => ?_) (fun hg => ?_)
 ·have hg : i < wa.length := by simp at hg; omega
  have hg' : i < wb.length := by omega
  refine ak ?_;show AWP _ _ _ _ _ _;refine ag ?_;refine al ?_;refine aL tok mixed (A := [[], [], [], [0], [0, 1, 2], [], [], [], [5], [5, 6, 7], [0, 1, 2, 3, 5, 6, 7, 8]]) (an := [{}, {}, {}, {}, {}, {}, {}, {}, {}, {}, {}]) rfl (by kernel_rfl) rfl fun _ O=>?_;refine Z5 ?_;refine Z7 ?_;refine Z9 ?_;refine ae rfl (x_w (i := i) rfl rfl rfl rfl rfl hg) rfl ?_;refine Z7 ?_;refine Z5 ?_;refine Z7 ?_;refine Z9 ?_;refine ae rfl (x_w (i := i) rfl rfl rfl rfl rfl hg') rfl ?_;refine Z7 ?_;refine Z6 ?_;refine eQ O ?_;clear O;refine ap rfl (fun hd => ?_) (fun hd => ?_)
  ·have hd : wa[i] ≠ wb[i] := by simp at hd; omega
   refine gQ fun _ O=>?_;refine Z8 ?_;refine eQ O ?_;clear O;exact ah (bz (h3 := by rw [decide_eq_false (fun h' => xJ hg hg' hd h'.2)]; rfl))
  ·have hd : wa[i] = wb[i] := by simp at hd; omega
   refine ak ?_;show AWP _ _ _ _ _ _;refine gR fun _ O=>?_;refine Z9 ?_;refine av rfl (aP (c := ((i + 1 : Nat) : Int)) (by omega) (by omega)) rfl ?_;refine Z8 ?_;refine eQ O ?_;clear O;exact ⟨i + 1, by omega, ⟨hg, rr hg hg' ht hd⟩, Wk.mk' ⟨rfl, rfl, rfl, trivial⟩ ⟨rfl, rfl, trivial⟩⟩
 ·have hg : i = wa.length := by simp at hg; omega
  subst hg
  refine aD ?_;show AWP _ _ _ _ _ _;refine gQ fun _ O=>?_;refine Z8 ?_;refine eQ O ?_;clear O;exact ah (bz (h3 := by rw [decide_eq_true ⟨hn, sN hl ht⟩]; rfl))

theorem RW.eq_iff (a b : RW) : decide (a = b) = (decide (a.np = b.np /\ a.wp = b.wp) && decide (a.nq = b.nq /\ a.wq = b.wq)) := by
 obtain ⟨a1, a2, a3, a4⟩ := a
 obtain ⟨b1, b2, b3, b4⟩ := b
 rw [Bool.eq_iff_iff]
 simp [RW.mk.injEq, and_assoc]
theorem D9 (a b : RW) (la : a.wp.length <= 9223372036854775806) (lb : a.wq.length <= 9223372036854775806) : Con Tryz.prog 17 [AG a.cs, AG b.cs] { v := dB (decide (a = b)) } := by
 rw [RW.eq_iff];refine Z3 Tryz.func17 ?_
 intro w0 X
 rw [aq _ _ [(0, AG a.cs), (1, AG b.cs)] rfl rfl];refine gQ fun _ O=>?_;refine aG rfl rfl rfl rfl rfl rfl ?_;refine aG rfl rfl rfl rfl rfl rfl ?_;refine Z8 ?_;refine eQ O ?_;clear O;refine gQ fun _ O=>?_;refine Z5 ?_;refine Z7 ?_;refine Z5 ?_;refine Z7 ?_;refine ac rfl rfl (AS a.np b.np a.wp b.wp la) rfl rfl rfl rfl ?_;refine Z9 ?_;refine ep (fun h => ?_) (fun h => ?_)
 ·refine Z5 ?_;refine Z7 ?_;refine Z5 ?_;refine Z7 ?_;refine ac rfl rfl (AS a.nq b.nq a.wq b.wq lb) rfl rfl rfl rfl ?_;refine Z4 ?_;refine Z8 ?_;refine eQ O ?_;clear O;exact ah (bz (h3 := by rw [h, Bool.true_and]; rfl))
 ·refine aA rfl ?_;refine aA rfl ?_;refine aA rfl ?_;refine aA rfl ?_;refine aA rfl ?_;refine Z4 ?_;refine Z8 ?_;refine eQ O ?_;clear O;exact ah (bz (h3 := by rw [h, Bool.false_and]; rfl))

def SP.small (s : SP) : Prop := (s.x.wp.length <= 9223372036854775806 /\ s.x.wq.length <= 9223372036854775806) /\ (s.y.wp.length <= 9223372036854775806 /\ s.y.wq.length <= 9223372036854775806)
theorem SP.eq_iff (a b : SP) : a = b ↔ a.x = b.x /\ a.y = b.y := by
 obtain ⟨a1, a2⟩ := a
 obtain ⟨b1, b2⟩ := b
 simp [SP.mk.injEq]

theorem w4 (n m : Int) (hm : -9223372036854775808 < m /\ m <= 9223372036854775807) : Con Tryz.prog 157 [dI n, dI m] { v := dB (decide (-m <= n /\ n <= m)) } := by
 have hw : IntKind.i64.wrap (0 - m) = -m := by rw [IntWalk.i64_in _ (by omega)]; omega
 refine Z3 Tryz.func157 ?_
 intro w0 X
 rw [aq _ _ [(0, dI n), (1, dI m)] rfl rfl];refine gQ fun _ O=>?_;refine Z8 ?_;refine eQ O ?_;clear O;refine gQ fun _ O=>?_;refine Z9 ?_;refine Z9 ?_;refine dr rfl rfl rfl ?_;refine Z6 ?_;refine Z9 ?_;refine ep (fun h => ?_) (fun h => ?_)
 ·have h : -m <= n := by have := of_decide_eq_true h; rw [hw] at this; exact this
  refine Z9 ?_;refine Z9 ?_;refine Z6 ?_;refine Z4 ?_;refine Z8 ?_;refine eQ O ?_;clear O;exact ah (bz (h3 := by rw [show decide (-m <= n /\ n <= m) = decide (n <= m) from decide_eq_decide.2 ⟨fun k => k.2, fun k => ⟨h, k⟩⟩]; rfl))
 ·have h : ¬ -m <= n := by have := of_decide_eq_false h; rw [hw] at this; exact this
  refine aA rfl ?_;refine aA rfl ?_;refine aA rfl ?_;refine Z4 ?_;refine Z8 ?_;refine eQ O ?_;clear O;exact ah (bz (h3 := by rw [decide_eq_false (fun k => h k.1)]; rfl))
end Go.Proofs.YtceacleokgoooaaGreatDoor

/- Validity and sizes of graphs; comparisons of the reference. No condition. -/
namespace Go.Proofs.YtceacleokgoooaaGreatDoor
attribute [local irreducible] aF

def inR (n lo hi : Int) : Bool := decide (lo <= n /\ n <= hi)
def oH (x y w : Int) : Bool := inR x (-1048576) 1048576 && inR y (-1048576) 1048576 && inR w 1 1048576
def iE (n : Nat) (l : LK) : Bool := inR l.f 0 ((n : Int) - 1) && inR l.t 0 ((n : Int) - 1) && !(l.f == l.t) && oH l.x l.y l.w
def bG (g : GR) : Bool := decide (1 <= g.nodes.length /\ g.nodes.length <= 16 /\ g.links.length <= 48) && g.links.all (iE g.nodes.length)
def LK.cs (l : LK) : List SC := [.d (lI l.f), .d (lI l.t), .d (lI l.x), .d (lI l.y), .d (lI l.w)]
structure GV (g : GR) : Prop where
 n1 : 1 <= g.nodes.length
 n2 : g.nodes.length <= 16
 l : g.links.length <= 48
 lk : ∀ l ∈ g.links, iE g.nodes.length l = true
theorem g6 {g : GR} : bG g = true ↔ GV g := by
 constructor
 ·intro h
  rw [bG, Bool.and_eq_true, decide_eq_true_eq, List.all_eq_true] at h;exact ⟨h.1.1, h.1.2.1, h.1.2.2, h.2⟩
 ·intro h
  rw [bG, Bool.and_eq_true, decide_eq_true_eq, List.all_eq_true];exact ⟨⟨h.n1, h.n2, h.l⟩, h.lk⟩
structure LV (n : Nat) (l : LK) : Prop where
 f : 0 <= l.f /\ l.f < n
 t : 0 <= l.t /\ l.t < n
 ne : l.f ≠ l.t
 x : -1048576 <= l.x /\ l.x <= 1048576
 y : -1048576 <= l.y /\ l.y <= 1048576
 w : 1 <= l.w /\ l.w <= 1048576
theorem df {n : Nat} {l : LK} : iE n l = true ↔ LV n l := by
 constructor
 ·intro h
  simp only [iE, oH, inR, Bool.and_eq_true, decide_eq_true_eq, Bool.not_eq_true', beq_eq_false_iff_ne] at h
  obtain ⟨⟨⟨h1, h2⟩, h3⟩, h4, h5⟩ := h
  exact ⟨⟨by omega, by omega⟩, ⟨by omega, by omega⟩, h3, h4.1, h4.2, h5⟩
 ·rintro ⟨h1, h2, h3, h4, h5, h6⟩
  simp only [iE, oH, inR, Bool.and_eq_true, decide_eq_true_eq, Bool.not_eq_true', beq_eq_false_iff_ne];exact ⟨⟨⟨by omega, by omega⟩, h3⟩, ⟨h4, h5⟩, h6⟩

theorem iU (n lo hi : Int) : Con Tryz.prog 45 [dI n, dI lo, dI hi] { v := dB (inR n lo hi) } := by
 refine Z3 Tryz.func45 ?_
 intro w0 X
 rw [aq _ _ [(0, dI n), (1, dI lo), (2, dI hi)] rfl rfl];refine gQ fun _ O=>?_;refine Z8 ?_;refine eQ O ?_;clear O;refine gQ fun _ O=>?_;refine Z9 ?_;refine Z9 ?_;refine Z6 ?_;refine Z9 ?_;refine ep (fun h0 => ?_) (fun h0 => ?_)
 ·refine Z9 ?_;refine Z9 ?_;refine Z6 ?_;refine Z4 ?_;refine Z8 ?_;refine eQ O ?_;clear O;exact ah (bz (h3 := by exact d7 (by simp at h0; simp only [inR]; simp [h0] <;> omega)))
 ·refine aA rfl ?_;refine aA rfl ?_;refine aA rfl ?_;refine Z4 ?_;refine Z8 ?_;refine eQ O ?_;clear O;exact ah (bz (h3 := by exact d7 (by simp at h0; simp only [inR]; simp [h0] <;> omega)))

theorem Dg (x y w : Int) : Con Tryz.prog 46 [dI x, dI y, dI w] { v := dB (oH x y w) } := by
 refine Z3 Tryz.func46 ?_
 intro w0 X
 rw [aq _ _ [(0, dI x), (1, dI y), (2, dI w)] rfl rfl];refine gQ fun _ O=>?_;refine Z8 ?_;refine eQ O ?_;clear O;refine aU fun _ O=>?_;refine aa tok rfl ?_;refine Z9 ?_;refine ab ?_;refine aa tok rfl ?_;refine ac rfl rfl (iU _ _ _) rfl rfl rfl rfl ?_;refine ab ?_;refine aa tok rfl ?_;refine Z9 ?_;refine ab ?_;refine bF (fun h0 => ?_) (fun h0 => ?_)
 ·refine aa tok rfl ?_;refine Z9 ?_;refine ab ?_;refine aa tok rfl ?_;refine ac rfl rfl (iU _ _ _) rfl rfl rfl rfl ?_;refine ab ?_;refine aa tok rfl ?_;refine Z4 ?_;refine ab ?_;refine aa tok rfl ?_;refine Z9 ?_;refine ab ?_;refine bF (fun h1 => ?_) (fun h1 => ?_)
  ·refine aa tok rfl ?_;refine Z9 ?_;refine ab ?_;refine aa tok rfl ?_;refine ac rfl rfl (iU _ _ _) rfl rfl rfl rfl ?_;refine ab ?_;refine aa tok rfl ?_;refine Z4 ?_;refine ab ?_;refine aa tok rfl ?_;refine Z8 ?_;refine ab ?_;refine aM rfl (O _ ?_); clear O;exact ah (bz (h3 := by exact d7 (by simp only [oH, h0, h1, Bool.true_and, Bool.false_and])))
  ·refine ar rfl rfl ?_;refine ar rfl rfl ?_;refine aa tok rfl ?_;refine Z4 ?_;refine ab ?_;refine aa tok rfl ?_;refine Z8 ?_;refine ab ?_;refine aM rfl (O _ ?_); clear O;exact ah (bz (h3 := by exact d7 (by simp only [oH, h0, h1, Bool.true_and, Bool.false_and])))
 ·refine ar rfl rfl ?_;refine ar rfl rfl ?_;refine aa tok rfl ?_;refine Z4 ?_;refine ab ?_;refine aa tok rfl ?_;refine Z9 ?_;refine ab ?_;refine ar rfl rfl ?_;refine ar rfl rfl ?_;refine aa tok rfl ?_;refine Z4 ?_;refine ab ?_;refine aa tok rfl ?_;refine Z8 ?_;refine ab ?_;refine aM rfl (O _ ?_); clear O;exact ah (bz (h3 := by exact d7 (by simp only [oH, h0, Bool.true_and, Bool.false_and])))

theorem ii (g : GR) : Con Tryz.prog 8 [AG g.cs] { v := dB (bG g) } := by
 refine Z3 Tryz.func8 ?_
 intro w0 X
 rw [aq _ _ [(0, AG g.cs)] rfl rfl];refine gQ fun _ O=>?_;refine aG rfl rfl rfl rfl rfl rfl ?_;refine Z8 ?_;refine eQ O ?_;clear O;refine gQ fun _ O=>?_;refine Z5 ?_;refine Z7 ?_;refine az rfl (bD RW.dc rfl rfl) rfl ?_;refine Z8 ?_;refine eQ O ?_;clear O;refine ag ?_;refine bd (α := Bool) (fun c => mk 60 [(1, .ptr 1 0), (3, dI g.nodes.length), (20, dB c)] [(1, some (.box g.cs))] []) (fun c => c = !decide (1 <= g.nodes.length /\ g.nodes.length <= 16 /\ g.links.length <= 48)) ?_ ?_
 ·refine dx fun _ O=>?_;refine aa tok rfl ?_;refine Z9 ?_;refine ab ?_;refine aa tok rfl ?_;refine Z6 ?_;refine ab ?_;refine aa tok rfl ?_;refine Z9 ?_;refine ab ?_;refine bF (fun h0 => ?_) (fun h0 => ?_)
  ·refine ar rfl rfl ?_;refine ar rfl rfl ?_;refine aa tok rfl ?_;refine Z4 ?_;refine ab ?_;refine aa tok rfl ?_;refine Z9 ?_;refine ab ?_;refine ar rfl rfl ?_;refine ar rfl rfl ?_;refine ar rfl rfl ?_;refine ar rfl rfl ?_;refine aa tok rfl ?_;refine Z4 ?_;refine ab ?_;refine aM rfl (O _ ?_); clear O;exact ⟨_, (by simp only [decide_eq_true_eq, decide_eq_false_iff_not] at h0; rw [Bool.eq_iff_iff]; simp only [Bool.not_eq_true', decide_eq_false_iff_not, decide_eq_true_eq, true_iff, iff_true]; omega), Wk.mk' ⟨rfl, rfl, rfl, trivial⟩ ⟨rfl, trivial⟩⟩
  ·refine aa tok rfl ?_;refine Z9 ?_;refine ab ?_;refine aa tok rfl ?_;refine Z6 ?_;refine ab ?_;refine aa tok rfl ?_;refine Z4 ?_;refine ab ?_;refine aa tok rfl ?_;refine Z9 ?_;refine ab ?_;refine bF (fun h1 => ?_) (fun h1 => ?_)
   ·refine ar rfl rfl ?_;refine ar rfl rfl ?_;refine ar rfl rfl ?_;refine ar rfl rfl ?_;refine aa tok rfl ?_;refine Z4 ?_;refine ab ?_;refine aM rfl (O _ ?_); clear O;exact ⟨_, (by simp only [decide_eq_true_eq, decide_eq_false_iff_not] at h0 h1; rw [Bool.eq_iff_iff]; simp only [Bool.not_eq_true', decide_eq_false_iff_not, decide_eq_true_eq, true_iff, iff_true]; omega), Wk.mk' ⟨rfl, rfl, rfl, trivial⟩ ⟨rfl, trivial⟩⟩
   ·refine aa tok rfl ?_;refine Z5 ?_;refine ab ?_;refine aa tok rfl ?_;refine Z7 ?_;refine ab ?_;refine aa tok rfl ?_;refine az rfl (bD LK.dc rfl rfl) rfl ?_;refine ab ?_;refine aa tok rfl ?_;refine Z6 ?_;refine ab ?_;refine aa tok rfl ?_;refine Z4 ?_;refine ab ?_;refine aM rfl (O _ ?_); clear O;exact ⟨_, (by simp only [decide_eq_true_eq, decide_eq_false_iff_not] at h0 h1; rw [Bool.eq_iff_iff]; simp only [Bool.not_eq_true', decide_eq_false_iff_not, decide_eq_true_eq, true_iff, iff_true]; omega), Wk.mk' ⟨rfl, rfl, rfl, trivial⟩ ⟨rfl, trivial⟩⟩
 rintro c rfl
 refine ap rfl (fun hc => ?_) (fun hc => ?_)
 ·refine gQ fun _ O=>?_;refine Z8 ?_;refine eQ O ?_;clear O;exact ah (bz (h3 := by exact d7 (by rw [Bool.not_eq_true'] at hc; simp only [bG, hc, Bool.false_and])))
 have hc : 1 <= g.nodes.length /\ g.nodes.length <= 16 /\ g.links.length <= 48 := by simpa using hc
 refine ak ?_;show AWP _ _ _ _ _ _;refine ag ?_;refine gQ fun _ O=>?_;refine Z5 ?_;refine Z7 ?_;refine az rfl (bD LK.dc rfl rfl) rfl ?_;refine Z9 ?_;refine eQ O ?_;clear O;refine al (aS (α := Nat) (fun i => mk 60 [(3, dI g.nodes.length), (22, V1 (dLs g.links)), (23, dI g.links.length), (24, dI i)] [] []) (fun i => i <= g.links.length /\ (g.links.take i).all (iE g.nodes.length) = true) (fun i => g.links.length - i) 0 ?_ ⟨Nat.zero_le _, rfl⟩ ?_)
 ·exact Wk.mk' ⟨rfl, rfl, rfl, rfl, trivial⟩ trivial
 rintro i ⟨hi, ht⟩
 refine gQ fun _ O=>?_;refine Z6 ?_;refine eQ O ?_;clear O;refine ag ?_;refine ap rfl (fun hg => ?_) (fun hg => ?_)
 ·have hg : i < g.links.length := by simp at hg; omega
  obtain ⟨l, hl⟩ : ∃ l, l = g.links[i] := ⟨_, rfl⟩
  refine ak ?_;show AWP _ _ _ _ _ _;refine ag ?_;refine al ?_;refine gQ fun _ O=>?_;refine ae rfl (x_m LK.dc rfl rfl rfl rfl hg rfl) rfl ?_;refine Z7 ?_;refine aw rfl rfl rfl rfl rfl rfl ?_;refine aj rfl rfl rfl rfl rfl ?_;refine eQ O ?_;clear O;rw [<- hl];refine bd (α := Bool) (fun c => mk 60 [(3, dI g.nodes.length), (22, V1 (dLs g.links)), (23, dI g.links.length), (24, dI i), (58, dB c)] [] []) (fun c => c = !(iE g.nodes.length l)) ?_ ?_
  ·refine dx fun _ O=>?_;refine aa tok rfl ?_;refine Z5 ?_;refine ab ?_;refine aa tok rfl ?_;refine Z7 ?_;refine ab ?_;refine aa tok rfl ?_;refine Z9 ?_;refine ab ?_;refine aa tok rfl ?_;refine av rfl (bZ rfl (by omega)) rfl ?_;refine ab ?_;refine aa tok rfl ?_;refine ac rfl rfl (iU _ _ _) rfl rfl rfl rfl ?_;refine ab ?_;refine aa tok rfl ?_;refine dr rfl rfl rfl ?_;refine ab ?_;refine aa tok rfl ?_;refine Z9 ?_;refine ab ?_;refine bF (fun h0 => ?_) (fun h0 => ?_)
   ·refine ar rfl rfl ?_;refine ar rfl rfl ?_;refine ar rfl rfl ?_;refine ar rfl rfl ?_;refine ar rfl rfl ?_;refine ar rfl rfl ?_;refine aa tok rfl ?_;refine Z4 ?_;refine ab ?_;refine aa tok rfl ?_;refine Z9 ?_;refine ab ?_;refine ar rfl rfl ?_;refine ar rfl rfl ?_;refine ar rfl rfl ?_;refine ar rfl rfl ?_;refine ar rfl rfl ?_;refine aa tok rfl ?_;refine Z4 ?_;refine ab ?_;refine aa tok rfl ?_;refine Z9 ?_;refine ab ?_;refine ar rfl rfl ?_;refine ar rfl rfl ?_;refine ar rfl rfl ?_;refine ar rfl rfl ?_;refine ar rfl rfl ?_;refine ar rfl rfl ?_;refine ar rfl rfl ?_;refine ar rfl rfl ?_;refine aa tok rfl ?_;refine Z4 ?_;refine ab ?_;refine aM rfl (O _ ?_); clear O;exact ⟨_, (by simp only [Bool.not_eq_true', Bool.not_eq_false', Bool.not_eq_eq_eq_not, Bool.not_true, Bool.not_false] at h0; simp only [iE, h0, Bool.true_and, Bool.false_and, Bool.not_true, Bool.not_false]), Wk.mk' ⟨rfl, rfl, rfl, rfl, rfl, trivial⟩ trivial⟩
   ·refine aa tok rfl ?_;refine Z5 ?_;refine ab ?_;refine aa tok rfl ?_;refine Z7 ?_;refine ab ?_;refine aa tok rfl ?_;refine Z9 ?_;refine ab ?_;refine aa tok rfl ?_;refine av rfl (bZ rfl (by omega)) rfl ?_;refine ab ?_;refine aa tok rfl ?_;refine ac rfl rfl (iU _ _ _) rfl rfl rfl rfl ?_;refine ab ?_;refine aa tok rfl ?_;refine dr rfl rfl rfl ?_;refine ab ?_;refine aa tok rfl ?_;refine Z4 ?_;refine ab ?_;refine aa tok rfl ?_;refine Z9 ?_;refine ab ?_;refine bF (fun h1 => ?_) (fun h1 => ?_)
    ·refine ar rfl rfl ?_;refine ar rfl rfl ?_;refine ar rfl rfl ?_;refine ar rfl rfl ?_;refine ar rfl rfl ?_;refine aa tok rfl ?_;refine Z4 ?_;refine ab ?_;refine aa tok rfl ?_;refine Z9 ?_;refine ab ?_;refine ar rfl rfl ?_;refine ar rfl rfl ?_;refine ar rfl rfl ?_;refine ar rfl rfl ?_;refine ar rfl rfl ?_;refine ar rfl rfl ?_;refine ar rfl rfl ?_;refine ar rfl rfl ?_;refine aa tok rfl ?_;refine Z4 ?_;refine ab ?_;refine aM rfl (O _ ?_); clear O;exact ⟨_, (by simp only [Bool.not_eq_true', Bool.not_eq_false', Bool.not_eq_eq_eq_not, Bool.not_true, Bool.not_false] at h0 h1; simp only [iE, h0, h1, Bool.true_and, Bool.false_and, Bool.not_true, Bool.not_false]), Wk.mk' ⟨rfl, rfl, rfl, rfl, rfl, trivial⟩ trivial⟩
    ·refine aa tok rfl ?_;refine Z5 ?_;refine ab ?_;refine aa tok rfl ?_;refine Z7 ?_;refine ab ?_;refine aa tok rfl ?_;refine Z5 ?_;refine ab ?_;refine aa tok rfl ?_;refine Z7 ?_;refine ab ?_;refine aa tok rfl ?_;refine Z6 ?_;refine ab ?_;refine aa tok rfl ?_;refine Z4 ?_;refine ab ?_;refine aa tok rfl ?_;refine Z9 ?_;refine ab ?_;refine bF (fun h2 => ?_) (fun h2 => ?_)
     ·refine ar rfl rfl ?_;refine ar rfl rfl ?_;refine ar rfl rfl ?_;refine ar rfl rfl ?_;refine ar rfl rfl ?_;refine ar rfl rfl ?_;refine ar rfl rfl ?_;refine ar rfl rfl ?_;refine aa tok rfl ?_;refine Z4 ?_;refine ab ?_;refine aM rfl (O _ ?_); clear O;exact ⟨_, (by simp only [Bool.not_eq_true', Bool.not_eq_false', Bool.not_eq_eq_eq_not, Bool.not_true, Bool.not_false] at h0 h1 h2; simp only [iE, h0, h1, h2, Bool.true_and, Bool.false_and, Bool.not_true, Bool.not_false]), Wk.mk' ⟨rfl, rfl, rfl, rfl, rfl, trivial⟩ trivial⟩
     ·refine aa tok rfl ?_;refine Z5 ?_;refine ab ?_;refine aa tok rfl ?_;refine Z7 ?_;refine ab ?_;refine aa tok rfl ?_;refine Z5 ?_;refine ab ?_;refine aa tok rfl ?_;refine Z7 ?_;refine ab ?_;refine aa tok rfl ?_;refine Z5 ?_;refine ab ?_;refine aa tok rfl ?_;refine Z7 ?_;refine ab ?_;refine aa tok rfl ?_;refine ac rfl rfl (Dg _ _ _) rfl rfl rfl rfl ?_;refine ab ?_;refine aa tok rfl ?_;refine dr rfl rfl rfl ?_;refine ab ?_;refine aa tok rfl ?_;refine Z4 ?_;refine ab ?_;refine aM rfl (O _ ?_); clear O;exact ⟨_, (by simp only [Bool.not_eq_true', Bool.not_eq_false', Bool.not_eq_eq_eq_not, Bool.not_true, Bool.not_false] at h0 h1 h2; simp only [iE, h0, h1, h2, Bool.true_and, Bool.false_and, Bool.not_true, Bool.not_false]), Wk.mk' ⟨rfl, rfl, rfl, rfl, rfl, trivial⟩ trivial⟩
  rintro c rfl
  refine ap rfl (fun hd => ?_) (fun hd => ?_)
  ·refine gQ fun _ O=>?_;refine Z8 ?_;refine eQ O ?_;clear O;exact ah (bz (h3 := by exact d7 (by rw [Bool.not_eq_true'] at hd; simp only [bG]; rw [Bool.and_eq_false_iff]; right; rw [List.all_eq_false]; exact ⟨l, hl ▸ List.getElem_mem hg, by rw [hd]; simp⟩)))
  ·refine ak ?_;show AWP _ _ _ _ _ _;refine gR fun _ O=>?_;refine av rfl (aP rfl (by omega)) rfl ?_;refine Z9 ?_;refine eQ O ?_;clear O;refine ⟨i + 1, by omega, ⟨hg, ?_⟩, Wk.mk' ⟨rfl, rfl, rfl, rfl, trivial⟩ trivial⟩;rw [List.take_succ_eq_append_getElem hg, List.all_append, ht, <- hl]
   simpa using hd
 ·have hg : i = g.links.length := by simp at hg; omega
  subst hg
  refine aD ?_;show AWP _ _ _ _ _ _;refine gQ fun _ O=>?_;refine Z8 ?_;refine eQ O ?_;clear O;exact ah (bz (h3 := by exact d7 (by rw [List.take_length] at ht; simp only [bG, ht, decide_eq_true hc, Bool.true_and])))
end Go.Proofs.YtceacleokgoooaaGreatDoor

/- slices.Delete of one link: what it does to the row. No condition. -/
namespace Go.Proofs.YtceacleokgoooaaGreatDoor
open Go.Shelf Go.RowKit Go.Lib Go.Sort

theorem lE : ∀ (vs : List Value) {w : World} {b : Nat} {cs : Array Value} {E : TypeId} {fr : Nat × Nat} (_ : w.heap[b]? = some (.cells cs E fr)) (o : Nat), w.setCells b o vs = setRow w b (spl cs o vs)
 | [], w, b, cs, E, fr, h, o => (mZ h).symm
 | v :: vs, w, b, cs, E, fr, h, o => by
  rw [World.setCells, ir h, lE vs (co h _), gh h]
  rfl
def z5 : List Value := [.int .i64 0, .int .i64 0, .int .i64 0, .int .i64 0, .int .i64 0]

set_option maxRecDepth 1000000 in
set_option maxHeartbeats 4000000 in
theorem Cp (b cap n k j : Nat) (cs : Array Value) (E : TypeId) (w : World) (hh : w.heap[b]? = some (.cells cs E (0, 0))) (hk : k < n) (hj : j = k + 1) (hcap : n <= cap) (hm : n <= 9223372036854775807) (hsz : cap * 5 <= cs.size)
  (h1c : ∀ (j : Nat) (u : Value), j < n * 5 -> cs[j]? = some u -> u.oneCell' = true) :
  Calls Tryz.prog 48 #[.slice (some ⟨b, 0, none⟩) n cap, .int .i64 k, .int .i64 j] w fun e w' => e = .returned (.slice (some ⟨b, 0, none⟩) (n - 1) cap) /\
   w' = setRow w.drew b (spl (spl cs (k * 5) ((cs.toList.drop (j * 5)).take ((n - j) * 5))) ((n - 1) * 5) z5) := by
 obtain ⟨news, hnews⟩ : ∃ news, news = (cs.toList.drop (j * 5)).take ((n - j) * 5) := ⟨_, rfl⟩
 rw [<- hnews]
 have hlen : news.length = (n - j) * 5 := by rw [hnews]; simp; omega
 have hget : ∀ t u, news[t]? = some u -> cs[j * 5 + t]? = some u := by
  intro t u h
  rw [hnews, List.getElem?_take] at h
  split at h
  ·rw [List.getElem?_drop, Array.getElem?_toList] at h; exact h
  ·cases h
 have hlt : ∀ t u, news[t]? = some u -> t < (n - j) * 5 := by
  intro t u h
  have := (List.getElem?_eq_some_iff.1 h).1
  omega
 have hhd : w.drew.heap[b]? = some (.cells cs E (0, 0)) := hh
 obtain ⟨A, hA, hsrc⟩ : ∃ A : Addr, (if cap = j then some (⟨b, 0, none⟩ : Addr) else some ⟨b, j * 5, none⟩) = some A /\ Hid (∀ t u, news[t]? = some u -> w.drew.cell? (A.add t) = some u) := by
  by_cases h : cap = j
  ·refine ⟨⟨b, 0, none⟩, by simp [h], fun t u hu => ?_⟩
   have := hlt t u hu; omega
  ·refine ⟨⟨b, j * 5, none⟩, by simp [h], fun t u hu => ?_⟩;rw [Addr.add_lit, eU hhd];exact hget t u hu
 have s2 : Hid (∀ u ∈ news, u.oneCell' = true) := by
  intro u hu
  obtain ⟨t, ht⟩ := List.getElem?_of_mem hu
  have := hlt t u ht
  exact h1c _ u (by omega) (hget t u ht)
 have s3 : Hid (∀ t, t < news.length -> (w.drew.cell? ⟨b, 0 + k * 5 + t, none⟩).isSome = true /\ w.drew.frozen? ⟨b, 0 + k * 5 + t, none⟩ = false) := by
  intro t ht
  rw [hlen] at ht;refine ⟨?_, ij hhd _⟩;rw [eU hhd, Array.getElem?_eq_getElem (by omega)]; rfl
 obtain ⟨W1, hW1⟩ : ∃ W1, W1 = w.drew.setCells b (0 + k * 5) news := ⟨_, rfl⟩
 have hW1' : W1 = setRow w.drew b (spl cs (k * 5) news) := by rw [hW1, lE news hhd, Nat.zero_add]
 have hH1 : W1.heap[b]? = some (.cells (spl cs (k * 5) news) E (0, 0)) := by rw [hW1', co hhd]
 have hT : Tryz.prog.underlying 23 = some (.slice 43) := by kernel_rfl
 have hcl : ∀ (ty : TypeId) (c : Nat), (Builtin.clear_ #[23] ty #[.slice (some ⟨b, (k + (n - j)) * 5, none⟩) (n - (k + (n - j))) c]).run Tryz.prog W1 = .ok (.tuple #[]) (setRow W1 b (spl (spl cs (k * 5) news) ((n - 1) * 5) z5)) := fun ty c => by
  rw [show k + (n - j) = n - 1 by omega, show n - (n - 1) = 1 by omega]
  have hz : ∀ w, (zeroValue 43).run Tryz.prog w = .ok (.agg z5.toArray) w := fun w => by kernel_rfl
  have hst := eG (P := Tryz.prog) z5 hH1 ((n - 1) * 5) 0 (by rw [bW]; simp [z5]; omega) (by decide)
  have e5 : (Builtin.zeroCells (Value.agg z5.toArray).cells 1).toList = z5 := by kernel_rfl
  simp only [Nat.add_zero] at hst
  simp [Builtin.clear_, run_underlying hT, hz, e5, hst]
 have Y : Aside (W1 = setRow w.drew b (spl cs (k * 5) news)) := hW1'
 have hW : Hid (W1 = w.drew.setCells b (0 + k * 5) news) := hW1
 have Z : Hid (setRow W1 b (spl (spl cs (k * 5) news) ((n - 1) * 5) z5) = setRow w.drew b (spl (spl cs (k * 5) news) ((n - 1) * 5) z5)) := by
  show _ = _
  rw [hW1', gh hhd]
 obtain ⟨i0, hi0, hz1⟩ : ∃ i0, Tryz.prog.info? 43 = some i0 /\ i0.size = 5 := by
  have h0 : (Tryz.prog.info? 43).map (·.size) = some 5 := by kernel_rfl
  cases h : Tryz.prog.info? 43 with
  | none => rw [h] at h0; cases h0
  | some i0 => rw [h] at h0; exact ⟨i0, rfl, by simpa using h0⟩
 have hJ : Hid (j = k + 1) := hj
 have mx := mixed
 have hic : k <= cap := by omega
 have hjn : j <= n := by omega
 have hkj : k <= j := by omega
 have hne : ¬ k = j := by omega
 have hjc : j <= cap := by omega
 clear hW1 hW1' hH1 hh hhd hget hnews h1c hj hlt
 go_enter Tryz.func48, Tryz.ntmps48
 go_wp2_with fail
 go_region_law_o (refine step_append_room rfl (.tmp 22) (.tmp 25) 23 rfl 43 i0 5 hT hi0 hz1 b 0 k cap (by simp [Act.eval, Act.put]) A (n - j) (cap - j) news (by simp [Act.eval, Act.put]) hlen hsrc.out s2.out (by omega) s3.out ?_; rw [<- hW.out])
 go_wp2
 go_ret
 have := hJ.out
 exact ⟨by rw [show n - 1 = k + (n - j) by omega]; rfl, Z.out⟩

theorem Cq (cs : Array Value) (n k : Nat) (hk : k < n) (hsz : n * 5 <= cs.size) (m : Nat) (hm : m < (n - 1) * 5) :
  (spl (spl cs (k * 5) ((cs.toList.drop ((k + 1) * 5)).take ((n - (k + 1)) * 5))) ((n - 1) * 5) z5)[m]? = if m < k * 5 then cs[m]? else cs[m + 5]? := by
 have hlen : ((cs.toList.drop ((k + 1) * 5)).take ((n - (k + 1)) * 5)).length = (n - (k + 1)) * 5 := by simp; omega
 rw [gN _ _ _ _ (by rw [bW]; simp [z5]; omega), if_neg (by omega), gN _ _ _ _ (by rw [hlen]; omega), hlen]
 by_cases h : m < k * 5
 ·rw [if_neg (by omega), if_pos h]
 ·rw [if_pos (by omega), if_neg h, List.getElem?_take_of_lt (by omega), List.getElem?_drop, Array.getElem?_toList]
  congr 1; omega
theorem Ct {es : List (List DC)} {i j sz : Nat} {d : DC} (hs : ∀ (i : Nat) (e : List DC), es[i]? = some e -> e.length = sz) (h : at2 es i j = some d) : i < es.length /\ j < sz := by
 unfold at2 at h
 cases he : es[i]? with
 | none => rw [he] at h; cases h
 | some e =>
  rw [he] at h
  have h : e[j]? = some d := h
  exact ⟨(List.getElem?_eq_some_iff.1 he).1, by rw [<- hs i e he]; exact (List.getElem?_eq_some_iff.1 h).1⟩
theorem x8 {es : List (List DC)} {i j k : Nat} : at2 (es.eraseIdx k) i j = if i < k then at2 es i j else at2 es (i + 1) j := by
 unfold at2
 rw [List.getElem?_eraseIdx]
 split <;> rfl

theorem Dp (ns es : List (List DC)) (k : Nat) (hk : k < es.length) (hn : es.length <= 1048576) :
  jL Tryz.prog 48 [.val (.one (.own 997 5 0 es.length)), dI k, dI ((k : Int) + 1)] 
   [(999, some (.box [.own 998 4 0 ns.length, .own 997 5 0 es.length])), (998, some (.arr 4 ns)), (997, some (.arr 5 es))] (.val (.one (.own 997 5 0 (es.length - 1))))
   [(999, some (.box [.own 998 4 0 ns.length, .own 997 5 0 es.length])), (998, some (.arr 4 ns)), (997, some (.arr 5 (es.eraseIdx k)))] := by
 refine ⟨⟨_, Tryz.func48, by kernel_rfl, rfl⟩, fun w X z μ vs hI hl ha => ?_⟩
 obtain ⟨v0, e0, r0⟩ := ha 0 _ rfl
 obtain ⟨v1, e1, r1⟩ := ha 1 _ rfl
 obtain ⟨v2, e2, r2⟩ := ha 2 _ rfl
 obtain ⟨u0, u1, u2, rfl⟩ : ∃ u0 u1 u2, vs = [u0, u1, u2] := by
  match vs, hl with
  | [u0, u1, u2], _ => exact ⟨u0, u1, u2, rfl⟩
 cases e0; cases e1; cases e2
 obtain ⟨cap, cs, E, fr, rfl, hcap, hh, hsz⟩ := r0
 have q1 : v1 = .int .i64 k := by
  have : RdC w _ v1 (.lit (.int .i64 k)) := r1
  cases this; rfl
 have q2 : v2 = .int .i64 ((k + 1 : Nat) : Int) := by
  have : RdC w _ v2 (.lit (.int .i64 ((k : Int) + 1))) := r2
  cases this; rfl
 subst q1 q2
 obtain ⟨hz, cs', E', hh', hrel⟩ := hI.obj 997 _ rfl
 rw [hh] at hh'; cases hh';rw [Nat.zero_add] at hsz
 have hsz' : es.length * 5 <= cs.size := hrel.1
 rw [Nat.zero_mul];refine (Cp (μ 997) cap es.length k (k + 1) cs E w hh hk rfl hcap (by omega) hsz ?_).mono ?_
 ·intro j u hj hu
  have h5 : j % 5 < 5 := Nat.mod_lt _ (by decide)
  have hi : j / 5 < es.length := by omega
  have hl5 := hrel.2.1 (j / 5) es[j / 5] (List.getElem?_eq_getElem hi)
  obtain ⟨x, g1, g2⟩ := hrel.2.2 (j / 5) (j % 5) (es[j / 5][j % 5]'(by omega)) (by unfold at2; rw [List.getElem?_eq_getElem hi]; exact List.getElem?_eq_getElem (by omega))
  rw [show j / 5 * 5 + j % 5 = j by omega, hu] at g1
  cases g1
  exact g2.oneCell
 ·rintro e w' ⟨he, hw'⟩
  refine ⟨_, μ, he, ?_⟩
  have hhd : w.drew.heap[μ 997]? = some (.cells cs E (0, 0)) := hh
  generalize hcs2 : spl (spl cs (k * 5) ((cs.toList.drop ((k + 1) * 5)).take ((es.length - (k + 1)) * 5))) ((es.length - 1) * 5) z5 = cs2 at hw'
  have hs2 : cs2.size = cs.size := by rw [<- hcs2, bW, bW]
  have hnew : w'.heap[μ 997]? = some (.cells cs2 E (0, 0)) := by rw [hw', co hhd]
  have hoth : ∀ b, b ≠ μ 997 -> w'.heap[b]? = w.heap[b]? := fun b hb => by rw [hw', cx _ _ _ hb]; rfl
  have hsz2 : w'.heap.size = w.heap.size := by rw [hw', iq]; rfl
  have hF : Fwd (fun k => X k \/ z k) w w' := ⟨by omega, fun b _ hn => hoth b (fun e => hn (Or.inr (by rw [e]; exact hz))), fun b cs0 E0 fr hc => by
   by_cases hb : b = μ 997
   ·subst hb; rw [hh] at hc; cases hc; exact ⟨cs2, _, hnew, hs2⟩
   ·exact ⟨cs0, fr, by rw [hoth b hb]; exact hc, rfl⟩⟩
  have hz9 := hI.obj 999 _ rfl
  have hz8 := hI.obj 998 _ rfl
  have n9 : μ 999 ≠ μ 997 := fun e => absurd (hI.inj 999 997 _ _ rfl rfl e) (by decide)
  have n8 : μ 998 ≠ μ 997 := fun e => absurd (hI.inj 998 997 _ _ rfl rfl e) (by decide)
  have cas : ∀ {id : Nat} {o : OO} {A : List (List DC)}, so [(999, some (.box [.own 998 4 0 ns.length, .own 997 5 0 es.length])), (998, some (.arr 4 ns)), (997, some (.arr 5 A))] id = some o ->
    (id = 999 /\ o = .box [.own 998 4 0 ns.length, .own 997 5 0 es.length]) \/ (id = 998 /\ o = .arr 4 ns) \/ (id = 997 /\ o = .arr 5 A) := fun h => by
   simp only [aJ] at h
   split at h
   ·rename_i e; cases h; exact Or.inl ⟨e.symm, rfl⟩
   ·split at h
    ·rename_i e; cases h; exact Or.inr (Or.inl ⟨e.symm, rfl⟩)
    ·split at h
     ·rename_i e; cases h; exact Or.inr (Or.inr ⟨e.symm, rfl⟩)
     ·cases h
  have hM : ∀ b, Mut X μ (so [(999, some (.box [.own 998 4 0 ns.length, .own 997 5 0 es.length])), (998, some (.arr 4 ns)), (997, some (.arr 5 (es.eraseIdx k)))]) b -> X b \/ z b := by
   rintro b (hb | ⟨id, o, g1, g2⟩)
   ·exact Or.inl hb
   ·rw [<- g2]
    rcases cas g1 with ⟨rfl, _⟩ | ⟨rfl, _⟩ | ⟨rfl, _⟩
    ·exact Or.inr hz9.1
    ·exact Or.inr hz8.1
    ·exact Or.inr hz
  refine ⟨⟨by rw [hw']; rfl, by rw [hw']; rfl, by rw [hw']; rfl, by rw [hw', iq]; exact Nat.le_refl _, fun b hb hn => hoth b (fun e => hn (by rw [e]; exact hz)), hI.tb, hI.lz, fun b cs0 E0 fr hb hc => ?_⟩, fun _ _ => rfl, fun id o ho => ?_, fun i j o o' hi hj he => ?_, ?_⟩
  ·by_cases hb : b = μ 997
   ·subst hb
    have hc : w.heap[μ 997]? = some (.cells cs0 E0 fr) := hc
    rw [hh] at hc; cases hc;exact ⟨cs2, hnew, hs2⟩
   ·exact ⟨cs0, (hoth b hb).trans hc, rfl⟩
  ·rcases cas ho with ⟨rfl, rfl⟩ | ⟨rfl, rfl⟩ | ⟨rfl, rfl⟩
   ·obtain ⟨g1, c9, E9, g2, g3⟩ := hz9
    exact ⟨Or.inr g1, c9, E9, (hoth _ n9).trans g2, g3.mono (fun b _ hb => hM b hb) hF⟩
   ·obtain ⟨g1, c9, E9, g2, g3⟩ := hz8
    exact ⟨Or.inr g1, c9, E9, (hoth _ n8).trans g2, g3.mono (fun b _ hb => hM b hb) hF⟩
   ·refine ⟨Or.inr hz, cs2, E, hnew, ?_, fun i e he => ?_, fun i j d hd => ?_⟩
    ·rw [List.length_eraseIdx_of_lt hk, hs2]; omega
    ·rw [List.getElem?_eraseIdx] at he
     split at he
     ·exact hrel.2.1 _ _ he
     ·exact hrel.2.1 _ _ he
    ·have hes : ∀ (i : Nat) (e : List DC), (es.eraseIdx k)[i]? = some e -> e.length = 5 := fun i e he => by
      rw [List.getElem?_eraseIdx] at he
      split at he
      ·exact hrel.2.1 _ _ he
      ·exact hrel.2.1 _ _ he
     have hb := Ct hes hd
     rw [List.length_eraseIdx_of_lt hk] at hb;rw [x8] at hd
     have hg := Cq cs es.length k hk hsz' (i * 5 + j) (by omega)
     rw [hcs2] at hg
     split at hd
     ·rename_i hik
      obtain ⟨x, g1, g2⟩ := hrel.2.2 i j d hd
      rw [if_pos (by omega)] at hg;exact ⟨x, hg.trans g1, RdC.mono (fun b _ hb => hM b hb) hF.keep g2⟩
     ·rename_i hik
      obtain ⟨x, g1, g2⟩ := hrel.2.2 (i + 1) j d hd
      rw [if_neg (by omega), show i * 5 + j + 5 = (i + 1) * 5 + j by omega] at hg;exact ⟨x, hg.trans g1, RdC.mono (fun b _ hb => hM b hb) hF.keep g2⟩
  ·have a := cas hi
   have b := cas hj
   obtain ⟨oi, h1⟩ : ∃ oi, so [(999, some (OO.box [.own 998 4 0 ns.length, .own 997 5 0 es.length])), (998, some (OO.arr 4 ns)), (997, some (OO.arr 5 es))] i = some oi := by
    rcases a with ⟨rfl, _⟩ | ⟨rfl, _⟩ | ⟨rfl, _⟩ <;> exact ⟨_, rfl⟩
   obtain ⟨oj, h2⟩ : ∃ oj, so [(999, some (OO.box [.own 998 4 0 ns.length, .own 997 5 0 es.length])), (998, some (OO.arr 4 ns)), (997, some (OO.arr 5 es))] j = some oj := by
    rcases b with ⟨rfl, _⟩ | ⟨rfl, _⟩ | ⟨rfl, _⟩ <;> exact ⟨_, rfl⟩
   exact hI.inj i j oi oj h1 h2 he
  ·exact ⟨cap, cs2, E, (0, 0), by rw [Nat.zero_mul], by omega, hnew, by rw [hs2]; omega⟩
end Go.Proofs.YtceacleokgoooaaGreatDoor

/- The reference's integers: words trimmed, compared, added, subtracted. No condition. -/
namespace Go.Proofs.YtceacleokgoooaaGreatDoor
attribute [local irreducible] aF

theorem dw (ws : List Nat) (hw : wOK ws) (hl : ws.length <= 1073741824) : Con Tryz.prog 126 [V1 (dW ws)] { v := V1 (dW (wof (wv ws))) } := by
 rw [<- g8 hw];refine Z3 Tryz.func126 ?_
 intro w0 X
 rw [aq _ _ [(0, V1 (dW ws))] rfl rfl];refine gQ fun _ O=>?_;refine Z8 ?_;refine eQ O ?_;clear O;refine ag ?_;refine al (aS (α := List Nat) (fun us => mk 23 [(0, V1 (dW us))] [] []) (fun us => us.length <= ws.length /\ dN us = dN ws) List.length ws ?_ ⟨Nat.le_refl _, rfl⟩ ?_)
 ·exact Wk.mk' ⟨rfl, trivial⟩ trivial
 rintro us ⟨hle, hus⟩
 refine ag ?_;refine bd (α := Bool) (fun c => mk 23 [(0, V1 (dW us)), (14, dB c)] [] []) (fun c => (c = true -> ∃ vs, us = vs ++ [0]) /\ (c = false -> dN us = us)) ?_ ?_
 ·refine gR fun _ O=>?_;refine Z9 ?_;refine az rfl (aZ rfl rfl rfl) rfl ?_;refine Z6 ?_;refine Z9 ?_;refine ep (fun hb => ?_) (fun hb => ?_)
  ·rcases List.eq_nil_or_concat us with rfl | ⟨vs, x, rfl⟩
   ·simp at hb
   rw [List.concat_eq_append] at *;simp only [List.length_append, List.length_singleton] at *;refine Z9 ?_;refine Z9 ?_;refine az rfl (aZ rfl rfl (List.length_append)) rfl ?_;refine av rfl (bZ (c := (vs.length : Int)) (by simp) (by omega)) rfl ?_;refine ae rfl (x_w (i := vs.length) rfl rfl rfl rfl rfl (by simp)) rfl ?_;refine Z7 ?_;refine Z6 ?_;refine Z4 ?_;refine eQ O ?_;clear O;refine ⟨_, ⟨fun h => ?_, fun h => ?_⟩, Wk.mk' ⟨rfl, rfl, trivial⟩ trivial⟩
   ·have hx : x = 0 := by simpa using h
    exact ⟨vs, by rw [hx]⟩
   ·have hx : x ≠ 0 := by simpa using h
    exact jk _ hx
  ·have hu : us = [] := by simpa using hb
   subst hu
   refine aA rfl ?_;refine aA rfl ?_;refine aA rfl ?_;refine aA rfl ?_;refine aA rfl ?_;refine aA rfl ?_;refine aA rfl ?_;refine Z4 ?_;refine eQ O ?_;clear O;exact ⟨false, ⟨fun h => (by cases h), fun _ => rfl⟩, Wk.mk' ⟨rfl, rfl, trivial⟩ trivial⟩
 rintro c ⟨h1, h2⟩
 refine ap rfl (fun hc => ?_) (fun hc => ?_)
 ·obtain ⟨vs, rfl⟩ := h1 hc
  simp only [List.length_append, List.length_singleton] at *;refine ak ?_;show AWP _ _ _ _ _ _;refine al ?_;refine gR fun _ O=>?_;refine Z9 ?_;refine Z9 ?_;refine az rfl (aZ rfl rfl (List.length_append)) rfl ?_;refine av rfl (bZ (c := (vs.length : Int)) (by simp) (by omega)) rfl ?_;refine gP rfl rfl rfl (Dk (lo := 0) (hi := vs.length) rfl rfl rfl rfl rfl rfl (by omega) (by simp)) rfl ?_;refine Z8 ?_;refine eQ O ?_;clear O;exact ⟨vs, by simp, ⟨by omega, by rw [<- hus, ip]⟩, Wk.mk' ⟨by show V1 _ = _; simp, trivial⟩ trivial⟩
 ·have h2 := h2 hc
  refine aD ?_;show AWP _ _ _ _ _ _;refine gQ fun _ O=>?_;refine ax rfl rfl rfl rfl ?_;refine Z9 ?_;refine aN rfl (et (es := []) rfl rfl rfl rfl rfl rfl (by decide) (Nat.le_of_ble_eq_true rfl) rfl sy rfl rfl rfl (by simp; omega)) rfl rfl rfl ?_;refine Z8 ?_;refine eQ O ?_;clear O;refine dK [2] [22] 22 [(2, V1 (dW us))] [] rfl ?_ trivial ?_
  ·exact ⟨jG (by simp) (by simp), trivial⟩
  exact ah (bz (h3 := by rw [<- hus, h2]; rfl))

theorem iZ (n : Bool) (w : List Nat) (hw : wOK w) (hl : w.length <= 1073741824) : Con Tryz.prog 97 [AG (IC n w)] { v := AG (ZC (zv n w)) } := by
 have hz : ZC (zv n w) = IC (n && decide (wv w ≠ 0)) (wof (wv w)) := by rw [wH hw, g8 hw]
 have h0 : decide (((wof (wv w)).length : Int) > 0) = decide (wv w ≠ 0) := by
  have := em (n := wv w)
  by_cases h : wv w = 0
  ·rw [h]; rfl
  ·have h1 : wof (wv w) ≠ [] := fun h' => h (this.1 h')
   have h2 := List.length_pos_iff.2 h1
   simp [h]; omega
 refine Z3 Tryz.func97 ?_
 intro w0 X
 rw [aq _ _ [(0, AG (IC n w))] rfl rfl];refine gQ fun _ O=>?_;refine aG rfl rfl rfl rfl rfl rfl ?_;refine aw rfl rfl rfl rfl rfl rfl ?_;refine eQ O ?_;clear O;refine gQ fun _ O=>?_;refine Z5 ?_;refine Z7 ?_;refine ac rfl rfl (dw w hw hl) rfl rfl rfl rfl ?_;refine Z8 ?_;refine eQ O ?_;clear O;refine gQ fun _ O=>?_;refine Z5 ?_;refine Z7 ?_;refine Z9 ?_;refine ep (fun hn => ?_) (fun hn => ?_)
 ·have hn : n = true := hn
  subst hn
  refine Z9 ?_;refine az rfl (aZ rfl rfl rfl) rfl ?_;refine Z6 ?_;refine Z4 ?_;refine Z9 ?_;refine aI rfl rfl rfl ?_;refine aj rfl rfl rfl rfl rfl ?_;refine eQ O ?_;clear O;exact ah (bz (h3 := by rw [hz, Bool.true_and, <- h0]; rfl))
 ·have hn : n = false := hn
  subst hn
  refine aA rfl ?_;refine aA rfl ?_;refine aA rfl ?_;refine Z4 ?_;refine Z9 ?_;refine aI rfl rfl rfl ?_;refine aj rfl rfl rfl rfl rfl ?_;refine eQ O ?_;clear O;exact ah (bz (h3 := by rw [hz, Bool.false_and]; rfl))

theorem rE (n : Int) (hn : I64 n) : Con Tryz.prog 100 [dI n] { v := AG (ZC n) } := by
 unfold I64 at hn
 refine Z3 Tryz.func100 ?_
 intro w0 X
 rw [aq _ _ [(0, dI n)] rfl rfl];refine gQ fun _ O=>?_;refine aw rfl rfl rfl rfl rfl rfl ?_;refine eQ O ?_;clear O;refine gQ fun _ O=>?_;refine Z9 ?_;refine aV rfl (aW (m := ((n % 18446744073709551616).toNat : Int)) rfl rfl rfl (by rw [oh]; omega)) rfl ?_;refine Z8 ?_;refine eQ O ?_;clear O;refine bd (α := Unit) (fun _ => mk 20 [(0, dI n), (2, .ptr 2 0), (3, dL n.natAbs)] [(2, some (.box [.d (.lit (.bool false)), .nil]))] []) (fun _ => True) ?_ ?_
 ·refine gQ fun _ O=>?_;refine Z9 ?_;refine Z6 ?_;refine eQ O ?_;clear O;refine ap rfl (fun hc => ?_) (fun hc => ?_)
  ·have hc : n < 0 := by simpa using hc
   refine gR fun _ O=>?_;refine Z9 ?_;refine dr rfl rfl rfl ?_;refine Z8 ?_;refine eQ O ?_;clear O;refine ⟨(), trivial, Wk.mk' ⟨rfl, rfl, ?_, trivial⟩ ⟨rfl, trivial⟩⟩
   show V1 (.lit (.int .u64 (IntKind.u64.wrap (0 - ((n % 18446744073709551616).toNat : Int))))) = _
   rw [oh]
   have : (0 - ((n % 18446744073709551616).toNat : Int)) % 18446744073709551616 = (n.natAbs : Int) := by omega
   rw [this]
  ·have hc : ¬ n < 0 := by simpa using hc
   refine ak ?_;refine ⟨(), trivial, Wk.mk' ⟨rfl, rfl, ?_, trivial⟩ ⟨rfl, trivial⟩⟩
   show dL _ = dL _
   have : (n % 18446744073709551616).toNat = n.natAbs := by omega
   rw [this]
 rintro - -
 have hd : n.natAbs / 2 ^ 32 % 4294967296 = n.natAbs / 4294967296 := by show n.natAbs / 4294967296 % 4294967296 = _; omega
 have hv : zv (decide (n < 0)) [n.natAbs % 4294967296, n.natAbs / 2 ^ 32 % 4294967296] = n := by unfold zv; simp only [wv, hd]; by_cases h : n < 0 <;> simp [h] <;> omega
 refine aU fun _ O=>?_;refine aa tok rfl ?_;refine Z9 ?_;refine ab ?_;refine aa tok rfl ?_;refine Z6 ?_;refine ab ?_;refine aa tok rfl ?_;refine Z9 ?_;refine ab ?_;refine aa tok rfl ?_;refine aV rfl (aW rfl rfl rfl (ew _)) rfl ?_;refine ab ?_;refine aa tok rfl ?_;refine Z9 ?_;refine ab ?_;refine aa tok rfl ?_;refine av rfl (j3 (s := 32) (by omega) rfl) rfl ?_;refine ab ?_;refine aa tok rfl ?_;refine aV rfl (aW rfl rfl rfl (ew _)) rfl ?_;refine ab ?_;refine aa tok rfl ?_;refine ax rfl rfl rfl rfl ?_;refine ab ?_;refine uy (Wk.fzNew rfl rfl rfl) ?_;refine aa tok rfl ?_;refine aI rfl rfl rfl ?_;refine ab ?_;refine aa tok rfl ?_;refine ac rfl rfl (iZ (decide (n < 0)) [n.natAbs % 4294967296, n.natAbs / 2 ^ 32 % 4294967296] (fun x hx => by simp at hx; omega) (by simp)) rfl rfl rfl rfl ?_;refine ab ?_;refine aa tok rfl ?_;refine aj rfl rfl rfl rfl rfl ?_;refine ab ?_;refine aM rfl (O _ ?_); clear O;exact ah (bz (h3 := by rw [hv]; rfl))

theorem nT (a b : List Nat) (ha : wOK a) (hb : wOK b) (ta : jM a) (tb : jM b) (la : a.length <= 1073741824) (lb : b.length <= 1073741824) :
  Con Tryz.prog 129 [V1 (dW a), V1 (dW b)] { v := dI (gT (wv a) (wv b)) } := by
 refine Z3 Tryz.func129 ?_
 intro w0 X
 rw [aq _ _ [(0, V1 (dW a)), (1, V1 (dW b))] rfl rfl];refine gQ fun _ O=>?_;refine Z8 ?_;refine eQ O ?_;clear O;refine ag ?_;refine gQ fun _ O=>?_;refine Z9 ?_;refine az rfl (aZ rfl rfl rfl) rfl ?_;refine Z9 ?_;refine az rfl (aZ rfl rfl rfl) rfl ?_;refine Z6 ?_;refine eQ O ?_;clear O;refine ap rfl (fun hc => ?_) (fun hc => ?_)
 ·have hc : a.length ≠ b.length := by simp at hc; omega
  refine ag ?_;refine gQ fun _ O=>?_;refine Z9 ?_;refine az rfl (aZ rfl rfl rfl) rfl ?_;refine Z9 ?_;refine az rfl (aZ rfl rfl rfl) rfl ?_;refine Z6 ?_;refine eQ O ?_;clear O;refine ap rfl (fun hd => ?_) (fun hd => ?_)
  ·have hd : a.length < b.length := by simp at hd; omega
   refine gQ fun _ O=>?_;refine Z8 ?_;refine eQ O ?_;clear O;exact ah (bz (h3 := by have := iS ha tb hd; unfold gT; rw [if_pos this]; rfl))
  ·have hd : b.length < a.length := by simp at hd; omega
   refine ak ?_;show AWP _ _ _ _ _ _;refine gQ fun _ O=>?_;refine Z8 ?_;refine eQ O ?_;clear O;exact ah (bz (h3 := by have := iS hb ta hd; unfold gT; rw [if_neg (by omega), if_pos this]; rfl))
 have hc : a.length = b.length := by simp at hc; omega
 refine ak ?_;show AWP _ _ _ _ _ _;refine ag ?_;refine gQ fun _ O=>?_;refine Z9 ?_;refine az rfl (aZ rfl rfl rfl) rfl ?_;refine av rfl (bZ rfl (by omega)) rfl ?_;refine Z8 ?_;refine eQ O ?_;clear O;refine al (aS (α := Nat) (fun k => mk 41 [(0, V1 (dW a)), (1, V1 (dW b)), (5, dI ((k : Int) - 1))] [] []) (fun k => k <= a.length /\ a.drop k = b.drop k) (fun k => k) a.length ?_ ⟨Nat.le_refl _, by simp [hc]⟩ ?_)
 ·exact Wk.mk' ⟨rfl, rfl, rfl, trivial⟩ trivial
 rintro k ⟨hk, hdr⟩
 refine ag ?_;refine gQ fun _ O=>?_;refine Z9 ?_;refine Z6 ?_;refine eQ O ?_;clear O;refine ap rfl (fun hg => ?_) (fun hg => ?_)
 ·obtain ⟨j, rfl⟩ : ∃ j, k = j + 1 := ⟨k - 1, by simp at hg; omega⟩
  refine ak ?_;show AWP _ _ _ _ _ _;refine ag ?_;refine al ?_
  have hja : j < a.length := by omega
  have hjb : j < b.length := by omega
  refine ag ?_;refine c8 [(0, V1 (dW a)), (1, V1 (dW b)), (5, dI j)] [] ⟨rfl, rfl, by exact pP (by omega), trivial⟩ trivial ?_;refine aL tok mixed (A := [[], [], [], [0, 1], [], [], [], [4, 5], [0, 1, 2, 4, 5, 6]]) (an := [{}, {}, {}, {}, {}, {}, {}, {}, {}]) rfl (by kernel_rfl) rfl fun _ O=>?_;refine Z9 ?_;refine Z9 ?_;refine ae rfl (x_w (i := j) rfl rfl rfl rfl rfl hja) rfl ?_;refine Z7 ?_;refine Z9 ?_;refine Z9 ?_;refine ae rfl (x_w (i := j) rfl rfl rfl rfl rfl hjb) rfl ?_;refine Z7 ?_;refine Z6 ?_;refine eQ O ?_;clear O;refine ap rfl (fun hl => ?_) (fun hl => ?_)
  ·have hl : a[j] < b[j] := by simp at hl; omega
   refine gQ fun _ O=>?_;refine Z8 ?_;refine eQ O ?_;clear O;exact ah (bz (h3 := by have := nL ha hc (by omega) hdr hl; unfold gT; rw [if_pos this]; rfl))
  have hl : b[j] <= a[j] := by simp at hl; omega
  refine ak ?_;show AWP _ _ _ _ _ _;refine c8 [(0, V1 (dW a)), (1, V1 (dW b)), (5, dI j)] [] ⟨rfl, rfl, rfl, trivial⟩ trivial ?_;refine aL tok mixed (A := [[], [], [], [0, 1], [], [], [], [4, 5], [0, 1, 2, 4, 5, 6]]) (an := [{}, {}, {}, {}, {}, {}, {}, {}, {}]) rfl (by kernel_rfl) rfl fun _ O=>?_;refine Z9 ?_;refine Z9 ?_;refine ae rfl (x_w (i := j) rfl rfl rfl rfl rfl hja) rfl ?_;refine Z7 ?_;refine Z9 ?_;refine Z9 ?_;refine ae rfl (x_w (i := j) rfl rfl rfl rfl rfl hjb) rfl ?_;refine Z7 ?_;refine Z6 ?_;refine eQ O ?_;clear O;refine ap rfl (fun hm => ?_) (fun hm => ?_)
  ·have hm : b[j] < a[j] := by simp at hm; omega
   refine gQ fun _ O=>?_;refine Z8 ?_;refine eQ O ?_;clear O;exact ah (bz (h3 := by have := nL hb hc.symm (by omega) hdr.symm hm; unfold gT; rw [if_neg (by omega), if_pos this]; rfl))
  have hn : a[j] = b[j] := by simp at hm; omega
  refine ak ?_;show AWP _ _ _ _ _ _;refine gR fun _ O=>?_;refine Z9 ?_;refine av rfl (bZ (c := (j : Int) - 1) (by omega) (by omega)) rfl ?_;refine Z8 ?_;refine eQ O ?_;clear O;exact ⟨j, by omega, ⟨by omega, by rw [List.drop_eq_getElem_cons hja, List.drop_eq_getElem_cons hjb, hn, hdr]⟩, Wk.mk' ⟨rfl, rfl, rfl, trivial⟩ trivial⟩
 ·have hk0 : k = 0 := by simp at hg; omega
  subst hk0
  refine aD ?_;show AWP _ _ _ _ _ _;refine gQ fun _ O=>?_;refine Z8 ?_;refine eQ O ?_;clear O
  have : a = b := by simpa using hdr
  exact ah (bz (h3 := by subst this; unfold gT; rw [if_neg (by omega), if_neg (by omega)]; rfl))

theorem yF {x y : List Nat} (hx : wOK x) (hy : wOK y) {i : Nat} (hi : max x.length y.length + 1 <= i) : cw x y i / 4294967296 ^ i = 0 := by
 have h1 : cw x y i = wv x + wv y := by unfold cw; rw [List.take_of_length_le (by omega), List.take_of_length_le (by omega)]
 have h2 := wo hx hy
 have h3 : 4294967296 ^ (max x.length y.length + 1) <= 4294967296 ^ i := Nat.pow_le_pow_right (by decide) hi
 rw [h1]; exact Nat.div_eq_of_lt (by omega)

theorem nU (a b : List Nat) (ha : wOK a) (hb : wOK b) (la : a.length <= 1073741800) (lb : b.length <= 1073741800) :
  Con Tryz.prog 131 [V1 (dW a), V1 (dW b)] { v := V1 (dW (wof (wv a + wv b))) } := by
 refine Z3 Tryz.func131 ?_
 intro w0 X
 rw [aq _ _ [(0, V1 (dW a)), (1, V1 (dW b))] rfl rfl];refine gQ fun _ O=>?_;refine Z8 ?_;refine eQ O ?_;clear O;refine gQ fun _ O=>?_;refine Z8 ?_;refine eQ O ?_;clear O;refine gQ fun _ O=>?_;refine Z8 ?_;refine eQ O ?_;clear O;refine ag ?_;refine gQ fun _ O=>?_;refine Z8 ?_;refine eQ O ?_;clear O;refine al (aS (α := Nat) (fun i => mk 55 [(0, V1 (dW a)), (1, V1 (dW b)), (5, ec 5 1 i), (6, dL (cw a b i / 4294967296 ^ i)), (7, dI i)] [(5, dJ 1 ((a8 i (cw a b i)).map cW) i)] []) (fun i => i <= max a.length b.length + 1) (fun i => max a.length b.length + 1 - i) 0 ?_ (Nat.zero_le _) ?_)
 ·exact Wk.mk' ⟨rfl, rfl, rfl, by simp [cw, wv]; rfl, rfl, trivial⟩ ⟨rfl, trivial⟩
 intro i hi
 have hcar := oD ha hb i
 refine ag ?_;refine bd (α := Bool) (fun c => mk 55 [(0, V1 (dW a)), (1, V1 (dW b)), (5, ec 5 1 i), (6, dL (cw a b i / 4294967296 ^ i)), (7, dI i), (21, dB c)] [(5, dJ 1 ((a8 i (cw a b i)).map cW) i)] []) (fun c => (c = true -> i <= max a.length b.length) /\ (c = false -> a.length <= i /\ b.length <= i /\ cw a b i / 4294967296 ^ i = 0)) ?_ ?_
 ·refine gR fun _ O=>?_;refine Z9 ?_;refine Z9 ?_;refine az rfl (aZ rfl rfl rfl) rfl ?_;refine Z6 ?_;refine Z9 ?_;refine ep (fun hx => ?_) (fun hx => ?_)
  ·have hx : i < a.length := by simp at hx; omega
   refine aA rfl ?_;refine aA rfl ?_;refine aA rfl ?_;refine aA rfl ?_;refine Z4 ?_;refine Z9 ?_;refine aA rfl ?_;refine aA rfl ?_;refine Z4 ?_;refine eQ O ?_;clear O;exact ⟨true, ⟨fun _ => by omega, fun h => (by cases h)⟩, Wk.mk' ⟨rfl, rfl, rfl, rfl, rfl, rfl, trivial⟩ ⟨rfl, trivial⟩⟩
  have hx : a.length <= i := by simp at hx; omega
  refine Z9 ?_;refine Z9 ?_;refine az rfl (aZ rfl rfl rfl) rfl ?_;refine Z6 ?_;refine Z4 ?_;refine Z9 ?_;refine ep (fun hy => ?_) (fun hy => ?_)
  ·have hy : i < b.length := by simp at hy; omega
   refine aA rfl ?_;refine aA rfl ?_;refine Z4 ?_;refine eQ O ?_;clear O;exact ⟨true, ⟨fun _ => by omega, fun h => (by cases h)⟩, Wk.mk' ⟨rfl, rfl, rfl, rfl, rfl, rfl, trivial⟩ ⟨rfl, trivial⟩⟩
  have hy : b.length <= i := by simp at hy; omega
  refine Z9 ?_;refine Z6 ?_;refine Z4 ?_;refine eQ O ?_;clear O;refine ⟨_, ⟨fun h => ?_, fun h => ?_⟩, Wk.mk' ⟨rfl, rfl, rfl, rfl, rfl, rfl, trivial⟩ ⟨rfl, trivial⟩⟩
  ·rcases Nat.lt_or_ge (max a.length b.length) i with h' | h'
   ·rw [yF ha hb h'] at h; simp at h
   ·exact h'
  ·refine ⟨hx, hy, ?_⟩;generalize cw a b i / 4294967296 ^ i = q at *
   simp at h; omega
 rintro c ⟨h1, h2⟩
 refine ap rfl (fun hc => ?_) (fun hc => ?_)
 ·have hi' := h1 hc
  have hax := ba ha i
  have hbx := ba hb i
  refine ak ?_;show AWP _ _ _ _ _ _;refine ag ?_;refine al ?_;refine bd (α := Unit) (fun _ => mk 55 [(0, V1 (dW a)), (1, V1 (dW b)), (5, ec 5 1 i), (6, dL (cw a b i / 4294967296 ^ i + a.getD i 0)), (7, dI i)] [(5, dJ 1 ((a8 i (cw a b i)).map cW) i)] []) (fun _ => True) ?_ ?_
  ·refine gQ fun _ O=>?_;refine Z9 ?_;refine Z9 ?_;refine az rfl (aZ rfl rfl rfl) rfl ?_;refine Z6 ?_;refine eQ O ?_;clear O;refine ap rfl (fun hx => ?_) (fun hx => ?_)
   ·have hx : i < a.length := by simp at hx; omega
    refine gR fun _ O=>?_;refine Z9 ?_;refine Z9 ?_;refine Z9 ?_;refine ae rfl (im (i := i) rfl rfl rfl rfl rfl hx) rfl ?_;refine Z7 ?_;refine aV rfl (aW rfl rfl rfl (dm (ha.lt64 i))) rfl ?_;refine av rfl (j4 rfl (by omega)) rfl ?_;refine Z8 ?_;refine eQ O ?_;clear O;exact ⟨(), trivial, Wk.mk' ⟨rfl, rfl, rfl, rfl, rfl, trivial⟩ ⟨rfl, trivial⟩⟩
   ·have hx : a.length <= i := by simp at hx; omega
    refine ak ?_;exact ⟨(), trivial, Wk.mk' ⟨rfl, rfl, rfl, by rw [i9 hx]; rfl, rfl, trivial⟩ ⟨rfl, trivial⟩⟩
  rintro - -
  show AWP _ _ _ _ _ (mk 55 [(0, V1 (dW a)), (1, V1 (dW b)), (5, ec 5 1 i), (6, dL (cw a b i / 4294967296 ^ i + a.getD i 0)), (7, dI i)] [(5, dJ 1 ((a8 i (cw a b i)).map cW) i)] []);refine bd (α := Unit) (fun _ => mk 55 [(0, V1 (dW a)), (1, V1 (dW b)), (5, ec 5 1 i), (6, dL (cw a b (i + 1) / 4294967296 ^ i)), (7, dI i)] [(5, dJ 1 ((a8 i (cw a b i)).map cW) i)] []) (fun _ => True) ?_ ?_
  ·have e1 : cw a b i / 4294967296 ^ i + a.getD i 0 + b.getD i 0 = cw a b (i + 1) / 4294967296 ^ i := by rw [mo]; omega
   refine gQ fun _ O=>?_;refine Z9 ?_;refine Z9 ?_;refine az rfl (aZ rfl rfl rfl) rfl ?_;refine Z6 ?_;refine eQ O ?_;clear O;refine ap rfl (fun hx => ?_) (fun hx => ?_)
   ·have hx : i < b.length := by simp at hx; omega
    refine gR fun _ O=>?_;refine Z9 ?_;refine Z9 ?_;refine Z9 ?_;refine ae rfl (im (i := i) rfl rfl rfl rfl rfl hx) rfl ?_;refine Z7 ?_;refine aV rfl (aW rfl rfl rfl (dm (hb.lt64 i))) rfl ?_;refine av rfl (j4 e1 (by omega)) rfl ?_;refine Z8 ?_;refine eQ O ?_;clear O;exact ⟨(), trivial, Wk.mk' ⟨rfl, rfl, rfl, rfl, rfl, trivial⟩ ⟨rfl, trivial⟩⟩
   ·have hx : b.length <= i := by simp at hx; omega
    rw [i9 hx, Nat.add_zero] at e1;refine ak ?_;exact ⟨(), trivial, Wk.mk' ⟨rfl, rfl, rfl, by rw [<- e1]; rfl, rfl, trivial⟩ ⟨rfl, trivial⟩⟩
  rintro - -
  show AWP _ _ _ _ _ (mk 55 [(0, V1 (dW a)), (1, V1 (dW b)), (5, ec 5 1 i), (6, dL (cw a b (i + 1) / 4294967296 ^ i)), (7, dI i)] [(5, dJ 1 ((a8 i (cw a b i)).map cW) i)] [])
  have e2 : (a8 i (cw a b i)).map cW ++ [[.lit (.int .u32 ((cw a b (i + 1) / 4294967296 ^ i % 4294967296 : Nat) : Int))]] = (a8 (i + 1) (cw a b (i + 1))).map cW := by
   rw [gV, kc, sI, <- kc]; simp [cW]
  have hsl : cw a b (i + 1) / 4294967296 ^ i < 18446744073709551616 := by rw [mo]; omega
  refine bd (α := Unit) (fun _ => mk 55 [(0, V1 (dW a)), (1, V1 (dW b)), (5, .val (.one (.own 50 1 0 (i + 1)))), (6, dL (cw a b (i + 1) / 4294967296 ^ i)), (7, dI i)] [(50, some (.arr 1 ((a8 (i + 1) (cw a b (i + 1))).map cW)))] []) (fun _ => True) ?_ ?_
  ·rcases i with _ | i
   ·refine gR fun _ O=>?_;refine Z9 ?_;refine Z9 ?_;refine aV rfl (aW rfl rfl rfl (ew _)) rfl ?_;refine ax rfl rfl rfl rfl ?_;refine aN rfl (eu rfl rfl rfl rfl rfl (by decide) (Nat.le_of_ble_eq_true rfl) rfl (by simp) rfl (by simp) (by simp)) rfl rfl rfl ?_;refine Z8 ?_;refine eQ O ?_;clear O;exact ⟨(), trivial, Wk.mk' ⟨rfl, rfl, rfl, rfl, rfl, trivial⟩ ⟨by rw [<- e2]; rfl, trivial⟩⟩
   ·refine gR fun _ O=>?_;refine Z9 ?_;refine Z9 ?_;refine aV rfl (aW rfl rfl rfl (ew _)) rfl ?_;refine ax rfl rfl rfl rfl ?_;refine aN rfl (et rfl rfl rfl rfl rfl rfl (by decide) (Nat.le_of_ble_eq_true rfl) rfl (by simp) rfl rfl (by simp [aC]) (by simp; omega)) rfl rfl rfl ?_;refine Z8 ?_;refine eQ O ?_;clear O;refine ⟨(), trivial, Wk.mk' ⟨rfl, rfl, ?_, rfl, rfl, trivial⟩ ⟨by rw [<- e2]; rfl, trivial⟩⟩
    show SV.val (.one (.own 50 1 0 _)) = _
    simp [aC]
  rintro - -
  refine gR fun _ O=>?_;refine Z9 ?_;refine av rfl (j3 (s := 32) (by omega) rfl) rfl ?_;refine Z8 ?_;refine eQ O ?_;clear O;show AWP _ _ _ _ _ _;refine gR fun _ O=>?_;refine Z9 ?_;refine av rfl (aP (c := ((i + 1 : Nat) : Int)) (by omega) (by omega)) rfl ?_;refine Z8 ?_;refine eQ O ?_;clear O;refine ⟨i + 1, by omega, by omega, Wk.rn [0, 1, 5, 6, 7] [50] 50 5 rfl rfl rfl ⟨rfl, rfl, rfl, ?_, rfl, trivial⟩ ⟨rfl, trivial⟩⟩
  show dL _ = dL _
  rw [Nat.div_div_eq_div_mul, show (2 : Nat) ^ 32 = 4294967296 from rfl, <- Nat.pow_succ]
 ·obtain ⟨hx, hy, hz⟩ := h2 hc
  have hs : cw a b i = wv a + wv b := by unfold cw; rw [List.take_of_length_le hx, List.take_of_length_le hy]
  have hlt : wv a + wv b < 4294967296 ^ i := by
   rw [hs] at hz
   rcases Nat.lt_or_ge (wv a + wv b) (4294967296 ^ i) with h' | h'
   ·exact h'
   ·have := Nat.div_pos h' (pow_pos i); omega
  have hw : wv (a8 i (cw a b i)) = wv a + wv b := by rw [b7, hs, Nat.mod_eq_of_lt hlt]
  refine aD ?_;show AWP _ _ _ _ _ _
  rcases i with _ | i
  ·have h0 : wv a + wv b = 0 := by simpa using hlt
   refine gQ fun _ O=>?_;refine Z9 ?_;refine ac rfl rfl (dw [] wOK.nil (by simp)) rfl rfl rfl rfl ?_;refine Z8 ?_;refine eQ O ?_;clear O;exact ah (bz (h3 := by rw [h0]; rfl))
  ·refine dK [5] [5] 5 [(5, V1 (dW (a8 (i + 1) (cw a b (i + 1)))))] [] rfl ?_ trivial ?_
   ·exact ⟨jG rfl (by simp [aC]), trivial⟩
   refine gQ fun _ O=>?_;refine Z9 ?_;refine ac rfl rfl (dw _ (bV _ _) (by rw [aC]; omega)) rfl rfl rfl rfl ?_;refine Z8 ?_;refine eQ O ?_;clear O;exact ah (bz (h3 := by rw [hw]; rfl))

theorem lM (a b : List Nat) (ha : wOK a) (hb : wOK b) (la : a.length <= 1073741800) (hl : b.length <= a.length) (hle : wv b <= wv a) :
  Con Tryz.prog 130 [V1 (dW a), V1 (dW b)] { v := V1 (dW (wof (wv a - wv b))) } := by
 refine Z3 Tryz.func130 ?_
 intro w0 X
 rw [aq _ _ [(0, V1 (dW a)), (1, V1 (dW b))] rfl rfl];refine gQ fun _ O=>?_;refine Z8 ?_;refine eQ O ?_;clear O;refine gQ fun _ O=>?_;refine Z8 ?_;refine eQ O ?_;clear O;refine gQ fun _ O=>?_;refine Z8 ?_;refine eQ O ?_;clear O;refine ag ?_;refine gQ fun _ O=>?_;refine Z8 ?_;refine eQ O ?_;clear O;refine al (aS (α := Nat) (fun i => mk 44 [(0, V1 (dW a)), (1, V1 (dW b)), (5, ec 5 1 i), (6, dI ((1 - difN a b i / 4294967296 ^ i : Nat) : Int)), (7, dI i)] [(5, dJ 1 ((a8 i (difN a b i)).map cW) i)] []) (fun i => i <= a.length) (fun i => a.length - i) 0 ?_ (Nat.zero_le _) ?_)
 ·exact Wk.mk' ⟨rfl, rfl, rfl, by rw [q9]; rfl, rfl, trivial⟩ ⟨rfl, trivial⟩
 intro i hi
 have hcar := pM (y := b) ha i
 refine ag ?_;refine gQ fun _ O=>?_;refine Z9 ?_;refine Z9 ?_;refine az rfl (aZ rfl rfl rfl) rfl ?_;refine Z6 ?_;refine eQ O ?_;clear O;refine ap rfl (fun hg => ?_) (fun hg => ?_)
 ·have hg : i < a.length := by simp at hg; omega
  have hst := ra a hb i
  have hxl := ba ha i
  have hyl := ba hb i
  have hbo : difN a b (i + 1) / 4294967296 ^ (i + 1) = difN a b (i + 1) / 4294967296 ^ i / 4294967296 := by rw [Nat.pow_succ, <- Nat.div_div_eq_div_mul]
  have e3 : a8 i (difN a b (i + 1)) = a8 i (difN a b i) := by
   refine ll ?_
   have := congrArg (· % 4294967296 ^ i) (mL a hb i)
   simp only [Nat.add_mul_mod_self_right, Nat.add_comm (_ * _)] at this;exact this
  have e2 : (a8 i (difN a b i)).map cW ++ [[.lit (.int .u32 ((difN a b (i + 1) / 4294967296 ^ i % 4294967296 : Nat) : Int))]] = (a8 (i + 1) (difN a b (i + 1))).map cW := by
   rw [gV, e3]; simp [cW]
  generalize hq : difN a b i / 4294967296 ^ i = q at *;generalize hq' : difN a b (i + 1) / 4294967296 ^ i = q' at *;refine ak ?_;show AWP _ _ _ _ _ _;refine ag ?_;refine al ?_;refine gQ fun _ O=>?_;refine Z9 ?_;refine Z9 ?_;refine ae rfl (im (i := i) rfl rfl rfl rfl rfl hg) rfl ?_;refine Z7 ?_;refine aV rfl (aW (m := (a.getD i 0 : Int)) rfl rfl rfl (IntWalk.i64_in _ (by omega))) rfl ?_;refine Z9 ?_;refine av rfl (bZ rfl (by omega)) rfl ?_;refine Z8 ?_;refine eQ O ?_;clear O;refine bd (α := Unit) (fun _ => mk 44 [(0, V1 (dW a)), (1, V1 (dW b)), (5, ec 5 1 i), (7, dI i), (8, dI ((a.getD i 0 : Int) - ((1 - q : Nat) : Int) - b.getD i 0))] [(5, dJ 1 ((a8 i (difN a b i)).map cW) i)] []) (fun _ => True) ?_ ?_
  ·refine gQ fun _ O=>?_;refine Z9 ?_;refine Z9 ?_;refine az rfl (aZ rfl rfl rfl) rfl ?_;refine Z6 ?_;refine eQ O ?_;clear O;refine ap rfl (fun hx => ?_) (fun hx => ?_)
   ·have hx : i < b.length := by simp at hx; omega
    refine gR fun _ O=>?_;refine Z9 ?_;refine Z9 ?_;refine Z9 ?_;refine ae rfl (im (i := i) rfl rfl rfl rfl rfl hx) rfl ?_;refine Z7 ?_;refine aV rfl (aW (m := (b.getD i 0 : Int)) rfl rfl rfl (IntWalk.i64_in _ (by omega))) rfl ?_;refine av rfl (bZ rfl (by omega)) rfl ?_;refine Z8 ?_;refine eQ O ?_;clear O;exact ⟨(), trivial, Wk.mk' ⟨rfl, rfl, rfl, rfl, rfl, trivial⟩ ⟨rfl, trivial⟩⟩
   ·have hx : b.length <= i := by simp at hx; omega
    refine ak ?_;exact ⟨(), trivial, Wk.mk' ⟨rfl, rfl, rfl, rfl, by rw [i9 hx]; exact pP (by omega), trivial⟩ ⟨rfl, trivial⟩⟩
  rintro - -
  refine gQ fun _ O=>?_;refine Z8 ?_;refine eQ O ?_;clear O;refine bd (α := Unit) (fun _ => mk 44 [(0, V1 (dW a)), (1, V1 (dW b)), (5, ec 5 1 i), (6, dI ((1 - difN a b (i + 1) / 4294967296 ^ (i + 1) : Nat) : Int)), (7, dI i), (8, dI ((q' % 4294967296 : Nat) : Int))] [(5, dJ 1 ((a8 i (difN a b i)).map cW) i)] []) (fun _ => True) ?_ ?_
  ·rw [hbo];refine gQ fun _ O=>?_;refine Z9 ?_;refine Z6 ?_;refine eQ O ?_;clear O;refine ap rfl (fun hx => ?_) (fun hx => ?_)
   ·have hx : (a.getD i 0 : Int) - ((1 - q : Nat) : Int) - b.getD i 0 < 0 := by simpa using hx
    refine gQ fun _ O=>?_;refine Z9 ?_;refine av rfl (aP rfl (by omega)) rfl ?_;refine Z8 ?_;refine eQ O ?_;clear O;refine gR fun _ O=>?_;refine Z8 ?_;refine eQ O ?_;clear O;refine ⟨(), trivial, Wk.mk' ⟨rfl, rfl, rfl, ?_, rfl, ?_, trivial⟩ ⟨rfl, trivial⟩⟩
    ·exact pP (by omega)
    ·exact pP (by omega)
   ·have hx : ¬ (a.getD i 0 : Int) - ((1 - q : Nat) : Int) - b.getD i 0 < 0 := by simpa using hx
    refine ak ?_;refine ⟨(), trivial, Wk.mk' ⟨rfl, rfl, rfl, ?_, rfl, ?_, trivial⟩ ⟨rfl, trivial⟩⟩
    ·exact pP (by omega)
    ·exact pP (by omega)
  rintro - -
  show AWP _ _ _ _ _ (mk 44 [(0, V1 (dW a)), (1, V1 (dW b)), (5, ec 5 1 i), (6, dI ((1 - difN a b (i + 1) / 4294967296 ^ (i + 1) : Nat) : Int)), (7, dI i), (8, dI ((q' % 4294967296 : Nat) : Int))] [(5, dJ 1 ((a8 i (difN a b i)).map cW) i)] [])
  rcases i with _ | i
  ·refine gR fun _ O=>?_;refine Z9 ?_;refine Z9 ?_;refine aV rfl (aW (m := ((q' % 4294967296 : Nat) : Int)) rfl rfl rfl (by rw [ew, Nat.mod_mod])) rfl ?_;refine ax rfl rfl rfl rfl ?_;refine aN rfl (eu rfl rfl rfl rfl rfl (by decide) (Nat.le_of_ble_eq_true rfl) rfl (by simp) rfl (by simp) (by simp)) rfl rfl rfl ?_;refine Z8 ?_;refine eQ O ?_;clear O;show AWP _ _ _ _ _ _;refine gR fun _ O=>?_;refine Z9 ?_;refine av rfl (aP (c := ((0 + 1 : Nat) : Int)) (by omega) (by omega)) rfl ?_;refine Z8 ?_;refine eQ O ?_;clear O;exact ⟨0 + 1, by omega, by omega, Wk.rn [0, 1, 5, 6, 7] [41] 41 5 rfl rfl rfl ⟨rfl, rfl, rfl, rfl, rfl, trivial⟩ ⟨by rw [<- e2]; rfl, trivial⟩⟩
  ·refine gR fun _ O=>?_;refine Z9 ?_;refine Z9 ?_;refine aV rfl (aW (m := ((q' % 4294967296 : Nat) : Int)) rfl rfl rfl (by rw [ew, Nat.mod_mod])) rfl ?_;refine ax rfl rfl rfl rfl ?_;refine aN rfl (et rfl rfl rfl rfl rfl rfl (by decide) (Nat.le_of_ble_eq_true rfl) rfl (by simp) rfl rfl (by simp [aC]) (by simp; omega)) rfl rfl rfl ?_;refine Z8 ?_;refine eQ O ?_;clear O;show AWP _ _ _ _ _ _;refine gR fun _ O=>?_;refine Z9 ?_;refine av rfl (aP (c := ((i + 1 + 1 : Nat) : Int)) (by omega) (by omega)) rfl ?_;refine Z8 ?_;refine eQ O ?_;clear O;refine ⟨i + 1 + 1, by omega, by omega, Wk.rn [0, 1, 5, 6, 7] [41] 41 5 rfl rfl rfl ⟨rfl, rfl, ?_, rfl, rfl, trivial⟩ ⟨by rw [<- e2]; rfl, trivial⟩⟩
   show SV.val (.one (.own 5 1 0 _)) = .val (.one (.own 5 1 0 _))
   simp [aC]
 ·have hg : i = a.length := by simp at hg; omega
  subst hg
  have hw : wv (a8 a.length (difN a b a.length)) = wv a - wv b := by
   rw [ui hl hle, b7, Nat.mod_eq_of_lt (Nat.lt_of_le_of_lt (Nat.sub_le _ _) (ee ha))]
  generalize hal : a.length = i at *;refine aD ?_;show AWP _ _ _ _ _ _
  rcases i with _ | i
  ·have h0 : wv a - wv b = 0 := by
    have : a = [] := List.length_eq_zero_iff.1 hal
    subst this; simp [wv]
   refine gQ fun _ O=>?_;refine Z9 ?_;refine ac rfl rfl (dw [] wOK.nil (by simp)) rfl rfl rfl rfl ?_;refine Z8 ?_;refine eQ O ?_;clear O;exact ah (bz (h3 := by rw [h0]; rfl))
  ·refine dK [5] [5] 5 [(5, V1 (dW (a8 (i + 1) (difN a b (i + 1)))))] [] rfl ?_ trivial ?_
   ·exact ⟨jG rfl (by simp [aC]), trivial⟩
   refine gQ fun _ O=>?_;refine Z9 ?_;refine ac rfl rfl (dw _ (bV _ _) (by rw [aC]; omega)) rfl rfl rfl rfl ?_;refine Z8 ?_;refine eQ O ?_;clear O;exact ah (bz (h3 := by rw [hw]; rfl))
end Go.Proofs.YtceacleokgoooaaGreatDoor

/- The reference's integers: signs, sums, differences. No condition. -/
namespace Go.Proofs.YtceacleokgoooaaGreatDoor
attribute [local irreducible] aF

theorem ic (n : Bool) (w : List Nat) (z : Int) (hw : wOK w) (hl : w.length <= 1073741824) (h : zv n w = z) : Con Tryz.prog 97 [AG (IC n w)] { v := AG (ZC z) } :=
 h ▸ iZ n w hw hl

theorem s8 (n : Bool) (w : List Nat) (hw : wOK w) (hl : w.length <= 1073741824) : Con Tryz.prog 99 [AG (IC n w)] { v := dI (zv n w).sign } := by
 have h0 : wof (wv w) = [] ↔ zv n w = 0 := by rw [em]; unfold zv; split <;> omega
 have hs : (zv n w < 0 -> n = true) /\ (n = true -> zv n w <= 0) := by unfold zv; cases n <;> simp <;> omega
 refine Z3 Tryz.func99 ?_
 intro w0 X
 rw [aq _ _ [(0, AG (IC n w))] rfl rfl];refine gQ fun _ O=>?_;refine aG rfl rfl rfl rfl rfl rfl ?_;refine Z8 ?_;refine eQ O ?_;clear O;refine ag ?_;refine gQ fun _ O=>?_;refine Z5 ?_;refine Z7 ?_;refine ac rfl rfl (dw w hw hl) rfl rfl rfl rfl ?_;refine az rfl (aZ rfl rfl rfl) rfl ?_;refine Z6 ?_;refine eQ O ?_;clear O;refine ap rfl (fun hc => ?_) (fun hc => ?_)
 ·have hc : wof (wv w) = [] := by simpa using hc
  refine gQ fun _ O=>?_;refine Z8 ?_;refine eQ O ?_;clear O;exact ah (bz (h3 := by rw [h0.1 hc]; rfl))
 ·have hc : ¬ zv n w = 0 := by rw [<- h0]; simpa using hc
  refine ak ?_;show AWP _ _ _ _ _ _;refine ag ?_;refine gQ fun _ O=>?_;refine Z5 ?_;refine Z7 ?_;refine eQ O ?_;clear O;refine ap rfl (fun hd => ?_) (fun hd => ?_)
  ·have hd : n = true := hd
   have : zv n w < 0 := by have := hs.2 hd; omega
   refine gQ fun _ O=>?_;refine Z8 ?_;refine eQ O ?_;clear O;exact ah (bz (h3 := by rw [Int.sign_eq_neg_one_of_neg this]; rfl))
  ·have hd : n = false := hd
   have : 0 < zv n w := by
    have := hs.1
    rcases Int.lt_trichotomy (zv n w) 0 with h | h | h
    ·rw [this h] at hd; cases hd
    ·exact absurd h hc
    ·exact h
   refine ak ?_;show AWP _ _ _ _ _ _;refine gQ fun _ O=>?_;refine Z8 ?_;refine eQ O ?_;clear O;exact ah (bz (h3 := by rw [Int.sign_eq_one_of_pos this]; rfl))

theorem wh (n : Bool) (w : List Nat) (hw : wOK w) (hl : w.length <= 1073741824) : Con Tryz.prog 102 [AG (IC n w)] { v := AG (ZC (-(zv n w))) } := by
 refine Z3 Tryz.func102 ?_
 intro w0 X
 rw [aq _ _ [(0, AG (IC n w))] rfl rfl];refine gQ fun _ O=>?_;refine aG rfl rfl rfl rfl rfl rfl ?_;refine aw rfl rfl rfl rfl rfl rfl ?_;refine eQ O ?_;clear O;refine gQ fun _ O=>?_;refine Z5 ?_;refine Z7 ?_;refine dr rfl rfl rfl ?_;refine Z5 ?_;refine Z7 ?_;refine aI rfl rfl rfl ?_;refine ac rfl rfl (ic (!n) w (-(zv n w)) hw hl (by unfold zv; cases n <;> simp)) rfl rfl rfl rfl ?_;refine aj rfl rfl rfl rfl rfl ?_;refine eQ O ?_;clear O;exact ah aT

theorem rF (n : Bool) (w : List Nat) (hw : wOK w) (hl : w.length <= 1073741824) : Con Tryz.prog 127 [AG (IC n w)] { v := AG (ZC ((zv n w).natAbs : Int)) } := by
 refine Z3 Tryz.func127 ?_
 intro w0 X
 rw [aq _ _ [(0, AG (IC n w))] rfl rfl];refine gQ fun _ O=>?_;refine aG rfl rfl rfl rfl rfl rfl ?_;refine aw rfl rfl rfl rfl rfl rfl ?_;refine eQ O ?_;clear O;refine gQ fun _ O=>?_;refine Z5 ?_;refine Z7 ?_;refine aI rfl rfl rfl ?_;refine ac rfl rfl (ic false w ((zv n w).natAbs : Int) hw hl (by rw [bJ]; unfold zv; simp)) rfl rfl rfl rfl ?_;refine aj rfl rfl rfl rfl rfl ?_;refine eQ O ?_;clear O;exact ah aT

theorem wk (na nb : Bool) (wa wb : List Nat) (ha : wOK wa) (hb : wOK wb) (la : wa.length <= 536870912) (lb : wb.length <= 536870912) :
  Con Tryz.prog 133 [AG (IC na wa), AG (IC nb wb)] { v := AG (ZC (zv na wa + zv nb wb)) } := by
 have hla : (wof (zv na wa).natAbs).length <= wa.length := by rw [bJ]; exact bw ha
 have hlb : (wof (zv nb wb).natAbs).length <= wb.length := by rw [bJ]; exact bw hb
 refine Z3 Tryz.func133 ?_
 intro w0 X
 rw [aq _ _ [(0, AG (IC na wa)), (1, AG (IC nb wb))] rfl rfl];refine gQ fun _ O=>?_;refine aG rfl rfl rfl rfl rfl rfl ?_;refine aG rfl rfl rfl rfl rfl rfl ?_;refine aw rfl rfl rfl rfl rfl rfl ?_;refine eQ O ?_;clear O;refine gQ fun _ O=>?_;refine Z7 ?_;refine ac rfl rfl (iZ na wa ha (by omega)) rfl rfl rfl rfl ?_;refine aj rfl rfl rfl rfl rfl ?_;refine eQ O ?_;clear O;refine gQ fun _ O=>?_;refine Z7 ?_;refine ac rfl rfl (iZ nb wb hb (by omega)) rfl rfl rfl rfl ?_;refine aj rfl rfl rfl rfl rfl ?_;refine eQ O ?_;clear O;generalize zv na wa = x at *;generalize zv nb wb = y at *
 have hpl := yo x.natAbs y.natAbs
 unfold wl at hpl
 refine c8 [(2, .ptr 2 0), (3, .ptr 3 0), (4, .ptr 4 0)] [(2, some (.box (ZC x))), (3, some (.box (ZC y))), (4, some (.box [.d (.lit (.bool false)), .nil]))] ⟨rfl, rfl, rfl, trivial⟩ ⟨rfl, rfl, rfl, trivial⟩ ?_;refine ag ?_;refine gQ fun _ O=>?_;refine Z5 ?_;refine Z7 ?_;refine Z5 ?_;refine Z7 ?_;refine Z6 ?_;refine eQ O ?_;clear O;refine ap rfl (fun hc => ?_) (fun hc => ?_)
 ·have hc : (x < 0) ↔ (y < 0) := by simpa using hc
  refine aL tok mixed (A := [[], [], [], [], [], [], [2, 4], [0, 2, 3, 4, 5], [0, 1, 2, 3, 4, 5], []]) (an := [{}, {}, {}, {}, {}, {}, {}, {}, {}, {}]) rfl (by kernel_rfl) rfl fun _ O=>?_;refine Z5 ?_;refine Z7 ?_;refine Z5 ?_;refine Z7 ?_;refine Z5 ?_;refine Z7 ?_;refine ac rfl rfl (nU (wof x.natAbs) (wof y.natAbs) (ay _) (ay _) (by omega) (by omega)) rfl rfl rfl rfl ?_;refine aI rfl rfl rfl ?_;refine ac rfl rfl (ic (decide (x < 0)) _ (x + y) (ay _) (by rw [aE, aE]; omega) (by unfold zv; rw [aE, aE, aE]; by_cases h : x < 0 <;> simp [h] <;> omega)) rfl rfl rfl rfl ?_;refine aj rfl rfl rfl rfl rfl ?_;refine eQ O ?_;clear O;exact ah aT
 ·have hc : ¬ ((x < 0) ↔ (y < 0)) := by simpa using hc
  refine ak ?_;show AWP _ _ _ _ _ _;refine c8 [(2, .ptr 2 0), (3, .ptr 3 0), (4, .ptr 4 0)] [(2, some (.box (ZC x))), (3, some (.box (ZC y))), (4, some (.box [.d (.lit (.bool false)), .nil]))] ⟨rfl, rfl, rfl, trivial⟩ ⟨rfl, rfl, rfl, trivial⟩ ?_;refine ag ?_;refine gQ fun _ O=>?_;refine Z5 ?_;refine Z7 ?_;refine Z5 ?_;refine Z7 ?_;refine ac rfl rfl (nT (wof x.natAbs) (wof y.natAbs) (ay _) (ay _) (b9 _) (b9 _) (by omega) (by omega)) rfl rfl rfl rfl ?_;refine Z6 ?_;refine eQ O ?_;clear O;refine ap rfl (fun hd => ?_) (fun hd => ?_)
  ·have hd : x.natAbs < y.natAbs := by have := iC.1 (of_decide_eq_true hd); rwa [aE, aE] at this
   have hle : (wof x.natAbs).length <= (wof y.natAbs).length := bM (by omega)
   have hsl : (wof (y.natAbs - x.natAbs)).length <= (wof y.natAbs).length := bM (by omega)
   refine aL tok mixed (A := [[], [], [], [], [], [], [2, 4], [0, 2, 3, 4, 5], [0, 1, 2, 3, 4, 5], []]) (an := [{}, {}, {}, {}, {}, {}, {}, {}, {}, {}]) rfl (by kernel_rfl) rfl fun _ O=>?_;refine Z5 ?_;refine Z7 ?_;refine Z5 ?_;refine Z7 ?_;refine Z5 ?_;refine Z7 ?_;refine ac rfl rfl (lM (wof y.natAbs) (wof x.natAbs) (ay _) (ay _) (by omega) hle (by rw [aE, aE]; omega)) rfl rfl rfl rfl ?_;refine aI rfl rfl rfl ?_;refine ac rfl rfl (ic (decide (y < 0)) _ (x + y) (ay _) (by rw [aE, aE]; omega) (by unfold zv; rw [aE, aE, aE]; by_cases h : y < 0 <;> simp [h] <;> omega)) rfl rfl rfl rfl ?_;refine aj rfl rfl rfl rfl rfl ?_;refine eQ O ?_;clear O;exact ah aT
  ·have hd : y.natAbs <= x.natAbs := by have := mt iC.2 (of_decide_eq_false hd); rw [aE, aE] at this; omega
   have hle : (wof y.natAbs).length <= (wof x.natAbs).length := bM (by omega)
   have hsl : (wof (x.natAbs - y.natAbs)).length <= (wof x.natAbs).length := bM (by omega)
   refine ak ?_;show AWP _ _ _ _ _ _;refine c8 [(2, .ptr 2 0), (3, .ptr 3 0), (4, .ptr 4 0)] [(2, some (.box (ZC x))), (3, some (.box (ZC y))), (4, some (.box [.d (.lit (.bool false)), .nil]))] ⟨rfl, rfl, rfl, trivial⟩ ⟨rfl, rfl, rfl, trivial⟩ ?_;refine aL tok mixed (A := [[], [], [], [], [], [], [2, 4], [0, 2, 3, 4, 5], [0, 1, 2, 3, 4, 5], []]) (an := [{}, {}, {}, {}, {}, {}, {}, {}, {}, {}]) rfl (by kernel_rfl) rfl fun _ O=>?_;refine Z5 ?_;refine Z7 ?_;refine Z5 ?_;refine Z7 ?_;refine Z5 ?_;refine Z7 ?_;refine ac rfl rfl (lM (wof x.natAbs) (wof y.natAbs) (ay _) (ay _) (by omega) hle (by rw [aE, aE]; omega)) rfl rfl rfl rfl ?_;refine aI rfl rfl rfl ?_;refine ac rfl rfl (ic (decide (x < 0)) _ (x + y) (ay _) (by rw [aE, aE]; omega) (by unfold zv; rw [aE, aE, aE]; by_cases h : x < 0 <;> simp [h] <;> omega)) rfl rfl rfl rfl ?_;refine aj rfl rfl rfl rfl rfl ?_;refine eQ O ?_;clear O;exact ah aT

theorem BC (na nb : Bool) (wa wb : List Nat) (ha : wOK wa) (hb : wOK wb) (la : wa.length <= 536870912) (lb : wb.length <= 536870912) :
  Con Tryz.prog 134 [AG (IC na wa), AG (IC nb wb)] { v := AG (ZC (zv na wa - zv nb wb)) } := by
 have hlb : (wof (-(zv nb wb)).natAbs).length <= wb.length := by rw [Int.natAbs_neg, bJ]; exact bw hb
 have hz : zv na wa + zv (decide (-(zv nb wb) < 0)) (wof (-(zv nb wb)).natAbs) = zv na wa - zv nb wb := by rw [bu]; omega
 refine Z3 Tryz.func134 ?_
 intro w0 X
 rw [aq _ _ [(0, AG (IC na wa)), (1, AG (IC nb wb))] rfl rfl];refine gQ fun _ O=>?_;refine aG rfl rfl rfl rfl rfl rfl ?_;refine aG rfl rfl rfl rfl rfl rfl ?_;refine aw rfl rfl rfl rfl rfl rfl ?_;refine eQ O ?_;clear O;refine aL tok mixed (A := [[], [], [], [1], []]) (an := [{}, {}, {}, {}, {}]) rfl (by kernel_rfl) rfl fun _ O=>?_;refine Z7 ?_;refine Z7 ?_;refine ac rfl rfl (wh nb wb hb (by omega)) rfl rfl rfl rfl ?_;refine ac rfl rfl (hz ▸ wk na (decide (-(zv nb wb) < 0)) wa (wof (-(zv nb wb)).natAbs) ha (ay _) la (by omega)) rfl rfl rfl rfl ?_;refine aj rfl rfl rfl rfl rfl ?_;refine eQ O ?_;clear O;exact ah aT
end Go.Proofs.YtceacleokgoooaaGreatDoor

/- The reference's integers: products, division bit by bit. No condition. -/
namespace Go.Proofs.YtceacleokgoooaaGreatDoor
attribute [local irreducible] aF

theorem tm (k : Nat) : 4294967296 ^ k = 2 ^ (32 * k) := by rw [show 4294967296 = 2 ^ 32 from rfl, <- Nat.pow_mul]
theorem mA (i : Nat) : 2 ^ i = 4294967296 ^ (i / 32) * 2 ^ (i % 32) := by rw [tm, <- Nat.pow_add, Nat.div_add_mod]
theorem AP {m : List Nat} (hm : wOK m) (i : Nat) : m.getD (i / 32) 0 / 2 ^ (i % 32) % 2 = wv m / 2 ^ i % 2 := by
 rw [kE hm, mA i, <- Nat.div_div_eq_div_mul];generalize wv m / 4294967296 ^ (i / 32) = y
 have hs : i % 32 < 32 := Nat.mod_lt _ (by decide)
 generalize i % 32 = s at *
 have e : 4294967296 = 2 ^ s * (2 * 2 ^ (31 - s)) := by
  rw [<- Nat.pow_succ', <- Nat.pow_add, show s + (31 - s + 1) = 32 from by omega]
 rw [e, Nat.mod_mul_right_div_self, Nat.mod_mul_right_mod]

theorem BA (m : List Nat) (i : Nat) (hm : wOK m) (lm : m.length <= 1073741824) (hi : i <= 9223372036854775807) :
  Con Tryz.prog 156 [V1 (dW m), dI i] { v := dU (wv m / 2 ^ i % 2) } := by
 refine Z3 Tryz.func156 ?_
 intro w0 X
 rw [aq _ _ [(0, V1 (dW m)), (1, dI i)] rfl rfl];refine gQ fun _ O=>?_;refine Z8 ?_;refine eQ O ?_;clear O;refine ag ?_;refine gQ fun _ O=>?_;refine Z9 ?_;refine av rfl (sq (y := 32) (by omega) hi rfl) rfl ?_;refine Z9 ?_;refine az rfl (aZ rfl rfl rfl) rfl ?_;refine Z6 ?_;refine eQ O ?_;clear O;refine ap rfl (fun hc => ?_) (fun hc => ?_)
 ·have hc : m.length <= i / 32 := by simp at hc; omega
  have h0 : wv m / 2 ^ i = 0 := by
   refine Nat.div_eq_of_lt (Nat.lt_of_lt_of_le (ee hm) ?_);rw [tm]; exact Nat.pow_le_pow_right (by decide) (by omega)
  refine gQ fun _ O=>?_;refine Z8 ?_;refine eQ O ?_;clear O;exact ah (bz (h3 := by rw [h0]; rfl))
 ·have hc : i / 32 < m.length := by simp at hc; omega
  refine ak ?_;show AWP _ _ _ _ _ _;refine gQ fun _ O=>?_;refine Z9 ?_;refine Z9 ?_;refine av rfl (sq (y := 32) (by omega) hi rfl) rfl ?_;refine ae rfl (im (i := i / 32) rfl rfl rfl rfl rfl hc) rfl ?_;refine Z7 ?_;refine Z9 ?_;refine av rfl (Au (y := 32) (by omega) hi rfl) rfl ?_;refine aV rfl (aW rfl rfl rfl (dm (by omega))) rfl ?_;refine av rfl (pH (s := i % 32) (by omega) rfl) rfl ?_;refine av rfl (mK (y := 2) (by omega) rfl) rfl ?_;refine Z8 ?_;refine eQ O ?_;clear O;exact ah (bz (h3 := by rw [AP hm]; rfl))

theorem AQ {A B n : Nat} (hB : 0 < B) : (2 * (A / 2 ^ (n + 1) % B) + A / 2 ^ n % 2) / B + 2 * (A / 2 ^ (n + 1) / B) = A / 2 ^ n / B /\ (2 * (A / 2 ^ (n + 1) % B) + A / 2 ^ n % 2) % B = A / 2 ^ n % B := by
 have e : A / 2 ^ (n + 1) = A / 2 ^ n / 2 := by rw [Nat.pow_succ, Nat.div_div_eq_div_mul]
 rw [e];generalize A / 2 ^ n = y
 have h := Nat.div_add_mod (y / 2) B
 have h2 := Nat.div_add_mod y 2
 generalize y / 2 / B = q at *;generalize y / 2 % B = r at *;generalize y / 2 = x at *;generalize y % 2 = b at *
 have : y = (2 * r + b) + B * (2 * q) := by grind
 rw [this, Nat.add_mul_div_left _ _ hB, Nat.add_mul_mod_self_left];exact ⟨rfl, rfl⟩
structure BQ (A B L n : Nat) (q : List Nat) : Prop where
 ok : wOK q
 len : q.length = L
 val : wv q = A / 2 ^ n / B * 2 ^ n
theorem BQ.zero {A B L n : Nat} {q : List Nat} (h : BQ A B L (n + 1) q) (h0 : A / 2 ^ n / B = 2 * (A / 2 ^ (n + 1) / B)) : BQ A B L n q :=
 ⟨h.ok, h.len, by rw [h.val, h0, Nat.pow_succ]; grind⟩
theorem BQ.one {A B L n : Nat} {q : List Nat} (h : BQ A B L (n + 1) q) (h0 : A / 2 ^ n / B = 1 + 2 * (A / 2 ^ (n + 1) / B)) (hn : n / 32 < L) :
  BQ A B L n (q.set (n / 32) ((q.getD (n / 32) 0 + 1 * 2 ^ (n % 32) % 4294967296) % 4294967296)) := by
 have hs : n % 32 < 32 := Nat.mod_lt _ (by decide)
 have hp : 1 * 2 ^ (n % 32) % 4294967296 = 2 ^ (n % 32) := by
  rw [Nat.one_mul, Nat.mod_eq_of_lt];exact Nat.pow_lt_pow_right (by decide) hs
 have hw : q.getD (n / 32) 0 % 2 ^ (n % 32 + 1) = 0 := by
  rw [kE h.ok, h.val]
  have e1 : A / 2 ^ (n + 1) / B * 2 ^ (n + 1) / 4294967296 ^ (n / 32) = A / 2 ^ (n + 1) / B * 2 ^ (n % 32 + 1) := by
   rw [Nat.pow_succ, mA n, Nat.pow_succ]
   have : A / (4294967296 ^ (n / 32) * 2 ^ (n % 32) * 2) / B * (4294967296 ^ (n / 32) * 2 ^ (n % 32) * 2) = A / (4294967296 ^ (n / 32) * 2 ^ (n % 32) * 2) / B * (2 ^ (n % 32) * 2) * 4294967296 ^ (n / 32) := by
    generalize A / (4294967296 ^ (n / 32) * 2 ^ (n % 32) * 2) / B = z;generalize 2 ^ (n % 32) = y;generalize 4294967296 ^ (n / 32) = x
    grind
   rw [this, Nat.mul_div_cancel _ (pow_pos _)]
  rw [e1]
  have e2 : 4294967296 = 2 ^ (n % 32 + 1) * 2 ^ (31 - n % 32) := by rw [<- Nat.pow_add, show n % 32 + 1 + (31 - n % 32) = 32 from by omega]
  rw [e2, Nat.mod_mul_right_mod, Nat.mul_mod_left]
 have hlt : q.getD (n / 32) 0 + 2 ^ (n % 32) < 4294967296 := by
  have h1 := ba h.ok (n / 32)
  obtain ⟨z, hz⟩ := Nat.dvd_of_mod_eq_zero hw
  rw [hz] at h1 ⊢
  have e2 : 4294967296 = 2 ^ (n % 32 + 1) * 2 ^ (31 - n % 32) := by rw [<- Nat.pow_add, show n % 32 + 1 + (31 - n % 32) = 32 from by omega]
  have h2 : z < 2 ^ (31 - n % 32) := Nat.lt_of_mul_lt_mul_left (a := 2 ^ (n % 32 + 1)) (by rw [<- e2]; exact h1)
  have h3 : 2 ^ (n % 32 + 1) * (z + 1) <= 2 ^ (n % 32 + 1) * 2 ^ (31 - n % 32) := Nat.mul_le_mul_left _ h2
  rw [<- e2, Nat.mul_succ, Nat.pow_succ] at h3
  have h4 : 0 < 2 ^ (n % 32) := Nat.two_pow_pos _
  rw [Nat.pow_succ]; omega
 rw [hp, Nat.mod_eq_of_lt hlt];refine ⟨h.ok.set _ hlt, by rw [List.length_set]; exact h.len, ?_⟩
 have hsv := io (a := q) (i := n / 32) (by rw [h.len]; exact hn) (q.getD (n / 32) 0 + 2 ^ (n % 32))
 have hv := h.val
 rw [h0, Nat.add_mul, Nat.one_mul];rw [Nat.add_mul] at hsv
 have hps := mA n
 rw [Nat.mul_comm (4294967296 ^ (n / 32))] at hps;rw [<- hps] at hsv;rw [Nat.pow_succ] at hv
 have : A / 2 ^ (n + 1) / B * (2 ^ n * 2) = 2 * (A / 2 ^ (n + 1) / B) * 2 ^ n := by
  generalize A / 2 ^ (n + 1) / B = z; grind
 rw [Nat.pow_succ] at this;rw [this] at hv;rw [Nat.pow_succ]
 omega

theorem uP (a b : List Nat) (ha : wOK a) (hb : wOK b) (tb : jM b) (h0 : 0 < wv b) (la : a.length <= 268435456) (lb : b.length <= 268435456) :
  Con Tryz.prog 132 [V1 (dW a), V1 (dW b)] { v := .tup [.one (.d (dW (wof (wv a / wv b)))), .one (.d (dW (wof (wv a % wv b))))] } := by
 have hrl : ∀ n, n < 2 * wv b -> (wof n).length <= b.length + 1 := by
  intro n hn
  have h1 := ee hb
  refine qj ?_;rw [Nat.pow_succ]; omega
 have hbw : b = wof (wv b) := sM hb (ay _) tb (b9 _) (aE _).symm
 refine Z3 Tryz.func132 ?_
 intro w0 X
 rw [aq _ _ [(0, V1 (dW a)), (1, V1 (dW b))] rfl rfl];refine gQ fun _ O=>?_;refine Z8 ?_;refine Z8 ?_;refine eQ O ?_;clear O;refine gQ fun _ O=>?_;refine Z9 ?_;refine az rfl (aZ rfl rfl rfl) rfl ?_;refine bP (sz := _) (es := _) (f := _) (v := _) rfl (tE (l := a.length) (c := a.length) rfl rfl rfl rfl rfl (Nat.le_of_ble_eq_true rfl) rfl rfl (by omega) (by omega)) rfl rfl ?_;refine Z8 ?_;refine eQ O ?_;clear O;refine gQ fun _ O=>?_;refine Z8 ?_;refine eQ O ?_;clear O;refine ag ?_;refine gQ fun _ O=>?_;refine Z9 ?_;refine az rfl (aZ rfl rfl rfl) rfl ?_;refine av rfl (uf (c := ((32 * a.length : Nat) : Int)) (by omega) (by omega)) rfl ?_;refine av rfl (bZ rfl (by omega)) rfl ?_;refine Z8 ?_;refine eQ O ?_;clear O;refine al (aS (α := Nat × List Nat) (fun p => mk 54 [(7, V1 (dW (wof (wv a / 2 ^ p.1 % wv b)))), (0, V1 (dW a)), (1, V1 (dW b)), (6, .val (.one (.own 11 1 0 a.length))), (8, dI ((p.1 : Int) - 1))] [(11, some (.arr 1 (p.2.map cW)))] []) (fun p => p.1 <= 32 * a.length /\ BQ (wv a) (wv b) a.length p.1 p.2) (fun p => p.1) (32 * a.length, List.replicate a.length 0) ?_ ⟨Nat.le_refl _, ?_⟩ ?_)
 ·have hz : wv a / 2 ^ (32 * a.length) = 0 := by rw [<- tm]; exact Nat.div_eq_of_lt (ee ha)
  simp only [hz, Nat.zero_mod];exact Wk.trans (Wk.mk' (E' := [(7, .val (.one .nil)), (0, V1 (dW a)), (1, V1 (dW b)), (6, .val (.one (.own 11 1 0 a.length))), (8, dI (((32 * a.length : Nat) : Int) - 1))]) (S' := [(11, some (.arr 1 ((List.replicate a.length 0).map cW)))]) ⟨rfl, rfl, rfl, rfl, rfl, trivial⟩ ⟨rfl, trivial⟩) Wk.nilD
 ·have hz : wv a / 2 ^ (32 * a.length) = 0 := by rw [<- tm]; exact Nat.div_eq_of_lt (ee ha)
  exact ⟨wOK.rep0 _, by simp, by simp only; rw [hz, j8]; simp⟩
 rintro ⟨m, q⟩ ⟨hm, hbq⟩
 simp only at hm hbq
 show AWP _ _ _ _ _ (mk 54 [(7, V1 (dW (wof (wv a / 2 ^ m % wv b)))), (0, V1 (dW a)), (1, V1 (dW b)), (6, .val (.one (.own 11 1 0 a.length))), (8, dI ((m : Int) - 1))] [(11, some (.arr 1 (q.map cW)))] [])
 have hql := hbq.len
 refine ag ?_;refine gQ fun _ O=>?_;refine Z9 ?_;refine Z6 ?_;refine eQ O ?_;clear O;refine ap rfl (fun hg => ?_) (fun hg => ?_)
 ·obtain ⟨i, rfl⟩ : ∃ i, m = i + 1 := ⟨m - 1, by simp at hg; omega⟩
  obtain ⟨s1, s2⟩ := AQ (A := wv a) (B := wv b) (n := i) h0
  have hr := Nat.mod_lt (wv a / 2 ^ (i + 1)) h0
  have hbit : wv a / 2 ^ i % 2 < 2 := Nat.mod_lt _ (by decide)
  generalize hx : wv a / 2 ^ (i + 1) % wv b = r at *;generalize hy : wv a / 2 ^ i % 2 = bt at *;refine ak ?_;show AWP _ _ _ _ _ _;refine ag ?_;refine al ?_;refine c8 [(0, V1 (dW a)), (1, V1 (dW b)), (6, .val (.one (.own 11 1 0 a.length))), (7, V1 (dW (wof r))), (8, dI i)] [(11, some (.arr 1 (q.map cW)))] ⟨rfl, rfl, rfl, rfl, pP (by omega), trivial⟩ ⟨rfl, trivial⟩ ?_
  have l1 := hrl r (by omega)
  refine gQ fun _ O=>?_;refine Z9 ?_;refine Z9 ?_;refine ac rfl rfl (nU (wof r) (wof r) (ay _) (ay _) (by omega) (by omega)) rfl rfl rfl rfl ?_;refine Z8 ?_;refine eQ O ?_;clear O;refine bd (α := Unit) (fun _ => mk 54 [(0, V1 (dW a)), (1, V1 (dW b)), (6, .val (.one (.own 11 1 0 a.length))), (7, V1 (dW (wof (2 * r + bt)))), (8, dI i)] [(11, some (.arr 1 (q.map cW)))] []) (fun _ => True) ?_ ?_
  ·have l2 := hrl (r + r) (by omega)
   have e2 : wv (wof r) + wv (wof r) = r + r := by rw [aE]
   refine gQ fun _ O=>?_;refine Z9 ?_;refine Z9 ?_;refine ac rfl rfl (hy ▸ BA a i ha (by omega) (by omega)) rfl rfl rfl rfl ?_;refine Z6 ?_;refine eQ O ?_;clear O;refine ap rfl (fun hc => ?_) (fun hc => ?_)
   ·have hc : bt = 1 := by simp at hc; omega
    subst hc
    refine dx fun _ O=>?_;refine aa tok rfl ?_;refine Z9 ?_;refine ab ?_;refine aa tok rfl ?_;refine ax rfl rfl rfl rfl ?_;refine ab ?_;refine uy (Wk.fzNew rfl rfl rfl) ?_;refine aa tok rfl ?_;refine ac rfl rfl (nU (wof (wv (wof r) + wv (wof r))) [1] (ay _) (wOK.one (by decide)) (by rw [e2]; omega) (by simp)) rfl rfl rfl rfl ?_;refine ab ?_;refine aa tok rfl ?_;refine Z8 ?_;refine ab ?_;refine aM rfl (O _ ?_); clear O;refine ⟨(), trivial, Wk.mk' ⟨rfl, rfl, rfl, ?_, rfl, trivial⟩ ⟨rfl, trivial⟩⟩
    show V1 (dW _) = V1 (dW _)
    rw [aE, e2, show wv [1] = 1 from rfl, show r + r + 1 = 2 * r + 1 from by omega]
   ·have hc : bt = 0 := by simp at hc; omega
    subst hc
    refine ak ?_;refine ⟨(), trivial, Wk.mk' ⟨rfl, rfl, rfl, ?_, rfl, trivial⟩ ⟨rfl, trivial⟩⟩
    show V1 (dW _) = V1 (dW _)
    rw [e2, show r + r = 2 * r + 0 from by omega]
  rintro - -
  show AWP _ _ _ _ _ (mk 54 [(0, V1 (dW a)), (1, V1 (dW b)), (6, .val (.one (.own 11 1 0 a.length))), (7, V1 (dW (wof (2 * r + bt)))), (8, dI i)] [(11, some (.arr 1 (q.map cW)))] [])
  have l3 := hrl (2 * r + bt) (by omega)
  refine gQ fun _ O=>?_;refine Z9 ?_;refine Z9 ?_;refine ac rfl rfl (nT (wof (2 * r + bt)) b (ay _) hb (b9 _) tb (by omega) (by omega)) rfl rfl rfl rfl ?_;refine Z6 ?_;refine eQ O ?_;clear O;refine ap rfl (fun hc => ?_) (fun hc => ?_)
  ·have hc : wv b <= 2 * r + bt := by
    have h1 := of_decide_eq_true hc
    have := mt (iC (m := wv (wof (2 * r + bt))) (n := wv b)).2 (by omega)
    rw [aE] at this; omega
   have hd1 : (2 * r + bt) / wv b = 1 := Nat.div_eq_of_lt_le (by omega) (by omega)
   have hd2 : (2 * r + bt) % wv b = 2 * r + bt - wv b := by rw [Nat.mod_eq_sub_mod hc, Nat.mod_eq_of_lt (by omega)]
   rw [hd1] at s1;rw [hd2] at s2
   have hbl : b.length <= (wof (2 * r + bt)).length := by
    have := bM hc
    unfold wl at this
    rwa [<- hbw] at this
   have hi32 : i / 32 < q.length := by omega
   refine gQ fun _ O=>?_;refine Z9 ?_;refine Z9 ?_;refine ac rfl rfl (lM (wof (2 * r + bt)) b (ay _) hb (by omega) hbl (by rw [aE]; exact hc)) rfl rfl rfl rfl ?_;refine Z8 ?_;refine eQ O ?_;clear O;refine gR fun _ O=>?_;refine Z9 ?_;refine Z9 ?_;refine av rfl (sq (y := 32) (by omega) (by omega) rfl) rfl ?_;refine Z9 ?_;refine Z9 ?_;refine av rfl (sq (y := 32) (by omega) (by omega) rfl) rfl ?_;refine ae rfl (x_o (i := i / 32) (j := i / 32) rfl rfl rfl rfl rfl (by omega) (by omega)) rfl ?_;refine bb rfl (lV rfl rfl rfl rfl hi32) rfl ?_;refine Z9 ?_;refine av rfl (Au (y := 32) (by omega) (by omega) rfl) rfl ?_;refine aV rfl (aW rfl rfl rfl (dm (by omega))) rfl ?_;refine av rfl (As (x := 1) (s := i % 32) (by omega) rfl) rfl ?_;refine av rfl (vt rfl) rfl ?_;refine ae rfl (x_o (i := i / 32) (j := i / 32) rfl rfl rfl rfl rfl (by omega) (by omega)) rfl ?_;refine aj rfl (lB rfl rfl rfl hi32) rfl rfl rfl ?_;refine eQ O ?_;clear O;show AWP _ _ _ _ _ _;refine gR fun _ O=>?_;refine Z9 ?_;refine av rfl (bZ rfl (by omega)) rfl ?_;refine Z8 ?_;refine eQ O ?_;clear O;refine ⟨(i, _), by simp only; omega, ⟨by simp only; omega, hbq.one s1.symm (by omega)⟩, Wk.mk' ⟨?_, rfl, rfl, rfl, rfl, trivial⟩ ⟨rfl, trivial⟩⟩
   show V1 (dW _) = V1 (dW _)
   rw [aE, s2]
  ·have hc : 2 * r + bt < wv b := by
    have h1 := of_decide_eq_false hc
    have := (iC (m := wv (wof (2 * r + bt))) (n := wv b)).1 (by omega)
    rwa [aE] at this
   have hd1 : (2 * r + bt) / wv b = 0 := Nat.div_eq_of_lt hc
   have hd2 : (2 * r + bt) % wv b = 2 * r + bt := Nat.mod_eq_of_lt hc
   rw [hd1, Nat.zero_add] at s1;rw [hd2] at s2;refine ak ?_;show AWP _ _ _ _ _ _;refine gR fun _ O=>?_;refine Z9 ?_;refine av rfl (bZ rfl (by omega)) rfl ?_;refine Z8 ?_;refine eQ O ?_;clear O;refine ⟨(i, q), by simp only; omega, ⟨by simp only; omega, hbq.zero s1.symm⟩, Wk.mk' ⟨?_, rfl, rfl, rfl, rfl, trivial⟩ ⟨rfl, trivial⟩⟩
   show V1 (dW _) = V1 (dW _)
   rw [s2]
 ·have hm0 : m = 0 := by simp at hg; omega
  subst hm0
  have hv := hbq.val
  simp only [Nat.pow_zero, Nat.div_one, Nat.mul_one] at hv;refine aD ?_;show AWP _ _ _ _ _ _;refine dK [6, 7] [11] 11 [(6, V1 (dW q)), (7, V1 (dW (wof (wv a / 2 ^ 0 % wv b))))] [] rfl ?_ trivial ?_
  ·exact ⟨jG rfl (by omega), rfl, trivial⟩
  refine gQ fun _ O=>?_;refine Z9 ?_;refine ac rfl rfl (dw q hbq.ok (by omega)) rfl rfl rfl rfl ?_;refine Z9 ?_;refine Z8 ?_;refine Z8 ?_;refine eQ O ?_;clear O;exact ah (bz (h3 := by rw [hv, Nat.pow_zero, Nat.div_one]; rfl))
end Go.Proofs.YtceacleokgoooaaGreatDoor

/- The reference's integers: halves, quotients, the greatest common divisor. No condition. -/
namespace Go.Proofs.YtceacleokgoooaaGreatDoor
attribute [local irreducible] aF

theorem Ec (n : Nat) : ZC (n : Int) = IC false (wof n) := by
 unfold ZC
 rw [Int.natAbs_natCast, decide_eq_false (by omega)]
theorem wD {m n : Nat} : gT m n = 0 ↔ m = n := by
 unfold gT
 by_cases h : m < n
 ·simp [h]; omega
 ·rw [if_neg h]; split <;> omega
theorem wC {m n : Nat} : gT m n > 0 ↔ n < m := by
 unfold gT
 by_cases h : m < n
 ·simp [h]; omega
 ·rw [if_neg h]; split <;> omega
theorem lh (X : Nat) : (wof X).getD 0 0 % 2 = X % 2 := by
 rw [kE (ay X), aE, Nat.pow_zero, Nat.div_one]; omega
theorem nN {X : Nat} (h : 0 < X) : 0 < (wof X).length := by
 rw [List.length_pos_iff, ne_eq, em]; omega
theorem tS {X Y : Nat} (hx : X % 2 = 0) (hy : Y % 2 = 1) : Nat.gcd (X / 2) Y = Nat.gcd X Y := by
 have hc : Nat.Coprime 2 Y := by unfold Nat.Coprime; rw [Nat.gcd_rec, hy]; rfl
 have : X = 2 * (X / 2) := by omega
 conv => rhs; rw [this]
 exact (Nat.Coprime.gcd_mul_left_cancel _ hc).symm

theorem lN (m : List Nat) (hm : wOK m) (lm : m.length <= 1073741824) : Con Tryz.prog 128 [V1 (dW m)] { v := V1 (dW (wof (wv m / 2))) } := by
 refine Z3 Tryz.func128 ?_
 intro w0 X
 rw [aq _ _ [(0, V1 (dW m))] rfl rfl];refine gQ fun _ O=>?_;refine Z8 ?_;refine eQ O ?_;clear O;refine gQ fun _ O=>?_;refine ax rfl rfl rfl rfl ?_;refine Z9 ?_;refine aN rfl (et (es := []) rfl rfl rfl rfl rfl rfl (by decide) (Nat.le_of_ble_eq_true rfl) rfl sy rfl rfl rfl (by simp; omega)) rfl rfl rfl ?_;refine Z8 ?_;refine eQ O ?_;clear O;refine ag ?_;refine gQ fun _ O=>?_;refine Z8 ?_;refine eQ O ?_;clear O;refine al (aS (α := Nat × List Nat) (fun p => mk 44 [(0, V1 (dW m)), (3, .val (.one (.own 7 1 0 m.length))), (4, dI p.1)] [(7, some (.arr 1 (p.2.map cW)))] []) (fun p => p.1 <= m.length /\ p.2.length = m.length /\ ∀ k, p.2.getD k 0 = if k < p.1 then wv m / 2 / 4294967296 ^ k % 4294967296 else m.getD k 0) (fun p => m.length - p.1) (0, m) ?_ ⟨Nat.zero_le _, rfl, fun k => by simp⟩ ?_)
 ·refine Wk.mk' ⟨rfl, ?_, rfl, trivial⟩ ⟨rfl, trivial⟩
  show SV.val (.one (.own 7 1 0 _)) = _
  simp
 rintro ⟨i, o⟩ ⟨hi, hol, ho⟩
 simp only at hi hol ho
 show AWP _ _ _ _ _ (mk 44 [(0, V1 (dW m)), (3, .val (.one (.own 7 1 0 m.length))), (4, dI i)] [(7, some (.arr 1 (o.map cW)))] []);refine ag ?_;refine gQ fun _ O=>?_;refine Z9 ?_;refine Z9 ?_;refine az rfl rfl rfl ?_;refine Z6 ?_;refine eQ O ?_;clear O;refine ap rfl (fun hc => ?_) (fun hc => ?_)
 ·have hc : i < m.length := by simp at hc; omega
  have hoi := ho i
  rw [if_neg (by omega)] at hoi
  have hdig := qu (n := 1) (by omega) i hm
  have hx0 := ba hm i
  have hx1 := ba hm (i + 1)
  rw [Nat.pow_one] at hdig
  have hdig' : m.getD i 0 / 2 + m.getD (i + 1) 0 % 2 * 2147483648 = wv m / 2 / 4294967296 ^ i % 4294967296 := by rw [<- hdig]; omega
  refine ak ?_;show AWP _ _ _ _ _ _;refine ag ?_;refine al ?_;refine gQ fun _ O=>?_;refine Z9 ?_;refine Z9 ?_;refine Z9 ?_;refine Z9 ?_;refine ae rfl (x_o (i := i) (j := i) rfl rfl rfl rfl rfl hc (by omega)) rfl ?_;refine bb rfl ((lV rfl rfl rfl rfl (by omega)).trans (by rw [hoi])) rfl ?_;refine av rfl (pH (s := 1) (by omega) rfl) rfl ?_;refine ae rfl (x_o (i := i) (j := i) rfl rfl rfl rfl rfl hc (by omega)) rfl ?_;refine aj rfl (lB rfl rfl rfl (by omega)) rfl rfl rfl ?_;refine eQ O ?_;clear O
  have hset : ∀ (y z : Nat), (o.set i y).set i z = o.set i z := fun y z => by simp
  have hnew : ∀ z, z = wv m / 2 / 4294967296 ^ i % 4294967296 -> ∀ k, (o.set i z).getD k 0 = if k < i + 1 then wv m / 2 / 4294967296 ^ k % 4294967296 else m.getD k 0 := by
   intro z hz k
   rw [e6 _ _ _ _ (by omega)]
   by_cases hk : k = i
   ·rw [if_pos hk, if_pos (by omega), hz, hk]
   ·rw [if_neg hk, ho k]
    by_cases hk2 : k < i
    ·rw [if_pos hk2, if_pos (by omega)]
    ·rw [if_neg hk2, if_neg (by omega)]
  refine gQ fun _ O=>?_;refine Z9 ?_;refine av rfl (aP (c := ((i + 1 : Nat) : Int)) (by omega) (by omega)) rfl ?_;refine Z9 ?_;refine az rfl (aZ rfl rfl rfl) rfl ?_;refine Z6 ?_;refine eQ O ?_;clear O;refine ap rfl (fun hd => ?_) (fun hd => ?_)
  ·have hd : i + 1 < m.length := by simp at hd; omega
   refine c8 [(0, V1 (dW m)), (3, .val (.one (.own 7 1 0 m.length))), (4, dI i)] [(7, some (.arr 1 ((o.set i (m.getD i 0 / 2)).map cW)))] ⟨rfl, rfl, rfl, trivial⟩ ⟨rfl, trivial⟩ ?_
   have hgi : (o.set i (m.getD i 0 / 2)).getD i 0 = m.getD i 0 / 2 := by rw [e6 _ _ _ _ (by omega), if_pos rfl]
   refine br tok mixed (A := [[], [], [], [], [], [2, 3], [], [], [], [7], [6, 7, 8], [6, 7, 8, 9], [6, 7, 8, 9, 10], [2, 3, 4, 6, 7, 8, 9, 10, 11], [], []]) (an := [{}, {}, {}, {}, {}, {}, {}, {}, {}, {}, {}, {}, {}, {}, {}, {}]) rfl (by kernel_rfl) rfl fun _ O=>?_;refine Z9 ?_;refine Z9 ?_;refine Z9 ?_;refine Z9 ?_;refine ae rfl (x_o (i := i) (j := i) rfl rfl rfl rfl rfl hc (by omega)) rfl ?_;refine bb rfl ((lV rfl rfl rfl rfl (by rw [List.length_set]; omega)).trans (by rw [hgi])) rfl ?_;refine Z9 ?_;refine Z9 ?_;refine av rfl (aP (c := ((i + 1 : Nat) : Int)) (by omega) (by omega)) rfl ?_;refine ae rfl (im (i := i + 1) rfl rfl rfl rfl rfl hd) rfl ?_;refine Z7 ?_;refine av rfl (mK (y := 2) (by omega) rfl) rfl ?_;refine av rfl (As (s := 31) (z := m.getD (i + 1) 0 % 2 * 2147483648) (by omega) (by show m.getD (i + 1) 0 % 2 * 2147483648 % 4294967296 = _; omega)) rfl ?_;refine av rfl (vt (z := wv m / 2 / 4294967296 ^ i % 4294967296) (by rw [hdig', Nat.mod_mod])) rfl ?_;refine ae rfl (x_o (i := i) (j := i) rfl rfl rfl rfl rfl hc (by omega)) rfl ?_;refine aj rfl (lB rfl rfl rfl (by rw [List.length_set]; omega)) rfl rfl rfl ?_;refine eQ O ?_;clear O;show AWP _ _ _ _ _ _;refine gR fun _ O=>?_;refine Z9 ?_;refine av rfl (aP (c := ((i + 1 : Nat) : Int)) (by omega) (by omega)) rfl ?_;refine Z8 ?_;refine eQ O ?_;clear O;exact ⟨(i + 1, o.set i (wv m / 2 / 4294967296 ^ i % 4294967296)), by simp only; omega, ⟨hc, by simpa using hol, hnew _ rfl⟩, Wk.mk' ⟨rfl, rfl, rfl, trivial⟩ ⟨by rw [hset]; rfl, trivial⟩⟩
  ·have hd : m.length <= i + 1 := by simp at hd; omega
   rw [i9 hd] at hdig';refine ak ?_;show AWP _ _ _ _ _ _;refine gR fun _ O=>?_;refine Z9 ?_;refine av rfl (aP (c := ((i + 1 : Nat) : Int)) (by omega) (by omega)) rfl ?_;refine Z8 ?_;refine eQ O ?_;clear O;exact ⟨(i + 1, o.set i (m.getD i 0 / 2)), by simp only; omega, ⟨hc, by simpa using hol, hnew _ (by omega)⟩, Wk.mk' ⟨rfl, rfl, rfl, trivial⟩ ⟨rfl, trivial⟩⟩
 ·have hc : i = m.length := by simp at hc; omega
  subst hc
  have hfin : o = a8 m.length (wv m / 2) := by
   refine qP (by rw [hol, aC]) (fun k hk => ?_);rw [ho k, if_pos (by omega), mj _ (by omega)]
  have hlt := ee hm
  refine aD ?_;show AWP _ _ _ _ _ _;refine dK [3] [7] 7 [(3, V1 (dW (a8 m.length (wv m / 2))))] [] rfl ?_ trivial ?_
  ·exact ⟨jG (by rw [hfin]) (by rw [aC]), trivial⟩
  refine gQ fun _ O=>?_;refine Z9 ?_;refine ac rfl rfl (dw _ (bV _ _) (by rw [aC]; omega)) rfl rfl rfl rfl ?_;refine Z8 ?_;refine eQ O ?_;clear O;exact ah (bz (h3 := by rw [b7, Nat.mod_eq_of_lt (by omega)]; rfl))

theorem wj (na nb : Bool) (wa wb : List Nat) (z : Int) (ha : wOK wa) (hb : wOK wb) (la : wa.length <= 536870912) (lb : wb.length <= 536870912) (h : zv na wa + zv nb wb = z) :
  Con Tryz.prog 133 [AG (IC na wa), AG (IC nb wb)] { v := AG (ZC z) } := h ▸ wk na nb wa wb ha hb la lb
theorem BB (na nb : Bool) (wa wb : List Nat) (z : Int) (ha : wOK wa) (hb : wOK wb) (la : wa.length <= 536870912) (lb : wb.length <= 536870912) (h : zv na wa - zv nb wb = z) :
  Con Tryz.prog 134 [AG (IC na wa), AG (IC nb wb)] { v := AG (ZC z) } := h ▸ BC na nb wa wb ha hb la lb

theorem C9 (na : Bool) (A B : Nat) : (tr na A B).natAbs = A % B := by
 unfold tr; split
 ·rw [Int.natAbs_neg, Int.natAbs_natCast]
 ·rw [Int.natAbs_natCast]
theorem Da (na nb : Bool) (A B : Nat) : (tq na nb A B).natAbs = A / B := by
 unfold tq; split
 ·rw [Int.natAbs_natCast]
 ·rw [Int.natAbs_neg, Int.natAbs_natCast]
theorem uQ (na nb : Bool) (wa wb : List Nat) (ha : wOK wa) (hb : wOK wb) (la : wa.length <= 268435456) (lb : wb.length <= 268435456) (h0 : zv nb wb ≠ 0) :
  Con Tryz.prog 101 [AG (IC na wa), AG (IC nb wb)] { v := .tup [.agg (ZC (zv na wa / zv nb wb)), .agg (ZC (zv na wa % zv nb wb)), .one (.d (lI 0))] } := by
 have hB0 : wv wb ≠ 0 := by intro h; apply h0; unfold zv; rw [h]; simp
 have hBp : 0 < wv wb := by omega
 have hla := bw ha
 have hlb := bw hb
 have hxa : zv na wa = sg na (wv wa) := rfl
 have hxb : zv nb wb = sg nb (wv wb) := rfl
 have habs : zv nb wb = sg nb (wv wb) := rfl
 rw [hxa, hxb];generalize hA : wv wa = A at *;generalize hB : wv wb = B at *
 have hsgB : (sg nb B).natAbs = B := by unfold sg; split <;> omega
 have hrle : (wof (tr na A B).natAbs).length <= (wof A).length := bM (by rw [C9]; exact Nat.mod_le A B)
 have hqle : (wof (tq na nb A B).natAbs).length <= (wof A).length := bM (by rw [Da]; exact Nat.div_le_self A B)
 have hql : (wof (A / B)).length <= (wof A).length := bM (Nat.div_le_self A B)
 have hrl : (wof (A % B)).length <= (wof A).length := bM (Nat.mod_le A B)
 refine Z3 Tryz.func101 ?_
 intro w0 X
 rw [aq _ _ [(0, AG (IC na wa)), (1, AG (IC nb wb))] rfl rfl];refine gQ fun _ O=>?_;refine aG rfl rfl rfl rfl rfl rfl ?_;refine aG rfl rfl rfl rfl rfl rfl ?_;refine aw rfl rfl rfl rfl rfl rfl ?_;refine aw rfl rfl rfl rfl rfl rfl ?_;refine Z8 ?_;refine eQ O ?_;clear O;refine ag ?_;refine gQ fun _ O=>?_;refine Z7 ?_;refine ac rfl rfl (s8 nb wb hb (by omega)) rfl rfl rfl rfl ?_;refine Z6 ?_;refine eQ O ?_;clear O;refine ap rfl (fun hc => ?_) (fun hc => ?_)
 ·exfalso
  have : (zv nb wb).sign = 0 := by simpa using hc
  exact h0 (Int.sign_eq_zero_iff_zero.1 this)
 refine ak ?_;show AWP _ _ _ _ _ _;refine c8 [(2, .ptr 2 0), (3, .ptr 3 0), (4, .ptr 4 0), (5, .ptr 5 0)] [(2, some (.box (IC na wa))), (3, some (.box (IC nb wb))), (4, some (.box [.d (.lit (.bool false)), .nil])), (5, some (.box [.d (.lit (.bool false)), .nil]))] ⟨rfl, rfl, rfl, rfl, trivial⟩ ⟨rfl, rfl, rfl, rfl, trivial⟩ ?_;refine aL tok mixed (A := [[], [], [0], [], [], [0, 1, 3], [0, 1, 3, 4], [0, 1, 2, 3, 4, 5], [0, 1, 2, 3, 4, 5, 6], [0, 1, 2, 3, 4, 5, 6], [], []]) (an := [{}, {}, {}, { c := [19] }, { c := [19] }, {}, {}, {}, {}, {}, {}, {}]) rfl (by kernel_rfl) rfl fun _ O=>?_;refine Z5 ?_;refine Z7 ?_;refine ac rfl rfl (hA ▸ dw wa ha (by omega)) rfl rfl rfl rfl ?_;refine Z5 ?_;refine Z7 ?_;refine ac rfl rfl (hB ▸ dw wb hb (by omega)) rfl rfl rfl rfl ?_;refine ac rfl rfl (uP (wof A) (wof B) (ay A) (ay B) (b9 B) (by rw [aE]; exact hBp) (by omega) (by omega)) rfl rfl rfl rfl ?_;refine Z9 ?_;refine au rfl rfl rfl ?_;refine au rfl rfl rfl ?_;refine Z8 ?_;refine Z8 ?_;refine eQ O ?_;clear O;refine gQ fun _ O=>?_;refine Z5 ?_;refine Z7 ?_;refine Z5 ?_;refine Z7 ?_;refine Z6 ?_;refine Z9 ?_;refine aI rfl rfl rfl ?_;refine ac rfl rfl (ic (!(na == nb)) _ (tq na nb A B) (ay _) (by rw [aE, aE]; omega) (by unfold zv tq; rw [aE, aE, aE]; cases na <;> cases nb <;> simp)) rfl rfl rfl rfl ?_;refine aw rfl rfl rfl rfl rfl rfl ?_;refine aj rfl rfl rfl rfl rfl ?_;refine eQ O ?_;clear O;refine gQ fun _ O=>?_;refine Z5 ?_;refine Z7 ?_;refine Z9 ?_;refine aI rfl rfl rfl ?_;refine ac rfl rfl (ic na _ (tr na A B) (ay _) (by rw [aE, aE]; omega) (by unfold zv tr; rw [aE, aE, aE])) rfl rfl rfl rfl ?_;refine aw rfl rfl rfl rfl rfl rfl ?_;refine aj rfl rfl rfl rfl rfl ?_;refine eQ O ?_;clear O;refine bd (α := Unit) (fun _ => mk 55 [(4, .ptr 4 0), (5, .ptr 5 0), (9, .ptr 9 0), (10, .ptr 10 0)] [(4, some (.box [.d (.lit (.bool false)), .nil])), (5, some (.box [.d (.lit (.bool false)), .nil])), (9, some (.box (ZC (sg na A / sg nb B)))), (10, some (.box (ZC (sg na A % sg nb B))))] []) (fun _ => True) ?_ ?_
 ·refine c8 [(3, .ptr 3 0), (4, .ptr 4 0), (5, .ptr 5 0), (9, .ptr 9 0), (10, .ptr 10 0)] [(3, some (.box (IC nb wb))), (4, some (.box [.d (.lit (.bool false)), .nil])), (5, some (.box [.d (.lit (.bool false)), .nil])), (9, some (.box (ZC (tq na nb A B)))), (10, some (.box (ZC (tr na A B))))] ⟨rfl, rfl, rfl, rfl, rfl, trivial⟩ ⟨rfl, rfl, rfl, rfl, rfl, trivial⟩ ?_;refine gQ fun _ O=>?_;refine Z5 ?_;refine Z7 ?_;refine eQ O ?_;clear O;refine ap rfl (fun hd => ?_) (fun hd => ?_)
  ·have hd : tr na A B < 0 := of_decide_eq_true hd
   obtain ⟨e1, e2⟩ := vU na nb hBp hd
   refine c8 [(3, .ptr 3 0), (4, .ptr 4 0), (5, .ptr 5 0), (9, .ptr 9 0), (10, .ptr 10 0)] [(3, some (.box (IC nb wb))), (4, some (.box [.d (.lit (.bool false)), .nil])), (5, some (.box [.d (.lit (.bool false)), .nil])), (9, some (.box (ZC (tq na nb A B)))), (10, some (.box (ZC (tr na A B))))] ⟨rfl, rfl, rfl, rfl, rfl, trivial⟩ ⟨rfl, rfl, rfl, rfl, rfl, trivial⟩ ?_
   have habB : (zv nb wb).natAbs = B := by rw [bJ]; exact hB
   refine aL tok mixed (A := [[], [], [], [1], []]) (an := [{}, {}, {}, {}, {}]) rfl (by kernel_rfl) rfl fun _ O=>?_;refine Z7 ?_;refine Z7 ?_;refine ac rfl rfl (habB ▸ rF nb wb hb (by omega)) rfl rfl rfl rfl ?_;refine ac rfl rfl (wj (decide (tr na A B < 0)) (decide ((B : Int) < 0)) (wof (tr na A B).natAbs) (wof (B : Int).natAbs) (sg na A % sg nb B) (ay _) (ay _) (by omega) (by simp only [Int.natAbs_natCast]; omega) (by rw [bu, bu, e2])) rfl rfl rfl rfl ?_;refine aj rfl rfl rfl rfl rfl ?_;refine eQ O ?_;clear O;refine gQ fun _ O=>?_;refine Z5 ?_;refine Z7 ?_;refine eQ O ?_;clear O;refine ap rfl (fun hn => ?_) (fun hn => ?_)
   ·have hn : nb = true := hn
    subst hn
    refine br tok mixed (A := [[], [], [], []]) (an := [{}, {}, {}, {}]) rfl (by kernel_rfl) rfl fun _ O=>?_;refine Z7 ?_;refine ac rfl rfl (rE 1 (by unfold I64; omega)) rfl rfl rfl rfl ?_;refine ac rfl rfl (wj (decide (tq na true A B < 0)) (decide ((1 : Int) < 0)) (wof (tq na true A B).natAbs) (wof (1 : Int).natAbs) (sg na A / sg true B) (ay _) (ay _) (by omega) (by decide) (by rw [bu, bu, e1]; rfl)) rfl rfl rfl rfl ?_;refine aj rfl rfl rfl rfl rfl ?_;refine eQ O ?_;clear O;exact ⟨(), trivial, Wk.mk' ⟨rfl, rfl, rfl, rfl, trivial⟩ ⟨rfl, rfl, rfl, rfl, trivial⟩⟩
   ·have hn : nb = false := hn
    subst hn
    refine br tok mixed (A := [[], [], [], []]) (an := [{}, {}, {}, {}]) rfl (by kernel_rfl) rfl fun _ O=>?_;refine Z7 ?_;refine ac rfl rfl (rE 1 (by unfold I64; omega)) rfl rfl rfl rfl ?_;refine ac rfl rfl (BB (decide (tq na false A B < 0)) (decide ((1 : Int) < 0)) (wof (tq na false A B).natAbs) (wof (1 : Int).natAbs) (sg na A / sg false B) (ay _) (ay _) (by omega) (by decide) (by rw [bu, bu, e1]; rfl)) rfl rfl rfl rfl ?_;refine aj rfl rfl rfl rfl rfl ?_;refine eQ O ?_;clear O;exact ⟨(), trivial, Wk.mk' ⟨rfl, rfl, rfl, rfl, trivial⟩ ⟨rfl, rfl, rfl, rfl, trivial⟩⟩
  ·have hd : 0 <= tr na A B := by have := of_decide_eq_false hd; omega
   obtain ⟨e1, e2⟩ := vT na nb hBp hd
   refine ak ?_;exact ⟨(), trivial, Wk.mk' ⟨rfl, rfl, rfl, rfl, trivial⟩ ⟨rfl, rfl, by rw [e1]; rfl, by rw [e2]; rfl, trivial⟩⟩
 rintro - -
 show AWP _ _ _ _ _ (mk 55 [(4, .ptr 4 0), (5, .ptr 5 0), (9, .ptr 9 0), (10, .ptr 10 0)] [(4, some (.box [.d (.lit (.bool false)), .nil])), (5, some (.box [.d (.lit (.bool false)), .nil])), (9, some (.box (ZC (sg na A / sg nb B)))), (10, some (.box (ZC (sg na A % sg nb B))))] []);refine aL tok mixed (A := [[], [], [], [], []]) (an := [{}, {}, { d := [10] }, {}, {}]) rfl (by kernel_rfl) rfl fun _ O=>?_;refine Z7 ?_;refine Z7 ?_;refine aj rfl rfl rfl rfl rfl ?_;refine aj rfl rfl rfl rfl rfl ?_;refine Z8 ?_;refine eQ O ?_;clear O;exact ah aT

theorem nf (x y : Int) (hx : zl x <= 268435456) (hy : zl y <= 268435456) (h0 : y ≠ 0) :
  Con Tryz.prog 101 [AG (ZC x), AG (ZC y)] { v := .tup [.agg (ZC (x / y)), .agg (ZC (x % y)), .one (.d (lI 0))] } := by
 have := uQ (decide (x < 0)) (decide (y < 0)) (wof x.natAbs) (wof y.natAbs) (ay _) (ay _) hx hy (by rw [bu]; exact h0)
 rw [bu, bu] at this;exact this

theorem BD (na nb : Bool) (wa wb : List Nat) (ha : wOK wa) (hb : wOK wb) (la : wa.length <= 268435456) (lb : wb.length <= 268435456) :
  Con Tryz.prog 98 [AG (IC na wa), AG (IC nb wb)] { v := AG (ZC (Int.gcd (zv na wa) (zv nb wb) : Int)) } := by
 have hg : Int.gcd (zv na wa) (zv nb wb) = Nat.gcd (wv wa) (wv wb) := by
  show Nat.gcd (zv na wa).natAbs (zv nb wb).natAbs = _
  rw [bJ, bJ]
 have hla := bw ha
 have hlb := bw hb
 have eA : (zv na wa).natAbs = wv wa := bJ na wa
 have eB : (zv nb wb).natAbs = wv wb := bJ nb wb
 rw [hg];generalize hA : wv wa = A at *;generalize hB : wv wb = B at *;refine Z3 Tryz.func98 ?_
 intro w0 X
 rw [aq _ _ [(0, AG (IC na wa)), (1, AG (IC nb wb))] rfl rfl];refine gQ fun _ O=>?_;refine aG rfl rfl rfl rfl rfl rfl ?_;refine aG rfl rfl rfl rfl rfl rfl ?_;refine aw rfl rfl rfl rfl rfl rfl ?_;refine eQ O ?_;clear O;refine gQ fun _ O=>?_;refine Z5 ?_;refine Z7 ?_;refine ac rfl rfl (hA ▸ dw wa ha (by omega)) rfl rfl rfl rfl ?_;refine Z8 ?_;refine eQ O ?_;clear O;refine gQ fun _ O=>?_;refine Z5 ?_;refine Z7 ?_;refine ac rfl rfl (hB ▸ dw wb hb (by omega)) rfl rfl rfl rfl ?_;refine Z8 ?_;refine eQ O ?_;clear O;refine ag ?_;refine gQ fun _ O=>?_;refine Z9 ?_;refine az rfl (aZ rfl rfl rfl) rfl ?_;refine Z6 ?_;refine eQ O ?_;clear O;refine ap rfl (fun hc => ?_) (fun hc => ?_)
 ·have hc : wof A = [] := by simpa using hc
  have hA0 : A = 0 := em.1 hc
  refine gQ fun _ O=>?_;refine Z7 ?_;refine ac rfl rfl (rF nb wb hb (by omega)) rfl rfl rfl rfl ?_;refine aj rfl rfl rfl rfl rfl ?_;refine eQ O ?_;clear O;exact ah (bz (h3 := by rw [eB, hA0, Nat.gcd_zero_left]; rfl))
 have hc : wof A ≠ [] := by simpa using hc
 have hA0 : 0 < A := by
  rcases Nat.eq_zero_or_pos A with h | h
  ·exact absurd (em.2 h) hc
  ·exact h
 refine ak ?_;show AWP _ _ _ _ _ _;refine ag ?_;refine gQ fun _ O=>?_;refine Z9 ?_;refine az rfl (aZ rfl rfl rfl) rfl ?_;refine Z6 ?_;refine eQ O ?_;clear O;refine ap rfl (fun hd => ?_) (fun hd => ?_)
 ·have hd : wof B = [] := by simpa using hd
  have hB0 : B = 0 := em.1 hd
  refine gQ fun _ O=>?_;refine Z7 ?_;refine ac rfl rfl (rF na wa ha (by omega)) rfl rfl rfl rfl ?_;refine aj rfl rfl rfl rfl rfl ?_;refine eQ O ?_;clear O;exact ah (bz (h3 := by rw [eA, hB0, Nat.gcd_zero_right]; rfl))
 have hd : wof B ≠ [] := by simpa using hd
 have hB0 : 0 < B := by
  rcases Nat.eq_zero_or_pos B with h | h
  ·exact absurd (em.2 h) hd
  ·exact h
 refine ak ?_;show AWP _ _ _ _ _ _;refine gQ fun _ O=>?_;refine Z8 ?_;refine eQ O ?_;clear O
 have hlen : ∀ X, X <= A -> (wof X).length <= 268435456 := fun X h => Nat.le_trans (bM h) (Nat.le_trans hla la)
 have hlen' : ∀ X, X <= B -> (wof X).length <= 268435456 := fun X h => Nat.le_trans (bM h) (Nat.le_trans hlb lb)
 refine bd (α := Nat × Nat × Nat) (fun p => mk 84 [(4, .ptr 4 0), (5, V1 (dW (wof p.1))), (6, V1 (dW (wof p.2.1))), (7, dI p.2.2)] [(4, some (.box [.d (.lit (.bool false)), .nil]))] []) (fun p => p.1 * 2 ^ p.2.2 = A /\ p.2.1 * 2 ^ p.2.2 = B /\ p.2.2 <= 8589934592 /\ ¬ (p.1 % 2 = 0 /\ p.2.1 % 2 = 0)) ?_ ?_
 ·refine al (aS (α := Nat × Nat × Nat) (fun p => mk 84 [(4, .ptr 4 0), (5, V1 (dW (wof p.1))), (6, V1 (dW (wof p.2.1))), (7, dI p.2.2)] [(4, some (.box [.d (.lit (.bool false)), .nil]))] []) (fun p => p.1 * 2 ^ p.2.2 = A /\ p.2.1 * 2 ^ p.2.2 = B) (fun p => p.1) (A, B, 0) ?_ ⟨by simp, by simp⟩ ?_)
  ·exact Wk.mk' ⟨rfl, rfl, rfl, rfl, trivial⟩ ⟨rfl, trivial⟩
  rintro ⟨x, y, t⟩ ⟨i1, i2⟩
  simp only at i1 i2
  show AWP _ _ _ _ _ (mk 84 [(4, .ptr 4 0), (5, V1 (dW (wof x))), (6, V1 (dW (wof y))), (7, dI t)] [(4, some (.box [.d (.lit (.bool false)), .nil]))] [])
  have hx : 0 < x := by
   rcases Nat.eq_zero_or_pos x with h | h
   ·rw [h, Nat.zero_mul] at i1; omega
   ·exact h
  have hy : 0 < y := by
   rcases Nat.eq_zero_or_pos y with h | h
   ·rw [h, Nat.zero_mul] at i2; omega
   ·exact h
  have hxA : x <= A := by rw [<- i1]; exact Nat.le_mul_of_pos_right _ (Nat.two_pow_pos t)
  have hyB : y <= B := by rw [<- i2]; exact Nat.le_mul_of_pos_right _ (Nat.two_pow_pos t)
  have ht : t <= 8589934592 := by
   have h1 : 2 ^ t <= A := by rw [<- i1]; exact Nat.le_mul_of_pos_left _ hx
   have h2 := uw A
   rw [tm] at h2
   have h3 : 2 ^ t < 2 ^ (32 * (wof A).length) := by omega
   have := (Nat.pow_lt_pow_iff_right (by decide : 1 < 2)).1 h3
   omega
  refine ag ?_;refine bd (α := Bool) (fun c => mk 84 [(4, .ptr 4 0), (5, V1 (dW (wof x))), (6, V1 (dW (wof y))), (7, dI t), (36, dB c)] [(4, some (.box [.d (.lit (.bool false)), .nil]))] []) (fun c => (c = true -> x % 2 = 0 /\ y % 2 = 0) /\ (c = false -> ¬ (x % 2 = 0 /\ y % 2 = 0))) ?_ ?_
  ·refine gR fun _ O=>?_;refine Z9 ?_;refine ae rfl (im (i := 0) rfl rfl rfl rfl rfl (nN hx)) rfl ?_;refine Z7 ?_;refine av rfl (mK (y := 2) (z := x % 2) (by omega) (lh x)) rfl ?_;refine Z6 ?_;refine Z9 ?_;refine ep (fun he => ?_) (fun he => ?_)
   ·have he : x % 2 = 0 := by simp at he; omega
    refine Z9 ?_;refine ae rfl (im (i := 0) rfl rfl rfl rfl rfl (nN hy)) rfl ?_;refine Z7 ?_;refine av rfl (mK (y := 2) (z := y % 2) (by omega) (lh y)) rfl ?_;refine Z6 ?_;refine Z4 ?_;refine eQ O ?_;clear O;refine ⟨_, ⟨fun h => ⟨he, ?_⟩, fun h => ?_⟩, Wk.mk' ⟨rfl, rfl, rfl, rfl, rfl, trivial⟩ ⟨rfl, trivial⟩⟩
    ·simp at h; omega
    ·simp at h; omega
   ·have he : ¬ x % 2 = 0 := by simp at he; omega
    refine aA rfl ?_;refine aA rfl ?_;refine aA rfl ?_;refine aA rfl ?_;refine aA rfl ?_;refine Z4 ?_;refine eQ O ?_;clear O;exact ⟨false, ⟨fun h => (by cases h), fun _ h => he h.1⟩, Wk.mk' ⟨rfl, rfl, rfl, rfl, rfl, trivial⟩ ⟨rfl, trivial⟩⟩
  rintro c ⟨k1, k2⟩
  refine ap rfl (fun he => ?_) (fun he => ?_)
  ·obtain ⟨ex, ey⟩ := k1 he
   have l1 := hlen x hxA
   have l2 := hlen' y hyB
   refine ak ?_;show AWP _ _ _ _ _ _;refine al ?_;refine gQ fun _ O=>?_;refine Z9 ?_;refine ac rfl rfl (lN (wof x) (ay _) (by omega)) rfl rfl rfl rfl ?_;refine Z8 ?_;refine eQ O ?_;clear O;refine gQ fun _ O=>?_;refine Z9 ?_;refine ac rfl rfl (lN (wof y) (ay _) (by omega)) rfl rfl rfl rfl ?_;refine Z8 ?_;refine eQ O ?_;clear O;refine gR fun _ O=>?_;refine Z9 ?_;refine av rfl (aP (c := ((t + 1 : Nat) : Int)) (by omega) (by omega)) rfl ?_;refine Z8 ?_;refine eQ O ?_;clear O;refine ⟨(x / 2, y / 2, t + 1), by simp only; omega, ⟨?_, ?_⟩, Wk.mk' ⟨rfl, pO (by rw [aE]), pO (by rw [aE]), rfl, trivial⟩ ⟨rfl, trivial⟩⟩
   ·rw [<- i1, Nat.pow_succ]
    have : x = 2 * (x / 2) := by omega
    conv => rhs; rw [this]
    simp only; grind
   ·rw [<- i2, Nat.pow_succ]
    have : y = 2 * (y / 2) := by omega
    conv => rhs; rw [this]
    simp only; grind
  ·refine aD ?_;exact ⟨(x, y, t), ⟨i1, i2, ht, k2 he⟩, Wk.mk' ⟨rfl, rfl, rfl, rfl, trivial⟩ ⟨rfl, trivial⟩⟩
 rintro ⟨x0, y0, t⟩ ⟨i1, i2, ht, hne⟩
 simp only at i1 i2 ht hne
 have hG : Nat.gcd x0 y0 * 2 ^ t = Nat.gcd A B := by rw [<- i1, <- i2, Nat.gcd_mul_right]
 have hx0 : 0 < x0 := by
  rcases Nat.eq_zero_or_pos x0 with h | h
  ·rw [h, Nat.zero_mul] at i1; omega
  ·exact h
 have hy0 : 0 < y0 := by
  rcases Nat.eq_zero_or_pos y0 with h | h
  ·rw [h, Nat.zero_mul] at i2; omega
  ·exact h
 have hxA : x0 <= A := by rw [<- i1]; exact Nat.le_mul_of_pos_right _ (Nat.two_pow_pos t)
 have hyB : y0 <= B := by rw [<- i2]; exact Nat.le_mul_of_pos_right _ (Nat.two_pow_pos t)
 show AWP _ _ _ _ _ (mk 84 [(4, .ptr 4 0), (5, V1 (dW (wof x0))), (6, V1 (dW (wof y0))), (7, dI t)] [(4, some (.box [.d (.lit (.bool false)), .nil]))] []);refine bd (α := Unit) (fun _ => mk 84 [(4, .ptr 4 0), (5, V1 (dW (wof (Nat.gcd x0 y0)))), (7, dI t)] [(4, some (.box [.d (.lit (.bool false)), .nil]))] []) (fun _ => True) ?_ ?_
 ·refine al (aS (α := Nat × Nat) (fun p => mk 84 [(4, .ptr 4 0), (5, V1 (dW (wof p.1))), (6, V1 (dW (wof p.2))), (7, dI t)] [(4, some (.box [.d (.lit (.bool false)), .nil]))] []) (fun p => 0 < p.1 /\ 0 < p.2 /\ p.1 <= A /\ p.2 <= B /\ Nat.gcd p.1 p.2 = Nat.gcd x0 y0 /\ ¬ (p.1 % 2 = 0 /\ p.2 % 2 = 0)) (fun p => p.1 + p.2) (x0, y0) ?_ ⟨hx0, hy0, hxA, hyB, rfl, hne⟩ ?_)
  ·exact Wk.mk' ⟨rfl, rfl, rfl, rfl, trivial⟩ ⟨rfl, trivial⟩
  rintro ⟨x, y⟩ ⟨px, py, lx, ly, hgc, hnb⟩
  simp only at px py lx ly hgc hnb
  show AWP _ _ _ _ _ (mk 84 [(4, .ptr 4 0), (5, V1 (dW (wof x))), (6, V1 (dW (wof y))), (7, dI t)] [(4, some (.box [.d (.lit (.bool false)), .nil]))] [])
  have l1 := hlen x lx
  have l2 := hlen' y ly
  have hcx : gT (wv (wof x)) (wv (wof y)) = gT x y := by rw [aE, aE]
  refine ag ?_;refine gQ fun _ O=>?_;refine Z9 ?_;refine Z9 ?_;refine ac rfl rfl (nT (wof x) (wof y) (ay _) (ay _) (b9 _) (b9 _) (by omega) (by omega)) rfl rfl rfl rfl ?_;refine Z6 ?_;refine eQ O ?_;clear O;refine ap rfl (fun he => ?_) (fun he => ?_)
  ·have he : x ≠ y := by
    rw [hcx] at he
    intro h
    rw [wD.2 h] at he; simp at he
   refine ak ?_;show AWP _ _ _ _ _ _;refine al ?_;refine al ?_;refine c8 [(4, .ptr 4 0), (5, V1 (dW (wof x))), (6, V1 (dW (wof y))), (7, dI t)] [(4, some (.box [.d (.lit (.bool false)), .nil]))] ⟨rfl, rfl, rfl, rfl, trivial⟩ ⟨rfl, trivial⟩ ?_;refine gQ fun _ O=>?_;refine Z9 ?_;refine ae rfl (im (i := 0) rfl rfl rfl rfl rfl (nN px)) rfl ?_;refine Z7 ?_;refine av rfl (mK (y := 2) (z := x % 2) (by omega) (lh x)) rfl ?_;refine Z6 ?_;refine Z8 ?_;refine eQ O ?_;clear O;refine ap rfl (fun hev => ?_) (fun hev => ?_)
   ·have hev : x % 2 = 0 := by simp at hev; omega
    have hyo : y % 2 = 1 := by have : ¬ y % 2 = 0 := fun h => hnb ⟨hev, h⟩; omega
    refine gR fun _ O=>?_;refine Z9 ?_;refine ac rfl rfl (lN (wof x) (ay _) (by omega)) rfl rfl rfl rfl ?_;refine Z8 ?_;refine eQ O ?_;clear O;exact ⟨(x / 2, y), by simp only; omega, ⟨by simp only; omega, py, by simp only; omega, ly, by rw [<- hgc]; exact tS hev hyo, by simp only; omega⟩, Wk.mk' ⟨rfl, pO (by rw [aE]), rfl, rfl, trivial⟩ ⟨rfl, trivial⟩⟩
   have hev : x % 2 = 1 := by simp at hev; omega
   refine gQ fun _ O=>?_;refine Z9 ?_;refine ae rfl (im (i := 0) rfl rfl rfl rfl rfl (nN py)) rfl ?_;refine Z7 ?_;refine av rfl (mK (y := 2) (z := y % 2) (by omega) (lh y)) rfl ?_;refine Z6 ?_;refine Z8 ?_;refine eQ O ?_;clear O;refine ap rfl (fun hod => ?_) (fun hod => ?_)
   ·have hod : y % 2 = 0 := by simp at hod; omega
    refine gR fun _ O=>?_;refine Z9 ?_;refine ac rfl rfl (lN (wof y) (ay _) (by omega)) rfl rfl rfl rfl ?_;refine Z8 ?_;refine eQ O ?_;clear O;exact ⟨(x, y / 2), by simp only; omega, ⟨px, by simp only; omega, lx, by simp only; omega, by rw [<- hgc, Nat.gcd_comm x, Nat.gcd_comm x]; exact tS hod hev, by simp only; omega⟩, Wk.mk' ⟨rfl, rfl, pO (by rw [aE]), rfl, trivial⟩ ⟨rfl, trivial⟩⟩
   have hod : y % 2 = 1 := by simp at hod; omega
   refine gQ fun _ O=>?_;refine Z9 ?_;refine Z9 ?_;refine ac rfl rfl (nT (wof x) (wof y) (ay _) (ay _) (b9 _) (b9 _) (by omega) (by omega)) rfl rfl rfl rfl ?_;refine Z6 ?_;refine Z8 ?_;refine eQ O ?_;clear O;refine ap rfl (fun hgt => ?_) (fun hgt => ?_)
   ·have hgt : y < x := by
     rw [hcx] at hgt;exact wC.1 (of_decide_eq_true hgt)
    refine gR fun _ O=>?_;refine Z9 ?_;refine Z9 ?_;refine ac rfl rfl (lM (wof x) (wof y) (ay _) (ay _) (by omega) (bM (by omega)) (by rw [aE, aE]; omega)) rfl rfl rfl rfl ?_;refine Z8 ?_;refine eQ O ?_;clear O;exact ⟨(x - y, y), by simp only; omega, ⟨by simp only; omega, py, by simp only; omega, ly, by rw [<- hgc]; exact Nat.gcd_sub_self_left (by omega), by simp only; omega⟩, Wk.mk' ⟨rfl, pO (by rw [aE, aE]), rfl, rfl, trivial⟩ ⟨rfl, trivial⟩⟩
   ·have hgt : x < y := by
     rw [hcx] at hgt
     have := mt wC.2 (of_decide_eq_false hgt)
     omega
    refine gR fun _ O=>?_;refine Z9 ?_;refine Z9 ?_;refine ac rfl rfl (lM (wof y) (wof x) (ay _) (ay _) (by omega) (bM (by omega)) (by rw [aE, aE]; omega)) rfl rfl rfl rfl ?_;refine Z8 ?_;refine eQ O ?_;clear O;exact ⟨(x, y - x), by simp only; omega, ⟨px, by simp only; omega, lx, by simp only; omega, by rw [<- hgc]; exact Nat.gcd_sub_self_right (by omega), by simp only; omega⟩, Wk.mk' ⟨rfl, rfl, pO (by rw [aE, aE]), rfl, trivial⟩ ⟨rfl, trivial⟩⟩
  ·have he : x = y := by
    rw [hcx] at he
    simp at he; exact wD.1 he
   subst he
   rw [Nat.gcd_self] at hgc;refine aD ?_;exact ⟨(), trivial, Wk.mk' ⟨rfl, by rw [<- hgc]; rfl, rfl, trivial⟩ ⟨rfl, trivial⟩⟩
 rintro - -
 have hgle : Nat.gcd A B <= A := Nat.gcd_le_left _ hA0
 generalize hgg : Nat.gcd x0 y0 = g at *;show AWP _ _ _ _ _ (mk 84 [(4, .ptr 4 0), (5, V1 (dW (wof g))), (7, dI t)] [(4, some (.box [.d (.lit (.bool false)), .nil]))] []);refine ag ?_;refine gQ fun _ O=>?_;refine Z8 ?_;refine eQ O ?_;clear O;refine al (aS (α := Nat) (fun i => mk 84 [(4, .ptr 4 0), (5, V1 (dW (wof (g * 2 ^ i)))), (7, dI t), (8, dI i)] [(4, some (.box [.d (.lit (.bool false)), .nil]))] []) (fun i => i <= t) (fun i => t - i) 0 ?_ (Nat.zero_le _) ?_)
 ·exact Wk.mk' ⟨rfl, by simp; rfl, rfl, rfl, trivial⟩ ⟨rfl, trivial⟩
 intro i hi
 refine ag ?_;refine gQ fun _ O=>?_;refine Z9 ?_;refine Z9 ?_;refine Z6 ?_;refine eQ O ?_;clear O;refine ap rfl (fun he => ?_) (fun he => ?_)
 ·have he : i < t := by simp at he; omega
  have hle : g * 2 ^ i <= A := by
   have : g * 2 ^ i <= g * 2 ^ t := Nat.mul_le_mul_left _ (Nat.pow_le_pow_right (by decide) hi)
   omega
  have l1 := hlen _ hle
  refine ak ?_;show AWP _ _ _ _ _ _;refine ag ?_;refine al ?_;refine gR fun _ O=>?_;refine Z9 ?_;refine Z9 ?_;refine ac rfl rfl (nU (wof (g * 2 ^ i)) (wof (g * 2 ^ i)) (ay _) (ay _) (by omega) (by omega)) rfl rfl rfl rfl ?_;refine Z8 ?_;refine eQ O ?_;clear O;show AWP _ _ _ _ _ _;refine gR fun _ O=>?_;refine Z9 ?_;refine av rfl (aP (c := ((i + 1 : Nat) : Int)) (by omega) (by omega)) rfl ?_;refine Z8 ?_;refine eQ O ?_;clear O;refine ⟨i + 1, by omega, he, Wk.mk' ⟨rfl, ?_, rfl, rfl, trivial⟩ ⟨rfl, trivial⟩⟩;refine pO ?_;rw [aE, Nat.pow_succ]
  congr 1; grind
 ·have he : i = t := by simp at he; omega
  subst he
  rw [hG] at *;refine aD ?_;show AWP _ _ _ _ _ _;refine gQ fun _ O=>?_;refine Z9 ?_;refine aI rfl rfl rfl ?_;refine aj rfl rfl rfl rfl rfl ?_;refine eQ O ?_;clear O;exact ah (bz (h3 := by rw [Ec]; rfl))
end Go.Proofs.YtceacleokgoooaaGreatDoor

/- The reference's rationals. No condition. -/
namespace Go.Proofs.YtceacleokgoooaaGreatDoor
attribute [local irreducible] aF

theorem s9 (x : Int) (hx : zl x <= 268435456) : Con Tryz.prog 102 [AG (ZC x)] { v := AG (ZC (-x)) } := by
 have := wh (decide (x < 0)) (wof x.natAbs) (ay _) (Nat.le_trans hx (by decide))
 rw [bu] at this; exact this
theorem kh (x : Int) (hx : zl x <= 536870912) : Con Tryz.prog 99 [AG (ZC x)] { v := dI x.sign } := by
 have := s8 (decide (x < 0)) (wof x.natAbs) (ay _) (Nat.le_trans hx (by decide))
 rw [bu] at this; exact this
end Go.Proofs.YtceacleokgoooaaGreatDoor

/- The reference's rotations. No condition. -/
namespace Go.Proofs.YtceacleokgoooaaGreatDoor
attribute [local irreducible] aF

theorem q8 {x g : Int} (hg : 0 < g) (hd : g ∣ x) : (x / g < 0 ↔ x < 0) /\ (x / g = 0 ↔ x = 0) := by
 obtain ⟨k, rfl⟩ := hd
 rw [Int.mul_ediv_cancel_left _ (by omega)];refine ⟨⟨fun h => Int.mul_neg_of_pos_of_neg hg h, fun h => ?_⟩, ⟨fun h => by rw [h, Int.mul_zero], fun h => ?_⟩⟩
 ·rcases (by omega : k < 0 \/ 0 <= k) with h' | h'
  ·exact h'
  ·have := Int.mul_nonneg (Int.le_of_lt hg) h'; omega
 ·rcases Int.mul_eq_zero.1 h with h' | h'
  ·omega
  ·exact h'
theorem j5 (x : Int) : decide (x.sign < 0) = decide (x < 0) /\ (x.sign == 0) = decide (x = 0) := by
 constructor
 ·exact decide_eq_decide.2 Int.sign_neg_iff
 ·rw [Bool.eq_iff_iff]
  simp [Int.sign_eq_zero_iff_zero]

theorem y9 (np nq : Bool) (wp wq : List Nat) (hp : wOK wp) (hq : wOK wq) (lp : wp.length <= 268435456) (lq : wq.length <= 268435456) :
  Con Tryz.prog 55 [AG (QC np wp nq wq)] { v := AG (PZ (rP (zv np wp) (zv nq wq)) (rQ (zv np wp) (zv nq wq))) } := by
 have z1 := gH (n := np) hp lp
 have z2 := gH (n := nq) hq lq
 generalize hx : zv np wp = x at *;generalize hy : zv nq wq = y at *
 have hgz : Int.gcd (zv (decide (x < 0)) (wof x.natAbs)) (zv (decide (y < 0)) (wof y.natAbs)) = Int.gcd x y := by rw [bu, bu]
 have hgl : zl (Int.gcd x y : Int) <= 268435456 := by
  by_cases h0 : y = 0
  ·subst h0
   rw [Int.gcd_zero_right, ut]; exact z1
  ·exact Nat.le_trans (ro x h0) z2
 have hg0 : (Int.gcd x y : Int).sign = 0 -> x = 0 /\ y = 0 := by
  intro h
  have := Int.sign_eq_zero_iff_zero.1 h
  exact Int.gcd_eq_zero_iff.1 (by omega)
 refine Z3 Tryz.func55 ?_
 intro w0 X
 rw [aq _ _ [(0, AG (QC np wp nq wq))] rfl rfl];refine gQ fun _ O=>?_;refine aG rfl rfl rfl rfl rfl rfl ?_;refine aw rfl rfl rfl rfl rfl rfl ?_;refine eQ O ?_;clear O;refine aL tok mixed (A := [[], [], [0], [], [], [0, 1, 3], [], [], [3, 4], []]) (an := [{}, {}, {}, { c := [8] }, { c := [8] }, {}, { c := [8, 11] }, { c := [8, 11, 3] }, {}, {}]) rfl (by kernel_rfl) rfl fun _ O=>?_;refine Z5 ?_;refine Z7 ?_;refine ac rfl rfl (hx ▸ iZ np wp hp (bc lp rfl)) rfl rfl rfl rfl ?_;refine Z5 ?_;refine Z7 ?_;refine ac rfl rfl (hy ▸ iZ nq wq hq (bc lq rfl)) rfl rfl rfl rfl ?_;refine aw rfl rfl rfl rfl rfl rfl ?_;refine aw rfl rfl rfl rfl rfl rfl ?_;refine aj rfl rfl rfl rfl rfl ?_;refine aj rfl rfl rfl rfl rfl ?_;refine eQ O ?_;clear O;refine gQ fun _ O=>?_;refine Z7 ?_;refine Z7 ?_;refine ac rfl rfl (hgz ▸ BD (decide (x < 0)) (decide (y < 0)) (wof x.natAbs) (wof y.natAbs) (ay _) (ay _) z1 z2) rfl rfl rfl rfl ?_;refine aw rfl rfl rfl rfl rfl rfl ?_;refine aj rfl rfl rfl rfl rfl ?_;refine eQ O ?_;clear O;refine c8 [(2, .ptr 2 0), (3, .ptr 3 0), (4, .ptr 4 0), (5, .ptr 5 0)] [(2, some (.box [.d (.lit (.bool false)), .nil, .d (.lit (.bool false)), .nil])), (3, some (.box (ZC x))), (4, some (.box (ZC y))), (5, some (.box (ZC (Int.gcd x y : Int))))] ⟨rfl, rfl, rfl, rfl, trivial⟩ ⟨rfl, rfl, rfl, rfl, trivial⟩ ?_;refine ag ?_;refine gQ fun _ O=>?_;refine Z7 ?_;refine ac rfl rfl (kh (Int.gcd x y : Int) (bc hgl rfl)) rfl rfl rfl rfl ?_;refine Z6 ?_;refine eQ O ?_;clear O;refine ap rfl (fun hc => ?_) (fun hc => ?_)
 ·obtain ⟨e1, e2⟩ := hg0 (by simpa using hc)
  refine gQ fun _ O=>?_;refine ac rfl rfl (rE 0 (by unfold I64; omega)) rfl rfl rfl rfl ?_;refine ac rfl rfl (rE 1 (by unfold I64; omega)) rfl rfl rfl rfl ?_;refine aI rfl rfl rfl ?_;refine aj rfl rfl rfl rfl rfl ?_;refine eQ O ?_;clear O;exact ah (bz (h3 := by rw [e1, e2]; rfl))
 have hne : ¬ (x = 0 /\ y = 0) := by
  rintro ⟨h1, h2⟩
  subst h1 h2
  simp at hc
 have hgn := sc hne
 have hgp : (0 : Int) < (Int.gcd x y : Int) := by omega
 have d1 : (Int.gcd x y : Int) ∣ x := Int.gcd_dvd_left ..
 have d2 : (Int.gcd x y : Int) ∣ y := Int.gcd_dvd_right ..
 have s1 := q8 hgp d1
 have s2 := q8 hgp d2
 have l1 : zl (x / (Int.gcd x y : Int)) <= 268435456 := Nat.le_trans (bM (dR x _)) z1
 have l2 : zl (y / (Int.gcd x y : Int)) <= 268435456 := Nat.le_trans (bM (dR y _)) z2
 have eP : rP x y = if mr x y then -(x / (Int.gcd x y : Int)) else x / (Int.gcd x y : Int) := by
  unfold rP rg; rw [if_neg hne]; split
  ·rw [Int.ediv_neg]
  ·rfl
 have eQQ : rQ x y = if mr x y then -(y / (Int.gcd x y : Int)) else y / (Int.gcd x y : Int) := by
  unfold rQ rg; rw [if_neg hne]; split
  ·rw [Int.ediv_neg]
  ·rfl
 have eN : mr x y = (decide (y / (Int.gcd x y : Int) < 0) || (decide (y / (Int.gcd x y : Int) = 0) && decide (x / (Int.gcd x y : Int) < 0))) := by
  unfold mr
  rw [decide_eq_decide.2 s2.1, decide_eq_decide.2 s2.2, decide_eq_decide.2 s1.1]
 refine ak ?_;show AWP _ _ _ _ _ _;refine gQ fun _ O=>?_;refine Z7 ?_;refine Z7 ?_;refine ac rfl rfl (nf x (Int.gcd x y : Int) z1 hgl hgn) rfl rfl rfl rfl ?_;refine Z9 ?_;refine au rfl rfl rfl ?_;refine au rfl rfl rfl ?_;refine au rfl rfl rfl ?_;refine aj rfl rfl rfl rfl rfl ?_;refine eQ O ?_;clear O;refine gQ fun _ O=>?_;refine Z7 ?_;refine Z7 ?_;refine ac rfl rfl (nf y (Int.gcd x y : Int) z2 hgl hgn) rfl rfl rfl rfl ?_;refine Z9 ?_;refine au rfl rfl rfl ?_;refine au rfl rfl rfl ?_;refine au rfl rfl rfl ?_;refine aj rfl rfl rfl rfl rfl ?_;refine eQ O ?_;clear O;generalize x / (Int.gcd x y : Int) = a at *;generalize y / (Int.gcd x y : Int) = b at *;refine bd (α := Unit) (fun _ => mk 55 [(2, .ptr 2 0), (3, .ptr 3 0), (4, .ptr 4 0)] [(2, some (.box [.d (.lit (.bool false)), .nil, .d (.lit (.bool false)), .nil])), (3, some (.box (ZC (rP x y)))), (4, some (.box (ZC (rQ x y))))] []) (fun _ => True) ?_ ?_
 ·refine c8 [(2, .ptr 2 0), (3, .ptr 3 0), (4, .ptr 4 0)] [(2, some (.box [.d (.lit (.bool false)), .nil, .d (.lit (.bool false)), .nil])), (3, some (.box (ZC a))), (4, some (.box (ZC b)))] ⟨rfl, rfl, rfl, trivial⟩ ⟨rfl, rfl, rfl, trivial⟩ ?_;refine bd (α := Bool) (fun c => mk 55 [(2, .ptr 2 0), (3, .ptr 3 0), (4, .ptr 4 0), (47, dB c)] [(2, some (.box [.d (.lit (.bool false)), .nil, .d (.lit (.bool false)), .nil])), (3, some (.box (ZC a))), (4, some (.box (ZC b)))] []) (fun c => c = mr x y) ?_ ?_
  ·refine dx fun _ O=>?_;refine aa tok rfl ?_;refine Z7 ?_;refine ab ?_;refine aa tok rfl ?_;refine ac rfl rfl (kh b (bc l2 rfl)) rfl rfl rfl rfl ?_;refine ab ?_;refine aa tok rfl ?_;refine Z6 ?_;refine ab ?_;refine aa tok rfl ?_;refine Z9 ?_;refine ab ?_;refine bF (fun hb => ?_) (fun hb => ?_)
   ·rw [(j5 b).1] at hb;refine ar rfl rfl ?_;refine ar rfl rfl ?_;refine ar rfl rfl ?_;refine ar rfl rfl ?_;refine jj rfl rfl rfl ?_;refine jj rfl rfl rfl ?_;refine jj rfl rfl rfl ?_;refine ar rfl rfl ?_;refine aa tok rfl ?_;refine Z4 ?_;refine ab ?_;refine aM rfl (O _ ?_); clear O;exact ⟨true, by rw [eN, hb, Bool.true_or], Wk.mk' ⟨rfl, rfl, rfl, rfl, trivial⟩ ⟨rfl, rfl, rfl, trivial⟩⟩
   rw [(j5 b).1] at hb;refine aa tok rfl ?_;refine Z7 ?_;refine ab ?_;refine aa tok rfl ?_;refine ac rfl rfl (kh b (bc l2 rfl)) rfl rfl rfl rfl ?_;refine ab ?_;refine aa tok rfl ?_;refine Z6 ?_;refine ab ?_;refine aa tok rfl ?_;refine Z9 ?_;refine ab ?_;refine bF (fun he => ?_) (fun he => ?_)
   ·rw [(j5 b).2] at he;refine aa tok rfl ?_;refine Z7 ?_;refine ab ?_;refine aa tok rfl ?_;refine ac rfl rfl (kh a (bc l1 rfl)) rfl rfl rfl rfl ?_;refine ab ?_;refine aa tok rfl ?_;refine Z6 ?_;refine ab ?_;refine aa tok rfl ?_;refine Z4 ?_;refine ab ?_;refine aa tok rfl ?_;refine Z4 ?_;refine ab ?_;refine aM rfl (O _ ?_); clear O;refine ⟨_, ?_, Wk.mk' ⟨rfl, rfl, rfl, rfl, trivial⟩ ⟨rfl, rfl, rfl, trivial⟩⟩;rw [eN, hb, he, Bool.false_or, Bool.true_and];exact (j5 a).1
   ·rw [(j5 b).2] at he;refine ar rfl rfl ?_;refine ar rfl rfl ?_;refine ar rfl rfl ?_;refine aa tok rfl ?_;refine Z4 ?_;refine ab ?_;refine aa tok rfl ?_;refine Z4 ?_;refine ab ?_;refine aM rfl (O _ ?_); clear O;exact ⟨false, by rw [eN, hb, he]; rfl, Wk.mk' ⟨rfl, rfl, rfl, rfl, trivial⟩ ⟨rfl, rfl, rfl, trivial⟩⟩
  rintro c hcr
  refine ap rfl (fun hc => ?_) (fun hc => ?_)
  ·rw [hcr] at hc;rw [hc, if_pos rfl] at eP eQQ;refine br tok mixed (A := [[], [], [], [0], [2], []]) (an := [{}, {}, { c := [49] }, {}, {}, {}]) rfl (by kernel_rfl) rfl fun _ O=>?_;refine Z7 ?_;refine ac rfl rfl (s9 a l1) rfl rfl rfl rfl ?_;refine Z7 ?_;refine ac rfl rfl (s9 b l2) rfl rfl rfl rfl ?_;refine aj rfl rfl rfl rfl rfl ?_;refine aj rfl rfl rfl rfl rfl ?_;refine eQ O ?_;clear O;exact ⟨(), trivial, Wk.mk' ⟨rfl, rfl, rfl, trivial⟩ ⟨rfl, by rw [eP]; rfl, by rw [eQQ]; rfl, trivial⟩⟩
  ·rw [hcr] at hc;rw [hc, if_neg (by decide)] at eP eQQ;refine ak ?_;exact ⟨(), trivial, Wk.mk' ⟨rfl, rfl, rfl, trivial⟩ ⟨rfl, by rw [eP]; rfl, by rw [eQQ]; rfl, trivial⟩⟩
 rintro - -
 show AWP _ _ _ _ _ (mk 55 [(2, .ptr 2 0), (3, .ptr 3 0), (4, .ptr 4 0)] [(2, some (.box [.d (.lit (.bool false)), .nil, .d (.lit (.bool false)), .nil])), (3, some (.box (ZC (rP x y)))), (4, some (.box (ZC (rQ x y))))] []);refine gQ fun _ O=>?_;refine Z7 ?_;refine Z7 ?_;refine aI rfl rfl rfl ?_;refine aj rfl rfl rfl rfl rfl ?_;refine eQ O ?_;clear O;exact ah aT

end Go.Proofs.YtceacleokgoooaaGreatDoor
