/- Part of a proof that a Go function answers true for every input. No condition. -/
import Derived.Test.YtfichkokppbipaaGreatDoorC5
set_option linter.unusedVariables false
set_option linter.unusedSimpArgs false
set_option linter.unusedSectionVars false
/- law27: Product. No condition. -/
namespace Go.Proofs.YtfichkokppbipaaGreatDoor
attribute [local irreducible] aH

theorem DZ {n : Nat} {e : Nat → Nat} (h1 : ∀ i, i < n → e i < n) (h2 : ∀ i j, i < n → j < n → e i = e j → i = j) : gf n (nmI n e) = true := by
 have hl : (nmI n e).length = n := by simp [nmI]
 have at_ : ∀ i (h : i < (nmI n e).length), (nmI n e)[i] = (e i : Int) := fun i h => by simp [nmI]
 refine decide_eq_true ⟨hl, fun i hi => ?_⟩
 have hin : i < n := by omega
 have h3 := h1 i hin
 refine ⟨by rw [at_]; omega, by rw [at_]; omega, ?_⟩;refine jE.1 ?_ i hi;refine List.pairwise_iff_getElem.2 fun a b ha hb hab e' => ?_;rw [at_, at_] at e'
 have := h2 a b (by omega) (by omega) (by omega)
 omega
theorem EY {n : Nat} {e : Nat → Nat} {i : Nat} (hi : i < n) : ordFn (nmI n e) i = e i := by
 unfold ordFn nmI
 rw [List.getD_eq_getElem?_getD, List.getElem?_eq_getElem (by simp; exact hi)]
 simp
theorem IsG.ord {rows : List (List Int)} {p : Bool} (g : GWF rows p) {n : Nat} {e : Nat → Nat} (hn : n = rows.length) (h1 : ∀ i, i < n → e i < n) (h2 : ∀ i j, i < n → j < n → e i = e j → i = j) :
  IsG n (dJ (mtv (gmW rows p)) e) (fun i => rwR rows (e i)) (if p = true then 1 else 0) := fun i j hi hj => by
 show aT (gmW rows p) (e i) (e j) = _
 rw [g.G (e i) (e j) (by have := h1 i hi; omega) (by have := h1 j hj; omega)]
 unfold gmM
 congr 1
 by_cases h : i = j
 ·rw [if_pos h, if_pos (by rw [h])]
 ·rw [if_neg h, if_neg (fun e => h (h2 i j hi hj e))]
set_option maxHeartbeats 4000000 in
theorem Cb (rows : List (List Int)) (cs : List Nat) (hw : ∀ r ∈ rows, L8 r) (hml : rows.length ≤ 9223372036854775807) (h8 : ∀ c ∈ cs, c < 256) : Con Tryz.prog 8 [V1 (dM8 rows), V1 (dB8 cs)] { v := dB true } := by
 have c1 : Con Tryz.prog 40 [dI 1, dI 1] { v := AG (qzW 1).cs } := iy 1 ⟨by omega, by omega⟩
 have c0 : Con Tryz.prog 40 [dI 0, dI 1] { v := AG (qzW 0).cs } := iy 0 ⟨by omega, by omega⟩
 refine cnQ Tryz.func8 ?_
 intro w0 X
 rw [aq _ _ [(0, V1 (dM8 rows)), (1, V1 (dB8 cs))] rfl rfl];refine gQ fun K hK=>?_;refine asQ ?_;refine eQ hK ?_;clear hK K;refine ab ?_;refine aX (α := Bool) (fun c => mk 179 [(0, V1 (dM8 rows)), (1, V1 (dB8 cs)), (25, dB c)] [] []) (fun c => c = !jS rows) ?_ ?_
 ·refine bn fun K hK => ?_;refine ah tok rfl ?_;refine ac rfl rfl (bR) rfl rfl rfl rfl ?_;refine ak ?_;refine ah tok rfl ?_;refine b6 rfl rfl rfl ?_;refine ak ?_;refine ah tok rfl ?_;refine mvQ ?_;refine ak ?_;refine bH (fun h0 => ?_) (fun h0 => ?_)
  ·refine ax rfl rfl ?_;refine ax rfl rfl ?_;refine ax rfl rfl ?_;refine ah tok rfl ?_;refine piQ ?_;refine ak ?_;refine bm rfl (hK _ ?_); clear hK K
   first|(exact absurd h0 (by decide))|exact ⟨_, (by simp only [Bool.not_eq_true', Bool.not_eq_false'] at h0; simp only [h0, Bool.not_false, Bool.not_true]), Wk.mk' ⟨rfl, rfl, rfl, trivial⟩ trivial⟩
  ·refine ah tok rfl ?_;refine mvQ ?_;refine ak ?_;refine ah tok rfl ?_;refine ac rfl rfl (p5 rows hml) rfl rfl rfl rfl ?_;refine ak ?_;refine ah tok rfl ?_;refine b6 rfl rfl rfl ?_;refine ak ?_;refine ah tok rfl ?_;refine piQ ?_;refine ak ?_;refine bm rfl (hK _ ?_); clear hK K
   first|(exact absurd h0 (by decide))|exact ⟨_, (by simp only [Bool.not_eq_true', Bool.not_eq_false'] at h0; simp only [h0, Bool.not_false, Bool.not_true]), Wk.mk' ⟨rfl, rfl, rfl, trivial⟩ trivial⟩
 rintro c rfl
 refine aj rfl (fun hc => ?_) (fun hc => ?_)
 ·refine gQ fun K hK=>?_;refine ac rfl rfl (bR) rfl rfl rfl rfl ?_;refine asQ ?_;refine eQ hK ?_;clear hK K;exact ai aK
 rw [Bool.not_eq_false'] at hc
 have hbr := hc
 have g := GWF.of hbr hw true
 have n5 := g.n5
 have glen := g.len
 obtain ⟨n, hn⟩ : ∃ n, n = rows.length := ⟨_, rfl⟩
 have hgl : ((gmW rows true).map cM).length = n := by rw [List.length_map, g.len, hn]
 have cG := rO rows true n5 (of_decide_eq_true hbr).2 (fun r hr => (hw r hr).1)
 have cP := sG n cs (by omega) h8
 have he1 := vk n cs
 have he2 := sH n cs
 generalize pp n cs = e at cP he1 he2
 obtain ⟨e', he'⟩ : ∃ e', e' = ordFn (nmI n e) := ⟨_, rfl⟩
 have ee : ∀ i, i < n → e' i = e i := fun i hi => by rw [he']; exact EY hi
 have G : IsG n (dJ (mtv (gmW rows true)) e') (fun i => rwR rows (e' i)) 1 := IsG.ord g hn (fun i hi => by rw [ee i hi]; exact he1 i hi) (fun i j hi hj h => he2 i j hi hj (by rw [← ee i hi, ← ee j hj]; exact h))
 have hO : gf (gmW rows true).length (nmI n e) = true := by rw [g.len, ← hn]; exact DZ he1 he2
 have hq : ∀ i j, ql (dJ (mtv (gmW rows true)) e' i j) ≤ 2 := fun i j => ca g.ok rfl _ _
 have hS := (ew (B := dJ (mtv (gmW rows true)) e') (n := n) (by omega) G.sym (fun i j _ _ => hq i j)).1
 have cF := mr (gmW rows true) (nmI n e) (by omega) (fun r hr => by rw [g.rw r hr]; omega) (g.ok.mono rfl) (by simp [nmI]; omega) (fun _ _ => by rw [← he', g.len, ← hn]; exact hS)
 have hD := G.DD (by decide)
 rw [d6, if_pos g.v, if_pos hO, ← he', g.len, ← hn, ij, if_pos (G.pos (by decide)), ← ny] at cF
 have cDet := tI (gmW rows true) (by omega) (fun r hr => by rw [g.rw r hr]; omega) (g.ok.mono rfl) (fun _ => lg (by omega) (fun i j _ _ => ca g.ok rfl i j))
 rw [j2, if_pos g.v, g.len, ← hn] at cDet
 have eDt : dt n (aT (gmW rows true)) = pr n (DD (dJ (mtv (gmW rows true)) e')) := by
  rw [← mE G.sym (fun k hk => by have := hD k (by omega); grind)];exact (rx n (Nat.le_refl _) (fun i hi => by rw [ee i hi]; exact he1 i hi) (fun i j hi hj h => he2 i j hi hj (by rw [← ee i hi, ← ee j hj]; exact h)) (fun i h1 h2 => by omega)).symm
 have hBe : ∀ i j, i < n → j < n → ((gmE rows true (e i) (e j) : Int) : Rat) = dJ (mtv (gmW rows true)) e' i j := fun i j hi hj => by
  show _ = aT (gmW rows true) (e' i) (e' j)
  rw [ee i hi, ee j hj, As (by have := he1 i hi; omega) (by have := he1 j hj; omega)]
 have hldl : ∀ i j, i < n → j < n → sm n (fun k => LL (dJ (mtv (gmW rows true)) e') i k * DD (dJ (mtv (gmW rows true)) e') k * LL (dJ (mtv (gmW rows true)) e') j k) = dJ (mtv (gmW rows true)) e' i j := fun i j hi hj => by
  rw [← ldl G.sym (fun k hk => by have := hD k (by omega); grind) hi hj];exact az fun k _ => Rat.mul_assoc _ _ _
 rw [eDt] at cDet;clear G hO eDt;generalize dJ (mtv (gmW rows true)) e' = B at *
 have qD : ∀ i, i < n → ql (DD B i) ≤ 65536 := fun i hi => (hS i hi fun k hk => hD k (by omega)).1
 have qL : ∀ i j, i < n → ql (LL B i j) ≤ 65536 := fun i j hi => by
  rcases Nat.lt_or_ge j i with h | h
  ·exact (hS i hi fun k hk => hD k (by omega)).2 j h
  ·by_cases e : j = i
   ·rw [e, cC]; decide
   ·rw [gS B (by omega)]; decide
 have qp : ∀ k, k ≤ n → ql (pr k (DD B)) ≤ 1 + k * 65536 := fun k => by
  induction k with
  | zero => intro _; show ql (1 : Rat) ≤ 1 + 0 * 65536; decide
  | succ k ih =>
   intro hk
   rw [ib]
   have := aU (ih (by omega)) (qD k (by omega))
   exact Nat.le_trans this (by rw [Nat.succ_mul]; omega)
 have hpp := tW hD
 clear hS hw hml;refine ag ?_;show AWP _ _ _ _ _ _;refine gQ fun K hK=>?_;refine mvQ ?_;refine ac rfl rfl (cG) rfl rfl rfl rfl ?_;refine asQ ?_;refine eQ hK ?_;clear hK K;refine gQ fun K hK=>?_;refine mvQ ?_;refine au rfl (dH (n := n) rfl rfl hgl) rfl ?_;refine asQ ?_;refine eQ hK ?_;clear hK K;refine gQ fun K hK=>?_;refine mvQ ?_;refine mvQ ?_;refine ac rfl rfl (cP) rfl rfl rfl rfl ?_;refine asQ ?_;refine eQ hK ?_;clear hK K;refine gQ fun K hK=>?_;refine mvQ ?_;refine mvQ ?_;refine ac rfl rfl (cF) rfl rfl rfl rfl ?_;refine mvQ ?_;refine am rfl rfl rfl ?_;refine am rfl rfl rfl ?_;refine am rfl rfl rfl ?_;refine asQ ?_;refine asQ ?_;refine asQ ?_;refine eQ hK ?_;clear hK K;refine gQ fun K hK=>?_;refine mvQ ?_;refine ac rfl rfl (cDet) rfl rfl rfl rfl ?_;refine mvQ ?_;refine am rfl rfl rfl ?_;refine am rfl rfl rfl ?_;refine aw rfl rfl rfl rfl rfl rfl ?_;refine al rfl rfl rfl rfl rfl ?_;refine asQ ?_;refine eQ hK ?_;clear hK K;refine ab ?_;refine gQ fun K hK=>?_;refine mvQ ?_;refine biQ ?_;refine mvQ ?_;refine mvQ ?_;refine biQ ?_;refine piQ ?_;refine mvQ ?_;refine mvQ ?_;refine au rfl (iB rfl rfl) rfl ?_;refine mvQ ?_;refine ap rfl (iG (c := false) (by simp)) rfl ?_;refine piQ ?_;refine mvQ ?_;refine mvQ ?_;refine au rfl (sO rfl rfl) rfl ?_;refine mvQ ?_;refine ap rfl (iG (c := false) (by simp)) rfl ?_;refine piQ ?_;refine eQ hK ?_;clear hK K;refine aj rfl (fun h => by cases h) (fun _ => ?_);refine ag ?_;show AWP _ _ _ _ _ _;refine ab ?_;refine gQ fun K hK=>?_;refine asQ ?_;refine eQ hK ?_;clear hK K;refine ae (aC (α := Nat) (fun i => mk 179 [(5, V1 (dMs (gmW rows true))), (6, dI n), (7, V1 (.sl (nmD n e))), (8, V1 (dMs (gx B n))), (9, V1 (dRs (iD B n))), (11, .ptr 11 0), (13, dI i)] [(11, some (.box (qzW (pr n (DD B))).cs))] []) (fun i => i ≤ n) (fun i => n - i) 0 ?_ (Nat.zero_le _) ?_)
 ·exact Wk.mk' ⟨rfl, rfl, rfl, rfl, rfl, rfl, rfl, trivial⟩ ⟨rfl, trivial⟩
 intro i hi
 refine ab ?_;refine gQ fun K hK=>?_;refine mvQ ?_;refine mvQ ?_;refine biQ ?_;refine eQ hK ?_;clear hK K;refine aj rfl (fun hg => ?_) (fun hg => ?_)
 ·have hg : i < n := by simp at hg; omega
  refine ag ?_;show AWP _ _ _ _ _ _;refine ab ?_;refine ae ?_;refine gQ fun K hK=>?_;refine mvQ ?_;refine mvQ ?_;refine aa rfl (gi rfl rfl rfl rfl rfl hg) rfl ?_;refine ldQ ?_;refine au rfl (sO rfl rfl) rfl ?_;refine mvQ ?_;refine ap rfl (iG (c := false) (by simp)) rfl ?_;refine eQ hK ?_;clear hK K;refine aj rfl (fun h => by cases h) (fun _ => ?_);refine ag ?_;show AWP _ _ _ _ _ _;refine gR fun K hK=>?_;refine mvQ ?_;refine ap rfl (aA (c := ((i + 1 : Nat) : Int)) (by omega) (by omega)) rfl ?_;refine asQ ?_;refine eQ hK ?_;clear hK K;exact ⟨i + 1, by omega, hg, Wk.mk' ⟨rfl, rfl, rfl, rfl, rfl, rfl, rfl, trivial⟩ ⟨rfl, trivial⟩⟩
 refine ar ?_;show AWP _ _ _ _ _ _;refine gQ fun K hK=>?_;refine ac rfl rfl (c1) rfl rfl rfl rfl ?_;refine aw rfl rfl rfl rfl rfl rfl ?_;refine al rfl rfl rfl rfl rfl ?_;refine eQ hK ?_;clear hK K;refine ab ?_;refine gQ fun K hK=>?_;refine asQ ?_;refine eQ hK ?_;clear hK K;refine ae (aC (α := Nat) (fun i => mk 179 [(5, V1 (dMs (gmW rows true))), (6, dI n), (7, V1 (.sl (nmD n e))), (8, V1 (dMs (gx B n))), (9, V1 (dRs (iD B n))), (11, .ptr 11 0), (14, .ptr 14 0), (15, dI i)] [(11, some (.box (qzW (pr n (DD B))).cs)), (14, some (.box (qzW (pr i (DD B))).cs))] []) (fun i => i ≤ n) (fun i => n - i) 0 ?_ (Nat.zero_le _) ?_)
 ·exact Wk.mk' ⟨rfl, rfl, rfl, rfl, rfl, rfl, rfl, rfl, trivial⟩ ⟨rfl, rfl, trivial⟩
 intro i hi
 refine ab ?_;refine gQ fun K hK=>?_;refine mvQ ?_;refine mvQ ?_;refine biQ ?_;refine eQ hK ?_;clear hK K;refine aj rfl (fun hg => ?_) (fun hg => ?_)
 ·have hg : i < n := by simp at hg; omega
  have qi := qp i (by omega)
  have cm := kp (qzW (pr i (DD B))) (qzW (DD B i)) (pr (i + 1) (DD B)) (aB (by omega)) ((aB (qD i hg)).mono rfl) (by rw [aL, aL, ib])
  refine ag ?_;show AWP _ _ _ _ _ _;refine ab ?_;refine ae ?_;refine aQ tok mixed (A := [[], [], [], [], [1, 2], [1, 2, 3], []]) (an := [{}, {}, {}, {}, {}, {}, {}]) rfl (by kernel_rfl) rfl fun K hK => ?_;refine ldQ ?_;refine mvQ ?_;refine mvQ ?_;refine aa rfl (x_v rfl rfl rfl rfl rfl hg) rfl ?_;refine ldQ ?_;refine ac rfl rfl (cm) rfl rfl rfl rfl ?_;refine al rfl rfl rfl rfl rfl ?_;refine eQ hK ?_;clear hK K;refine gQ fun K hK=>?_;refine asQ ?_;refine eQ hK ?_;clear hK K;refine ae (aC (α := Nat) (fun j => mk 179 [(5, V1 (dMs (gmW rows true))), (6, dI n), (7, V1 (.sl (nmD n e))), (8, V1 (dMs (gx B n))), (9, V1 (dRs (iD B n))), (11, .ptr 11 0), (14, .ptr 14 0), (15, dI i), (16, dI j)] [(11, some (.box (qzW (pr n (DD B))).cs)), (14, some (.box (qzW (pr (i + 1) (DD B))).cs))] []) (fun j => j ≤ n) (fun j => n - j) 0 ?_ (Nat.zero_le _) ?_)
  ·exact Wk.mk' ⟨rfl, rfl, rfl, rfl, rfl, rfl, rfl, rfl, rfl, trivial⟩ ⟨rfl, rfl, trivial⟩
  intro j hj
  refine ab ?_;refine gQ fun K hK=>?_;refine mvQ ?_;refine mvQ ?_;refine biQ ?_;refine eQ hK ?_;clear hK K;refine aj rfl (fun hf => ?_) (fun hf => ?_)
  ·have hf : j < n := by simp at hf; omega
   have qt : ∀ k, k < n → ql (LL B i k * DD B k * LL B j k) ≤ 196608 := fun k hk => Nat.le_trans (aU (aU (qL i k hg) (qD k hk)) (qL j k hf)) (by decide)
   have qs : ∀ k, k ≤ n → ql (sm k fun k => LL B i k * DD B k * LL B j k) ≤ 16777216 := fun k hk => by
    have h := jl (k := k) (f := fun k => LL B i k * DD B k * LL B j k) (M := 196608) fun t ht => qt t (by omega)
    have h1 : k * (196608 + 1) ≤ 5 * (196608 + 1) := Nat.mul_le_mul_right _ (by omega)
    exact Nat.le_trans h (Nat.le_trans (Nat.add_le_add_left h1 1) (by decide))
   refine ag ?_;show AWP _ _ _ _ _ _;refine ab ?_;refine ae ?_;refine gQ fun K hK=>?_;refine ac rfl rfl (c0) rfl rfl rfl rfl ?_;refine aw rfl rfl rfl rfl rfl rfl ?_;refine al rfl rfl rfl rfl rfl ?_;refine eQ hK ?_;clear hK K;refine ab ?_;refine gQ fun K hK=>?_;refine asQ ?_;refine eQ hK ?_;clear hK K;refine ae (aC (α := Nat) (fun k => mk 179 [(5, V1 (dMs (gmW rows true))), (6, dI n), (7, V1 (.sl (nmD n e))), (8, V1 (dMs (gx B n))), (9, V1 (dRs (iD B n))), (11, .ptr 11 0), (14, .ptr 14 0), (15, dI i), (16, dI j), (17, .ptr 17 0), (18, dI k)] [(11, some (.box (qzW (pr n (DD B))).cs)), (14, some (.box (qzW (pr (i + 1) (DD B))).cs)), (17, some (.box (qzW (sm k fun k => LL B i k * DD B k * LL B j k)).cs))] []) (fun k => k ≤ n) (fun k => n - k) 0 ?_ (Nat.zero_le _) ?_)
   ·exact Wk.mk' ⟨rfl, rfl, rfl, rfl, rfl, rfl, rfl, rfl, rfl, rfl, rfl, trivial⟩ ⟨rfl, rfl, rfl, trivial⟩
   intro k hk
   refine ab ?_;refine gQ fun K hK=>?_;refine mvQ ?_;refine mvQ ?_;refine biQ ?_;refine eQ hK ?_;clear hK K;refine aj rfl (fun hx => ?_) (fun hx => ?_)
   ·have hx : k < n := by simp at hx; omega
    have m1 := kp (qzW (LL B i k)) (qzW (DD B k)) (LL B i k * DD B k) ((aB (qL i k hg)).mono rfl) ((aB (qD k hx)).mono rfl) (by rw [aL, aL])
    have m2 := kp (qzW (LL B i k * DD B k)) (qzW (LL B j k)) (LL B i k * DD B k * LL B j k) (aB (Nat.le_trans (aU (qL i k hg) (qD k hx)) (by decide))) ((aB (qL j k hf)).mono rfl) (by rw [aL, aL])
    have m3 := zX (qzW (sm k fun k => LL B i k * DD B k * LL B j k)) (qzW (LL B i k * DD B k * LL B j k)) (sm (k + 1) fun k => LL B i k * DD B k * LL B j k) (aB (qs k hk)) (aB (Nat.le_trans (qt k hx) (by decide))) (by rw [aL, aL, bW])
    refine ag ?_;show AWP _ _ _ _ _ _;refine ab ?_;refine ae ?_;refine bA tok mixed (A := [[], [], [], [], [1, 2], [], [1, 2, 3], [1, 2, 3, 4, 5], [], [], [], [8, 9], [1, 2, 3, 4, 5, 6, 8, 9, 10], [], [], [], [13, 14], [], [13, 14, 15], [13, 14, 15, 16, 17], [1, 2, 3, 4, 5, 6, 7, 8, 9, 10, 11, 13, 14, 15, 16, 17, 18], [1, 2, 3, 4, 5, 6, 7, 8, 9, 10, 11, 12, 13, 14, 15, 16, 17, 18, 19], []]) (an := [{}, {}, {}, {}, {}, {}, {}, {}, {}, {}, {}, {}, {}, { c := [111] }, { c := [111] }, { c := [111] }, { c := [111] }, { c := [111] }, { c := [111] }, { c := [111] }, {}, {}, {}]) rfl (by kernel_rfl) rfl fun K hK => ?_;refine ldQ ?_;refine mvQ ?_;refine mvQ ?_;refine aa rfl (gi rfl rfl rfl rfl rfl hg) rfl ?_;refine ldQ ?_;refine mvQ ?_;refine aa rfl (x_v rfl rfl rfl rfl rfl hx) rfl ?_;refine ldQ ?_;refine mvQ ?_;refine mvQ ?_;refine aa rfl (x_v rfl rfl rfl rfl rfl hx) rfl ?_;refine ldQ ?_;refine ac rfl rfl (m1) rfl rfl rfl rfl ?_;refine mvQ ?_;refine mvQ ?_;refine aa rfl (gi rfl rfl rfl rfl rfl hf) rfl ?_;refine ldQ ?_;refine mvQ ?_;refine aa rfl (x_v rfl rfl rfl rfl rfl hx) rfl ?_;refine ldQ ?_;refine ac rfl rfl (m2) rfl rfl rfl rfl ?_;refine ac rfl rfl (m3) rfl rfl rfl rfl ?_;refine al rfl rfl rfl rfl rfl ?_;refine eQ hK ?_;clear hK K;show AWP _ _ _ _ _ _;refine gR fun K hK=>?_;refine mvQ ?_;refine ap rfl (aA (c := ((k + 1 : Nat) : Int)) (by omega) (by omega)) rfl ?_;refine asQ ?_;refine eQ hK ?_;clear hK K;exact ⟨k + 1, by omega, hx, Wk.mk' ⟨rfl, rfl, rfl, rfl, rfl, rfl, rfl, rfl, rfl, rfl, rfl, trivial⟩ ⟨rfl, rfl, rfl, trivial⟩⟩
   have hx : k = n := by simp at hx; omega
   subst hx
   have hB := hldl i j hg hf
   have qB := hq i j
   have cc := oI (qzW (B i j)) (qzW (gmE rows true (e i) (e j) : Int)) ((aB qB).mono rfl) ((aB (by rw [hBe i j hg hf]; exact qB)).mono (k := 2) rfl)
   have hc0 : oH (qzW (B i j)).v (qzW (gmE rows true (e i) (e j) : Int)).v = 0 := by rw [aL, aL, hBe i j hg hf]; exact (qM _ _).2 rfl
   rw [hc0] at cc
   have ei := he1 i hg
   have ej := he1 j hf
   have e0 : rows.length = k := hn.symm
   have xg : ∀ a, a < k → a < rows.length := fun a ha => by omega
   rw [hB];refine ar ?_;show AWP _ _ _ _ _ _
   rcases Nat.lt_trichotomy j i with hji | hji | hji
   ·refine aQ tok mixed (A := [[], [], [], [], [], [2, 3], [2, 3, 4], [1, 2, 3, 4, 5], [], [], [], [8, 9], [1, 2, 3, 4, 5, 6, 8, 9, 10], [1, 2, 3, 4, 5, 6, 7, 8, 9, 10, 11], [1, 2, 3, 4, 5, 6, 7, 8, 9, 10, 11, 12], [0, 1, 2, 3, 4, 5, 6, 7, 8, 9, 10, 11, 12, 13], [0, 1, 2, 3, 4, 5, 6, 7, 8, 9, 10, 11, 12, 13], [0, 1, 2, 3, 4, 5, 6, 7, 8, 9, 10, 11, 12, 13, 14, 15], [0, 1, 2, 3, 4, 5, 6, 7, 8, 9, 10, 11, 12, 13, 14, 15], [0, 1, 2, 3, 4, 5, 6, 7, 8, 9, 10, 11, 12, 13, 14, 15], [0, 1, 2, 3, 4, 5, 6, 7, 8, 9, 10, 11, 12, 13, 14, 15, 17, 18], [0, 1, 2, 3, 4, 5, 6, 7, 8, 9, 10, 11, 12, 13, 14, 15, 16, 17, 18, 19], [0, 1, 2, 3, 4, 5, 6, 7, 8, 9, 10, 11, 12, 13, 14, 15, 16, 17, 18, 19], [0, 1, 2, 3, 4, 5, 6, 7, 8, 9, 10, 11, 12, 13, 14, 15, 16, 17, 18, 19], [0, 1, 2, 3, 4, 5, 6, 7, 8, 9, 10, 11, 12, 13, 14, 15, 16, 17, 18, 19, 21, 22], [0, 1, 2, 3, 4, 5, 6, 7, 8, 9, 10, 11, 12, 13, 14, 15, 16, 17, 18, 19], [0, 1, 2, 3, 4, 5, 6, 7, 8, 9, 10, 11, 12, 13, 14, 15, 16, 17, 18, 19, 21, 22, 23], [0, 1, 2, 3, 4, 5, 6, 7, 8, 9, 10, 11, 12, 13, 14, 15, 16, 17, 18, 19, 21, 22, 23, 24, 25], [0, 1, 2, 3, 4, 5, 6, 7, 8, 9, 10, 11, 12, 13, 14, 15, 16, 17, 18, 19, 21, 22, 23, 24, 25, 26], [0, 1, 2, 3, 4, 5, 6, 7, 8, 9, 10, 11, 12, 13, 14, 15, 16, 17, 18, 19, 21, 22, 23, 24, 25, 26, 27], [0, 1, 2, 3, 4, 5, 6, 7, 8, 9, 10, 11, 12, 13, 14, 15, 17, 18, 19, 21, 22, 23, 24, 25, 26, 27, 28], [0, 1, 2, 3, 4, 5, 6, 7, 8, 9, 10, 11, 12, 13, 14, 15, 17, 18, 19, 20, 21, 22, 23, 24, 25, 26, 27, 28, 29], [0, 1, 2, 3, 4, 5, 6, 7, 8, 9, 10, 11, 12, 13, 14, 15, 16, 17, 18, 19, 20, 21, 22, 23, 24, 25, 26, 27, 29, 30], [0, 1, 2, 3, 4, 5, 6, 7, 8, 9, 10, 11, 12, 13, 14, 15, 16, 17, 18, 19, 20, 21, 22, 23, 24, 25, 26, 27, 28, 29, 30, 31], [0, 1, 2, 3, 4, 5, 6, 7, 8, 9, 10, 11, 12, 13, 14, 15, 16, 17, 18, 19, 20, 21, 22, 23, 24, 25, 26, 27, 28, 29, 30, 31], [0, 1, 2, 3, 4, 5, 6, 7, 8, 9, 10, 11, 12, 13, 14, 15, 16, 17, 18, 19, 20, 21, 22, 23, 24, 25, 26, 27, 28, 29, 30, 31], [0, 1, 2, 3, 4, 5, 6, 7, 8, 9, 10, 11, 12, 13, 14, 15, 16, 17, 18, 19, 20, 21, 22, 23, 24, 25, 26, 27, 28, 29, 30, 31, 33, 34], [0, 1, 2, 3, 4, 5, 6, 7, 8, 9, 10, 11, 12, 13, 14, 15, 16, 17, 18, 19, 20, 21, 22, 23, 24, 25, 26, 27, 28, 29, 30, 31, 32, 33, 34, 35], [0, 1, 2, 3, 4, 5, 6, 7, 8, 9, 10, 11, 12, 13, 14, 15, 16, 17, 18, 19, 20, 21, 22, 23, 24, 25, 26, 27, 28, 29, 30, 31, 32, 33, 34, 35], [0, 1, 2, 3, 4, 5, 6, 7, 8, 9, 10, 11, 12, 13, 14, 15, 16, 17, 18, 19, 20, 21, 22, 23, 24, 25, 26, 27, 28, 29, 30, 31, 32, 33, 34, 35], [0, 1, 2, 3, 4, 5, 6, 7, 8, 9, 10, 11, 12, 13, 14, 15, 16, 17, 18, 19, 20, 21, 22, 23, 24, 25, 26, 27, 28, 29, 30, 31, 32, 33, 34, 35, 37, 38], [0, 1, 2, 3, 4, 5, 6, 7, 8, 9, 10, 11, 12, 13, 14, 15, 16, 17, 18, 19, 20, 21, 22, 23, 24, 25, 26, 27, 28, 29, 30, 31, 32, 33, 34, 35], [0, 1, 2, 3, 4, 5, 6, 7, 8, 9, 10, 11, 12, 13, 14, 15, 16, 17, 18, 19, 20, 21, 22, 23, 24, 25, 26, 27, 28, 29, 30, 31, 32, 33, 34, 35, 37, 38, 39], [0, 1, 2, 3, 4, 5, 6, 7, 8, 9, 10, 11, 12, 13, 14, 15, 16, 17, 18, 19, 20, 21, 22, 23, 24, 25, 26, 27, 28, 29, 30, 31, 32, 33, 34, 35, 37, 38, 39, 40, 41], [0, 1, 2, 3, 4, 5, 6, 7, 8, 9, 10, 11, 12, 13, 14, 15, 16, 17, 18, 19, 20, 21, 22, 23, 24, 25, 26, 27, 28, 29, 30, 31, 32, 33, 34, 35], [0, 1, 2, 3, 4, 5, 6, 7, 8, 9, 10, 11, 12, 13, 14, 15, 16, 17, 18, 19, 20, 21, 22, 23, 24, 25, 26, 27, 28, 29, 30, 31, 32, 33, 34, 35, 37, 38, 39, 40, 41, 42], [0, 1, 2, 3, 4, 5, 6, 7, 8, 9, 10, 11, 12, 13, 14, 15, 16, 17, 18, 19, 20, 21, 22, 23, 24, 25, 26, 27, 28, 29, 30, 31, 32, 33, 34, 35, 37, 38, 39, 40, 41, 42, 43, 44], [0, 1, 2, 3, 4, 5, 6, 7, 8, 9, 10, 11, 12, 13, 14, 15, 16, 17, 18, 19, 20, 21, 22, 23, 24, 25, 26, 27, 28, 29, 30, 31, 33, 34, 35, 37, 38, 39, 40, 41, 42, 43, 44, 45], [0, 1, 2, 3, 4, 5, 6, 7, 8, 9, 10, 11, 12, 13, 14, 15, 16, 17, 18, 19, 20, 21, 22, 23, 24, 25, 26, 27, 28, 29, 30, 31, 33, 34, 35, 36, 37, 38, 39, 40, 41, 42, 43, 44, 45, 46]]) (an := [{}, {}, {}, {}, {}, {}, {}, {}, {}, {}, {}, {}, {}, {}, {}, {}, {}, {}, {}, {}, {}, {}, {}, {}, {}, {}, {}, {}, {}, {}, {}, {}, {}, {}, {}, {}, {}, {}, {}, {}, {}, {}, {}, {}, {}, {}, {}, {}, {}]) rfl (by kernel_rfl) rfl fun K hK => ?_;refine ldQ ?_;refine mvQ ?_;refine mvQ ?_;refine mvQ ?_;refine aa rfl (x_n rfl rfl rfl rfl rfl hg) rfl ?_;refine ldQ ?_;refine aa rfl (gi rfl rfl rfl rfl rfl (xg _ ei)) rfl ?_;refine ldQ ?_;refine mvQ ?_;refine mvQ ?_;refine aa rfl (x_n rfl rfl rfl rfl rfl hf) rfl ?_;refine ldQ ?_;refine aa rfl (x_v rfl rfl rfl rfl rfl (xg _ ej)) rfl ?_;refine ldQ ?_;refine ac rfl rfl (cc) rfl rfl rfl rfl ?_;refine biQ ?_;refine mvQ ?_;refine mvQ ?_;refine mvQ ?_;refine ap rfl (nL (c := false) (decide_eq_false (by omega))) rfl ?_;refine mvQ ?_;refine av rfl ?_;refine av rfl ?_;refine av rfl ?_;refine av rfl ?_;refine av rfl ?_;refine av rfl ?_;refine av rfl ?_;refine av rfl ?_;refine av rfl ?_;refine piQ ?_;refine piQ ?_;refine mvQ ?_;refine mvQ ?_;refine mvQ ?_;refine ap rfl (p3 (c := false) (by simp; omega)) rfl ?_;refine mvQ ?_;refine av rfl ?_;refine av rfl ?_;refine av rfl ?_;refine av rfl ?_;refine av rfl ?_;refine av rfl ?_;refine av rfl ?_;refine av rfl ?_;refine av rfl ?_;refine av rfl ?_;refine piQ ?_;refine piQ ?_;refine eQ hK ?_;clear hK K;refine aj rfl (fun h => by cases h) (fun _ => ?_);refine ag ?_;show AWP _ _ _ _ _ _;refine gR fun K hK=>?_;refine mvQ ?_;refine ap rfl (aA (c := ((j + 1 : Nat) : Int)) (by omega) (by omega)) rfl ?_;refine asQ ?_;refine eQ hK ?_;clear hK K;exact ⟨j + 1, by omega, hf, Wk.mk' ⟨rfl, rfl, rfl, rfl, rfl, rfl, rfl, rfl, rfl, trivial⟩ ⟨rfl, rfl, trivial⟩⟩
   ·have c11 := oI (qzW (LL B i i)) (qzW 1) ((aB (qL i i hg)).mono rfl) (aB (by decide))
    have hc1 : oH (qzW (LL B i i)).v (qzW 1).v = 0 := by rw [aL, aL, cC]; exact (qM _ _).2 rfl
    rw [hc1] at c11
    subst hji
    refine aQ tok mixed (A := [[], [], [], [], [], [2, 3], [2, 3, 4], [1, 2, 3, 4, 5], [], [], [], [8, 9], [1, 2, 3, 4, 5, 6, 8, 9, 10], [1, 2, 3, 4, 5, 6, 7, 8, 9, 10, 11], [1, 2, 3, 4, 5, 6, 7, 8, 9, 10, 11, 12], [0, 1, 2, 3, 4, 5, 6, 7, 8, 9, 10, 11, 12, 13], [0, 1, 2, 3, 4, 5, 6, 7, 8, 9, 10, 11, 12, 13], [0, 1, 2, 3, 4, 5, 6, 7, 8, 9, 10, 11, 12, 13, 14, 15], [0, 1, 2, 3, 4, 5, 6, 7, 8, 9, 10, 11, 12, 13, 14, 15], [0, 1, 2, 3, 4, 5, 6, 7, 8, 9, 10, 11, 12, 13, 14, 15], [0, 1, 2, 3, 4, 5, 6, 7, 8, 9, 10, 11, 12, 13, 14, 15, 17, 18], [0, 1, 2, 3, 4, 5, 6, 7, 8, 9, 10, 11, 12, 13, 14, 15, 16, 17, 18, 19], [0, 1, 2, 3, 4, 5, 6, 7, 8, 9, 10, 11, 12, 13, 14, 15, 16, 17, 18, 19], [0, 1, 2, 3, 4, 5, 6, 7, 8, 9, 10, 11, 12, 13, 14, 15, 16, 17, 18, 19], [0, 1, 2, 3, 4, 5, 6, 7, 8, 9, 10, 11, 12, 13, 14, 15, 16, 17, 18, 19, 21, 22], [0, 1, 2, 3, 4, 5, 6, 7, 8, 9, 10, 11, 12, 13, 14, 15, 16, 17, 18, 19], [0, 1, 2, 3, 4, 5, 6, 7, 8, 9, 10, 11, 12, 13, 14, 15, 16, 17, 18, 19, 21, 22, 23], [0, 1, 2, 3, 4, 5, 6, 7, 8, 9, 10, 11, 12, 13, 14, 15, 16, 17, 18, 19, 21, 22, 23, 24, 25], [0, 1, 2, 3, 4, 5, 6, 7, 8, 9, 10, 11, 12, 13, 14, 15, 16, 17, 18, 19, 21, 22, 23, 24, 25, 26], [0, 1, 2, 3, 4, 5, 6, 7, 8, 9, 10, 11, 12, 13, 14, 15, 16, 17, 18, 19, 21, 22, 23, 24, 25, 26, 27], [0, 1, 2, 3, 4, 5, 6, 7, 8, 9, 10, 11, 12, 13, 14, 15, 17, 18, 19, 21, 22, 23, 24, 25, 26, 27, 28], [0, 1, 2, 3, 4, 5, 6, 7, 8, 9, 10, 11, 12, 13, 14, 15, 17, 18, 19, 20, 21, 22, 23, 24, 25, 26, 27, 28, 29], [0, 1, 2, 3, 4, 5, 6, 7, 8, 9, 10, 11, 12, 13, 14, 15, 16, 17, 18, 19, 20, 21, 22, 23, 24, 25, 26, 27, 29, 30], [0, 1, 2, 3, 4, 5, 6, 7, 8, 9, 10, 11, 12, 13, 14, 15, 16, 17, 18, 19, 20, 21, 22, 23, 24, 25, 26, 27, 28, 29, 30, 31], [0, 1, 2, 3, 4, 5, 6, 7, 8, 9, 10, 11, 12, 13, 14, 15, 16, 17, 18, 19, 20, 21, 22, 23, 24, 25, 26, 27, 28, 29, 30, 31], [0, 1, 2, 3, 4, 5, 6, 7, 8, 9, 10, 11, 12, 13, 14, 15, 16, 17, 18, 19, 20, 21, 22, 23, 24, 25, 26, 27, 28, 29, 30, 31], [0, 1, 2, 3, 4, 5, 6, 7, 8, 9, 10, 11, 12, 13, 14, 15, 16, 17, 18, 19, 20, 21, 22, 23, 24, 25, 26, 27, 28, 29, 30, 31, 33, 34], [0, 1, 2, 3, 4, 5, 6, 7, 8, 9, 10, 11, 12, 13, 14, 15, 16, 17, 18, 19, 20, 21, 22, 23, 24, 25, 26, 27, 28, 29, 30, 31, 32, 33, 34, 35], [0, 1, 2, 3, 4, 5, 6, 7, 8, 9, 10, 11, 12, 13, 14, 15, 16, 17, 18, 19, 20, 21, 22, 23, 24, 25, 26, 27, 28, 29, 30, 31, 32, 33, 34, 35], [0, 1, 2, 3, 4, 5, 6, 7, 8, 9, 10, 11, 12, 13, 14, 15, 16, 17, 18, 19, 20, 21, 22, 23, 24, 25, 26, 27, 28, 29, 30, 31, 32, 33, 34, 35], [0, 1, 2, 3, 4, 5, 6, 7, 8, 9, 10, 11, 12, 13, 14, 15, 16, 17, 18, 19, 20, 21, 22, 23, 24, 25, 26, 27, 28, 29, 30, 31, 32, 33, 34, 35, 37, 38], [0, 1, 2, 3, 4, 5, 6, 7, 8, 9, 10, 11, 12, 13, 14, 15, 16, 17, 18, 19, 20, 21, 22, 23, 24, 25, 26, 27, 28, 29, 30, 31, 32, 33, 34, 35], [0, 1, 2, 3, 4, 5, 6, 7, 8, 9, 10, 11, 12, 13, 14, 15, 16, 17, 18, 19, 20, 21, 22, 23, 24, 25, 26, 27, 28, 29, 30, 31, 32, 33, 34, 35, 37, 38, 39], [0, 1, 2, 3, 4, 5, 6, 7, 8, 9, 10, 11, 12, 13, 14, 15, 16, 17, 18, 19, 20, 21, 22, 23, 24, 25, 26, 27, 28, 29, 30, 31, 32, 33, 34, 35, 37, 38, 39, 40, 41], [0, 1, 2, 3, 4, 5, 6, 7, 8, 9, 10, 11, 12, 13, 14, 15, 16, 17, 18, 19, 20, 21, 22, 23, 24, 25, 26, 27, 28, 29, 30, 31, 32, 33, 34, 35], [0, 1, 2, 3, 4, 5, 6, 7, 8, 9, 10, 11, 12, 13, 14, 15, 16, 17, 18, 19, 20, 21, 22, 23, 24, 25, 26, 27, 28, 29, 30, 31, 32, 33, 34, 35, 37, 38, 39, 40, 41, 42], [0, 1, 2, 3, 4, 5, 6, 7, 8, 9, 10, 11, 12, 13, 14, 15, 16, 17, 18, 19, 20, 21, 22, 23, 24, 25, 26, 27, 28, 29, 30, 31, 32, 33, 34, 35, 37, 38, 39, 40, 41, 42, 43, 44], [0, 1, 2, 3, 4, 5, 6, 7, 8, 9, 10, 11, 12, 13, 14, 15, 16, 17, 18, 19, 20, 21, 22, 23, 24, 25, 26, 27, 28, 29, 30, 31, 33, 34, 35, 37, 38, 39, 40, 41, 42, 43, 44, 45], [0, 1, 2, 3, 4, 5, 6, 7, 8, 9, 10, 11, 12, 13, 14, 15, 16, 17, 18, 19, 20, 21, 22, 23, 24, 25, 26, 27, 28, 29, 30, 31, 33, 34, 35, 36, 37, 38, 39, 40, 41, 42, 43, 44, 45, 46]]) (an := [{}, {}, {}, {}, {}, {}, {}, {}, {}, {}, {}, {}, {}, {}, {}, {}, {}, {}, {}, {}, {}, {}, {}, {}, {}, {}, {}, {}, {}, {}, {}, {}, {}, {}, {}, {}, {}, {}, {}, {}, {}, {}, {}, {}, {}, {}, {}, {}, {}]) rfl (by kernel_rfl) rfl fun K hK => ?_;refine ldQ ?_;refine mvQ ?_;refine mvQ ?_;refine mvQ ?_;refine aa rfl (x_n rfl rfl rfl rfl rfl hg) rfl ?_;refine ldQ ?_;refine aa rfl (gi rfl rfl rfl rfl rfl (xg _ ei)) rfl ?_;refine ldQ ?_;refine mvQ ?_;refine mvQ ?_;refine aa rfl (x_n rfl rfl rfl rfl rfl hf) rfl ?_;refine ldQ ?_;refine aa rfl (x_v rfl rfl rfl rfl rfl (xg _ ej)) rfl ?_;refine ldQ ?_;refine ac rfl rfl (cc) rfl rfl rfl rfl ?_;refine biQ ?_;refine mvQ ?_;refine mvQ ?_;refine mvQ ?_;refine ap rfl (nL (c := false) (decide_eq_false (by omega))) rfl ?_;refine mvQ ?_;refine av rfl ?_;refine av rfl ?_;refine av rfl ?_;refine av rfl ?_;refine av rfl ?_;refine av rfl ?_;refine av rfl ?_;refine av rfl ?_;refine av rfl ?_;refine piQ ?_;refine piQ ?_;refine mvQ ?_;refine mvQ ?_;refine mvQ ?_;refine ap rfl (p3 (c := true) (by simp)) rfl ?_;refine mvQ ?_;refine mvQ ?_;refine mvQ ?_;refine aa rfl (gi rfl rfl rfl rfl rfl hg) rfl ?_;refine ldQ ?_;refine mvQ ?_;refine aa rfl (x_v rfl rfl rfl rfl rfl hf) rfl ?_;refine ldQ ?_;refine ac rfl rfl (c1) rfl rfl rfl rfl ?_;refine ac rfl rfl (c11) rfl rfl rfl rfl ?_;refine biQ ?_;refine piQ ?_;refine piQ ?_;refine eQ hK ?_;clear hK K;refine aj rfl (fun h => by cases h) (fun _ => ?_);refine ag ?_;show AWP _ _ _ _ _ _;refine gR fun K hK=>?_;refine mvQ ?_;refine ap rfl (aA (c := ((j + 1 : Nat) : Int)) (by omega) (by omega)) rfl ?_;refine asQ ?_;refine eQ hK ?_;clear hK K;exact ⟨j + 1, by omega, hf, Wk.mk' ⟨rfl, rfl, rfl, rfl, rfl, rfl, rfl, rfl, rfl, trivial⟩ ⟨rfl, rfl, trivial⟩⟩
   ·have cs0 := ia (qzW (LL B i j)) ((aB (qL i j hg)).mono rfl)
    have sg0 : (LL B i j).num.sign = 0 := c7.2 (gS B hji)
    rw [aL, sg0] at cs0;refine aQ tok mixed (A := [[], [], [], [], [], [2, 3], [2, 3, 4], [1, 2, 3, 4, 5], [], [], [], [8, 9], [1, 2, 3, 4, 5, 6, 8, 9, 10], [1, 2, 3, 4, 5, 6, 7, 8, 9, 10, 11], [1, 2, 3, 4, 5, 6, 7, 8, 9, 10, 11, 12], [0, 1, 2, 3, 4, 5, 6, 7, 8, 9, 10, 11, 12, 13], [0, 1, 2, 3, 4, 5, 6, 7, 8, 9, 10, 11, 12, 13], [0, 1, 2, 3, 4, 5, 6, 7, 8, 9, 10, 11, 12, 13, 14, 15], [0, 1, 2, 3, 4, 5, 6, 7, 8, 9, 10, 11, 12, 13, 14, 15], [0, 1, 2, 3, 4, 5, 6, 7, 8, 9, 10, 11, 12, 13, 14, 15], [0, 1, 2, 3, 4, 5, 6, 7, 8, 9, 10, 11, 12, 13, 14, 15, 17, 18], [0, 1, 2, 3, 4, 5, 6, 7, 8, 9, 10, 11, 12, 13, 14, 15, 16, 17, 18, 19], [0, 1, 2, 3, 4, 5, 6, 7, 8, 9, 10, 11, 12, 13, 14, 15, 16, 17, 18, 19], [0, 1, 2, 3, 4, 5, 6, 7, 8, 9, 10, 11, 12, 13, 14, 15, 16, 17, 18, 19], [0, 1, 2, 3, 4, 5, 6, 7, 8, 9, 10, 11, 12, 13, 14, 15, 16, 17, 18, 19, 21, 22], [0, 1, 2, 3, 4, 5, 6, 7, 8, 9, 10, 11, 12, 13, 14, 15, 16, 17, 18, 19], [0, 1, 2, 3, 4, 5, 6, 7, 8, 9, 10, 11, 12, 13, 14, 15, 16, 17, 18, 19, 21, 22, 23], [0, 1, 2, 3, 4, 5, 6, 7, 8, 9, 10, 11, 12, 13, 14, 15, 16, 17, 18, 19, 21, 22, 23, 24, 25], [0, 1, 2, 3, 4, 5, 6, 7, 8, 9, 10, 11, 12, 13, 14, 15, 16, 17, 18, 19, 21, 22, 23, 24, 25, 26], [0, 1, 2, 3, 4, 5, 6, 7, 8, 9, 10, 11, 12, 13, 14, 15, 16, 17, 18, 19, 21, 22, 23, 24, 25, 26, 27], [0, 1, 2, 3, 4, 5, 6, 7, 8, 9, 10, 11, 12, 13, 14, 15, 17, 18, 19, 21, 22, 23, 24, 25, 26, 27, 28], [0, 1, 2, 3, 4, 5, 6, 7, 8, 9, 10, 11, 12, 13, 14, 15, 17, 18, 19, 20, 21, 22, 23, 24, 25, 26, 27, 28, 29], [0, 1, 2, 3, 4, 5, 6, 7, 8, 9, 10, 11, 12, 13, 14, 15, 16, 17, 18, 19, 20, 21, 22, 23, 24, 25, 26, 27, 29, 30], [0, 1, 2, 3, 4, 5, 6, 7, 8, 9, 10, 11, 12, 13, 14, 15, 16, 17, 18, 19, 20, 21, 22, 23, 24, 25, 26, 27, 28, 29, 30, 31], [0, 1, 2, 3, 4, 5, 6, 7, 8, 9, 10, 11, 12, 13, 14, 15, 16, 17, 18, 19, 20, 21, 22, 23, 24, 25, 26, 27, 28, 29, 30, 31], [0, 1, 2, 3, 4, 5, 6, 7, 8, 9, 10, 11, 12, 13, 14, 15, 16, 17, 18, 19, 20, 21, 22, 23, 24, 25, 26, 27, 28, 29, 30, 31], [0, 1, 2, 3, 4, 5, 6, 7, 8, 9, 10, 11, 12, 13, 14, 15, 16, 17, 18, 19, 20, 21, 22, 23, 24, 25, 26, 27, 28, 29, 30, 31, 33, 34], [0, 1, 2, 3, 4, 5, 6, 7, 8, 9, 10, 11, 12, 13, 14, 15, 16, 17, 18, 19, 20, 21, 22, 23, 24, 25, 26, 27, 28, 29, 30, 31, 32, 33, 34, 35], [0, 1, 2, 3, 4, 5, 6, 7, 8, 9, 10, 11, 12, 13, 14, 15, 16, 17, 18, 19, 20, 21, 22, 23, 24, 25, 26, 27, 28, 29, 30, 31, 32, 33, 34, 35], [0, 1, 2, 3, 4, 5, 6, 7, 8, 9, 10, 11, 12, 13, 14, 15, 16, 17, 18, 19, 20, 21, 22, 23, 24, 25, 26, 27, 28, 29, 30, 31, 32, 33, 34, 35], [0, 1, 2, 3, 4, 5, 6, 7, 8, 9, 10, 11, 12, 13, 14, 15, 16, 17, 18, 19, 20, 21, 22, 23, 24, 25, 26, 27, 28, 29, 30, 31, 32, 33, 34, 35, 37, 38], [0, 1, 2, 3, 4, 5, 6, 7, 8, 9, 10, 11, 12, 13, 14, 15, 16, 17, 18, 19, 20, 21, 22, 23, 24, 25, 26, 27, 28, 29, 30, 31, 32, 33, 34, 35], [0, 1, 2, 3, 4, 5, 6, 7, 8, 9, 10, 11, 12, 13, 14, 15, 16, 17, 18, 19, 20, 21, 22, 23, 24, 25, 26, 27, 28, 29, 30, 31, 32, 33, 34, 35, 37, 38, 39], [0, 1, 2, 3, 4, 5, 6, 7, 8, 9, 10, 11, 12, 13, 14, 15, 16, 17, 18, 19, 20, 21, 22, 23, 24, 25, 26, 27, 28, 29, 30, 31, 32, 33, 34, 35, 37, 38, 39, 40, 41], [0, 1, 2, 3, 4, 5, 6, 7, 8, 9, 10, 11, 12, 13, 14, 15, 16, 17, 18, 19, 20, 21, 22, 23, 24, 25, 26, 27, 28, 29, 30, 31, 32, 33, 34, 35], [0, 1, 2, 3, 4, 5, 6, 7, 8, 9, 10, 11, 12, 13, 14, 15, 16, 17, 18, 19, 20, 21, 22, 23, 24, 25, 26, 27, 28, 29, 30, 31, 32, 33, 34, 35, 37, 38, 39, 40, 41, 42], [0, 1, 2, 3, 4, 5, 6, 7, 8, 9, 10, 11, 12, 13, 14, 15, 16, 17, 18, 19, 20, 21, 22, 23, 24, 25, 26, 27, 28, 29, 30, 31, 32, 33, 34, 35, 37, 38, 39, 40, 41, 42, 43, 44], [0, 1, 2, 3, 4, 5, 6, 7, 8, 9, 10, 11, 12, 13, 14, 15, 16, 17, 18, 19, 20, 21, 22, 23, 24, 25, 26, 27, 28, 29, 30, 31, 33, 34, 35, 37, 38, 39, 40, 41, 42, 43, 44, 45], [0, 1, 2, 3, 4, 5, 6, 7, 8, 9, 10, 11, 12, 13, 14, 15, 16, 17, 18, 19, 20, 21, 22, 23, 24, 25, 26, 27, 28, 29, 30, 31, 33, 34, 35, 36, 37, 38, 39, 40, 41, 42, 43, 44, 45, 46]]) (an := [{}, {}, {}, {}, {}, {}, {}, {}, {}, {}, {}, {}, {}, {}, {}, {}, {}, {}, {}, {}, {}, {}, {}, {}, {}, {}, {}, {}, {}, {}, {}, {}, {}, {}, {}, {}, {}, {}, {}, {}, {}, {}, {}, {}, {}, {}, {}, {}, {}]) rfl (by kernel_rfl) rfl fun K hK => ?_;refine ldQ ?_;refine mvQ ?_;refine mvQ ?_;refine mvQ ?_;refine aa rfl (x_n rfl rfl rfl rfl rfl hg) rfl ?_;refine ldQ ?_;refine aa rfl (gi rfl rfl rfl rfl rfl (xg _ ei)) rfl ?_;refine ldQ ?_;refine mvQ ?_;refine mvQ ?_;refine aa rfl (x_n rfl rfl rfl rfl rfl hf) rfl ?_;refine ldQ ?_;refine aa rfl (x_v rfl rfl rfl rfl rfl (xg _ ej)) rfl ?_;refine ldQ ?_;refine ac rfl rfl (cc) rfl rfl rfl rfl ?_;refine biQ ?_;refine mvQ ?_;refine mvQ ?_;refine mvQ ?_;refine ap rfl (nL (c := true) (decide_eq_true (by omega))) rfl ?_;refine mvQ ?_;refine mvQ ?_;refine mvQ ?_;refine aa rfl (gi rfl rfl rfl rfl rfl hg) rfl ?_;refine ldQ ?_;refine mvQ ?_;refine aa rfl (x_v rfl rfl rfl rfl rfl hf) rfl ?_;refine ldQ ?_;refine ac rfl rfl (cs0) rfl rfl rfl rfl ?_;refine biQ ?_;refine piQ ?_;refine piQ ?_;refine mvQ ?_;refine mvQ ?_;refine mvQ ?_;refine ap rfl (p3 (c := false) (by simp; omega)) rfl ?_;refine mvQ ?_;refine av rfl ?_;refine av rfl ?_;refine av rfl ?_;refine av rfl ?_;refine av rfl ?_;refine av rfl ?_;refine av rfl ?_;refine av rfl ?_;refine av rfl ?_;refine av rfl ?_;refine piQ ?_;refine piQ ?_;refine eQ hK ?_;clear hK K;refine aj rfl (fun h => by cases h) (fun _ => ?_);refine ag ?_;show AWP _ _ _ _ _ _;refine gR fun K hK=>?_;refine mvQ ?_;refine ap rfl (aA (c := ((j + 1 : Nat) : Int)) (by omega) (by omega)) rfl ?_;refine asQ ?_;refine eQ hK ?_;clear hK K;exact ⟨j + 1, by omega, hf, Wk.mk' ⟨rfl, rfl, rfl, rfl, rfl, rfl, rfl, rfl, rfl, trivial⟩ ⟨rfl, rfl, trivial⟩⟩
  have hf : j = n := by simp at hf; omega
  subst hf
  refine ar ?_;show AWP _ _ _ _ _ _;refine gR fun K hK=>?_;refine mvQ ?_;refine ap rfl (aA (c := ((i + 1 : Nat) : Int)) (by omega) (by omega)) rfl ?_;refine asQ ?_;refine eQ hK ?_;clear hK K;exact ⟨i + 1, by omega, hg, Wk.mk' ⟨rfl, rfl, rfl, rfl, rfl, rfl, rfl, rfl, trivial⟩ ⟨rfl, rfl, trivial⟩⟩
 have hg : i = n := by simp at hg; omega
 subst hg
 have qn := qp i (Nat.le_refl _)
 have cc := oI (qzW (pr i (DD B))) (qzW (pr i (DD B))) (aB (by omega)) (aB (by omega))
 rw [aL, (qM _ _).2 rfl] at cc
 have cS := ia (qzW (pr i (DD B))) (aB (by omega))
 rw [aL, gn.2 hpp] at cS;refine ar ?_;show AWP _ _ _ _ _ _;refine gQ fun K hK=>?_;refine ldQ ?_;refine ldQ ?_;refine ac rfl rfl (cc) rfl rfl rfl rfl ?_;refine biQ ?_;refine mvQ ?_;refine ldQ ?_;refine ac rfl rfl (cS) rfl rfl rfl rfl ?_;refine biQ ?_;refine piQ ?_;refine asQ ?_;refine eQ hK ?_;clear hK K;exact ai aK
end Go.Proofs.YtfichkokppbipaaGreatDoor

/- law27: Renumbers. No condition. -/
namespace Go.Proofs.YtfichkokppbipaaGreatDoor
attribute [local irreducible] aH

theorem Aa {F : Nat → DC} {n i a sz : Nat} {es : List (List DC)} : (mv F n i).map (j1 a sz es) = mv F n i := by
 rw [mv, List.map_append, List.map_map, List.map_replicate]; rfl
def kq (f : Nat → RW) (s t : Nat) : RW := if t < s then f t else d8
theorem DQ (f : Nat → RW) (n : Nat) : List.replicate n d8.dc = aJ n (kq f 0) := by
 rw [kP]; exact aO fun t _ => by simp [kq]
theorem B5 (f : Nat → RW) (n i : Nat) {x : RW} (h : f i = x) : aJ n (dM (kq f i) i x) = aJ n (kq f (i + 1)) := aO fun t _ => by
 simp only [dM, kq]
 by_cases e : t = i
 ·rw [if_pos e, if_pos (by omega), e, h]
 ·rw [if_neg e]
  by_cases h2 : t < i
  ·rw [if_pos h2, if_pos (by omega)]
  ·rw [if_neg h2, if_neg (by omega)]
theorem EV (f : Nat → RW) (n i : Nat) {x y : RW} (h : f i = x) : aJ n (dM (dM (kq f i) i y) i x) = aJ n (kq f (i + 1)) := by
 rw [← B5 f n i h]
 exact aO fun t _ => by
  simp only [dM]
  by_cases e : t = i
  ·rw [if_pos e, if_pos e]
  ·rw [if_neg e, if_neg e, if_neg e]
theorem DP (f : Nat → RW) (n : Nat) : aJ n (kq f n) = (bf n f).map RW.dc := by
 rw [dD]; exact aO fun t ht => by simp only [kq]; rw [if_pos ht]
def bF (right : List Int) (i : Nat) : RW := qzW ((right.getD i 0 : Int) : Rat)
theorem BB {n : Nat} {A C : Nat → Nat → Rat} {b d : Nat → Rat} {e : Nat → Nat} (h1 : ∀ i, i < n → e i < n) (h2 : ∀ i j, i < n → j < n → e i = e j → i = j) (hsA : ∀ i j, i < n → j < n → A i j = A j i) (hdA : ∀ k, k < n → 0 < DD A k) (hdC : ∀ k, k < n → 0 < DD C k)
  (hC : ∀ i j, i < n → j < n → C i j = A (e i) (e j)) (hd : ∀ i, i < n → d i = b (e i)) {i : Nat} (hi : i < n) : slv C d n i = slv A b n (e i) := by
 refine (zw (B := C) (b := d) (x := fun j => slv A b n (e j)) (fun i j hi hj => ?_) hdC (fun i hi => ?_) hi).symm
 ·rw [hC i j hi hj, hC j i hj hi]; exact hsA _ _ (h1 i hi) (h1 j hj)
 ·rw [az (g := fun j => A (e i) (e j) * slv A b n (e j)) fun j hj => by rw [hC i j hi hj]];rw [qr (f := fun j => A (e i) j * slv A b n j) n (Nat.le_refl _) h1 h2 (fun i h1 h2 => by omega), tD hsA (fun k hk => by have := hdA k hk; grind) (h1 i hi), hd i hi]
set_option maxHeartbeats 4000000 in
theorem Ai (rows : List (List Int)) (right : List Int) (cs : List Nat) (hw : ∀ r ∈ rows, L8 r) (hml : rows.length ≤ 9223372036854775807) (hr : L8 right) (h8 : ∀ c ∈ cs, c < 256) : Con Tryz.prog 5 [V1 (dM8 rows), V1 (d8s right), V1 (dB8 cs)] { v := dB true } := by
 have c0 : Con Tryz.prog 40 [dI 0, dI 1] { v := AG (qzW 0).cs } := iy 0 ⟨by omega, by omega⟩
 refine cnQ Tryz.func5 ?_
 intro w0 X
 rw [aq _ _ [(0, V1 (dM8 rows)), (1, V1 (d8s right)), (2, V1 (dB8 cs))] rfl rfl];refine gQ fun K hK=>?_;refine asQ ?_;refine eQ hK ?_;clear hK K;refine ab ?_;refine aX (α := Bool) (fun c => mk 156 [(0, V1 (dM8 rows)), (1, V1 (d8s right)), (2, V1 (dB8 cs)), (27, dB c)] [] []) (fun c => c = !jS rows) ?_ ?_
 ·refine bn fun K hK => ?_;refine ah tok rfl ?_;refine ac rfl rfl (bR) rfl rfl rfl rfl ?_;refine ak ?_;refine ah tok rfl ?_;refine b6 rfl rfl rfl ?_;refine ak ?_;refine ah tok rfl ?_;refine mvQ ?_;refine ak ?_;refine bH (fun h0 => ?_) (fun h0 => ?_)
  ·refine ax rfl rfl ?_;refine ax rfl rfl ?_;refine ax rfl rfl ?_;refine ah tok rfl ?_;refine piQ ?_;refine ak ?_;refine bm rfl (hK _ ?_); clear hK K
   first|(exact absurd h0 (by decide))|exact ⟨_, (by simp only [Bool.not_eq_true', Bool.not_eq_false'] at h0; simp only [h0, Bool.not_false, Bool.not_true]), Wk.mk' ⟨rfl, rfl, rfl, rfl, trivial⟩ trivial⟩
  ·refine ah tok rfl ?_;refine mvQ ?_;refine ak ?_;refine ah tok rfl ?_;refine ac rfl rfl (p5 rows hml) rfl rfl rfl rfl ?_;refine ak ?_;refine ah tok rfl ?_;refine b6 rfl rfl rfl ?_;refine ak ?_;refine ah tok rfl ?_;refine piQ ?_;refine ak ?_;refine bm rfl (hK _ ?_); clear hK K
   first|(exact absurd h0 (by decide))|exact ⟨_, (by simp only [Bool.not_eq_true', Bool.not_eq_false'] at h0; simp only [h0, Bool.not_false, Bool.not_true]), Wk.mk' ⟨rfl, rfl, rfl, rfl, trivial⟩ trivial⟩
 rintro c rfl
 refine aj rfl (fun hc => ?_) (fun hc => ?_)
 ·refine gQ fun K hK=>?_;refine ac rfl rfl (bR) rfl rfl rfl rfl ?_;refine asQ ?_;refine eQ hK ?_;clear hK K;exact ai aK
 rw [Bool.not_eq_false'] at hc
 have hbr := hc
 have g := GWF.of hbr hw true
 have n5 := g.n5
 obtain ⟨n, hn⟩ : ∃ n, n = rows.length := ⟨_, rfl⟩
 have hgl : ((gmW rows true).map cM).length = n := by rw [List.length_map, g.len, hn]
 have cG := rO rows true n5 (of_decide_eq_true hbr).2 (fun r hr => (hw r hr).1)
 have cP := sG n cs (by omega) h8
 have he1 := vk n cs
 have he2 := sH n cs
 generalize pp n cs = e at cP he1 he2
 have xg : ∀ a, a < n → a < rows.length := fun a ha => by omega
 obtain ⟨F, hF⟩ : ∃ F : Nat → DC, F = fun i => dRs (bf n fun j => qzW (gmE rows true (e i) (e j) : Int)) := ⟨_, rfl⟩
 refine ag ?_;show AWP _ _ _ _ _ _;refine gQ fun K hK=>?_;refine mvQ ?_;refine ac rfl rfl (cG) rfl rfl rfl rfl ?_;refine asQ ?_;refine eQ hK ?_;clear hK K;refine gQ fun K hK=>?_;refine mvQ ?_;refine au rfl (dH (n := n) rfl rfl hgl) rfl ?_;refine asQ ?_;refine eQ hK ?_;clear hK K;refine gQ fun K hK=>?_;refine mvQ ?_;refine mvQ ?_;refine ac rfl rfl (cP) rfl rfl rfl rfl ?_;refine asQ ?_;refine eQ hK ?_;clear hK K;refine gQ fun K hK=>?_;refine mvQ ?_;refine bg (sz := _) (es := _) (f := _) (v := _) rfl (rV (l := n) (z := d8.dc) rfl rfl rfl rfl rfl (Nat.le_of_ble_eq_true rfl) (by decide) rfl rfl (by omega)) rfl rfl ?_;refine asQ ?_;refine eQ hK ?_;clear hK K;refine gQ fun K hK=>?_;refine mvQ ?_;refine sj (f := _) (v := _) rfl (Af (l := n) rfl rfl rfl rfl rfl (Nat.le_of_ble_eq_true rfl) rfl rfl (by omega)) rfl rfl ?_;refine asQ ?_;refine eQ hK ?_;clear hK K;rw [DQ (bF right) n];refine ab ?_;refine gQ fun K hK=>?_;refine asQ ?_;refine eQ hK ?_;clear hK K;refine ae (aC (α := Nat) (fun i => mk 156 [(1, V1 (d8s right)), (7, V1 (dMs (gmW rows true))), (8, dI n), (9, V1 (.sl (nmD n e))), (10, .val (.one (.own 37 4 0 n))), (11, .val (.one (.own 39 1 0 n))), (12, dI i)] [(37, some (.arr 4 (aJ n (kq (bF right) i)))), (39, some (.box (mv F n 0)))] []) (fun i => i ≤ n) (fun i => n - i) 0 ?_ (Nat.zero_le _) ?_)
 ·exact Wk.mk' ⟨rfl, rfl, rfl, rfl, rfl, rfl, rfl, trivial⟩ ⟨rfl, rfl, trivial⟩
 intro i hi
 refine ab ?_;refine gQ fun K hK=>?_;refine mvQ ?_;refine mvQ ?_;refine biQ ?_;refine eQ hK ?_;clear hK K;refine aj rfl (fun hg => ?_) (fun hg => ?_)
 ·have hg : i < n := by simp at hg; omega
  refine ag ?_;show AWP _ _ _ _ _ _;refine ab ?_;refine ae ?_;refine gQ fun K hK=>?_;refine mvQ ?_;refine mvQ ?_;refine ac rfl rfl (c0) rfl rfl rfl rfl ?_;refine aa rfl (x_o (i := i) (j := i) rfl rfl rfl rfl rfl hg (Nat.zero_add _)) rfl ?_;refine al rfl (iX (qzW 0) rfl rfl rfl hg) rfl rfl rfl ?_;refine eQ hK ?_;clear hK K;refine gQ fun K hK=>?_;refine mvQ ?_;refine mvQ ?_;refine au rfl (ba c8 rfl rfl) rfl ?_;refine biQ ?_;refine eQ hK ?_;clear hK K;refine aj rfl (fun hx => ?_) (fun hx => ?_)
  ·have hx : i < right.length := by simp at hx; omega
   have h8' := hr.1 _ (List.getElem_mem hx)
   have eb : bF right i = qzW ((right[i] : Int) : Rat) := by unfold bF; rw [List.getD_eq_getElem?_getD, List.getElem?_eq_getElem hx]; rfl
   have cq := iy right[i] ⟨by have := h8'.1; omega, by have := h8'.2; omega⟩
   refine gR fun K hK=>?_;refine mvQ ?_;refine mvQ ?_;refine mvQ ?_;refine mvQ ?_;refine aa rfl (x_m c8 rfl rfl rfl rfl hx rfl) rfl ?_;refine ldQ ?_;refine aR rfl (aS rfl rfl rfl (Df h8')) rfl ?_;refine ac rfl rfl (cq) rfl rfl rfl rfl ?_;refine aa rfl (x_o (i := i) (j := i) rfl rfl rfl rfl rfl hg (Nat.zero_add _)) rfl ?_;refine al rfl (iX (qzW ((right[i] : Int) : Rat)) rfl rfl rfl hg) rfl rfl rfl ?_;refine eQ hK ?_;clear hK K;rw [EV _ _ _ eb];show AWP _ _ _ _ _ _;refine gR fun K hK=>?_;refine mvQ ?_;refine ap rfl (aA (c := ((i + 1 : Nat) : Int)) (by omega) (by omega)) rfl ?_;refine asQ ?_;refine eQ hK ?_;clear hK K;exact ⟨i + 1, by omega, hg, Wk.mk' ⟨rfl, rfl, rfl, rfl, rfl, rfl, rfl, trivial⟩ ⟨rfl, rfl, trivial⟩⟩
  ·have hx : right.length ≤ i := by simp at hx; omega
   have eb : bF right i = qzW 0 := by unfold bF; rw [List.getD_eq_getElem?_getD, List.getElem?_eq_none hx]; rfl
   rw [B5 _ _ _ eb];refine ag ?_;show AWP _ _ _ _ _ _;refine gR fun K hK=>?_;refine mvQ ?_;refine ap rfl (aA (c := ((i + 1 : Nat) : Int)) (by omega) (by omega)) rfl ?_;refine asQ ?_;refine eQ hK ?_;clear hK K;exact ⟨i + 1, by omega, hg, Wk.mk' ⟨rfl, rfl, rfl, rfl, rfl, rfl, rfl, trivial⟩ ⟨rfl, rfl, trivial⟩⟩
 have hg : i = n := by simp at hg; omega
 subst hg
 refine ar ?_;show AWP _ _ _ _ _ _;refine da [7, 8, 9, 10, 11] [37, 39] 37 [(7, V1 (dMs (gmW rows true))), (8, dI i), (9, V1 (.sl (nmD i e))), (10, V1 (dRs (bf i (bF right)))), (11, .val (.one (.own 39 1 0 i)))] [(39, some (.box (mv F i 0)))] rfl ?_ ?_ ?_
 ·exact ⟨rfl, rfl, rfl, bz (DP _ _) (by simp [bf]), rfl, trivial⟩
 ·exact ⟨congrArg (fun l => some (OO.box l)) Aa, trivial⟩
 clear hi hg;generalize i = n at *;refine gQ fun K hK=>?_;refine mvQ ?_;refine bg (sz := _) (es := _) (f := _) (v := _) rfl (rV (l := n) (z := d8.dc) rfl rfl rfl rfl rfl (Nat.le_of_ble_eq_true rfl) (by decide) rfl rfl (by omega)) rfl rfl ?_;refine asQ ?_;refine eQ hK ?_;clear hK K;rw [DQ (fun t => bF right (e t)) n];refine ab ?_;refine gQ fun K hK=>?_;refine asQ ?_;refine eQ hK ?_;clear hK K;refine ae (aC (α := Nat) (fun i => mk 156 [(7, V1 (dMs (gmW rows true))), (8, dI n), (9, V1 (.sl (nmD n e))), (10, V1 (dRs (bf n (bF right)))), (11, .val (.one (.own 39 1 0 n))), (13, .val (.one (.own 63 4 0 n))), (14, dI i)] [(39, some (.box (mv F n i))), (63, some (.arr 4 (aJ n (kq (fun t => bF right (e t)) i))))] [39]) (fun i => i ≤ n) (fun i => n - i) 0 ?_ (Nat.zero_le _) ?_)
 ·refine Wk.trans ?_ (Wk.rbE (rb := []) rfl);exact Wk.mk' ⟨rfl, rfl, rfl, rfl, rfl, rfl, rfl, trivial⟩ ⟨rfl, rfl, trivial⟩
 intro i hi
 refine ab ?_;refine gQ fun K hK=>?_;refine mvQ ?_;refine mvQ ?_;refine biQ ?_;refine eQ hK ?_;clear hK K;refine aj rfl (fun hg => ?_) (fun hg => ?_)
 ·have hg : i < n := by simp at hg; omega
  have ei := he1 i hg
  refine ag ?_;show AWP _ _ _ _ _ _;refine ab ?_;refine ae ?_;refine gQ fun K hK=>?_;refine mvQ ?_;refine mvQ ?_;refine mvQ ?_;refine mvQ ?_;refine mvQ ?_;refine aa rfl (x_n rfl rfl rfl rfl rfl hg) rfl ?_;refine ldQ ?_;refine aa rfl (x_v rfl rfl rfl rfl rfl ei) rfl ?_;refine ldQ ?_;refine aa rfl (x_o (i := i) (j := i) rfl rfl rfl rfl rfl hg (Nat.zero_add _)) rfl ?_;refine al rfl (iX (bF right (e i)) rfl rfl rfl hg) rfl rfl rfl ?_;refine eQ hK ?_;clear hK K;rw [B5 (fun t => bF right (e t)) n i rfl, Ab hg];refine gQ fun K hK=>?_;refine mvQ ?_;refine mvQ ?_;refine mvQ ?_;refine bg (sz := _) (es := _) (f := _) (v := _) rfl (rV (l := n) (z := d8.dc) rfl rfl rfl rfl rfl (Nat.le_of_ble_eq_true rfl) (by decide) rfl rfl (by omega)) (et rfl rfl (qQ rfl)) rfl ?_;refine aa rfl (x_o (i := i) (j := i) rfl rfl rfl rfl rfl hg (Nat.zero_add _)) rfl ?_;refine jj rfl (nX rfl rfl rfl (by rw [pq hg]; exact hg)) rfl rfl rfl ?_;refine eQ hK ?_;clear hK K;rw [vn, DQ (fun t => qzW (gmE rows true (e i) (e t) : Int)) n];refine gQ fun K hK=>?_;refine asQ ?_;refine eQ hK ?_;clear hK K;refine ae (aC (α := Nat) (fun j => mk 156 [(7, V1 (dMs (gmW rows true))), (8, dI n), (9, V1 (.sl (nmD n e))), (10, V1 (dRs (bf n (bF right)))), (11, .val (.one (.own 39 1 0 n))), (13, .val (.one (.own 63 4 0 n))), (14, dI i), (15, dI j)] [(39, some (.box (gc F n i (.own 82 4 0 n)))), (63, some (.arr 4 (aJ n (kq (fun t => bF right (e t)) (i + 1))))), (82, some (.arr 4 (aJ n (kq (fun t => qzW (gmE rows true (e i) (e t) : Int)) j))))] [39]) (fun j => j ≤ n) (fun j => n - j) 0 ?_ (Nat.zero_le _) ?_)
  ·refine Wk.trans (Wk.rbE (rb' := [39]) rfl) ?_;exact Wk.mk' ⟨rfl, rfl, rfl, rfl, rfl, rfl, rfl, rfl, trivial⟩ ⟨rfl, rfl, rfl, trivial⟩
  intro j hj
  refine ab ?_;refine gQ fun K hK=>?_;refine mvQ ?_;refine mvQ ?_;refine biQ ?_;refine eQ hK ?_;clear hK K;refine aj rfl (fun hf => ?_) (fun hf => ?_)
  ·have hf : j < n := by simp at hf; omega
   have ej := he1 j hf
   refine ag ?_;show AWP _ _ _ _ _ _;refine ab ?_;refine ae ?_;refine bA tok mixed (A := [[], [], [], [0, 1], [], [], [], [], [], [6, 7], [6, 7, 8], [5, 6, 7, 8, 9], [], [], [], [12, 13], [5, 6, 7, 8, 9, 10, 12, 13, 14], [5, 6, 7, 8, 9, 10, 11, 12, 13, 14, 15], [], []]) (an := [{}, {}, {}, {}, {}, {}, {}, {}, {}, {}, {}, {}, {}, {}, {}, {}, {}, {}, {}, {}]) rfl (by kernel_rfl) rfl fun K hK => ?_;refine mvQ ?_;refine mvQ ?_;refine aa rfl (x_o (i := i) (j := i) rfl rfl rfl rfl rfl hg (Nat.zero_add _)) rfl ?_;refine aN rfl (gg rfl rfl rfl rfl vo) rfl ?_;refine mvQ ?_;refine mvQ ?_;refine mvQ ?_;refine mvQ ?_;refine aa rfl (x_n rfl rfl rfl rfl rfl hg) rfl ?_;refine ldQ ?_;refine aa rfl (gi rfl rfl rfl rfl rfl (xg _ ei)) rfl ?_;refine ldQ ?_;refine mvQ ?_;refine mvQ ?_;refine aa rfl (x_n rfl rfl rfl rfl rfl hf) rfl ?_;refine ldQ ?_;refine aa rfl (x_v rfl rfl rfl rfl rfl (xg _ ej)) rfl ?_;refine ldQ ?_;refine aa rfl (x_o (i := j) (j := j) rfl rfl rfl rfl rfl hf (Nat.zero_add _)) rfl ?_;refine al rfl (iX (qzW (gmE rows true (e i) (e j) : Int)) rfl rfl rfl hf) rfl rfl rfl ?_;refine eQ hK ?_;clear hK K;rw [B5 (fun t => qzW (gmE rows true (e i) (e t) : Int)) n j rfl];show AWP _ _ _ _ _ _;refine gR fun K hK=>?_;refine mvQ ?_;refine ap rfl (aA (c := ((j + 1 : Nat) : Int)) (by omega) (by omega)) rfl ?_;refine asQ ?_;refine eQ hK ?_;clear hK K;exact ⟨j + 1, by omega, hf, Wk.mk' ⟨rfl, rfl, rfl, rfl, rfl, rfl, rfl, rfl, trivial⟩ ⟨rfl, rfl, rfl, trivial⟩⟩
  have hf : j = n := by simp at hf; omega
  subst hf
  refine ar ?_;show AWP _ _ _ _ _ _
  obtain ⟨m, rfl⟩ : ∃ m, j = m + 1 := ⟨j - 1, by omega⟩
  refine da [7, 8, 9, 10, 11, 13, 14] [39, 63, 82] 82 [(7, V1 (dMs (gmW rows true))), (8, dI (m + 1 : Nat)), (9, V1 (.sl (nmD (m + 1) e))), (10, V1 (dRs (bf (m + 1) (bF right)))), (11, .val (.one (.own 39 1 0 (m + 1)))), (13, .val (.one (.own 63 4 0 (m + 1)))), (14, dI i)] [(39, some (.box (mv F (m + 1) (i + 1)))), (63, some (.arr 4 (aJ (m + 1) (kq (fun t => bF right (e t)) (i + 1)))))] rfl ⟨rfl, rfl, rfl, rfl, rfl, rfl, rfl, trivial⟩ ⟨?_, rfl, trivial⟩ ?_
  ·show some (OO.box ((gc F (m + 1) i (.own 82 4 0 (m + 1))).map (j1 82 4 _))) = _
   rw [← Ac]
   have : gc F (m + 1) i (.own 82 4 0 (m + 1)) = gc F (m + 1) i (.own 82 4 0 (aJ (m + 1) (kq (fun t => qzW (gmE rows true (e i) (e t) : Int)) (m + 1))).length) := by rw [bD]
   rw [this, vp, hF, DP]; rfl
  refine gR fun K hK=>?_;refine mvQ ?_;refine ap rfl (aA (c := ((i + 1 : Nat) : Int)) (by omega) (by omega)) rfl ?_;refine asQ ?_;refine eQ hK ?_;clear hK K;exact ⟨i + 1, by omega, hg, Wk.mk' ⟨rfl, rfl, rfl, rfl, rfl, rfl, rfl, trivial⟩ ⟨rfl, rfl, trivial⟩⟩
 have hg : i = n := by simp at hg; omega
 subst hg
 rw [vm];refine ar ?_;show AWP _ _ _ _ _ _;refine dF (Wk.toArr (gid := 39) (E' := [(7, V1 (dMs (gmW rows true))), (8, dI i), (9, V1 (.sl (nmD i e))), (10, V1 (dRs (bf i (bF right)))), (11, .val (.one (.own 39 1 0 i))), (13, .val (.one (.own 63 4 0 i)))]) (S1 := [(63, some (.arr 4 (aJ i (kq (fun t => bF right (e t)) i))))]) (l := (List.range i).map F) ⟨rfl, rfl, rfl, rfl, rfl, rfl, trivial⟩ rfl ⟨rfl, trivial⟩ rfl) ?_;refine dF (Wk.rbA (id := 39) rfl) ?_;refine da [7, 8, 9, 10, 11, 13] [39, 63] 39 [(7, V1 (dMs (gmW rows true))), (8, dI i), (9, V1 (.sl (nmD i e))), (10, V1 (dRs (bf i (bF right)))), (11, V1 (dMs (aW i i fun a b => qzW (gmE rows true (e a) (e b) : Int)))), (13, .val (.one (.own 63 4 0 i)))] [(63, some (.arr 4 (aJ i (kq (fun t => bF right (e t)) i))))] rfl ?_ ⟨rfl, trivial⟩ ?_
 ·refine ⟨rfl, rfl, rfl, rfl, ?_, rfl, trivial⟩
  have : ((List.range i).map F).map (fun c => [c]) = (aW i i fun a b => qzW (gmE rows true (e a) (e b) : Int)).map cM := by rw [aW, List.map_map, List.map_map, hF]; rfl
  have e2 : dMs (aW i i fun a b => qzW (gmE rows true (e a) (e b) : Int)) = DC.sl (((List.range i).map F).map fun c => [c]) := by rw [this]; rfl
  rw [e2];exact bz rfl (by simp)
 refine da [7, 8, 9, 10, 11, 13] [63] 63 [(7, V1 (dMs (gmW rows true))), (8, dI i), (9, V1 (.sl (nmD i e))), (10, V1 (dRs (bf i (bF right)))), (11, V1 (dMs (aW i i fun a b => qzW (gmE rows true (e a) (e b) : Int)))), (13, V1 (dRs (bf i fun t => bF right (e t))))] [] rfl ?_ trivial ?_
 ·exact ⟨rfl, rfl, rfl, rfl, rfl, bz (DP _ _) (by simp [bf]), trivial⟩
 clear hi hF F;generalize i = n at *
 have hgn : (gmW rows true).length = n := by rw [g.len, hn]
 have hp : gp (aT (gmW rows true)) n = true := by rw [hn]; exact g.G.pos (by decide)
 have ob : ∀ x ∈ bf n (bF right), x.OK 2 := fun x hx => by
  obtain ⟨i, _, rfl⟩ := List.mem_map.1 hx
  unfold bF
  have := pW hr.1 i
  exact aB (ql_i64 ⟨by have := this.1; omega, by have := this.2; omega⟩)
 have od : ∀ x ∈ bf n (fun t => bF right (e t)), x.OK 2 := fun x hx => by
  obtain ⟨i, _, rfl⟩ := List.mem_map.1 hx
  unfold bF
  have := pW hr.1 (e i)
  exact aB (ql_i64 ⟨by have := this.1; omega, by have := this.2; omega⟩)
 have cS1 := ki (gmW rows true) (bf n (bF right)) (by omega) (by rw [bI]; omega) (fun r hr => by rw [g.rw r hr]; omega) (g.ok.mono rfl) (fun x hx => (ob x hx).mono rfl) (fun _ _ => ⟨g.fac, fun hp => g.sol ob hp⟩)
 rw [cJ, if_pos ⟨g.v, by rw [bI, hgn]⟩, hgn, if_pos hp] at cS1
 obtain ⟨C, hC⟩ : ∃ C, C = aW n n fun a b => qzW (gmE rows true (e a) (e b) : Int) := ⟨_, rfl⟩
 have hCn : C.length = n := by rw [hC, dS]
 have hCat : ∀ a b, a < n → b < n → aT C a b = aT (gmW rows true) (e a) (e b) := fun a b ha hb => by
  rw [As (xg _ (he1 a ha)) (xg _ (he1 b hb)), hC]
  show (mtv (aW _ _ _) a b).v = _
  rw [jG ha hb, aL]
 have CG : IsG n (aT C) (fun i => rwR rows (e i)) 1 := fun a b ha hb => by
  rw [hCat a b ha hb];exact IsG.ord g hn he1 he2 a b ha hb
 have Crow : ∀ r ∈ C, r.length = n := fun r hr => by
  rw [hC] at hr
  obtain ⟨i, _, rfl⟩ := List.mem_map.1 hr
  exact bI _ _
 have Cv : aP C = true := decide_eq_true ⟨by omega, fun r hr => by rw [Crow r hr, hCn], fun a ha b hb => by
  rw [hCn] at ha
  exact CG.sym a b ha (by omega)⟩
 have Cok : okM 2 C := fun r hr' x hx => by
  rw [hC] at hr'
  obtain ⟨i, _, rfl⟩ := List.mem_map.1 hr'
  obtain ⟨j, _, rfl⟩ := List.mem_map.1 hx
  have := Au (p := true) (of_decide_eq_true hbr).2 (fun r hr => (hw r hr).1) (e i) (e j)
  exact (aB (ql_i64 ⟨by omega, by omega⟩)).mono rfl
 have cS2 := ki C (bf n fun t => bF right (e t)) (by omega) (by rw [bI]; omega) (fun r hr => by rw [Crow r hr]; omega) (Cok.mono rfl) (fun x hx => (od x hx).mono rfl) (fun _ _ => by
  rw [hCn]
  exact ⟨(ew (by omega) CG.sym (fun i j _ _ => ca Cok rfl i j)).1, fun hp => jz (by omega) CG.sym (fun i j _ _ => ca Cok rfl i j) (fun i _ => hZ od rfl i) hp⟩)
 rw [cJ, if_pos ⟨Cv, by rw [bI, hCn]⟩, hCn, if_pos (CG.pos (by decide))] at cS2
 have key : ∀ i, i < n → slv (aT C) (a8 (bf n fun t => bF right (e t))) n i = slv (aT (gmW rows true)) (a8 (bf n (bF right))) n (e i) := fun i hi =>
  BB he1 he2 (by rw [hn]; exact g.G.sym) (by rw [hn]; exact g.G.DD (by decide)) (CG.DD (by decide)) hCat (fun i hi => by
   rw [ck (by rw [bI]; exact hi), ck (by rw [bI]; exact he1 i hi)]
   simp [bf]) hi
 have q1 : ∀ i, i < n → ql (slv (aT (gmW rows true)) (a8 (bf n (bF right))) n i) ≤ 65536 := fun i hi => by
  have := (g.sol ob (by rw [hgn]; exact hp)).2 i (by rw [hgn]; exact hi)
  rwa [hgn] at this
 have q2 : ∀ i, i < n → ql (slv (aT C) (a8 (bf n fun t => bF right (e t))) n i) ≤ 65536 := fun i hi => by rw [key i hi]; exact q1 _ (he1 i hi)
 rw [ji] at cS1 cS2;rw [← hC];generalize slv (aT (gmW rows true)) (a8 (bf n (bF right))) n = X at *;generalize slv (aT C) (a8 (bf n fun t => bF right (e t))) n = Y at *;refine gQ fun K hK=>?_;refine mvQ ?_;refine mvQ ?_;refine ac rfl rfl (cS1) rfl rfl rfl rfl ?_;refine mvQ ?_;refine am rfl rfl rfl ?_;refine am rfl rfl rfl ?_;refine asQ ?_;refine asQ ?_;refine eQ hK ?_;clear hK K;refine gQ fun K hK=>?_;refine mvQ ?_;refine mvQ ?_;refine ac rfl rfl (cS2) rfl rfl rfl rfl ?_;refine mvQ ?_;refine am rfl rfl rfl ?_;refine am rfl rfl rfl ?_;refine asQ ?_;refine asQ ?_;refine eQ hK ?_;clear hK K;refine ab ?_;refine gQ fun K hK=>?_;refine mvQ ?_;refine biQ ?_;refine mvQ ?_;refine mvQ ?_;refine biQ ?_;refine piQ ?_;refine mvQ ?_;refine mvQ ?_;refine au rfl (sO rfl rfl) rfl ?_;refine mvQ ?_;refine ap rfl (iG (c := false) (by simp)) rfl ?_;refine piQ ?_;refine mvQ ?_;refine mvQ ?_;refine au rfl (sO rfl rfl) rfl ?_;refine mvQ ?_;refine ap rfl (iG (c := false) (by simp)) rfl ?_;refine piQ ?_;refine eQ hK ?_;clear hK K;refine aj rfl (fun h => by cases h) (fun _ => ?_);refine ag ?_;show AWP _ _ _ _ _ _;refine ab ?_;refine gQ fun K hK=>?_;refine asQ ?_;refine eQ hK ?_;clear hK K;refine ae (aC (α := Nat) (fun i => mk 156 [(8, dI n), (9, V1 (.sl (nmD n e))), (16, V1 (dRs (bf n fun i => qzW (X i)))), (18, V1 (dRs (bf n fun i => qzW (Y i)))), (20, dI i)] [] []) (fun i => i ≤ n) (fun i => n - i) 0 ?_ (Nat.zero_le _) ?_)
 ·exact Wk.mk' ⟨rfl, rfl, rfl, rfl, rfl, trivial⟩ trivial
 intro i hi
 refine ab ?_;refine gQ fun K hK=>?_;refine mvQ ?_;refine mvQ ?_;refine biQ ?_;refine eQ hK ?_;clear hK K;refine aj rfl (fun hg => ?_) (fun hg => ?_)
 ·have hg : i < n := by simp at hg; omega
  have ei := he1 i hg
  have cc := oI (qzW (Y i)) (qzW (X (e i))) ((aB (q2 i hg)).mono rfl) ((aB (q1 _ ei)).mono rfl)
  have hc0 : oH (qzW (Y i)).v (qzW (X (e i))).v = 0 := by rw [aL, aL, key i hg]; exact (qM _ _).2 rfl
  rw [hc0] at cc;refine ag ?_;show AWP _ _ _ _ _ _;refine ab ?_;refine ae ?_;refine aQ tok mixed (A := [[], [], [], [0, 1], [], [], [], [], [5, 6], [5, 6, 7], [4, 5, 6, 7, 8], [0, 1, 2, 4, 5, 6, 7, 8, 9], [0, 1, 2, 3, 4, 5, 6, 7, 8, 9, 10]]) (an := [{}, {}, {}, {}, {}, {}, {}, {}, {}, {}, {}, {}, {}]) rfl (by kernel_rfl) rfl fun K hK => ?_;refine mvQ ?_;refine mvQ ?_;refine aa rfl (x_v rfl rfl rfl rfl rfl hg) rfl ?_;refine ldQ ?_;refine mvQ ?_;refine mvQ ?_;refine mvQ ?_;refine aa rfl (x_n rfl rfl rfl rfl rfl hg) rfl ?_;refine ldQ ?_;refine aa rfl (x_v rfl rfl rfl rfl rfl ei) rfl ?_;refine ldQ ?_;refine ac rfl rfl (cc) rfl rfl rfl rfl ?_;refine biQ ?_;refine eQ hK ?_;clear hK K;refine aj rfl (fun h => by cases h) (fun _ => ?_);refine ag ?_;show AWP _ _ _ _ _ _;refine gR fun K hK=>?_;refine mvQ ?_;refine ap rfl (aA (c := ((i + 1 : Nat) : Int)) (by omega) (by omega)) rfl ?_;refine asQ ?_;refine eQ hK ?_;clear hK K;exact ⟨i + 1, by omega, hg, Wk.mk' ⟨rfl, rfl, rfl, rfl, rfl, trivial⟩ trivial⟩
 refine ar ?_;show AWP _ _ _ _ _ _;refine gQ fun K hK=>?_;refine asQ ?_;refine eQ hK ?_;clear hK K;exact ai aK
end Go.Proofs.YtfichkokppbipaaGreatDoor
