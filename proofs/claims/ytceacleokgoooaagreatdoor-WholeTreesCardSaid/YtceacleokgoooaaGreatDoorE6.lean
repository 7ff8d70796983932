/- Part of a proof that a Go function answers true for every input. No condition. -/
import Derived.Test.YtceacleokgoooaaGreatDoorE5
import Derived.OpenShut
import Derived.LaidMore
import Derived.MakeChecks
import Derived.LaidSub
import Derived.Lib.ItoaMem
set_option linter.unusedVariables false
set_option linter.unusedSimpArgs false
set_option linter.unusedSectionVars false
/- The law WholeTrees. No condition. -/
namespace Go.Proofs.YtceacleokgoooaaGreatDoor
attribute [local irreducible] aA
open Go.RowKit

theorem Jx {T : Tab} {t : TypeId} {a b : Int} {c : Bool} (h : decide (a >= b) = c) : aK T .geq t (dI a) (dI b) = .set (dB c) := by subst h; rfl
set_option maxHeartbeats 16000000 in
theorem CK (g : GR) (hg : ∀ r ∈ g.nodes, r.W) (hgn : g.nodes.length <= 9223372036854775807) : Con Tryz.prog 5 [AG g.cs] { v := dB true } := by
 have c1 : Con Tryz.prog 36 [dI 1, dI 1] { v := AG (qzW 1).cs } := jg 1 ⟨by omega, by omega⟩
 refine Z3 Tryz.func5 ?_
 intro w0 X
 rw [ap _ _ [(0, AG g.cs)] rfl rfl];refine gQ fun _ O=>?_;refine aS rfl rfl rfl rfl rfl rfl ?_;refine Z8 ?_;refine eQ O ?_;clear O;refine ab ?_;refine bD (α := Bool) (fun c => mk 306 [(1, .ptr 1 0), (38, dB c)] [(1, some (.box g.cs))] []) (fun c => c = !(vA g)) ?_ ?_
 ·refine c6 fun _ O=>?_;refine ah tok rfl ?_;refine ac rfl rfl (vB) rfl rfl rfl rfl ?_;refine am ?_;refine ah tok rfl ?_;refine dJ rfl rfl rfl ?_;refine am ?_;refine ah tok rfl ?_;refine Z9 ?_;refine am ?_;refine da (fun h0 => ?_) (fun h0 => ?_)
  ·refine aB rfl rfl ?_;refine aB rfl rfl ?_;refine aB rfl rfl ?_;refine ah tok rfl ?_;refine Z4 ?_;refine am ?_;refine aN rfl (O _ ?_); clear O
   first|(exact absurd h0 (by decide))|exact ⟨_, (by simp only [Bool.not_eq_true', Bool.not_eq_false'] at h0; simp only [h0, Bool.not_false, Bool.not_true]), Wk.mk' ⟨rfl, rfl, trivial⟩ ⟨rfl, trivial⟩⟩
  ·refine ah tok rfl ?_;refine Z7 ?_;refine am ?_;refine ah tok rfl ?_;refine ac rfl rfl (Ef g hgn) rfl rfl rfl rfl ?_;refine am ?_;refine ah tok rfl ?_;refine dJ rfl rfl rfl ?_;refine am ?_;refine ah tok rfl ?_;refine Z4 ?_;refine am ?_;refine aN rfl (O _ ?_); clear O
   first|(exact absurd h0 (by decide))|exact ⟨_, (by simp only [Bool.not_eq_true', Bool.not_eq_false'] at h0; simp only [h0, Bool.not_false, Bool.not_true]), Wk.mk' ⟨rfl, rfl, trivial⟩ ⟨rfl, trivial⟩⟩
 rintro c rfl
 refine aj rfl (fun hc => ?_) (fun hc => ?_)
 ·refine gQ fun _ O=>?_;refine ac rfl rfl (vB) rfl rfl rfl rfl ?_;refine Z8 ?_;refine eQ O ?_;clear O;exact al aP
 rw [Bool.not_eq_false'] at hc
 obtain ⟨ok1, n6, l9, sm'⟩ := Bl hg hc
 obtain ⟨m, hm⟩ : ∃ m, m = g.nodes.length - 1 := ⟨_, rfl⟩
 have cT := wR g
 have cP := re g
 refine ag ?_;show AWP _ _ _ _ _ _
 by_cases hv : d7 g = true
 case neg =>
  have hv : d7 g = false := by simpa using hv
  rw [kK, if_neg (by rw [hv]; simp)] at cT;rw [b7, if_neg (by rw [hv]; simp)] at cP;refine gQ fun _ O=>?_;refine Z7 ?_;refine ac rfl rfl (cT) rfl rfl rfl rfl ?_;refine Z9 ?_;refine aq rfl rfl rfl ?_;refine aq rfl rfl rfl ?_;refine ay rfl rfl rfl rfl rfl rfl ?_;refine ak rfl rfl rfl rfl rfl ?_;refine Z8 ?_;refine eQ O ?_;clear O;refine gQ fun _ O=>?_;refine Z7 ?_;refine ac rfl rfl (cP) rfl rfl rfl rfl ?_;refine Z9 ?_;refine aq rfl rfl rfl ?_;refine aq rfl rfl rfl ?_;refine Z8 ?_;refine Z8 ?_;refine eQ O ?_;clear O;refine ab ?_;refine gQ fun _ O=>?_;refine Z9 ?_;refine Z9 ?_;refine ai rfl (gn (c := false) rfl) rfl ?_;refine eQ O ?_;clear O;refine aj rfl (fun h => by cases h) (fun _ => ?_);refine ag ?_;show AWP _ _ _ _ _ _;refine ab ?_;refine gQ fun _ O=>?_;refine Z9 ?_;refine ai rfl (gn (c := true) rfl) rfl ?_;refine eQ O ?_;clear O;refine aj rfl (fun _ => ?_) (fun h => by cases h);refine gQ fun _ O=>?_;refine Z9 ?_;refine az rfl (bZ cN rfl rfl) rfl ?_;refine ai rfl (pp (c := true) rfl) rfl ?_;refine Z8 ?_;refine eQ O ?_;clear O;exact al aP
 have gv := bO.1 hv
 have n1 := gv.n1
 have hmn : m + 1 = g.nodes.length := by omega
 have ePs : prP (Cj g) (g.nodes.length - 1) (g.nodes.length - 1) = psN g := rfl
 have hJ := HO gv
 have hz := D8 gv
 have hzl := GK gv
 have N := EW gv sm'
 have cNo := Ay g (fun r hr => (ok1 r hr).mono rfl)
 have cFo := Az g
 have cK := re (keG g g.links.length)
 rw [CN gv] at cK
 have eP2 : (b7 g).2 = 0 := by rw [b7, if_pos hv]
 rw [eP2] at cP cK;rw [kK, if_pos hv] at cT;rw [lT, if_pos hv] at cFo;rw [nrV, if_pos hv] at cNo
 have ok := Cd gv
 have okl := EM gv
 -- the order
 have cM := Hx (g.nodes.length - 1) (psN g) ok okl
 have he1 : ∀ i, i < g.nodes.length - 1 -> mdO (g.nodes.length - 1) (psN g) i < g.nodes.length - 1 := fun i hi => CC ok.n64 hi
 have he2 : ∀ i j, i < g.nodes.length - 1 -> j < g.nodes.length - 1 -> mdO (g.nodes.length - 1) (psN g) i = mdO (g.nodes.length - 1) (psN g) j -> i = j := fun i j hi hj h => E7 ok.n64 hi hj h
 generalize mdO (g.nodes.length - 1) (psN g) = e at cM he1 he2
 obtain ⟨e', he'⟩ : ∃ e', e' = ordFn (nmI (g.nodes.length - 1) e) := ⟨_, rfl⟩
 have ee : ∀ i, i < g.nodes.length - 1 -> e' i = e i := fun i hi => by rw [he']; exact IM hi
 have NO : NOrd g (iG (mtv (nmM g)) e') e := ⟨fun i j hi hj => by
  show bc (nmM g) (e' i) (e' j) = _
  rw [ee i hi, ee j hj], he1, he2⟩
 have hO : l8 (nmM g).length (nmI (g.nodes.length - 1) e) = true := by rw [N.len]; exact HC he1 he2
 have hqb : ∀ i j, i < g.nodes.length - 1 -> j < g.nodes.length - 1 -> ql (iG (mtv (nmM g)) e' i j) <= 2 := fun i j hi hj => by rw [NO.B i j hi hj]; exact IK gv (he1 i hi) (he1 j hj)
 have hS := (mC (B := iG (mtv (nmM g)) e') (n := g.nodes.length - 1) (by omega) (NO.sym gv) hqb).1
 have cF := xx (nmM g) (nmI (g.nodes.length - 1) e) (by rw [N.len]; omega) (fun r hr => by rw [N.rows r hr]; omega) N.ok (by simp [nmI]; omega) (fun _ _ => by rw [<- he', N.len]; exact hS)
 rw [rq, if_pos N.val, if_pos hO, <- he', N.len, AB, NO.pos gv, <- y6] at cF
 have hD : cnB g = true -> ∀ k, k < g.nodes.length - 1 -> 0 < DD (iG (mtv (nmM g)) e') k := fun h => of_decide_eq_true ((NO.pos gv).trans h)
 have hpr := NO.prod gv
 have hph := fun (hc : cnB g = true) i j (hi : i < g.nodes.length - 1) (hji : j < i) (hL : LL (iG (mtv (nmM g)) e') i j ≠ 0) => FA gv NO hc hi hji hL
 clear NO hO hqb;generalize iG (mtv (nmM g)) e' = B at *
 have eM : nmM g = ba m m (mtv (nmM g)) := by have := Bp N.val; rw [N.len, <- hm] at this; exact this
 have hq : ∀ i j, Cj g i j = decide ((mtv (nmM g) i j).v ≠ 0) := fun i j => rfl
 have okF : ∀ i j, i < m -> j < m -> (mtv (nmM g) i j).OK 65536 := fun i j hi hj => by have := N.ok; rw [eM] at this; exact lJ this hi hj
 change Con _ _ _ { v := .tup [.one (.d (dMs (nmM g))), .one (.d (dRs (nmX g))), .one (.d (dRs (nmY g))), .one (.d (lI 0))] } at cNo
 obtain ⟨F, hF⟩ : ∃ F, F = mtv (nmM g) := ⟨_, rfl⟩
 rw [<- hF] at eM okF;rw [eM] at cNo cF
 have hq : ∀ i j, Cj g i j = decide ((F i j).v ≠ 0) := fun i j => by rw [hF]; rfl
 rw [<- hm] at *
 have fol := uL g g.links.length
 have hlt : ∀ i, i < (foL g g.links.length).length -> (foL g g.links.length).getD i 0 < g.links.length := fun i hi => by
  have h1 := (List.getElem_mem hi : _ ∈ foL g g.links.length)
  rw [List.getD_eq_getElem?_getD, List.getElem?_eq_getElem hi];exact List.mem_range.1 (List.mem_filter.1 h1).1
 have eK : keG g g.links.length = ⟨g.nodes, (foL g g.links.length).map fun j => g.links.getD j ⟨0, 0, 0, 0, 0⟩⟩ := rfl
 rw [eK] at cK
 have hLl := j4 gv
 obtain ⟨L, hL⟩ : ∃ L, L = (b7 g).1 := ⟨_, rfl⟩
 rw [<- hL] at cP cK hJ hLl
 have cS := CU (trZ id m g.links) (Nat.le_trans hzl (by decide))
 generalize hqq : Cj g = q at *;generalize psN g = ps at *;generalize foL g g.links.length = fo at *;generalize hJJ : cnB g = J at *;generalize trZ id m g.links = tz at *;clear hF eM N hqq hL
 have m5 : m <= 5 := by omega
 refine gQ fun _ O=>?_;refine Z7 ?_;refine ac rfl rfl (cT) rfl rfl rfl rfl ?_;refine Z9 ?_;refine aq rfl rfl rfl ?_;refine aq rfl rfl rfl ?_;refine ay rfl rfl rfl rfl rfl rfl ?_;refine ak rfl rfl rfl rfl rfl ?_;refine Z8 ?_;refine eQ O ?_;clear O;refine gQ fun _ O=>?_;refine Z7 ?_;refine ac rfl rfl (cP) rfl rfl rfl rfl ?_;refine Z9 ?_;refine aq rfl rfl rfl ?_;refine aq rfl rfl rfl ?_;refine Z8 ?_;refine Z8 ?_;refine eQ O ?_;clear O;refine ab ?_;refine gQ fun _ O=>?_;refine Z9 ?_;refine Z9 ?_;refine ai rfl (gn (c := false) rfl) rfl ?_;refine eQ O ?_;clear O;refine aj rfl (fun h => by cases h) (fun _ => ?_);refine ag ?_;show AWP _ _ _ _ _ _;refine ab ?_;refine gQ fun _ O=>?_;refine Z9 ?_;refine ai rfl (gn (c := false) rfl) rfl ?_;refine eQ O ?_;clear O;refine aj rfl (fun h => by cases h) (fun _ => ?_);refine ag ?_;show AWP _ _ _ _ _ _;refine gQ fun _ O=>?_;refine Z8 ?_;refine eQ O ?_;clear O;refine ab ?_;refine gQ fun _ O=>?_;refine Z8 ?_;refine eQ O ?_;clear O;refine ae (aG (α := Nat) (fun i => mk 306 [(1, .ptr 1 0), (3, .ptr 3 0), (5, V1 (dNs L)), (7, dB (j0B L i)), (8, dI i)] [(1, some (.box g.cs)), (3, some (.box (ZC tz)))] []) (fun i => i <= L.length) (fun i => L.length - i) 0 ?_ (Nat.zero_le _) ?_)
 ·exact Wk.mk' ⟨rfl, rfl, rfl, rfl, rfl, trivial⟩ ⟨rfl, rfl, trivial⟩
 intro i hi
 refine ab ?_;refine gQ fun _ O=>?_;refine Z9 ?_;refine Z9 ?_;refine az rfl (bZ cN rfl rfl) rfl ?_;refine Z6 ?_;refine eQ O ?_;clear O;refine aj rfl (fun hg => ?_) (fun hg => ?_)
 ·have hg : i < L.length := by simp at hg; omega
  have js := CQ hg
  refine ag ?_;show AWP _ _ _ _ _ _;refine ab ?_;refine ae ?_
  cases hj : j0B L i with
  | true =>
   rw [hj, Bool.true_and] at js;refine gR fun _ O=>?_;refine Z9 ?_;refine Z9 ?_;refine Z9 ?_;refine Z9 ?_;refine aa rfl (x_m cN rfl rfl rfl rfl hg rfl) rfl ?_;refine Z7 ?_;refine ai rfl (w6 _ _) rfl ?_;refine Z4 ?_;refine Z8 ?_;refine eQ O ?_;clear O;show AWP _ _ _ _ _ _;refine gR fun _ O=>?_;refine Z9 ?_;refine ai rfl (aF (c := ((i + 1 : Nat) : Int)) (by omega) (by omega)) rfl ?_;refine Z8 ?_;refine eQ O ?_;clear O;refine ⟨i + 1, by omega, hg, ?_⟩;rw [js];exact Wk.mk' ⟨rfl, rfl, rfl, rfl, rfl, trivial⟩ ⟨rfl, rfl, trivial⟩
  | false =>
   rw [hj, Bool.false_and] at js;refine gR fun _ O=>?_;refine Z9 ?_;refine Z9 ?_;refine aw rfl ?_;refine aw rfl ?_;refine aw rfl ?_;refine aw rfl ?_;refine aw rfl ?_;refine Z4 ?_;refine Z8 ?_;refine eQ O ?_;clear O;show AWP _ _ _ _ _ _;refine gR fun _ O=>?_;refine Z9 ?_;refine ai rfl (aF (c := ((i + 1 : Nat) : Int)) (by omega) (by omega)) rfl ?_;refine Z8 ?_;refine eQ O ?_;clear O;refine ⟨i + 1, by omega, hg, ?_⟩;rw [js];exact Wk.mk' ⟨rfl, rfl, rfl, rfl, rfl, trivial⟩ ⟨rfl, rfl, trivial⟩
 have hi : i = L.length := by simp at hg; omega
 subst hi
 rw [hJ];refine ax ?_;show AWP _ _ _ _ _ _
 have zs : decide (tz.sign > 0) = J := by
  rw [Bool.eq_iff_iff, decide_eq_true_eq, <- hz]
  constructor
  ·intro h
   rcases Int.lt_trichotomy tz 0 with h1 | h1 | h1
   ·rw [Int.sign_eq_neg_one_of_neg h1] at h; omega
   ·rw [h1] at h; exact absurd h (by decide)
   ·exact h1
  ·intro h; rw [Int.sign_eq_one_of_pos h]; decide
 refine ab ?_;refine gQ fun _ O=>?_;refine Z7 ?_;refine ac rfl rfl (cS) rfl rfl rfl rfl ?_;refine ai rfl (kr (c := J) zs) rfl ?_;refine Z9 ?_;refine ai rfl (uR J) rfl ?_;refine eQ O ?_;clear O;refine aj rfl (fun h => by cases h) (fun _ => ?_);refine ag ?_;show AWP _ _ _ _ _ _;refine gQ fun _ O=>?_;refine Z7 ?_;refine ac rfl rfl (cNo) rfl rfl rfl rfl ?_;refine Z9 ?_;refine aq rfl rfl rfl ?_;refine aq rfl rfl rfl ?_;refine aq rfl rfl rfl ?_;refine aq rfl rfl rfl ?_;refine Z8 ?_;refine Z8 ?_;refine Z8 ?_;refine Z8 ?_;refine eQ O ?_;clear O;refine ab ?_;refine gQ fun _ O=>?_;refine Z9 ?_;refine ai rfl (gn (c := false) rfl) rfl ?_;refine Z9 ?_;refine Z9 ?_;refine az rfl (gc rfl rfl) rfl ?_;refine Z5 ?_;refine Z7 ?_;refine az rfl (bZ RW.dc rfl rfl) rfl ?_;refine ai rfl (cJ (c := ((m : Nat) : Int)) (by omega) (by omega)) rfl ?_;refine ai rfl (gn (c := false) (by simp)) rfl ?_;refine Z4 ?_;refine eQ O ?_;clear O;refine aj rfl (fun h => by cases h) (fun _ => ?_);refine ag ?_;show AWP _ _ _ _ _ _
 -- the pattern
 refine gQ fun _ O=>?_;refine Z8 ?_;refine eQ O ?_;clear O;refine ab ?_;refine gQ fun _ O=>?_;refine Z8 ?_;refine eQ O ?_;clear O;refine ae (aG (α := Nat) (fun i => mk 306 [(1, .ptr 1 0), (3, .ptr 3 0), (5, V1 (dNs L)), (7, dB J), (9, V1 (dMs (ba m m F))), (13, bU 300 2 (prP q m i).length), (14, dI i)] [(1, some (.box g.cs)), (3, some (.box (ZC tz))), (300, ca 2 ((prP q m i).map prD) (prP q m i).length)] []) (fun i => i <= m) (fun i => m - i) 0 ?_ (Nat.zero_le _) ?_)
 ·exact Wk.mk' ⟨rfl, rfl, rfl, rfl, rfl, rfl, rfl, trivial⟩ ⟨rfl, rfl, rfl, trivial⟩
 clear hi hg
 intro i hi
 refine ab ?_;refine gQ fun _ O=>?_;refine Z9 ?_;refine Z9 ?_;refine az rfl (gc rfl rfl) rfl ?_;refine Z6 ?_;refine eQ O ?_;clear O;refine aj rfl (fun hg => ?_) (fun hg => ?_)
 ·have hg : i < m := by simp at hg; omega
  have hlP := uh q m i
  have hlP2 : i * m <= 5 * 5 := Nat.mul_le_mul (by omega) m5
  obtain ⟨l0, hl0⟩ : ∃ l0, l0 = prP q m i := ⟨_, rfl⟩
  rw [<- hl0] at hlP ⊢;refine ag ?_;show AWP _ _ _ _ _ _;refine ab ?_;refine ae ?_;refine ab ?_;refine gQ fun _ O=>?_;refine Z9 ?_;refine Z9 ?_;refine aa rfl (mN rfl rfl rfl rfl rfl hg) rfl ?_;refine Z7 ?_;refine az rfl (wG rfl rfl) rfl ?_;refine Z9 ?_;refine az rfl (gc rfl rfl) rfl ?_;refine ai rfl (gn (c := false) (by simp)) rfl ?_;refine eQ O ?_;clear O;refine aj rfl (fun h => by cases h) (fun _ => ?_);refine ag ?_;show AWP _ _ _ _ _ _;refine gQ fun _ O=>?_;refine Z9 ?_;refine ai rfl (aF (c := ((i + 1 : Nat) : Int)) (by omega) (by omega)) rfl ?_;refine Z8 ?_;refine eQ O ?_;clear O;refine ae (aG (α := Nat) (fun j => mk 306 [(1, .ptr 1 0), (3, .ptr 3 0), (5, V1 (dNs L)), (7, dB J), (9, V1 (dMs (ba m m F))), (13, bU 300 2 (l0 ++ prR q i j).length), (14, dI i), (15, dI j)] [(1, some (.box g.cs)), (3, some (.box (ZC tz))), (300, ca 2 ((l0 ++ prR q i j).map prD) (l0 ++ prR q i j).length)] []) (fun j => i + 1 <= j /\ j <= m) (fun j => m - j) (i + 1) ?_ ⟨Nat.le_refl _, hg⟩ ?_)
  ·rw [Cf q i (i + 1) (Nat.le_refl _), List.append_nil];exact Wk.mk' ⟨rfl, rfl, rfl, rfl, rfl, rfl, rfl, rfl, trivial⟩ ⟨rfl, rfl, rfl, trivial⟩
  rintro j ⟨hij, hj⟩
  have hlr := ug q i j
  have hs' : l0 ++ prR q i (j + 1) = (l0 ++ prR q i j) ++ if q i j = true then [(i, j)] else [] := by rw [Ce (by omega), List.append_assoc]
  obtain ⟨l, hl⟩ : ∃ l, l = l0 ++ prR q i j := ⟨_, rfl⟩
  have hll : l.length <= 100 := by rw [hl, List.length_append]; omega
  rw [<- hl] at hs' ⊢
  obtain ⟨K0, hK0⟩ : ∃ K0, l.length = K0 := ⟨_, rfl⟩
  rw [hK0] at hll ⊢;refine ab ?_;refine gQ fun _ O=>?_;refine Z9 ?_;refine Z9 ?_;refine az rfl (gc rfl rfl) rfl ?_;refine Z6 ?_;refine eQ O ?_;clear O;refine aj rfl (fun hf => ?_) (fun hf => ?_)
  ·have hf : j < m := by simp at hf; omega
   have cq := pK (F i j) ((okF i j hg hf).mono rfl)
   refine ag ?_;show AWP _ _ _ _ _ _;refine ab ?_;refine ae ?_;refine gQ fun _ O=>?_;refine Z9 ?_;refine Z9 ?_;refine aa rfl (mN rfl rfl rfl rfl rfl hg) rfl ?_;refine Z7 ?_;refine Z9 ?_;refine aa rfl (x_v rfl rfl rfl rfl rfl hf) rfl ?_;refine Z7 ?_;refine ac rfl rfl (cq) rfl rfl rfl rfl ?_;refine ai rfl (gn (c := q i j) (by rw [hq]; by_cases h : (F i j).v = 0 <;> simp [h, jZ])) rfl ?_;refine eQ O ?_;clear O;refine aj rfl (fun hx => ?_) (fun hx => ?_)
   ·rw [if_pos hx] at hs';refine gR fun _ O=>?_;refine BE rfl JB rfl ?_;refine Z9 ?_;refine Z9 ?_;refine bF rfl rfl rfl ?_;refine aC rfl rfl (by rcases K0 with _|K0 <;> rfl) rfl ?_;refine GY rfl rfl rfl rfl rfl rfl rfl rfl rfl (by decide) (Nat.le_of_ble_eq_true rfl) rfl (by simp) (by rw [List.length_map, hK0]) (by simp) (by simp <;> omega) (by rcases K0 with _|K0 <;> rfl) rfl rfl ?_;refine Z8 ?_;refine eQ O ?_;clear O;show AWP _ _ _ _ _ _;refine gR fun _ O=>?_;refine Z9 ?_;refine ai rfl (aF (c := ((j + 1 : Nat) : Int)) (by omega) (by omega)) rfl ?_;refine Z8 ?_;refine eQ O ?_;clear O;refine ⟨j + 1, by omega, ⟨by omega, hf⟩, Wk.rn [1, 3, 5, 7, 9, 13, 14, 15] [1, 3, 131] 131 300 rfl rfl rfl ⟨rfl, rfl, rfl, rfl, rfl, ?_, rfl, rfl, trivial⟩ ⟨rfl, rfl, ?_, trivial⟩⟩
    ·rw [hs', Cm hK0]; rfl
    ·rw [hs', DJ hK0]; rfl
   ·rw [if_neg (by rw [hx]; simp), List.append_nil] at hs';refine ag ?_;show AWP _ _ _ _ _ _;refine gR fun _ O=>?_;refine Z9 ?_;refine ai rfl (aF (c := ((j + 1 : Nat) : Int)) (by omega) (by omega)) rfl ?_;refine Z8 ?_;refine eQ O ?_;clear O;refine ⟨j + 1, by omega, ⟨by omega, hf⟩, ?_⟩;rw [hs', hK0];exact Wk.mk' ⟨rfl, rfl, rfl, rfl, rfl, rfl, rfl, rfl, trivial⟩ ⟨rfl, rfl, rfl, trivial⟩
  have hf : j = m := by simp at hf; omega
  subst hf
  refine ax ?_;show AWP _ _ _ _ _ _;refine gR fun _ O=>?_;refine Z9 ?_;refine ai rfl (aF (c := ((i + 1 : Nat) : Int)) (by omega) (by omega)) rfl ?_;refine Z8 ?_;refine eQ O ?_;clear O;refine ⟨i + 1, by omega, hg, ?_⟩
  have ee : prP q j (i + 1) = l := by rw [hl, hl0]; rfl
  rw [ee, hK0];exact Wk.mk' ⟨rfl, rfl, rfl, rfl, rfl, rfl, rfl, trivial⟩ ⟨rfl, rfl, rfl, trivial⟩
 have hi2 : m = i := by simp at hg; omega
 subst hi2
 rw [ePs];refine ax ?_;show AWP _ _ _ _ _ _;refine cX (st' := mk 306 [(13, V1 (.sl (ps.map prD))), (1, .ptr 1 0), (3, .ptr 3 0), (5, V1 (dNs L)), (7, dB J), (9, V1 (dMs (ba m m F)))] [(1, some (.box g.cs)), (3, some (.box (ZC tz)))] []) ?_ ?_
 ·cases ps with
  | nil => exact Wk.trans (Wk.mk' (E' := [(13, .val (.one .nil)), (1, .ptr 1 0), (3, .ptr 3 0), (5, V1 (dNs L)), (7, dB J), (9, V1 (dMs (ba m m F)))]) (S' := [(1, some (.box g.cs)), (3, some (.box (ZC tz)))]) ⟨rfl, rfl, rfl, rfl, rfl, rfl, trivial⟩ ⟨rfl, rfl, trivial⟩) Wk.nilD
  | cons p l =>
   refine Wk.fz [1, 3, 5, 7, 9, 13] [1, 3, 300] 300 (sz := 2) (es := (p :: l).map prD) rfl ?_ ?_
   ·exact ⟨bG rfl (by simp), rfl, rfl, rfl, rfl, rfl, trivial⟩
   ·exact ⟨rfl, rfl, trivial⟩
 -- the order, the factors
 refine gQ fun _ O=>?_;refine Z9 ?_;refine az rfl (gc rfl rfl) rfl ?_;refine Z9 ?_;refine ac rfl rfl (cM) rfl rfl rfl rfl ?_;refine Z9 ?_;refine aq rfl rfl rfl ?_;refine aq rfl rfl rfl ?_;refine Z8 ?_;refine Z8 ?_;refine eQ O ?_;clear O;generalize hfe : (if J = true then (kj B m, kY B m, (0 : Int)) else ([], [], 10)) = fe at cF;refine gQ fun _ O=>?_;refine Z9 ?_;refine Z9 ?_;refine ac rfl rfl (cF) rfl rfl rfl rfl ?_;refine Z9 ?_;refine aq rfl rfl rfl ?_;refine aq rfl rfl rfl ?_;refine aq rfl rfl rfl ?_;refine Z8 ?_;refine Z8 ?_;refine Z8 ?_;refine eQ O ?_;clear O;refine ab ?_;refine bD (α := Unit) (fun _ => mk 306 [(1, .ptr 1 0), (3, .ptr 3 0), (5, V1 (dNs L)), (7, dB J), (9, V1 (dMs (ba m m F))), (13, V1 (.sl (ps.map prD))), (16, V1 (.sl (nmD m e))), (18, V1 (dMs fe.1)), (19, V1 (dRs fe.2.1)), (161, dB false)] [(1, some (.box g.cs)), (3, some (.box (ZC tz)))] []) (fun _ => True) ?_ ?_
 ·cases J with
  | true =>
   have e0 : fe = (kj B m, kY B m, 0) := by rw [<- hfe, if_pos rfl]
   rw [e0];refine gR fun _ O=>?_;refine Z9 ?_;refine ai rfl (gn (c := false) rfl) rfl ?_;refine Z9 ?_;refine Z9 ?_;refine ai rfl (pp (c := true) rfl) rfl ?_;refine Z9 ?_;refine ai rfl (uR true) rfl ?_;refine Z4 ?_;refine Z9 ?_;refine Z9 ?_;refine dJ rfl rfl rfl ?_;refine Z9 ?_;refine aw rfl ?_;refine aw rfl ?_;refine Z4 ?_;refine Z4 ?_;refine eQ O ?_;clear O;exact ⟨(), trivial, Wk.mk' ⟨rfl, rfl, rfl, rfl, rfl, rfl, rfl, rfl, rfl, rfl, trivial⟩ ⟨rfl, rfl, trivial⟩⟩
  | false =>
   have e0 : fe = ([], [], 10) := by rw [<- hfe, if_neg (by decide)]
   rw [e0];refine gR fun _ O=>?_;refine Z9 ?_;refine ai rfl (gn (c := false) rfl) rfl ?_;refine Z9 ?_;refine Z9 ?_;refine ai rfl (pp (c := false) rfl) rfl ?_;refine Z9 ?_;refine ai rfl (uR false) rfl ?_;refine Z4 ?_;refine Z9 ?_;refine Z9 ?_;refine dJ rfl rfl rfl ?_;refine Z9 ?_;refine Z9 ?_;refine ai rfl (gn (c := false) rfl) rfl ?_;refine Z4 ?_;refine Z4 ?_;refine eQ O ?_;clear O;exact ⟨(), trivial, Wk.mk' ⟨rfl, rfl, rfl, rfl, rfl, rfl, rfl, rfl, rfl, rfl, trivial⟩ ⟨rfl, rfl, trivial⟩⟩
 rintro ⟨⟩ -
 refine aj rfl (fun h => by cases h) (fun _ => ?_);refine ag ?_;show AWP _ _ _ _ _ _
 -- the forest
 refine gQ fun _ O=>?_;refine Z7 ?_;refine ac rfl rfl (cFo) rfl rfl rfl rfl ?_;refine Z9 ?_;refine aq rfl rfl rfl ?_;refine aq rfl rfl rfl ?_;refine Z8 ?_;refine Z8 ?_;refine eQ O ?_;clear O;refine ab ?_;refine gQ fun _ O=>?_;refine Z9 ?_;refine ai rfl (gn (c := false) rfl) rfl ?_;refine eQ O ?_;clear O;refine aj rfl (fun h => by cases h) (fun _ => ?_);refine ag ?_;show AWP _ _ _ _ _ _;refine gQ fun _ O=>?_;refine Z5 ?_;refine Z7 ?_;refine bF rfl rfl rfl ?_;refine ay rfl rfl rfl rfl rfl rfl ?_;refine ak rfl rfl rfl rfl rfl ?_;refine eQ O ?_;clear O;refine ab ?_;refine gQ fun _ O=>?_;refine Z8 ?_;refine eQ O ?_;clear O;refine ae (aG (α := Nat) (fun i => mk 306 [(1, .ptr 1 0), (3, .ptr 3 0), (5, V1 (dNs L)), (7, dB J), (9, V1 (dMs (ba m m F))), (13, V1 (.sl (ps.map prD))), (16, V1 (.sl (nmD m e))), (18, V1 (dMs fe.1)), (19, V1 (dRs fe.2.1)), (21, V1 (dNs fo)), (23, .ptr 23 0), (24, dI i)] [(1, some (.box g.cs)), (3, some (.box (ZC tz))), (23, some (.box [.d (dRs g.nodes), IJ 200 5 i])), (200, ca 5 (((fo.take i).map fun j => g.links.getD j ⟨0, 0, 0, 0, 0⟩).map LK.dc) i)] [23]) (fun i => i <= fo.length) (fun i => fo.length - i) 0 ?_ (Nat.zero_le _) ?_)
 ·exact Wk.trans (Wk.rbE rfl) (Wk.mk' ⟨rfl, rfl, rfl, rfl, rfl, rfl, rfl, rfl, rfl, rfl, rfl, rfl, trivial⟩ ⟨rfl, rfl, rfl, rfl, trivial⟩)
 clear hg hi
 intro i hi
 refine ab ?_;refine gQ fun _ O=>?_;refine Z9 ?_;refine Z9 ?_;refine az rfl (bZ cN rfl rfl) rfl ?_;refine Z6 ?_;refine eQ O ?_;clear O;refine aj rfl (fun hg => ?_) (fun hg => ?_)
 ·have hg : i < fo.length := by simp at hg; omega
  have hfi := hlt i hg
  rw [List.getD_eq_getElem?_getD, List.getElem?_eq_getElem hg] at hfi
  change fo[i] < g.links.length at hfi
  refine ag ?_;show AWP _ _ _ _ _ _;refine ab ?_;refine ae ?_;refine ab ?_;refine aL tok mixed (A := [[], [], [], [0, 1], [0, 1, 2], [0, 1, 2, 3], [0, 1, 2, 3, 4], [0, 1, 2, 3, 4], [0, 1, 2, 3, 4], [0, 1, 2, 3, 4, 6, 7], [0, 1, 2, 3, 4], [0, 1, 2, 3, 4], [0, 1, 2, 3, 4, 10], [0, 1, 2, 3, 4, 6, 7, 8, 10, 11], [0, 1, 2, 3, 4, 6, 7, 8, 9, 10, 11, 12]]) (an := [{}, {}, {}, {}, {}, {}, {}, {}, {}, {}, {}, {}, {}, {}, {}]) rfl (by kernel_rfl) rfl fun _ O=>?_;refine Z9 ?_;refine Z9 ?_;refine aa rfl (x_m cN rfl rfl rfl rfl hg rfl) rfl ?_;refine Z7 ?_;refine ai rfl (lV (c := false) (decide_eq_false (by omega))) rfl ?_;refine Z9 ?_;refine Z9 ?_;refine Z9 ?_;refine aa rfl (x_m cN rfl rfl rfl rfl hg rfl) rfl ?_;refine Z7 ?_;refine Z5 ?_;refine Z7 ?_;refine az rfl (bZ LK.dc rfl rfl) rfl ?_;refine ai rfl (Jx (c := false) (decide_eq_false (by omega))) rfl ?_;refine Z4 ?_;refine eQ O ?_;clear O;refine aj rfl (fun h => by cases h) (fun _ => ?_);refine ag ?_;show AWP _ _ _ _ _ _
  have hge : g.links.getD fo[i] ⟨0, 0, 0, 0, 0⟩ = g.links[fo[i]] := by rw [List.getD_eq_getElem?_getD, List.getElem?_eq_getElem hfi]; rfl
  have n2 : ((fo.take i).map fun j => g.links.getD j ⟨0, 0, 0, 0, 0⟩).map LK.dc ++ [(g.links[fo[i]]).dc] = ((fo.take (i + 1)).map fun j => g.links.getD j ⟨0, 0, 0, 0, 0⟩).map LK.dc := by
   rw [List.take_succ_eq_append_getElem hg, List.map_append, List.map_append, <- hge]; rfl
  have z2 : (((fo.take i).map fun j => g.links.getD j ⟨0, 0, 0, 0, 0⟩).map LK.dc).length = i := by
   rw [List.length_map, List.length_map, List.length_take_of_le (by omega)]
  generalize ((fo.take i).map fun j => g.links.getD j ⟨0, 0, 0, 0, 0⟩).map LK.dc = es at n2 z2 ⊢
  rcases i with _ | i
  ·refine bJ tok mixed (A := [[], [], [], [], [], [], [], [4, 5], [2, 4, 5, 6], [2, 3, 4, 5, 6, 7], [2, 3, 4, 5, 6, 7, 8], [0, 2, 3, 4, 5, 6, 7, 8, 9], [], []]) (an := [{}, {}, {}, {}, {}, {}, {}, {}, {}, {}, {}, {}, {}, {}]) rfl (by kernel_rfl) rfl fun _ O=>?_;refine Z5 ?_;refine Z7 ?_;refine Z5 ?_;refine Z7 ?_;refine Z9 ?_;refine Z9 ?_;refine aa rfl (x_m cN rfl rfl rfl rfl hg rfl) rfl ?_;refine Z7 ?_;refine aa rfl (x_m LK.dc rfl rfl rfl rfl hfi rfl) rfl ?_;refine Z7 ?_;refine aC rfl rfl rfl rfl ?_;refine aO rfl (dS rfl rfl rfl rfl rfl (by decide) (Nat.le_of_ble_eq_true rfl) rfl (by simp) rfl (by simp) (by simp)) rfl rfl rfl ?_;refine Z5 ?_;refine eW rfl rfl rfl rfl rfl ?_;refine eQ O ?_;clear O;show AWP _ _ _ _ _ _;refine gR fun _ O=>?_;refine Z9 ?_;refine ai rfl (aF (c := ((0 + 1 : Nat) : Int)) (by omega) (by omega)) rfl ?_;refine Z8 ?_;refine eQ O ?_;clear O;refine ⟨0 + 1, by omega, hg, Wk.rnB [1, 3, 5, 7, 9, 13, 16, 18, 19, 21, 23, 24] [1, 3, 23, 204] 204 200 rfl rfl rfl ⟨rfl, rfl, rfl, rfl, rfl, rfl, rfl, rfl, rfl, rfl, rfl, rfl, trivial⟩ ⟨rfl, rfl, ?_, ?_, trivial⟩ rfl⟩
   ·first
     | rfl
     | (show some (OO.box [_, .own 200 5 0 _]) = _
        rw [List.length_append, z2]; rfl)
   ·first
     | (rw [<- n2, List.length_eq_zero_iff.1 z2]; rfl)
     | (rw [<- n2]; rfl)
  ·refine bJ tok mixed (A := [[], [], [], [], [], [], [], [4, 5], [2, 4, 5, 6], [2, 3, 4, 5, 6, 7], [2, 3, 4, 5, 6, 7, 8], [0, 2, 3, 4, 5, 6, 7, 8, 9], [], []]) (an := [{}, {}, {}, {}, {}, {}, {}, {}, {}, {}, {}, {}, {}, {}]) rfl (by kernel_rfl) rfl fun _ O=>?_;refine Z5 ?_;refine Z7 ?_;refine Z5 ?_;refine Z7 ?_;refine Z9 ?_;refine Z9 ?_;refine aa rfl (x_m cN rfl rfl rfl rfl hg rfl) rfl ?_;refine Z7 ?_;refine aa rfl (x_m LK.dc rfl rfl rfl rfl hfi rfl) rfl ?_;refine Z7 ?_;refine aC rfl rfl rfl rfl ?_;refine aO rfl (jn rfl rfl rfl rfl rfl rfl (by decide) (Nat.le_of_ble_eq_true rfl) rfl (by simp) rfl rfl z2.symm (by simp <;> omega)) rfl rfl rfl ?_;refine Z5 ?_;refine eW rfl rfl rfl rfl rfl ?_;refine eQ O ?_;clear O;show AWP _ _ _ _ _ _;refine gR fun _ O=>?_;refine Z9 ?_;refine ai rfl (aF (c := ((i + 1 + 1 : Nat) : Int)) (by omega) (by omega)) rfl ?_;refine Z8 ?_;refine eQ O ?_;clear O;refine ⟨i + 1 + 1, by omega, hg, Wk.rnB [1, 3, 5, 7, 9, 13, 16, 18, 19, 21, 23, 24] [1, 3, 23, 204] 204 200 rfl rfl rfl ⟨rfl, rfl, rfl, rfl, rfl, rfl, rfl, rfl, rfl, rfl, rfl, rfl, trivial⟩ ⟨rfl, rfl, ?_, ?_, trivial⟩ rfl⟩
   ·first
     | rfl
     | (show some (OO.box [_, .own 200 5 0 _]) = _
        rw [List.length_append, z2]; rfl)
   ·first
     | (rw [<- n2, List.length_eq_zero_iff.1 z2]; rfl)
     | (rw [<- n2]; rfl)
 have hg : i = fo.length := by simp at hg; omega
 subst hg
 rw [List.take_length]
 have zL : (fo.map fun j => g.links.getD j ⟨0, 0, 0, 0, 0⟩).length = fo.length := List.length_map _
 refine ax ?_;show AWP _ _ _ _ _ _;refine bD (α := Unit) (fun _ => mk 306 [(3, .ptr 3 0), (5, V1 (dNs L)), (7, dB J), (9, V1 (dMs (ba m m F))), (13, V1 (.sl (ps.map prD))), (16, V1 (.sl (nmD m e))), (18, V1 (dMs fe.1)), (19, V1 (dRs fe.2.1)), (25, V1 (dNs L)), (26, dI 0)] [(3, some (.box (ZC tz)))] [23]) (fun _ => True) ?_ ?_
 ·rw [<- zL];generalize (fo.map fun j => g.links.getD j ⟨0, 0, 0, 0, 0⟩) = ke at cK
  rcases ke with _ | ⟨l, ke⟩
  ·refine gR fun _ O=>?_;refine Z7 ?_;refine ac rfl rfl (cK) rfl rfl rfl rfl ?_;refine Z9 ?_;refine aq rfl rfl rfl ?_;refine aq rfl rfl rfl ?_;refine Z8 ?_;refine Z8 ?_;refine eQ O ?_;clear O;exact ⟨(), trivial, Wk.mk' ⟨rfl, rfl, rfl, rfl, rfl, rfl, rfl, rfl, rfl, rfl, trivial⟩ ⟨rfl, trivial⟩⟩
  ·refine d3 [1, 3, 5, 7, 9, 13, 16, 18, 19, 23] [3, 23, 200] 200 [(3, .ptr 3 0), (5, V1 (dNs L)), (7, dB J), (9, V1 (dMs (ba m m F))), (13, V1 (.sl (ps.map prD))), (16, V1 (.sl (nmD m e))), (18, V1 (dMs fe.1)), (19, V1 (dRs fe.2.1)), (23, .ptr 23 0)] [(3, some (.box (ZC tz))), (23, some (.box (GR.mk g.nodes (l :: ke)).cs))] rfl ⟨rfl, rfl, rfl, rfl, rfl, rfl, rfl, rfl, rfl, trivial⟩ ⟨rfl, ?_, trivial⟩ ?_
   ·show some (OO.box [_, ki 200 5 _ (.own 200 5 0 _)]) = _
    rw [wT rfl (by simp)]; rfl
   refine gR fun _ O=>?_;refine Z7 ?_;refine ac rfl rfl (cK) rfl rfl rfl rfl ?_;refine Z9 ?_;refine aq rfl rfl rfl ?_;refine aq rfl rfl rfl ?_;refine Z8 ?_;refine Z8 ?_;refine eQ O ?_;clear O;exact ⟨(), trivial, Wk.mk' ⟨rfl, rfl, rfl, rfl, rfl, rfl, rfl, rfl, rfl, rfl, trivial⟩ ⟨rfl, trivial⟩⟩
 rintro ⟨⟩ -
 refine ab ?_;refine gQ fun _ O=>?_;refine Z9 ?_;refine ai rfl (gn (c := false) rfl) rfl ?_;refine Z9 ?_;refine Z9 ?_;refine az rfl (bZ cN rfl rfl) rfl ?_;refine Z9 ?_;refine az rfl (bZ cN rfl rfl) rfl ?_;refine ai rfl (gn (c := false) (by simp)) rfl ?_;refine Z4 ?_;refine eQ O ?_;clear O;refine aj rfl (fun h => by cases h) (fun _ => ?_);refine ag ?_;show AWP _ _ _ _ _ _;refine ab ?_;refine gQ fun _ O=>?_;refine Z8 ?_;refine eQ O ?_;clear O;refine ae (aG (α := Nat) (fun i => mk 306 [(3, .ptr 3 0), (5, V1 (dNs L)), (7, dB J), (9, V1 (dMs (ba m m F))), (13, V1 (.sl (ps.map prD))), (16, V1 (.sl (nmD m e))), (18, V1 (dMs fe.1)), (19, V1 (dRs fe.2.1)), (25, V1 (dNs L)), (27, dI i)] [(3, some (.box (ZC tz)))] [23]) (fun i => i <= L.length) (fun i => L.length - i) 0 ?_ (Nat.zero_le _) ?_)
 ·exact Wk.mk' ⟨rfl, rfl, rfl, rfl, rfl, rfl, rfl, rfl, rfl, rfl, trivial⟩ ⟨rfl, trivial⟩
 intro i hi
 refine ab ?_;refine gQ fun _ O=>?_;refine Z9 ?_;refine Z9 ?_;refine az rfl (bZ cN rfl rfl) rfl ?_;refine Z6 ?_;refine eQ O ?_;clear O;refine aj rfl (fun hg => ?_) (fun hg => ?_)
 ·have hg : i < L.length := by simp at hg; omega
  refine ag ?_;show AWP _ _ _ _ _ _;refine ab ?_;refine ae ?_;refine aL tok mixed (A := [[], [], [], [0, 1], [], [], [], [4, 5], [0, 1, 2, 4, 5, 6]]) (an := [{}, {}, {}, {}, {}, {}, {}, {}, {}]) rfl (by kernel_rfl) rfl fun _ O=>?_;refine Z9 ?_;refine Z9 ?_;refine aa rfl (x_m cN rfl rfl rfl rfl hg rfl) rfl ?_;refine Z7 ?_;refine Z9 ?_;refine Z9 ?_;refine aa rfl (x_m cN rfl rfl rfl rfl hg rfl) rfl ?_;refine Z7 ?_;refine ai rfl (gn (c := false) (by simp)) rfl ?_;refine eQ O ?_;clear O;refine aj rfl (fun h => by cases h) (fun _ => ?_);refine ag ?_;show AWP _ _ _ _ _ _;refine gR fun _ O=>?_;refine Z9 ?_;refine ai rfl (aF (c := ((i + 1 : Nat) : Int)) (by omega) (by omega)) rfl ?_;refine Z8 ?_;refine eQ O ?_;clear O;exact ⟨i + 1, by omega, hg, Wk.mk' ⟨rfl, rfl, rfl, rfl, rfl, rfl, rfl, rfl, rfl, rfl, trivial⟩ ⟨rfl, trivial⟩⟩
 clear hg hi;refine ax ?_;show AWP _ _ _ _ _ _;refine ab ?_
 cases J with
 | false =>
  refine gQ fun _ O=>?_;refine Z9 ?_;refine dJ rfl rfl rfl ?_;refine eQ O ?_;clear O;refine aj rfl (fun _ => ?_) (fun h => by cases h);refine gQ fun _ O=>?_;refine Z8 ?_;refine eQ O ?_;clear O;exact al aP
 | true =>
 have e0 : fe = (kj B m, kY B m, 0) := by rw [<- hfe, if_pos rfl]
 rw [e0];clear hfe e0 cF cM cFo cK cP cT cNo
 have hD := hD rfl
 have hpr := hpr rfl
 have hph := hph rfl
 have qD : ∀ i, i < m -> ql (DD B i) <= 65536 := fun i hi => (hS i hi fun k hk => by have := hD k (by omega); exact this).1
 have qL : ∀ i j, i < m -> j < i -> ql (LL B i j) <= 65536 := fun i j hi h => (hS i hi fun k hk => hD k (by omega)).2 j h
 have qp : ∀ k, k <= m -> ql (pr k (DD B)) <= 1 + k * 65536 := fun k => by
  induction k with
  | zero => intro _; show ql (1 : Rat) <= 1 + 0 * 65536; decide
  | succ k ih =>
   intro hk
   rw [iZ]
   have := aR (ih (by omega)) (qD k (by omega))
   exact Nat.le_trans this (by rw [Nat.succ_mul]; omega)
 refine gQ fun _ O=>?_;refine Z9 ?_;refine dJ rfl rfl rfl ?_;refine eQ O ?_;clear O;refine aj rfl (fun h => by cases h) (fun _ => ?_);refine ag ?_;show AWP _ _ _ _ _ _;refine gQ fun _ O=>?_;refine ac rfl rfl (c1) rfl rfl rfl rfl ?_;refine ay rfl rfl rfl rfl rfl rfl ?_;refine ak rfl rfl rfl rfl rfl ?_;refine eQ O ?_;clear O;refine ab ?_;refine gQ fun _ O=>?_;refine Z8 ?_;refine eQ O ?_;clear O;refine ae (aG (α := Nat) (fun i => mk 306 [(3, .ptr 3 0), (9, V1 (dMs (ba m m F))), (13, V1 (.sl (ps.map prD))), (16, V1 (.sl (nmD m e))), (18, V1 (dMs (kj B m))), (19, V1 (dRs (kY B m))), (28, .ptr 28 0), (29, dI i)] [(3, some (.box (ZC tz))), (28, some (.box (qzW (pr i (DD B))).cs))] [23]) (fun i => i <= m) (fun i => m - i) 0 ?_ (Nat.zero_le _) ?_)
 ·exact Wk.mk' ⟨rfl, rfl, rfl, rfl, rfl, rfl, rfl, rfl, trivial⟩ ⟨rfl, rfl, trivial⟩
 clear i
 intro i hi
 refine ab ?_;refine gQ fun _ O=>?_;refine Z9 ?_;refine Z9 ?_;refine az rfl (wG rfl rfl) rfl ?_;refine Z6 ?_;refine eQ O ?_;clear O;refine aj rfl (fun hg => ?_) (fun hg => ?_)
 ·have hg : i < m := by simp at hg; omega
  have qi := qp i (by omega)
  have cm := oo (qzW (pr i (DD B))) (qzW (DD B i)) (pr (i + 1) (DD B)) (aY (by omega)) ((aY (qD i hg)).mono rfl) (by rw [bg, bg, iZ])
  refine ag ?_;show AWP _ _ _ _ _ _;refine ab ?_;refine ae ?_;refine bJ tok mixed (A := [[], [], [], [], [1, 2], [1, 2, 3], []]) (an := [{}, {}, {}, {}, {}, {}, {}]) rfl (by kernel_rfl) rfl fun _ O=>?_;refine Z7 ?_;refine Z9 ?_;refine Z9 ?_;refine aa rfl (x_v rfl rfl rfl rfl rfl hg) rfl ?_;refine Z7 ?_;refine ac rfl rfl (cm) rfl rfl rfl rfl ?_;refine ak rfl rfl rfl rfl rfl ?_;refine eQ O ?_;clear O;show AWP _ _ _ _ _ _;refine gR fun _ O=>?_;refine Z9 ?_;refine ai rfl (aF (c := ((i + 1 : Nat) : Int)) (by omega) (by omega)) rfl ?_;refine Z8 ?_;refine eQ O ?_;clear O;exact ⟨i + 1, by omega, hg, Wk.mk' ⟨rfl, rfl, rfl, rfl, rfl, rfl, rfl, rfl, trivial⟩ ⟨rfl, rfl, trivial⟩⟩
 have hg : m = i := by simp at hg; omega
 subst hg
 refine ax ?_;show AWP _ _ _ _ _ _
 have qm := qp m (Nat.le_refl _)
 rw [hpr] at qm ⊢;refine ab ?_;refine gQ fun _ O=>?_;refine Z8 ?_;refine eQ O ?_;clear O;refine ae (aG (α := Nat) (fun i => mk 306 [(3, .ptr 3 0), (9, V1 (dMs (ba m m F))), (13, V1 (.sl (ps.map prD))), (16, V1 (.sl (nmD m e))), (18, V1 (dMs (kj B m))), (19, V1 (dRs (kY B m))), (28, .ptr 28 0), (30, dI i)] [(3, some (.box (ZC tz))), (28, some (.box (qzW (tz : Rat)).cs))] [23]) (fun i => i <= m) (fun i => m - i) 0 ?_ (Nat.zero_le _) ?_)
 ·exact Wk.mk' ⟨rfl, rfl, rfl, rfl, rfl, rfl, rfl, rfl, trivial⟩ ⟨rfl, rfl, trivial⟩
 clear hi
 intro i hi
 refine ab ?_;refine gQ fun _ O=>?_;refine Z9 ?_;refine Z9 ?_;refine az rfl (gc rfl rfl) rfl ?_;refine Z6 ?_;refine eQ O ?_;clear O;refine aj rfl (fun hg => ?_) (fun hg => ?_)
 ·have hg : i < m := by simp at hg; omega
  refine ag ?_;show AWP _ _ _ _ _ _;refine ab ?_;refine ae ?_;refine gQ fun _ O=>?_;refine Z8 ?_;refine eQ O ?_;clear O;refine ae (aG (α := Nat) (fun j => mk 306 [(3, .ptr 3 0), (9, V1 (dMs (ba m m F))), (13, V1 (.sl (ps.map prD))), (16, V1 (.sl (nmD m e))), (18, V1 (dMs (kj B m))), (19, V1 (dRs (kY B m))), (28, .ptr 28 0), (30, dI i), (31, dI j)] [(3, some (.box (ZC tz))), (28, some (.box (qzW (tz : Rat)).cs))] [23]) (fun j => j <= i) (fun j => i - j) 0 ?_ (Nat.zero_le _) ?_)
  ·exact Wk.mk' ⟨rfl, rfl, rfl, rfl, rfl, rfl, rfl, rfl, rfl, trivial⟩ ⟨rfl, rfl, trivial⟩
  intro j hj
  refine ab ?_;refine gQ fun _ O=>?_;refine Z9 ?_;refine Z9 ?_;refine Z6 ?_;refine eQ O ?_;clear O;refine aj rfl (fun hf => ?_) (fun hf => ?_)
  ·have hf : j < i := by simp at hf; omega
   have hjm : j < m := by omega
   have cS := pK (qzW (LL B i j)) ((aY (qL i j hg hf)).mono rfl)
   rw [bg] at cS;refine ag ?_;show AWP _ _ _ _ _ _;refine ab ?_;refine ae ?_
   by_cases h0 : LL B i j = 0
   ·refine aL tok mixed (A := [[], [], [], [0, 1], [], [0, 1, 2], [0, 1, 2, 3, 4], [0, 1, 2, 3, 4, 5], [0, 1, 2, 3, 4, 5, 6], [0, 1, 2, 3, 4, 5, 6], [0, 1, 2, 3, 4, 5, 6, 7, 8], [0, 1, 2, 3, 4, 5, 6, 7, 8], [0, 1, 2, 3, 4, 5, 6, 7, 8], [0, 1, 2, 3, 4, 5, 6, 7, 8], [0, 1, 2, 3, 4, 5, 6, 7, 8], [0, 1, 2, 3, 4, 5, 6, 7, 8], [0, 1, 2, 3, 4, 5, 6, 7, 8], [0, 1, 2, 3, 4, 5, 6, 7, 8, 14, 15], [0, 1, 2, 3, 4, 5, 6, 7, 8], [0, 1, 2, 3, 4, 5, 6, 7, 8], [0, 1, 2, 3, 4, 5, 6, 7, 8], [0, 1, 2, 3, 4, 5, 6, 7, 8, 18, 19], [0, 1, 2, 3, 4, 5, 6, 7, 8, 10, 14, 15, 16, 18, 19, 20], [0, 1, 2, 3, 4, 5, 6, 7, 8, 10, 11, 12, 13, 14, 15, 16, 17, 18, 19, 20, 21], [0, 1, 2, 3, 4, 5, 6, 7, 8, 10, 11, 12, 13, 14, 15, 16, 17, 18, 19, 20, 21, 22]]) (an := [{}, {}, {}, {}, {}, {}, {}, {}, {}, {}, {}, {}, {}, {}, {}, {}, {}, {}, {}, {}, {}, {}, {}, {}, {}]) rfl (by kernel_rfl) rfl fun _ O=>?_;refine Z9 ?_;refine Z9 ?_;refine aa rfl (mN rfl rfl rfl rfl rfl hg) rfl ?_;refine Z7 ?_;refine Z9 ?_;refine aa rfl (x_v rfl rfl rfl rfl rfl hjm) rfl ?_;refine Z7 ?_;refine ac rfl rfl (cS) rfl rfl rfl rfl ?_;refine ai rfl (gn (c := false) (by rw [h0]; rfl)) rfl ?_;refine Z9 ?_;refine aw rfl ?_;refine aw rfl ?_;refine aw rfl ?_;refine aw rfl ?_;refine aw rfl ?_;refine aw rfl ?_;refine aw rfl ?_;refine aw rfl ?_;refine aw rfl ?_;refine aw rfl ?_;refine aw rfl ?_;refine aw rfl ?_;refine aw rfl ?_;refine aw rfl ?_;refine Z4 ?_;refine eQ O ?_;clear O;refine aj rfl (fun h => by cases h) (fun _ => ?_);refine ag ?_;show AWP _ _ _ _ _ _;refine gR fun _ O=>?_;refine Z9 ?_;refine ai rfl (aF (c := ((j + 1 : Nat) : Int)) (by omega) (by omega)) rfl ?_;refine Z8 ?_;refine eQ O ?_;clear O;exact ⟨j + 1, by omega, hf, Wk.mk' ⟨rfl, rfl, rfl, rfl, rfl, rfl, rfl, rfl, rfl, trivial⟩ ⟨rfl, rfl, trivial⟩⟩
   ·have cR := Cs m ps ok okl e he1 he2 i j hg hf (hph i j hg hf h0)
    refine aL tok mixed (A := [[], [], [], [0, 1], [], [0, 1, 2], [0, 1, 2, 3, 4], [0, 1, 2, 3, 4, 5], [0, 1, 2, 3, 4, 5, 6], [0, 1, 2, 3, 4, 5, 6], [0, 1, 2, 3, 4, 5, 6, 7, 8], [0, 1, 2, 3, 4, 5, 6, 7, 8], [0, 1, 2, 3, 4, 5, 6, 7, 8], [0, 1, 2, 3, 4, 5, 6, 7, 8], [0, 1, 2, 3, 4, 5, 6, 7, 8], [0, 1, 2, 3, 4, 5, 6, 7, 8], [0, 1, 2, 3, 4, 5, 6, 7, 8], [0, 1, 2, 3, 4, 5, 6, 7, 8, 14, 15], [0, 1, 2, 3, 4, 5, 6, 7, 8], [0, 1, 2, 3, 4, 5, 6, 7, 8], [0, 1, 2, 3, 4, 5, 6, 7, 8], [0, 1, 2, 3, 4, 5, 6, 7, 8, 18, 19], [0, 1, 2, 3, 4, 5, 6, 7, 8, 10, 14, 15, 16, 18, 19, 20], [0, 1, 2, 3, 4, 5, 6, 7, 8, 10, 11, 12, 13, 14, 15, 16, 17, 18, 19, 20, 21], [0, 1, 2, 3, 4, 5, 6, 7, 8, 10, 11, 12, 13, 14, 15, 16, 17, 18, 19, 20, 21, 22]]) (an := [{}, {}, {}, {}, {}, {}, {}, {}, {}, {}, {}, {}, {}, {}, {}, {}, {}, {}, {}, {}, {}, {}, {}, {}, {}]) rfl (by kernel_rfl) rfl fun _ O=>?_;refine Z9 ?_;refine Z9 ?_;refine aa rfl (mN rfl rfl rfl rfl rfl hg) rfl ?_;refine Z7 ?_;refine Z9 ?_;refine aa rfl (x_v rfl rfl rfl rfl rfl hjm) rfl ?_;refine Z7 ?_;refine ac rfl rfl (cS) rfl rfl rfl rfl ?_;refine ai rfl (gn (c := true) (by simp [jZ, h0])) rfl ?_;refine Z9 ?_;refine Z9 ?_;refine az rfl (gc rfl rfl) rfl ?_;refine Z9 ?_;refine Z9 ?_;refine Z9 ?_;refine Z9 ?_;refine aa rfl (x_n rfl rfl rfl rfl rfl hg) rfl ?_;refine Z7 ?_;refine Z9 ?_;refine Z9 ?_;refine aa rfl (x_n rfl rfl rfl rfl rfl hjm) rfl ?_;refine Z7 ?_;refine ac rfl rfl (cR) rfl rfl rfl rfl ?_;refine dJ rfl rfl rfl ?_;refine Z4 ?_;refine eQ O ?_;clear O;refine aj rfl (fun h => by cases h) (fun _ => ?_);refine ag ?_;show AWP _ _ _ _ _ _;refine gR fun _ O=>?_;refine Z9 ?_;refine ai rfl (aF (c := ((j + 1 : Nat) : Int)) (by omega) (by omega)) rfl ?_;refine Z8 ?_;refine eQ O ?_;clear O;exact ⟨j + 1, by omega, hf, Wk.mk' ⟨rfl, rfl, rfl, rfl, rfl, rfl, rfl, rfl, rfl, trivial⟩ ⟨rfl, rfl, trivial⟩⟩
  refine ax ?_;show AWP _ _ _ _ _ _;refine gR fun _ O=>?_;refine Z9 ?_;refine ai rfl (aF (c := ((i + 1 : Nat) : Int)) (by omega) (by omega)) rfl ?_;refine Z8 ?_;refine eQ O ?_;clear O;exact ⟨i + 1, by omega, hg, Wk.mk' ⟨rfl, rfl, rfl, rfl, rfl, rfl, rfl, rfl, trivial⟩ ⟨rfl, rfl, trivial⟩⟩
 refine ax ?_;show AWP _ _ _ _ _ _
 have cO := pc 1 ⟨by decide, by decide⟩
 have cW := nm tz 1 (tz : Rat) (Nat.le_trans hzl (by decide)) (by decide) (ku tz)
 change Con _ _ _ { v := AG (qzW (tz : Rat)).cs } at cW
 have cc := Cb (qzW (tz : Rat)) (qzW (tz : Rat)) (aY (by omega)) (aY (by omega))
 rw [bg, (Hf _ _).2 rfl] at cc;refine aL tok mixed (A := [[], [], [], [], [0, 2], [0, 1, 2, 3], [0, 1, 2, 3, 4], [0, 1, 2, 3, 4], [0, 1, 2, 3, 4], [0, 1, 2, 3, 4], [0, 1, 2, 3, 4, 6, 8], [0, 1, 2, 3, 4, 6, 7, 8, 9], [0, 1, 2, 3, 4, 6, 7, 8, 9, 10], [0, 1, 2, 3, 4, 5, 6, 7, 8, 9, 10, 11], [0, 1, 2, 3, 4, 5, 6, 7, 8, 9, 10, 11], [0, 1, 2, 3, 4, 5, 6, 7, 8, 9, 10, 11], [0, 1, 2, 3, 4, 5, 6, 7, 8, 9, 10, 11], [0, 1, 2, 3, 4, 5, 6, 7, 8, 9, 10, 11, 14, 15], [0, 1, 2, 3, 4, 5, 6, 7, 8, 9, 10, 11, 13, 14, 15, 16], [0, 1, 2, 3, 4, 5, 6, 7, 8, 9, 10, 11, 13, 14, 15, 16, 17], []]) (an := [{}, {}, {}, {}, {}, {}, {}, {}, {}, {}, {}, {}, {}, {}, {}, {}, {}, {}, {}, {}, {}]) rfl (by kernel_rfl) rfl fun _ O=>?_;refine Z9 ?_;refine az rfl (gc rfl rfl) rfl ?_;refine Z9 ?_;refine az rfl (gc rfl rfl) rfl ?_;refine ai rfl (pp (c := true) (by simp)) rfl ?_;refine Z9 ?_;refine Z9 ?_;refine az rfl (wG rfl rfl) rfl ?_;refine Z9 ?_;refine az rfl (gc rfl rfl) rfl ?_;refine ai rfl (pp (c := true) (by simp)) rfl ?_;refine Z4 ?_;refine Z9 ?_;refine Z7 ?_;refine Z7 ?_;refine ac rfl rfl (cO) rfl rfl rfl rfl ?_;refine ac rfl rfl (cW) rfl rfl rfl rfl ?_;refine ac rfl rfl (cc) rfl rfl rfl rfl ?_;refine ai rfl (pp (c := true) rfl) rfl ?_;refine Z4 ?_;refine Z8 ?_;refine eQ O ?_;clear O;exact al aP
end Go.Proofs.YtceacleokgoooaaGreatDoor

/- Arrays of numbers as arguments. No condition. -/
namespace Go.Proofs.YtceacleokgoooaaGreatDoor
open Go.RowKit

section
variable {P : Program} {w : World} {t e : TypeId}
end
section
variable {w : World} {H : Type} {enc : TypeId × Value -> H} {sp : Nat -> Bool} {v : Value} {d : DataW H} {ps : List MemPlace} {base : Nat}

end
end Go.Proofs.YtceacleokgoooaaGreatDoor

/- Arguments of law30's and of the last ones. No condition. -/
namespace Go.Proofs.YtceacleokgoooaaGreatDoor
open Go.RowKit

section
variable {P : Program} {w : World} {t e : TypeId}
end
structure PL where
 at' : PT
 tn : Nat
def PL.dc (p : PL) : List DC := [lI p.at'.x, lI p.at'.y, .lit (.int .u8 p.tn)]
def PL.I (p : PL) : Prop := p.at'.I /\ p.tn < 256
section
variable {w : World} {H : Type} {enc : TypeId × Value -> H} {sp : Nat -> Bool} {v : Value} {d : DataW H} {ps : List MemPlace} {base : Nat}
end
end Go.Proofs.YtceacleokgoooaaGreatDoor

/- A graph as an argument, with the lengths of its lists. No condition. -/
namespace Go.Proofs.YtceacleokgoooaaGreatDoor
attribute [local irreducible] aA
open Go.ChangeShapes Go.WideShapes Go.ChangeAt Go.RowKit
def GR.WL (g : GR) : Prop := g.W /\ g.nodes.length <= 9223372036854775807 /\ g.links.length <= 9223372036854775807
section
variable {w : World} {H : Type} {enc : TypeId × Value -> H} {sp : Nat -> Bool} {v : Value} {d : DataW H} {ps : List MemPlace} {base : Nat}
set_option maxRecDepth 100000 in
theorem IF : Reads Tryz.prog w 25 (fun ds => ∃ g : GR, g.WL /\ ds = [dRs g.nodes, dLs g.links]) := by
 refine (lG (qs := [fun ds => ∃ l : List RW, ((∀ x ∈ l, x.W) /\ l.length <= 9223372036854775807) /\ ds = [.sl (l.map RW.dc)], fun ds => ∃ l : List LK, ((∀ x ∈ l, x.I) /\ l.length <= 9223372036854775807) /\ ds = [.sl (l.map LK.dc)]]) tok rfl rfl rfl rfl ?_).mono fun ds h => ?_
 ·exact ⟨rfl, sL RW.dc RW.W tok rfl rfl rfl rfl Hd, _, rfl, rfl, sL LK.dc LK.I tok rfl rfl rfl rfl JA, _, rfl, trivial⟩
 ·obtain ⟨a, b, e, ⟨x, hx, h1⟩, c, d, e', ⟨y, hy, h2⟩, h3⟩ := h
  have h3 : d = [] := h3
  subst e e' h1 h2 h3
  exact ⟨⟨x, y⟩, ⟨⟨hx.1, hy.1⟩, hx.2, hy.2⟩, rfl⟩
set_option maxRecDepth 100000 in
theorem Ih (hv : Value.okWide Tryz.prog w .any base 25 v) (hd : DataW.Trod enc Tryz.prog w 0 sp true 25 v d ps) : ∃ g : GR, g.WL /\ RelV w (fun _ => False) (fun _ => 0) v (AG g.cs) := by
 obtain ⟨ti, fs, a, b⟩ : ∃ ti fs, tab.ty 25 = some ti /\ ti.und = .struct fs := ⟨_, _, rfl, rfl⟩
 obtain ⟨ds, ⟨g, hg, rfl⟩, hr⟩ := FV tok a b IF hv hd (fun _ => 0)
 exact ⟨g, hg, hr⟩
end
end Go.Proofs.YtceacleokgoooaaGreatDoor

/- The tables of numbers that a row's premise lays. No condition. -/
namespace Go.Proofs.YtceacleokgoooaaGreatDoor
open Go.ChangeShapes Go.WideShapes Go.ChangeAt Go.RowKit
theorem uD {P : Program} {w : World} : ∀ {l : List (String × DataW Unit)} {ps : List MemPlace}, DataW.LaidVars P w l ps -> ∀ {n : String} {d : DataW Unit}, (n, d) ∈ l ->
  ∃ l' ps', DataW.LaidVars P w ((n, d) :: l') ps'
 | [], _, _, n, d, hm => by cases hm
 | (n0, d0) :: r, ps, h, n, d, hm => by
  rcases List.mem_cons.1 hm with e | hm
  ·cases e; exact ⟨r, ps, h⟩
  ·obtain ⟨g, t, cs, fuel, p, q, e1, e2, e3, e4, hr, rfl⟩ := h
   exact uD hr hm
theorem wI {P : Program} {W : World} {l : List (String × DataW Unit)} {n : String} {g t te N : Nat} {nums : List Nat} (h : laidMetH P l W)
  (hm : (n, (.agg (nums.map fun (z : Nat) => .lit (.int .u8 (z : Int))) : DataW Unit)) ∈ l) (hg : P.globalNamed n = some g) (ht : (P.globals[g]?).map (·.type) = some t)
  (hu : P.underlying t = some (.array N te)) (hu8 : P.underlying te = some (.int .u8)) (c5 : P.cellsOf te = 1) (hN : nums.length = N) (h0 : 0 < N) :
  g < W.heap.size /\ (∀ j, j < nums.length -> W.cell? ⟨g, j, none⟩ = some (.int .u8 (nums.getD j 0))) /\ (nums = [] -> ∃ t fr, W.heap[g]? = some (.cells (rc.map fun z => Value.int .u64 z).toArray t fr)) := by
 have key : ∀ j, j < nums.length -> W.cell? ⟨g, j, none⟩ = some (.int .u8 (nums.getD j 0)) := by
  obtain ⟨⟨ps0, hL, _, _⟩, _⟩ := laidMetH_iff.1 h
  obtain ⟨l', ps, g', t', cs, fuel, p, q, hg', ht', hv, hd, _, _⟩ := uD hL (List.mem_filter.2 ⟨hm, rfl⟩)
  obtain rfl := Option.some.inj (hg.symm.trans hg')
  obtain rfl := Option.some.inj (ht.symm.trans ht')
  obtain ⟨xs, m, _, ex, _, hl, hel⟩ := DataW.trod_array hu hd
  intro r hr
  have hE := hel r (by omega)
  rw [c5, Nat.mul_one, List.getElem?_eq_getElem (by omega)] at hE
  obtain ⟨z, e1, e2, _⟩ := DataW.trod_int hu8 hE
  have e3 : (xs.map (·.1)) = nums.map fun (n : Nat) => .lit (.int .u8 (n : Int)) := (DataW.agg.inj (Prod.mk.inj ex).1).symm
  have e4 : (xs.map (·.1))[r]? = (nums.map fun (n : Nat) => (DataW.lit (.int .u8 (n : Int)) : DataW Unit))[r]? := by rw [e3]
  rw [List.getElem?_map, List.getElem?_map, List.getElem?_eq_getElem (by omega : r < xs.length), List.getElem?_eq_getElem hr, e2] at e4
  have hz : z = ((nums.getD r 0 : Nat) : Int) := by
   simp only [Option.map_some, Option.some.injEq, DataW.lit.injEq, Lit.int.injEq, true_and] at e4;rw [e4, List.getD, List.getElem?_eq_getElem hr]; rfl
  rw [World.var?_cell hg hv r, <- hz]
  have : cs.toList[r]? = some (.int .u8 z) := by
   have h0 : ((cs.toList.drop r).take 1)[0]? = some (.int .u8 z) := by rw [e1]; rfl
   simpa using h0
  simpa using this
 refine ⟨?_, key, fun e => by rw [e] at hN; simp at hN; omega⟩
 have := key 0 (by omega)
 unfold World.cell? at this
 split at this
 ·rename_i hh
  rcases Nat.lt_or_ge g W.heap.size with hlt | hge
  ·exact hlt
  ·rw [Array.getElem?_eq_none hge] at hh; cases hh
 ·cases this
theorem CI {P : Program} {W : World} {l : List (String × DataW Unit)} {n : String} {g t te N : Nat} (h : laidMetH P l W)
  (hm : (n, (.agg (rc.map fun (z : Int) => .lit (.int .u64 z)) : DataW Unit)) ∈ l) (hg : P.globalNamed n = some g) (ht : (P.globals[g]?).map (·.type) = some t)
  (hu : P.underlying t = some (.array N te)) (hu8 : P.underlying te = some (.int .u64)) (c5 : P.cellsOf te = 1) (ct : P.cellsOf t = N) (hN : rc.length = N) :
  g < W.heap.size /\ (∀ j, j < ([] : List Nat).length -> W.cell? ⟨g, j, none⟩ = some (.int .u8 (([] : List Nat).getD j 0))) /\ (([] : List Nat) = [] -> ∃ t fr, W.heap[g]? = some (.cells (rc.map fun z => Value.int .u64 z).toArray t fr)) := by
 obtain ⟨⟨ps0, hL, _, _⟩, _⟩ := laidMetH_iff.1 h
 obtain ⟨l', ps, g', t', cs, fuel, p, q, hg', ht', hv, hd, _, _⟩ := uD hL (List.mem_filter.2 ⟨hm, rfl⟩)
 obtain rfl := Option.some.inj (hg.symm.trans hg')
 obtain rfl := Option.some.inj (ht.symm.trans ht')
 obtain ⟨xs, m, _, ex, hcl, hl, hel⟩ := DataW.trod_array hu hd
 have e3 : (xs.map (·.1)) = rc.map fun (n : Int) => .lit (.int .u64 n) := (DataW.agg.inj (Prod.mk.inj ex).1).symm
 have hcs : cs = (rc.map fun z => Value.int .u64 z).toArray := by
  rw [<- Array.toArray_toList (xs := cs)]
  congr 1
  apply List.ext_getElem?
  intro r
  rcases Nat.lt_or_ge r N with hr | hr
  ·have hE := hel r hr
   rw [c5, Nat.mul_one, List.getElem?_eq_getElem (by omega)] at hE
   obtain ⟨z, e1, e2, _⟩ := DataW.trod_int hu8 hE
   have e4 : (xs.map (·.1))[r]? = (rc.map fun (n : Int) => (DataW.lit (.int .u64 n) : DataW Unit))[r]? := by rw [e3]
   rw [List.getElem?_map, List.getElem?_map, List.getElem?_eq_getElem (by omega : r < xs.length), List.getElem?_eq_getElem (by omega : r < rc.length), e2] at e4
   have hz : z = rc[r]'(by omega) := by
    simpa only [Option.map_some, Option.some.injEq, DataW.lit.injEq, Lit.int.injEq, true_and] using e4
   have h0 : ((cs.toList.drop r).take 1)[0]? = some (.int .u64 z) := by rw [e1]; rfl
   rw [List.getElem?_map, List.getElem?_eq_getElem (by omega : r < rc.length), Option.map_some, <- hz]
   simpa using h0
  ·rw [List.getElem?_eq_none (by rw [hcl, ct]; exact hr), List.getElem?_eq_none (by rw [List.length_map, hN]; exact hr)]
 have hh : ∃ t fr, W.heap[g]? = some (.cells cs t fr) := by
  simp only [World.var?, hg, Option.bind_some] at hv
  split at hv
  ·rename_i c t fr hb
   cases hv
   exact ⟨t, fr, hb⟩
  ·cases hv
 rw [hcs] at hh;refine ⟨?_, (fun j hj => (Nat.not_lt_zero j hj).elim), fun _ => hh⟩
 obtain ⟨t, fr, hb⟩ := hh
 rcases Nat.lt_or_ge g W.heap.size with hlt | hge
 ·exact hlt
 ·rw [Array.getElem?_eq_none hge] at hb; cases hb
end Go.Proofs.YtceacleokgoooaaGreatDoor
