/- The law InitialBounds on the machine: it answers true. Conditions: none. -/
import Derived.Test.YtciaehhaglaafaaVd
import Derived.Test.YtciaehhaglaafaaIbo
set_option linter.unusedSimpArgs false
set_option linter.unusedVariables false
set_option maxRecDepth 100000
set_option maxHeartbeats 1000000
namespace Go.Proofs.Ytciaehhaglaafaa
open Go.VM
theorem eqT {a b : Int} (h : a = b) : eqF a b = true := by rw [eqF_eq]; simpa using h
theorem eqN {a b : Int} (h : a ≠ b) : eqF a b = false := by rw [eqF_eq]; simpa using h
theorem neT {a b : Int} (h : a ≠ b) : (!(eqF a b)) = true := by rw [eqN h]; rfl
theorem neN {a b : Int} (h : a = b) : (!(eqF a b)) = false := by rw [eqT h]; rfl
theorem leT {a b : Int} (h : a ≤ b) : leF a b = true := by rw [leF_eq]; simpa using h
theorem leN {a b : Int} (h : b < a) : leF a b = false := by rw [leF_eq]; simpa using h
theorem ngT {a b : Int} (h : b < a) : (!(leF a b)) = true := by rw [leN h]; rfl
theorem ngN {a b : Int} (h : a ≤ b) : (!(leF a b)) = false := by rw [leT h]; rfl
theorem wF_in {n : Int} (h1 : -9223372036854775808 ≤ n) (h2 : n ≤ 9223372036854775807) : wF n = n := by rw [wF_eq]; exact w_in h1 h2
noncomputable abbrev A8r (R : List (List D)) (nx : Int → Int → Int) (na : Int → Int) := cA VP vft.get (A8 R nx na) 400 60
theorem A8_ok (R : List (List D)) (nx : Int → Int → Int) (na : Int → Int) : CFok VP (A8r R nx na) := cA_ok vft_ok _ 400 60
def Inv8 (R : List (List D)) (m : Nat) (st : St) : Prop := ∃ (tk : List (List D)) (g r b x n k j : Int), (tk = [] ∨ ∃ y, tk = tk1 y) ∧ r ≠ 8 ∧ 0 ≤ b ∧ b ≤ 3 ∧ 0 ≤ k ∧ j + m = 12 ∧ 0 ≤ j ∧ At vf8K0 3 st (T8 b j) [[.d (.sl R), .d (I k)], gw8 tk g r b x n, gx8] [0] 1 0
theorem x8 {R : List (List D)} {nx : Int → Int → Int} {na : Int → Int} (tk : List (List D)) (g r b x n ct k : Int) : segF (A8r R nx na) 400 [] [] vf8L0 (List.range 156) (T8 ct 12) [[.d (.sl R), .d (I k)], gw8 tk g r b x n, gx8] [0] 1 0 = some (⟨.tup (.fn 2 [] :: us8 ct), [[.d (.sl R), .d (I k)], gw8 tk g r b x n, gx8], [0], 1⟩, []) := by kernel_rfl
theorem end8 {R : List (List D)} {nx : Int → Int → Int} {na : Int → Int} (tk : List (List D)) (g r x n ct k : Int) (h : ct ≤ 3) : RX VP (seqL ((flat vf8.body).drop 11)) ⟨us8 ct, [[.d (.sl R), .d (I k)], gw8 tk g r ct x n, gx8], [0], 1, 0, 0⟩ (retQ vf8 0 ⟨.d (B true), [], [], 0⟩) := by
  have h1 := leT h
  have h2 := RX_end (A8_ok R nx na) 400 [(0, true), (0, true), (0, true), (0, true), (0, true), (0, true), (0, true), (0, true)] [] (vf := vf8) (n := 0) (c := seqL ((flat vf8.body).drop 11)) (ts := us8 ct) (bl := [[.d (.sl R), .d (I k)], gw8 tk g r ct x n, gx8]) (lv := [0]) (gn := 1) (ba := 0) (ret := ⟨.d (B (eqF ct ct)), [], [], 0⟩) (ob := [((leF ct 3), true), ((leF ct 3), true), ((leF ct 3), true), ((leF ct 3), true), ((leF ct 3), true), ((leF ct 3), true), ((leF ct 3), true), ((leF ct 3), true)]) (by kernel_rfl) (by (iterate 8 (refine .cons h1 ?_)); exact .nil)
  rw [eqF_self] at h2
  exact h2
theorem round8a {R : List (List D)} {nx : Int → Int → Int} {na : Int → Int} (hN : NX R nx na) {Q : VExit → St → Prop} (g r b x n k j : Int) (m : Nat) (hr : r ≠ 8) (hb0 : 0 ≤ b) (hb : b ≤ 3) (hk : 0 ≤ k) (hj0 : 0 ≤ j) (hjm : j + (m + 1 : Nat) = 12)
    (ih : ∀ m' st', m' < m + 1 → Inv8 R m' st' → RL VP vf8K0 vf8L0 3 st' Q) : RX VP vf8L0 ⟨T8 b j, [[.d (.sl R), .d (I k)], gw8 [] g r b x n, gx8], [0], 1, 0, 0⟩ (again VP vf8K0 vf8L0 3 Q) := by
  have hj : j < 12 := by omega
  have w0 : wF (b + 0) = b := by rw [wF_in (by omega) (by omega)]; omega
  have wB : wF (b + 1) = b + 1 := wF_in (by omega) (by omega)
  have wJ : wF (j + 1) = j + 1 := wF_in (by omega) (by omega)
  obtain ⟨q20, q21⟩ := hN.rng (na (na k)) 2 (by decide)
  obtain ⟨q50, q51⟩ := hN.rng (na (na (na k))) 5 (by decide)
  rcases (show nx (na (na k)) 2 = 0 ∨ nx (na (na k)) 2 = 1 by omega) with h2 | h2
  · rcases (show nx (na (na (na k))) 5 = 0 ∨ nx (na (na (na k))) 5 = 1 ∨ nx (na (na (na k))) 5 = 2 ∨ nx (na (na (na k))) 5 = 3 ∨ nx (na (na (na k))) 5 = 4 by omega) with h5 | h5 | h5 | h5 | h5
    · by_cases hb3 : 3 ≤ b
      ·
        obtain ⟨ob, rest, h, ho⟩ := r8a_0 g r b x n b k j hN hk (eqN hr) (leT hb3) (eqT h5) (eqT h2) (ngT hj)
        rw [w0, wJ] at h
        exact RX_round (A8_ok R nx na) 400 _ _ h ho rfl fun st hat => ih m st (Nat.lt_succ_self m) ⟨[], g, r, b, x, n, _, (j + 1), .inl rfl, hr, hb0, hb, hN.nn _, (by omega), (by omega), hat⟩
      · replace hb3 : b < 3 := by omega
        obtain ⟨ob, rest, h, ho⟩ := r8a_1 g r b x n b k j hN hk (eqN hr) (leN hb3) (eqT h5) (eqT h2) (ngT hj)
        rw [wB, wJ] at h
        exact RX_round (A8_ok R nx na) 400 _ _ h ho rfl fun st hat => ih m st (Nat.lt_succ_self m) ⟨(tk1 (wF ((wF ((nx k 3) * 1048576)) + (wF (1 + (nx (na k) 5)))))), g, r, (b + 1), x, n, _, (j + 1), .inr ⟨_, rfl⟩, hr, (by omega), (by omega), hN.nn _, (by omega), (by omega), hat⟩
    · by_cases hg : 31 = g
      ·
        obtain ⟨ob, rest, h, ho⟩ := r8a_4 g r b x n b k j hN hk (eqN hr) (neN hg) (eqT h5) (eqT h2) (ngT hj)
        rw [w0, wJ] at h
        exact RX_round (A8_ok R nx na) 400 _ _ h ho rfl fun st hat => ih m st (Nat.lt_succ_self m) ⟨[], g, r, b, x, n, _, (j + 1), .inl rfl, hr, hb0, hb, hN.nn _, (by omega), (by omega), hat⟩
      · by_cases hb3 : 3 ≤ b
        ·
          obtain ⟨ob, rest, h, ho⟩ := r8a_2 g r b x n b k j hN hk (eqN hr) (leT hb3) (neT hg) (eqT h5) (eqT h2) (ngT hj)
          rw [w0, wJ] at h
          exact RX_round (A8_ok R nx na) 400 _ _ h ho rfl fun st hat => ih m st (Nat.lt_succ_self m) ⟨[], g, r, b, x, n, _, (j + 1), .inl rfl, hr, hb0, hb, hN.nn _, (by omega), (by omega), hat⟩
        · replace hb3 : b < 3 := by omega
          obtain ⟨ob, rest, h, ho⟩ := r8a_3 g r b x n b k j hN hk (eqN hr) (leN hb3) (neT hg) (eqT h5) (eqT h2) (ngT hj)
          rw [wB, wJ] at h
          exact RX_round (A8_ok R nx na) 400 _ _ h ho rfl fun st hat => ih m st (Nat.lt_succ_self m) ⟨[], 31, r, (b + 1), (wF (0 + (wF (n + 1)))), (wF (n + 1)), _, (j + 1), .inl rfl, hr, (by omega), (by omega), hN.nn _, (by omega), (by omega), hat⟩
    · by_cases hb3 : 3 ≤ b
      ·
        obtain ⟨ob, rest, h, ho⟩ := r8a_5 g r b x n b k j hN hk (eqN hr) (leT hb3) (eqT h5) (eqT h2) (ngT hj)
        rw [w0, wJ] at h
        exact RX_round (A8_ok R nx na) 400 _ _ h ho rfl fun st hat => ih m st (Nat.lt_succ_self m) ⟨[], g, r, b, x, n, _, (j + 1), .inl rfl, hr, hb0, hb, hN.nn _, (by omega), (by omega), hat⟩
      · replace hb3 : b < 3 := by omega
        obtain ⟨ob, rest, h, ho⟩ := r8a_6 g r b x n b k j hN hk (leN hb3) (eqT h5) (eqT h2) (ngT hj)
        rw [wB, wJ] at h
        exact RX_round (A8_ok R nx na) 400 _ _ h ho rfl fun st hat => ih m st (Nat.lt_succ_self m) ⟨[], g, 9, (b + 1), x, n, _, (j + 1), .inl rfl, (by decide), (by omega), (by omega), hN.nn _, (by omega), (by omega), hat⟩
    ·
      obtain ⟨ob, rest, h, ho⟩ := r8a_7 g r b x n b k j hN hk (eqN hr) (eqT h5) (eqT h2) (ngT hj)
      rw [w0, wJ] at h
      exact RX_round (A8_ok R nx na) 400 _ _ h ho rfl fun st hat => ih m st (Nat.lt_succ_self m) ⟨[], g, r, b, x, n, _, (j + 1), .inl rfl, hr, hb0, hb, hN.nn _, (by omega), (by omega), hat⟩
    ·
      obtain ⟨ob, rest, h, ho⟩ := r8a_8 g r b x n b k j hN hk (eqN hr) (eqT h5) (eqT h2) (ngT hj)
      rw [w0, wJ] at h
      exact RX_round (A8_ok R nx na) 400 _ _ h ho rfl fun st hat => ih m st (Nat.lt_succ_self m) ⟨[], g, r, b, x, n, _, (j + 1), .inl rfl, hr, hb0, hb, hN.nn _, (by omega), (by omega), hat⟩
  
  · rcases (show nx (na (na (na k))) 5 = 0 ∨ nx (na (na (na k))) 5 = 1 ∨ nx (na (na (na k))) 5 = 2 ∨ nx (na (na (na k))) 5 = 3 ∨ nx (na (na (na k))) 5 = 4 by omega) with h5 | h5 | h5 | h5 | h5
    · by_cases hb3 : 3 ≤ b
      ·
        obtain ⟨ob, rest, h, ho⟩ := r8a_9 g r b x n b k j hN hk (eqN hr) (leT hb3) (eqT h5) (eqT h2) (ngT hj)
        rw [w0, wJ] at h
        exact RX_round (A8_ok R nx na) 400 _ _ h ho rfl fun st hat => ih m st (Nat.lt_succ_self m) ⟨[], g, r, b, x, n, _, (j + 1), .inl rfl, hr, hb0, hb, hN.nn _, (by omega), (by omega), hat⟩
      · replace hb3 : b < 3 := by omega
        obtain ⟨ob, rest, h, ho⟩ := r8a_10 g r b x n b k j hN hk (eqN hr) (leN hb3) (eqT h5) (eqT h2) (ngT hj)
        rw [wB, wJ] at h
        exact RX_round (A8_ok R nx na) 400 _ _ h ho rfl fun st hat => ih m st (Nat.lt_succ_self m) ⟨(tk1 (wF ((wF ((nx k 3) * 1048576)) + (wF (1 + (nx (na k) 5)))))), g, r, (b + 1), x, n, _, (j + 1), .inr ⟨_, rfl⟩, hr, (by omega), (by omega), hN.nn _, (by omega), (by omega), hat⟩
    · by_cases hg : 1024 = g
      ·
        obtain ⟨ob, rest, h, ho⟩ := r8a_13 g r b x n b k j hN hk (eqN hr) (neN hg) (eqT h5) (eqT h2) (ngT hj)
        rw [w0, wJ] at h
        exact RX_round (A8_ok R nx na) 400 _ _ h ho rfl fun st hat => ih m st (Nat.lt_succ_self m) ⟨[], g, r, b, x, n, _, (j + 1), .inl rfl, hr, hb0, hb, hN.nn _, (by omega), (by omega), hat⟩
      · by_cases hb3 : 3 ≤ b
        ·
          obtain ⟨ob, rest, h, ho⟩ := r8a_11 g r b x n b k j hN hk (eqN hr) (leT hb3) (neT hg) (eqT h5) (eqT h2) (ngT hj)
          rw [w0, wJ] at h
          exact RX_round (A8_ok R nx na) 400 _ _ h ho rfl fun st hat => ih m st (Nat.lt_succ_self m) ⟨[], g, r, b, x, n, _, (j + 1), .inl rfl, hr, hb0, hb, hN.nn _, (by omega), (by omega), hat⟩
        · replace hb3 : b < 3 := by omega
          obtain ⟨ob, rest, h, ho⟩ := r8a_12 g r b x n b k j hN hk (eqN hr) (leN hb3) (neT hg) (eqT h5) (eqT h2) (ngT hj)
          rw [wB, wJ] at h
          exact RX_round (A8_ok R nx na) 400 _ _ h ho rfl fun st hat => ih m st (Nat.lt_succ_self m) ⟨[], 1024, r, (b + 1), (wF (0 + (wF (n + 1)))), (wF (n + 1)), _, (j + 1), .inl rfl, hr, (by omega), (by omega), hN.nn _, (by omega), (by omega), hat⟩
    · by_cases hb3 : 3 ≤ b
      ·
        obtain ⟨ob, rest, h, ho⟩ := r8a_14 g r b x n b k j hN hk (eqN hr) (leT hb3) (eqT h5) (eqT h2) (ngT hj)
        rw [w0, wJ] at h
        exact RX_round (A8_ok R nx na) 400 _ _ h ho rfl fun st hat => ih m st (Nat.lt_succ_self m) ⟨[], g, r, b, x, n, _, (j + 1), .inl rfl, hr, hb0, hb, hN.nn _, (by omega), (by omega), hat⟩
      · replace hb3 : b < 3 := by omega
        obtain ⟨ob, rest, h, ho⟩ := r8a_15 g r b x n b k j hN hk (leN hb3) (eqT h5) (eqT h2) (ngT hj)
        rw [wB, wJ] at h
        exact RX_round (A8_ok R nx na) 400 _ _ h ho rfl fun st hat => ih m st (Nat.lt_succ_self m) ⟨[], g, 9, (b + 1), x, n, _, (j + 1), .inl rfl, (by decide), (by omega), (by omega), hN.nn _, (by omega), (by omega), hat⟩
    ·
      obtain ⟨ob, rest, h, ho⟩ := r8a_16 g r b x n b k j hN hk (eqN hr) (eqT h5) (eqT h2) (ngT hj)
      rw [w0, wJ] at h
      exact RX_round (A8_ok R nx na) 400 _ _ h ho rfl fun st hat => ih m st (Nat.lt_succ_self m) ⟨[], g, r, b, x, n, _, (j + 1), .inl rfl, hr, hb0, hb, hN.nn _, (by omega), (by omega), hat⟩
    ·
      obtain ⟨ob, rest, h, ho⟩ := r8a_17 g r b x n b k j hN hk (eqN hr) (eqT h5) (eqT h2) (ngT hj)
      rw [w0, wJ] at h
      exact RX_round (A8_ok R nx na) 400 _ _ h ho rfl fun st hat => ih m st (Nat.lt_succ_self m) ⟨[], g, r, b, x, n, _, (j + 1), .inl rfl, hr, hb0, hb, hN.nn _, (by omega), (by omega), hat⟩
theorem round8b {R : List (List D)} {nx : Int → Int → Int} {na : Int → Int} (hN : NX R nx na) {Q : VExit → St → Prop} (y : Int) (g r b x n k j : Int) (m : Nat) (hr : r ≠ 8) (hb0 : 0 ≤ b) (hb : b ≤ 3) (hk : 0 ≤ k) (hj0 : 0 ≤ j) (hjm : j + (m + 1 : Nat) = 12)
    (ih : ∀ m' st', m' < m + 1 → Inv8 R m' st' → RL VP vf8K0 vf8L0 3 st' Q) : RX VP vf8L0 ⟨T8 b j, [[.d (.sl R), .d (I k)], gw8 (tk1 y) g r b x n, gx8], [0], 1, 0, 0⟩ (again VP vf8K0 vf8L0 3 Q) := by
  have hj : j < 12 := by omega
  have w0 : wF (b + 0) = b := by rw [wF_in (by omega) (by omega)]; omega
  have wB : wF (b + 1) = b + 1 := wF_in (by omega) (by omega)
  have wJ : wF (j + 1) = j + 1 := wF_in (by omega) (by omega)
  obtain ⟨q20, q21⟩ := hN.rng (na (na k)) 2 (by decide)
  obtain ⟨q50, q51⟩ := hN.rng (na (na (na k))) 5 (by decide)
  rcases (show nx (na (na k)) 2 = 0 ∨ nx (na (na k)) 2 = 1 by omega) with h2 | h2
  · rcases (show nx (na (na (na k))) 5 = 0 ∨ nx (na (na (na k))) 5 = 1 ∨ nx (na (na (na k))) 5 = 2 ∨ nx (na (na (na k))) 5 = 3 ∨ nx (na (na (na k))) 5 = 4 by omega) with h5 | h5 | h5 | h5 | h5
    · by_cases hb3 : 3 ≤ b
      ·
        obtain ⟨ob, rest, h, ho⟩ := r8b_0 y g r b x n b k j hN hk (eqN hr) (leT hb3) (eqT h5) (eqT h2) (ngT hj)
        rw [w0, wJ] at h
        exact RX_round (A8_ok R nx na) 400 _ _ h ho rfl fun st hat => ih m st (Nat.lt_succ_self m) ⟨(tk1 y), g, r, b, x, n, _, (j + 1), .inr ⟨_, rfl⟩, hr, hb0, hb, hN.nn _, (by omega), (by omega), hat⟩
      · replace hb3 : b < 3 := by omega
        obtain ⟨ob, rest, h, ho⟩ := r8b_1 y g r b x n b k j hN hk (eqN hr) (leN hb3) (eqT h5) (eqT h2) (ngT hj)
        rw [wB, wJ] at h
        exact RX_round (A8_ok R nx na) 400 _ _ h ho rfl fun st hat => ih m st (Nat.lt_succ_self m) ⟨(tk1 (wF ((wF ((nx k 3) * 1048576)) + (wF (1 + (nx (na k) 5)))))), g, r, (b + 1), x, n, _, (j + 1), .inr ⟨_, rfl⟩, hr, (by omega), (by omega), hN.nn _, (by omega), (by omega), hat⟩
    · by_cases hg : 31 = g
      ·
        obtain ⟨ob, rest, h, ho⟩ := r8b_4 y g r b x n b k j hN hk (eqN hr) (neN hg) (eqT h5) (eqT h2) (ngT hj)
        rw [w0, wJ] at h
        exact RX_round (A8_ok R nx na) 400 _ _ h ho rfl fun st hat => ih m st (Nat.lt_succ_self m) ⟨(tk1 y), g, r, b, x, n, _, (j + 1), .inr ⟨_, rfl⟩, hr, hb0, hb, hN.nn _, (by omega), (by omega), hat⟩
      · by_cases hb3 : 3 ≤ b
        ·
          obtain ⟨ob, rest, h, ho⟩ := r8b_2 y g r b x n b k j hN hk (eqN hr) (leT hb3) (neT hg) (eqT h5) (eqT h2) (ngT hj)
          rw [w0, wJ] at h
          exact RX_round (A8_ok R nx na) 400 _ _ h ho rfl fun st hat => ih m st (Nat.lt_succ_self m) ⟨(tk1 y), g, r, b, x, n, _, (j + 1), .inr ⟨_, rfl⟩, hr, hb0, hb, hN.nn _, (by omega), (by omega), hat⟩
        · replace hb3 : b < 3 := by omega
          obtain ⟨ob, rest, h, ho⟩ := r8b_3 y g r b x n b k j hN hk (eqN hr) (leN hb3) (neT hg) (eqT h5) (eqT h2) (ngT hj)
          rw [wB, wJ] at h
          exact RX_round (A8_ok R nx na) 400 _ _ h ho rfl fun st hat => ih m st (Nat.lt_succ_self m) ⟨[], 31, r, (b + 1), (wF (0 + (wF (n + 1)))), (wF (n + 1)), _, (j + 1), .inl rfl, hr, (by omega), (by omega), hN.nn _, (by omega), (by omega), hat⟩
    · by_cases hb3 : 3 ≤ b
      ·
        obtain ⟨ob, rest, h, ho⟩ := r8b_5 y g r b x n b k j hN hk (eqN hr) (leT hb3) (eqT h5) (eqT h2) (ngT hj)
        rw [w0, wJ] at h
        exact RX_round (A8_ok R nx na) 400 _ _ h ho rfl fun st hat => ih m st (Nat.lt_succ_self m) ⟨(tk1 y), g, r, b, x, n, _, (j + 1), .inr ⟨_, rfl⟩, hr, hb0, hb, hN.nn _, (by omega), (by omega), hat⟩
      · replace hb3 : b < 3 := by omega
        obtain ⟨ob, rest, h, ho⟩ := r8b_6 y g r b x n b k j hN hk (leN hb3) (eqT h5) (eqT h2) (ngT hj)
        rw [wB, wJ] at h
        exact RX_round (A8_ok R nx na) 400 _ _ h ho rfl fun st hat => ih m st (Nat.lt_succ_self m) ⟨[], g, 9, (b + 1), x, n, _, (j + 1), .inl rfl, (by decide), (by omega), (by omega), hN.nn _, (by omega), (by omega), hat⟩
    ·
      obtain ⟨ob, rest, h, ho⟩ := r8b_7 y g r b x n b k j hN hk (eqN hr) (eqT h5) (eqT h2) (ngT hj)
      rw [w0, wJ] at h
      exact RX_round (A8_ok R nx na) 400 _ _ h ho rfl fun st hat => ih m st (Nat.lt_succ_self m) ⟨(tk1 y), g, r, b, x, n, _, (j + 1), .inr ⟨_, rfl⟩, hr, hb0, hb, hN.nn _, (by omega), (by omega), hat⟩
    ·
      obtain ⟨ob, rest, h, ho⟩ := r8b_8 y g r b x n b k j hN hk (eqN hr) (eqT h5) (eqT h2) (ngT hj)
      rw [w0, wJ] at h
      exact RX_round (A8_ok R nx na) 400 _ _ h ho rfl fun st hat => ih m st (Nat.lt_succ_self m) ⟨(tk1 y), g, r, b, x, n, _, (j + 1), .inr ⟨_, rfl⟩, hr, hb0, hb, hN.nn _, (by omega), (by omega), hat⟩
  
  · rcases (show nx (na (na (na k))) 5 = 0 ∨ nx (na (na (na k))) 5 = 1 ∨ nx (na (na (na k))) 5 = 2 ∨ nx (na (na (na k))) 5 = 3 ∨ nx (na (na (na k))) 5 = 4 by omega) with h5 | h5 | h5 | h5 | h5
    · by_cases hb3 : 3 ≤ b
      ·
        obtain ⟨ob, rest, h, ho⟩ := r8b_9 y g r b x n b k j hN hk (eqN hr) (leT hb3) (eqT h5) (eqT h2) (ngT hj)
        rw [w0, wJ] at h
        exact RX_round (A8_ok R nx na) 400 _ _ h ho rfl fun st hat => ih m st (Nat.lt_succ_self m) ⟨(tk1 y), g, r, b, x, n, _, (j + 1), .inr ⟨_, rfl⟩, hr, hb0, hb, hN.nn _, (by omega), (by omega), hat⟩
      · replace hb3 : b < 3 := by omega
        obtain ⟨ob, rest, h, ho⟩ := r8b_10 y g r b x n b k j hN hk (eqN hr) (leN hb3) (eqT h5) (eqT h2) (ngT hj)
        rw [wB, wJ] at h
        exact RX_round (A8_ok R nx na) 400 _ _ h ho rfl fun st hat => ih m st (Nat.lt_succ_self m) ⟨(tk1 (wF ((wF ((nx k 3) * 1048576)) + (wF (1 + (nx (na k) 5)))))), g, r, (b + 1), x, n, _, (j + 1), .inr ⟨_, rfl⟩, hr, (by omega), (by omega), hN.nn _, (by omega), (by omega), hat⟩
    · by_cases hg : 1024 = g
      ·
        obtain ⟨ob, rest, h, ho⟩ := r8b_13 y g r b x n b k j hN hk (eqN hr) (neN hg) (eqT h5) (eqT h2) (ngT hj)
        rw [w0, wJ] at h
        exact RX_round (A8_ok R nx na) 400 _ _ h ho rfl fun st hat => ih m st (Nat.lt_succ_self m) ⟨(tk1 y), g, r, b, x, n, _, (j + 1), .inr ⟨_, rfl⟩, hr, hb0, hb, hN.nn _, (by omega), (by omega), hat⟩
      · by_cases hb3 : 3 ≤ b
        ·
          obtain ⟨ob, rest, h, ho⟩ := r8b_11 y g r b x n b k j hN hk (eqN hr) (leT hb3) (neT hg) (eqT h5) (eqT h2) (ngT hj)
          rw [w0, wJ] at h
          exact RX_round (A8_ok R nx na) 400 _ _ h ho rfl fun st hat => ih m st (Nat.lt_succ_self m) ⟨(tk1 y), g, r, b, x, n, _, (j + 1), .inr ⟨_, rfl⟩, hr, hb0, hb, hN.nn _, (by omega), (by omega), hat⟩
        · replace hb3 : b < 3 := by omega
          obtain ⟨ob, rest, h, ho⟩ := r8b_12 y g r b x n b k j hN hk (eqN hr) (leN hb3) (neT hg) (eqT h5) (eqT h2) (ngT hj)
          rw [wB, wJ] at h
          exact RX_round (A8_ok R nx na) 400 _ _ h ho rfl fun st hat => ih m st (Nat.lt_succ_self m) ⟨[], 1024, r, (b + 1), (wF (0 + (wF (n + 1)))), (wF (n + 1)), _, (j + 1), .inl rfl, hr, (by omega), (by omega), hN.nn _, (by omega), (by omega), hat⟩
    · by_cases hb3 : 3 ≤ b
      ·
        obtain ⟨ob, rest, h, ho⟩ := r8b_14 y g r b x n b k j hN hk (eqN hr) (leT hb3) (eqT h5) (eqT h2) (ngT hj)
        rw [w0, wJ] at h
        exact RX_round (A8_ok R nx na) 400 _ _ h ho rfl fun st hat => ih m st (Nat.lt_succ_self m) ⟨(tk1 y), g, r, b, x, n, _, (j + 1), .inr ⟨_, rfl⟩, hr, hb0, hb, hN.nn _, (by omega), (by omega), hat⟩
      · replace hb3 : b < 3 := by omega
        obtain ⟨ob, rest, h, ho⟩ := r8b_15 y g r b x n b k j hN hk (leN hb3) (eqT h5) (eqT h2) (ngT hj)
        rw [wB, wJ] at h
        exact RX_round (A8_ok R nx na) 400 _ _ h ho rfl fun st hat => ih m st (Nat.lt_succ_self m) ⟨[], g, 9, (b + 1), x, n, _, (j + 1), .inl rfl, (by decide), (by omega), (by omega), hN.nn _, (by omega), (by omega), hat⟩
    ·
      obtain ⟨ob, rest, h, ho⟩ := r8b_16 y g r b x n b k j hN hk (eqN hr) (eqT h5) (eqT h2) (ngT hj)
      rw [w0, wJ] at h
      exact RX_round (A8_ok R nx na) 400 _ _ h ho rfl fun st hat => ih m st (Nat.lt_succ_self m) ⟨(tk1 y), g, r, b, x, n, _, (j + 1), .inr ⟨_, rfl⟩, hr, hb0, hb, hN.nn _, (by omega), (by omega), hat⟩
    ·
      obtain ⟨ob, rest, h, ho⟩ := r8b_17 y g r b x n b k j hN hk (eqN hr) (eqT h5) (eqT h2) (ngT hj)
      rw [w0, wJ] at h
      exact RX_round (A8_ok R nx na) 400 _ _ h ho rfl fun st hat => ih m st (Nat.lt_succ_self m) ⟨(tk1 y), g, r, b, x, n, _, (j + 1), .inr ⟨_, rfl⟩, hr, hb0, hb, hN.nn _, (by omega), (by omega), hat⟩
theorem loop8 {R : List (List D)} {nx : Int → Int → Int} {na : Int → Int} (hN : NX R nx na) : ∀ m st, Inv8 R m st → RL VP vf8K0 vf8L0 3 st (outQ 0 (thn VP (seqL ((flat vf8.body).drop 11)) (retQ vf8 0 ⟨.d (B true), [], [], 0⟩))) := by
  refine RL_ind (Inv8 R) ?_
  rintro m st ⟨tk, g, r, b, x, n, k, j, htk, hr, hb0, hb, hk, hjm, hj0, hat⟩ ih
  refine RL_at hat (by rcases htk with rfl | ⟨y, rfl⟩ <;> rfl) (by rcases htk with rfl | ⟨y, rfl⟩ <;> rfl) (vf8L0_go ?_)
  cases m with
  | zero =>
    obtain rfl : j = 12 := by omega
    exact RX_lastA (A8_ok R nx na) 400 _ _ (x8 tk g r b x n b k) .nil rfl (end8 (nx := nx) (na := na) tk g r x n b k hb)
  | succ m =>
    rcases htk with rfl | ⟨y, rfl⟩
    · exact round8a hN g r b x n k j m hr hb0 hb hk hj0 hjm ih
    · exact round8b hN y g r b x n k j m hr hb0 hb hk hj0 hjm ih
theorem first8 {R : List (List D)} {nx : Int → Int → Int} {na : Int → Int} (hN : NX R nx na) {Q : VExit → St → Prop} (ih : ∀ m st, m < 12 → Inv8 R m st → RL VP vf8K0 vf8L0 3 st Q) : RX VP vf8L0 ⟨T8 0 0, [[.sl 1 R (.own 0 0), .d (I 0)], gw8 [] 31 2 0 5 5, gx8], [0], 1, 0, 0⟩ (again VP vf8K0 vf8L0 3 Q) := by
  obtain ⟨q20, q21⟩ := hN.rng (na (na 0)) 2 (by decide)
  obtain ⟨q50, q51⟩ := hN.rng (na (na (na 0))) 5 (by decide)
  rcases (show nx (na (na 0)) 2 = 0 ∨ nx (na (na 0)) 2 = 1 by omega) with h2 | h2
  · rcases (show nx (na (na (na 0))) 5 = 0 ∨ nx (na (na (na 0))) 5 = 1 ∨ nx (na (na (na 0))) 5 = 2 ∨ nx (na (na (na 0))) 5 = 3 ∨ nx (na (na (na 0))) 5 = 4 by omega) with h5 | h5 | h5 | h5 | h5
    ·
      obtain ⟨ob, rest, h, ho⟩ := r8c_0  hN (eqT h5) (eqT h2)
      exact RX_round (A8_ok R nx na) 400 _ _ h ho rfl fun st hat => ih 11 st (by decide) ⟨(tk1 (wF ((wF ((nx 0 3) * 1048576)) + (wF (1 + (nx (na 0) 5)))))), 31, 2, 1, 5, 5, _, 1, .inr ⟨_, rfl⟩, by decide, by decide, by decide, hN.nn _, by decide, by decide, hat⟩
    ·
      obtain ⟨ob, rest, h, ho⟩ := r8c_1  hN (eqT h5) (eqT h2)
      exact RX_round (A8_ok R nx na) 400 _ _ h ho rfl fun st hat => ih 11 st (by decide) ⟨[], 31, 2, 0, 5, 5, _, 1, .inl rfl, by decide, by decide, by decide, hN.nn _, by decide, by decide, hat⟩
    ·
      obtain ⟨ob, rest, h, ho⟩ := r8c_2  hN (eqT h5) (eqT h2)
      exact RX_round (A8_ok R nx na) 400 _ _ h ho rfl fun st hat => ih 11 st (by decide) ⟨[], 31, 9, 1, 5, 5, _, 1, .inl rfl, by decide, by decide, by decide, hN.nn _, by decide, by decide, hat⟩
    ·
      obtain ⟨ob, rest, h, ho⟩ := r8c_3  hN (eqT h5) (eqT h2)
      exact RX_round (A8_ok R nx na) 400 _ _ h ho rfl fun st hat => ih 11 st (by decide) ⟨[], 31, 2, 0, 5, 5, _, 1, .inl rfl, by decide, by decide, by decide, hN.nn _, by decide, by decide, hat⟩
    ·
      obtain ⟨ob, rest, h, ho⟩ := r8c_4  hN (eqT h5) (eqT h2)
      exact RX_round (A8_ok R nx na) 400 _ _ h ho rfl fun st hat => ih 11 st (by decide) ⟨[], 31, 2, 0, 5, 5, _, 1, .inl rfl, by decide, by decide, by decide, hN.nn _, by decide, by decide, hat⟩
  
  · rcases (show nx (na (na (na 0))) 5 = 0 ∨ nx (na (na (na 0))) 5 = 1 ∨ nx (na (na (na 0))) 5 = 2 ∨ nx (na (na (na 0))) 5 = 3 ∨ nx (na (na (na 0))) 5 = 4 by omega) with h5 | h5 | h5 | h5 | h5
    ·
      obtain ⟨ob, rest, h, ho⟩ := r8c_5  hN (eqT h5) (eqT h2)
      exact RX_round (A8_ok R nx na) 400 _ _ h ho rfl fun st hat => ih 11 st (by decide) ⟨(tk1 (wF ((wF ((nx 0 3) * 1048576)) + (wF (1 + (nx (na 0) 5)))))), 31, 2, 1, 5, 5, _, 1, .inr ⟨_, rfl⟩, by decide, by decide, by decide, hN.nn _, by decide, by decide, hat⟩
    ·
      obtain ⟨ob, rest, h, ho⟩ := r8c_6  hN (eqT h5) (eqT h2)
      exact RX_round (A8_ok R nx na) 400 _ _ h ho rfl fun st hat => ih 11 st (by decide) ⟨[], 1024, 2, 1, 6, 6, _, 1, .inl rfl, by decide, by decide, by decide, hN.nn _, by decide, by decide, hat⟩
    ·
      obtain ⟨ob, rest, h, ho⟩ := r8c_7  hN (eqT h5) (eqT h2)
      exact RX_round (A8_ok R nx na) 400 _ _ h ho rfl fun st hat => ih 11 st (by decide) ⟨[], 31, 9, 1, 5, 5, _, 1, .inl rfl, by decide, by decide, by decide, hN.nn _, by decide, by decide, hat⟩
    ·
      obtain ⟨ob, rest, h, ho⟩ := r8c_8  hN (eqT h5) (eqT h2)
      exact RX_round (A8_ok R nx na) 400 _ _ h ho rfl fun st hat => ih 11 st (by decide) ⟨[], 31, 2, 0, 5, 5, _, 1, .inl rfl, by decide, by decide, by decide, hN.nn _, by decide, by decide, hat⟩
    ·
      obtain ⟨ob, rest, h, ho⟩ := r8c_9  hN (eqT h5) (eqT h2)
      exact RX_round (A8_ok R nx na) 400 _ _ h ho rfl fun st hat => ih 11 st (by decide) ⟨[], 31, 2, 0, 5, 5, _, 1, .inl rfl, by decide, by decide, by decide, hN.nn _, by decide, by decide, hat⟩
/-- the law InitialBounds -/
theorem e8 {l : List Int} (hB : ByteL l) : CV VP 8 [.d (byteD l)] [] = some ⟨.d (B true), [], [], 0⟩ := by
  have hb : Bytes (l.take 80) := bytes_take hB 80 (by decide)
  have hN := nx_of hb
  have h17 := e21 (l := l) 80 (by decide)
  generalize (fun (k n : Int) => nxV (List.take 80 l) k.toNat n) = nx at hN
  generalize (fun (k : Int) => ((nxA (List.take 80 l) k.toNat : Nat) : Int)) = na at hN
  refine CV_run (vf := vf8) rfl rfl ?_
  rw [vf8_start]
  refine RX_cut 10 ?_
  obtain ⟨ob, h, ho⟩ := p8 (R := (l.take 80).map byteRow) (X := l.map byteRow) (nx := nx) (na := na) h17
  refine RX_segK (A8_ok _ nx na) 400 _ _ h ho fun st hs => ?_
  refine RX_seq (RX_block (RX_loopN (n := 3) (by rw [hs.blocks]; rfl) ?_))
  refine RL_at (hs.at (keep := vf8K0) (n := 3) rfl) rfl rfl (vf8L0_go ?_)
  exact first8 hN fun m st _ hi => loop8 hN m st hi
end Go.Proofs.Ytciaehhaglaafaa
