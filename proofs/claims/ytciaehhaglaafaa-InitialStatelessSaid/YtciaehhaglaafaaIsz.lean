/- The law InitialStateless on the machine: it answers true. Conditions: none. -/
import Derived.Test.YtciaehhaglaafaaVd
import Derived.Test.YtciaehhaglaafaaIso
set_option linter.unusedSimpArgs false
set_option linter.unusedVariables false
set_option maxRecDepth 100000
set_option maxHeartbeats 1000000
namespace Go.Proofs.Ytciaehhaglaafaa
open Go.VM
theorem A6_ok (R : List (List D)) (nx : Int → Int → Int) (na to tv tn : Int → Int) (ta : Int → List (List D)) (sm : Int) : CFok VP (cA VP vft.get (A6 R nx na to tv tn ta sm) 400 60) := cA_ok vft_ok _ 400 60
def Inv6 (R : List (List D)) (s : Int) (m : Nat) (st : St) : Prop := ∃ (H : List (List D)) (n k j : Int), ((∃ (f : Int) (d : Nat → D), H = [rw6 f d] ∧ n = 5 ∧ IsS [d 2, d 3, d 4]) ∨ (∃ (f : Int) (d : Nat → D) (f2 : Int) (d2 : Nat → D), H = [rw6 f d, rw6 f2 d2] ∧ n = 8 ∧ IsS [d 2, d 3, d 4] ∧ IsS [d2 2, d2 3, d2 4])) ∧
  0 ≤ k ∧ j + m = 12 ∧ 0 ≤ j ∧ At vf6K0 3 st (T6 s j) [[.d (.sl R), .d (I k)], ga6, gb6 H n] [0] 1 0
theorem round6a {R : List (List D)} {nx : Int → Int → Int} {na to tv tn : Int → Int} {ta : Int → List (List D)} {sm s : Int} {f k j : Int} {d : Nat → D} (hN : NX R nx na) (hT : TX R to tv tn ta) (hk : 0 ≤ k) (h39 : CV VP 39 [.d (I s), .d (I 9)] [] = some ⟨.d (I sm), [], [], 0⟩) (hg : IsS [d 2, d 3, d 4]) {Q : VExit → St → Prop} (m : Nat) (hs : 0 ≤ sm ∧ sm < 9) (hj0 : 0 ≤ j) (hjm : j + (m + 1 : Nat) = 12)
    (ih : ∀ m' st', m' < m + 1 → Inv6 R s m' st' → RL VP vf6K0 vf6L0 3 st' Q) : RX VP vf6L0 ⟨T6 s j, [[.d (.sl R), .d (I k)], ga6, gb6 [rw6 f d] 5], [0], 1, 0, 0⟩ (again VP vf6K0 vf6L0 3 Q) := by
  have hj : j < 12 := by omega
  have wJ : wF (j + 1) = j + 1 := wF_in (by omega) (by omega)
  have q := hN.rng k 20 (by decide)
  have hc : (!(leF (wF (2097152 + (wF (50 + (nx k 20))))) 1048584)) = true := by
    rw [wF_in (n := 50 + nx k 20) (by omega) (by omega), wF_in (by omega) (by omega)]
    exact ngT (by omega)
  have hs0 : leF (wF (1 + sm)) 0 = false := by rw [wF_in (by omega) (by omega)]; exact leN (by omega)
  cases c0 : (eqF (nx (na k) 3) 2) with
  | true =>
    cases c1 : (eqF f (wF (1 + (nx (tn (na (na k))) 4)))) with
    | true =>
      cases c2 : (ansB VP 88 [.agg [.d (d 2), .d (d 3), .d (d 4)], .agg [.d (I 3), .d (I 0), .d (.sl [[I 1, I 34, .sl []], [I 1, I (wF (1 + sm)), .sl []], [I 1, I 0, .sl []], [I 1, I 2, .sl []], [I 1, I 0, .sl []], [I 3, I 0, .sl [[I 3, I 0, .sl [[I 1, I 1, .sl []], [I 1, I 31, .sl []]]], [I 3, I 0, .sl [[I 1, I 2, .sl []], [I 1, I 31, .sl []], [I 4, I 0, .sl [[I 2, I (wF (2097152 + (wF (50 + (nx k 20))))), .sl []]]]]], [I 3, I 0, .sl [[I 1, I 3, .sl []], [I 2, I (wF (2097152 + (wF (50 + (nx k 20))))), .sl []]]], [I 3, I 0, .sl [[I 1, I 4, .sl []], [I (to (na (na k))), I (tv (na (na k))), .sl (ta (na (na k)))]]]]]])]]) with
      | true =>
        obtain ⟨ob, rest, h, ho⟩ := r6a_0 hN hT hk h39 hg c2 c1 hs0 c0 (ngT hj)
        rw [wJ] at h
        exact RX_round (A6_ok R nx na to tv tn ta sm) 400 _ _ h ho rfl fun st hat => ih m st (Nat.lt_succ_self m) ⟨_, _, _, (j + 1), .inl ⟨_, _, rfl, rfl, hg⟩, (by first | exact hN.nn _ | exact hT.nn _ | exact hk | decide), (by omega), (by omega), hat⟩
      | false =>
        obtain ⟨ob, rest, h, ho⟩ := r6a_1 hN hT hk h39 hg hc c2 c1 hs0 c0 (ngT hj)
        rw [wJ] at h
        exact RX_round (A6_ok R nx na to tv tn ta sm) 400 _ _ h ho rfl fun st hat => ih m st (Nat.lt_succ_self m) ⟨_, _, _, (j + 1), .inr ⟨_, d, _, (fun i => List.getD [I 2006, I (wF (1 + sm)), I 3, I 0, .sl [[I 1, I 34, .sl []], [I 1, I (wF (1 + sm)), .sl []], [I 1, I 0, .sl []], [I 1, I 2, .sl []], [I 1, I 0, .sl []], [I 3, I 0, .sl [[I 3, I 0, .sl [[I 1, I 1, .sl []], [I 1, I 31, .sl []]]], [I 3, I 0, .sl [[I 1, I 2, .sl []], [I 1, I 31, .sl []], [I 4, I 0, .sl [[I 2, I (wF (2097152 + (wF (50 + (nx k 20))))), .sl []]]]]], [I 3, I 0, .sl [[I 1, I 3, .sl []], [I 2, I (wF (2097152 + (wF (50 + (nx k 20))))), .sl []]]], [I 3, I 0, .sl [[I 1, I 4, .sl []], [I (to (na (na k))), I (tv (na (na k))), .sl (ta (na (na k)))]]]]]], I 3, I 0, .sl [[I 1, I 34, .sl []], [I 1, I (wF (1 + sm)), .sl []], [I 1, I 2006, .sl []], [I 1, I 1, .sl []], [I 1, I 0, .sl []], [I 3, I 0, .sl [[I 3, I 0, .sl [[I 1, I 1, .sl []], [I 1, I 31, .sl []]]], [I 3, I 0, .sl [[I 1, I 2, .sl []], [I 1, I 31, .sl []], [I 4, I 0, .sl [[I 2, I 1048584, .sl []]]]]], [I 3, I 0, .sl [[I 1, I 3, .sl []], [I 2, I 1048583, .sl []]]], [I 3, I 0, .sl [[I 1, I 7, .sl []], [I 6, I 8, .sl [[I 1, I (wF (1 + sm)), .sl []], [I 1, I 2, .sl []]]], [I 6, I 8, .sl [[I 1, I (wF (1 + sm)), .sl []], [I 1, I (wF (1 + (nx (tn (na (na k))) 4))), .sl []]]]]]]]], I 2, I 1048583, .sl [], I 2, I (wF (2097152 + (wF (50 + (nx k 20))))), .sl [], I 6, I 2, .sl [[I 6, I 1, .sl [[I 2, I (wF (2097152 + (wF (50 + (nx k 20))))), .sl []], [I 2, I 1048583, .sl []], [I 5, I 0, .sl [[I 2, I 1048584, .sl []], [I 2, I (wF (2097152 + (wF (50 + (nx k 20))))), .sl []]]]]], [I 1, I (wF (1 + sm)), .sl []], [I 1, I 2006, .sl []]], I 6, I 4, .sl [[I 6, I 1, .sl [[I 2, I (wF (2097152 + (wF (50 + (nx k 20))))), .sl []], [I 2, I 1048583, .sl []], [I 5, I 0, .sl [[I 2, I 1048584, .sl []], [I 2, I (wF (2097152 + (wF (50 + (nx k 20))))), .sl []]]]]], [I 1, I (wF (1 + sm)), .sl []], [I 1, I 2006, .sl []]], I 6, I 3, .sl [[I 6, I 1, .sl [[I 2, I (wF (2097152 + (wF (50 + (nx k 20))))), .sl []], [I 2, I 1048583, .sl []], [I 5, I 0, .sl [[I 2, I 1048584, .sl []], [I 2, I (wF (2097152 + (wF (50 + (nx k 20))))), .sl []]]]]], [I 1, I (wF (1 + sm)), .sl []], [I 1, I 2006, .sl []]], I 0, B false] i default), rfl, rfl, hg, (by repeat (first | exact hT.tm _ | exact .nil | exact .leaf | refine .cons ?_ ?_ | refine .mk ?_ (Nat.le_of_ble_eq_true rfl)))⟩, (by first | exact hN.nn _ | exact hT.nn _ | exact hk | decide), (by omega), (by omega), hat⟩
    | false =>
      obtain ⟨ob, rest, h, ho⟩ := r6a_2 hN hT hk h39 hg hc c1 hs0 c0 (ngT hj)
      rw [wJ] at h
      exact RX_round (A6_ok R nx na to tv tn ta sm) 400 _ _ h ho rfl fun st hat => ih m st (Nat.lt_succ_self m) ⟨_, _, _, (j + 1), .inr ⟨_, d, _, (fun i => List.getD [I 2006, I (wF (1 + sm)), I 3, I 0, .sl [[I 1, I 34, .sl []], [I 1, I (wF (1 + sm)), .sl []], [I 1, I 0, .sl []], [I 1, I 2, .sl []], [I 1, I 0, .sl []], [I 3, I 0, .sl [[I 3, I 0, .sl [[I 1, I 1, .sl []], [I 1, I 31, .sl []]]], [I 3, I 0, .sl [[I 1, I 2, .sl []], [I 1, I 31, .sl []], [I 4, I 0, .sl [[I 2, I (wF (2097152 + (wF (50 + (nx k 20))))), .sl []]]]]], [I 3, I 0, .sl [[I 1, I 3, .sl []], [I 2, I (wF (2097152 + (wF (50 + (nx k 20))))), .sl []]]], [I 3, I 0, .sl [[I 1, I 4, .sl []], [I (to (na (na k))), I (tv (na (na k))), .sl (ta (na (na k)))]]]]]], I 3, I 0, .sl [[I 1, I 34, .sl []], [I 1, I (wF (1 + sm)), .sl []], [I 1, I 2006, .sl []], [I 1, I 1, .sl []], [I 1, I 0, .sl []], [I 3, I 0, .sl [[I 3, I 0, .sl [[I 1, I 1, .sl []], [I 1, I 31, .sl []]]], [I 3, I 0, .sl [[I 1, I 2, .sl []], [I 1, I 31, .sl []], [I 4, I 0, .sl [[I 2, I 1048584, .sl []]]]]], [I 3, I 0, .sl [[I 1, I 3, .sl []], [I 2, I 1048583, .sl []]]], [I 3, I 0, .sl [[I 1, I 7, .sl []], [I 6, I 8, .sl [[I 1, I (wF (1 + sm)), .sl []], [I 1, I 2, .sl []]]], [I 6, I 8, .sl [[I 1, I (wF (1 + sm)), .sl []], [I 1, I (wF (1 + (nx (tn (na (na k))) 4))), .sl []]]]]]]]], I 2, I 1048583, .sl [], I 2, I (wF (2097152 + (wF (50 + (nx k 20))))), .sl [], I 6, I 2, .sl [[I 6, I 1, .sl [[I 2, I (wF (2097152 + (wF (50 + (nx k 20))))), .sl []], [I 2, I 1048583, .sl []], [I 5, I 0, .sl [[I 2, I 1048584, .sl []], [I 2, I (wF (2097152 + (wF (50 + (nx k 20))))), .sl []]]]]], [I 1, I (wF (1 + sm)), .sl []], [I 1, I 2006, .sl []]], I 6, I 4, .sl [[I 6, I 1, .sl [[I 2, I (wF (2097152 + (wF (50 + (nx k 20))))), .sl []], [I 2, I 1048583, .sl []], [I 5, I 0, .sl [[I 2, I 1048584, .sl []], [I 2, I (wF (2097152 + (wF (50 + (nx k 20))))), .sl []]]]]], [I 1, I (wF (1 + sm)), .sl []], [I 1, I 2006, .sl []]], I 6, I 3, .sl [[I 6, I 1, .sl [[I 2, I (wF (2097152 + (wF (50 + (nx k 20))))), .sl []], [I 2, I 1048583, .sl []], [I 5, I 0, .sl [[I 2, I 1048584, .sl []], [I 2, I (wF (2097152 + (wF (50 + (nx k 20))))), .sl []]]]]], [I 1, I (wF (1 + sm)), .sl []], [I 1, I 2006, .sl []]], I 0, B false] i default), rfl, rfl, hg, (by repeat (first | exact hT.tm _ | exact .nil | exact .leaf | refine .cons ?_ ?_ | refine .mk ?_ (Nat.le_of_ble_eq_true rfl)))⟩, (by first | exact hN.nn _ | exact hT.nn _ | exact hk | decide), (by omega), (by omega), hat⟩
  | false =>
    cases c3 : (eqF f (wF (1 + (nx (na (na k)) 4)))) with
    | true =>
      cases c4 : (ansB VP 88 [.agg [.d (d 2), .d (d 3), .d (d 4)], .agg [.d (I 3), .d (I 0), .d (.sl [[I 1, I 34, .sl []], [I 1, I (wF (1 + sm)), .sl []], [I 1, I 0, .sl []], [I 1, I 2, .sl []], [I 1, I 0, .sl []], [I 3, I 0, .sl [[I 3, I 0, .sl [[I 1, I 1, .sl []], [I 1, I 31, .sl []]]], [I 3, I 0, .sl [[I 1, I 2, .sl []], [I 1, I 31, .sl []], [I 4, I 0, .sl [[I 2, I (wF (2097152 + (wF (50 + (nx k 20))))), .sl []]]]]], [I 3, I 0, .sl [[I 1, I 3, .sl []], [I 2, I (wF (2097152 + (wF (50 + (nx k 20))))), .sl []]]]]]])]]) with
      | true =>
        obtain ⟨ob, rest, h, ho⟩ := r6a_3 hN hT hk h39 hg c4 c3 hs0 c0 (ngT hj)
        rw [wJ] at h
        exact RX_round (A6_ok R nx na to tv tn ta sm) 400 _ _ h ho rfl fun st hat => ih m st (Nat.lt_succ_self m) ⟨_, _, _, (j + 1), .inl ⟨_, _, rfl, rfl, hg⟩, (by first | exact hN.nn _ | exact hT.nn _ | exact hk | decide), (by omega), (by omega), hat⟩
      | false =>
        obtain ⟨ob, rest, h, ho⟩ := r6a_4 hN hT hk h39 hg hc c4 c3 hs0 c0 (ngT hj)
        rw [wJ] at h
        exact RX_round (A6_ok R nx na to tv tn ta sm) 400 _ _ h ho rfl fun st hat => ih m st (Nat.lt_succ_self m) ⟨_, _, _, (j + 1), .inr ⟨_, d, _, (fun i => List.getD [I 2006, I (wF (1 + sm)), I 3, I 0, .sl [[I 1, I 34, .sl []], [I 1, I (wF (1 + sm)), .sl []], [I 1, I 0, .sl []], [I 1, I 2, .sl []], [I 1, I 0, .sl []], [I 3, I 0, .sl [[I 3, I 0, .sl [[I 1, I 1, .sl []], [I 1, I 31, .sl []]]], [I 3, I 0, .sl [[I 1, I 2, .sl []], [I 1, I 31, .sl []], [I 4, I 0, .sl [[I 2, I (wF (2097152 + (wF (50 + (nx k 20))))), .sl []]]]]], [I 3, I 0, .sl [[I 1, I 3, .sl []], [I 2, I (wF (2097152 + (wF (50 + (nx k 20))))), .sl []]]]]]], I 3, I 0, .sl [[I 1, I 34, .sl []], [I 1, I (wF (1 + sm)), .sl []], [I 1, I 2006, .sl []], [I 1, I 1, .sl []], [I 1, I 0, .sl []], [I 3, I 0, .sl [[I 3, I 0, .sl [[I 1, I 1, .sl []], [I 1, I 31, .sl []]]], [I 3, I 0, .sl [[I 1, I 2, .sl []], [I 1, I 31, .sl []], [I 4, I 0, .sl [[I 2, I 1048584, .sl []]]]]], [I 3, I 0, .sl [[I 1, I 3, .sl []], [I 2, I 1048583, .sl []]]], [I 3, I 0, .sl [[I 1, I 7, .sl []], [I 6, I 8, .sl [[I 1, I (wF (1 + sm)), .sl []], [I 1, I 2, .sl []]]], [I 6, I 8, .sl [[I 1, I (wF (1 + sm)), .sl []], [I 1, I (wF (1 + (nx (na (na k)) 4))), .sl []]]]]]]]], I 2, I 1048583, .sl [], I 2, I (wF (2097152 + (wF (50 + (nx k 20))))), .sl [], I 6, I 2, .sl [[I 6, I 1, .sl [[I 2, I (wF (2097152 + (wF (50 + (nx k 20))))), .sl []], [I 2, I 1048583, .sl []], [I 5, I 0, .sl [[I 2, I 1048584, .sl []], [I 2, I (wF (2097152 + (wF (50 + (nx k 20))))), .sl []]]]]], [I 1, I (wF (1 + sm)), .sl []], [I 1, I 2006, .sl []]], I 6, I 4, .sl [[I 6, I 1, .sl [[I 2, I (wF (2097152 + (wF (50 + (nx k 20))))), .sl []], [I 2, I 1048583, .sl []], [I 5, I 0, .sl [[I 2, I 1048584, .sl []], [I 2, I (wF (2097152 + (wF (50 + (nx k 20))))), .sl []]]]]], [I 1, I (wF (1 + sm)), .sl []], [I 1, I 2006, .sl []]], I 6, I 3, .sl [[I 6, I 1, .sl [[I 2, I (wF (2097152 + (wF (50 + (nx k 20))))), .sl []], [I 2, I 1048583, .sl []], [I 5, I 0, .sl [[I 2, I 1048584, .sl []], [I 2, I (wF (2097152 + (wF (50 + (nx k 20))))), .sl []]]]]], [I 1, I (wF (1 + sm)), .sl []], [I 1, I 2006, .sl []]], I 0, B false] i default), rfl, rfl, hg, (by repeat (first | exact hT.tm _ | exact .nil | exact .leaf | refine .cons ?_ ?_ | refine .mk ?_ (Nat.le_of_ble_eq_true rfl)))⟩, (by first | exact hN.nn _ | exact hT.nn _ | exact hk | decide), (by omega), (by omega), hat⟩
    | false =>
      obtain ⟨ob, rest, h, ho⟩ := r6a_5 hN hT hk h39 hg hc c3 hs0 c0 (ngT hj)
      rw [wJ] at h
      exact RX_round (A6_ok R nx na to tv tn ta sm) 400 _ _ h ho rfl fun st hat => ih m st (Nat.lt_succ_self m) ⟨_, _, _, (j + 1), .inr ⟨_, d, _, (fun i => List.getD [I 2006, I (wF (1 + sm)), I 3, I 0, .sl [[I 1, I 34, .sl []], [I 1, I (wF (1 + sm)), .sl []], [I 1, I 0, .sl []], [I 1, I 2, .sl []], [I 1, I 0, .sl []], [I 3, I 0, .sl [[I 3, I 0, .sl [[I 1, I 1, .sl []], [I 1, I 31, .sl []]]], [I 3, I 0, .sl [[I 1, I 2, .sl []], [I 1, I 31, .sl []], [I 4, I 0, .sl [[I 2, I (wF (2097152 + (wF (50 + (nx k 20))))), .sl []]]]]], [I 3, I 0, .sl [[I 1, I 3, .sl []], [I 2, I (wF (2097152 + (wF (50 + (nx k 20))))), .sl []]]]]]], I 3, I 0, .sl [[I 1, I 34, .sl []], [I 1, I (wF (1 + sm)), .sl []], [I 1, I 2006, .sl []], [I 1, I 1, .sl []], [I 1, I 0, .sl []], [I 3, I 0, .sl [[I 3, I 0, .sl [[I 1, I 1, .sl []], [I 1, I 31, .sl []]]], [I 3, I 0, .sl [[I 1, I 2, .sl []], [I 1, I 31, .sl []], [I 4, I 0, .sl [[I 2, I 1048584, .sl []]]]]], [I 3, I 0, .sl [[I 1, I 3, .sl []], [I 2, I 1048583, .sl []]]], [I 3, I 0, .sl [[I 1, I 7, .sl []], [I 6, I 8, .sl [[I 1, I (wF (1 + sm)), .sl []], [I 1, I 2, .sl []]]], [I 6, I 8, .sl [[I 1, I (wF (1 + sm)), .sl []], [I 1, I (wF (1 + (nx (na (na k)) 4))), .sl []]]]]]]]], I 2, I 1048583, .sl [], I 2, I (wF (2097152 + (wF (50 + (nx k 20))))), .sl [], I 6, I 2, .sl [[I 6, I 1, .sl [[I 2, I (wF (2097152 + (wF (50 + (nx k 20))))), .sl []], [I 2, I 1048583, .sl []], [I 5, I 0, .sl [[I 2, I 1048584, .sl []], [I 2, I (wF (2097152 + (wF (50 + (nx k 20))))), .sl []]]]]], [I 1, I (wF (1 + sm)), .sl []], [I 1, I 2006, .sl []]], I 6, I 4, .sl [[I 6, I 1, .sl [[I 2, I (wF (2097152 + (wF (50 + (nx k 20))))), .sl []], [I 2, I 1048583, .sl []], [I 5, I 0, .sl [[I 2, I 1048584, .sl []], [I 2, I (wF (2097152 + (wF (50 + (nx k 20))))), .sl []]]]]], [I 1, I (wF (1 + sm)), .sl []], [I 1, I 2006, .sl []]], I 6, I 3, .sl [[I 6, I 1, .sl [[I 2, I (wF (2097152 + (wF (50 + (nx k 20))))), .sl []], [I 2, I 1048583, .sl []], [I 5, I 0, .sl [[I 2, I 1048584, .sl []], [I 2, I (wF (2097152 + (wF (50 + (nx k 20))))), .sl []]]]]], [I 1, I (wF (1 + sm)), .sl []], [I 1, I 2006, .sl []]], I 0, B false] i default), rfl, rfl, hg, (by repeat (first | exact hT.tm _ | exact .nil | exact .leaf | refine .cons ?_ ?_ | refine .mk ?_ (Nat.le_of_ble_eq_true rfl)))⟩, (by first | exact hN.nn _ | exact hT.nn _ | exact hk | decide), (by omega), (by omega), hat⟩
theorem round6b {R : List (List D)} {nx : Int → Int → Int} {na to tv tn : Int → Int} {ta : Int → List (List D)} {sm s : Int} {f f2 k j : Int} {d d2 : Nat → D} (hN : NX R nx na) (hT : TX R to tv tn ta) (hk : 0 ≤ k) (h39 : CV VP 39 [.d (I s), .d (I 9)] [] = some ⟨.d (I sm), [], [], 0⟩) (hg : IsS [d 2, d 3, d 4]) (hg2 : IsS [d2 2, d2 3, d2 4]) {Q : VExit → St → Prop} (m : Nat) (hs : 0 ≤ sm ∧ sm < 9) (hj0 : 0 ≤ j) (hjm : j + (m + 1 : Nat) = 12)
    (ih : ∀ m' st', m' < m + 1 → Inv6 R s m' st' → RL VP vf6K0 vf6L0 3 st' Q) : RX VP vf6L0 ⟨T6 s j, [[.d (.sl R), .d (I k)], ga6, gb6 [rw6 f d, rw6 f2 d2] 8], [0], 1, 0, 0⟩ (again VP vf6K0 vf6L0 3 Q) := by
  have hj : j < 12 := by omega
  have wJ : wF (j + 1) = j + 1 := wF_in (by omega) (by omega)
  have q := hN.rng k 20 (by decide)
  have hc : (!(leF (wF (2097152 + (wF (50 + (nx k 20))))) 1048584)) = true := by
    rw [wF_in (n := 50 + nx k 20) (by omega) (by omega), wF_in (by omega) (by omega)]
    exact ngT (by omega)
  have hs0 : leF (wF (1 + sm)) 0 = false := by rw [wF_in (by omega) (by omega)]; exact leN (by omega)
  cases c0 : (eqF (nx (na k) 3) 2) with
  | true =>
    cases c1 : (eqF f (wF (1 + (nx (tn (na (na k))) 4)))) with
    | true =>
      cases c2 : (ansB VP 88 [.agg [.d (d 2), .d (d 3), .d (d 4)], .agg [.d (I 3), .d (I 0), .d (.sl [[I 1, I 34, .sl []], [I 1, I (wF (1 + sm)), .sl []], [I 1, I 0, .sl []], [I 1, I 2, .sl []], [I 1, I 0, .sl []], [I 3, I 0, .sl [[I 3, I 0, .sl [[I 1, I 1, .sl []], [I 1, I 31, .sl []]]], [I 3, I 0, .sl [[I 1, I 2, .sl []], [I 1, I 31, .sl []], [I 4, I 0, .sl [[I 2, I (wF (2097152 + (wF (50 + (nx k 20))))), .sl []]]]]], [I 3, I 0, .sl [[I 1, I 3, .sl []], [I 2, I (wF (2097152 + (wF (50 + (nx k 20))))), .sl []]]], [I 3, I 0, .sl [[I 1, I 4, .sl []], [I (to (na (na k))), I (tv (na (na k))), .sl (ta (na (na k)))]]]]]])]]) with
      | true =>
        obtain ⟨ob, rest, h, ho⟩ := r6b_0 hN hT hk h39 hg hg2 c2 c1 hs0 c0 (ngT hj)
        rw [wJ] at h
        exact RX_round (A6_ok R nx na to tv tn ta sm) 400 _ _ h ho rfl fun st hat => ih m st (Nat.lt_succ_self m) ⟨_, _, _, (j + 1), .inr ⟨_, _, _, _, rfl, rfl, hg, hg2⟩, (by first | exact hN.nn _ | exact hT.nn _ | exact hk | decide), (by omega), (by omega), hat⟩
      | false =>
        cases c3 : (eqF f2 (wF (1 + (nx (tn (na (na k))) 4)))) with
        | true =>
          cases c4 : (ansB VP 88 [.agg [.d (d2 2), .d (d2 3), .d (d2 4)], .agg [.d (I 3), .d (I 0), .d (.sl [[I 1, I 34, .sl []], [I 1, I (wF (1 + sm)), .sl []], [I 1, I 0, .sl []], [I 1, I 2, .sl []], [I 1, I 0, .sl []], [I 3, I 0, .sl [[I 3, I 0, .sl [[I 1, I 1, .sl []], [I 1, I 31, .sl []]]], [I 3, I 0, .sl [[I 1, I 2, .sl []], [I 1, I 31, .sl []], [I 4, I 0, .sl [[I 2, I (wF (2097152 + (wF (50 + (nx k 20))))), .sl []]]]]], [I 3, I 0, .sl [[I 1, I 3, .sl []], [I 2, I (wF (2097152 + (wF (50 + (nx k 20))))), .sl []]]], [I 3, I 0, .sl [[I 1, I 4, .sl []], [I (to (na (na k))), I (tv (na (na k))), .sl (ta (na (na k)))]]]]]])]]) with
          | true =>
            obtain ⟨ob, rest, h, ho⟩ := r6b_1 hN hT hk h39 hg hg2 c4 c3 c2 c1 hs0 c0 (ngT hj)
            rw [wJ] at h
            exact RX_round (A6_ok R nx na to tv tn ta sm) 400 _ _ h ho rfl fun st hat => ih m st (Nat.lt_succ_self m) ⟨_, _, _, (j + 1), .inr ⟨_, _, _, _, rfl, rfl, hg, hg2⟩, (by first | exact hN.nn _ | exact hT.nn _ | exact hk | decide), (by omega), (by omega), hat⟩
          | false =>
            obtain ⟨ob, rest, h, ho⟩ := r6b_2 hN hT hk h39 hg hg2 c4 c3 c2 c1 hs0 c0 (ngT hj)
            rw [wJ] at h
            exact RX_round (A6_ok R nx na to tv tn ta sm) 400 _ _ h ho rfl fun st hat => ih m st (Nat.lt_succ_self m) ⟨_, _, _, (j + 1), .inr ⟨_, _, _, _, rfl, rfl, hg, hg2⟩, (by first | exact hN.nn _ | exact hT.nn _ | exact hk | decide), (by omega), (by omega), hat⟩
        | false =>
          obtain ⟨ob, rest, h, ho⟩ := r6b_3 hN hT hk h39 hg hg2 c3 c2 c1 hs0 c0 (ngT hj)
          rw [wJ] at h
          exact RX_round (A6_ok R nx na to tv tn ta sm) 400 _ _ h ho rfl fun st hat => ih m st (Nat.lt_succ_self m) ⟨_, _, _, (j + 1), .inr ⟨_, _, _, _, rfl, rfl, hg, hg2⟩, (by first | exact hN.nn _ | exact hT.nn _ | exact hk | decide), (by omega), (by omega), hat⟩
    | false =>
      cases c5 : (eqF f2 (wF (1 + (nx (tn (na (na k))) 4)))) with
      | true =>
        cases c6 : (ansB VP 88 [.agg [.d (d2 2), .d (d2 3), .d (d2 4)], .agg [.d (I 3), .d (I 0), .d (.sl [[I 1, I 34, .sl []], [I 1, I (wF (1 + sm)), .sl []], [I 1, I 0, .sl []], [I 1, I 2, .sl []], [I 1, I 0, .sl []], [I 3, I 0, .sl [[I 3, I 0, .sl [[I 1, I 1, .sl []], [I 1, I 31, .sl []]]], [I 3, I 0, .sl [[I 1, I 2, .sl []], [I 1, I 31, .sl []], [I 4, I 0, .sl [[I 2, I (wF (2097152 + (wF (50 + (nx k 20))))), .sl []]]]]], [I 3, I 0, .sl [[I 1, I 3, .sl []], [I 2, I (wF (2097152 + (wF (50 + (nx k 20))))), .sl []]]], [I 3, I 0, .sl [[I 1, I 4, .sl []], [I (to (na (na k))), I (tv (na (na k))), .sl (ta (na (na k)))]]]]]])]]) with
        | true =>
          obtain ⟨ob, rest, h, ho⟩ := r6b_4 hN hT hk h39 hg hg2 c6 c5 c1 hs0 c0 (ngT hj)
          rw [wJ] at h
          exact RX_round (A6_ok R nx na to tv tn ta sm) 400 _ _ h ho rfl fun st hat => ih m st (Nat.lt_succ_self m) ⟨_, _, _, (j + 1), .inr ⟨_, _, _, _, rfl, rfl, hg, hg2⟩, (by first | exact hN.nn _ | exact hT.nn _ | exact hk | decide), (by omega), (by omega), hat⟩
        | false =>
          obtain ⟨ob, rest, h, ho⟩ := r6b_5 hN hT hk h39 hg hg2 c6 c5 c1 hs0 c0 (ngT hj)
          rw [wJ] at h
          exact RX_round (A6_ok R nx na to tv tn ta sm) 400 _ _ h ho rfl fun st hat => ih m st (Nat.lt_succ_self m) ⟨_, _, _, (j + 1), .inr ⟨_, _, _, _, rfl, rfl, hg, hg2⟩, (by first | exact hN.nn _ | exact hT.nn _ | exact hk | decide), (by omega), (by omega), hat⟩
      | false =>
        obtain ⟨ob, rest, h, ho⟩ := r6b_6 hN hT hk h39 hg hg2 c5 c1 hs0 c0 (ngT hj)
        rw [wJ] at h
        exact RX_round (A6_ok R nx na to tv tn ta sm) 400 _ _ h ho rfl fun st hat => ih m st (Nat.lt_succ_self m) ⟨_, _, _, (j + 1), .inr ⟨_, _, _, _, rfl, rfl, hg, hg2⟩, (by first | exact hN.nn _ | exact hT.nn _ | exact hk | decide), (by omega), (by omega), hat⟩
  | false =>
    cases c7 : (eqF f (wF (1 + (nx (na (na k)) 4)))) with
    | true =>
      cases c8 : (ansB VP 88 [.agg [.d (d 2), .d (d 3), .d (d 4)], .agg [.d (I 3), .d (I 0), .d (.sl [[I 1, I 34, .sl []], [I 1, I (wF (1 + sm)), .sl []], [I 1, I 0, .sl []], [I 1, I 2, .sl []], [I 1, I 0, .sl []], [I 3, I 0, .sl [[I 3, I 0, .sl [[I 1, I 1, .sl []], [I 1, I 31, .sl []]]], [I 3, I 0, .sl [[I 1, I 2, .sl []], [I 1, I 31, .sl []], [I 4, I 0, .sl [[I 2, I (wF (2097152 + (wF (50 + (nx k 20))))), .sl []]]]]], [I 3, I 0, .sl [[I 1, I 3, .sl []], [I 2, I (wF (2097152 + (wF (50 + (nx k 20))))), .sl []]]]]]])]]) with
      | true =>
        obtain ⟨ob, rest, h, ho⟩ := r6b_7 hN hT hk h39 hg hg2 c8 c7 hs0 c0 (ngT hj)
        rw [wJ] at h
        exact RX_round (A6_ok R nx na to tv tn ta sm) 400 _ _ h ho rfl fun st hat => ih m st (Nat.lt_succ_self m) ⟨_, _, _, (j + 1), .inr ⟨_, _, _, _, rfl, rfl, hg, hg2⟩, (by first | exact hN.nn _ | exact hT.nn _ | exact hk | decide), (by omega), (by omega), hat⟩
      | false =>
        cases c9 : (eqF f2 (wF (1 + (nx (na (na k)) 4)))) with
        | true =>
          cases c10 : (ansB VP 88 [.agg [.d (d2 2), .d (d2 3), .d (d2 4)], .agg [.d (I 3), .d (I 0), .d (.sl [[I 1, I 34, .sl []], [I 1, I (wF (1 + sm)), .sl []], [I 1, I 0, .sl []], [I 1, I 2, .sl []], [I 1, I 0, .sl []], [I 3, I 0, .sl [[I 3, I 0, .sl [[I 1, I 1, .sl []], [I 1, I 31, .sl []]]], [I 3, I 0, .sl [[I 1, I 2, .sl []], [I 1, I 31, .sl []], [I 4, I 0, .sl [[I 2, I (wF (2097152 + (wF (50 + (nx k 20))))), .sl []]]]]], [I 3, I 0, .sl [[I 1, I 3, .sl []], [I 2, I (wF (2097152 + (wF (50 + (nx k 20))))), .sl []]]]]]])]]) with
          | true =>
            obtain ⟨ob, rest, h, ho⟩ := r6b_8 hN hT hk h39 hg hg2 c10 c9 c8 c7 hs0 c0 (ngT hj)
            rw [wJ] at h
            exact RX_round (A6_ok R nx na to tv tn ta sm) 400 _ _ h ho rfl fun st hat => ih m st (Nat.lt_succ_self m) ⟨_, _, _, (j + 1), .inr ⟨_, _, _, _, rfl, rfl, hg, hg2⟩, (by first | exact hN.nn _ | exact hT.nn _ | exact hk | decide), (by omega), (by omega), hat⟩
          | false =>
            obtain ⟨ob, rest, h, ho⟩ := r6b_9 hN hT hk h39 hg hg2 c10 c9 c8 c7 hs0 c0 (ngT hj)
            rw [wJ] at h
            exact RX_round (A6_ok R nx na to tv tn ta sm) 400 _ _ h ho rfl fun st hat => ih m st (Nat.lt_succ_self m) ⟨_, _, _, (j + 1), .inr ⟨_, _, _, _, rfl, rfl, hg, hg2⟩, (by first | exact hN.nn _ | exact hT.nn _ | exact hk | decide), (by omega), (by omega), hat⟩
        | false =>
          obtain ⟨ob, rest, h, ho⟩ := r6b_10 hN hT hk h39 hg hg2 c9 c8 c7 hs0 c0 (ngT hj)
          rw [wJ] at h
          exact RX_round (A6_ok R nx na to tv tn ta sm) 400 _ _ h ho rfl fun st hat => ih m st (Nat.lt_succ_self m) ⟨_, _, _, (j + 1), .inr ⟨_, _, _, _, rfl, rfl, hg, hg2⟩, (by first | exact hN.nn _ | exact hT.nn _ | exact hk | decide), (by omega), (by omega), hat⟩
    | false =>
      cases c11 : (eqF f2 (wF (1 + (nx (na (na k)) 4)))) with
      | true =>
        cases c12 : (ansB VP 88 [.agg [.d (d2 2), .d (d2 3), .d (d2 4)], .agg [.d (I 3), .d (I 0), .d (.sl [[I 1, I 34, .sl []], [I 1, I (wF (1 + sm)), .sl []], [I 1, I 0, .sl []], [I 1, I 2, .sl []], [I 1, I 0, .sl []], [I 3, I 0, .sl [[I 3, I 0, .sl [[I 1, I 1, .sl []], [I 1, I 31, .sl []]]], [I 3, I 0, .sl [[I 1, I 2, .sl []], [I 1, I 31, .sl []], [I 4, I 0, .sl [[I 2, I (wF (2097152 + (wF (50 + (nx k 20))))), .sl []]]]]], [I 3, I 0, .sl [[I 1, I 3, .sl []], [I 2, I (wF (2097152 + (wF (50 + (nx k 20))))), .sl []]]]]]])]]) with
        | true =>
          obtain ⟨ob, rest, h, ho⟩ := r6b_11 hN hT hk h39 hg hg2 c12 c11 c7 hs0 c0 (ngT hj)
          rw [wJ] at h
          exact RX_round (A6_ok R nx na to tv tn ta sm) 400 _ _ h ho rfl fun st hat => ih m st (Nat.lt_succ_self m) ⟨_, _, _, (j + 1), .inr ⟨_, _, _, _, rfl, rfl, hg, hg2⟩, (by first | exact hN.nn _ | exact hT.nn _ | exact hk | decide), (by omega), (by omega), hat⟩
        | false =>
          obtain ⟨ob, rest, h, ho⟩ := r6b_12 hN hT hk h39 hg hg2 c12 c11 c7 hs0 c0 (ngT hj)
          rw [wJ] at h
          exact RX_round (A6_ok R nx na to tv tn ta sm) 400 _ _ h ho rfl fun st hat => ih m st (Nat.lt_succ_self m) ⟨_, _, _, (j + 1), .inr ⟨_, _, _, _, rfl, rfl, hg, hg2⟩, (by first | exact hN.nn _ | exact hT.nn _ | exact hk | decide), (by omega), (by omega), hat⟩
      | false =>
        obtain ⟨ob, rest, h, ho⟩ := r6b_13 hN hT hk h39 hg hg2 c11 c7 hs0 c0 (ngT hj)
        rw [wJ] at h
        exact RX_round (A6_ok R nx na to tv tn ta sm) 400 _ _ h ho rfl fun st hat => ih m st (Nat.lt_succ_self m) ⟨_, _, _, (j + 1), .inr ⟨_, _, _, _, rfl, rfl, hg, hg2⟩, (by first | exact hN.nn _ | exact hT.nn _ | exact hk | decide), (by omega), (by omega), hat⟩
theorem round6c {R : List (List D)} {nx : Int → Int → Int} {na to tv tn : Int → Int} {ta : Int → List (List D)} {sm s : Int} (hN : NX R nx na) (hT : TX R to tv tn ta) (h39 : CV VP 39 [.d (I s), .d (I 9)] [] = some ⟨.d (I sm), [], [], 0⟩) (hs : 0 ≤ sm ∧ sm < 9) {Q : VExit → St → Prop}
    (ih : ∀ m' st', m' < 12 → Inv6 R s m' st' → RL VP vf6K0 vf6L0 3 st' Q) : RX VP vf6L0 ⟨T6 s 0, [[.sl 1 R (.own 0 0), .d (I 0)], ga6, gb6 [] 2], [0], 1, 0, 0⟩ (again VP vf6K0 vf6L0 3 Q) := by
  have q := hN.rng 0 20 (by decide)
  have hc : (!(leF (wF (2097152 + (wF (50 + (nx 0 20))))) 1048581)) = true := by
    rw [wF_in (n := 50 + nx 0 20) (by omega) (by omega), wF_in (by omega) (by omega)]
    exact ngT (by omega)
  have hs0 : leF (wF (1 + sm)) 0 = false := by rw [wF_in (by omega) (by omega)]; exact leN (by omega)
  cases c0 : (eqF (nx (na 0) 3) 2) with
  | true =>
    obtain ⟨ob, rest, h, ho⟩ := r6c_0 hN hT h39 hc hs0 c0
    exact RX_round (A6_ok R nx na to tv tn ta sm) 400 _ _ h ho rfl fun st hat => ih 11 st (by decide) ⟨_, _, _, 1, .inl ⟨_, (fun i => List.getD [I 2003, I (wF (1 + sm)), I 3, I 0, .sl [[I 1, I 34, .sl []], [I 1, I (wF (1 + sm)), .sl []], [I 1, I 0, .sl []], [I 1, I 2, .sl []], [I 1, I 0, .sl []], [I 3, I 0, .sl [[I 3, I 0, .sl [[I 1, I 1, .sl []], [I 1, I 31, .sl []]]], [I 3, I 0, .sl [[I 1, I 2, .sl []], [I 1, I 31, .sl []], [I 4, I 0, .sl [[I 2, I (wF (2097152 + (wF (50 + (nx 0 20))))), .sl []]]]]], [I 3, I 0, .sl [[I 1, I 3, .sl []], [I 2, I (wF (2097152 + (wF (50 + (nx 0 20))))), .sl []]]], [I 3, I 0, .sl [[I 1, I 4, .sl []], [I (to (na (na 0))), I (tv (na (na 0))), .sl (ta (na (na 0)))]]]]]], I 3, I 0, .sl [[I 1, I 34, .sl []], [I 1, I (wF (1 + sm)), .sl []], [I 1, I 2003, .sl []], [I 1, I 1, .sl []], [I 1, I 0, .sl []], [I 3, I 0, .sl [[I 3, I 0, .sl [[I 1, I 1, .sl []], [I 1, I 31, .sl []]]], [I 3, I 0, .sl [[I 1, I 2, .sl []], [I 1, I 31, .sl []], [I 4, I 0, .sl [[I 2, I 1048581, .sl []]]]]], [I 3, I 0, .sl [[I 1, I 3, .sl []], [I 2, I 1048580, .sl []]]], [I 3, I 0, .sl [[I 1, I 7, .sl []], [I 6, I 8, .sl [[I 1, I (wF (1 + sm)), .sl []], [I 1, I 2, .sl []]]], [I 6, I 8, .sl [[I 1, I (wF (1 + sm)), .sl []], [I 1, I (wF (1 + (nx (tn (na (na 0))) 4))), .sl []]]]]]]]], I 2, I 1048580, .sl [], I 2, I (wF (2097152 + (wF (50 + (nx 0 20))))), .sl [], I 6, I 2, .sl [[I 6, I 1, .sl [[I 2, I (wF (2097152 + (wF (50 + (nx 0 20))))), .sl []], [I 2, I 1048580, .sl []], [I 5, I 0, .sl [[I 2, I 1048581, .sl []], [I 2, I (wF (2097152 + (wF (50 + (nx 0 20))))), .sl []]]]]], [I 1, I (wF (1 + sm)), .sl []], [I 1, I 2003, .sl []]], I 6, I 4, .sl [[I 6, I 1, .sl [[I 2, I (wF (2097152 + (wF (50 + (nx 0 20))))), .sl []], [I 2, I 1048580, .sl []], [I 5, I 0, .sl [[I 2, I 1048581, .sl []], [I 2, I (wF (2097152 + (wF (50 + (nx 0 20))))), .sl []]]]]], [I 1, I (wF (1 + sm)), .sl []], [I 1, I 2003, .sl []]], I 6, I 3, .sl [[I 6, I 1, .sl [[I 2, I (wF (2097152 + (wF (50 + (nx 0 20))))), .sl []], [I 2, I 1048580, .sl []], [I 5, I 0, .sl [[I 2, I 1048581, .sl []], [I 2, I (wF (2097152 + (wF (50 + (nx 0 20))))), .sl []]]]]], [I 1, I (wF (1 + sm)), .sl []], [I 1, I 2003, .sl []]], I 0, B false] i default), rfl, rfl, (by repeat (first | exact hT.tm _ | exact .nil | exact .leaf | refine .cons ?_ ?_ | refine .mk ?_ (Nat.le_of_ble_eq_true rfl)))⟩, (by first | exact hN.nn _ | exact hT.nn _ | exact hk | decide), (by omega), (by omega), hat⟩
  | false =>
    obtain ⟨ob, rest, h, ho⟩ := r6c_1 hN hT h39 hc hs0 c0
    exact RX_round (A6_ok R nx na to tv tn ta sm) 400 _ _ h ho rfl fun st hat => ih 11 st (by decide) ⟨_, _, _, 1, .inl ⟨_, (fun i => List.getD [I 2003, I (wF (1 + sm)), I 3, I 0, .sl [[I 1, I 34, .sl []], [I 1, I (wF (1 + sm)), .sl []], [I 1, I 0, .sl []], [I 1, I 2, .sl []], [I 1, I 0, .sl []], [I 3, I 0, .sl [[I 3, I 0, .sl [[I 1, I 1, .sl []], [I 1, I 31, .sl []]]], [I 3, I 0, .sl [[I 1, I 2, .sl []], [I 1, I 31, .sl []], [I 4, I 0, .sl [[I 2, I (wF (2097152 + (wF (50 + (nx 0 20))))), .sl []]]]]], [I 3, I 0, .sl [[I 1, I 3, .sl []], [I 2, I (wF (2097152 + (wF (50 + (nx 0 20))))), .sl []]]]]]], I 3, I 0, .sl [[I 1, I 34, .sl []], [I 1, I (wF (1 + sm)), .sl []], [I 1, I 2003, .sl []], [I 1, I 1, .sl []], [I 1, I 0, .sl []], [I 3, I 0, .sl [[I 3, I 0, .sl [[I 1, I 1, .sl []], [I 1, I 31, .sl []]]], [I 3, I 0, .sl [[I 1, I 2, .sl []], [I 1, I 31, .sl []], [I 4, I 0, .sl [[I 2, I 1048581, .sl []]]]]], [I 3, I 0, .sl [[I 1, I 3, .sl []], [I 2, I 1048580, .sl []]]], [I 3, I 0, .sl [[I 1, I 7, .sl []], [I 6, I 8, .sl [[I 1, I (wF (1 + sm)), .sl []], [I 1, I 2, .sl []]]], [I 6, I 8, .sl [[I 1, I (wF (1 + sm)), .sl []], [I 1, I (wF (1 + (nx (na (na 0)) 4))), .sl []]]]]]]]], I 2, I 1048580, .sl [], I 2, I (wF (2097152 + (wF (50 + (nx 0 20))))), .sl [], I 6, I 2, .sl [[I 6, I 1, .sl [[I 2, I (wF (2097152 + (wF (50 + (nx 0 20))))), .sl []], [I 2, I 1048580, .sl []], [I 5, I 0, .sl [[I 2, I 1048581, .sl []], [I 2, I (wF (2097152 + (wF (50 + (nx 0 20))))), .sl []]]]]], [I 1, I (wF (1 + sm)), .sl []], [I 1, I 2003, .sl []]], I 6, I 4, .sl [[I 6, I 1, .sl [[I 2, I (wF (2097152 + (wF (50 + (nx 0 20))))), .sl []], [I 2, I 1048580, .sl []], [I 5, I 0, .sl [[I 2, I 1048581, .sl []], [I 2, I (wF (2097152 + (wF (50 + (nx 0 20))))), .sl []]]]]], [I 1, I (wF (1 + sm)), .sl []], [I 1, I 2003, .sl []]], I 6, I 3, .sl [[I 6, I 1, .sl [[I 2, I (wF (2097152 + (wF (50 + (nx 0 20))))), .sl []], [I 2, I 1048580, .sl []], [I 5, I 0, .sl [[I 2, I 1048581, .sl []], [I 2, I (wF (2097152 + (wF (50 + (nx 0 20))))), .sl []]]]]], [I 1, I (wF (1 + sm)), .sl []], [I 1, I 2003, .sl []]], I 0, B false] i default), rfl, rfl, (by repeat (first | exact hT.tm _ | exact .nil | exact .leaf | refine .cons ?_ ?_ | refine .mk ?_ (Nat.le_of_ble_eq_true rfl)))⟩, (by first | exact hN.nn _ | exact hT.nn _ | exact hk | decide), (by omega), (by omega), hat⟩
theorem loop6 {R : List (List D)} {nx : Int → Int → Int} {na to tv tn : Int → Int} {ta : Int → List (List D)} {sm s : Int} (hN : NX R nx na) (hT : TX R to tv tn ta) (h39 : CV VP 39 [.d (I s), .d (I 9)] [] = some ⟨.d (I sm), [], [], 0⟩) (hs : 0 ≤ sm ∧ sm < 9) : ∀ m st, Inv6 R s m st → RL VP vf6K0 vf6L0 3 st (outQ 0 (thn VP (seqL ((flat vf6.body).drop 7)) (retQ vf6 0 ⟨.d (B true), [], [], 0⟩))) := by
  refine RL_ind (Inv6 R s) ?_
  rintro m st ⟨H, n, k, j, hH, hk, hjm, hj0, hat⟩ ih
  refine RL_at hat (by rcases hH with ⟨f, d, rfl, rfl, _⟩ | ⟨f, d, f2, d2, rfl, rfl, _, _⟩ <;> rfl) (by rcases hH with ⟨f, d, rfl, rfl, _⟩ | ⟨f, d, f2, d2, rfl, rfl, _, _⟩ <;> rfl) (vf6L0_go ?_)
  cases m with
  | zero =>
    obtain rfl : j = 12 := by omega
    exact RX_lastA (A6_ok R nx na to tv tn ta sm) 400 _ _ x6 .nil rfl (RX_end (A6_ok R nx na to tv tn ta sm) 400 [] [] (ob := []) (by kernel_rfl) .nil)
  | succ m =>
    rcases hH with ⟨f, d, rfl, rfl, hg⟩ | ⟨f, d, f2, d2, rfl, rfl, hg, hg2⟩
    · exact round6a hN hT hk h39 hg m hs hj0 hjm ih
    · exact round6b hN hT hk h39 hg hg2 m hs hj0 hjm ih
/-- the law InitialStateless -/
theorem e6 {l : List Int} (hB : ByteL l) (s : Int) : CV VP 6 [.d (byteD l), .d (I s)] [] = some ⟨.d (B true), [], [], 0⟩ := by
  have hb : Bytes (l.take 60) := bytes_take hB 60 (by decide)
  have hN := nx_of hb
  have hT := tx_of hb
  have h17 := e21 (l := l) 60 (by decide)
  have h39 := e14 s 9 (by decide) (by decide)
  have hs : 0 ≤ s % 9 ∧ s % 9 < 9 := ⟨Int.emod_nonneg _ (by decide), Int.emod_lt_of_pos _ (by decide)⟩
  generalize s % 9 = sm at h39 hs
  generalize (fun (k n : Int) => nxV (List.take 60 l) k.toNat n) = nx at hN
  generalize (fun (k : Int) => ((nxA (List.take 60 l) k.toNat : Nat) : Int)) = na at hN
  generalize (fun (k : Int) => (drT (List.take 60 l) 1 k.toNat).1.op) = to at hT
  generalize (fun (k : Int) => (drT (List.take 60 l) 1 k.toNat).1.val) = tv at hT
  generalize (fun (k : Int) => (((drT (List.take 60 l) 1 k.toNat).2 : Nat) : Int)) = tn at hT
  generalize (fun (k : Int) => (drT (List.take 60 l) 1 k.toNat).1.args.map Tm.row) = ta at hT
  refine CV_run (vf := vf6) rfl rfl ?_
  rw [vf6_start]
  refine RX_cut 6 ?_
  obtain ⟨ob, h, ho⟩ := p6 (R := (l.take 60).map byteRow) (X := l.map byteRow) (nx := nx) (na := na) (to := to) (tv := tv) (tn := tn) (ta := ta) (sm := sm) (s := s) h17
  refine RX_segK (A6_ok _ nx na to tv tn ta sm) 400 _ _ h ho fun st hs2 => ?_
  refine RX_seq (RX_block (RX_loopN (n := 3) (by rw [hs2.blocks]; rfl) ?_))
  refine RL_at (hs2.at (keep := vf6K0) (n := 3) rfl) rfl rfl (vf6L0_go ?_)
  exact round6c hN hT h39 hs fun m st _ hi => loop6 hN hT h39 hs m st hi
end Go.Proofs.Ytciaehhaglaafaa
