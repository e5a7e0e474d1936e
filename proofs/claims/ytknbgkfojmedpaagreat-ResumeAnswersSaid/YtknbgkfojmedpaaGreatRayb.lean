/- The law ResumeAnswers on the machine, part 2. Conditions: as its theorems say. -/
import Derived.Test.YtknbgkfojmedpaaGreatVd
import Derived.Test.YtknbgkfojmedpaaGreatRaya
set_option linter.unusedSimpArgs false
set_option linter.unusedVariables false
set_option maxRecDepth 100000
set_option maxHeartbeats 1000000
namespace Go.Proofs.YtknbgkfojmedpaaGreat
open Go.VM
noncomputable def eP (a : Nat → D) (v0 v1 v2 v3 v4 s0 s1 s2 s3 s4 s5 : D) (q : List (List D)) : (Nat → D) × Int := @Classical.epsilon _ ⟨(fun _ => I 0, 0)⟩ (fun p : (Nat → D) × Int => RepV a v0 v1 v2 v3 v4 s0 s1 s2 s3 s4 s5 q p.1 p.2)
theorem eP_ok {a : Nat → D} {v0 v1 v2 v3 v4 s0 s1 s2 s3 s4 s5 : D} {q : List (List D)} (h : ∃ p : (Nat → D) × Int, RepV a v0 v1 v2 v3 v4 s0 s1 s2 s3 s4 s5 q p.1 p.2) :
    RepP a v0 v1 v2 v3 v4 s0 s1 s2 s3 s4 s5 (fun q => (eP a v0 v1 v2 v3 v4 s0 s1 s2 s3 s4 s5 q).1) (fun q => (eP a v0 v1 v2 v3 v4 s0 s1 s2 s3 s4 s5 q).2) q :=
  Classical.epsilon_spec h
theorem tame2 {a b : Tm} {o v : Int} (h : a.tame) (k : b.tame) : (Tm.mk o v [a, b]).tame := ⟨by simp, h, k, trivial⟩
theorem tame_nat (a b : Int) : (natT a b).tame := tame2 (tame_nT a) (tame_nT b)
theorem tp1 (n : Int) {a : Tm} (h : a.tame) : (pT n [a]).tame := tame_pT n (by simp) (fun t ht => by simp only [List.mem_cons, List.not_mem_nil, or_false] at ht; subst ht; exact h)
theorem tp2 (n : Int) {a b : Tm} (h : a.tame) (k : b.tame) : (pT n [a, b]).tame := tame_pT n (by simp) (fun t ht => by
  simp only [List.mem_cons, List.not_mem_nil, or_false] at ht
  rcases ht with rfl | rfl
  · exact h
  · exact k)
theorem psG_tame {A N : Tm} (hA : A.tame) (hN : N.tame) : ∀ t ∈ psG A N, t.tame := fun t ht => by
  simp only [psG, List.mem_cons, List.not_mem_nil, or_false] at ht
  rcases ht with rfl | rfl | rfl
  · exact tp1 18 hA
  · exact tp1 3 hN
  · exact tp2 7 (tame_nat _ _) (tame_nat _ _)
theorem pt_ps {A N : Tm} (hA : A.tame) (hN : N.tame) : Pt (psG A N) := ⟨by simp [psG], fun t ht => ⟨by
  simp only [psG, List.mem_cons, List.not_mem_nil, or_false] at ht
  rcases ht with rfl | rfl | rfl <;> exact part_pT _ _, psG_tame hA hN t ht⟩⟩
theorem usG_small {A N : Tm} (si sr f id : Int) (hA : A.tame) (hN : N.tame) : (Tm.mk 3 0 (usG si sr f id A N)).small :=
  Tm.tame.small ⟨by simp [usG], tame_nT _, tame_nT _, tame_nT _, tame_nT _, tame_nT _, ⟨by simp [psG], tames_of (psG_tame hA hN)⟩, trivial⟩
def qE : List Tm := [pT 12 [nT 44]]
def qG (df si : Int) : List Tm := [pT 3 [.mk 2 1048580 []], pT 7 [natT si 2, natT si df]]
theorem qE_pt : Pt qE := ⟨by simp [qE], fun t ht => by
  simp only [qE, List.mem_cons, List.not_mem_nil, or_false] at ht; subst ht; exact ⟨part_pT _ _, tp1 12 (tame_nT _)⟩⟩
theorem qG_pt (df si : Int) : Pt (qG df si) := ⟨by simp [qG], fun t ht => by
  simp only [qG, List.mem_cons, List.not_mem_nil, or_false] at ht
  rcases ht with rfl | rfl
  · exact ⟨part_pT _ _, tp1 3 (tame_leaf _ _)⟩
  · exact ⟨part_pT _ _, tp2 7 (tame_nat _ _) (tame_nat _ _)⟩⟩
def eB (si : Int) : List (List D) := [[I 1, I 38, .sl []], [I 1, I si, .sl []], [I 1, I 0, .sl []], [I 1, I 1, .sl []], [I 1, I 0, .sl []], [I 3, I 0, .sl [[I 3, I 0, .sl [[I 1, I 12, .sl []], [I 1, I 44, .sl []]]]]]]
def oB (df si : Int) : List (List D) := [[I 1, I 38, .sl []], [I 1, I si, .sl []], [I 1, I 2003, .sl []], [I 1, I 1, .sl []], [I 1, I 0, .sl []], [I 3, I 0, .sl [[I 3, I 0, .sl [[I 1, I 3, .sl []], [I 2, I 1048580, .sl []]]], [I 3, I 0, .sl [[I 1, I 7, .sl []], [I 6, I 8, .sl [[I 1, I si, .sl []], [I 1, I 2, .sl []]]], [I 6, I 8, .sl [[I 1, I si, .sl []], [I 1, I df, .sl []]]]]]]]]
theorem shE (si : Int) : CV VP 18 [.agg [.d (I 3), .d (I 0), .d (.sl (eB si))]] [] = some ⟨.tup [.agg [.d (I 38), .d (I si), .d (I 0), .d (B true), .d (B false), .d (I 0), .d (rws qE)], .d (B false), .d (B true)], [], [], 0⟩ := CV_P AE_ok [] [] [] rfl rfl (by kernel_rfl)
theorem shG (df si : Int) : CV VP 18 [.agg [.d (I 3), .d (I 0), .d (.sl (oB df si))]] [] = some ⟨.tup [.agg [.d (I 38), .d (I si), .d (I 2003), .d (B true), .d (B false), .d (I 0), .d (rws (qG df si))], .d (B false), .d (B true)], [], [], 0⟩ := CV_P AE_ok [] [] [] rfl rfl (by kernel_rfl)
theorem eB_s (si : Int) : IsS [I 3, I 0, .sl (eB si)] := IsS.mk (.cons .leaf (.cons .leaf (.cons .leaf (.cons .leaf (.cons .leaf (.cons (.mk (.cons (.mk (.cons .leaf (.cons .leaf .nil)) (by simp)) .nil) (by simp)) .nil)))))) (by simp [eB])
theorem oB_s (df si : Int) : IsS [I 3, I 0, .sl (oB df si)] := IsS.mk (.cons .leaf (.cons .leaf (.cons .leaf (.cons .leaf (.cons .leaf (.cons (.mk (.cons (.mk (.cons .leaf (.cons .leaf .nil)) (by simp)) (.cons (.mk (.cons .leaf (.cons (.mk (.cons .leaf (.cons .leaf .nil)) (by simp)) (.cons (.mk (.cons .leaf (.cons .leaf .nil)) (by simp)) .nil))) (by simp)) .nil)) (by simp)) .nil)))))) (by simp [oB])
abbrev pl0 (l : List Int) (k : Int) : List (List D) := (pnS l 0 k.toNat).1.map Tm.row
theorem pl0_cons (l : List Int) (k : Int) : (pl0 l k).headD [] :: (pl0 l k).tail = (pnS l 0 k.toNat).1.map Tm.row := by
  have h := pnS_ne l 0 k.toNat
  unfold pl0
  cases h0 : (pnS l 0 k.toNat).1 with
  | nil => exact absurd h0 h
  | cons a b => rfl
theorem pl0_len {l : List Int} (hB : Bytes l) (k : Int) (q : List (List D)) (hq : q.length < 1000) : Nat.ble (lenK ((pl0 l k).headD [] :: (pl0 l k).tail) + lenK q) appBound = true := by
  rw [pl0_cons, lenK_eq, lenK_eq, List.length_map]
  have := (pnS_good hB 0 k.toNat).2
  refine Nat.ble_eq_true_of_le ?_
  unfold appBound; omega
theorem p27 {l : List Int} (hB : Bytes l) (tk k : Int) (hk : 0 ≤ k) : CV VP 27 [.ptr 0 0, .agg (ab (aC tk))] [[.d (.sl (l.map byteRow)), .d (I k)]] = some ⟨.sl 3 ((pl0 l k).headD [] :: (pl0 l k).tail) (.own 0 0), [[.d (.sl (l.map byteRow)), .d (I ((pnS l 0 k.toNat).2 : Nat))]], [0], 1⟩ := by
  have h := e37n hB 0 (.inl rfl) (aC tk 1) (aC tk 2) (aC tk 3) (aC tk 5) (aC tk 6) (aC tk 7) (aC tk 8) (aC tk 9) (aC tk 10) (aC tk 11) (aC tk 12) (aC tk 13) (aC tk 14) (aC tk 15) (aC tk 16) (aC tk 18) 0 k.toNat [[]] CtxOk.base
  rw [← pl0_cons] at h
  have hc : ∀ m : Nat, cx [[]] 0 l m [] = [[.d (.sl (l.map byteRow)), .d (I (m : Nat))]] := fun m => rfl
  rw [hc, hc, Int.toNat_of_nonneg hk] at h
  exact h
theorem envM {l : List Int} (hB : Bytes l) {nx : Int → Int → Int} {na : Int → Int} (hN : NX (l.map byteRow) nx na) (tk df si sr : Int) (ba : List (List D)) (hb : IsS [I 3, I 0, .sl ba]) {qs : List Tm} (hq : Pt qs) (hl : qs.length < 1000)
    (hS : CV VP 18 [.agg [.d (I 3), .d (I 0), .d (.sl ba)]] [] = some ⟨.tup [.agg [.d (I 38), .d (I si), .d (I sr), .d (B true), .d (B false), .d (I 0), .d (rws qs)], .d (B false), .d (B true)], [], [], 0⟩) :
    EnvM (l.map byteRow) nx na (fun k => ((pnS l 0 k.toNat).2 : Nat)) (fun k => (pl0 l k).headD []) (fun k => (pl0 l k).tail) (aC tk) (I 2) (I df) (I 3) (I 0) (.sl ba) (I 38) (I si) (I sr) (B true) (B false) (I 0) (B false) (B true)
      (fun q => (eP (aC tk) (I 2) (I df) (I 3) (I 0) (.sl ba) (I 38) (I si) (I sr) (B true) (B false) (I 0) q).1) (fun q => (eP (aC tk) (I 2) (I df) (I 3) (I 0) (.sl ba) (I 38) (I si) (I sr) (B true) (B false) (I 0) q).2) (qs.map Tm.row) where
  fN := hN
  fp := fun _ => Int.natCast_nonneg _
  fP := p27 hB tk
  fL := fun k => pl0_len hB k _ (by rw [List.length_map]; exact hl)
  fR := eP_ok (repA hq tk 2 df si sr 0 true false ba hb)
  fK := fun k => by
    rw [← List.cons_append, pl0_cons, ← List.map_append]
    have hp := (pnS_good hB 0 k.toNat)
    exact eP_ok (repA (Pt.app ⟨by omega, hp.1⟩ hq (by rw [List.length_append]; omega)) tk 2 df si sr 0 true false ba hb)
  fS := hS
theorem lp0 {l : List Int} (hB : Bytes l) {nx : Int → Int → Int} {na : Int → Int} (hN : NX (l.map byteRow) nx na) (K tk now si sr id n1 f : Int) (ini : Bool) (A N : Tm) (hA : A.tame) (hNt : N.tame) (hAl : ∀ u ∈ A.args, ∀ x ∈ u.args, x.op = 1 → x.args = []) (hK : 0 ≤ K) : Tr3 ⟨keepT vf3K1 t16, blM (l.map byteRow) K tk (aC tk) now .nil si sr id false ini ((psG A N).map Tm.row) n1 ((usG si sr f id A N).map Tm.row), [0], 1, 0, 0⟩ := by
  have hp := pt_ps hA hNt
  have hb := usG_small si sr f id hA hNt
  rcases reqA0 hp hb hAl now n1 si sr id false ini with h | h | h
  · exact em00 now K si sr id n1 tk false ini ((usG si sr f id A N).map Tm.row) ((psG A N).map Tm.row) (l.map byteRow) [] [] (aC tk) nx na (fun _ => 0) (fun _ => []) (fun _ => []) (I 0) (I 0) (I 0) (I 0) (I 0) (I 0) (I 0) (I 0) (I 0) (I 0) (I 0) (I 0) (I 0) (I 0) (I 0) (I 0) (I 0) (I 0) (I 0) (fun _ => I 0) (fun _ => I 0) (fun _ _ => I 0) (fun _ => 0) h
  · exact em10 now K si sr id n1 tk false ini ((usG si sr f id A N).map Tm.row) ((psG A N).map Tm.row) (l.map byteRow) [] [] (aC tk) nx na _ _ _ (I 2) (I n1) (I 3) (I 0) (.sl (eB si)) (I 38) (I si) (I 0) (B true) (B false) (I 0) (B false) (B true) (I 3) (I 0) (.sl [[I 1, I 12, .sl []], [I 1, I 44, .sl []]]) (I 0) (I 0) (I 0) (fun _ => I 0) (fun _ => I 0) _ _ h (envM hB hN tk n1 si 0 _ (eB_s si) qE_pt (by simp [qE]) (shE si)) hK
  · exact em20 now K si sr id n1 tk false ini ((usG si sr f id A N).map Tm.row) ((psG A N).map Tm.row) (l.map byteRow) [] [] (aC tk) nx na _ _ _ (I 2) (I n1) (I 3) (I 0) (.sl (oB n1 si)) (I 38) (I si) (I 2003) (B true) (B false) (I 0) (B false) (B true) (I 3) (I 0) (.sl [[I 1, I 3, .sl []], [I 2, I 1048580, .sl []]]) (I 3) (I 0) (.sl [[I 1, I 7, .sl []], [I 6, I 8, .sl [[I 1, I si, .sl []], [I 1, I 2, .sl []]]], [I 6, I 8, .sl [[I 1, I si, .sl []], [I 1, I n1, .sl []]]]]) (xG [] now n1 si (oneT 3 (psG A N)).1.op (oneT 3 (psG A N)).1.val (KT now (psG A N)).op (KT now (psG A N)).val (behT si 2 (psG A N)) ((usG si sr f id A N).map Tm.row) (sD (oneT 3 (psG A N)).1) (sD (KT now (psG A N)))) (yG [] now n1 si (oneT 3 (psG A N)).1.op (oneT 3 (psG A N)).1.val (KT now (psG A N)).op (KT now (psG A N)).val (behT si 2 (psG A N)) ((usG si sr f id A N).map Tm.row) (sD (oneT 3 (psG A N)).1) (sD (KT now (psG A N)))) _ _ h.1 h.2 (envM hB hN tk n1 si 2003 _ (oB_s n1 si) (qG_pt n1 si) (by simp [qG]) (shG n1 si)) hK
theorem lp1 {l : List Int} (hB : Bytes l) {nx : Int → Int → Int} {na : Int → Int} (hN : NX (l.map byteRow) nx na) (K tk now si sr id n1 f : Int) (ini : Bool) (A N : Tm) (hA : A.tame) (hNt : N.tame) (hAl : ∀ u ∈ A.args, ∀ x ∈ u.args, x.op = 1 → x.args = []) (hK : 0 ≤ K) : Tr3 ⟨keepT vf3K1 t16, blM (l.map byteRow) K tk (aC tk) now (.sl 26 [hz 91] (.own 0 1)) si sr id false ini ((psG A N).map Tm.row) n1 ((usG si sr f id A N).map Tm.row), [1, 0], 2, 0, 0⟩ := by
  have hp := pt_ps hA hNt
  have hb := usG_small si sr f id hA hNt
  rcases reqA1 hp hb hAl now n1 si sr id false ini with h | h | h
  · exact em01 now K si sr id n1 tk false ini ((usG si sr f id A N).map Tm.row) ((psG A N).map Tm.row) (l.map byteRow) (hz 91) [] (aC tk) nx na (fun _ => 0) (fun _ => []) (fun _ => []) (I 0) (I 0) (I 0) (I 0) (I 0) (I 0) (I 0) (I 0) (I 0) (I 0) (I 0) (I 0) (I 0) (I 0) (I 0) (I 0) (I 0) (I 0) (I 0) (fun _ => I 0) (fun _ => I 0) (fun _ _ => I 0) (fun _ => 0) h
  · exact em11 now K si sr id n1 tk false ini ((usG si sr f id A N).map Tm.row) ((psG A N).map Tm.row) (l.map byteRow) (hz 91) [] (aC tk) nx na _ _ _ (I 2) (I n1) (I 3) (I 0) (.sl (eB si)) (I 38) (I si) (I 0) (B true) (B false) (I 0) (B false) (B true) (I 3) (I 0) (.sl [[I 1, I 12, .sl []], [I 1, I 44, .sl []]]) (I 0) (I 0) (I 0) (fun _ => I 0) (fun _ => I 0) _ _ h (envM hB hN tk n1 si 0 _ (eB_s si) qE_pt (by simp [qE]) (shE si)) hK
  · exact em21 now K si sr id n1 tk false ini ((usG si sr f id A N).map Tm.row) ((psG A N).map Tm.row) (l.map byteRow) (hz 91) [] (aC tk) nx na _ _ _ (I 2) (I n1) (I 3) (I 0) (.sl (oB n1 si)) (I 38) (I si) (I 2003) (B true) (B false) (I 0) (B false) (B true) (I 3) (I 0) (.sl [[I 1, I 3, .sl []], [I 2, I 1048580, .sl []]]) (I 3) (I 0) (.sl [[I 1, I 7, .sl []], [I 6, I 8, .sl [[I 1, I si, .sl []], [I 1, I 2, .sl []]]], [I 6, I 8, .sl [[I 1, I si, .sl []], [I 1, I n1, .sl []]]]]) (xG [hz 91] now n1 si (oneT 3 (psG A N)).1.op (oneT 3 (psG A N)).1.val (KT now (psG A N)).op (KT now (psG A N)).val (behT si 2 (psG A N)) ((usG si sr f id A N).map Tm.row) (sD (oneT 3 (psG A N)).1) (sD (KT now (psG A N)))) (yG [hz 91] now n1 si (oneT 3 (psG A N)).1.op (oneT 3 (psG A N)).1.val (KT now (psG A N)).op (KT now (psG A N)).val (behT si 2 (psG A N)) ((usG si sr f id A N).map Tm.row) (sD (oneT 3 (psG A N)).1) (sD (KT now (psG A N)))) _ _ h.1 h.2 (envM hB hN tk n1 si 2003 _ (oB_s n1 si) (qG_pt n1 si) (by simp [qG]) (shG n1 si)) hK
theorem lp2 {l : List Int} (hB : Bytes l) {nx : Int → Int → Int} {na : Int → Int} (hN : NX (l.map byteRow) nx na) (K tk now si sr id n1 f : Int) (ini : Bool) (A N : Tm) (hA : A.tame) (hNt : N.tame) (hAl : ∀ u ∈ A.args, ∀ x ∈ u.args, x.op = 1 → x.args = []) (hK : 0 ≤ K) : Tr3 ⟨keepT vf3K1 t16, blM (l.map byteRow) K tk (aC tk) now (.sl 26 [hz 92, hz 91] (.own 0 2)) si sr id false ini ((psG A N).map Tm.row) n1 ((usG si sr f id A N).map Tm.row), [2, 0], 3, 0, 0⟩ := by
  have hp := pt_ps hA hNt
  have hb := usG_small si sr f id hA hNt
  rcases reqA2 hp hb hAl now n1 si sr id false ini with h | h | h
  · exact em02 now K si sr id n1 tk false ini ((usG si sr f id A N).map Tm.row) ((psG A N).map Tm.row) (l.map byteRow) (hz 92) [hz 91] (aC tk) nx na (fun _ => 0) (fun _ => []) (fun _ => []) (I 0) (I 0) (I 0) (I 0) (I 0) (I 0) (I 0) (I 0) (I 0) (I 0) (I 0) (I 0) (I 0) (I 0) (I 0) (I 0) (I 0) (I 0) (I 0) (fun _ => I 0) (fun _ => I 0) (fun _ _ => I 0) (fun _ => 0) h
  · exact em12 now K si sr id n1 tk false ini ((usG si sr f id A N).map Tm.row) ((psG A N).map Tm.row) (l.map byteRow) (hz 92) [hz 91] (aC tk) nx na _ _ _ (I 2) (I n1) (I 3) (I 0) (.sl (eB si)) (I 38) (I si) (I 0) (B true) (B false) (I 0) (B false) (B true) (I 3) (I 0) (.sl [[I 1, I 12, .sl []], [I 1, I 44, .sl []]]) (I 0) (I 0) (I 0) (fun _ => I 0) (fun _ => I 0) _ _ h (envM hB hN tk n1 si 0 _ (eB_s si) qE_pt (by simp [qE]) (shE si)) hK
  · exact em22 now K si sr id n1 tk false ini ((usG si sr f id A N).map Tm.row) ((psG A N).map Tm.row) (l.map byteRow) (hz 92) [hz 91] (aC tk) nx na _ _ _ (I 2) (I n1) (I 3) (I 0) (.sl (oB n1 si)) (I 38) (I si) (I 2003) (B true) (B false) (I 0) (B false) (B true) (I 3) (I 0) (.sl [[I 1, I 3, .sl []], [I 2, I 1048580, .sl []]]) (I 3) (I 0) (.sl [[I 1, I 7, .sl []], [I 6, I 8, .sl [[I 1, I si, .sl []], [I 1, I 2, .sl []]]], [I 6, I 8, .sl [[I 1, I si, .sl []], [I 1, I n1, .sl []]]]]) (xG [hz 92, hz 91] now n1 si (oneT 3 (psG A N)).1.op (oneT 3 (psG A N)).1.val (KT now (psG A N)).op (KT now (psG A N)).val (behT si 2 (psG A N)) ((usG si sr f id A N).map Tm.row) (sD (oneT 3 (psG A N)).1) (sD (KT now (psG A N)))) (yG [hz 92, hz 91] now n1 si (oneT 3 (psG A N)).1.op (oneT 3 (psG A N)).1.val (KT now (psG A N)).op (KT now (psG A N)).val (behT si 2 (psG A N)) ((usG si sr f id A N).map Tm.row) (sD (oneT 3 (psG A N)).1) (sD (KT now (psG A N)))) _ _ h.1 h.2 (envM hB hN tk n1 si 2003 _ (oB_s n1 si) (qG_pt n1 si) (by simp [qG]) (shG n1 si)) hK
theorem lp3 {l : List Int} (hB : Bytes l) {nx : Int → Int → Int} {na : Int → Int} (hN : NX (l.map byteRow) nx na) (K tk now si sr id n1 f : Int) (ini : Bool) (A N : Tm) (hA : A.tame) (hNt : N.tame) (hAl : ∀ u ∈ A.args, ∀ x ∈ u.args, x.op = 1 → x.args = []) (hK : 0 ≤ K) : Tr3 ⟨keepT vf3K1 t16, blM (l.map byteRow) K tk (aC tk) now (.sl 26 [hz 93, hz 92, hz 91] (.own 0 3)) si sr id false ini ((psG A N).map Tm.row) n1 ((usG si sr f id A N).map Tm.row), [3, 0], 4, 0, 0⟩ := by
  have hp := pt_ps hA hNt
  have hb := usG_small si sr f id hA hNt
  rcases reqA3 hp hb hAl now n1 si sr id false ini with h | h | h
  · exact em03 now K si sr id n1 tk false ini ((usG si sr f id A N).map Tm.row) ((psG A N).map Tm.row) (l.map byteRow) (hz 93) [hz 92, hz 91] (aC tk) nx na (fun _ => 0) (fun _ => []) (fun _ => []) (I 0) (I 0) (I 0) (I 0) (I 0) (I 0) (I 0) (I 0) (I 0) (I 0) (I 0) (I 0) (I 0) (I 0) (I 0) (I 0) (I 0) (I 0) (I 0) (fun _ => I 0) (fun _ => I 0) (fun _ _ => I 0) (fun _ => 0) h
  · exact em13 now K si sr id n1 tk false ini ((usG si sr f id A N).map Tm.row) ((psG A N).map Tm.row) (l.map byteRow) (hz 93) [hz 92, hz 91] (aC tk) nx na _ _ _ (I 2) (I n1) (I 3) (I 0) (.sl (eB si)) (I 38) (I si) (I 0) (B true) (B false) (I 0) (B false) (B true) (I 3) (I 0) (.sl [[I 1, I 12, .sl []], [I 1, I 44, .sl []]]) (I 0) (I 0) (I 0) (fun _ => I 0) (fun _ => I 0) _ _ h (envM hB hN tk n1 si 0 _ (eB_s si) qE_pt (by simp [qE]) (shE si)) hK
  · exact em23 now K si sr id n1 tk false ini ((usG si sr f id A N).map Tm.row) ((psG A N).map Tm.row) (l.map byteRow) (hz 93) [hz 92, hz 91] (aC tk) nx na _ _ _ (I 2) (I n1) (I 3) (I 0) (.sl (oB n1 si)) (I 38) (I si) (I 2003) (B true) (B false) (I 0) (B false) (B true) (I 3) (I 0) (.sl [[I 1, I 3, .sl []], [I 2, I 1048580, .sl []]]) (I 3) (I 0) (.sl [[I 1, I 7, .sl []], [I 6, I 8, .sl [[I 1, I si, .sl []], [I 1, I 2, .sl []]]], [I 6, I 8, .sl [[I 1, I si, .sl []], [I 1, I n1, .sl []]]]]) (xG [hz 93, hz 92, hz 91] now n1 si (oneT 3 (psG A N)).1.op (oneT 3 (psG A N)).1.val (KT now (psG A N)).op (KT now (psG A N)).val (behT si 2 (psG A N)) ((usG si sr f id A N).map Tm.row) (sD (oneT 3 (psG A N)).1) (sD (KT now (psG A N)))) (yG [hz 93, hz 92, hz 91] now n1 si (oneT 3 (psG A N)).1.op (oneT 3 (psG A N)).1.val (KT now (psG A N)).op (KT now (psG A N)).val (behT si 2 (psG A N)) ((usG si sr f id A N).map Tm.row) (sD (oneT 3 (psG A N)).1) (sD (KT now (psG A N)))) _ _ h.1 h.2 (envM hB hN tk n1 si 2003 _ (oB_s n1 si) (qG_pt n1 si) (by simp [qG]) (shG n1 si)) hK
theorem lp4 {l : List Int} (hB : Bytes l) {nx : Int → Int → Int} {na : Int → Int} (hN : NX (l.map byteRow) nx na) (K tk now si sr id n1 f : Int) (ini : Bool) (A N : Tm) (hA : A.tame) (hNt : N.tame) (hAl : ∀ u ∈ A.args, ∀ x ∈ u.args, x.op = 1 → x.args = []) (hK : 0 ≤ K) : Tr3 ⟨keepT vf3K1 t16, blM (l.map byteRow) K tk (aC tk) now (.sl 26 [hz 94, hz 93, hz 92, hz 91] (.own 0 4)) si sr id false ini ((psG A N).map Tm.row) n1 ((usG si sr f id A N).map Tm.row), [4, 0], 5, 0, 0⟩ := by
  have hp := pt_ps hA hNt
  have hb := usG_small si sr f id hA hNt
  rcases reqA4 hp hb hAl now n1 si sr id false ini with h | h
  · exact em04 now K si sr id n1 tk false ini ((usG si sr f id A N).map Tm.row) ((psG A N).map Tm.row) (l.map byteRow) (hz 94) [hz 93, hz 92, hz 91] (aC tk) nx na (fun _ => 0) (fun _ => []) (fun _ => []) (I 0) (I 0) (I 0) (I 0) (I 0) (I 0) (I 0) (I 0) (I 0) (I 0) (I 0) (I 0) (I 0) (I 0) (I 0) (I 0) (I 0) (I 0) (I 0) (fun _ => I 0) (fun _ => I 0) (fun _ _ => I 0) (fun _ => 0) h
  · exact em14 now K si sr id n1 tk false ini ((usG si sr f id A N).map Tm.row) ((psG A N).map Tm.row) (l.map byteRow) (hz 94) [hz 93, hz 92, hz 91] (aC tk) nx na _ _ _ (I 2) (I n1) (I 3) (I 0) (.sl (eB si)) (I 38) (I si) (I 0) (B true) (B false) (I 0) (B false) (B true) (I 3) (I 0) (.sl [[I 1, I 12, .sl []], [I 1, I 44, .sl []]]) (I 0) (I 0) (I 0) (fun _ => I 0) (fun _ => I 0) _ _ h (envM hB hN tk n1 si 0 _ (eB_s si) qE_pt (by simp [qE]) (shE si)) hK
theorem eta_tame {t : Tm} (h : t.tame) : (Tm.mk t.op t.val t.args).tame := by cases t; exact h
theorem eta_numl {t : Tm} (h : t.numl) : (Tm.mk t.op t.val t.args).numl := by cases t; exact h
theorem A0_tame (tk : Int) : (A0 tk).tame := tame2 (tame_leaf _ _) ⟨by simp, tame_leaf _ _, tame_nT _, tame_nT _, trivial⟩
theorem A0_leaf (tk : Int) : ∀ u ∈ (A0 tk).args, ∀ x ∈ u.args, x.op = 1 → x.args = [] := seal_leafs (leaf_numl _ _) ⟨fun h => absurd h (by decide), leaf_numl _ _, leaf_numl _ _, leaf_numl _ _, trivial⟩
theorem term2 {l : List Int} (hB : Bytes l) (d : Nat) (hd : d < 100) (k : Int) (hk : 0 ≤ k) : CV VP 21 [.ptr 0 0, .d (I ((d + 1 : Nat) : Int))] [[.d (.sl (l.map byteRow)), .d (I k)]] = some ⟨.agg [.d (I (drT l d k.toNat).1.op), .d (I (drT l d k.toNat).1.val), .d (.sl (Tm.rows (drT l d k.toNat).1.args))], [[.d (.sl (l.map byteRow)), .d (I ((drT l d k.toNat).2 : Nat))]], [], 0⟩ := by
  have h := cx_lift (bl := [[]]) (id := 0) (own := []) (e32b hB d hd 0 k.toNat) CtxOk.base rfl rfl
  have hc : ∀ m : Nat, cx [[]] 0 l m [] = [[.d (.sl (l.map byteRow)), .d (I (m : Nat))]] := fun m => rfl
  rw [hc, hc, Int.toNat_of_nonneg hk] at h
  rw [Tm.rows_eq]
  exact h
set_option maxHeartbeats 4000000 in
theorem main3 {l : List Int} (hB : Bytes l) {nx : Int → Int → Int} {na : Int → Int} (hN : NX (l.map byteRow) nx na) (X : List (List D)) (n1 q tk k : Int) (hk : 0 ≤ k) :
    RX VP (seqL ((flat vf3.body).drop 5)) ⟨us5 X n1 q tk, bl5 (l.map byteRow) k tk, [0], 1, 0, 0⟩ (retQ vf3 0 ⟨.d (B true), [], [], 0⟩) := by
  have h2 : ∀ k, 0 ≤ k → CV VP 21 [.ptr 0 0, .d (I 2)] [[.d (.sl (l.map byteRow)), .d (I k)]] = some ⟨.agg [.d (I (drT l 1 k.toNat).1.op), .d (I (drT l 1 k.toNat).1.val), .d (.sl (tR (fun k => (drT l 1 k.toNat).1.args) k))], [[.d (.sl (l.map byteRow)), .d (I ((drT l 1 k.toNat).2 : Nat))]], [], 0⟩ := fun k hk => term2 hB 1 (by decide) k hk
  have h3 : ∀ k, 0 ≤ k → CV VP 21 [.ptr 0 0, .d (I 3)] [[.d (.sl (l.map byteRow)), .d (I k)]] = some ⟨.agg [.d (I (drT l 2 k.toNat).1.op), .d (I (drT l 2 k.toNat).1.val), .d (.sl (tR (fun k => (drT l 2 k.toNat).1.args) k))], [[.d (.sl (l.map byteRow)), .d (I ((drT l 2 k.toNat).2 : Nat))]], [], 0⟩ := fun k hk => term2 hB 2 (by decide) k hk
  have t2 : ∀ k : Int, (Tm.mk (drT l 1 k.toNat).1.op (drT l 1 k.toNat).1.val (drT l 1 k.toNat).1.args).tame := fun k => eta_tame (drT_tame hB 1 _)
  have t3 : ∀ k : Int, (Tm.mk (drT l 2 k.toNat).1.op (drT l 2 k.toNat).1.val (drT l 2 k.toNat).1.args).tame := fun k => eta_tame (drT_tame hB 2 _)
  have u2 : ∀ k : Int, (Tm.mk (drT l 1 k.toNat).1.op (drT l 1 k.toNat).1.val (drT l 1 k.toNat).1.args).numl := fun k => eta_numl (drT_numl l 1 _)
  have u3 : ∀ k : Int, (Tm.mk (drT l 2 k.toNat).1.op (drT l 2 k.toNat).1.val (drT l 2 k.toNat).1.args).numl := fun k => eta_numl (drT_numl l 2 _)
  have hE : Env3 (l.map byteRow) nx na (fun k => (drT l 1 k.toNat).1.op) (fun k => (drT l 1 k.toNat).1.val) (fun k => ((drT l 1 k.toNat).2 : Nat)) (fun k => (drT l 2 k.toNat).1.op) (fun k => (drT l 2 k.toNat).1.val) (fun k => ((drT l 2 k.toNat).2 : Nat)) (fun k => (drT l 1 k.toNat).1.args) (fun k => (drT l 2 k.toNat).1.args) := ⟨hN, fun _ => Int.natCast_nonneg _, h2, h3⟩
  obtain ⟨q50, q51⟩ := hN.rng (na k) 5 (by decide)
  obtain ⟨q70, q71⟩ := hN.rng (na (na k)) 7 (by decide)
  rcases (show nx (na k) 5 = 0 ∨ nx (na k) 5 = 1 ∨ nx (na k) 5 = 2 ∨ nx (na k) 5 = 3 ∨ nx (na k) 5 = 4 by omega) with h5 | h5 | h5 | h5 | h5
  · rcases (show nx (na (na k)) 7 = 0 ∨ nx (na (na k)) 7 = 1 ∨ nx (na (na k)) 7 = 2 ∨ nx (na (na k)) 7 = 3 ∨ nx (na (na k)) 7 = 4 ∨ nx (na (na k)) 7 = 5 ∨ nx (na (na k)) 7 = 6 by omega) with h7 | h7 | h7 | h7 | h7 | h7 | h7
    · exact c3_0 k q tk _ X n1 nx na _ _ _ _ _ _ _ _ hE hk (eqT h7) (eqT h5) (lp0 hB hN _ tk _ _ _ _ n1 _ _ _ _ (tame2 (t2 _) (t3 _)) (tame_leaf _ _) (seal_leafs (u2 _) (u3 _)) (Int.natCast_nonneg _))
    · exact c3_1 k q tk _ X n1 nx na _ _ _ _ _ _ _ _ hE hk (eqT h7) (eqT h5) (lp0 hB hN _ tk _ _ _ _ n1 _ _ _ _ (tame2 (tame_leaf _ _) (t3 _)) (tame_leaf _ _) (seal_leafs (leaf_numl _ _) (u3 _)) (Int.natCast_nonneg _))
    · exact c3_2 k q tk _ X n1 nx na _ _ _ _ _ _ _ _ hE hk (eqT h7) (eqT h5) (lp0 hB hN _ tk _ _ _ _ n1 _ _ _ _ (A0_tame tk) (t2 _) (A0_leaf tk) (Int.natCast_nonneg _))
    · exact c3_3 k q tk _ X n1 nx na _ _ _ _ _ _ _ _ hE hk (eqT h7) (eqT h5) (lp0 hB hN _ tk _ _ _ _ n1 _ _ _ _ (A0_tame tk) (tame_leaf _ _) (A0_leaf tk) (hN.nn _))
    · exact c3_4 k q tk _ X n1 nx na _ _ _ _ _ _ _ _ hE hk (eqT h7) (eqT h5) (lp0 hB hN _ tk _ _ _ _ n1 _ _ _ _ (A0_tame tk) (tame_leaf _ _) (A0_leaf tk) (hN.nn _))
    · exact c3_5 k q tk _ X n1 nx na _ _ _ _ _ _ _ _ hE hk (eqT h7) (eqT h5) (lp0 hB hN _ tk _ _ _ _ n1 _ _ _ _ (A0_tame tk) (tame_leaf _ _) (A0_leaf tk) (hN.nn _))
    · exact c3_6 k q tk _ X n1 nx na _ _ _ _ _ _ _ _ hE hk (eqT h7) (eqT h5) (lp0 hB hN _ tk _ _ _ _ n1 _ _ _ _ (A0_tame tk) (tame_leaf _ _) (A0_leaf tk) (hN.nn _))
  · rcases (show nx (na (na k)) 7 = 0 ∨ nx (na (na k)) 7 = 1 ∨ nx (na (na k)) 7 = 2 ∨ nx (na (na k)) 7 = 3 ∨ nx (na (na k)) 7 = 4 ∨ nx (na (na k)) 7 = 5 ∨ nx (na (na k)) 7 = 6 by omega) with h7 | h7 | h7 | h7 | h7 | h7 | h7
    · exact c3_7 k q tk _ X n1 nx na _ _ _ _ _ _ _ _ hE hk (eqT h7) (eqT h5) (lp1 hB hN _ tk _ _ _ _ n1 _ _ _ _ (tame2 (t2 _) (t3 _)) (tame_leaf _ _) (seal_leafs (u2 _) (u3 _)) (Int.natCast_nonneg _))
    · exact c3_8 k q tk _ X n1 nx na _ _ _ _ _ _ _ _ hE hk (eqT h7) (eqT h5) (lp1 hB hN _ tk _ _ _ _ n1 _ _ _ _ (tame2 (tame_leaf _ _) (t3 _)) (tame_leaf _ _) (seal_leafs (leaf_numl _ _) (u3 _)) (Int.natCast_nonneg _))
    · exact c3_9 k q tk _ X n1 nx na _ _ _ _ _ _ _ _ hE hk (eqT h7) (eqT h5) (lp1 hB hN _ tk _ _ _ _ n1 _ _ _ _ (A0_tame tk) (t2 _) (A0_leaf tk) (Int.natCast_nonneg _))
    · exact c3_10 k q tk _ X n1 nx na _ _ _ _ _ _ _ _ hE hk (eqT h7) (eqT h5) (lp1 hB hN _ tk _ _ _ _ n1 _ _ _ _ (A0_tame tk) (tame_leaf _ _) (A0_leaf tk) (hN.nn _))
    · exact c3_11 k q tk _ X n1 nx na _ _ _ _ _ _ _ _ hE hk (eqT h7) (eqT h5) (lp1 hB hN _ tk _ _ _ _ n1 _ _ _ _ (A0_tame tk) (tame_leaf _ _) (A0_leaf tk) (hN.nn _))
    · exact c3_12 k q tk _ X n1 nx na _ _ _ _ _ _ _ _ hE hk (eqT h7) (eqT h5) (lp1 hB hN _ tk _ _ _ _ n1 _ _ _ _ (A0_tame tk) (tame_leaf _ _) (A0_leaf tk) (hN.nn _))
    · exact c3_13 k q tk _ X n1 nx na _ _ _ _ _ _ _ _ hE hk (eqT h7) (eqT h5) (lp1 hB hN _ tk _ _ _ _ n1 _ _ _ _ (A0_tame tk) (tame_leaf _ _) (A0_leaf tk) (hN.nn _))
  · rcases (show nx (na (na k)) 7 = 0 ∨ nx (na (na k)) 7 = 1 ∨ nx (na (na k)) 7 = 2 ∨ nx (na (na k)) 7 = 3 ∨ nx (na (na k)) 7 = 4 ∨ nx (na (na k)) 7 = 5 ∨ nx (na (na k)) 7 = 6 by omega) with h7 | h7 | h7 | h7 | h7 | h7 | h7
    · exact c3_14 k q tk _ X n1 nx na _ _ _ _ _ _ _ _ hE hk (eqT h7) (eqT h5) (lp2 hB hN _ tk _ _ _ _ n1 _ _ _ _ (tame2 (t2 _) (t3 _)) (tame_leaf _ _) (seal_leafs (u2 _) (u3 _)) (Int.natCast_nonneg _))
    · exact c3_15 k q tk _ X n1 nx na _ _ _ _ _ _ _ _ hE hk (eqT h7) (eqT h5) (lp2 hB hN _ tk _ _ _ _ n1 _ _ _ _ (tame2 (tame_leaf _ _) (t3 _)) (tame_leaf _ _) (seal_leafs (leaf_numl _ _) (u3 _)) (Int.natCast_nonneg _))
    · exact c3_16 k q tk _ X n1 nx na _ _ _ _ _ _ _ _ hE hk (eqT h7) (eqT h5) (lp2 hB hN _ tk _ _ _ _ n1 _ _ _ _ (A0_tame tk) (t2 _) (A0_leaf tk) (Int.natCast_nonneg _))
    · exact c3_17 k q tk _ X n1 nx na _ _ _ _ _ _ _ _ hE hk (eqT h7) (eqT h5) (lp2 hB hN _ tk _ _ _ _ n1 _ _ _ _ (A0_tame tk) (tame_leaf _ _) (A0_leaf tk) (hN.nn _))
    · exact c3_18 k q tk _ X n1 nx na _ _ _ _ _ _ _ _ hE hk (eqT h7) (eqT h5) (lp2 hB hN _ tk _ _ _ _ n1 _ _ _ _ (A0_tame tk) (tame_leaf _ _) (A0_leaf tk) (hN.nn _))
    · exact c3_19 k q tk _ X n1 nx na _ _ _ _ _ _ _ _ hE hk (eqT h7) (eqT h5) (lp2 hB hN _ tk _ _ _ _ n1 _ _ _ _ (A0_tame tk) (tame_leaf _ _) (A0_leaf tk) (hN.nn _))
    · exact c3_20 k q tk _ X n1 nx na _ _ _ _ _ _ _ _ hE hk (eqT h7) (eqT h5) (lp2 hB hN _ tk _ _ _ _ n1 _ _ _ _ (A0_tame tk) (tame_leaf _ _) (A0_leaf tk) (hN.nn _))
  · rcases (show nx (na (na k)) 7 = 0 ∨ nx (na (na k)) 7 = 1 ∨ nx (na (na k)) 7 = 2 ∨ nx (na (na k)) 7 = 3 ∨ nx (na (na k)) 7 = 4 ∨ nx (na (na k)) 7 = 5 ∨ nx (na (na k)) 7 = 6 by omega) with h7 | h7 | h7 | h7 | h7 | h7 | h7
    · exact c3_21 k q tk _ X n1 nx na _ _ _ _ _ _ _ _ hE hk (eqT h7) (eqT h5) (lp3 hB hN _ tk _ _ _ _ n1 _ _ _ _ (tame2 (t2 _) (t3 _)) (tame_leaf _ _) (seal_leafs (u2 _) (u3 _)) (Int.natCast_nonneg _))
    · exact c3_22 k q tk _ X n1 nx na _ _ _ _ _ _ _ _ hE hk (eqT h7) (eqT h5) (lp3 hB hN _ tk _ _ _ _ n1 _ _ _ _ (tame2 (tame_leaf _ _) (t3 _)) (tame_leaf _ _) (seal_leafs (leaf_numl _ _) (u3 _)) (Int.natCast_nonneg _))
    · exact c3_23 k q tk _ X n1 nx na _ _ _ _ _ _ _ _ hE hk (eqT h7) (eqT h5) (lp3 hB hN _ tk _ _ _ _ n1 _ _ _ _ (A0_tame tk) (t2 _) (A0_leaf tk) (Int.natCast_nonneg _))
    · exact c3_24 k q tk _ X n1 nx na _ _ _ _ _ _ _ _ hE hk (eqT h7) (eqT h5) (lp3 hB hN _ tk _ _ _ _ n1 _ _ _ _ (A0_tame tk) (tame_leaf _ _) (A0_leaf tk) (hN.nn _))
    · exact c3_25 k q tk _ X n1 nx na _ _ _ _ _ _ _ _ hE hk (eqT h7) (eqT h5) (lp3 hB hN _ tk _ _ _ _ n1 _ _ _ _ (A0_tame tk) (tame_leaf _ _) (A0_leaf tk) (hN.nn _))
    · exact c3_26 k q tk _ X n1 nx na _ _ _ _ _ _ _ _ hE hk (eqT h7) (eqT h5) (lp3 hB hN _ tk _ _ _ _ n1 _ _ _ _ (A0_tame tk) (tame_leaf _ _) (A0_leaf tk) (hN.nn _))
    · exact c3_27 k q tk _ X n1 nx na _ _ _ _ _ _ _ _ hE hk (eqT h7) (eqT h5) (lp3 hB hN _ tk _ _ _ _ n1 _ _ _ _ (A0_tame tk) (tame_leaf _ _) (A0_leaf tk) (hN.nn _))
  · rcases (show nx (na (na k)) 7 = 0 ∨ nx (na (na k)) 7 = 1 ∨ nx (na (na k)) 7 = 2 ∨ nx (na (na k)) 7 = 3 ∨ nx (na (na k)) 7 = 4 ∨ nx (na (na k)) 7 = 5 ∨ nx (na (na k)) 7 = 6 by omega) with h7 | h7 | h7 | h7 | h7 | h7 | h7
    · exact c3_28 k q tk _ X n1 nx na _ _ _ _ _ _ _ _ hE hk (eqT h7) (eqT h5) (lp4 hB hN _ tk _ _ _ _ n1 _ _ _ _ (tame2 (t2 _) (t3 _)) (tame_leaf _ _) (seal_leafs (u2 _) (u3 _)) (Int.natCast_nonneg _))
    · exact c3_29 k q tk _ X n1 nx na _ _ _ _ _ _ _ _ hE hk (eqT h7) (eqT h5) (lp4 hB hN _ tk _ _ _ _ n1 _ _ _ _ (tame2 (tame_leaf _ _) (t3 _)) (tame_leaf _ _) (seal_leafs (leaf_numl _ _) (u3 _)) (Int.natCast_nonneg _))
    · exact c3_30 k q tk _ X n1 nx na _ _ _ _ _ _ _ _ hE hk (eqT h7) (eqT h5) (lp4 hB hN _ tk _ _ _ _ n1 _ _ _ _ (A0_tame tk) (t2 _) (A0_leaf tk) (Int.natCast_nonneg _))
    · exact c3_31 k q tk _ X n1 nx na _ _ _ _ _ _ _ _ hE hk (eqT h7) (eqT h5) (lp4 hB hN _ tk _ _ _ _ n1 _ _ _ _ (A0_tame tk) (tame_leaf _ _) (A0_leaf tk) (hN.nn _))
    · exact c3_32 k q tk _ X n1 nx na _ _ _ _ _ _ _ _ hE hk (eqT h7) (eqT h5) (lp4 hB hN _ tk _ _ _ _ n1 _ _ _ _ (A0_tame tk) (tame_leaf _ _) (A0_leaf tk) (hN.nn _))
    · exact c3_33 k q tk _ X n1 nx na _ _ _ _ _ _ _ _ hE hk (eqT h7) (eqT h5) (lp4 hB hN _ tk _ _ _ _ n1 _ _ _ _ (A0_tame tk) (tame_leaf _ _) (A0_leaf tk) (hN.nn _))
    · exact c3_34 k q tk _ X n1 nx na _ _ _ _ _ _ _ _ hE hk (eqT h7) (eqT h5) (lp4 hB hN _ tk _ _ _ _ n1 _ _ _ _ (A0_tame tk) (tame_leaf _ _) (A0_leaf tk) (hN.nn _))
theorem e13a : CV VP 13 [] [] = some ⟨.d (B true), [], [], 0⟩ := CV_C 400 (by kernel_rfl)
theorem e3 {l : List Int} (hB0 : ByteL l) (n1 : Int) : CV VP 3 [.d (byteD l), .d (I n1)] [] = some ⟨.d (B true), [], [], 0⟩ := by
  have hB := bytes_take hB0 120 (by decide)
  have hN := nx_of hB
  have h14 := e21 (l := l) 120 (by decide)
  generalize (fun (k n : Int) => nxV (List.take 120 l) k.toNat n) = nx at hN
  generalize (fun (k : Int) => ((nxA (List.take 120 l) k.toNat : Nat) : Int)) = na at hN
  have hm := fun q tk => main3 hB hN (l.map byteRow) n1 q tk (na 0) (hN.nn _)
  refine CV_run (vf := vf3) rfl rfl ?_
  rw [vf3_start]
  cases hR : (List.take 120 l).map byteRow with
  | nil =>
    rw [hR] at hN h14 hm
    exact l3a _ n1 nx na hN e13a h14 (hm _ _)
  | cons r0 R =>
    rw [hR] at hN h14 hm
    exact l3b r0 R _ n1 nx na hN e13a h14 (hm _ _)
end Go.Proofs.YtknbgkfojmedpaaGreat
