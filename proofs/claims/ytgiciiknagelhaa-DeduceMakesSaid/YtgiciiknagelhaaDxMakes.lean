/- The law DeduceMakes on the machine: it answers true. Conditions: none. -/
import Derived.Test.YtgiciiknagelhaaVe
import Derived.Test.YtgiciiknagelhaaDv8
set_option linter.unusedSimpArgs false
set_option linter.unusedVariables false
set_option maxRecDepth 100000
set_option maxHeartbeats 8000000
namespace Go.Proofs.Ytgiciiknagelhaa
open Go.VM
theorem r2_ok {a b x y : Int} {r s : D} : Rows3 [[I a, I b, r], [I x, I y, s]] := ⟨by simp, by simp⟩
theorem c35 (a b x y : Int) (r s : D) : CV VP 35 [.d (.sl [[I a, I b, r], [I x, I y, s]])] [] = some ⟨.agg [.d (I 3), .d (I 0), .d (.sl [[I a, I b, r], [I x, I y, s]])], [], [], 0⟩ := e71 r2_ok (by simp)
theorem c41 (n a b x y : Int) (r s : D) : CV VP 41 [.d (I n), .d (.sl [[I a, I b, r], [I x, I y, s]])] [] = some ⟨.agg [.d (I 6), .d (I n), .d (.sl [[I a, I b, r], [I x, I y, s]])], [], [], 0⟩ := by
  have h98 := e98 (r2_ok (a := a) (b := b) (x := x) (y := y) (r := r) (s := s)) (by simp)
  have hf : frzLoc (some (rowCells [[I a, I b, r], [I x, I y, s]])) 0 2 3 = .d (.sl [[I a, I b, r], [I x, I y, s]]) := frzRows (by simp)
  have hi : V.impL 0 1 (rowCells [[I a, I b, r], [I x, I y, s]]) = rowCells [[I a, I b, r], [I x, I y, s]] := impL_d 0 1 _
  simp only [List.length_cons, List.length_nil] at h98
  generalize rowCells [[I a, I b, r], [I x, I y, s]] = C at h98 hf hi
  refine CV_run (vf := vf41) rfl rfl ?_
  rw [vf41_start]
  (repeat (first
    | refine RX_seq ?_
    | refine RX_block ?_
    | ((first | refine RX_reg ?_ | refine RX_cond' ?_ | refine RX_draw0 ?_ | refine RX_draw rfl ?_ | refine RX_skip ?_ | refine RX_gfrz ?_ | refine RX_exit ?_ | refine RX_ret ?_); try (simp only [go_sem, Nat.max_zero, List.isEmpty_cons, Int.reduceToNat, Nat.reducePow, Int.reduceEq, Int.reduceNe, Int.reduceLT, Int.reduceLE, Nat.reduceAdd, Nat.reduceLeDiff, ↓reduceIte, Nat.reduceLT, Nat.reduceMul, Nat.reduceSub, reduceCtorEq, beq_iff_eq, bne_iff_ne, bne_self_eq_false, beq_self_eq_true, beq_true, beq_false, I, B, w, vf41_res, vf41_keep, h98, hf, hi]))))
theorem c33 (a b x y : Int) (r s : D) : CV VP 33 [.agg [.d (I a), .d (I b), .d r], .agg [.d (I x), .d (I y), .d s]] [] = some ⟨.agg [.d (I 7), .d (I 0), .d (.sl [[I a, I b, r], [I x, I y, s]])], [], [], 0⟩ := by
  refine CV_run (vf := vf33) rfl rfl ?_
  rw [vf33_start]
  (repeat (first
    | refine RX_seq ?_
    | refine RX_block ?_
    | ((first | refine RX_reg ?_ | refine RX_cond' ?_ | refine RX_draw0 ?_ | refine RX_draw rfl ?_ | refine RX_skip ?_ | refine RX_gfrz ?_ | refine RX_exit ?_ | refine RX_ret ?_); try (simp only [go_sem, Nat.max_zero, List.isEmpty_cons, Int.reduceToNat, Nat.reducePow, Int.reduceEq, Int.reduceNe, Int.reduceLT, Int.reduceLE, Nat.reduceAdd, Nat.reduceLeDiff, ↓reduceIte, Nat.reduceLT, Nat.reduceMul, Nat.reduceSub, reduceCtorEq, frzLoc, rowCells, vAppM, beq_iff_eq, bne_iff_ne, bne_self_eq_false, beq_self_eq_true, beq_true, beq_false, I, B, w, vf33_res, vf33_keep]))))
theorem c39 (n a b : Int) (r : D) : CV VP 39 [.d (I n), .agg [.d (I a), .d (I b), .d r]] [] = some ⟨.agg [.d (I 8), .d (I n), .d (.sl [[I a, I b, r]])], [], [], 0⟩ := by
  refine CV_run (vf := vf39) rfl rfl ?_
  rw [vf39_start]
  (repeat (first
    | refine RX_seq ?_
    | refine RX_block ?_
    | ((first | refine RX_reg ?_ | refine RX_cond' ?_ | refine RX_draw0 ?_ | refine RX_draw rfl ?_ | refine RX_skip ?_ | refine RX_gfrz ?_ | refine RX_exit ?_ | refine RX_ret ?_); try (simp only [go_sem, Nat.max_zero, List.isEmpty_cons, Int.reduceToNat, Nat.reducePow, Int.reduceEq, Int.reduceNe, Int.reduceLT, Int.reduceLE, Nat.reduceAdd, Nat.reduceLeDiff, ↓reduceIte, Nat.reduceLT, Nat.reduceMul, Nat.reduceSub, reduceCtorEq, frzLoc, rowCells, vAppM, beq_iff_eq, bne_iff_ne, bne_self_eq_false, beq_self_eq_true, beq_true, beq_false, I, B, w, vf39_res, vf39_keep]))))
theorem c38 (a b : Int) (r : D) : CV VP 38 [.agg [.d (I a), .d (I b), .d r]] [] = some ⟨.agg [.d (I 4), .d (I 0), .d (.sl [[I a, I b, r]])], [], [], 0⟩ := by
  refine CV_run (vf := vf38) rfl rfl ?_
  rw [vf38_start]
  (repeat (first
    | refine RX_seq ?_
    | refine RX_block ?_
    | ((first | refine RX_reg ?_ | refine RX_cond' ?_ | refine RX_draw0 ?_ | refine RX_draw rfl ?_ | refine RX_skip ?_ | refine RX_gfrz ?_ | refine RX_exit ?_ | refine RX_ret ?_); try (simp only [go_sem, Nat.max_zero, List.isEmpty_cons, Int.reduceToNat, Nat.reducePow, Int.reduceEq, Int.reduceNe, Int.reduceLT, Int.reduceLE, Nat.reduceAdd, Nat.reduceLeDiff, ↓reduceIte, Nat.reduceLT, Nat.reduceMul, Nat.reduceSub, reduceCtorEq, frzLoc, rowCells, vAppM, beq_iff_eq, bne_iff_ne, bne_self_eq_false, beq_self_eq_true, beq_true, beq_false, I, B, w, vf38_res, vf38_keep]))))
theorem c36 (n : Int) : CV VP 36 [.d (I n)] [] = some ⟨.agg [.d (I 1), .d (I n), .d (.sl [])], [], [], 0⟩ := by
  refine CV_run (vf := vf36) rfl rfl ?_
  rw [vf36_start]
  (repeat (first
    | refine RX_seq ?_
    | refine RX_block ?_
    | ((first | refine RX_reg ?_ | refine RX_cond' ?_ | refine RX_draw0 ?_ | refine RX_draw rfl ?_ | refine RX_skip ?_ | refine RX_gfrz ?_ | refine RX_exit ?_ | refine RX_ret ?_); try (simp only [go_sem, Nat.max_zero, List.isEmpty_cons, Int.reduceToNat, Nat.reducePow, Int.reduceEq, Int.reduceNe, Int.reduceLT, Int.reduceLE, Nat.reduceAdd, Nat.reduceLeDiff, ↓reduceIte, Nat.reduceLT, Nat.reduceMul, Nat.reduceSub, reduceCtorEq, frzLoc, rowCells, vAppM, beq_iff_eq, bne_iff_ne, bne_self_eq_false, beq_self_eq_true, beq_true, beq_false, I, B, w, vf36_res, vf36_keep]))))
theorem c40 (n : Int) : CV VP 40 [.d (I n)] [] = some ⟨.agg [.d (I 10), .d (I n), .d (.sl [])], [], [], 0⟩ := by
  refine CV_run (vf := vf40) rfl rfl ?_
  rw [vf40_start]
  (repeat (first
    | refine RX_seq ?_
    | refine RX_block ?_
    | ((first | refine RX_reg ?_ | refine RX_cond' ?_ | refine RX_draw0 ?_ | refine RX_draw rfl ?_ | refine RX_skip ?_ | refine RX_gfrz ?_ | refine RX_exit ?_ | refine RX_ret ?_); try (simp only [go_sem, Nat.max_zero, List.isEmpty_cons, Int.reduceToNat, Nat.reducePow, Int.reduceEq, Int.reduceNe, Int.reduceLT, Int.reduceLE, Nat.reduceAdd, Nat.reduceLeDiff, ↓reduceIte, Nat.reduceLT, Nat.reduceMul, Nat.reduceSub, reduceCtorEq, frzLoc, rowCells, vAppM, beq_iff_eq, bne_iff_ne, bne_self_eq_false, beq_self_eq_true, beq_true, beq_false, I, B, w, vf40_res, vf40_keep]))))
theorem c34 (n : Int) (h : n = 7 ∨ n = 8 ∨ n = 9) : CV VP 34 [.d (I 2), .d (I n)] [] = some ⟨.agg [.d (I 2), .d (I (2097152 + n)), .d (.sl [])], [], [], 0⟩ := by
  rcases h with rfl | rfl | rfl <;> exact CV_C 400 (by kernel_rfl)
theorem next37 {q : List Int} (hB : Bytes q) (k : Nat) {n : Int} (h1 : 0 < n) (h2 : n ≤ 256) : CV VPC 37 [.ptr 0 0, .d (I n)] [cdK q k] = some ⟨.d (I (nxV q k n)), [cdK q (nxA q k)], [], 0⟩ := upVC (e29 (bl := [[]]) (id := 0) (own := []) hB CtxOk.base h1 h2 rfl rfl)
theorem e8 {l : List Int} (hB : ByteL l) : CV VPC 8 [.d (byteD l)] [] = some ⟨.d (B true), [], [], 0⟩ := by
  have h27 := e27
  have h11 : CV VPC 11 [.d (byteD l), .d (I 150)] [] = some ⟨.ptr 0 0, [[.sl 1 ((l.take 150).map byteRow) (.own 0 0), .d (I 0)]], [0], 1⟩ := upVC (e21 150 (by decide))
  have hB2 := bytes_take hB 150 (by decide)
  generalize l.take 150 = q at *
  have h28 : CV VPC 28 [.ptr 0 0, .d (I 4), .d (I 3)] [[.d (.sl (q.map byteRow)), .d (I 0)]] = some ⟨.d (.sl ((drS q 4 2 0).1.map Tm.row)), [cdK q (drS q 4 2 0).2], [], 0⟩ := upVC (e22b hB2 4 (by decide) (by decide) 2 (by decide) 0 0 [[]] CtxOk.base)
  obtain ⟨f1, f2, f3⟩ := drS_facts hB2 (most := 4) (by decide) (by decide) (d := 2) (by decide) 0
  have f5 : ∀ t ∈ (drS q 4 2 0).1, (subs t).length ≤ cB 2 ∧ dep t ≤ 2 + 1 := drL_mem (P := fun t => (subs t).length ≤ cB 2 ∧ dep t ≤ 2 + 1) (fun k => ⟨drT_cnt hB2 2 k, drT_dep 2 k⟩) _ _
  generalize (drS q 4 2 0).1 = KS at *
  generalize (drS q 4 2 0).2 = k1 at *
  have h37a := next37 hB2 k1 (n := 9) (by decide) (by decide)
  generalize nxV q k1 9 = n9 at *
  have h37b := next37 hB2 (nxA q k1) (n := 3) (by decide) (by decide)
  have hn3 := (nxV_range hB2 (k := nxA q k1) (n := 3) (by decide)).1
  generalize nxV q (nxA q k1) 3 = n3 at *
  generalize nxA q (nxA q k1) = k3 at *
  have h36 := upVC (c36 n9)
  have h40 := upVC (c40 n3)
  have h34a := upVC (c34 7 (.inl rfl))
  have h34b := upVC (c34 8 (.inr (.inl rfl)))
  have h34c := upVC (c34 9 (.inr (.inr rfl)))
  have h38 := upVC (c38 2 2097160 (.sl []))
  have h39 := upVC (c39 2 2 2097161 (.sl []))
  simp only [Int.reduceAdd] at h34a h34b h34c
  obtain ⟨L, hL⟩ : ∃ L, KS.map Tm.row = L := ⟨_, rfl⟩
  rw [hL] at h28
  have hll : L.length ≤ 4 := by rw [← hL, List.length_map]; omega
  have hrl : ∀ r ∈ L, r.length = 3 := by
    rw [← hL]; intro r hr
    obtain ⟨t, _, rfl⟩ := List.mem_map.1 hr
    exact row_len t
  obtain ⟨GD, hGD⟩ : ∃ GD : Nat → Tm → Prop, GD = fun i t => t.small ∧ (subs t).length + 1 ≤ 14 * 2 ^ i ∧ dep t ≤ 4 + i ∧ AllS t ∧ CanM (Kn KS) t := ⟨_, rfl⟩
  have hup : ∀ i t, GD i t → GD (i + 1) t := by
    intro i t h
    rw [hGD] at h ⊢
    obtain ⟨a1, a2, a3, a4, a5⟩ := h
    exact ⟨a1, by rw [Nat.pow_succ]; omega, by omega, a4, a5⟩
  have hst : ∀ i a b (n : Int), 0 ≤ n → GD i a → GD i b → ∀ t ∈ [Tm.mk 3 0 [a, b], .mk 6 n [a, b], .mk 7 0 [a, b], .mk 8 2 [a], .mk 4 0 [a]], GD (i + 1) t := by
    intro i a b n hn ha hb t ht
    rw [hGD] at ha hb ⊢
    obtain ⟨a1, a2, a3, a4, a5⟩ := ha
    obtain ⟨b1, b2, b3, b4, b5⟩ := hb
    have hm := makes_step a5 b5 n t ht
    have hpw : 14 * 2 ^ (i + 1) = 2 * (14 * 2 ^ i) := by rw [Nat.pow_succ]; omega
    rw [hpw]
    generalize 14 * 2 ^ i = P at *
    have hab : ∀ t ∈ [a, b], AllS t := fun t ht => by
      simp only [List.mem_cons, List.not_mem_nil, or_false] at ht
      rcases ht with rfl | rfl
      · exact a4
      · exact b4
    have ha1 : ∀ t ∈ [a], AllS t := fun t ht => by rw [List.mem_singleton] at ht; rw [ht]; exact a4
    have hsz2 : ∀ o v, (subs (.mk o v [a, b])).length + 1 ≤ 2 * P := fun o v => by simp only [subs, subsL, List.length_cons, List.length_append, List.length_nil]; omega
    have hsz1 : ∀ o v, (subs (.mk o v [a])).length + 1 ≤ 2 * P := fun o v => by
      have := List.length_pos_of_mem (subs_self a)
      simp only [subs, subsL, List.length_cons, List.length_append, List.length_nil]; omega
    have hd2 : ∀ o v, dep (.mk o v [a, b]) ≤ 4 + (i + 1) := fun o v => by simp only [dep, depL]; omega
    have hd1 : ∀ o v, dep (.mk o v [a]) ≤ 4 + (i + 1) := fun o v => by simp only [dep, depL]; omega
    simp only [List.mem_cons, List.not_mem_nil, or_false] at ht
    rcases ht with rfl | rfl | rfl | rfl | rfl
    · exact ⟨⟨by simp, a1, b1, trivial⟩, hsz2 _ _, hd2 _ _, AllS_mk (by simp [sndF]) hab, hm⟩
    · exact ⟨⟨by simp, a1, b1, trivial⟩, hsz2 _ _, hd2 _ _, AllS_mk (by simp [sndF]; omega) hab, hm⟩
    · exact ⟨⟨by simp, a1, b1, trivial⟩, hsz2 _ _, hd2 _ _, AllS_mk (by simp [sndF]) hab, hm⟩
    · exact ⟨⟨by simp, a1, trivial⟩, hsz1 _ _, hd1 _ _, AllS_mk (by simp [sndF]) ha1, hm⟩
    · exact ⟨⟨by simp, a1, trivial⟩, hsz1 _ _, hd1 _ _, AllS_mk (by simp [sndF]) ha1, hm⟩
  refine CV_run (vf := vf8) rfl rfl ?_
  rw [vf8_start]
  have hr2 : (L.all fun r => r.length == 3) = true := List.all_eq_true.2 fun r hr => by rw [hrl r hr]; rfl
  have hr3 : 5 + L.length ≤ 4294967296 := by omega
  (repeat (first
    | refine RX_seq ?_
    | refine RX_block ?_
    | ((first | refine RX_reg ?_ | refine RX_cond' ?_ | refine RX_draw0 ?_ | refine RX_draw rfl ?_ | refine RX_skip ?_ | refine RX_gfrz ?_ | refine RX_exit ?_ | refine RX_ret ?_); try (simp only [go_sem, Nat.max_zero, List.isEmpty_cons, Int.reduceToNat, Nat.reducePow, Int.reduceEq, Int.reduceNe, Int.reduceLT, Int.reduceLE, Nat.reduceAdd, Nat.reduceLeDiff, ↓reduceIte, Nat.reduceLT, Nat.reduceMul, Nat.reduceSub, reduceCtorEq, frzLoc, rowCells, vAppM, beq_iff_eq, bne_iff_ne, bne_self_eq_false, beq_self_eq_true, beq_true, beq_false, I, B, w, vf8_res, vf8_keep, h27, h11, h28, h37a, h37b, h36, h40, h34a, h34b, h34c, h38, h39, hr2, hr3]))))
  have hg0 : ∀ t ∈ [nameT 2 7, .mk 1 n9 [], pubT (nameT 2 8), .mk 8 2 [nameT 2 9], .mk 10 n3 []] ++ KS, GD 0 t := by
    intro t ht
    have hm := makes_start (known := KS) (n9 := n9) (n3 := n3) t ht
    rw [hGD]
    rcases List.mem_append.1 ht with ht | ht
    · simp only [List.mem_cons, List.not_mem_nil, or_false] at ht
      rcases ht with rfl | rfl | rfl | rfl | rfl
      · exact ⟨nm_sm _, by decide, by decide, nm_snd (by decide), hm⟩
      · exact ⟨⟨by simp, trivial⟩, by simp [subs, subsL], by simp [dep, depL], AllS_mk (by simp [sndF]) (fun t ht => by cases ht), hm⟩
      · exact ⟨⟨by simp, nm_sm _, trivial⟩, by decide, by decide, AllS_mk (by decide) (fun t ht => by rw [List.mem_singleton] at ht; rw [ht]; exact nm_snd (by decide)), hm⟩
      · exact ⟨⟨by simp, nm_sm _, trivial⟩, by decide, by decide, AllS_mk (by decide) (fun t ht => by rw [List.mem_singleton] at ht; rw [ht]; exact nm_snd (by decide)), hm⟩
      · exact ⟨⟨by simp, trivial⟩, by simp [subs, subsL], by simp [dep, depL], AllS_mk (by simp [sndF]; omega) (fun t ht => by cases ht), hm⟩
    · have hc := f5 t ht
      exact ⟨sm_of f1 ht, by have : cB 2 = 13 := by decide
                             omega, by have := hc.2; omega, (f3 t ht).2.2, hm⟩
  generalize hLL : [nameT 2 7, Tm.mk 1 n9 [], pubT (nameT 2 8), .mk 8 2 [nameT 2 9], .mk 10 n3 []] ++ KS = LL0 at hg0
  have hrows : ([I 2, I 2097159, .sl []] : List D) :: [I 1, I n9, .sl []] :: [I 4, I 0, .sl [[I 2, I 2097160, .sl []]]] :: [I 8, I 2, .sl [[I 2, I 2097161, .sl []]]] :: [I 10, I n3, .sl []] :: L = LL0.map Tm.row := by
    rw [← hLL, List.map_append, hL]; rfl
  have hl0 : LL0.length ≤ 9 ∧ 1 ≤ LL0.length := by
    rw [← hLL, List.length_append]
    have : KS.length ≤ 4 := by omega
    simp; omega
  have h30 : ∀ t, GD 4 t → CV VPC 30 [.d (.sl L), t.ag] [] = some ⟨.d (B true), [], [], 0⟩ := by
    intro t ht
    rw [hGD] at ht
    obtain ⟨a1, a2, a3, a4, a5⟩ := ht
    have := can30T f1 a1 (by omega) f3 ⟨by omega, by omega, a4⟩ a5
    rw [hL] at this
    exact this
  rw [hrows]
  refine RX_loopN (n := 1) rfl ?_
  refine RL_ind (fun m st => ∃ (i k g gn : Nat) (LL : List Tm), i + m = 4 ∧ 1 ≤ g ∧ 1 ≤ gn ∧ (∀ t ∈ LL, GD i t) ∧ LL.length ≤ 9 + i ∧ 1 ≤ LL.length ∧ At vf8K0 1 st ((.any :: .any :: .any :: .ptr 0 0 :: .d (.sl L) :: .sl 3 (LL.map Tm.row) (.own 0 g) :: .d (I (i : Nat)) :: .any :: .any :: .any :: .any :: .any :: .any :: .any :: .any :: .any :: .any :: .any :: .any :: .any :: .any :: .any :: .any :: .any :: .any :: .any :: .any :: .any :: .any :: .any :: .any :: .any :: .any :: .any :: .any :: .any :: .any :: .any :: .any :: .any :: .any :: .any :: .any :: .any :: .any :: .any :: .any :: .any :: .any :: .any :: .any :: .any :: .any :: .any :: .any :: .any :: .any :: .any :: .any :: .any :: .any :: .any :: .any :: .any :: .any :: .any :: .any :: .any :: .any :: .any :: .any :: .any :: .any :: .any :: .any :: .any :: .any :: .any :: [])) [cdK q k] [g, 0] gn 0) ?_ 4 _ ⟨0, k3, 1, 2, LL0, rfl, by decide, by decide, hg0, by omega, hl0.2, ⟨rfl, rfl, rfl, rfl, rfl, rfl⟩⟩
  rintro m st ⟨i, k, g, gn, LL, hi, hg1, hgn1, hg, hl9, hl1, hat⟩ ih
  refine RL_at hat rfl rfl (vf8L0_go ?_)
  clear hat
  cases m with
  | zero =>
    have h1 : ¬ ((i : Int) < 4) := by omega
    (repeat (first
    | refine RX_seq ?_
    | refine RX_block ?_
    | ((first | refine RX_reg ?_ | refine RX_cond' ?_ | refine RX_draw0 ?_ | refine RX_draw rfl ?_ | refine RX_skip ?_ | refine RX_gfrz ?_ | refine RX_exit ?_ | refine RX_ret ?_); try (simp only [go_sem, Nat.max_zero, List.isEmpty_cons, Int.reduceToNat, Nat.reducePow, Int.reduceEq, Int.reduceNe, Int.reduceLT, Int.reduceLE, Nat.reduceAdd, Nat.reduceLeDiff, ↓reduceIte, Nat.reduceLT, Nat.reduceMul, Nat.reduceSub, reduceCtorEq, frzLoc, rowCells, vAppM, beq_iff_eq, bne_iff_ne, bne_self_eq_false, beq_self_eq_true, beq_true, beq_false, I, B, w, vf8_res, vf8_keep, h1]))))
  | succ m =>
    have h1 : (i : Int) < 4 := by omega
    have hn1 : (0 : Int) < (LL.length : Int) := by omega
    have hn2 : (LL.length : Int) ≤ 256 := by omega
    have ra := nxV_range hB2 (k := k) hn1
    have ha37 := next37 hB2 k hn1 hn2
    obtain ⟨ja, hja⟩ : ∃ ja : Nat, nxV q k (LL.length : Int) = (ja : Int) := ⟨_, (Int.toNat_of_nonneg ra.1).symm⟩
    rw [hja] at ra ha37
    generalize nxA q k = ka at *
    have rb := nxV_range hB2 (k := ka) hn1
    have hb37 := next37 hB2 ka hn1 hn2
    obtain ⟨jb, hjb⟩ : ∃ jb : Nat, nxV q ka (LL.length : Int) = (jb : Int) := ⟨_, (Int.toNat_of_nonneg rb.1).symm⟩
    rw [hjb] at rb hb37
    generalize nxA q ka = kb at *
    obtain ⟨ta, hta⟩ : ∃ t, LL[ja]? = some t := ⟨_, List.getElem?_eq_getElem (by omega)⟩
    obtain ⟨tb, htb⟩ : ∃ t, LL[jb]? = some t := ⟨_, List.getElem?_eq_getElem (by omega)⟩
    have gta := hg ta (List.mem_of_getElem? hta)
    have gtb := hg tb (List.mem_of_getElem? htb)
    have rc := nxV_range hB2 (k := kb) (n := 9) (by decide)
    have hc37 := next37 hB2 kb (n := 9) (by decide) (by decide)
    generalize nxV q kb 9 = nd at *
    generalize nxA q kb = kc at *
    have rd := nxV_range hB2 (k := kc) (n := 5) (by decide)
    have hd37 := next37 hB2 kc (n := 5) (by decide) (by decide)
    generalize nxV q kc 5 = nk at *
    generalize nxA q kc = kd at *
    have hnew := hst i ta tb nd rc.1 gta gtb
    have hra : (LL.map Tm.row)[ja]? = some ta.row := by rw [List.getElem?_map, hta]; rfl
    have hrb : (LL.map Tm.row)[jb]? = some tb.row := by rw [List.getElem?_map, htb]; rfl
    obtain ⟨oa, va, usa⟩ := ta
    obtain ⟨ob, vb, usb⟩ := tb
    have e35 := upVC (c35 oa va ob vb (.sl (usa.map Tm.row)) (.sl (usb.map Tm.row)))
    have e41 := upVC (c41 nd oa va ob vb (.sl (usa.map Tm.row)) (.sl (usb.map Tm.row)))
    have e33 := upVC (c33 oa va ob vb (.sl (usa.map Tm.row)) (.sl (usb.map Tm.row)))
    have e39 := upVC (c39 2 oa va (.sl (usa.map Tm.row)))
    have e38' := upVC (c38 oa va (.sl (usa.map Tm.row)))
    have hlr : (LL.map Tm.row).length = LL.length := List.length_map _
    have hup4 : ∀ t, GD (i + 1) t → GD 4 t := by
      intro t ht
      have h4 : ∀ d, GD (i + 1 + d) t := fun d => by
        induction d with
        | zero => exact ht
        | succ d ih => exact hup _ _ ih
      have := h4 (3 - i)
      rwa [show i + 1 + (3 - i) = 4 by omega] at this
    have h30n : ∀ t ∈ [Tm.mk 3 0 [.mk oa va usa, .mk ob vb usb], .mk 6 nd [.mk oa va usa, .mk ob vb usb], .mk 7 0 [.mk oa va usa, .mk ob vb usb], .mk 8 2 [.mk oa va usa], .mk 4 0 [.mk oa va usa]], CV VPC 30 [.d (.sl L), t.ag] [] = some ⟨.d (B true), [], [], 0⟩ := fun t ht => h30 t (hup4 t (hnew t ht))
    have hnx : ∀ t ∈ [Tm.mk 3 0 [.mk oa va usa, .mk ob vb usb], .mk 6 nd [.mk oa va usa, .mk ob vb usb], .mk 7 0 [.mk oa va usa, .mk ob vb usb], .mk 8 2 [.mk oa va usa], .mk 4 0 [.mk oa va usa]], ∀ u ∈ LL ++ [t], GD (i + 1) u := fun t ht u hu => by
      rcases List.mem_append.1 hu with hu | hu
      · exact hup _ _ (hg u hu)
      · rw [List.mem_singleton] at hu; rw [hu]; exact hnew t ht
    have hwi := w_nat (i := i) (by omega)
    have hg0' : ¬ 0 = g := by omega
    have hla : LL.length + 1 ≤ 4294967296 := by omega
    have hja2 : ja < LL.length := by omega
    have hjb2 : jb < LL.length := by omega
    simp only [Tm.row_eq, Tm.op_mk, Tm.val_mk, Tm.args_mk] at hra hrb
    have hnk : nk = 0 ∨ nk = 1 ∨ nk = 2 ∨ nk = 3 ∨ nk = 4 := by omega
    rcases hnk with rfl | rfl | rfl | rfl | rfl
    · have k3 := h30n (Tm.mk 3 0 [.mk oa va usa, .mk ob vb usb]) (List.mem_cons_self)
      have n3 := hnx (Tm.mk 3 0 [.mk oa va usa, .mk ob vb usb]) (List.mem_cons_self)
      have hmp : (LL ++ [Tm.mk 3 0 [.mk oa va usa, .mk ob vb usb]]).map Tm.row = LL.map Tm.row ++ [(Tm.mk 3 0 [.mk oa va usa, .mk ob vb usb]).row] := by rw [List.map_append]; rfl
      simp only [Tm.row_eq, Tm.op_mk, Tm.val_mk, Tm.args_mk, Tm.ag, List.map_cons, List.map_nil] at k3 hmp
      (repeat (first
    | refine RX_seq ?_
    | refine RX_block ?_
    | ((first | refine RX_reg ?_ | refine RX_cond' ?_ | refine RX_draw0 ?_ | refine RX_draw rfl ?_ | refine RX_skip ?_ | refine RX_gfrz ?_ | refine RX_exit ?_ | refine RX_ret ?_); try (simp only [go_sem, Nat.max_zero, List.isEmpty_cons, Int.reduceToNat, Nat.reducePow, Int.reduceEq, Int.reduceNe, Int.reduceLT, Int.reduceLE, Nat.reduceAdd, Nat.reduceLeDiff, ↓reduceIte, Nat.reduceLT, Nat.reduceMul, Nat.reduceSub, reduceCtorEq, frzLoc, rowCells, vAppM, beq_iff_eq, bne_iff_ne, bne_self_eq_false, beq_self_eq_true, beq_true, beq_false, I, B, w, vf8_res, vf8_keep, h1, ha37, hb37, hc37, hd37, hra, hrb, e35, e41, e33, e39, e38', k3, hlr, hwi, hla, hja2, hjb2, hg0', List.length_map]))))
      refine ih m _ (Nat.lt_succ_self m) ⟨i + 1, kd, gn, gn + 1, LL ++ [Tm.mk 3 0 [.mk oa va usa, .mk ob vb usb]], by omega, hgn1, by omega, n3, by rw [List.length_append]; simp; omega, by rw [List.length_append]; simp, ?_⟩
      rw [hmp]
      exact ⟨rfl, rfl, rfl, rfl, rfl, rfl⟩
    · have k3 := h30n (Tm.mk 6 nd [.mk oa va usa, .mk ob vb usb]) (List.mem_cons_of_mem _ List.mem_cons_self)
      have n3 := hnx (Tm.mk 6 nd [.mk oa va usa, .mk ob vb usb]) (List.mem_cons_of_mem _ List.mem_cons_self)
      have hmp : (LL ++ [Tm.mk 6 nd [.mk oa va usa, .mk ob vb usb]]).map Tm.row = LL.map Tm.row ++ [(Tm.mk 6 nd [.mk oa va usa, .mk ob vb usb]).row] := by rw [List.map_append]; rfl
      simp only [Tm.row_eq, Tm.op_mk, Tm.val_mk, Tm.args_mk, Tm.ag, List.map_cons, List.map_nil] at k3 hmp
      (repeat (first
    | refine RX_seq ?_
    | refine RX_block ?_
    | ((first | refine RX_reg ?_ | refine RX_cond' ?_ | refine RX_draw0 ?_ | refine RX_draw rfl ?_ | refine RX_skip ?_ | refine RX_gfrz ?_ | refine RX_exit ?_ | refine RX_ret ?_); try (simp only [go_sem, Nat.max_zero, List.isEmpty_cons, Int.reduceToNat, Nat.reducePow, Int.reduceEq, Int.reduceNe, Int.reduceLT, Int.reduceLE, Nat.reduceAdd, Nat.reduceLeDiff, ↓reduceIte, Nat.reduceLT, Nat.reduceMul, Nat.reduceSub, reduceCtorEq, frzLoc, rowCells, vAppM, beq_iff_eq, bne_iff_ne, bne_self_eq_false, beq_self_eq_true, beq_true, beq_false, I, B, w, vf8_res, vf8_keep, h1, ha37, hb37, hc37, hd37, hra, hrb, e35, e41, e33, e39, e38', k3, hlr, hwi, hla, hja2, hjb2, hg0', List.length_map]))))
      refine ih m _ (Nat.lt_succ_self m) ⟨i + 1, kd, gn, gn + 1, LL ++ [Tm.mk 6 nd [.mk oa va usa, .mk ob vb usb]], by omega, hgn1, by omega, n3, by rw [List.length_append]; simp; omega, by rw [List.length_append]; simp, ?_⟩
      rw [hmp]
      exact ⟨rfl, rfl, rfl, rfl, rfl, rfl⟩
    · have k3 := h30n (Tm.mk 7 0 [.mk oa va usa, .mk ob vb usb]) (List.mem_cons_of_mem _ (List.mem_cons_of_mem _ List.mem_cons_self))
      have n3 := hnx (Tm.mk 7 0 [.mk oa va usa, .mk ob vb usb]) (List.mem_cons_of_mem _ (List.mem_cons_of_mem _ List.mem_cons_self))
      have hmp : (LL ++ [Tm.mk 7 0 [.mk oa va usa, .mk ob vb usb]]).map Tm.row = LL.map Tm.row ++ [(Tm.mk 7 0 [.mk oa va usa, .mk ob vb usb]).row] := by rw [List.map_append]; rfl
      simp only [Tm.row_eq, Tm.op_mk, Tm.val_mk, Tm.args_mk, Tm.ag, List.map_cons, List.map_nil] at k3 hmp
      (repeat (first
    | refine RX_seq ?_
    | refine RX_block ?_
    | ((first | refine RX_reg ?_ | refine RX_cond' ?_ | refine RX_draw0 ?_ | refine RX_draw rfl ?_ | refine RX_skip ?_ | refine RX_gfrz ?_ | refine RX_exit ?_ | refine RX_ret ?_); try (simp only [go_sem, Nat.max_zero, List.isEmpty_cons, Int.reduceToNat, Nat.reducePow, Int.reduceEq, Int.reduceNe, Int.reduceLT, Int.reduceLE, Nat.reduceAdd, Nat.reduceLeDiff, ↓reduceIte, Nat.reduceLT, Nat.reduceMul, Nat.reduceSub, reduceCtorEq, frzLoc, rowCells, vAppM, beq_iff_eq, bne_iff_ne, bne_self_eq_false, beq_self_eq_true, beq_true, beq_false, I, B, w, vf8_res, vf8_keep, h1, ha37, hb37, hc37, hd37, hra, hrb, e35, e41, e33, e39, e38', k3, hlr, hwi, hla, hja2, hjb2, hg0', List.length_map]))))
      refine ih m _ (Nat.lt_succ_self m) ⟨i + 1, kd, gn, gn + 1, LL ++ [Tm.mk 7 0 [.mk oa va usa, .mk ob vb usb]], by omega, hgn1, by omega, n3, by rw [List.length_append]; simp; omega, by rw [List.length_append]; simp, ?_⟩
      rw [hmp]
      exact ⟨rfl, rfl, rfl, rfl, rfl, rfl⟩
    · have k3 := h30n (Tm.mk 8 2 [.mk oa va usa]) (List.mem_cons_of_mem _ (List.mem_cons_of_mem _ (List.mem_cons_of_mem _ List.mem_cons_self)))
      have n3 := hnx (Tm.mk 8 2 [.mk oa va usa]) (List.mem_cons_of_mem _ (List.mem_cons_of_mem _ (List.mem_cons_of_mem _ List.mem_cons_self)))
      have hmp : (LL ++ [Tm.mk 8 2 [.mk oa va usa]]).map Tm.row = LL.map Tm.row ++ [(Tm.mk 8 2 [.mk oa va usa]).row] := by rw [List.map_append]; rfl
      simp only [Tm.row_eq, Tm.op_mk, Tm.val_mk, Tm.args_mk, Tm.ag, List.map_cons, List.map_nil] at k3 hmp
      (repeat (first
    | refine RX_seq ?_
    | refine RX_block ?_
    | ((first | refine RX_reg ?_ | refine RX_cond' ?_ | refine RX_draw0 ?_ | refine RX_draw rfl ?_ | refine RX_skip ?_ | refine RX_gfrz ?_ | refine RX_exit ?_ | refine RX_ret ?_); try (simp only [go_sem, Nat.max_zero, List.isEmpty_cons, Int.reduceToNat, Nat.reducePow, Int.reduceEq, Int.reduceNe, Int.reduceLT, Int.reduceLE, Nat.reduceAdd, Nat.reduceLeDiff, ↓reduceIte, Nat.reduceLT, Nat.reduceMul, Nat.reduceSub, reduceCtorEq, frzLoc, rowCells, vAppM, beq_iff_eq, bne_iff_ne, bne_self_eq_false, beq_self_eq_true, beq_true, beq_false, I, B, w, vf8_res, vf8_keep, h1, ha37, hb37, hc37, hd37, hra, hrb, e35, e41, e33, e39, e38', k3, hlr, hwi, hla, hja2, hjb2, hg0', List.length_map]))))
      refine ih m _ (Nat.lt_succ_self m) ⟨i + 1, kd, gn, gn + 1, LL ++ [Tm.mk 8 2 [.mk oa va usa]], by omega, hgn1, by omega, n3, by rw [List.length_append]; simp; omega, by rw [List.length_append]; simp, ?_⟩
      rw [hmp]
      exact ⟨rfl, rfl, rfl, rfl, rfl, rfl⟩
    · have k3 := h30n (Tm.mk 4 0 [.mk oa va usa]) (List.mem_cons_of_mem _ (List.mem_cons_of_mem _ (List.mem_cons_of_mem _ (List.mem_cons_of_mem _ List.mem_cons_self))))
      have n3 := hnx (Tm.mk 4 0 [.mk oa va usa]) (List.mem_cons_of_mem _ (List.mem_cons_of_mem _ (List.mem_cons_of_mem _ (List.mem_cons_of_mem _ List.mem_cons_self))))
      have hmp : (LL ++ [Tm.mk 4 0 [.mk oa va usa]]).map Tm.row = LL.map Tm.row ++ [(Tm.mk 4 0 [.mk oa va usa]).row] := by rw [List.map_append]; rfl
      simp only [Tm.row_eq, Tm.op_mk, Tm.val_mk, Tm.args_mk, Tm.ag, List.map_cons, List.map_nil] at k3 hmp
      (repeat (first
    | refine RX_seq ?_
    | refine RX_block ?_
    | ((first | refine RX_reg ?_ | refine RX_cond' ?_ | refine RX_draw0 ?_ | refine RX_draw rfl ?_ | refine RX_skip ?_ | refine RX_gfrz ?_ | refine RX_exit ?_ | refine RX_ret ?_); try (simp only [go_sem, Nat.max_zero, List.isEmpty_cons, Int.reduceToNat, Nat.reducePow, Int.reduceEq, Int.reduceNe, Int.reduceLT, Int.reduceLE, Nat.reduceAdd, Nat.reduceLeDiff, ↓reduceIte, Nat.reduceLT, Nat.reduceMul, Nat.reduceSub, reduceCtorEq, frzLoc, rowCells, vAppM, beq_iff_eq, bne_iff_ne, bne_self_eq_false, beq_self_eq_true, beq_true, beq_false, I, B, w, vf8_res, vf8_keep, h1, ha37, hb37, hc37, hd37, hra, hrb, e35, e41, e33, e39, e38', k3, hlr, hwi, hla, hja2, hjb2, hg0', List.length_map]))))
      refine ih m _ (Nat.lt_succ_self m) ⟨i + 1, kd, gn, gn + 1, LL ++ [Tm.mk 4 0 [.mk oa va usa]], by omega, hgn1, by omega, n3, by rw [List.length_append]; simp; omega, by rw [List.length_append]; simp, ?_⟩
      rw [hmp]
      exact ⟨rfl, rfl, rfl, rfl, rfl, rfl⟩
end Go.Proofs.Ytgiciiknagelhaa
