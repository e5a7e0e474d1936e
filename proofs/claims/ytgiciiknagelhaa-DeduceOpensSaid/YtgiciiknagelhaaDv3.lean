/- What can be found and what can be composed: the plain law. Conditions: none. -/
import Derived.Test.YtgiciiknagelhaaVe
import Derived.Test.YtgiciiknagelhaaDv2
set_option linter.unusedSimpArgs false
set_option linter.unusedVariables false
namespace Go.Proofs.Ytgiciiknagelhaa
open Go.VM
mutual
theorem Tm.cmp_swap : ∀ t u : Tm, t.cmp u = - u.cmp t
  | .mk a b ts, .mk x y us => by
    have ih := Tm.cmps_swap ts us
    rw [Tm.cmp, Tm.cmp]
    by_cases h1 : a < x
    · rw [if_pos h1, if_neg (by omega), if_pos h1] <;> try decide
    · rw [if_neg h1]
      by_cases h2 : x < a
      · rw [if_pos h2, if_pos h2] <;> try decide
      · rw [if_neg h2, if_neg h2, if_neg h1]
        by_cases h3 : b < y
        · rw [if_pos h3, if_neg (by omega), if_pos h3] <;> try decide
        · rw [if_neg h3]
          by_cases h4 : y < b
          · rw [if_pos h4, if_pos h4] <;> try decide
          · rw [if_neg h4, if_neg h4, if_neg h3]
            by_cases h5 : (ts.length : Int) < us.length
            · rw [if_pos h5, if_neg (by omega), if_pos h5] <;> try decide
            · rw [if_neg h5]
              by_cases h6 : (us.length : Int) < ts.length
              · rw [if_pos h6, if_pos h6] <;> try decide
              · rw [if_neg h6, if_neg h6, if_neg h5]
                exact ih
theorem Tm.cmps_swap : ∀ ts us : List Tm, Tm.cmps ts us = - Tm.cmps us ts
  | [], [] => rfl
  | [], _ :: _ => rfl
  | _ :: _, [] => rfl
  | t :: ts, u :: us => by
    have h1 := Tm.cmp_swap t u
    have h2 := Tm.cmps_swap ts us
    rw [Tm.cmps, Tm.cmps]
    by_cases h : t.cmp u = 0
    · rw [if_pos h, if_pos (by omega)]; exact h2
    · rw [if_neg h, if_neg (by omega)]; exact h1
end
mutual
theorem Tm.cmp_vals : ∀ t u : Tm, t.cmp u = -1 ∨ t.cmp u = 0 ∨ t.cmp u = 1
  | .mk a b ts, .mk x y us => by
    have ih := Tm.cmps_vals ts us
    rw [Tm.cmp]
    (repeat' split) <;> first | exact ih | exact .inl rfl | exact .inr (.inr rfl)
theorem Tm.cmps_vals : ∀ ts us : List Tm, Tm.cmps ts us = -1 ∨ Tm.cmps ts us = 0 ∨ Tm.cmps ts us = 1
  | [], [] => .inr (.inl rfl)
  | [], _ :: _ => .inr (.inl rfl)
  | _ :: _, [] => .inr (.inl rfl)
  | t :: ts, u :: us => by
    have h1 := Tm.cmp_vals t u
    have h2 := Tm.cmps_vals ts us
    rw [Tm.cmps]
    split
    · exact h2
    · exact h1
end
mutual
theorem Tm.cmp_eq0 : ∀ t u : Tm, t.cmp u = 0 → t = u
  | .mk a b ts, .mk x y us, h => by
    have ih := Tm.cmps_eq0 ts us
    rw [Tm.cmp] at h
    by_cases h1 : a < x
    · rw [if_pos h1] at h; cases h
    · rw [if_neg h1] at h
      by_cases h2 : x < a
      · rw [if_pos h2] at h; cases h
      · rw [if_neg h2] at h
        by_cases h3 : b < y
        · rw [if_pos h3] at h; cases h
        · rw [if_neg h3] at h
          by_cases h4 : y < b
          · rw [if_pos h4] at h; cases h
          · rw [if_neg h4] at h
            by_cases h5 : (ts.length : Int) < us.length
            · rw [if_pos h5] at h; cases h
            · rw [if_neg h5] at h
              by_cases h6 : (us.length : Int) < ts.length
              · rw [if_pos h6] at h; cases h
              · rw [if_neg h6] at h
                rw [ih (by omega) h, show a = x by omega, show b = y by omega]
theorem Tm.cmps_eq0 : ∀ ts us : List Tm, ts.length = us.length → Tm.cmps ts us = 0 → ts = us
  | [], [], _, _ => rfl
  | [], _ :: _, h, _ => by simp at h
  | _ :: _, [], h, _ => by simp at h
  | t :: ts, u :: us, hl, h => by
    have h1 := Tm.cmp_eq0 t u
    have h2 := Tm.cmps_eq0 ts us (by simpa using hl)
    rw [Tm.cmps] at h
    split at h
    · rename_i h0; rw [h1 h0, h2 h]
    · rename_i h0; exact absurd h h0
end
theorem Tm.cmp_self (t : Tm) : t.cmp t = 0 := by have := Tm.cmp_swap t t; omega
mutual
theorem Tm.cmp_trans : ∀ t u v : Tm, t.cmp u < 0 → u.cmp v < 0 → t.cmp v < 0
  | .mk a b ts, .mk x y us, .mk p q vs, h1, h2 => by
    have ih := Tm.cmps_trans ts us vs
    rw [Tm.cmp] at h1 h2 ⊢
    by_cases c1 : a < p
    · rw [if_pos c1]; decide
    rw [if_neg c1]
    have c1a : a = p ∧ a = x := by
      split at h1
      · split at h2
        · omega
        · split at h2
          · cases h2
          · omega
      · split at h1
        · cases h1
        · split at h2
          · omega
          · split at h2
            · cases h2
            · omega
    obtain ⟨rfl, rfl⟩ := c1a
    rw [if_neg (by omega), if_neg (by omega)] at h1 h2
    rw [if_neg (by omega)]
    by_cases c2 : b < q
    · rw [if_pos c2]; decide
    rw [if_neg c2]
    have c2a : b = q ∧ b = y := by
      split at h1
      · split at h2
        · omega
        · split at h2
          · cases h2
          · omega
      · split at h1
        · cases h1
        · split at h2
          · omega
          · split at h2
            · cases h2
            · omega
    obtain ⟨rfl, rfl⟩ := c2a
    rw [if_neg (by omega), if_neg (by omega)] at h1 h2
    rw [if_neg (by omega)]
    by_cases c3 : (ts.length : Int) < vs.length
    · rw [if_pos c3]; decide
    rw [if_neg c3]
    have c3a : (ts.length : Int) = vs.length ∧ (ts.length : Int) = us.length := by
      split at h1
      · split at h2
        · omega
        · split at h2
          · cases h2
          · omega
      · split at h1
        · cases h1
        · split at h2
          · omega
          · split at h2
            · cases h2
            · omega
    rw [if_neg (by omega), if_neg (by omega)] at h1 h2
    rw [if_neg (by omega)]
    exact ih h1 h2
theorem Tm.cmps_trans : ∀ ts us vs : List Tm, Tm.cmps ts us < 0 → Tm.cmps us vs < 0 → Tm.cmps ts vs < 0
  | [], _, _, h1, _ => by cases h1
  | _ :: _, [], _, h1, _ => by cases h1
  | _ :: _, _ :: _, [], _, h2 => by cases h2
  | t :: ts, u :: us, v :: vs, h1, h2 => by
    have i1 := Tm.cmp_trans t u v
    have i2 := Tm.cmps_trans ts us vs
    rw [Tm.cmps] at h1 h2 ⊢
    by_cases c1 : t.cmp u = 0
    · rw [if_pos c1] at h1
      have e := Tm.cmp_eq0 t u c1
      subst e
      by_cases c2 : t.cmp v = 0
      · rw [if_pos c2] at h2 ⊢
        exact i2 h1 h2
      · rw [if_neg c2] at h2 ⊢
        exact h2
    · rw [if_neg c1] at h1
      by_cases c2 : u.cmp v = 0
      · have e := Tm.cmp_eq0 u v c2
        subst e
        rw [if_neg c1]; exact h1
      · rw [if_neg c2] at h2
        have := i1 h1 h2
        rw [if_neg (by omega)]; exact this
end
end Go.Proofs.Ytgiciiknagelhaa
set_option linter.unusedVariables false
namespace Go.Proofs.Ytgiciiknagelhaa
open Go.VM
theorem cmpS_eq (t u : Tm) : cmpS t u = t.cmp u := by
  have h1 := Tm.cmp_swap t u
  have h2 := Tm.cmp_vals t u
  unfold cmpS
  split
  · omega
  · split <;> omega
def Tm.le (a b : Tm) : Prop := a.cmp b ≤ 0
theorem Tm.le_refl (a : Tm) : a.le a := by unfold Tm.le; rw [Tm.cmp_self]; exact Int.le_refl _
theorem Tm.le_trans {a b c : Tm} (h1 : a.le b) (h2 : b.le c) : a.le c := by
  unfold Tm.le at *
  by_cases c1 : a.cmp b = 0
  · rw [Tm.cmp_eq0 _ _ c1]; exact h2
  · by_cases c2 : b.cmp c = 0
    · rw [← Tm.cmp_eq0 _ _ c2]; exact h1
    · have := Tm.cmp_trans a b c (by omega) (by omega); omega
theorem Tm.le_anti {a b : Tm} (h1 : a.le b) (h2 : b.le a) : a = b := by
  have := Tm.cmp_swap a b
  unfold Tm.le at *
  exact Tm.cmp_eq0 a b (by omega)
theorem Tm.not_lt {a b : Tm} : ¬ a.cmp b < 0 ↔ b.le a := by
  have := Tm.cmp_swap a b
  unfold Tm.le; omega
def Asc (ks : List Tm) : Prop := ks.Pairwise Tm.le
theorem Asc.get {ks : List Tm} (h : Asc ks) {i j : Nat} {a b : Tm} (hij : i ≤ j) (ha : ks[i]? = some a) (hb : ks[j]? = some b) : a.le b := by
  obtain ⟨h1, rfl⟩ := List.getElem?_eq_some_iff.1 ha
  obtain ⟨h2, rfl⟩ := List.getElem?_eq_some_iff.1 hb
  by_cases he : i = j
  · subst he; exact Tm.le_refl _
  · exact List.pairwise_iff_getElem.1 h i j h1 h2 (by omega)
theorem bsGo_ok {ks : List Tm} (hk : Asc ks) (t : Tm) : ∀ (f i j : Nat), j - i ≤ f → i ≤ j → j ≤ ks.length → (∀ k a, k < i → ks[k]? = some a → a.cmp t < 0) → (∀ k a, j ≤ k → ks[k]? = some a → t.le a) →
    bsGo ks t f i j ≤ ks.length ∧ (∀ k a, k < bsGo ks t f i j → ks[k]? = some a → a.cmp t < 0) ∧ (∀ k a, bsGo ks t f i j ≤ k → ks[k]? = some a → t.le a)
  | 0, i, j, hf, hij, hj, h1, h2 => by
    obtain rfl : i = j := by omega
    exact ⟨hj, h1, h2⟩
  | f + 1, i, j, hf, hij, hj, h1, h2 => by
    rw [bsGo]
    by_cases hlt : i < j
    · rw [if_pos hlt]
      have hm : (i + j) / 2 < ks.length := by omega
      have hd : ks.getD ((i + j) / 2) default = ks[(i + j) / 2] := by rw [List.getD_eq_getElem?_getD, List.getElem?_eq_getElem hm]; rfl
      have hg : ks[(i + j) / 2]? = some (ks[(i + j) / 2]) := List.getElem?_eq_getElem hm
      rw [hd, cmpS_eq]
      by_cases hc : (ks[(i + j) / 2]).cmp t < 0
      · rw [if_pos hc]
        refine bsGo_ok hk t f _ j (by omega) (by omega) hj (fun k a hk' ha => ?_) h2
        have hle := hk.get (show k ≤ (i + j) / 2 by omega) ha hg
        by_cases hz : a.cmp (ks[(i + j) / 2]) = 0
        · rw [Tm.cmp_eq0 _ _ hz]; exact hc
        · exact Tm.cmp_trans a _ t (by unfold Tm.le at hle; omega) hc
      · rw [if_neg hc]
        refine bsGo_ok hk t f i _ (by omega) (by omega) (by omega) h1 (fun k a hk' ha => ?_)
        exact Tm.le_trans (Tm.not_lt.1 hc) (hk.get hk' hg ha)
    · rw [if_neg hlt]
      obtain rfl : i = j := by omega
      exact ⟨hj, h1, h2⟩
theorem bsI_ok {ks : List Tm} (hk : Asc ks) (t : Tm) : bsI ks t ≤ ks.length ∧ (∀ k a, k < bsI ks t → ks[k]? = some a → a.cmp t < 0) ∧ (∀ k a, bsI ks t ≤ k → ks[k]? = some a → t.le a) :=
  bsGo_ok hk t ks.length 0 ks.length (by omega) (Nat.zero_le _) (Nat.le_refl _) (fun k a h => absurd h (Nat.not_lt_zero _)) (fun k a h ha => absurd (List.getElem?_eq_some_iff.1 ha).1 (by omega))
theorem bsF_iff {ks : List Tm} (hk : Asc ks) (t : Tm) : bsF ks t = true ↔ t ∈ ks := by
  obtain ⟨h0, h1, h2⟩ := bsI_ok hk t
  unfold bsF
  rw [Bool.and_eq_true, decide_eq_true_eq, beq_iff_eq, cmpS_eq, List.getD_eq_getElem?_getD]
  constructor
  · rintro ⟨hl, hc⟩
    rw [List.getElem?_eq_getElem hl] at hc
    have := Tm.cmp_eq0 _ _ hc
    rw [← this]
    exact List.getElem_mem hl
  · intro hm
    obtain ⟨m, hm'⟩ := List.mem_iff_getElem?.1 hm
    have hge : bsI ks t ≤ m := by
      apply Nat.le_of_not_lt
      intro hlt
      have := h1 m t hlt hm'
      rw [Tm.cmp_self] at this
      omega
    have hl : bsI ks t < ks.length := Nat.lt_of_le_of_lt hge (List.getElem?_eq_some_iff.1 hm').1
    refine ⟨hl, ?_⟩
    have hg : ks[bsI ks t]? = some (ks[bsI ks t]) := List.getElem?_eq_getElem hl
    rw [hg, Option.getD_some, Tm.le_anti (hk.get hge hg hm') (h2 _ _ (Nat.le_refl _) hg)]
    exact Tm.cmp_self t
end Go.Proofs.Ytgiciiknagelhaa
set_option linter.unusedVariables false
namespace Go.Proofs.Ytgiciiknagelhaa
open Go.VM
theorem sift_ok : ∀ (n : Nat) (P : List Tm) (x : Tm) (S : List Tm), P.length = n → ∃ R, sift (P ++ x :: S) n = R ++ S ∧ R.Perm (P ++ [x]) ∧ (Asc P → Asc R)
  | 0, P, x, S, hP => by
    obtain rfl := List.length_eq_zero_iff.1 hP
    exact ⟨[x], rfl, List.Perm.refl _, fun _ => List.pairwise_singleton _ _⟩
  | n + 1, P, x, S, hP => by
    obtain ⟨Q, y, rfl⟩ : ∃ Q y, P = Q ++ [y] := ⟨P.dropLast, P.getLast (by intro h; rw [h] at hP; cases hP), (List.dropLast_concat_getLast _).symm⟩
    have hQ : Q.length = n := by simpa using hP
    have e0 : Q ++ [y] ++ x :: S = Q ++ y :: x :: S := by simp
    have g1 : (Q ++ y :: x :: S).getD (n + 1) default = x := by
      rw [List.getD_eq_getElem?_getD, List.getElem?_append_right (by omega), show n + 1 - Q.length = 1 by omega]; rfl
    have g2 : (Q ++ y :: x :: S).getD n default = y := by
      rw [List.getD_eq_getElem?_getD, List.getElem?_append_right (by omega), show n - Q.length = 0 by omega]; rfl
    rw [e0, sift, g1, g2, cmpS_eq]
    by_cases hc : x.cmp y < 0
    · rw [if_pos hc]
      have hs : ((Q ++ y :: x :: S).set (n + 1) y).set n x = Q ++ x :: y :: S := by
        rw [List.set_append_right _ _ (by omega), show n + 1 - Q.length = 1 by omega, List.set_append_right _ _ (by omega), show n - Q.length = 0 by omega]; rfl
      rw [hs]
      obtain ⟨R, h1, h2, h3⟩ := sift_ok n Q x (y :: S) hQ
      refine ⟨R ++ [y], by rw [h1]; simp, ?_, fun ha => ?_⟩
      · refine (h2.append_right [y]).trans ?_
        simp only [List.append_assoc]
        exact List.Perm.append_left Q (List.Perm.swap y x [])
      · unfold Asc at ha ⊢
        rw [List.pairwise_append] at ha ⊢
        refine ⟨h3 ha.1, List.pairwise_singleton _ _, fun a haR b hb => ?_⟩
        rw [List.mem_singleton] at hb
        subst hb
        have hm := h2.mem_iff.1 haR
        rcases List.mem_append.1 hm with hm | hm
        · exact ha.2.2 a hm b (List.mem_singleton.2 rfl)
        · rw [List.mem_singleton] at hm
          subst hm
          unfold Tm.le; omega
    · rw [if_neg hc]
      refine ⟨Q ++ [y] ++ [x], by simp, List.Perm.refl _, fun ha => ?_⟩
      have hyx := Tm.not_lt.1 hc
      have ha' := ha
      unfold Asc at ha ⊢
      rw [List.pairwise_append] at ha ⊢
      refine ⟨ha', List.pairwise_singleton _ _, fun a haQ b hb => ?_⟩
      rw [List.mem_singleton] at hb
      subst hb
      rcases List.mem_append.1 haQ with hm | hm
      · exact Tm.le_trans (ha.2.2 a hm y (List.mem_singleton.2 rfl)) hyx
      · rw [List.mem_singleton] at hm
        subst hm
        exact hyx
theorem isort_ok : ∀ (m : Nat) (P S : List Tm), S.length = m → Asc P → Asc (isort (P ++ S) P.length m) ∧ (isort (P ++ S) P.length m).Perm (P ++ S)
  | 0, P, S, hS, hP => by
    obtain rfl := List.length_eq_zero_iff.1 hS
    rw [List.append_nil]
    exact ⟨hP, List.Perm.refl _⟩
  | m + 1, P, S, hS, hP => by
    match S, hS with
    | x :: S, hS =>
      obtain ⟨R, h1, h2, h3⟩ := sift_ok P.length P x S rfl
      rw [isort, h1]
      have hl : R.length = P.length + 1 := by rw [h2.length_eq]; simp
      have := isort_ok m R S (by simpa using hS) (h3 hP)
      rw [hl] at this
      refine ⟨this.1, this.2.trans ?_⟩
      have := h2.append_right S
      simpa using this
theorem sorted_ok (ks : List Tm) : Asc (sorted ks) ∧ (sorted ks).Perm ks := by
  match ks with
  | [] => exact ⟨List.Pairwise.nil, List.Perm.refl _⟩
  | a :: A => exact isort_ok A.length [a] A rfl (List.pairwise_singleton _ _)
theorem bsF_sorted (ks : List Tm) (t : Tm) : bsF (sorted ks) t = true ↔ t ∈ ks := by
  rw [bsF_iff (sorted_ok ks).1, (sorted_ok ks).2.mem_iff]
end Go.Proofs.Ytgiciiknagelhaa
set_option linter.unusedVariables false
namespace Go.Proofs.Ytgiciiknagelhaa
open Go.VM
mutual
def CanM (M : Tm → Prop) : Tm → Prop
  | .mk o v ts => M (.mk o v ts) ∨ o = 1 ∨ o = 10 ∨ (o = 2 ∧ w (v.tdiv 1048576) = 2) ∨ (o = 9 ∧ v = 2) ∨ ((o = 3 ∨ o = 6 ∨ o = 4) ∧ CanA M ts) ∨ (o = 7 ∧ ts.length = 2 ∧ CanA M ts) ∨
      (o = 8 ∧ ts.length = 1 ∧ (M (.mk 9 v []) ∨ v = 2) ∧ CanA M ts) ∨ (o = 5 ∧ CanP M ts)
def CanA (M : Tm → Prop) : List Tm → Prop
  | [] => True
  | t :: ts => CanM M t ∧ CanA M ts
def CanP (M : Tm → Prop) : List Tm → Prop
  | [a, b] => (CanM M a ∧ (CanM M b ∨ M (pubT b))) ∨ (CanM M b ∧ M (pubT a))
  | _ => False
end
mutual
theorem canF_iff {ks : List Tm} {M : Tm → Prop} (hM : ∀ t, bsF ks t = true ↔ M t) : ∀ t, canF ks t = true ↔ CanM M t
  | .mk o v ts => by
    have hA := canA_iff hM ts
    have hP := canP_iff hM ts
    have h0 := hM (.mk o v ts)
    have h9 := hM (.mk 9 v [])
    have hs : secF ks v = true ↔ (M (.mk 9 v []) ∨ v = 2) := by
      unfold secF; rw [Bool.or_eq_true, h9, beq_iff_eq]
    rw [canF, CanM]
    by_cases hq : bsF ks (.mk o v ts) = true
    · rw [if_pos hq]; exact ⟨fun _ => .inl (h0.1 hq), fun _ => rfl⟩
    rw [if_neg hq]
    have hn : ¬ M (.mk o v ts) := fun h => hq (h0.2 h)
    by_cases c1 : o = 1
    · rw [if_pos c1]; simp [c1]
    rw [if_neg c1]
    by_cases c10 : o = 10
    · rw [if_pos c10]; simp [c10]
    rw [if_neg c10]
    by_cases c2 : o = 2
    · rw [if_pos c2]; subst c2; simp [hn]
    rw [if_neg c2]
    by_cases c9 : o = 9
    · rw [if_pos c9]; subst c9; simp [hn]
    rw [if_neg c9]
    by_cases c3 : o = 3
    · rw [if_pos c3]; subst c3; simp [hn, hA]
    rw [if_neg c3]
    by_cases c6 : o = 6
    · rw [if_pos c6]; subst c6; simp [hn, hA]
    rw [if_neg c6]
    by_cases c4 : o = 4
    · rw [if_pos c4]; subst c4; simp [hn, hA]
    rw [if_neg c4]
    by_cases c7 : o = 7
    · rw [if_pos c7]; subst c7; rw [Bool.and_eq_true, decide_eq_true_eq, hA]; simp [hn]; omega
    rw [if_neg c7]
    by_cases c8 : o = 8
    · rw [if_pos c8]; subst c8; rw [Bool.and_eq_true, Bool.and_eq_true, decide_eq_true_eq, hA, hs, show ((ts.length : Int) = 1) ↔ ts.length = 1 by omega]; simp [hn, and_assoc]
    rw [if_neg c8]
    by_cases c5 : o = 5
    · rw [if_pos c5]; subst c5; simp [hn, hP]
    rw [if_neg c5]
    simp [hn, c1, c10, c2, c9, c3, c6, c4, c7, c8, c5]
theorem canA_iff {ks : List Tm} {M : Tm → Prop} (hM : ∀ t, bsF ks t = true ↔ M t) : ∀ ts, canA ks ts = true ↔ CanA M ts
  | [] => by simp [canA, CanA]
  | t :: ts => by rw [canA, CanA, Bool.and_eq_true, canF_iff hM t, canA_iff hM ts]
theorem canP_iff {ks : List Tm} {M : Tm → Prop} (hM : ∀ t, bsF ks t = true ↔ M t) : ∀ ts, canP ks ts = true ↔ CanP M ts
  | [] => by simp [canP, CanP]
  | [_] => by simp [canP, CanP]
  | [a, b] => by rw [canP, CanP, Bool.or_eq_true, Bool.and_eq_true, Bool.and_eq_true, Bool.or_eq_true, canF_iff hM a, canF_iff hM b, hM, hM]
  | _ :: _ :: _ :: _ => by simp [canP, CanP]
end
theorem CanM_of {M : Tm → Prop} {t : Tm} (h : M t) : CanM M t := by
  obtain ⟨o, v, ts⟩ := t
  rw [CanM]; exact .inl h
mutual
theorem CanM_mono {M N : Tm → Prop} (h : ∀ t, M t → N t) : ∀ t, CanM M t → CanM N t
  | .mk o v ts => by
    have hA := CanA_mono h ts
    have hP := CanP_mono h ts
    have h0 := h (.mk o v ts)
    have h9 := h (.mk 9 v [])
    rw [CanM, CanM]
    rintro (h | h | h | h | h | ⟨h, k⟩ | ⟨h, k1, k2⟩ | ⟨h, k1, k2, k3⟩ | ⟨h, k⟩)
    · exact .inl (h0 h)
    · exact .inr (.inl h)
    · exact .inr (.inr (.inl h))
    · exact .inr (.inr (.inr (.inl h)))
    · exact .inr (.inr (.inr (.inr (.inl h))))
    · exact .inr (.inr (.inr (.inr (.inr (.inl ⟨h, hA k⟩)))))
    · exact .inr (.inr (.inr (.inr (.inr (.inr (.inl ⟨h, k1, hA k2⟩))))))
    · exact .inr (.inr (.inr (.inr (.inr (.inr (.inr (.inl ⟨h, k1, k2.imp h9 id, hA k3⟩)))))))
    · exact .inr (.inr (.inr (.inr (.inr (.inr (.inr (.inr ⟨h, hP k⟩)))))))
theorem CanA_mono {M N : Tm → Prop} (h : ∀ t, M t → N t) : ∀ ts, CanA M ts → CanA N ts
  | [] => fun _ => trivial
  | t :: ts => fun k => by rw [CanA] at k ⊢; exact ⟨CanM_mono h t k.1, CanA_mono h ts k.2⟩
theorem CanP_mono {M N : Tm → Prop} (h : ∀ t, M t → N t) : ∀ ts, CanP M ts → CanP N ts
  | [] => fun k => by simp [CanP] at k
  | [_] => fun k => by simp [CanP] at k
  | [a, b] => fun k => by
    rw [CanP] at k ⊢
    rcases k with ⟨k1, k2⟩ | ⟨k1, k2⟩
    · exact .inl ⟨CanM_mono h a k1, k2.imp (CanM_mono h b) (h _)⟩
    · exact .inr ⟨CanM_mono h b k1, h _ k2⟩
  | _ :: _ :: _ :: _ => fun k => by simp [CanP] at k
end
end Go.Proofs.Ytgiciiknagelhaa
set_option linter.unusedVariables false
namespace Go.Proofs.Ytgiciiknagelhaa
open Go.VM
structure Closed (C : Tm → Prop) : Prop where
  parts : ∀ o v ts t, C (.mk o v ts) → (o = 3 ∨ o = 8) → t ∈ ts → C t
  opens : ∀ v k b, C (.mk 7 v [k, b]) → CanM C k → C b
def Kn (l : List Tm) (t : Tm) : Prop := ∀ C, Closed C → (∀ x ∈ l, C x) → C t
theorem Kn_base {l : List Tm} {t : Tm} (h : t ∈ l) : Kn l t := fun _ _ hl => hl t h
theorem Kn_min {l : List Tm} {C : Tm → Prop} (hC : Closed C) (hl : ∀ x ∈ l, C x) {t : Tm} (h : Kn l t) : C t := h C hC hl
theorem Kn_closed (l : List Tm) : Closed (Kn l) where
  parts o v ts t h ho ht := fun C hC hl => hC.parts o v ts t (h C hC hl) ho ht
  opens v k b h hk := fun C hC hl => hC.opens v k b (h C hC hl) (CanM_mono (fun t ht => ht C hC hl) k hk)
end Go.Proofs.Ytgiciiknagelhaa
set_option linter.unusedVariables false
namespace Go.Proofs.Ytgiciiknagelhaa
open Go.VM
structure Wst where
  k : List Tm
  f : List Tm
  s : List Tm
def insAt (k : List Tm) (i : Nat) (t : Tm) : List Tm := k.take i ++ t :: k.drop i
def addT (w : Wst) (t : Tm) : Wst := if bsF w.k t = true then w else ⟨insAt w.k (bsI w.k t) t, w.f ++ [t], w.s⟩
def addL : Wst → List Tm → Wst
  | w, [] => w
  | w, t :: l => addL (addT w t) l
def newL : Wst → List Tm → Bool
  | _, [] => false
  | w, t :: l => !(bsF w.k t) || newL (addT w t) l
theorem insAt_mem {k : List Tm} {i : Nat} {t x : Tm} : x ∈ insAt k i t ↔ x = t ∨ x ∈ k := by
  unfold insAt
  rw [List.mem_append, List.mem_cons]
  have h : x ∈ k ↔ x ∈ k.take i ∨ x ∈ k.drop i := by rw [← List.mem_append, List.take_append_drop]
  rw [h]
  constructor
  · rintro (h | h | h)
    · exact .inr (.inl h)
    · exact .inl h
    · exact .inr (.inr h)
  · rintro (h | h | h)
    · exact .inr (.inl h)
    · exact .inl h
    · exact .inr (.inr h)
theorem insAt_asc {k : List Tm} (hk : Asc k) (t : Tm) : Asc (insAt k (bsI k t) t) := by
  obtain ⟨h0, h1, h2⟩ := bsI_ok hk t
  have hs : Asc (k.take (bsI k t) ++ k.drop (bsI k t)) := by rw [List.take_append_drop]; exact hk
  unfold insAt Asc at *
  rw [List.pairwise_append] at hs ⊢
  obtain ⟨p1, p2, p3⟩ := hs
  have up : ∀ b ∈ k.drop (bsI k t), t.le b := fun b hb => by
    obtain ⟨j, hj⟩ := List.mem_iff_getElem?.1 hb
    rw [List.getElem?_drop] at hj
    exact h2 _ b (Nat.le_add_right _ _) hj
  have dn : ∀ a ∈ k.take (bsI k t), a.le t := fun a ha => by
    obtain ⟨j, hj⟩ := List.mem_iff_getElem?.1 ha
    rw [List.getElem?_take] at hj
    split at hj
    · rename_i hlt
      have := h1 j a hlt hj
      unfold Tm.le; omega
    · cases hj
  refine ⟨p1, List.pairwise_cons.2 ⟨up, p2⟩, fun a ha b hb => ?_⟩
  rcases List.mem_cons.1 hb with rfl | hb
  · exact dn a ha
  · exact p3 a ha b hb
structure WInv (l : List Tm) (E : Tm → Prop) (w : Wst) : Prop where
  asc : Asc w.k
  nd : w.k.Nodup
  kn : ∀ t ∈ w.k, Kn l t
  fk : ∀ t ∈ w.f, t ∈ w.k
  sk : ∀ t ∈ w.s, ∃ v a b, t = .mk 7 v [a, b] ∧ t ∈ w.k
  parts : ∀ o v ts, .mk o v ts ∈ w.k → .mk o v ts ∉ w.f → ¬ E (.mk o v ts) → (o = 3 ∨ o = 8) → ∀ t ∈ ts, t ∈ w.k
  opens : ∀ v a b, .mk 7 v [a, b] ∈ w.k → .mk 7 v [a, b] ∉ w.f → ¬ E (.mk 7 v [a, b]) → .mk 7 v [a, b] ∈ w.s ∨ b ∈ w.k
theorem addT_mem {w : Wst} (h : Asc w.k) {t x : Tm} : x ∈ (addT w t).k ↔ x = t ∨ x ∈ w.k := by
  unfold addT
  split
  · rename_i hb
    rw [bsF_iff h] at hb
    exact ⟨.inr, fun q => q.elim (fun e => e ▸ hb) id⟩
  · exact insAt_mem
theorem addT_s {w : Wst} {t : Tm} : (addT w t).s = w.s := by unfold addT; split <;> rfl
theorem addT_inv {l : List Tm} {E : Tm → Prop} {w : Wst} (h : WInv l E w) {t : Tm} (ht : Kn l t) : WInv l E (addT w t) := by
  have hm := fun x => addT_mem (w := w) h.asc (t := t) (x := x)
  by_cases hb : bsF w.k t = true
  · have : addT w t = w := by unfold addT; rw [if_pos hb]
    rw [this]; exact h
  · have hn : t ∉ w.k := fun q => hb ((bsF_iff h.asc t).2 q)
    have e : addT w t = ⟨insAt w.k (bsI w.k t) t, w.f ++ [t], w.s⟩ := by unfold addT; rw [if_neg hb]
    rw [e] at hm ⊢
    have hm' : ∀ x, x ∈ insAt w.k (bsI w.k t) t ↔ x = t ∨ x ∈ w.k := hm
    have old : ∀ {x}, x ∈ insAt w.k (bsI w.k t) t → x ∉ w.f ++ [t] → x ∈ w.k ∧ x ∉ w.f := fun {x} h1 h2 => by
      rw [List.mem_append, List.mem_singleton] at h2
      refine ⟨((hm' x).1 h1).resolve_left fun q => h2 (.inr q), fun q => h2 (.inl q)⟩
    refine ⟨insAt_asc h.asc t, ?_, fun x hx => ?_, fun x hx => ?_, fun x hx => ?_, fun o v ts h1 h2 hE ho x hx => ?_, fun v a b h1 h2 hE => ?_⟩
    · have hp : (insAt w.k (bsI w.k t) t).Perm (t :: w.k) := by
        unfold insAt
        refine List.perm_middle.trans ?_
        rw [List.take_append_drop]
      exact hp.nodup_iff.2 (List.nodup_cons.2 ⟨hn, h.nd⟩)
    · rcases (hm' x).1 hx with rfl | hx
      · exact ht
      · exact h.kn x hx
    · refine (hm' x).2 ?_
      rcases List.mem_append.1 hx with hx | hx
      · exact .inr (h.fk x hx)
      · exact .inl (List.mem_singleton.1 hx)
    · obtain ⟨v, a, b, q1, q2⟩ := h.sk x hx
      exact ⟨v, a, b, q1, (hm' x).2 (.inr q2)⟩
    · obtain ⟨q1, q2⟩ := old h1 h2
      exact (hm' x).2 (.inr (h.parts o v ts q1 q2 hE ho x hx))
    · obtain ⟨q1, q2⟩ := old h1 h2
      exact (h.opens v a b q1 q2 hE).imp id fun q => (hm' b).2 (.inr q)
theorem addL_inv {l : List Tm} {E : Tm → Prop} : ∀ (ts : List Tm) {w : Wst}, WInv l E w → (∀ t ∈ ts, Kn l t) → WInv l E (addL w ts)
  | [], w, h, _ => h
  | t :: ts, w, h, hk => addL_inv ts (addT_inv h (hk t List.mem_cons_self)) fun x hx => hk x (List.mem_cons_of_mem _ hx)
theorem addL_mem {l : List Tm} {E : Tm → Prop} : ∀ (ts : List Tm) {w : Wst}, WInv l E w → (∀ t ∈ ts, Kn l t) → ∀ x, x ∈ (addL w ts).k ↔ x ∈ ts ∨ x ∈ w.k
  | [], w, h, _, x => by simp [addL]
  | t :: ts, w, h, hk, x => by
    rw [addL, addL_mem ts (addT_inv h (hk t List.mem_cons_self)) (fun y hy => hk y (List.mem_cons_of_mem _ hy)), addT_mem h.asc, List.mem_cons]
    constructor
    · rintro (q | q | q)
      · exact .inl (.inr q)
      · exact .inl (.inl q)
      · exact .inr q
    · rintro ((q | q) | q)
      · exact .inr (.inl q)
      · exact .inl q
      · exact .inr (.inr q)
theorem addL_s : ∀ (ts : List Tm) (w : Wst), (addL w ts).s = w.s
  | [], w => rfl
  | t :: ts, w => by rw [addL, addL_s, addT_s]
def stepF (w : Wst) : Wst := match w.f with
  | [] => w
  | .mk o v ts :: f => if o = 3 ∨ o = 8 then addL ⟨w.k, f, w.s⟩ ts else if o = 7 ∧ ts.length = 2 then ⟨w.k, f, w.s ++ [.mk o v ts]⟩ else ⟨w.k, f, w.s⟩
theorem stepF_inv {l : List Tm} {w : Wst} (h : WInv l (fun _ => False) w) : WInv l (fun _ => False) (stepF w) ∧ ∀ x ∈ w.k, x ∈ (stepF w).k := by
  unfold stepF
  split
  · exact ⟨h, fun _ hx => hx⟩
  · rename_i o v ts f hf
    have hk : (Tm.mk o v ts) ∈ w.k := h.fk _ (by rw [hf]; exact List.mem_cons_self)
    have h1 : WInv l (fun x => x = .mk o v ts) ⟨w.k, f, w.s⟩ := ⟨h.asc, h.nd, h.kn, fun x hx => h.fk x (by rw [hf]; exact List.mem_cons_of_mem _ hx), h.sk, fun o' v' ts' q1 q2 q3 ho => h.parts o' v' ts' q1 (by rw [hf, List.mem_cons]; exact fun q => q.elim q3 q2) (fun q => q) ho,
      fun v' a b q1 q2 q3 => h.opens v' a b q1 (by rw [hf, List.mem_cons]; exact fun q => q.elim q3 q2) (fun q => q)⟩
    split
    · rename_i ho
      have hkn : ∀ t ∈ ts, Kn l t := fun t ht => (Kn_closed l).parts o v ts t (h.kn _ hk) ho ht
      have h2 := addL_inv ts h1 hkn
      have hm := addL_mem ts h1 hkn
      refine ⟨⟨h2.asc, h2.nd, h2.kn, h2.fk, h2.sk, fun o' v' ts' q1 q2 _ ho' x hx => ?_, fun v' a b q1 q2 _ => ?_⟩, fun x hx => (hm x).2 (.inr hx)⟩
      · by_cases he : Tm.mk o' v' ts' = .mk o v ts
        · simp only [Tm.mk.injEq] at he
          obtain ⟨rfl, rfl, rfl⟩ := he
          exact (hm x).2 (.inl hx)
        · exact h2.parts o' v' ts' q1 q2 he ho' x hx
      · refine h2.opens v' a b q1 q2 fun he => ?_
        simp only [Tm.mk.injEq] at he
        omega
    · rename_i hno
      split
      · rename_i h7
        obtain ⟨rfl, hl⟩ := h7
        obtain ⟨a, b, rfl⟩ : ∃ a b, ts = [a, b] := by
          match ts, hl with
          | [a, b], _ => exact ⟨a, b, rfl⟩
        refine ⟨⟨h.asc, h.nd, h.kn, h1.fk, fun x hx => ?_, fun o' v' ts' q1 q2 _ ho' x hx => ?_, fun v' a' b' q1 q2 _ => ?_⟩, fun x hx => hx⟩
        · rcases List.mem_append.1 hx with hx | hx
          · exact h.sk x hx
          · rw [List.mem_singleton] at hx
            exact ⟨v, a, b, hx, by rw [hx]; exact hk⟩
        · refine h1.parts o' v' ts' q1 q2 (fun he => ?_) ho' x hx
          simp only [Tm.mk.injEq] at he
          omega
        · by_cases he : Tm.mk 7 v' [a', b'] = .mk 7 v [a, b]
          · exact .inl (List.mem_append_right _ (List.mem_singleton.2 he))
          · exact (h1.opens v' a' b' q1 q2 he).imp (fun q => List.mem_append_left _ q) id
      · rename_i hn7
        refine ⟨⟨h.asc, h.nd, h.kn, h1.fk, h.sk, fun o' v' ts' q1 q2 _ ho' x hx => ?_, fun v' a' b' q1 q2 _ => ?_⟩, fun x hx => hx⟩
        · refine h1.parts o' v' ts' q1 q2 (fun he => ?_) ho' x hx
          simp only [Tm.mk.injEq] at he
          exact hno (by rw [← he.1]; exact ho')
        · refine h1.opens v' a' b' q1 q2 fun he => ?_
          simp only [Tm.mk.injEq] at he
          exact hn7 ⟨he.1.symm, by rw [← he.2.2]; rfl⟩
end Go.Proofs.Ytgiciiknagelhaa
set_option linter.unusedVariables false
namespace Go.Proofs.Ytgiciiknagelhaa
open Go.VM
abbrev NoE : Tm → Prop := fun _ => False
theorem newL_no : ∀ {ts : List Tm} {w : Wst}, newL w ts = false → addL w ts = w
  | [], w, _ => rfl
  | t :: ts, w, h => by
    rw [newL, Bool.or_eq_false_iff] at h
    have h1 : bsF w.k t = true := by simpa using h.1
    have h2 : addT w t = w := by unfold addT; rw [if_pos h1]
    rw [h2] at h
    rw [addL, h2]
    exact newL_no h.2
def sealG : List Tm → Wst → List Tm → Bool → Wst × List Tm × Bool
  | [], w, rest, more => (w, rest, more)
  | t :: S, w, rest, more => if canF w.k (t.args.getD 0 default) = true then sealG S (addL w (t.args.drop 1)) rest (newL w (t.args.drop 1) || more) else sealG S w (rest ++ [t]) more
theorem sealG_more : ∀ (S : List Tm) (w : Wst) (rest : List Tm), (sealG S w rest true).2.2 = true
  | [], w, rest => rfl
  | t :: S, w, rest => by
    rw [sealG]; split
    · rw [Bool.or_true]; exact sealG_more S _ _
    · exact sealG_more S _ _
theorem sealG_ok {l : List Tm} : ∀ (S : List Tm) (w : Wst) (rest : List Tm) (more : Bool), WInv l NoE w → (∀ t ∈ S, ∃ v a b, t = .mk 7 v [a, b] ∧ t ∈ w.k) →
    WInv l NoE (sealG S w rest more).1 ∧ (∀ x ∈ w.k, x ∈ (sealG S w rest more).1.k) ∧ (sealG S w rest more).1.s = w.s ∧ (∀ x ∈ rest, x ∈ (sealG S w rest more).2.1) ∧ (∀ x ∈ (sealG S w rest more).2.1, x ∈ rest ∨ x ∈ S) ∧
      (∀ v a b, .mk 7 v [a, b] ∈ S → .mk 7 v [a, b] ∈ (sealG S w rest more).2.1 ∨ b ∈ (sealG S w rest more).1.k) ∧
      ((sealG S w rest more).2.2 = false → (sealG S w rest more).1 = w ∧ ∀ v a b, .mk 7 v [a, b] ∈ S → b ∈ w.k ∨ canF w.k a = false)
  | [], w, rest, more, h, hS => ⟨h, fun _ hx => hx, rfl, fun _ hx => hx, fun _ hx => .inl hx, fun v a b q => absurd q (by simp), fun _ => ⟨rfl, fun v a b q => absurd q (by simp)⟩⟩
  | t :: S, w, rest, more, h, hS => by
    obtain ⟨v0, a0, b0, rfl, ht⟩ := hS t List.mem_cons_self
    have g0 : (Tm.mk 7 v0 [a0, b0]).args.getD 0 default = a0 := rfl
    have g1 : (Tm.mk 7 v0 [a0, b0]).args.drop 1 = [b0] := rfl
    rw [sealG, g0, g1]
    by_cases hc : canF w.k a0 = true
    · rw [if_pos hc]
      have hcm := (canF_iff (bsF_iff h.asc) a0).1 hc
      have hkn : ∀ x ∈ [b0], Kn l x := fun x hx => by
        rw [List.mem_singleton] at hx; subst hx
        exact (Kn_closed l).opens v0 a0 x (h.kn _ ht) (CanM_mono (fun y hy => h.kn y hy) a0 hcm)
      have hm := addL_mem [b0] h hkn
      obtain ⟨q1, q2, q3, q4, q5, q6, q7⟩ := sealG_ok S (addL w [b0]) rest (newL w [b0] || more) (addL_inv [b0] h hkn) (fun x hx => by
        obtain ⟨v, a, b, e, hk⟩ := hS x (List.mem_cons_of_mem _ hx)
        exact ⟨v, a, b, e, (hm x).2 (.inr hk)⟩)
      have hb0 : b0 ∈ (addL w [b0]).k := (hm b0).2 (.inl (List.mem_singleton.2 rfl))
      refine ⟨q1, fun x hx => q2 x ((hm x).2 (.inr hx)), by rw [q3, addL_s], q4, fun x hx => (q5 x hx).imp id (List.mem_cons_of_mem _), fun v a b hx => ?_, fun hf => ?_⟩
      · rcases List.mem_cons.1 hx with e | hx
        · simp only [Tm.mk.injEq, List.cons.injEq, and_true, true_and] at e
          obtain ⟨rfl, rfl, rfl⟩ := e
          exact .inr (q2 _ hb0)
        · exact q6 v a b hx
      · have hnew : newL w [b0] = false := by
          cases hn : newL w [b0] with
          | false => rfl
          | true => rw [hn, Bool.true_or, sealG_more] at hf; cases hf
        have he := newL_no hnew
        obtain ⟨r1, r2⟩ := q7 hf
        rw [he] at r1 r2 hb0
        refine ⟨by rw [he]; exact r1, fun v a b hx => ?_⟩
        rcases List.mem_cons.1 hx with e | hx
        · simp only [Tm.mk.injEq, List.cons.injEq, and_true, true_and] at e
          obtain ⟨rfl, rfl, rfl⟩ := e
          exact .inl hb0
        · exact r2 v a b hx
    · rw [if_neg hc]
      obtain ⟨q1, q2, q3, q4, q5, q6, q7⟩ := sealG_ok S w (rest ++ [.mk 7 v0 [a0, b0]]) more h (fun x hx => hS x (List.mem_cons_of_mem _ hx))
      refine ⟨q1, q2, q3, fun x hx => q4 x (List.mem_append_left _ hx), fun x hx => ?_, fun v a b hx => ?_, fun hf => ?_⟩
      · rcases q5 x hx with hx | hx
        · rcases List.mem_append.1 hx with hx | hx
          · exact .inl hx
          · rw [List.mem_singleton] at hx; exact .inr (List.mem_cons.2 (.inl hx))
        · exact .inr (List.mem_cons_of_mem _ hx)
      · rcases List.mem_cons.1 hx with e | hx
        · exact .inl (q4 _ (by rw [e]; exact List.mem_append_right _ (List.mem_singleton.2 rfl)))
        · exact q6 v a b hx
      · obtain ⟨r1, r2⟩ := q7 hf
        refine ⟨r1, fun v a b hx => ?_⟩
        rcases List.mem_cons.1 hx with e | hx
        · simp only [Tm.mk.injEq, List.cons.injEq, and_true, true_and] at e
          obtain ⟨rfl, rfl, rfl⟩ := e
          exact .inr (by simpa using hc)
        · exact r2 v a b hx
def drainF : Nat → Wst → Option Wst
  | 0, w => if w.f = [] then some w else none
  | n + 1, w => if w.f = [] then some w else drainF n (stepF w)
def openF (n : Nat) (w : Wst) : Option (Wst × Bool) := match drainF n w with
  | some w1 => some (⟨(sealG w1.s w1 [] false).1.k, (sealG w1.s w1 [] false).1.f, (sealG w1.s w1 [] false).2.1⟩, (sealG w1.s w1 [] false).2.2)
  | none => none
def closG (n : Nat) : Nat → Wst → Option Wst
  | 0, _ => none
  | m + 1, w => match openF n w with
    | some (w', true) => closG n m w'
    | some (w', false) => some w'
    | none => none
theorem drainF_ok {l : List Tm} : ∀ (n : Nat) {w w' : Wst}, WInv l NoE w → drainF n w = some w' → WInv l NoE w' ∧ w'.f = [] ∧ ∀ x ∈ w.k, x ∈ w'.k
  | 0, w, w', h, he => by
    rw [drainF] at he
    split at he
    · rename_i hf; simp only [Option.some.injEq] at he; subst he; exact ⟨h, hf, fun _ hx => hx⟩
    · cases he
  | n + 1, w, w', h, he => by
    rw [drainF] at he
    split at he
    · rename_i hf; simp only [Option.some.injEq] at he; subst he; exact ⟨h, hf, fun _ hx => hx⟩
    · obtain ⟨h1, h2⟩ := stepF_inv h
      obtain ⟨q1, q2, q3⟩ := drainF_ok n h1 he
      exact ⟨q1, q2, fun x hx => q3 x (h2 x hx)⟩
theorem openF_ok {l : List Tm} {n : Nat} {w w' : Wst} {b : Bool} (h : WInv l NoE w) (he : openF n w = some (w', b)) : WInv l NoE w' ∧ (∀ x ∈ w.k, x ∈ w'.k) ∧ (b = false → Closed (fun t => t ∈ w'.k)) := by
  unfold openF at he
  split at he
  case h_2 => cases he
  rename_i w1 hd
  obtain ⟨h1, hf, h2⟩ := drainF_ok n h hd
  obtain ⟨q1, q2, q3, q4, q5, q6, q7⟩ := sealG_ok w1.s w1 [] false h1 h1.sk
  simp only [Option.some.injEq, Prod.mk.injEq] at he
  obtain ⟨rfl, rfl⟩ := he
  refine ⟨⟨q1.asc, q1.nd, q1.kn, q1.fk, fun x hx => ?_, q1.parts, fun v a b r1 r2 _ => ?_⟩, fun x hx => q2 x (h2 x hx), fun hb => ?_⟩
  · rcases q5 x hx with hx | hx
    · cases hx
    · obtain ⟨v, a, b, e, hk⟩ := h1.sk x hx
      exact ⟨v, a, b, e, q2 x hk⟩
  · rcases q1.opens v a b r1 r2 (fun q => q) with q | q
    · rw [q3] at q
      exact q6 v a b q
    · exact .inr q
  · obtain ⟨r1, r2⟩ := q7 hb
    simp only [r1]
    refine ⟨fun o v ts t hk ho ht => h1.parts o v ts hk (by rw [hf]; simp) (fun q => q) ho t ht, fun v a b hk hc => ?_⟩
    rcases h1.opens v a b hk (by rw [hf]; simp) (fun q => q) with q | q
    · rcases r2 v a b q with q | q
      · exact q
      · rw [(canF_iff (bsF_iff h1.asc) a).2 hc] at q; cases q
    · exact q
theorem closG_ok {l : List Tm} {n : Nat} : ∀ (m : Nat) {w w' : Wst}, WInv l NoE w → (∀ x ∈ l, x ∈ w.k) → closG n m w = some w' → Asc w'.k ∧ w'.k.Nodup ∧ ∀ t, t ∈ w'.k ↔ Kn l t
  | 0, w, w', _, _, he => by cases he
  | m + 1, w, w', h, hl, he => by
    rw [closG] at he
    split at he
    · rename_i w1 ho
      obtain ⟨q1, q2, _⟩ := openF_ok h ho
      exact closG_ok m q1 (fun x hx => q2 x (hl x hx)) he
    · rename_i w1 ho
      simp only [Option.some.injEq] at he; subst he
      obtain ⟨q1, q2, q3⟩ := openF_ok h ho
      exact ⟨q1.asc, q1.nd, fun t => ⟨q1.kn t, fun ht => Kn_min (q3 rfl) (fun x hx => q2 x (hl x hx)) ht⟩⟩
    · cases he
theorem start_inv (l : List Tm) : WInv l NoE (addL ⟨[], [], []⟩ l) ∧ ∀ x ∈ l, x ∈ (addL ⟨[], [], []⟩ l).k := by
  have h0 : WInv l NoE ⟨[], [], []⟩ := ⟨List.Pairwise.nil, List.nodup_nil, (fun _ h => by cases h), (fun _ h => by cases h), (fun _ h => by cases h), (fun _ _ _ h => by cases h), (fun _ _ _ h => by cases h)⟩
  have hk : ∀ t ∈ l, Kn l t := fun t ht => Kn_base ht
  exact ⟨addL_inv l h0 hk, fun x hx => (addL_mem l h0 hk x).2 (.inl hx)⟩
theorem close_ok {l : List Tm} {n m : Nat} {w : Wst} (h : closG n m (addL ⟨[], [], []⟩ l) = some w) : Asc w.k ∧ w.k.Nodup ∧ ∀ t, t ∈ w.k ↔ Kn l t := closG_ok m (start_inv l).1 (start_inv l).2 h
end Go.Proofs.Ytgiciiknagelhaa
set_option linter.unusedVariables false
namespace Go.Proofs.Ytgiciiknagelhaa
open Go.VM
mutual
def subs : Tm → List Tm
  | .mk o v ts => .mk o v ts :: subsL ts
def subsL : List Tm → List Tm
  | [] => []
  | t :: ts => subs t ++ subsL ts
end
theorem subs_self (t : Tm) : t ∈ subs t := by obtain ⟨o, v, ts⟩ := t; rw [subs]; exact List.mem_cons_self
theorem subsL_mem {x : Tm} : ∀ {ts : List Tm}, x ∈ subsL ts ↔ ∃ t ∈ ts, x ∈ subs t
  | [] => by simp [subsL]
  | t :: ts => by rw [subsL, List.mem_append, subsL_mem]; simp
mutual
theorem subs_closed : ∀ (t x y : Tm), x ∈ subs t → y ∈ x.args → y ∈ subs t
  | .mk o v ts, x, y, hx, hy => by
    rw [subs] at hx ⊢
    rcases List.mem_cons.1 hx with rfl | hx
    · exact List.mem_cons_of_mem _ (subsL_mem.2 ⟨y, hy, subs_self y⟩)
    · exact List.mem_cons_of_mem _ (subsL_closed ts x y hx hy)
theorem subsL_closed : ∀ (ts : List Tm) (x y : Tm), x ∈ subsL ts → y ∈ x.args → y ∈ subsL ts
  | [], x, y, hx, _ => by simp [subsL] at hx
  | t :: ts, x, y, hx, hy => by
    rw [subsL, List.mem_append] at hx ⊢
    exact hx.imp (fun q => subs_closed t x y q hy) fun q => subsL_closed ts x y q hy
end
theorem nodup_le : ∀ {k S : List Tm}, k.Nodup → (∀ x ∈ k, x ∈ S) → k.length ≤ S.length
  | [], S, _, _ => Nat.zero_le _
  | a :: k, S, hn, hs => by
    classical
    obtain ⟨h1, h2⟩ := List.nodup_cons.1 hn
    obtain ⟨P, Q, rfl⟩ := List.append_of_mem (hs a List.mem_cons_self)
    have := nodup_le (k := k) (S := P ++ Q) h2 (fun x hx => by
      have := hs x (List.mem_cons_of_mem _ hx)
      rw [List.mem_append, List.mem_cons] at this
      rw [List.mem_append]
      rcases this with q | q | q
      · exact .inl q
      · subst q; exact absurd hx h1
      · exact .inr q)
    simp only [List.length_append, List.length_cons] at this ⊢
    omega
theorem Kn_subs {l : List Tm} {t : Tm} (h : Kn l t) : t ∈ subsL l := by
  refine Kn_min (C := fun t => t ∈ subsL l) ⟨fun o v ts t hx _ ht => subsL_closed l _ t hx ht, fun v k b hx _ => subsL_closed l _ b hx (by simp [Tm.args])⟩ (fun x hx => subsL_mem.2 ⟨x, hx, subs_self x⟩) h
def mu (N : Nat) (w : Wst) : Nat := 2 * (N - w.k.length) + w.f.length
theorem WInv.len {l : List Tm} {E : Tm → Prop} {w : Wst} (h : WInv l E w) : w.k.length ≤ (subsL l).length := nodup_le h.nd fun x hx => Kn_subs (h.kn x hx)
theorem insAt_len (k : List Tm) (i : Nat) (t : Tm) : (insAt k i t).length = k.length + 1 := by
  unfold insAt; simp only [List.length_append, List.length_take, List.length_cons, List.length_drop]; omega
theorem addT_mu {l : List Tm} {E : Tm → Prop} {w : Wst} (h : WInv l E w) {t : Tm} (ht : Kn l t) : mu (subsL l).length (addT w t) ≤ mu (subsL l).length w ∧ w.k.length ≤ (addT w t).k.length ∧ (bsF w.k t = false → w.k.length < (addT w t).k.length) := by
  have hl := (addT_inv h ht).len
  by_cases hb : bsF w.k t = true
  · have e : addT w t = w := by unfold addT; rw [if_pos hb]
    rw [e]
    exact ⟨Nat.le_refl _, Nat.le_refl _, fun q => by rw [hb] at q; cases q⟩
  · have e : addT w t = ⟨insAt w.k (bsI w.k t) t, w.f ++ [t], w.s⟩ := by unfold addT; rw [if_neg hb]
    rw [e] at hl ⊢
    have hi := insAt_len w.k (bsI w.k t) t
    unfold mu
    simp only [List.length_append, List.length_singleton, hi] at hl ⊢
    exact ⟨by omega, by omega, fun _ => by omega⟩
theorem addL_mu {l : List Tm} {E : Tm → Prop} : ∀ (ts : List Tm) {w : Wst}, WInv l E w → (∀ t ∈ ts, Kn l t) → mu (subsL l).length (addL w ts) ≤ mu (subsL l).length w ∧ w.k.length ≤ (addL w ts).k.length ∧ (newL w ts = true → w.k.length < (addL w ts).k.length)
  | [], w, h, _ => ⟨Nat.le_refl _, Nat.le_refl _, fun q => by cases q⟩
  | t :: ts, w, h, hk => by
    have ht := hk t List.mem_cons_self
    obtain ⟨a1, a2, a3⟩ := addT_mu h ht
    obtain ⟨b1, b2, b3⟩ := addL_mu ts (addT_inv h ht) fun x hx => hk x (List.mem_cons_of_mem _ hx)
    rw [addL]
    refine ⟨Nat.le_trans b1 a1, Nat.le_trans a2 b2, fun q => ?_⟩
    rw [newL, Bool.or_eq_true] at q
    rcases q with q | q
    · exact Nat.lt_of_lt_of_le (a3 (by simpa using q)) b2
    · exact Nat.lt_of_le_of_lt a2 (b3 q)
theorem stepF_mu {l : List Tm} {w : Wst} (h : WInv l NoE w) (hf : w.f ≠ []) : mu (subsL l).length (stepF w) < mu (subsL l).length w ∧ w.k.length ≤ (stepF w).k.length := by
  unfold stepF
  split
  · rename_i h0; exact absurd h0 hf
  · rename_i o v ts f h0
    have hk : (Tm.mk o v ts) ∈ w.k := h.fk _ (by rw [h0]; exact List.mem_cons_self)
    have hm : mu (subsL l).length ⟨w.k, f, w.s⟩ < mu (subsL l).length w := by unfold mu; rw [h0]; simp only [List.length_cons]; omega
    split
    · rename_i ho
      have h1 : WInv l (fun _ => True) ⟨w.k, f, w.s⟩ := ⟨h.asc, h.nd, h.kn, (fun x hx => h.fk x (by rw [h0]; exact List.mem_cons_of_mem _ hx)), h.sk, (fun _ _ _ _ _ q => absurd trivial q), (fun _ _ _ _ _ q => absurd trivial q)⟩
      obtain ⟨a1, a2, _⟩ := addL_mu ts h1 fun t ht => (Kn_closed l).parts o v ts t (h.kn _ hk) ho ht
      exact ⟨Nat.lt_of_le_of_lt a1 hm, a2⟩
    · split
      · exact ⟨hm, Nat.le_refl _⟩
      · exact ⟨hm, Nat.le_refl _⟩
theorem drainF_some {l : List Tm} : ∀ (n : Nat) {w : Wst}, WInv l NoE w → mu (subsL l).length w ≤ n → ∃ w', drainF n w = some w' ∧ mu (subsL l).length w' ≤ mu (subsL l).length w ∧ w.k.length ≤ w'.k.length
  | 0, w, h, hn => by
    have hf : w.f = [] := List.length_eq_zero_iff.1 (by unfold mu at hn; omega)
    exact ⟨w, by rw [drainF, if_pos hf], Nat.le_refl _, Nat.le_refl _⟩
  | n + 1, w, h, hn => by
    by_cases hf : w.f = []
    · exact ⟨w, by rw [drainF, if_pos hf], Nat.le_refl _, Nat.le_refl _⟩
    · obtain ⟨a1, a2⟩ := stepF_mu h hf
      obtain ⟨w', b1, b2, b3⟩ := drainF_some n (stepF_inv h).1 (by omega)
      exact ⟨w', by rw [drainF, if_neg hf, b1], by omega, by omega⟩
theorem sealG_mu {l : List Tm} : ∀ (S : List Tm) (w : Wst) (rest : List Tm) (more : Bool), WInv l NoE w → (∀ t ∈ S, ∃ v a b, t = .mk 7 v [a, b] ∧ t ∈ w.k) →
    mu (subsL l).length (sealG S w rest more).1 ≤ mu (subsL l).length w ∧ w.k.length ≤ (sealG S w rest more).1.k.length ∧ ((sealG S w rest more).2.2 = true → more = true ∨ w.k.length < (sealG S w rest more).1.k.length)
  | [], w, rest, more, _, _ => ⟨Nat.le_refl _, Nat.le_refl _, fun q => .inl q⟩
  | t :: S, w, rest, more, h, hS => by
    obtain ⟨v0, a0, b0, rfl, ht⟩ := hS t List.mem_cons_self
    have g0 : (Tm.mk 7 v0 [a0, b0]).args.getD 0 default = a0 := rfl
    have g1 : (Tm.mk 7 v0 [a0, b0]).args.drop 1 = [b0] := rfl
    rw [sealG, g0, g1]
    by_cases hc : canF w.k a0 = true
    · rw [if_pos hc]
      have hcm := (canF_iff (bsF_iff h.asc) a0).1 hc
      have hkn : ∀ x ∈ [b0], Kn l x := fun x hx => by
        rw [List.mem_singleton] at hx; subst hx
        exact (Kn_closed l).opens v0 a0 x (h.kn _ ht) (CanM_mono (fun y hy => h.kn y hy) a0 hcm)
      have hm := addL_mem [b0] h hkn
      obtain ⟨a1, a2, a3⟩ := addL_mu [b0] h hkn
      obtain ⟨b1, b2, b3⟩ := sealG_mu S (addL w [b0]) rest (newL w [b0] || more) (addL_inv [b0] h hkn) (fun x hx => by
        obtain ⟨v, a, b, e, hk⟩ := hS x (List.mem_cons_of_mem _ hx)
        exact ⟨v, a, b, e, (hm x).2 (.inr hk)⟩)
      refine ⟨Nat.le_trans b1 a1, Nat.le_trans a2 b2, fun q => ?_⟩
      rcases b3 q with q | q
      · rw [Bool.or_eq_true] at q
        rcases q with q | q
        · exact .inr (Nat.lt_of_lt_of_le (a3 q) b2)
        · exact .inl q
      · exact .inr (Nat.lt_of_le_of_lt a2 q)
    · rw [if_neg hc]
      exact sealG_mu S w _ more h (fun x hx => hS x (List.mem_cons_of_mem _ hx))
theorem openF_some {l : List Tm} {n : Nat} {w : Wst} (h : WInv l NoE w) (hn : mu (subsL l).length w ≤ n) : ∃ w' b, openF n w = some (w', b) ∧ mu (subsL l).length w' ≤ mu (subsL l).length w ∧ w.k.length ≤ w'.k.length ∧ (b = true → w.k.length < w'.k.length) := by
  obtain ⟨w1, h1, h2, h3⟩ := drainF_some n h hn
  obtain ⟨q1, _, _⟩ := drainF_ok n h h1
  obtain ⟨a1, a2, a3⟩ := sealG_mu w1.s w1 [] false q1 q1.sk
  unfold openF
  rw [h1]
  refine ⟨_, _, rfl, ?_, ?_, fun q => ?_⟩
  · unfold mu at *; simp only; omega
  · simp only; omega
  · rcases a3 q with q | q
    · cases q
    · simp only; omega
theorem closG_some {l : List Tm} {n : Nat} : ∀ (m : Nat) {w : Wst}, WInv l NoE w → mu (subsL l).length w ≤ n → (subsL l).length < m + w.k.length → ∃ w', closG n m w = some w'
  | 0, w, h, _, hm => absurd h.len (by omega)
  | m + 1, w, h, hn, hm => by
    obtain ⟨w', b, h1, h2, h3, h4⟩ := openF_some h hn
    rw [closG, h1]
    cases b with
    | false => exact ⟨w', rfl⟩
    | true =>
      have := h4 rfl
      exact closG_some m (openF_ok h h1).1 (by omega) (by omega)
theorem close_some (l : List Tm) : ∃ n m w, closG n m (addL ⟨[], [], []⟩ l) = some w ∧ w.k.length ≤ (subsL l).length := by
  have h := (start_inv l).1
  obtain ⟨w, hw⟩ := closG_some (n := mu (subsL l).length (addL ⟨[], [], []⟩ l)) ((subsL l).length + 1) h (Nat.le_refl _) (by omega)
  obtain ⟨_, q2, q3⟩ := close_ok hw
  exact ⟨_, _, w, hw, nodup_le q2 fun x hx => Kn_subs ((q3 x).1 hx)⟩
end Go.Proofs.Ytgiciiknagelhaa
set_option linter.unusedVariables false
namespace Go.Proofs.Ytgiciiknagelhaa
open Go.VM
theorem canF_sorted (l : List Tm) (t : Tm) : canF (sorted l) t = true ↔ CanM (fun x => x ∈ l) t := canF_iff (bsF_sorted l) t
theorem can_iff {l : List Tm} {n m : Nat} {w : Wst} (hw : closG n m (addL ⟨[], [], []⟩ l) = some w) (t : Tm) : (canF (sorted l) t || canF w.k t) = true ↔ CanM (Kn l) t := by
  obtain ⟨h1, _, h3⟩ := close_ok hw
  rw [Bool.or_eq_true, canF_sorted, canF_iff (bsF_iff h1)]
  constructor
  · rintro (h | h)
    · exact CanM_mono (fun x hx => Kn_base hx) t h
    · exact CanM_mono (fun x hx => (h3 x).1 hx) t h
  · exact fun h => .inr (CanM_mono (fun x hx => (h3 x).2 hx) t h)
def nameT (o c : Int) : Tm := .mk 2 (o * 1048576 + c) []
theorem own_tdiv {o c : Int} (ho : 0 ≤ o) (ho2 : o ≤ 3) (hc : 0 ≤ c) (hc2 : c < 1048576) : w ((o * 1048576 + c).tdiv 1048576) = o := by
  rw [Int.tdiv_eq_ediv_of_nonneg (by omega), show (o * 1048576 + c) / 1048576 = o by omega]
  exact w_in (by omega) (by omega)
theorem can_name {M : Tm → Prop} {o c : Int} (ho : 0 ≤ o) (ho2 : o ≤ 3) (hc : 0 ≤ c) (hc2 : c < 1048576) : CanM M (nameT o c) ↔ M (nameT o c) ∨ o = 2 := by
  unfold nameT
  rw [CanM, own_tdiv ho ho2 hc hc2]
  constructor
  · rintro (h | h | h | ⟨_, h⟩ | ⟨h, _⟩ | ⟨h, _⟩ | ⟨h, _⟩ | ⟨h, _⟩ | ⟨h, _⟩)
    · exact .inl h
    · cases h
    · cases h
    · exact .inr h
    · cases h
    · rcases h with h | h | h <;> cases h
    · cases h
    · cases h
    · cases h
  · rintro (h | h)
    · exact .inl h
    · exact .inr (.inr (.inr (.inl ⟨rfl, h⟩)))
end Go.Proofs.Ytgiciiknagelhaa
set_option linter.unusedVariables false
namespace Go.Proofs.Ytgiciiknagelhaa
open Go.VM
def linkB (j : Nat) : Tm := .mk 3 0 [.mk 1 j [], nameT 0 (101 + j)]
def linkT (j : Nat) : Tm := .mk 7 0 [nameT 0 (100 + j), linkB j]
theorem nameT_inj {o c c' : Int} (h : nameT o c = nameT o c') : c = c' := by
  unfold nameT at h
  simp only [Tm.mk.injEq] at h
  omega
theorem chain_shut {known : List Tm} {n : Nat} (hn : n ≤ 1000) (hk : ∀ t ∈ known, ∃ j, j < n ∧ t = linkT j) : ¬ CanM (Kn known) (nameT 0 (100 + n)) := by
  intro h
  have hC : Closed (fun t => t ∈ known) := ⟨fun o v ts t hx ho _ => by
      obtain ⟨j, _, e⟩ := hk _ hx
      unfold linkT at e
      simp only [Tm.mk.injEq] at e
      omega, fun v k b hx hc => by
      obtain ⟨j, hj, e⟩ := hk _ hx
      unfold linkT at e
      simp only [Tm.mk.injEq, List.cons.injEq] at e
      obtain ⟨_, _, rfl, _⟩ := e
      rcases (can_name (by decide) (by decide) (by omega) (by omega)).1 hc with q | q
      · obtain ⟨i, _, e⟩ := hk _ q
        unfold nameT linkT at e
        simp only [Tm.mk.injEq] at e
        omega
      · omega⟩
  have h2 := CanM_mono (N := fun t => t ∈ known) (fun t ht => Kn_min hC (fun x hx => hx) ht) _ h
  rcases (can_name (by decide) (by decide) (by omega) (by omega)).1 h2 with q | q
  · obtain ⟨i, _, e⟩ := hk _ q
    unfold nameT linkT at e
    simp only [Tm.mk.injEq] at e
    omega
  · omega
theorem chain_open {known : List Tm} {n at_ : Nat} (hk : ∀ j, j < n → linkT j ∈ known) (hat : at_ ≤ n) : ∀ d, at_ + d ≤ n → Kn (known ++ [nameT 0 (100 + at_)]) (nameT 0 (100 + (at_ + d : Nat)))
  | 0, _ => Kn_base (List.mem_append_right _ (List.mem_singleton.2 rfl))
  | d + 1, h => by
    have ih := chain_open hk hat d (by omega)
    have hb : Kn (known ++ [nameT 0 (100 + at_)]) (linkB (at_ + d)) :=
      (Kn_closed _).opens 0 (nameT 0 (100 + (at_ + d : Nat))) _ (Kn_base (List.mem_append_left _ (hk (at_ + d) (by omega)))) (CanM_of ih)
    have := (Kn_closed _).parts 3 0 _ (nameT 0 (101 + (at_ + d : Nat))) hb (.inl rfl) (by simp)
    have e : (100 : Int) + ((at_ + (d + 1) : Nat) : Int) = 101 + ((at_ + d : Nat) : Int) := by omega
    rw [e]; exact this
theorem chain_last {known : List Tm} {n at_ : Nat} (hk : ∀ j, j < n → linkT j ∈ known) (hat : at_ ≤ n) : CanM (Kn (known ++ [nameT 0 (100 + at_)])) (nameT 0 (100 + n)) := by
  have := chain_open hk hat (n - at_) (by omega)
  rw [show at_ + (n - at_) = n by omega] at this
  exact CanM_of this
theorem chain_first {known : List Tm} {n at_ : Nat} (hn : n ≤ 1000) (hk : ∀ t ∈ known, ∃ j, j < n ∧ t = linkT j) (hat : at_ < n) (h0 : 0 < at_) : ¬ CanM (Kn (known ++ [nameT 0 (100 + at_)])) (nameT 0 100) := by
  intro h
  let C : Tm → Prop := fun t => t ∈ known ∨ ∃ j : Nat, at_ ≤ j ∧ (t = nameT 0 (100 + j) ∨ t = linkB j ∨ t = .mk 1 j [])
  have hC : Closed C := ⟨fun o v ts t hx ho ht => by
      rcases hx with hx | ⟨j, h1, e | e | e⟩
      · obtain ⟨j, _, e⟩ := hk _ hx
        unfold linkT at e
        simp only [Tm.mk.injEq] at e
        omega
      · unfold nameT at e
        simp only [Tm.mk.injEq] at e
        omega
      · unfold linkB at e
        simp only [Tm.mk.injEq] at e
        obtain ⟨_, _, rfl⟩ := e
        simp only [List.mem_cons, List.not_mem_nil, or_false] at ht
        rcases ht with rfl | rfl
        · exact .inr ⟨j, h1, .inr (.inr rfl)⟩
        · exact .inr ⟨j + 1, by omega, .inl (by rw [show (100 : Int) + ((j + 1 : Nat) : Int) = 101 + (j : Int) by omega])⟩
      · simp only [Tm.mk.injEq] at e
        omega, fun v k b hx hc => by
      rcases hx with hx | ⟨j, h1, e | e | e⟩
      · obtain ⟨j, hj, e⟩ := hk _ hx
        unfold linkT at e
        simp only [Tm.mk.injEq, List.cons.injEq] at e
        obtain ⟨_, _, rfl, rfl, _⟩ := e
        have hq : at_ ≤ j := by
          rcases (can_name (by decide) (by decide) (by omega) (by omega)).1 hc with q | q
          · rcases q with q | ⟨i, i1, q | q | q⟩
            · obtain ⟨i, _, e⟩ := hk _ q
              unfold nameT linkT at e
              simp only [Tm.mk.injEq] at e
              omega
            · have := nameT_inj q; omega
            · unfold nameT linkB at q
              simp only [Tm.mk.injEq] at q
              omega
            · unfold nameT at q
              simp only [Tm.mk.injEq] at q
              omega
          · omega
        exact .inr ⟨j, hq, .inr (.inl rfl)⟩
      · unfold nameT at e
        simp only [Tm.mk.injEq] at e
        omega
      · unfold linkB at e
        simp only [Tm.mk.injEq] at e
        omega
      · simp only [Tm.mk.injEq] at e
        omega⟩
  have h2 := CanM_mono (N := C) (fun t ht => Kn_min hC (fun x hx => by
    rcases List.mem_append.1 hx with hx | hx
    · exact .inl hx
    · rw [List.mem_singleton] at hx
      exact .inr ⟨at_, Nat.le_refl _, .inl hx⟩) ht) _ h
  rcases (can_name (by decide) (by decide) (by omega) (by omega)).1 h2 with q | q
  · rcases q with q | ⟨i, i1, q | q | q⟩
    · obtain ⟨i, _, e⟩ := hk _ q
      unfold nameT linkT at e
      simp only [Tm.mk.injEq] at e
      omega
    · have := nameT_inj q; omega
    · unfold nameT linkB at q
      simp only [Tm.mk.injEq] at q
      omega
    · unfold nameT at q
      simp only [Tm.mk.injEq] at q
      omega
  · omega
end Go.Proofs.Ytgiciiknagelhaa
set_option linter.unusedVariables false
namespace Go.Proofs.Ytgiciiknagelhaa
open Go.VM
section
variable {M : Tm → Prop} {a b : Tm}
end
end Go.Proofs.Ytgiciiknagelhaa
set_option linter.unusedVariables false
namespace Go.Proofs.Ytgiciiknagelhaa
open Go.VM
def AllS (t : Tm) : Prop := ∀ x ∈ subs t, sndF x = true
theorem AllS_mk {o v : Int} {ts : List Tm} (h : sndF (.mk o v ts) = true) (hs : ∀ t ∈ ts, AllS t) : AllS (.mk o v ts) := by
  intro x hx
  rw [subs] at hx
  rcases List.mem_cons.1 hx with rfl | hx
  · exact h
  · obtain ⟨t, ht, hx⟩ := subsL_mem.1 hx
    exact hs t ht x hx
theorem nm_snd {v : Int} (hv : 0 ≤ v) : AllS (.mk 2 v []) := AllS_mk (by simp only [sndF, List.length_nil]; simp; omega) (fun t h => by cases h)
end Go.Proofs.Ytgiciiknagelhaa
set_option linter.unusedVariables false
namespace Go.Proofs.Ytgiciiknagelhaa
open Go.VM
mutual
def dep : Tm → Nat
  | .mk _ _ ts => 1 + depL ts
def depL : List Tm → Nat
  | [] => 0
  | t :: ts => max (dep t) (depL ts)
end
theorem depL_le {n : Nat} : ∀ {ts : List Tm}, depL ts ≤ n ↔ ∀ t ∈ ts, dep t ≤ n
  | [] => by simp [depL]
  | t :: ts => by rw [depL, Nat.max_le, depL_le]; simp
def Vld (t : Tm) : Prop := (subs t).length ≤ 600 ∧ dep t ≤ 60 ∧ AllS t
end Go.Proofs.Ytgiciiknagelhaa
set_option linter.unusedVariables false
namespace Go.Proofs.Ytgiciiknagelhaa
open Go.VM
def aT : Tm := nameT 0 100
def bT : Tm := nameT 1 100
def sT : Tm := .mk 5 0 [aT, bT]
end Go.Proofs.Ytgiciiknagelhaa
set_option linter.unusedVariables false
namespace Go.Proofs.Ytgiciiknagelhaa
open Go.VM
section
variable {known : List Tm} {lab x : Int} (ha : pubT aT ∈ known) (hb : pubT bT ∈ known)
include ha
end
end Go.Proofs.Ytgiciiknagelhaa
set_option linter.unusedVariables false
namespace Go.Proofs.Ytgiciiknagelhaa
open Go.VM
mutual
def nodesD : Nat → Tm → List (Tm × Nat)
  | d, .mk o v ts => (.mk o v ts, d) :: nodesL (d + 1) ts
def nodesL : Nat → List Tm → List (Tm × Nat)
  | _, [] => []
  | d, t :: ts => nodesD d t ++ nodesL d ts
end
mutual
theorem nodesD_fst : ∀ (t : Tm) (d : Nat), (nodesD d t).map (·.1) = subs t
  | .mk o v ts, d => by rw [nodesD, subs, List.map_cons, nodesL_fst ts]
theorem nodesL_fst : ∀ (ts : List Tm) (d : Nat), (nodesL d ts).map (·.1) = subsL ts
  | [], d => by simp [nodesL, subsL]
  | t :: ts, d => by rw [nodesL, subsL, List.map_append, nodesD_fst t, nodesL_fst ts]
end
theorem nodesD_len (t : Tm) (d : Nat) : (nodesD d t).length = (subs t).length := by rw [← nodesD_fst t d, List.length_map]
mutual
theorem nodesD_dep : ∀ (t : Tm) (d n : Nat), (∀ p ∈ nodesD d t, p.2 ≤ n) ↔ d + dep t ≤ n + 1
  | .mk o v ts, d, n => by
    have ih := nodesL_dep ts (d + 1) n
    rw [nodesD, dep]
    simp only [List.mem_cons, forall_eq_or_imp]
    rw [ih]
    match ts with
    | [] => simp only [depL]; omega
    | t :: ts => simp only [List.cons_ne_nil, false_or, depL] ; omega
theorem nodesL_dep : ∀ (ts : List Tm) (d n : Nat), (∀ p ∈ nodesL d ts, p.2 ≤ n) ↔ (ts = [] ∨ d + depL ts ≤ n + 1)
  | [], d, n => by simp [nodesL]
  | t :: ts, d, n => by
    have h1 := nodesD_dep t d n
    have h2 := nodesL_dep ts d n
    rw [nodesL]
    simp only [List.mem_append, or_imp, forall_and, h1, h2, List.cons_ne_nil, false_or, depL]
    match ts with
    | [] => simp only [depL, true_or, and_true]; omega
    | u :: us => simp only [List.cons_ne_nil, false_or]; omega
end
def vldF (t : Tm) : Bool := decide ((nodesD 1 t).length ≤ 600) && (nodesD 1 t).all (fun p => decide (p.2 ≤ 60) && sndF p.1)
theorem vldF_iff (t : Tm) : vldF t = true ↔ Vld t := by
  unfold vldF Vld AllS
  rw [Bool.and_eq_true, decide_eq_true_eq, nodesD_len, List.all_eq_true]
  have h1 := nodesD_dep t 1 60
  have h2 : (∀ p ∈ nodesD 1 t, sndF p.1 = true) ↔ ∀ x ∈ subs t, sndF x = true := by
    rw [← nodesD_fst t 1]
    simp
  constructor
  · rintro ⟨a, b⟩
    refine ⟨a, ?_, h2.1 fun p hp => ?_⟩
    · have := h1.1 fun p hp => by have := b p hp; rw [Bool.and_eq_true, decide_eq_true_eq] at this; exact this.1
      omega
    · have := b p hp; rw [Bool.and_eq_true] at this; exact this.2
  · rintro ⟨a, b, c⟩
    refine ⟨a, fun p hp => ?_⟩
    rw [Bool.and_eq_true, decide_eq_true_eq]
    exact ⟨h1.2 (by omega) p hp, h2.2 c p hp⟩
end Go.Proofs.Ytgiciiknagelhaa
set_option linter.unusedVariables false
namespace Go.Proofs.Ytgiciiknagelhaa
open Go.VM
mutual
theorem row_inj : ∀ {t u : Tm}, t.row = u.row → t = u
  | .mk a b ts, .mk x y us, h => by
    rw [Tm.row, Tm.row] at h
    simp only [List.cons.injEq, D.lit.injEq, Value.int.injEq, D.sl.injEq, and_true, true_and] at h
    obtain ⟨rfl, rfl, h⟩ := h
    rw [rows_inj h]
theorem rows_inj : ∀ {ts us : List Tm}, Tm.rows ts = Tm.rows us → ts = us
  | [], [], _ => rfl
  | [], _ :: _, h => by simp [Tm.rows] at h
  | _ :: _, [], h => by simp [Tm.rows] at h
  | t :: ts, u :: us, h => by
    rw [Tm.rows, Tm.rows] at h
    simp only [List.cons.injEq] at h
    rw [row_inj h.1, rows_inj h.2]
end
def itemsT (t : Tm) : List (List V) := (nodesD 1 t).map fun p => [p.1.ag, .d (I (p.2 : Nat))]
open Classical in
noncomputable def sqN : Sq := fun gf caps => if gf = 185 then (if h : ∃ t : Tm, (t.small ∧ dep t ≤ 900000) ∧ caps = [.ep t.row] then some (itemsT (Classical.choose h)) else none) else none
theorem sqN_eq {t : Tm} (ht : t.small) (hd : dep t ≤ 900000) : sqN 185 [.ep t.row] = some (itemsT t) := by
  unfold sqN
  rw [if_pos rfl]
  have h : ∃ u : Tm, (u.small ∧ dep u ≤ 900000) ∧ [V.ep t.row] = [.ep u.row] := ⟨t, ⟨ht, hd⟩, rfl⟩
  rw [dif_pos h]
  have hs := (Classical.choose_spec h).2
  have this : t.row = (Classical.choose h).row := by
    injection hs with q1 _
    injection q1 with q2
  exact congrArg (fun x => some (itemsT x)) (row_inj this).symm
theorem sqN_some {gf : FuncId} {caps : List V} {items : List (List V)} (h : sqN gf caps = some items) : gf = 185 ∧ ∃ t : Tm, t.small ∧ dep t ≤ 900000 ∧ caps = [.ep t.row] ∧ items = itemsT t := by
  unfold sqN at h
  split at h
  · rename_i hg
    split at h
    · rename_i he
      simp only [Option.some.injEq] at h
      exact ⟨hg, _, (Classical.choose_spec he).1.1, (Classical.choose_spec he).1.2, (Classical.choose_spec he).2, h.symm⟩
    · cases h
  · cases h
end Go.Proofs.Ytgiciiknagelhaa
