/- The law ChildMatches on the machine: it answers true. Conditions: none. -/
import Derived.Test.YtciaehhaglaafaaVd
import Derived.Test.YtciaehhaglaafaaCmy
set_option linter.unusedSimpArgs false
set_option linter.unusedVariables false
set_option maxRecDepth 100000
set_option maxHeartbeats 1000000
namespace Go.Proofs.Ytciaehhaglaafaa
open Go.VM
/-- what comes of a box that is narrowed -/
theorem mk7 {rb : List Ru} (hrf : ∀ r ∈ rb, r.fine) {x : Bx} (ho : x.ok) (hf : x.fine) {t : ByteArray} (ht : t = gold ∨ t = silver) {j : Nat} {m : Bx} (hn : nar x.swap t 0 rb = some (j, m)) :
    m.ok ∧ m.fine ∧ m.swap.ok ∧ (∃ (i : Nat) (a b : D), ((j : Nat) : Int) = (i : Int) ∧ (rb.map Ru.row)[i]? = some [a, .lit (.string t), b]) ∧ ansB VP 100 [m.swap.ag, x.ag] = true ∧
    CV VP 52 [.d (.sl (rb.map Ru.row)), .d (I (j : Nat)), m.ag] [] = some ⟨.d (B true), [], [], 0⟩ ∧
    (∀ (rs : List Ru) (i : Nat) (r : Ru), rs[i]? = some r → r.act = 2 → r.ok → x ∈ r.bs → CV VP 52 [.d (.sl (rs.map Ru.row)), .d (I (i : Nat)), m.swap.ag] [] = some ⟨.d (B true), [], [], 0⟩) := by
  obtain ⟨r, _, hj, htm, hact, hfb⟩ := nar_some hn
  rw [Nat.sub_zero] at hj
  have hrm := List.mem_of_getElem? hj
  have htg : r.tm = t := by
    rcases ht with rfl | rfl
    · exact tm_gold (hrf r hrm) htm
    · exact tm_silver (hrf r hrm) htm
  obtain ⟨y, hy, hyf, hyo, hme⟩ := fbx_some hfb
  have hyk := (hrf r hrm).bs y hy
  have hmk := meet_fine (Bx.swap_both ho hf).1 (Bx.swap_both ho hf).2 hyk.1 hyk.2 hyo
  have hv := ins_nar ho hf hyk.1 hyo
  have hw1 := within_right hyf hyo
  have hw2 := swap_within hf hyo
  rw [← hme] at hmk hv hw1 hw2
  have hrok : r.ok := ⟨by have := (hrf r hrm).len; omega, fun b hb => ((hrf r hrm).bs b hb).1⟩
  refine ⟨hmk.1, hmk.2, (Bx.swap_both hmk.1 hmk.2).1, ⟨j, I r.act, .sl (r.bs.map Bx.row), rfl, ?_⟩, hv, e52 rb j m r hj hact hrok hmk.1 ⟨y, hy, hw1⟩, fun rs i r' hi ha hr hx => e52 rs i m.swap r' hi ha hr (Bx.swap_both hmk.1 hmk.2).1 ⟨x, hx, hw2⟩⟩
  rw [List.getElem?_map, hj]
  show some r.row = _
  simp only [Ru.row, htg]
abbrev mk7v (l : List Int) (nx : Int → Int → Int) (na : Int → Int) (gk : Nat) (gs gs2 : List Int) (rb : List Ru) (x m : Bx) (j aj : Int) (r0 r1 r2 r3 : List D) (o1 o2 o3 o4 : D) : Va7 :=
  Va7.mk ((l.take 200).map byteRow) (l.map byteRow) nx na gk x.f x.h x.a0 x.b0 x.a1 x.b1 x.p0 x.p1 x.l0 x.l1 x.r0 x.r1 j m.f m.h m.a0 m.b0 m.a1 m.b1 m.p0 m.p1 m.l0 m.l1 m.r0 m.r1 aj 0 (.sl (gs.map numRow)) (.sl (gs2.map numRow)) (rb.map Ru.row) r0 r1 r2 r3 o1 o2 o3 o4
/-- the law ChildMatches -/
theorem e7 {l : List Int} (hB : ByteL l) : CV VP 7 [.d (byteD l)] [] = some ⟨.d (B true), [], [], 0⟩ := by
  have hb : Bytes (l.take 200) := bytes_take hB 200 (by decide)
  have hN := nx_of hb
  have h17 := e21 (l := l) 200 (by decide)
  obtain ⟨pre, x, more, tail, hr, hp, hm, ht, ho, hf, hall⟩ := ruS_pre hb (s := 0) (by decide) (by decide) (nxA (l.take 200) 0)
  have h18 := e36b hb 0 0 [[]] CtxOk.base
  rw [show (gaF (l.take 200) 0).1.1 = gwN 0 1 2 (ruS (l.take 200) 0 (nxA (l.take 200) 0)).1 (grpA (nxV (l.take 200) 0 12).toNat) from rfl, hr,
    show (gaF (l.take 200) 0).1.2 = gwN 1 2 1 (ruS (l.take 200) 1 (ruS (l.take 200) 0 (nxA (l.take 200) 0)).2).1 (grpB (nxV (l.take 200) 0 12).toNat) from rfl] at h18
  have hrf := ruS_fine hb (s := 1) (by decide) (by decide) (ruS (l.take 200) 0 (nxA (l.take 200) 0)).2
  have hrl := (ruS_len hb 1 (ruS (l.take 200) 0 (nxA (l.take 200) 0)).2).1
  have hmo : ∀ y ∈ more, y.ok := by
    intro y hy
    have hfine := ruS_fine hb (s := 0) (by decide) (by decide) (nxA (l.take 200) 0) ⟨2, gold, x :: more⟩ (by rw [hr]; simp)
    exact (hfine.bs y (List.mem_cons_of_mem _ hy)).1
  generalize (ruS (l.take 200) 1 (ruS (l.take 200) 0 (nxA (l.take 200) 0)).2).1 = rb at h18 hrf hrl
  generalize (gaF (l.take 200) 0).2 = gk at h18
  generalize grpA (nxV (l.take 200) 0 12).toNat = gs at h18
  generalize grpB (nxV (l.take 200) 0 12).toNat = gs2 at h18
  have h48 : ∀ (y : Bx) (t : ByteArray), y.ok → CV VP 97 [.d (.sl (rb.map Ru.row)), y.ag, .d (.lit (.string t))] [] = some ⟨narV (nar y.swap t 0 rb), [], [], 0⟩ := fun y t hy =>
    e48 rb y t (by omega) (fun r hr => ⟨by have := (hrf r hr).len; omega, fun b hb => ((hrf r hr).bs b hb).1⟩) hy
  have hgo : ∀ y ∈ (x :: more), y.ok := fun y hy => by rcases List.mem_cons.1 hy with rfl | hy; exact ho; exact hmo y hy
  generalize hnx : (fun (k n : Int) => nxV (List.take 200 l) k.toNat n) = nx at hN
  generalize hna : (fun (k : Int) => ((nxA (List.take 200 l) k.toNat : Nat) : Int)) = na at hN
  clear hr hnx hna
  have hj := hN.rng (na (na (na (na (na (na (gk : Nat)))))))
  match pre, hp, hall, h18 with
  | [], _, hall, h18 =>
    match more, hm, hgo, h18 with
    | [], _, hgo, h18 =>
      rcases ht with rfl | rfl
      ·
        have hj := hj 1 (by decide)
        have j0 : nx (na (na (na (na (na (na (gk : Nat))))))) 1 = 0 := by omega
        have h97 := h48 x gold ho
        cases hn : nar x.swap gold 0 rb with
        | none =>
          rw [hn] at h97
          exact r7b100z (v := mk7v l nx na gk gs gs2 rb x .zero 0 0 [] [] [] [] (.sl []) (.sl []) (.sl []) (.sl [])) ⟨⟨⟨hN, Int.natCast_nonneg _, e40a, h17, h18⟩, ho, hf⟩, h97⟩ j0
        | some jm =>
          obtain ⟨j, m⟩ := jm
          rw [hn] at h97
          obtain ⟨m1, m2, m3, m4, m5, m6, m7⟩ := mk7 hrf ho hf (t := gold) (.inl rfl) hn
          exact r7b100s (v := mk7v l nx na gk gs gs2 rb x m (j : Nat) 0 [] [] [] [] (.sl []) (.sl []) (.sl []) (.sl [])) ⟨⟨⟨hN, Int.natCast_nonneg _, e40a, h17, h18⟩, ho, hf⟩, h97, m1, m2, m3, m4, m5, m7 [⟨2, gold, x :: []⟩] 0 ⟨2, gold, x :: []⟩ rfl rfl ⟨by simp, fun b hb => hgo b hb⟩ (List.mem_cons_self), m6⟩ j0
      ·
        have hj := hj 2 (by decide)
        rcases (show nx (na (na (na (na (na (na (gk : Nat))))))) 2 = 0 ∨ nx (na (na (na (na (na (na (gk : Nat))))))) 2 = 1 by omega) with j0 | j1
        ·
          have h97 := h48 x gold ho
          cases hn : nar x.swap gold 0 rb with
          | none =>
            rw [hn] at h97
            exact r7b200z (v := mk7v l nx na gk gs gs2 rb x .zero 0 0 (Ru.row ⟨1, ⟨#[]⟩, [bypass]⟩) [] [] [] (.sl []) (.sl []) (.sl []) (.sl [])) ⟨⟨⟨hN, Int.natCast_nonneg _, e40a, h17, h18⟩, ho, hf⟩, h97⟩ j0
          | some jm =>
            obtain ⟨j, m⟩ := jm
            rw [hn] at h97
            obtain ⟨m1, m2, m3, m4, m5, m6, m7⟩ := mk7 hrf ho hf (t := gold) (.inl rfl) hn
            exact r7b200s (v := mk7v l nx na gk gs gs2 rb x m (j : Nat) 0 (Ru.row ⟨1, ⟨#[]⟩, [bypass]⟩) [] [] [] (.sl []) (.sl []) (.sl []) (.sl [])) ⟨⟨⟨hN, Int.natCast_nonneg _, e40a, h17, h18⟩, ho, hf⟩, h97, m1, m2, m3, m4, m5, m7 [⟨2, gold, x :: []⟩, ⟨1, ⟨#[]⟩, [bypass]⟩] 0 ⟨2, gold, x :: []⟩ rfl rfl ⟨by simp, fun b hb => hgo b hb⟩ (List.mem_cons_self), m6⟩ j0
        ·
          exact r7d21d (v := mk7v l nx na gk gs gs2 rb .zero .zero 0 0 (Ru.row ⟨2, gold, x :: []⟩) [] [] [] (.sl []) (.sl []) (.lit (.string ⟨#[]⟩)) (.sl [bypass.row])) ⟨hN, Int.natCast_nonneg _, e40a, h17, h18⟩ j1
    | [w1], _, hgo, h18 =>
      rcases ht with rfl | rfl
      ·
        have hj := hj 1 (by decide)
        have j0 : nx (na (na (na (na (na (na (gk : Nat))))))) 1 = 0 := by omega
        have h97 := h48 x gold ho
        cases hn : nar x.swap gold 0 rb with
        | none =>
          rw [hn] at h97
          exact r7b101z (v := mk7v l nx na gk gs gs2 rb x .zero 0 0 [] [] [] w1.row (.sl []) (.sl []) (.sl []) (.sl [])) ⟨⟨⟨hN, Int.natCast_nonneg _, e40a, h17, h18⟩, ho, hf⟩, h97⟩ j0
        | some jm =>
          obtain ⟨j, m⟩ := jm
          rw [hn] at h97
          obtain ⟨m1, m2, m3, m4, m5, m6, m7⟩ := mk7 hrf ho hf (t := gold) (.inl rfl) hn
          exact r7b101s (v := mk7v l nx na gk gs gs2 rb x m (j : Nat) 0 [] [] [] w1.row (.sl []) (.sl []) (.sl []) (.sl [])) ⟨⟨⟨hN, Int.natCast_nonneg _, e40a, h17, h18⟩, ho, hf⟩, h97, m1, m2, m3, m4, m5, m7 [⟨2, gold, x :: [w1]⟩] 0 ⟨2, gold, x :: [w1]⟩ rfl rfl ⟨by simp, fun b hb => hgo b hb⟩ (List.mem_cons_self), m6⟩ j0
      ·
        have hj := hj 2 (by decide)
        rcases (show nx (na (na (na (na (na (na (gk : Nat))))))) 2 = 0 ∨ nx (na (na (na (na (na (na (gk : Nat))))))) 2 = 1 by omega) with j0 | j1
        ·
          have h97 := h48 x gold ho
          cases hn : nar x.swap gold 0 rb with
          | none =>
            rw [hn] at h97
            exact r7b201z (v := mk7v l nx na gk gs gs2 rb x .zero 0 0 (Ru.row ⟨1, ⟨#[]⟩, [bypass]⟩) [] [] w1.row (.sl []) (.sl []) (.sl []) (.sl [])) ⟨⟨⟨hN, Int.natCast_nonneg _, e40a, h17, h18⟩, ho, hf⟩, h97⟩ j0
          | some jm =>
            obtain ⟨j, m⟩ := jm
            rw [hn] at h97
            obtain ⟨m1, m2, m3, m4, m5, m6, m7⟩ := mk7 hrf ho hf (t := gold) (.inl rfl) hn
            exact r7b201s (v := mk7v l nx na gk gs gs2 rb x m (j : Nat) 0 (Ru.row ⟨1, ⟨#[]⟩, [bypass]⟩) [] [] w1.row (.sl []) (.sl []) (.sl []) (.sl [])) ⟨⟨⟨hN, Int.natCast_nonneg _, e40a, h17, h18⟩, ho, hf⟩, h97, m1, m2, m3, m4, m5, m7 [⟨2, gold, x :: [w1]⟩, ⟨1, ⟨#[]⟩, [bypass]⟩] 0 ⟨2, gold, x :: [w1]⟩ rfl rfl ⟨by simp, fun b hb => hgo b hb⟩ (List.mem_cons_self), m6⟩ j0
        ·
          exact r7d21d (v := mk7v l nx na gk gs gs2 rb .zero .zero 0 0 (Ru.row ⟨2, gold, x :: [w1]⟩) [] [] [] (.sl []) (.sl []) (.lit (.string ⟨#[]⟩)) (.sl [bypass.row])) ⟨hN, Int.natCast_nonneg _, e40a, h17, h18⟩ j1
    | _ :: _ :: _, hm, _, _ => exact absurd hm (by simp)
  | [u0], _, hall, h18 =>
    obtain ⟨hc0, y0, hy0, hyo0, hyf0⟩ := hall u0 (by simp)
    obtain ⟨ac0, tm0, bs0⟩ := u0
    simp only at hy0
    subst hy0
    simp only at hc0
    match more, hm, hgo, h18 with
    | [], _, hgo, h18 =>
      rcases ht with rfl | rfl
      ·
        have hj := hj 2 (by decide)
        rcases (show nx (na (na (na (na (na (na (gk : Nat))))))) 2 = 0 ∨ nx (na (na (na (na (na (na (gk : Nat))))))) 2 = 1 by omega) with j0 | j1
        ·
          rcases hc0 with ⟨rfl, rfl⟩ | hc
          ·
            have h97 := h48 y0 silver hyo0
            cases hn : nar y0.swap silver 0 rb with
            | none =>
              rw [hn] at h97
              exact r7a20z (v := mk7v l nx na gk gs gs2 rb y0 .zero 0 0 (Ru.row ⟨2, gold, x :: []⟩) [] [] [] (.sl []) (.sl []) (.sl []) (.sl [])) ⟨⟨⟨hN, Int.natCast_nonneg _, e40a, h17, h18⟩, hyo0, hyf0⟩, h97⟩ j0
            | some jm =>
              obtain ⟨j, m⟩ := jm
              rw [hn] at h97
              obtain ⟨m1, m2, m3, m4, m5, m6, m7⟩ := mk7 hrf hyo0 hyf0 (t := silver) (.inr rfl) hn
              exact r7a20s (v := mk7v l nx na gk gs gs2 rb y0 m (j : Nat) 0 (Ru.row ⟨2, gold, x :: []⟩) [] [] [] (.sl []) (.sl []) (.sl []) (.sl [])) ⟨⟨⟨hN, Int.natCast_nonneg _, e40a, h17, h18⟩, hyo0, hyf0⟩, h97, m1, m2, m3, m4, m5, m7 [⟨2, silver, [y0]⟩, ⟨2, gold, x :: []⟩] 0 ⟨2, silver, [y0]⟩ rfl rfl ⟨by simp, fun b hb => by simp at hb; subst hb; exact hyo0⟩ (List.mem_cons_self), m6⟩ j0
          ·
            have h97 := h48 x gold ho
            cases hn : nar x.swap gold 0 rb with
            | none =>
              rw [hn] at h97
              exact r7c200z (v := mk7v l nx na gk gs gs2 rb x .zero 0 ac0 [] [] [] [] (.lit (.string tm0)) (.sl [y0.row]) (.sl []) (.sl [])) ⟨⟨⟨hN, Int.natCast_nonneg _, e40a, h17, h18⟩, ho, hf⟩, h97⟩ j0 (by simp only; omega)
            | some jm =>
              obtain ⟨j, m⟩ := jm
              rw [hn] at h97
              obtain ⟨m1, m2, m3, m4, m5, m6, m7⟩ := mk7 hrf ho hf (t := gold) (.inl rfl) hn
              exact r7c200s (v := mk7v l nx na gk gs gs2 rb x m (j : Nat) ac0 [] [] [] [] (.lit (.string tm0)) (.sl [y0.row]) (.sl []) (.sl [])) ⟨⟨⟨hN, Int.natCast_nonneg _, e40a, h17, h18⟩, ho, hf⟩, h97, m1, m2, m3, m4, m5, m7 [⟨ac0, tm0, [y0]⟩, ⟨2, gold, x :: []⟩] 1 ⟨2, gold, x :: []⟩ rfl rfl ⟨by simp, fun b hb => hgo b hb⟩ (List.mem_cons_self), m6⟩ j0 (by simp only; omega)
        ·
          have h97 := h48 x gold ho
          cases hn : nar x.swap gold 0 rb with
          | none =>
            rw [hn] at h97
            exact r7b210z (v := mk7v l nx na gk gs gs2 rb x .zero 0 0 (Ru.row ⟨ac0, tm0, [y0]⟩) [] [] [] (.sl []) (.sl []) (.sl []) (.sl [])) ⟨⟨⟨hN, Int.natCast_nonneg _, e40a, h17, h18⟩, ho, hf⟩, h97⟩ j1
          | some jm =>
            obtain ⟨j, m⟩ := jm
            rw [hn] at h97
            obtain ⟨m1, m2, m3, m4, m5, m6, m7⟩ := mk7 hrf ho hf (t := gold) (.inl rfl) hn
            exact r7b210s (v := mk7v l nx na gk gs gs2 rb x m (j : Nat) 0 (Ru.row ⟨ac0, tm0, [y0]⟩) [] [] [] (.sl []) (.sl []) (.sl []) (.sl [])) ⟨⟨⟨hN, Int.natCast_nonneg _, e40a, h17, h18⟩, ho, hf⟩, h97, m1, m2, m3, m4, m5, m7 [⟨ac0, tm0, [y0]⟩, ⟨2, gold, x :: []⟩] 1 ⟨2, gold, x :: []⟩ rfl rfl ⟨by simp, fun b hb => hgo b hb⟩ (List.mem_cons_self), m6⟩ j1
      ·
        have hj := hj 3 (by decide)
        rcases (show nx (na (na (na (na (na (na (gk : Nat))))))) 3 = 0 ∨ nx (na (na (na (na (na (na (gk : Nat))))))) 3 = 1 ∨ nx (na (na (na (na (na (na (gk : Nat))))))) 3 = 2 by omega) with j0 | j1 | j2
        ·
          rcases hc0 with ⟨rfl, rfl⟩ | hc
          ·
            have h97 := h48 y0 silver hyo0
            cases hn : nar y0.swap silver 0 rb with
            | none =>
              rw [hn] at h97
              exact r7a30z (v := mk7v l nx na gk gs gs2 rb y0 .zero 0 0 (Ru.row ⟨2, gold, x :: []⟩) (Ru.row ⟨1, ⟨#[]⟩, [bypass]⟩) [] [] (.sl []) (.sl []) (.sl []) (.sl [])) ⟨⟨⟨hN, Int.natCast_nonneg _, e40a, h17, h18⟩, hyo0, hyf0⟩, h97⟩ j0
            | some jm =>
              obtain ⟨j, m⟩ := jm
              rw [hn] at h97
              obtain ⟨m1, m2, m3, m4, m5, m6, m7⟩ := mk7 hrf hyo0 hyf0 (t := silver) (.inr rfl) hn
              exact r7a30s (v := mk7v l nx na gk gs gs2 rb y0 m (j : Nat) 0 (Ru.row ⟨2, gold, x :: []⟩) (Ru.row ⟨1, ⟨#[]⟩, [bypass]⟩) [] [] (.sl []) (.sl []) (.sl []) (.sl [])) ⟨⟨⟨hN, Int.natCast_nonneg _, e40a, h17, h18⟩, hyo0, hyf0⟩, h97, m1, m2, m3, m4, m5, m7 [⟨2, silver, [y0]⟩, ⟨2, gold, x :: []⟩, ⟨1, ⟨#[]⟩, [bypass]⟩] 0 ⟨2, silver, [y0]⟩ rfl rfl ⟨by simp, fun b hb => by simp at hb; subst hb; exact hyo0⟩ (List.mem_cons_self), m6⟩ j0
          · exact r7d30d (v := mk7v l nx na gk gs gs2 rb .zero .zero 0 ac0 (Ru.row ⟨2, gold, x :: []⟩) [] [] [] (.lit (.string tm0)) (.sl [y0.row]) (.lit (.string ⟨#[]⟩)) (.sl [bypass.row])) ⟨hN, Int.natCast_nonneg _, e40a, h17, h18⟩ j0 (by simp only; omega)
        ·
          have h97 := h48 x gold ho
          cases hn : nar x.swap gold 0 rb with
          | none =>
            rw [hn] at h97
            exact r7b310z (v := mk7v l nx na gk gs gs2 rb x .zero 0 0 (Ru.row ⟨ac0, tm0, [y0]⟩) (Ru.row ⟨1, ⟨#[]⟩, [bypass]⟩) [] [] (.sl []) (.sl []) (.sl []) (.sl [])) ⟨⟨⟨hN, Int.natCast_nonneg _, e40a, h17, h18⟩, ho, hf⟩, h97⟩ j1
          | some jm =>
            obtain ⟨j, m⟩ := jm
            rw [hn] at h97
            obtain ⟨m1, m2, m3, m4, m5, m6, m7⟩ := mk7 hrf ho hf (t := gold) (.inl rfl) hn
            exact r7b310s (v := mk7v l nx na gk gs gs2 rb x m (j : Nat) 0 (Ru.row ⟨ac0, tm0, [y0]⟩) (Ru.row ⟨1, ⟨#[]⟩, [bypass]⟩) [] [] (.sl []) (.sl []) (.sl []) (.sl [])) ⟨⟨⟨hN, Int.natCast_nonneg _, e40a, h17, h18⟩, ho, hf⟩, h97, m1, m2, m3, m4, m5, m7 [⟨ac0, tm0, [y0]⟩, ⟨2, gold, x :: []⟩, ⟨1, ⟨#[]⟩, [bypass]⟩] 1 ⟨2, gold, x :: []⟩ rfl rfl ⟨by simp, fun b hb => hgo b hb⟩ (List.mem_cons_self), m6⟩ j1
        ·
          exact r7d32d (v := mk7v l nx na gk gs gs2 rb .zero .zero 0 0 (Ru.row ⟨ac0, tm0, [y0]⟩) (Ru.row ⟨2, gold, x :: []⟩) [] [] (.sl []) (.sl []) (.lit (.string ⟨#[]⟩)) (.sl [bypass.row])) ⟨hN, Int.natCast_nonneg _, e40a, h17, h18⟩ j2
    | [w1], _, hgo, h18 =>
      rcases ht with rfl | rfl
      ·
        have hj := hj 2 (by decide)
        rcases (show nx (na (na (na (na (na (na (gk : Nat))))))) 2 = 0 ∨ nx (na (na (na (na (na (na (gk : Nat))))))) 2 = 1 by omega) with j0 | j1
        ·
          rcases hc0 with ⟨rfl, rfl⟩ | hc
          ·
            have h97 := h48 y0 silver hyo0
            cases hn : nar y0.swap silver 0 rb with
            | none =>
              rw [hn] at h97
              exact r7a20z (v := mk7v l nx na gk gs gs2 rb y0 .zero 0 0 (Ru.row ⟨2, gold, x :: [w1]⟩) [] [] [] (.sl []) (.sl []) (.sl []) (.sl [])) ⟨⟨⟨hN, Int.natCast_nonneg _, e40a, h17, h18⟩, hyo0, hyf0⟩, h97⟩ j0
            | some jm =>
              obtain ⟨j, m⟩ := jm
              rw [hn] at h97
              obtain ⟨m1, m2, m3, m4, m5, m6, m7⟩ := mk7 hrf hyo0 hyf0 (t := silver) (.inr rfl) hn
              exact r7a20s (v := mk7v l nx na gk gs gs2 rb y0 m (j : Nat) 0 (Ru.row ⟨2, gold, x :: [w1]⟩) [] [] [] (.sl []) (.sl []) (.sl []) (.sl [])) ⟨⟨⟨hN, Int.natCast_nonneg _, e40a, h17, h18⟩, hyo0, hyf0⟩, h97, m1, m2, m3, m4, m5, m7 [⟨2, silver, [y0]⟩, ⟨2, gold, x :: [w1]⟩] 0 ⟨2, silver, [y0]⟩ rfl rfl ⟨by simp, fun b hb => by simp at hb; subst hb; exact hyo0⟩ (List.mem_cons_self), m6⟩ j0
          ·
            have h97 := h48 x gold ho
            cases hn : nar x.swap gold 0 rb with
            | none =>
              rw [hn] at h97
              exact r7c201z (v := mk7v l nx na gk gs gs2 rb x .zero 0 ac0 [] [] [] w1.row (.lit (.string tm0)) (.sl [y0.row]) (.sl []) (.sl [])) ⟨⟨⟨hN, Int.natCast_nonneg _, e40a, h17, h18⟩, ho, hf⟩, h97⟩ j0 (by simp only; omega)
            | some jm =>
              obtain ⟨j, m⟩ := jm
              rw [hn] at h97
              obtain ⟨m1, m2, m3, m4, m5, m6, m7⟩ := mk7 hrf ho hf (t := gold) (.inl rfl) hn
              exact r7c201s (v := mk7v l nx na gk gs gs2 rb x m (j : Nat) ac0 [] [] [] w1.row (.lit (.string tm0)) (.sl [y0.row]) (.sl []) (.sl [])) ⟨⟨⟨hN, Int.natCast_nonneg _, e40a, h17, h18⟩, ho, hf⟩, h97, m1, m2, m3, m4, m5, m7 [⟨ac0, tm0, [y0]⟩, ⟨2, gold, x :: [w1]⟩] 1 ⟨2, gold, x :: [w1]⟩ rfl rfl ⟨by simp, fun b hb => hgo b hb⟩ (List.mem_cons_self), m6⟩ j0 (by simp only; omega)
        ·
          have h97 := h48 x gold ho
          cases hn : nar x.swap gold 0 rb with
          | none =>
            rw [hn] at h97
            exact r7b211z (v := mk7v l nx na gk gs gs2 rb x .zero 0 0 (Ru.row ⟨ac0, tm0, [y0]⟩) [] [] w1.row (.sl []) (.sl []) (.sl []) (.sl [])) ⟨⟨⟨hN, Int.natCast_nonneg _, e40a, h17, h18⟩, ho, hf⟩, h97⟩ j1
          | some jm =>
            obtain ⟨j, m⟩ := jm
            rw [hn] at h97
            obtain ⟨m1, m2, m3, m4, m5, m6, m7⟩ := mk7 hrf ho hf (t := gold) (.inl rfl) hn
            exact r7b211s (v := mk7v l nx na gk gs gs2 rb x m (j : Nat) 0 (Ru.row ⟨ac0, tm0, [y0]⟩) [] [] w1.row (.sl []) (.sl []) (.sl []) (.sl [])) ⟨⟨⟨hN, Int.natCast_nonneg _, e40a, h17, h18⟩, ho, hf⟩, h97, m1, m2, m3, m4, m5, m7 [⟨ac0, tm0, [y0]⟩, ⟨2, gold, x :: [w1]⟩] 1 ⟨2, gold, x :: [w1]⟩ rfl rfl ⟨by simp, fun b hb => hgo b hb⟩ (List.mem_cons_self), m6⟩ j1
      ·
        have hj := hj 3 (by decide)
        rcases (show nx (na (na (na (na (na (na (gk : Nat))))))) 3 = 0 ∨ nx (na (na (na (na (na (na (gk : Nat))))))) 3 = 1 ∨ nx (na (na (na (na (na (na (gk : Nat))))))) 3 = 2 by omega) with j0 | j1 | j2
        ·
          rcases hc0 with ⟨rfl, rfl⟩ | hc
          ·
            have h97 := h48 y0 silver hyo0
            cases hn : nar y0.swap silver 0 rb with
            | none =>
              rw [hn] at h97
              exact r7a30z (v := mk7v l nx na gk gs gs2 rb y0 .zero 0 0 (Ru.row ⟨2, gold, x :: [w1]⟩) (Ru.row ⟨1, ⟨#[]⟩, [bypass]⟩) [] [] (.sl []) (.sl []) (.sl []) (.sl [])) ⟨⟨⟨hN, Int.natCast_nonneg _, e40a, h17, h18⟩, hyo0, hyf0⟩, h97⟩ j0
            | some jm =>
              obtain ⟨j, m⟩ := jm
              rw [hn] at h97
              obtain ⟨m1, m2, m3, m4, m5, m6, m7⟩ := mk7 hrf hyo0 hyf0 (t := silver) (.inr rfl) hn
              exact r7a30s (v := mk7v l nx na gk gs gs2 rb y0 m (j : Nat) 0 (Ru.row ⟨2, gold, x :: [w1]⟩) (Ru.row ⟨1, ⟨#[]⟩, [bypass]⟩) [] [] (.sl []) (.sl []) (.sl []) (.sl [])) ⟨⟨⟨hN, Int.natCast_nonneg _, e40a, h17, h18⟩, hyo0, hyf0⟩, h97, m1, m2, m3, m4, m5, m7 [⟨2, silver, [y0]⟩, ⟨2, gold, x :: [w1]⟩, ⟨1, ⟨#[]⟩, [bypass]⟩] 0 ⟨2, silver, [y0]⟩ rfl rfl ⟨by simp, fun b hb => by simp at hb; subst hb; exact hyo0⟩ (List.mem_cons_self), m6⟩ j0
          · exact r7d30d (v := mk7v l nx na gk gs gs2 rb .zero .zero 0 ac0 (Ru.row ⟨2, gold, x :: [w1]⟩) [] [] [] (.lit (.string tm0)) (.sl [y0.row]) (.lit (.string ⟨#[]⟩)) (.sl [bypass.row])) ⟨hN, Int.natCast_nonneg _, e40a, h17, h18⟩ j0 (by simp only; omega)
        ·
          have h97 := h48 x gold ho
          cases hn : nar x.swap gold 0 rb with
          | none =>
            rw [hn] at h97
            exact r7b311z (v := mk7v l nx na gk gs gs2 rb x .zero 0 0 (Ru.row ⟨ac0, tm0, [y0]⟩) (Ru.row ⟨1, ⟨#[]⟩, [bypass]⟩) [] w1.row (.sl []) (.sl []) (.sl []) (.sl [])) ⟨⟨⟨hN, Int.natCast_nonneg _, e40a, h17, h18⟩, ho, hf⟩, h97⟩ j1
          | some jm =>
            obtain ⟨j, m⟩ := jm
            rw [hn] at h97
            obtain ⟨m1, m2, m3, m4, m5, m6, m7⟩ := mk7 hrf ho hf (t := gold) (.inl rfl) hn
            exact r7b311s (v := mk7v l nx na gk gs gs2 rb x m (j : Nat) 0 (Ru.row ⟨ac0, tm0, [y0]⟩) (Ru.row ⟨1, ⟨#[]⟩, [bypass]⟩) [] w1.row (.sl []) (.sl []) (.sl []) (.sl [])) ⟨⟨⟨hN, Int.natCast_nonneg _, e40a, h17, h18⟩, ho, hf⟩, h97, m1, m2, m3, m4, m5, m7 [⟨ac0, tm0, [y0]⟩, ⟨2, gold, x :: [w1]⟩, ⟨1, ⟨#[]⟩, [bypass]⟩] 1 ⟨2, gold, x :: [w1]⟩ rfl rfl ⟨by simp, fun b hb => hgo b hb⟩ (List.mem_cons_self), m6⟩ j1
        ·
          exact r7d32d (v := mk7v l nx na gk gs gs2 rb .zero .zero 0 0 (Ru.row ⟨ac0, tm0, [y0]⟩) (Ru.row ⟨2, gold, x :: [w1]⟩) [] [] (.sl []) (.sl []) (.lit (.string ⟨#[]⟩)) (.sl [bypass.row])) ⟨hN, Int.natCast_nonneg _, e40a, h17, h18⟩ j2
    | _ :: _ :: _, hm, _, _ => exact absurd hm (by simp)
  | [u0, u1], _, hall, h18 =>
    obtain ⟨hc0, y0, hy0, hyo0, hyf0⟩ := hall u0 (by simp)
    obtain ⟨hc1, y1, hy1, hyo1, hyf1⟩ := hall u1 (by simp)
    obtain ⟨ac0, tm0, bs0⟩ := u0
    simp only at hy0
    subst hy0
    simp only at hc0
    obtain ⟨ac1, tm1, bs1⟩ := u1
    simp only at hy1
    subst hy1
    simp only at hc1
    match more, hm, hgo, h18 with
    | [], _, hgo, h18 =>
      rcases ht with rfl | rfl
      ·
        have hj := hj 3 (by decide)
        rcases (show nx (na (na (na (na (na (na (gk : Nat))))))) 3 = 0 ∨ nx (na (na (na (na (na (na (gk : Nat))))))) 3 = 1 ∨ nx (na (na (na (na (na (na (gk : Nat))))))) 3 = 2 by omega) with j0 | j1 | j2
        ·
          rcases hc0 with ⟨rfl, rfl⟩ | hc
          ·
            have h97 := h48 y0 silver hyo0
            cases hn : nar y0.swap silver 0 rb with
            | none =>
              rw [hn] at h97
              exact r7a30z (v := mk7v l nx na gk gs gs2 rb y0 .zero 0 0 (Ru.row ⟨ac1, tm1, [y1]⟩) (Ru.row ⟨2, gold, x :: []⟩) [] [] (.sl []) (.sl []) (.sl []) (.sl [])) ⟨⟨⟨hN, Int.natCast_nonneg _, e40a, h17, h18⟩, hyo0, hyf0⟩, h97⟩ j0
            | some jm =>
              obtain ⟨j, m⟩ := jm
              rw [hn] at h97
              obtain ⟨m1, m2, m3, m4, m5, m6, m7⟩ := mk7 hrf hyo0 hyf0 (t := silver) (.inr rfl) hn
              exact r7a30s (v := mk7v l nx na gk gs gs2 rb y0 m (j : Nat) 0 (Ru.row ⟨ac1, tm1, [y1]⟩) (Ru.row ⟨2, gold, x :: []⟩) [] [] (.sl []) (.sl []) (.sl []) (.sl [])) ⟨⟨⟨hN, Int.natCast_nonneg _, e40a, h17, h18⟩, hyo0, hyf0⟩, h97, m1, m2, m3, m4, m5, m7 [⟨2, silver, [y0]⟩, ⟨ac1, tm1, [y1]⟩, ⟨2, gold, x :: []⟩] 0 ⟨2, silver, [y0]⟩ rfl rfl ⟨by simp, fun b hb => by simp at hb; subst hb; exact hyo0⟩ (List.mem_cons_self), m6⟩ j0
          ·
            have h97 := h48 x gold ho
            cases hn : nar x.swap gold 0 rb with
            | none =>
              rw [hn] at h97
              exact r7c300z (v := mk7v l nx na gk gs gs2 rb x .zero 0 ac0 (Ru.row ⟨ac1, tm1, [y1]⟩) [] [] [] (.lit (.string tm0)) (.sl [y0.row]) (.sl []) (.sl [])) ⟨⟨⟨hN, Int.natCast_nonneg _, e40a, h17, h18⟩, ho, hf⟩, h97⟩ j0 (by simp only; omega)
            | some jm =>
              obtain ⟨j, m⟩ := jm
              rw [hn] at h97
              obtain ⟨m1, m2, m3, m4, m5, m6, m7⟩ := mk7 hrf ho hf (t := gold) (.inl rfl) hn
              exact r7c300s (v := mk7v l nx na gk gs gs2 rb x m (j : Nat) ac0 (Ru.row ⟨ac1, tm1, [y1]⟩) [] [] [] (.lit (.string tm0)) (.sl [y0.row]) (.sl []) (.sl [])) ⟨⟨⟨hN, Int.natCast_nonneg _, e40a, h17, h18⟩, ho, hf⟩, h97, m1, m2, m3, m4, m5, m7 [⟨ac0, tm0, [y0]⟩, ⟨ac1, tm1, [y1]⟩, ⟨2, gold, x :: []⟩] 2 ⟨2, gold, x :: []⟩ rfl rfl ⟨by simp, fun b hb => hgo b hb⟩ (List.mem_cons_self), m6⟩ j0 (by simp only; omega)
        ·
          rcases hc1 with ⟨rfl, rfl⟩ | hc
          ·
            have h97 := h48 y1 silver hyo1
            cases hn : nar y1.swap silver 0 rb with
            | none =>
              rw [hn] at h97
              exact r7a31z (v := mk7v l nx na gk gs gs2 rb y1 .zero 0 0 (Ru.row ⟨ac0, tm0, [y0]⟩) (Ru.row ⟨2, gold, x :: []⟩) [] [] (.sl []) (.sl []) (.sl []) (.sl [])) ⟨⟨⟨hN, Int.natCast_nonneg _, e40a, h17, h18⟩, hyo1, hyf1⟩, h97⟩ j1
            | some jm =>
              obtain ⟨j, m⟩ := jm
              rw [hn] at h97
              obtain ⟨m1, m2, m3, m4, m5, m6, m7⟩ := mk7 hrf hyo1 hyf1 (t := silver) (.inr rfl) hn
              exact r7a31s (v := mk7v l nx na gk gs gs2 rb y1 m (j : Nat) 0 (Ru.row ⟨ac0, tm0, [y0]⟩) (Ru.row ⟨2, gold, x :: []⟩) [] [] (.sl []) (.sl []) (.sl []) (.sl [])) ⟨⟨⟨hN, Int.natCast_nonneg _, e40a, h17, h18⟩, hyo1, hyf1⟩, h97, m1, m2, m3, m4, m5, m7 [⟨ac0, tm0, [y0]⟩, ⟨2, silver, [y1]⟩, ⟨2, gold, x :: []⟩] 1 ⟨2, silver, [y1]⟩ rfl rfl ⟨by simp, fun b hb => by simp at hb; subst hb; exact hyo1⟩ (List.mem_cons_self), m6⟩ j1
          ·
            have h97 := h48 x gold ho
            cases hn : nar x.swap gold 0 rb with
            | none =>
              rw [hn] at h97
              exact r7c310z (v := mk7v l nx na gk gs gs2 rb x .zero 0 ac1 (Ru.row ⟨ac0, tm0, [y0]⟩) [] [] [] (.lit (.string tm1)) (.sl [y1.row]) (.sl []) (.sl [])) ⟨⟨⟨hN, Int.natCast_nonneg _, e40a, h17, h18⟩, ho, hf⟩, h97⟩ j1 (by simp only; omega)
            | some jm =>
              obtain ⟨j, m⟩ := jm
              rw [hn] at h97
              obtain ⟨m1, m2, m3, m4, m5, m6, m7⟩ := mk7 hrf ho hf (t := gold) (.inl rfl) hn
              exact r7c310s (v := mk7v l nx na gk gs gs2 rb x m (j : Nat) ac1 (Ru.row ⟨ac0, tm0, [y0]⟩) [] [] [] (.lit (.string tm1)) (.sl [y1.row]) (.sl []) (.sl [])) ⟨⟨⟨hN, Int.natCast_nonneg _, e40a, h17, h18⟩, ho, hf⟩, h97, m1, m2, m3, m4, m5, m7 [⟨ac0, tm0, [y0]⟩, ⟨ac1, tm1, [y1]⟩, ⟨2, gold, x :: []⟩] 2 ⟨2, gold, x :: []⟩ rfl rfl ⟨by simp, fun b hb => hgo b hb⟩ (List.mem_cons_self), m6⟩ j1 (by simp only; omega)
        ·
          have h97 := h48 x gold ho
          cases hn : nar x.swap gold 0 rb with
          | none =>
            rw [hn] at h97
            exact r7b320z (v := mk7v l nx na gk gs gs2 rb x .zero 0 0 (Ru.row ⟨ac0, tm0, [y0]⟩) (Ru.row ⟨ac1, tm1, [y1]⟩) [] [] (.sl []) (.sl []) (.sl []) (.sl [])) ⟨⟨⟨hN, Int.natCast_nonneg _, e40a, h17, h18⟩, ho, hf⟩, h97⟩ j2
          | some jm =>
            obtain ⟨j, m⟩ := jm
            rw [hn] at h97
            obtain ⟨m1, m2, m3, m4, m5, m6, m7⟩ := mk7 hrf ho hf (t := gold) (.inl rfl) hn
            exact r7b320s (v := mk7v l nx na gk gs gs2 rb x m (j : Nat) 0 (Ru.row ⟨ac0, tm0, [y0]⟩) (Ru.row ⟨ac1, tm1, [y1]⟩) [] [] (.sl []) (.sl []) (.sl []) (.sl [])) ⟨⟨⟨hN, Int.natCast_nonneg _, e40a, h17, h18⟩, ho, hf⟩, h97, m1, m2, m3, m4, m5, m7 [⟨ac0, tm0, [y0]⟩, ⟨ac1, tm1, [y1]⟩, ⟨2, gold, x :: []⟩] 2 ⟨2, gold, x :: []⟩ rfl rfl ⟨by simp, fun b hb => hgo b hb⟩ (List.mem_cons_self), m6⟩ j2
      ·
        have hj := hj 4 (by decide)
        rcases (show nx (na (na (na (na (na (na (gk : Nat))))))) 4 = 0 ∨ nx (na (na (na (na (na (na (gk : Nat))))))) 4 = 1 ∨ nx (na (na (na (na (na (na (gk : Nat))))))) 4 = 2 ∨ nx (na (na (na (na (na (na (gk : Nat))))))) 4 = 3 by omega) with j0 | j1 | j2 | j3
        ·
          rcases hc0 with ⟨rfl, rfl⟩ | hc
          ·
            have h97 := h48 y0 silver hyo0
            cases hn : nar y0.swap silver 0 rb with
            | none =>
              rw [hn] at h97
              exact r7a40z (v := mk7v l nx na gk gs gs2 rb y0 .zero 0 0 (Ru.row ⟨ac1, tm1, [y1]⟩) (Ru.row ⟨2, gold, x :: []⟩) (Ru.row ⟨1, ⟨#[]⟩, [bypass]⟩) [] (.sl []) (.sl []) (.sl []) (.sl [])) ⟨⟨⟨hN, Int.natCast_nonneg _, e40a, h17, h18⟩, hyo0, hyf0⟩, h97⟩ j0
            | some jm =>
              obtain ⟨j, m⟩ := jm
              rw [hn] at h97
              obtain ⟨m1, m2, m3, m4, m5, m6, m7⟩ := mk7 hrf hyo0 hyf0 (t := silver) (.inr rfl) hn
              exact r7a40s (v := mk7v l nx na gk gs gs2 rb y0 m (j : Nat) 0 (Ru.row ⟨ac1, tm1, [y1]⟩) (Ru.row ⟨2, gold, x :: []⟩) (Ru.row ⟨1, ⟨#[]⟩, [bypass]⟩) [] (.sl []) (.sl []) (.sl []) (.sl [])) ⟨⟨⟨hN, Int.natCast_nonneg _, e40a, h17, h18⟩, hyo0, hyf0⟩, h97, m1, m2, m3, m4, m5, m7 [⟨2, silver, [y0]⟩, ⟨ac1, tm1, [y1]⟩, ⟨2, gold, x :: []⟩, ⟨1, ⟨#[]⟩, [bypass]⟩] 0 ⟨2, silver, [y0]⟩ rfl rfl ⟨by simp, fun b hb => by simp at hb; subst hb; exact hyo0⟩ (List.mem_cons_self), m6⟩ j0
          · exact r7d40d (v := mk7v l nx na gk gs gs2 rb .zero .zero 0 ac0 (Ru.row ⟨ac1, tm1, [y1]⟩) (Ru.row ⟨2, gold, x :: []⟩) [] [] (.lit (.string tm0)) (.sl [y0.row]) (.lit (.string ⟨#[]⟩)) (.sl [bypass.row])) ⟨hN, Int.natCast_nonneg _, e40a, h17, h18⟩ j0 (by simp only; omega)
        ·
          rcases hc1 with ⟨rfl, rfl⟩ | hc
          ·
            have h97 := h48 y1 silver hyo1
            cases hn : nar y1.swap silver 0 rb with
            | none =>
              rw [hn] at h97
              exact r7a41z (v := mk7v l nx na gk gs gs2 rb y1 .zero 0 0 (Ru.row ⟨ac0, tm0, [y0]⟩) (Ru.row ⟨2, gold, x :: []⟩) (Ru.row ⟨1, ⟨#[]⟩, [bypass]⟩) [] (.sl []) (.sl []) (.sl []) (.sl [])) ⟨⟨⟨hN, Int.natCast_nonneg _, e40a, h17, h18⟩, hyo1, hyf1⟩, h97⟩ j1
            | some jm =>
              obtain ⟨j, m⟩ := jm
              rw [hn] at h97
              obtain ⟨m1, m2, m3, m4, m5, m6, m7⟩ := mk7 hrf hyo1 hyf1 (t := silver) (.inr rfl) hn
              exact r7a41s (v := mk7v l nx na gk gs gs2 rb y1 m (j : Nat) 0 (Ru.row ⟨ac0, tm0, [y0]⟩) (Ru.row ⟨2, gold, x :: []⟩) (Ru.row ⟨1, ⟨#[]⟩, [bypass]⟩) [] (.sl []) (.sl []) (.sl []) (.sl [])) ⟨⟨⟨hN, Int.natCast_nonneg _, e40a, h17, h18⟩, hyo1, hyf1⟩, h97, m1, m2, m3, m4, m5, m7 [⟨ac0, tm0, [y0]⟩, ⟨2, silver, [y1]⟩, ⟨2, gold, x :: []⟩, ⟨1, ⟨#[]⟩, [bypass]⟩] 1 ⟨2, silver, [y1]⟩ rfl rfl ⟨by simp, fun b hb => by simp at hb; subst hb; exact hyo1⟩ (List.mem_cons_self), m6⟩ j1
          · exact r7d41d (v := mk7v l nx na gk gs gs2 rb .zero .zero 0 ac1 (Ru.row ⟨ac0, tm0, [y0]⟩) (Ru.row ⟨2, gold, x :: []⟩) [] [] (.lit (.string tm1)) (.sl [y1.row]) (.lit (.string ⟨#[]⟩)) (.sl [bypass.row])) ⟨hN, Int.natCast_nonneg _, e40a, h17, h18⟩ j1 (by simp only; omega)
        ·
          have h97 := h48 x gold ho
          cases hn : nar x.swap gold 0 rb with
          | none =>
            rw [hn] at h97
            exact r7b420z (v := mk7v l nx na gk gs gs2 rb x .zero 0 0 (Ru.row ⟨ac0, tm0, [y0]⟩) (Ru.row ⟨ac1, tm1, [y1]⟩) (Ru.row ⟨1, ⟨#[]⟩, [bypass]⟩) [] (.sl []) (.sl []) (.sl []) (.sl [])) ⟨⟨⟨hN, Int.natCast_nonneg _, e40a, h17, h18⟩, ho, hf⟩, h97⟩ j2
          | some jm =>
            obtain ⟨j, m⟩ := jm
            rw [hn] at h97
            obtain ⟨m1, m2, m3, m4, m5, m6, m7⟩ := mk7 hrf ho hf (t := gold) (.inl rfl) hn
            exact r7b420s (v := mk7v l nx na gk gs gs2 rb x m (j : Nat) 0 (Ru.row ⟨ac0, tm0, [y0]⟩) (Ru.row ⟨ac1, tm1, [y1]⟩) (Ru.row ⟨1, ⟨#[]⟩, [bypass]⟩) [] (.sl []) (.sl []) (.sl []) (.sl [])) ⟨⟨⟨hN, Int.natCast_nonneg _, e40a, h17, h18⟩, ho, hf⟩, h97, m1, m2, m3, m4, m5, m7 [⟨ac0, tm0, [y0]⟩, ⟨ac1, tm1, [y1]⟩, ⟨2, gold, x :: []⟩, ⟨1, ⟨#[]⟩, [bypass]⟩] 2 ⟨2, gold, x :: []⟩ rfl rfl ⟨by simp, fun b hb => hgo b hb⟩ (List.mem_cons_self), m6⟩ j2
        ·
          exact r7d43d (v := mk7v l nx na gk gs gs2 rb .zero .zero 0 0 (Ru.row ⟨ac0, tm0, [y0]⟩) (Ru.row ⟨ac1, tm1, [y1]⟩) (Ru.row ⟨2, gold, x :: []⟩) [] (.sl []) (.sl []) (.lit (.string ⟨#[]⟩)) (.sl [bypass.row])) ⟨hN, Int.natCast_nonneg _, e40a, h17, h18⟩ j3
    | [w1], _, hgo, h18 =>
      rcases ht with rfl | rfl
      ·
        have hj := hj 3 (by decide)
        rcases (show nx (na (na (na (na (na (na (gk : Nat))))))) 3 = 0 ∨ nx (na (na (na (na (na (na (gk : Nat))))))) 3 = 1 ∨ nx (na (na (na (na (na (na (gk : Nat))))))) 3 = 2 by omega) with j0 | j1 | j2
        ·
          rcases hc0 with ⟨rfl, rfl⟩ | hc
          ·
            have h97 := h48 y0 silver hyo0
            cases hn : nar y0.swap silver 0 rb with
            | none =>
              rw [hn] at h97
              exact r7a30z (v := mk7v l nx na gk gs gs2 rb y0 .zero 0 0 (Ru.row ⟨ac1, tm1, [y1]⟩) (Ru.row ⟨2, gold, x :: [w1]⟩) [] [] (.sl []) (.sl []) (.sl []) (.sl [])) ⟨⟨⟨hN, Int.natCast_nonneg _, e40a, h17, h18⟩, hyo0, hyf0⟩, h97⟩ j0
            | some jm =>
              obtain ⟨j, m⟩ := jm
              rw [hn] at h97
              obtain ⟨m1, m2, m3, m4, m5, m6, m7⟩ := mk7 hrf hyo0 hyf0 (t := silver) (.inr rfl) hn
              exact r7a30s (v := mk7v l nx na gk gs gs2 rb y0 m (j : Nat) 0 (Ru.row ⟨ac1, tm1, [y1]⟩) (Ru.row ⟨2, gold, x :: [w1]⟩) [] [] (.sl []) (.sl []) (.sl []) (.sl [])) ⟨⟨⟨hN, Int.natCast_nonneg _, e40a, h17, h18⟩, hyo0, hyf0⟩, h97, m1, m2, m3, m4, m5, m7 [⟨2, silver, [y0]⟩, ⟨ac1, tm1, [y1]⟩, ⟨2, gold, x :: [w1]⟩] 0 ⟨2, silver, [y0]⟩ rfl rfl ⟨by simp, fun b hb => by simp at hb; subst hb; exact hyo0⟩ (List.mem_cons_self), m6⟩ j0
          ·
            have h97 := h48 x gold ho
            cases hn : nar x.swap gold 0 rb with
            | none =>
              rw [hn] at h97
              exact r7c301z (v := mk7v l nx na gk gs gs2 rb x .zero 0 ac0 (Ru.row ⟨ac1, tm1, [y1]⟩) [] [] w1.row (.lit (.string tm0)) (.sl [y0.row]) (.sl []) (.sl [])) ⟨⟨⟨hN, Int.natCast_nonneg _, e40a, h17, h18⟩, ho, hf⟩, h97⟩ j0 (by simp only; omega)
            | some jm =>
              obtain ⟨j, m⟩ := jm
              rw [hn] at h97
              obtain ⟨m1, m2, m3, m4, m5, m6, m7⟩ := mk7 hrf ho hf (t := gold) (.inl rfl) hn
              exact r7c301s (v := mk7v l nx na gk gs gs2 rb x m (j : Nat) ac0 (Ru.row ⟨ac1, tm1, [y1]⟩) [] [] w1.row (.lit (.string tm0)) (.sl [y0.row]) (.sl []) (.sl [])) ⟨⟨⟨hN, Int.natCast_nonneg _, e40a, h17, h18⟩, ho, hf⟩, h97, m1, m2, m3, m4, m5, m7 [⟨ac0, tm0, [y0]⟩, ⟨ac1, tm1, [y1]⟩, ⟨2, gold, x :: [w1]⟩] 2 ⟨2, gold, x :: [w1]⟩ rfl rfl ⟨by simp, fun b hb => hgo b hb⟩ (List.mem_cons_self), m6⟩ j0 (by simp only; omega)
        ·
          rcases hc1 with ⟨rfl, rfl⟩ | hc
          ·
            have h97 := h48 y1 silver hyo1
            cases hn : nar y1.swap silver 0 rb with
            | none =>
              rw [hn] at h97
              exact r7a31z (v := mk7v l nx na gk gs gs2 rb y1 .zero 0 0 (Ru.row ⟨ac0, tm0, [y0]⟩) (Ru.row ⟨2, gold, x :: [w1]⟩) [] [] (.sl []) (.sl []) (.sl []) (.sl [])) ⟨⟨⟨hN, Int.natCast_nonneg _, e40a, h17, h18⟩, hyo1, hyf1⟩, h97⟩ j1
            | some jm =>
              obtain ⟨j, m⟩ := jm
              rw [hn] at h97
              obtain ⟨m1, m2, m3, m4, m5, m6, m7⟩ := mk7 hrf hyo1 hyf1 (t := silver) (.inr rfl) hn
              exact r7a31s (v := mk7v l nx na gk gs gs2 rb y1 m (j : Nat) 0 (Ru.row ⟨ac0, tm0, [y0]⟩) (Ru.row ⟨2, gold, x :: [w1]⟩) [] [] (.sl []) (.sl []) (.sl []) (.sl [])) ⟨⟨⟨hN, Int.natCast_nonneg _, e40a, h17, h18⟩, hyo1, hyf1⟩, h97, m1, m2, m3, m4, m5, m7 [⟨ac0, tm0, [y0]⟩, ⟨2, silver, [y1]⟩, ⟨2, gold, x :: [w1]⟩] 1 ⟨2, silver, [y1]⟩ rfl rfl ⟨by simp, fun b hb => by simp at hb; subst hb; exact hyo1⟩ (List.mem_cons_self), m6⟩ j1
          ·
            have h97 := h48 x gold ho
            cases hn : nar x.swap gold 0 rb with
            | none =>
              rw [hn] at h97
              exact r7c311z (v := mk7v l nx na gk gs gs2 rb x .zero 0 ac1 (Ru.row ⟨ac0, tm0, [y0]⟩) [] [] w1.row (.lit (.string tm1)) (.sl [y1.row]) (.sl []) (.sl [])) ⟨⟨⟨hN, Int.natCast_nonneg _, e40a, h17, h18⟩, ho, hf⟩, h97⟩ j1 (by simp only; omega)
            | some jm =>
              obtain ⟨j, m⟩ := jm
              rw [hn] at h97
              obtain ⟨m1, m2, m3, m4, m5, m6, m7⟩ := mk7 hrf ho hf (t := gold) (.inl rfl) hn
              exact r7c311s (v := mk7v l nx na gk gs gs2 rb x m (j : Nat) ac1 (Ru.row ⟨ac0, tm0, [y0]⟩) [] [] w1.row (.lit (.string tm1)) (.sl [y1.row]) (.sl []) (.sl [])) ⟨⟨⟨hN, Int.natCast_nonneg _, e40a, h17, h18⟩, ho, hf⟩, h97, m1, m2, m3, m4, m5, m7 [⟨ac0, tm0, [y0]⟩, ⟨ac1, tm1, [y1]⟩, ⟨2, gold, x :: [w1]⟩] 2 ⟨2, gold, x :: [w1]⟩ rfl rfl ⟨by simp, fun b hb => hgo b hb⟩ (List.mem_cons_self), m6⟩ j1 (by simp only; omega)
        ·
          have h97 := h48 x gold ho
          cases hn : nar x.swap gold 0 rb with
          | none =>
            rw [hn] at h97
            exact r7b321z (v := mk7v l nx na gk gs gs2 rb x .zero 0 0 (Ru.row ⟨ac0, tm0, [y0]⟩) (Ru.row ⟨ac1, tm1, [y1]⟩) [] w1.row (.sl []) (.sl []) (.sl []) (.sl [])) ⟨⟨⟨hN, Int.natCast_nonneg _, e40a, h17, h18⟩, ho, hf⟩, h97⟩ j2
          | some jm =>
            obtain ⟨j, m⟩ := jm
            rw [hn] at h97
            obtain ⟨m1, m2, m3, m4, m5, m6, m7⟩ := mk7 hrf ho hf (t := gold) (.inl rfl) hn
            exact r7b321s (v := mk7v l nx na gk gs gs2 rb x m (j : Nat) 0 (Ru.row ⟨ac0, tm0, [y0]⟩) (Ru.row ⟨ac1, tm1, [y1]⟩) [] w1.row (.sl []) (.sl []) (.sl []) (.sl [])) ⟨⟨⟨hN, Int.natCast_nonneg _, e40a, h17, h18⟩, ho, hf⟩, h97, m1, m2, m3, m4, m5, m7 [⟨ac0, tm0, [y0]⟩, ⟨ac1, tm1, [y1]⟩, ⟨2, gold, x :: [w1]⟩] 2 ⟨2, gold, x :: [w1]⟩ rfl rfl ⟨by simp, fun b hb => hgo b hb⟩ (List.mem_cons_self), m6⟩ j2
      ·
        have hj := hj 4 (by decide)
        rcases (show nx (na (na (na (na (na (na (gk : Nat))))))) 4 = 0 ∨ nx (na (na (na (na (na (na (gk : Nat))))))) 4 = 1 ∨ nx (na (na (na (na (na (na (gk : Nat))))))) 4 = 2 ∨ nx (na (na (na (na (na (na (gk : Nat))))))) 4 = 3 by omega) with j0 | j1 | j2 | j3
        ·
          rcases hc0 with ⟨rfl, rfl⟩ | hc
          ·
            have h97 := h48 y0 silver hyo0
            cases hn : nar y0.swap silver 0 rb with
            | none =>
              rw [hn] at h97
              exact r7a40z (v := mk7v l nx na gk gs gs2 rb y0 .zero 0 0 (Ru.row ⟨ac1, tm1, [y1]⟩) (Ru.row ⟨2, gold, x :: [w1]⟩) (Ru.row ⟨1, ⟨#[]⟩, [bypass]⟩) [] (.sl []) (.sl []) (.sl []) (.sl [])) ⟨⟨⟨hN, Int.natCast_nonneg _, e40a, h17, h18⟩, hyo0, hyf0⟩, h97⟩ j0
            | some jm =>
              obtain ⟨j, m⟩ := jm
              rw [hn] at h97
              obtain ⟨m1, m2, m3, m4, m5, m6, m7⟩ := mk7 hrf hyo0 hyf0 (t := silver) (.inr rfl) hn
              exact r7a40s (v := mk7v l nx na gk gs gs2 rb y0 m (j : Nat) 0 (Ru.row ⟨ac1, tm1, [y1]⟩) (Ru.row ⟨2, gold, x :: [w1]⟩) (Ru.row ⟨1, ⟨#[]⟩, [bypass]⟩) [] (.sl []) (.sl []) (.sl []) (.sl [])) ⟨⟨⟨hN, Int.natCast_nonneg _, e40a, h17, h18⟩, hyo0, hyf0⟩, h97, m1, m2, m3, m4, m5, m7 [⟨2, silver, [y0]⟩, ⟨ac1, tm1, [y1]⟩, ⟨2, gold, x :: [w1]⟩, ⟨1, ⟨#[]⟩, [bypass]⟩] 0 ⟨2, silver, [y0]⟩ rfl rfl ⟨by simp, fun b hb => by simp at hb; subst hb; exact hyo0⟩ (List.mem_cons_self), m6⟩ j0
          · exact r7d40d (v := mk7v l nx na gk gs gs2 rb .zero .zero 0 ac0 (Ru.row ⟨ac1, tm1, [y1]⟩) (Ru.row ⟨2, gold, x :: [w1]⟩) [] [] (.lit (.string tm0)) (.sl [y0.row]) (.lit (.string ⟨#[]⟩)) (.sl [bypass.row])) ⟨hN, Int.natCast_nonneg _, e40a, h17, h18⟩ j0 (by simp only; omega)
        ·
          rcases hc1 with ⟨rfl, rfl⟩ | hc
          ·
            have h97 := h48 y1 silver hyo1
            cases hn : nar y1.swap silver 0 rb with
            | none =>
              rw [hn] at h97
              exact r7a41z (v := mk7v l nx na gk gs gs2 rb y1 .zero 0 0 (Ru.row ⟨ac0, tm0, [y0]⟩) (Ru.row ⟨2, gold, x :: [w1]⟩) (Ru.row ⟨1, ⟨#[]⟩, [bypass]⟩) [] (.sl []) (.sl []) (.sl []) (.sl [])) ⟨⟨⟨hN, Int.natCast_nonneg _, e40a, h17, h18⟩, hyo1, hyf1⟩, h97⟩ j1
            | some jm =>
              obtain ⟨j, m⟩ := jm
              rw [hn] at h97
              obtain ⟨m1, m2, m3, m4, m5, m6, m7⟩ := mk7 hrf hyo1 hyf1 (t := silver) (.inr rfl) hn
              exact r7a41s (v := mk7v l nx na gk gs gs2 rb y1 m (j : Nat) 0 (Ru.row ⟨ac0, tm0, [y0]⟩) (Ru.row ⟨2, gold, x :: [w1]⟩) (Ru.row ⟨1, ⟨#[]⟩, [bypass]⟩) [] (.sl []) (.sl []) (.sl []) (.sl [])) ⟨⟨⟨hN, Int.natCast_nonneg _, e40a, h17, h18⟩, hyo1, hyf1⟩, h97, m1, m2, m3, m4, m5, m7 [⟨ac0, tm0, [y0]⟩, ⟨2, silver, [y1]⟩, ⟨2, gold, x :: [w1]⟩, ⟨1, ⟨#[]⟩, [bypass]⟩] 1 ⟨2, silver, [y1]⟩ rfl rfl ⟨by simp, fun b hb => by simp at hb; subst hb; exact hyo1⟩ (List.mem_cons_self), m6⟩ j1
          · exact r7d41d (v := mk7v l nx na gk gs gs2 rb .zero .zero 0 ac1 (Ru.row ⟨ac0, tm0, [y0]⟩) (Ru.row ⟨2, gold, x :: [w1]⟩) [] [] (.lit (.string tm1)) (.sl [y1.row]) (.lit (.string ⟨#[]⟩)) (.sl [bypass.row])) ⟨hN, Int.natCast_nonneg _, e40a, h17, h18⟩ j1 (by simp only; omega)
        ·
          have h97 := h48 x gold ho
          cases hn : nar x.swap gold 0 rb with
          | none =>
            rw [hn] at h97
            exact r7b421z (v := mk7v l nx na gk gs gs2 rb x .zero 0 0 (Ru.row ⟨ac0, tm0, [y0]⟩) (Ru.row ⟨ac1, tm1, [y1]⟩) (Ru.row ⟨1, ⟨#[]⟩, [bypass]⟩) w1.row (.sl []) (.sl []) (.sl []) (.sl [])) ⟨⟨⟨hN, Int.natCast_nonneg _, e40a, h17, h18⟩, ho, hf⟩, h97⟩ j2
          | some jm =>
            obtain ⟨j, m⟩ := jm
            rw [hn] at h97
            obtain ⟨m1, m2, m3, m4, m5, m6, m7⟩ := mk7 hrf ho hf (t := gold) (.inl rfl) hn
            exact r7b421s (v := mk7v l nx na gk gs gs2 rb x m (j : Nat) 0 (Ru.row ⟨ac0, tm0, [y0]⟩) (Ru.row ⟨ac1, tm1, [y1]⟩) (Ru.row ⟨1, ⟨#[]⟩, [bypass]⟩) w1.row (.sl []) (.sl []) (.sl []) (.sl [])) ⟨⟨⟨hN, Int.natCast_nonneg _, e40a, h17, h18⟩, ho, hf⟩, h97, m1, m2, m3, m4, m5, m7 [⟨ac0, tm0, [y0]⟩, ⟨ac1, tm1, [y1]⟩, ⟨2, gold, x :: [w1]⟩, ⟨1, ⟨#[]⟩, [bypass]⟩] 2 ⟨2, gold, x :: [w1]⟩ rfl rfl ⟨by simp, fun b hb => hgo b hb⟩ (List.mem_cons_self), m6⟩ j2
        ·
          exact r7d43d (v := mk7v l nx na gk gs gs2 rb .zero .zero 0 0 (Ru.row ⟨ac0, tm0, [y0]⟩) (Ru.row ⟨ac1, tm1, [y1]⟩) (Ru.row ⟨2, gold, x :: [w1]⟩) [] (.sl []) (.sl []) (.lit (.string ⟨#[]⟩)) (.sl [bypass.row])) ⟨hN, Int.natCast_nonneg _, e40a, h17, h18⟩ j3
    | _ :: _ :: _, hm, _, _ => exact absurd hm (by simp)
  | _ :: _ :: _ :: _, hp, _, _ => exact absurd hp (by simp)
end Go.Proofs.Ytciaehhaglaafaa
