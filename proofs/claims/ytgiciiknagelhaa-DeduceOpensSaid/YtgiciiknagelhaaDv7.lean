/- The nodes of a term as an iterator. Conditions: none. -/
import Derived.Test.YtgiciiknagelhaaVe
import Derived.Test.YtgiciiknagelhaaDv6
import Derived.OwnWalkIn
import Derived.TacticsInMore
set_option linter.unusedSimpArgs false
set_option linter.unusedVariables false
set_option maxRecDepth 100000
set_option maxHeartbeats 1000000
namespace Go.Proofs.Ytgiciiknagelhaa
open Go.VM
def rc155 : VFunc × RCode := (⟨13, .skip, [.tmp 2], false⟩, .seq (.base (.reg [⟨some 1, .boxv 3 (.t 0), none⟩, ⟨some 2, .mov (.c (.d (.lit (.int .i64 0)))), none⟩])) (.seq (.base (.reg [⟨some 3, .box [.d (.lit (.int .i64 0))], none⟩, ⟨none, .store (.t 3) (.c (.d (.lit (.int .i64 0)))) 1, none⟩])) (.seq (.seq (.base (.reg [⟨some 4, .load (.t 1) 3 true, none⟩, ⟨some 5, .call 156 [.t 4], none⟩])) (.block 0 (.rfor (.t 5) [6, 7] .skip (.block 1 (.seq (.reg [⟨some 8, .load (.t 3) 1 false, none⟩, ⟨some 9, .bin .add (.t 8) (.c (.d (.lit (.int .i64 1)))), none⟩, ⟨none, .store (.t 3) (.t 9) 1, none⟩]) (.seq (.reg [⟨some 10, .load (.t 3) 1 false, none⟩, ⟨some 11, .bin .gtr (.t 10) (.c (.d (.lit (.int .i64 600)))), none⟩]) (.cond (.t 11) (.exit 0) .skip))))))) (.base (.seq (.reg [⟨some 12, .load (.t 3) 1 false, none⟩, ⟨some 2, .mov (.t 12), none⟩]) .ret)))))
theorem rc155_ok : compFnR Try.prog [] 155 = some rc155 := by kernel_rfl
def rc91 : VFunc × RCode := (⟨19, .skip, [.cell 2 1 false], false⟩, .seq (.base (.reg [⟨some 1, .boxv 3 (.t 0), none⟩, ⟨some 2, .box [.d (.lit (.bool false))], none⟩])) (.seq (.base (.seq (.reg [⟨some 5, .load (.t 1) 3 true, none⟩, ⟨some 6, .call 155 [.t 5], none⟩, ⟨some 7, .bin .gtr (.t 6) (.c (.d (.lit (.int .i64 600)))), none⟩]) (.cond (.t 7) (.seq (.reg [⟨none, .store (.t 2) (.c (.d (.lit (.bool false)))) 1, none⟩]) .ret) .skip))) (.seq (.seq (.base (.reg [⟨some 8, .load (.t 1) 3 true, none⟩, ⟨some 9, .call 156 [.t 8], none⟩])) (.block 0 (.rfor (.t 9) [10, 11] (.seq (.reg [⟨some 3, .box [.d (.lit (.int .i64 0)), .d (.lit (.int .i64 0)), .nil], none⟩, ⟨none, .store (.t 3) (.t 10) 3, none⟩]) (.reg [⟨some 4, .mov (.t 11), none⟩])) (.block 1 (.seq (.reg [⟨some 12, .mov (.t 4), none⟩, ⟨some 13, .bin .gtr (.t 12) (.c (.d (.lit (.int .i64 60)))), none⟩, ⟨some 14, .mov (.t 13), none⟩, ⟨some 15, .load (.t 3) 3 true, some (14, false)⟩, ⟨some 16, .call 157 [.t 15], some (14, false)⟩, ⟨some 17, .un .not (.t 16), some (14, false)⟩, ⟨some 18, .pick (.t 14) (.c (.d (.lit (.bool true)))) (.t 17), none⟩]) (.cond (.t 18) (.seq (.reg [⟨none, .store (.t 2) (.c (.d (.lit (.bool false)))) 1, none⟩]) .ret) .skip)))))) (.base (.seq (.reg [⟨none, .store (.t 2) (.c (.d (.lit (.bool true)))) 1, none⟩]) .ret)))))
theorem rc91_ok : compFnR Try.prog [] 91 = some rc91 := by kernel_rfl
end Go.Proofs.Ytgiciiknagelhaa
set_option linter.unusedVariables false
namespace Go.Proofs.Ytgiciiknagelhaa
open Go.VM Go.Lib Go.RowKit Go.Shelf
section
attribute [local go_sem] Oper.semAt_some
theorem cutKIn {P : Program} {n : Nat} {c : Code} {K K' : Act → World → Prop} {B : Exit → Act → World → Prop} {a : Act} {w : World} (h : c.wpIn (wf none) n P (Exit.then K' B) a w) (q : ∀ a w, K' a w → K a w) : c.wpIn (wf none) n P (Exit.then K B) a w := by
  refine wpIn_mono h fun e a w k => ?_
  cases e with
  | normal => exact q a w k
  | _ => exact k
theorem roundsIn_ind {P : Program} {n : Nat} {c : Code} {Q : Exit → Act → World → Prop} (I : Nat → Act → World → Prop) (h0 : ∀ a w, ¬ I 0 a w) (hs : ∀ m a w, I (m + 1) a w → c.wpIn (wf none) n P (Exit.then (I m) Q) a w) : ∀ m a w, I m a w → Code.roundsIn (wf none) n P c Q m a w
  | 0, a, w, h => absurd h (h0 a w)
  | m + 1, a, w, h => by
    rw [roundsIn_succ]
    exact cutKIn (hs m a w h) fun a w k => roundsIn_ind I h0 hs m a w k
def S186 (dv yv sv : Value) (len i : Int) (a : Act) : Prop := a.defers = [] ∧ a.tmps.size = 28 ∧ a.tmps[1]? = some (dv) ∧ a.tmps[2]? = some (yv) ∧ a.tmps[6]? = some (.bool false) ∧ a.tmps[15]? = some (sv) ∧ a.tmps[16]? = some (.int .i64 len) ∧ a.tmps[17]? = some (.int .i64 i)
theorem S186.ex {dv yv sv : Value} {len i : Int} {a : Act} (h : S186 dv yv sv len i a) : ∃ y : Nat → Value, a = ⟨#[y 0, dv, yv, y 3, y 4, y 5, .bool false, y 7, y 8, y 9, y 10, y 11, y 12, y 13, y 14, sv, .int .i64 len, .int .i64 i, y 18, y 19, y 20, y 21, y 22, y 23, y 24, y 25, y 26, y 27], []⟩ := by
  obtain ⟨g0, g1, g2, g3, g4, g5, g6, g7⟩ := h
  obtain ⟨tm, df⟩ := a
  simp only at g0 g1 g2 g3 g4 g5 g6 g7
  subst g0
  obtain ⟨y, rfl⟩ := arr28 g1
  simp only [List.getElem?_toArray, List.getElem?_cons_succ, List.getElem?_cons_zero, Option.some.injEq] at g2 g3 g4 g5 g6 g7
  exact ⟨y, by rw [g2, g3, g4, g5, g6, g7]⟩
theorem nodesL_app (d : Nat) : ∀ a b : List Tm, nodesL d (a ++ b) = nodesL d a ++ nodesL d b
  | [], b => by simp [nodesL]
  | t :: a, b => by rw [List.cons_append, nodesL, nodesL, nodesL_app d a b, List.append_assoc]
theorem nodesL_one (d : Nat) (t : Tm) : nodesL d [t] = nodesD d t := by rw [nodesL, nodesL, List.append_nil]
theorem nodesL_take (d : Nat) {us : List Tm} {i : Nat} {u : Tm} (h : us[i]? = some u) : (nodesL d (us.take (i + 1))).length = (nodesL d (us.take i)).length + (nodesD d u).length := by
  rw [List.take_add_one, h]
  simp only [Option.toList]
  rw [nodesL_app, nodesL_one, List.length_append]
theorem nodesL_at (d : Nat) {us : List Tm} {i : Nat} {u : Tm} (h : us[i]? = some u) (j : Nat) (hj : j < (nodesD d u).length) : (nodesL d us)[(nodesL d (us.take i)).length + j]? = (nodesD d u)[j]? := by
  have e : us = us.take i ++ (u :: us.drop (i + 1)) := by rw [← drop_cons h, List.take_append_drop]
  have h1 : nodesL d us = nodesL d (us.take i) ++ (nodesD d u ++ nodesL d (us.drop (i + 1))) := by
    conv => lhs; rw [e]
    rw [nodesL_app, nodesL]
  rw [h1, List.getElem?_append_right (by omega), Nat.add_sub_cancel_left, List.getElem?_append_left hj]
def itemN (p : Tm × Nat) : List V := [p.1.ag, .d (I (p.2 : Nat))]
theorem _root_.Go.VM.Host.shift {F : Fz} {J : Nat → (Nat → Obj → Prop) → World → Prop} {Jx : World → Prop} (h : Host F J Jx) (k : Nat) : Host F (fun j S W => J (k + j) S W) Jx :=
  ⟨fun hJ hS => h.look hJ hS, fun hJ => h.fz hJ, fun hJ hw => h.grow hJ hw, fun hJ hw => h.growx hJ hw, fun hS hJ => h.weak hS hJ⟩
def WalkOk (t : Tm) : Prop := ∀ (d : Nat), d + dep t ≤ 1000000 → t.small → ∀ (n l : Nat) (F : Fz) (J : Nat → (Nat → Obj → Prop) → World → Prop) (Jx : World → Prop) (S : Nat → Obj → Prop) (W : World) (o v : Int) (z : Value), Host F J Jx → TV F t o v z →
  (∀ n j S it xs A, ((nodesD d t).map itemN)[j]? = some it → J j S A → RelL (Gh.ofF F) it xs → YieldAt (wf none) n Try.prog l xs A fun e B => (e = .returned (.bool true) ∧ J (j + 1) S B) ∨ (e = .returned (.bool false) ∧ Jx B)) →
  J 0 S W → CallsIn (wf none) n Try.prog 186 #[.agg #[.int .i64 o, .int .i64 v, z], .int .i64 d, .func (.yield l) #[] #[]] W fun e B => (e = .returned (.bool true) ∧ J (nodesD d t).length S B) ∨ (e = .returned (.bool false) ∧ Jx B)
set_option maxHeartbeats 8000000 in
set_option maxRecDepth 1000000 in
theorem walk_ok : ∀ (N : Nat) (t : Tm), SizeOf.sizeOf t < N → WalkOk t
  | 0, t, h => absurd h (Nat.not_lt_zero _)
  | N + 1, t, hN => by
    intro d hd hsm n l F J Jx S W o v z host htv hY h0
    obtain ⟨o', v', us⟩ := t
    have hag := htv.ag
    cases htv with
    | @mk _ _ _ za zl zc hza hzl hzc hzm =>
    obtain ⟨hz1, hz2⟩ : zl ≤ us.length ∧ us.length ≤ zl := by omega
    clear hzl
    have hcell : ∀ {W : World} {c : Array Value} {e : TypeId} {bk j : Nat} {v : Value}, W.heap[bk]? = some (.cells c e (0, 0)) → c[j]? = some v → W.cell? ⟨bk, j, none⟩ = some v := fun {W c e bk j v} h1 h2 => by
      rw [cell_of_row W bk j c e (0, 0) h1]; exact h2
    obtain ⟨tb, htb⟩ : ∃ tb, tb = W.heap.size := ⟨_, rfl⟩
    obtain ⟨W1, hW1⟩ : ∃ W1, W.alloc (Obj.cells #[.int .i64 o, .int .i64 v, .slice za zl zc] 25) = W1 := ⟨_, rfl⟩
    have hx1 : Wx W W1 (fun _ => False) := by rw [← hW1]; exact Wx.alloc _ _ _
    have hb1 : W1.heap[tb]? = some (.cells #[.int .i64 o, .int .i64 v, .slice za zl zc] 25 (0, 0)) := by rw [← hW1, htb]; exact World.alloc_heap_new W _
    obtain ⟨S1, hS1⟩ : ∃ S1 : Nat → Obj → Prop, S1 = fun b o => S b o ∨ (W.heap.size ≤ b ∧ W1.heap[b]? = some o) := ⟨_, rfl⟩
    have hJ1 : J 0 S1 W1 := by rw [hS1]; exact host.grow h0 hx1
    have hS1b : S1 tb (.cells #[.int .i64 o, .int .i64 v, .slice za zl zc] 25 (0, 0)) := by rw [hS1]; exact .inr ⟨by omega, hb1⟩
    have hS1w : ∀ {j A}, J j S1 A → J j S A := fun h => host.weak (fun b o hb => by rw [hS1]; exact .inl hb) h
    obtain ⟨fn, tmps, assign, body, hy, hR⟩ := hY (n - 1) 0 S1 _ #[.agg #[.int .i64 o, .int .i64 v, .slice za zl zc], .int .i64 d] W1 (by rw [nodesD]; rfl) hJ1 ⟨rfl, fun j c x hc hx => by
      match j, hc, hx with
      | 0, hc, hx => simp [itemN] at hc hx; subst hc hx; exact hag
      | 1, hc, hx => simp [itemN] at hc hx; subst hc hx; exact .d (.lit _ rfl)
      | j + 2, hc, hx => simp at hx⟩
    subst hW1
    obtain ⟨R, hRR⟩ : ∃ R : Ending → World → Prop, R = fun e B => (e = .returned (.bool true) ∧ J (nodesD d (.mk o v us)).length S B) ∨ (e = .returned (.bool false) ∧ Jx B) := ⟨_, rfl⟩
    rw [← hRR]
    have hRx : ∀ B, Jx B → R (.returned (.bool false)) B := fun B h => by rw [hRR]; exact .inr ⟨rfl, h⟩
    have hRt : ∀ B, J (1 + (nodesL (d + 1) us).length) S1 B → R (.returned (.bool true)) B := fun B h => by rw [hRR]; exact .inl ⟨rfl, by rw [nodesD, List.length_cons, Nat.add_comm]; exact hS1w h⟩
    have hRx := Hid.mk hRx
    have hRt := Hid.mk hRt
    refine callsIn_of_wp Try.func186 rfl trivial ?_ rfl
    simp only [Try.ntmps186, List.size_toArray, List.length_cons, List.length_nil, Nat.reduceAdd, Nat.reduceSub, Array.replicate_succ, Array.replicate_zero, List.push_toArray, List.append_toArray, List.nil_append, List.cons_append]
    clear hRR
    gi_wp2
    refine ⟨fun h => (by cases h), hR.mono ?_⟩
    rintro e W3 (⟨rfl, hJ3⟩ | ⟨rfl, hX⟩)
    · have hb3 := host.look hJ3 hS1b
      have hc2 : W3.cell? ⟨tb, 2, none⟩ = some (.slice za zl zc) := hcell hb3 rfl
      obtain ⟨IA, hIA⟩ : ∃ IA : Nat → Act → World → Prop, IA = fun m a A => ∃ i : Nat, i + m = zl + 1 ∧ i ≤ zl ∧ S186 (.int .i64 d) (.func (.yield l) #[] #[]) (.slice za zl zc) zl i a ∧ J (1 + (nodesL (d + 1) (us.take i)).length) S1 A := ⟨_, rfl⟩
      have hI0 : ∀ a, S186 (.int .i64 d) (.func (.yield l) #[] #[]) (.slice za zl zc) zl ((0 : Nat) : Int) a → IA (zl + 1) a W3 := fun a hS => by
        rw [hIA]; exact ⟨0, by omega, by omega, hS, by simpa [nodesL] using hJ3⟩
      have hI0 := Hid.mk hI0
      clear hb3 hy hR
      rw [htb] at hc2
      gi_wp2
      refine wpIn_loop_rounds (zl + 1) ?_
      refine roundsIn_ind (I := IA) ?_ ?_ _ _ _ ?_
      · intro a A h
        rw [hIA] at h
        obtain ⟨i, h1, h2, _⟩ := h
        omega
      · intro m a A h
        rw [hIA] at h
        obtain ⟨i, him, hil, hS, hJA⟩ := h
        obtain ⟨y, rfl⟩ := hS.ex
        clear hS hI0
        by_cases hi : i < zl
        · obtain ⟨u, hu⟩ : ∃ u, us[i]? = some u := ⟨_, List.getElem?_eq_getElem (by omega)⟩
          have hza' := hza
          rw [Tm.rows_eq] at hza'
          obtain ⟨lb, lf, rfl, xi, yi, z, htvu, f0, f1, f2⟩ := slTV hza' hu
          obtain ⟨ua, ul, uc, rfl⟩ : ∃ ua ul uc, z = .slice ua ul uc := by cases htvu; exact ⟨_, _, _, rfl⟩
          have c0 := host.fz hJA _ _ _ f0
          have c1 := host.fz hJA _ _ _ f1
          have c2 := host.fz hJA _ _ _ f2
          have hil2 : (i : Int) < (zl : Int) := by omega
          have hil0 : (0 : Int) ≤ (i : Int) := by omega
          have hum : u ∈ us := List.mem_of_getElem? hu
          have hdu : d + 1 + dep u ≤ 1000000 := by
            rw [dep] at hd
            have := (depL_le (n := depL us)).1 (Nat.le_refl _) u hum
            omega
          have hsz : SizeOf.sizeOf u < N := by
            have := List.sizeOf_lt_of_mem hum
            simp only [Tm.mk.sizeOf_spec] at hN
            omega
          have hsu : u.small := by
            have h2 := hsm
            rw [Tm.small] at h2
            exact smalls_at h2.2 hu
          obtain ⟨A1, hA1⟩ : ∃ A1, A.alloc (Obj.cells #[.int .i64 xi, .int .i64 yi, .slice ua ul uc] 25) = A1 := ⟨_, rfl⟩
          have hxA : Wx A A1 (fun _ => False) := by rw [← hA1]; exact Wx.alloc _ _ _
          have hJA1 : J (1 + (nodesL (d + 1) (us.take i)).length + 0) S1 A1 := host.weak (fun b o hb => .inl hb) (host.grow hJA hxA)
          have H := walk_ok N u hsz (d + 1) hdu hsu (n - 1) l F (fun j S W => J (1 + (nodesL (d + 1) (us.take i)).length + j) S W) Jx S1 A1 xi yi _ (host.shift _) htvu (fun n' j S' it xs B hit hJB hrel => by
            have hj : j < (nodesD (d + 1) u).length := by
              have := (List.getElem?_eq_some_iff.1 hit).1
              rwa [List.length_map] at this
            refine hY n' (1 + (nodesL (d + 1) (us.take i)).length + j) S' it xs B ?_ hJB hrel
            rw [List.getElem?_map] at hit ⊢
            rw [nodesD, show 1 + (nodesL (d + 1) (us.take i)).length + j = ((nodesL (d + 1) (us.take i)).length + j) + 1 by omega, List.getElem?_cons_succ, nodesL_at (d + 1) hu j hj]
            exact hit) hJA1
          have hI : ∀ B, J (1 + (nodesL (d + 1) (us.take i)).length + (nodesD (d + 1) u).length) S1 B → ∀ a, S186 (.int .i64 d) (.func (.yield l) #[] #[]) (.slice (some ⟨lb, lf, none⟩) zl zc) zl ((i + 1 : Nat) : Int) a → IA m a B := by
            intro B hJB a hS
            rw [hIA]
            refine ⟨i + 1, by omega, by omega, hS, ?_⟩
            rw [nodesL_take (d + 1) hu, ← Nat.add_assoc]
            exact hJB
          have hI := Hid.mk hI
          have hd2 : (d : Int) + 1 ≤ 1000001 := by omega
          have hdw : IntKind.i64.wrap ((d : Int) + 1) = (d : Int) + 1 := by rw [IntKind.wrap_i64]; omega
          have hcast : ((d + 1 : Nat) : Int) = (d : Int) + 1 := by omega
          rw [hcast] at H
          rw [← hA1] at H
          have hzl63 : zl ≤ 1099511627776 := by
            rw [Tm.small] at hsm; omega
          clear hd2 hcast hIA hA1 hxA hJA1 hsu hsz hdu hum hu hza' f0 f1 f2 htvu hJA hJ3 hS1w hS1b hJ1 hb1 hx1 hS1 hag hcell hY hd hN hz1 hz2 hza h0 htb hc2 host hRt him hil
          gi_wp2_with (fail)
          refine ⟨trivial, fun h => (by cases h), H.mono ?_⟩
          rintro e B (⟨rfl, hJB⟩ | ⟨rfl, hX⟩)
          · have hI2 := Hid.mk (hI.out B hJB)
            clear hI H hJB c0 c1 c2
            gi_wp2
            all_goals first | exact hI2.out _ ⟨rfl, rfl, rfl, rfl, rfl, rfl, rfl, rfl⟩ | exact ⟨rfl, rfl, rfl, rfl, rfl, rfl, rfl, rfl⟩
          · have hfin := Hid.mk (hRx.out B hX)
            clear hI H hX c0 c1 c2
            gi_wp2
            all_goals first | exact hfin.out | (go_ret; exact hfin.out)
        · have hie : i = zl := by omega
          subst hie
          rw [List.take_of_length_le (by omega)] at hJA
          have hfin := Hid.mk (hRt.out A hJA)
          have hil2 : ¬ ((i : Int) < (i : Int)) := by omega
          clear hIA hJ3 hS1w hS1b hJ1 hb1 hx1 hS1 hag hcell hY hd hN hz1 hz2 hza h0 htb hc2 host hRt him hil hRx
          gi_wp2
          all_goals first | exact hJA | exact hfin.out | (go_ret; exact hfin.out)
      · exact hI0.out _ ⟨rfl, rfl, rfl, rfl, rfl, rfl, rfl, rfl⟩
    · have hfin := Hid.mk (hRx.out W3 hX)
      clear hRx hRt hy hR
      gi_wp2
      all_goals first | exact hfin.out | (go_ret; exact hfin.out)
end
end Go.Proofs.Ytgiciiknagelhaa
set_option linter.unusedVariables false
namespace Go.Proofs.Ytgiciiknagelhaa
open Go.VM Go.Lib Go.RowKit Go.Shelf
section
attribute [local go_sem] Oper.semAt_some
set_option maxHeartbeats 4000000 in
set_option maxRecDepth 1000000 in
theorem itr_nodes {t : Tm} (hs : t.small) (hd : dep t ≤ 900000) {F : Fz} {lb : Array Value} (hlb : RelL (Gh.ofF F) [.ep t.row] lb) : Itr Try.prog 185 lb F (itemsT t) := by
  intro l J Jx W host hY h0 n
  obtain ⟨lb0, rfl⟩ : ∃ lb0, lb = #[lb0] := by
    have h1 : lb.size = 1 := hlb.1
    obtain ⟨l⟩ := lb
    match l, h1 with
    | [a], _ => exact ⟨a, rfl⟩
  have r0 := hlb.2 0 _ _ rfl rfl
  obtain ⟨o, v, us⟩ := t
  cases r0 with
  | @ep _ b off u hc hr =>
  have x0 := hr 0 _ rfl
  have x1 := hr 1 _ rfl
  have x2 := hr 2 _ rfl
  have f0 := hc 0 (by show 0 < 3; omega)
  have f1 := hc 1 (by show 1 < 3; omega)
  have f2 := hc 2 (by show 2 < 3; omega)
  generalize u 0 = v0 at x0 f0
  generalize u 1 = v1 at x1 f1
  generalize u 2 = v2 at x2 f2
  cases x0 with | lit _ _ =>
  cases x1 with | lit _ _ =>
  obtain ⟨a, len, cap, rfl, hl⟩ : ∃ a len cap, v2 = .slice a len cap ∧ TV F (.mk o v us) o v (.slice a len cap) := by
    cases x2 with
    | sl _ a len cap sz u hlen hcap hmax hrow hb hr => exact ⟨a, len, cap, rfl, .mk (.sl _ a len cap sz u hlen hcap hmax hrow hb hr) (by rw [hlen, rows_len]) hcap hmax⟩
  have c0 := host.fz h0 _ _ _ f0
  have c1 := host.fz h0 _ _ _ f1
  have c2 := host.fz h0 _ _ _ f2
  rw [Nat.add_zero] at c0
  have H := walk_ok _ (.mk o v us) (Nat.lt_succ_self _) 1 (by omega) hs (n - 1) l F J Jx (fun _ _ => False) W o v _ host hl (fun n' j S it xs A hit hJ hrel => hY n' j S it xs A hit hJ hrel) h0
  have hlen : (nodesD 1 (.mk o v us)).length = (itemsT (.mk o v us)).length := by unfold itemsT; rw [List.length_map]
  rw [hlen] at H
  refine callsIn_of_wp Try.func185 rfl trivial ?_ rfl
  simp only [Try.ntmps185, List.size_toArray, List.length_cons, List.length_nil, Nat.reduceAdd, Nat.reduceSub, Array.replicate_succ, Array.replicate_zero, List.push_toArray, List.append_toArray, List.nil_append, List.cons_append]
  clear hY hlen hs hd hc hr f0 f1 f2 host h0 hl hlb
  gi_wp2_with (fail)
  refine ⟨trivial, fun h => (by cases h), H.mono ?_⟩
  rintro e B (⟨rfl, hJ⟩ | ⟨rfl, hX⟩)
  · gi_wp2
    go_end0
    exact ⟨⟨_, rfl⟩, .inl hJ⟩
  · gi_wp2
    go_end0
    exact ⟨⟨_, rfl⟩, .inr hX⟩
end
end Go.Proofs.Ytgiciiknagelhaa
