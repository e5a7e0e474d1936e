/- slices.Insert walked, and slices of one's own. Conditions: none. -/
import Derived.Test.YtgiciiknagelhaaVe
import Derived.Test.YtgiciiknagelhaaDv3
import Derived.Test.YtgiciiknagelhaaProg
import Derived.ProofKit
import Derived.WalkKit
import Derived.Lib.Walk
import Derived.Lib.SliceRun
import Derived.Lib.JoinLaws
import Derived.Lib.AppendZeros
import Derived.Lib.Overlaps
import Derived.Lib.AppendZerosOnto
import Derived.Laws.Externs
import Derived.Laws.IdiomCopy
import Derived.Laws.NewBlocks
import Derived.Shelf.RegionOpenPlain
import Derived.Shelf.Spec.SlicesInsert
set_option linter.unusedVariables false
set_option linter.unusedSimpArgs false
namespace Go.Proofs.Ytgiciiknagelhaa
open Go.Shelf Go.RowKit Go.Lib
theorem run_copy_cellsK {P : Program} (w : World) (dT sT ty elem : TypeId) (i : TypeInfo) (b o dLen dCap : Nat) (a : Addr) (sLen sCap m : Nat) (cs : List Value)
    (hu : P.underlying dT = some (.slice elem)) (hi : P.info? elem = some i) (hm : Nat.min sLen dLen = m) (hn : cs.length = m * i.size)
    (hsrc : ∀ j v, cs[j]? = some v → w.cell? (a.add j) = some v) (hc : ∀ j, j < cs.length → (w.cell? ⟨b, o + j, none⟩).isSome = true) (hf : ∀ j, j < cs.length → w.frozen? ⟨b, o + j, none⟩ = false) (h1 : ∀ v ∈ cs, v.oneCell' = true) :
    (Builtin.copy_ #[dT, sT] ty #[.slice (some ⟨b, o, none⟩) dLen dCap, .slice (some a) sLen sCap]).run P w = .ok (goInt m) (w.setCells b o cs) := by
  have hl := run_firstCells_some (P := P) w i.size m a sLen sCap cs hn hsrc
  have hst := run_storeCells_cells (P := P) b o cs 0 w (by simpa using hc) (by simpa using hf) h1
  simp [Builtin.copy_, run_underlying hu, Builtin.lenOf, sizeOf, typeInfo, hi, hm, hl, hst]
def zI : Array Value := #[.int .i64 0, .int .i64 0, .slice none 0 0]
theorem infoI : ∃ i0, Try.prog.info? 25 = some i0 ∧ i0.zero = some (.agg zI) ∧ i0.size = 3 ∧ i0.bytes = 40 := by
  have k1 : (Try.prog.info? 25).bind (·.zero) = some (.agg zI) := by kernel_rfl
  have k2 : (Try.prog.info? 25).map (·.size) = some 3 := by kernel_rfl
  have k3 : (Try.prog.info? 25).map (·.bytes) = some 40 := by kernel_rfl
  cases h : Try.prog.info? 25 with
  | none => rw [h] at k2; cases k2
  | some i0 =>
    rw [h] at k1 k2 k3
    simp only [Option.bind_some, Option.map_some, Option.some.injEq] at k1 k2 k3
    exact ⟨i0, rfl, k1, k2, k3⟩
theorem mixed : Try.prog.follows .mixedOrders = true := by kernel_rfl
set_option maxHeartbeats 4000000 in
set_option maxRecDepth 1000000 in
theorem ins_shift (b n c i vb vc : Nat) (cs vs : List Value) (w : World) (hi : i < n) (hroom : n + 1 ≤ c) (hc63 : c ≤ 9223372036854775807) (hvb : vb ≠ b)
    (hcl : cs.length = n * 3) (hvl : vs.length = 3)
    (hcs : ∀ j v, cs[j]? = some v → w.cell? ⟨b, j, none⟩ = some v) (hsp : ∀ j, j < (n + 1) * 3 → (w.cell? ⟨b, j, none⟩).isSome = true) (hfz : ∀ j, w.frozen? ⟨b, j, none⟩ = false)
    (hvs : ∀ j v, vs[j]? = some v → w.cell? ⟨vb, j, none⟩ = some v) (h1c : ∀ v ∈ cs, v.oneCell' = true) (h1v : ∀ v ∈ vs, v.oneCell' = true)
    (tA tB : TypeId) (kA kB : Nat) (hsa : w.shape? vb = some (tA, kA)) (hsb : w.shape? b = some (tB, kB)) (hkB : kB ≠ 0) (hfa : ∀ j, w.frozen? ⟨vb, j, none⟩ = false) :
    Calls Try.prog 190 #[.slice (some ⟨b, 0, none⟩) n c, .int .i64 i, .slice (some ⟨vb, 0, none⟩) 1 vc] w fun e w' =>
      e = .returned (.slice (some ⟨b, 0, none⟩) (n + 1) c) ∧ w' = (w.drew.setCells b ((i + 1) * 3) (cs.drop (i * 3))).setCells b (i * 3) vs := by
  obtain ⟨i0, hi0, hz0, hzs, hzb⟩ := infoI
  have u1 := run_underlying (P := Try.prog) Try.underlying158
  have u2 := run_underlying (P := Try.prog) Try.underlying23
  have z25 : ∀ w, (Go.sizeOf 25).run Try.prog w = .ok 3 w := fun w => by simp [sizeOf, typeInfo, hi0, hzs]
  have hz2 : ¬ ((i : Int) = (n : Int)) := by omega
  have hz3 : ¬ ((c : Int) < (n : Int) + 1) := by omega
  have hov : ∀ lb cb, (callFunc 212 #[.slice (some ⟨vb, 0, none⟩) 1 vc, .slice (some ⟨b, (i + 1) * 3, none⟩) lb cb]).run Try.prog w = .ok (.value (.bool false)) w := fun lb cb => by
    rw [run_callFunc_extern Try.func212 (by kernel_rfl) (by kernel_rfl) (by kernel_rfl) (e := Extern.SlicesOverlaps.overlaps #[23, 23] #[4]) (by kernel_rfl),
      Lib.run_overlaps_apart w 23 4 25 Try.underlying23 3 z25 ⟨vb, 0, none⟩ ⟨b, (i + 1) * 3, none⟩ 1 vc lb cb hvb tA tB kA kB hsa hsb hkB (hfa _) (hfa _)]
    rfl
  have hdl : (cs.drop (i * 3)).length = (n - i) * 3 := by rw [List.length_drop, hcl, Nat.sub_mul]
  have mixed := mixed
  have hw1 : IntKind.i64.wrap ((i : Int) + 1) = (i : Int) + 1 := by rw [IntKind.wrap_i64]; omega
  have hw2 : IntKind.i64.wrap ((n : Int) + 1) = (n : Int) + 1 := by rw [IntKind.wrap_i64]; omega
  have hb1 : (0 : Int) ≤ (i : Int) + 1 := by omega
  have hb1n : (0 : Int) ≤ (n : Int) + 1 := by omega
  have hin : i ≤ n := by omega
  have htn : ((i : Int) + 1).toNat = i + 1 := by omega
  have htm : ((n : Int) + 1).toNat = n + 1 := by omega
  have hb2 : ¬ (c = i + 1) := by omega
  have hb3 : (i : Int) ≤ (n : Int) + 1 := by omega
  have hb4 : ¬ (c = i) := by omega
  have hcp1 : ∀ ty dc sc, (Builtin.copy_ #[158, 158] ty #[.slice (some ⟨b, (i + 1) * 3, none⟩) (n - i) dc, .slice (some ⟨b, i * 3, none⟩) (n + 1 - i) sc]).run Try.prog w.drew = .ok (goInt ((n - i : Nat) : Int)) (w.drew.setCells b ((i + 1) * 3) (cs.drop (i * 3))) := fun ty dc sc =>
    run_copy_cellsK w.drew _ _ ty 25 i0 b ((i + 1) * 3) (n - i) dc ⟨b, i * 3, none⟩ (n + 1 - i) sc (n - i) (cs.drop (i * 3)) Try.underlying158 hi0 (by simp only [Nat.min_def]; split <;> omega) (by rw [hdl, hzs])
      (fun j v hj => by rw [Addr.add_lit]; exact hcs (i * 3 + j) v (by rwa [List.getElem?_drop] at hj))
      (fun j hj => by exact hsp _ (by omega)) (fun j hj => hfz _) (fun v hv => h1c v (List.mem_of_mem_drop hv))
  obtain ⟨W1, hW1⟩ : ∃ W1, W1 = w.drew.setCells b ((i + 1) * 3) (cs.drop (i * 3)) := ⟨_, rfl⟩
  have hsp1 : ∀ k, k < (n + 1) * 3 → (W1.cell? ⟨b, k, none⟩).isSome = true := fun k hk => by
    rw [hW1]
    exact isSome_setCells b (cs.drop (i * 3)) ((i + 1) * 3) w.drew (fun j hj => hsp _ (by rw [hdl] at hj; omega)) _ (hsp k hk)
  have hcp2 : ∀ (W : World), (∀ x, W.cell? x = W1.cell? x) → (∀ x, W.frozen? x = W1.frozen? x) → ∀ ty dc, (Builtin.copy_ #[158, 23] ty #[.slice (some ⟨b, i * 3, none⟩) (n + 1 - i) dc, .slice (some ⟨vb, 0, none⟩) 1 vc]).run Try.prog W = .ok (goInt 1) (W.setCells b (i * 3) vs) := fun W hWc hWf ty dc =>
    run_copy_cellsK W _ _ ty 25 i0 b (i * 3) (n + 1 - i) dc ⟨vb, 0, none⟩ 1 vc 1 vs Try.underlying158 hi0 (by simp only [Nat.min_def]; split <;> omega) (by rw [hvl, hzs])
      (fun j v hj => by
        rw [Addr.add_lit, hWc, hW1, World.cell?_setCells_out b _ _ _ _ (fun h _ => absurd h hvb), Nat.zero_add]
        exact hvs j v hj)
      (fun j hj => by rw [hWc]; exact hsp1 _ (by omega)) (fun j hj => by rw [hWf, hW1, World.frozen?_setCells]; exact hfz _) h1v
  rw [← hW1] at hcp1
  go_enter Try.func190, Try.ntmps190
  go_wp2_with (simp only [hov])
  go_region_law_o (refine step_copy_runI rfl _ _ 158 158 rfl _ _ (by simp [Act.eval, Act.put]) (by simp [Act.eval, Act.put]) (hcp1 _ _ _) ?_)
  go_wp2_with (at_builtin; refine wpList_copy_runI _ rfl _ _ 158 23 rfl _ _ rfl rfl (hcp2 _ (fun _ => rfl) (fun _ => rfl) _ _) ?_)
  go_ret
  first | exact ⟨rfl, rfl⟩ | exact ⟨rfl, by rw [hW1]⟩
theorem srcK {P : Program} {vb vc : Nat} {vs : List Value} {w : World} (hvl : vs.length = 3) (hu : P.underlying 23 = some (.slice 25)) (hvs : ∀ j v, vs[j]? = some v → w.cell? ⟨vb, j, none⟩ = some v) (h1v : ∀ v ∈ vs, v.oneCell' = true) :
    Src P 3 23 (.slice (some ⟨vb, 0, none⟩) 1 vc) 1 vs w := Src.ofSlice w hu ⟨vb, 0, none⟩ 1 vc vs (by omega) (fun j u hj => by rw [Addr.add_lit, Nat.zero_add]; exact hvs j u hj) h1v
set_option maxHeartbeats 4000000 in
set_option maxRecDepth 1000000 in
theorem ins_end_room (b n c vb vc : Nat) (vs : List Value) (w : World) (hroom : n + 1 ≤ c) (hc63 : c ≤ 9223372036854775807)
    (hvl : vs.length = 3) (hsp : ∀ j, j < (n + 1) * 3 → (w.cell? ⟨b, j, none⟩).isSome = true) (hfz : ∀ j, w.frozen? ⟨b, j, none⟩ = false)
    (hvs : ∀ j v, vs[j]? = some v → w.cell? ⟨vb, j, none⟩ = some v) (h1v : ∀ v ∈ vs, v.oneCell' = true) :
    Calls Try.prog 190 #[.slice (some ⟨b, 0, none⟩) n c, .int .i64 n, .slice (some ⟨vb, 0, none⟩) 1 vc] w fun e w' =>
      e = .returned (.slice (some ⟨b, 0, none⟩) (n + 1) c) ∧ w' = w.setCells b (n * 3) vs := by
  obtain ⟨i0, hi0, hz0, hzs, hzb⟩ := infoI
  have u1 := run_underlying (P := Try.prog) Try.underlying158
  have u2 := run_underlying (P := Try.prog) Try.underlying23
  have mixed := mixed
  have hsrc := srcK (P := Try.prog) (vc := vc) hvl Try.underlying23 hvs h1v
  have hrun : ∀ ty, (Builtin.append_ #[158, 23] ty #[.slice (some ⟨b, 0, none⟩) n c, .slice (some ⟨vb, 0, none⟩) 1 vc]).run Try.prog w = _ := fun ty =>
    run_append_room_src w 158 23 ty 25 i0 Try.underlying158 hi0 b 0 n c _ 1 vs (by rw [hzs]; exact hsrc) hroom (fun j hj => by rw [hzs, Nat.zero_add]; exact hsp _ (by omega)) (fun j hj => hfz _)
  rw [hzs, Nat.zero_add] at hrun
  go_enter Try.func190, Try.ntmps190
  go_wp2_with (at_builtin; refine Lib.wpList_append_run _ rfl _ _ _ _ rfl _ _ rfl rfl _ _ (hrun _) ?_)
  all_goals (go_ret; exact ⟨rfl, rfl⟩)
set_option maxHeartbeats 4000000 in
set_option maxRecDepth 1000000 in
theorem ins_end_grow (base : Option Addr) (n c vb vc : Nat) (cs vs : List Value) (w : World) (hnc : n ≤ c) (hroom : c < n + 1) (hbig : n ≤ 1073741824)
    (hcl : cs.length = n * 3) (hvl : vs.length = 3) (hnil : base = none → n = 0)
    (hcs : ∀ a, base = some a → ∀ j v, cs[j]? = some v → w.cell? (a.add j) = some v)
    (hvs : ∀ j v, vs[j]? = some v → w.cell? ⟨vb, j, none⟩ = some v) (h1v : ∀ v ∈ vs, v.oneCell' = true) :
    Calls Try.prog 190 #[.slice base n c, .int .i64 n, .slice (some ⟨vb, 0, none⟩) 1 vc] w fun e w' =>
      e = .returned (.slice (some ⟨w.heap.size, 0, none⟩) (n + 1) (grownCap w (n + 1) c 25)) ∧
      w' = w.drew.alloc (.cells ((cs ++ vs).toArray ++ Builtin.zeroCells zI (grownCap w (n + 1) c 25 - (n + 1))) 25) := by
  obtain ⟨i0, hi0, hz0, hzs, hzb⟩ := infoI
  have u1 := run_underlying (P := Try.prog) Try.underlying158
  have u2 := run_underlying (P := Try.prog) Try.underlying23
  have mixed := mixed
  have hsrc := srcK (P := Try.prog) (vc := vc) hvl Try.underlying23 hvs h1v
  have hold : (Builtin.firstCells i0.size n (.slice base n c)).run Try.prog w.drew = .ok cs.toArray w.drew := by
    rw [hzs]
    cases base with
    | none =>
      have h0 := hnil rfl
      subst h0
      obtain rfl : cs = [] := List.length_eq_zero_iff.1 (by omega)
      exact run_firstCells_none w.drew 3 0 0 c
    | some a => exact run_firstCells_some w.drew 3 n a n c cs hcl (fun j v hj => hcs a rfl j v hj)
  have hrun : ∀ ty, (Builtin.append_ #[158, 23] ty #[.slice base n c, .slice (some ⟨vb, 0, none⟩) 1 vc]).run Try.prog w = _ := fun ty =>
    run_append_grow_src w 158 23 ty 25 i0 _ Try.underlying158 hi0 hz0 base n c cs hold _ 1 vs (by rw [hzs]; exact hsrc) hroom (by omega) (by rw [hzb]; exact growslice_fits hroom (by omega))
  go_enter Try.func190, Try.ntmps190
  cases base with
  | none =>
    have h0 := hnil rfl
    subst h0
    go_wp2_with (at_builtin; refine Lib.wpList_append_run _ rfl _ _ _ _ rfl _ _ rfl rfl _ _ (hrun _) ?_)
    all_goals (go_ret; exact ⟨rfl, rfl⟩)
  | some a =>
    obtain ⟨ab, ao, asp⟩ := a
    go_wp2_with (at_builtin; refine Lib.wpList_append_run _ rfl _ _ _ _ rfl _ _ rfl rfl _ _ (hrun _) ?_)
    all_goals (go_ret; exact ⟨rfl, rfl⟩)
set_option maxHeartbeats 8000000 in
set_option maxRecDepth 1000000 in
theorem ins_grow (b n c i vb vc : Nat) (cs vs : List Value) (w : World) (hi : i < n) (hnc : n ≤ c) (hroom : c < n + 1) (hbig : n ≤ 1073741824)
    (hcl : cs.length = n * 3) (hvl : vs.length = 3)
    (hcs : ∀ j v, cs[j]? = some v → w.cell? ⟨b, j, none⟩ = some v)
    (hvs : ∀ j v, vs[j]? = some v → w.cell? ⟨vb, j, none⟩ = some v) (h1c : ∀ v ∈ cs, v.oneCell' = true) (h1v : ∀ v ∈ vs, v.oneCell' = true) :
    Calls Try.prog 190 #[.slice (some ⟨b, 0, none⟩) n c, .int .i64 i, .slice (some ⟨vb, 0, none⟩) 1 vc] w fun e w' =>
      e = .returned (.slice (some ⟨w.heap.size, 0, none⟩) (n + 1) (grownCap w (n + 1) c 25)) ∧
      w' = (((w.alloc (.cells ((cs.take (i * 3)).toArray ++ Builtin.zeroCells zI (n + 1 - i) ++ Builtin.zeroCells zI (grownCap w (n + 1) c 25 - (n + 1))) 25)).drew.setCells w.heap.size (i * 3) vs).drew).setCells w.heap.size ((i + 1) * 3) (cs.drop (i * 3)) := by
  obtain ⟨i0, hi0, hz0, hzs, hzb⟩ := infoI
  have u1 := run_underlying (P := Try.prog) Try.underlying158
  have u2 := run_underlying (P := Try.prog) Try.underlying23
  have mixed := mixed
  have hz2 : ¬ ((i : Int) = (n : Int)) := by omega
  have hz3 : (c : Int) < (n : Int) + 1 := by omega
  have hbw : b < w.heap.size := block_lt_of_cell (hcs 0 _ (List.getElem?_eq_getElem (by omega)))
  have hvw : vb < w.heap.size := block_lt_of_cell (hvs 0 _ (List.getElem?_eq_getElem (by omega)))
  have hkk : (n : Int) + 1 - (i : Int) = ((n + 1 - i : Nat) : Int) := by omega
  have hik : i + (n + 1 - i) = n + 1 := by omega
  have hold : (Builtin.firstCells i0.size i (.slice (some ⟨b, 0, none⟩) i c)).run Try.prog w.drew = .ok (cs.take (i * 3)).toArray w.drew := by
    rw [hzs]
    exact run_firstCells_some w.drew 3 i ⟨b, 0, none⟩ i c (cs.take (i * 3)) (by rw [List.length_take]; omega) (fun j v hj => by
      rw [Addr.add_lit, Nat.zero_add]
      rw [List.getElem?_take] at hj
      split at hj
      · exact hcs j v hj
      · cases hj)
  have hrz : ∀ ty, (Builtin.append_ #[158, 3] ty #[.slice (some ⟨b, 0, none⟩) i c, .int .i64 ((n : Int) + 1 - (i : Int))]).run Try.prog w =
      .ok (.slice (some ⟨w.heap.size, 0, none⟩) (n + 1) (grownCap w (n + 1) c 25)) (w.drew.alloc (.cells ((cs.take (i * 3)).toArray ++ Builtin.zeroCells zI (n + 1 - i) ++ Builtin.zeroCells zI (grownCap w (n + 1) c 25 - (n + 1))) 25)) := fun ty => by
    have h := Lib.run_append_grow_zeros w 158 3 ty 25 i0 _ .i64 .i64 Try.underlying158 Try.underlying3 hi0 hz0 (some ⟨b, 0, none⟩) i c (cs.take (i * 3)) hold (n + 1 - i) (by omega) (by omega) (by omega) (by omega) (by rw [hzb]; omega) (by rw [hzb, hik]; exact growslice_fits hroom (by omega))
    rw [hik] at h
    rw [hkk]
    exact h
  obtain ⟨G, hG⟩ : ∃ G, G = grownCap w (n + 1) c 25 := ⟨_, rfl⟩
  obtain ⟨ROW, hROW⟩ : ∃ ROW : Array Value, ROW = (cs.take (i * 3)).toArray ++ Builtin.zeroCells zI (n + 1 - i) ++ Builtin.zeroCells zI (G - (n + 1)) := ⟨_, rfl⟩
  rw [← hG] at hrz ⊢
  rw [← hROW] at hrz ⊢
  have hzI : zI.size = 3 := rfl
  have hRl : (n + 1) * 3 ≤ ROW.size := by
    rw [hROW]
    simp only [Array.size_append, size_zeroCells, hzI, List.size_toArray, List.length_take, hcl]
    omega
  obtain ⟨W1, hW1⟩ : ∃ W1, W1 = w.drew.alloc (.cells ROW 25) := ⟨_, rfl⟩
  rw [← hW1] at hrz
  have hN : ∀ j, j < (n + 1) * 3 → (W1.cell? ⟨w.heap.size, j, none⟩).isSome = true := fun j hj => by
    rw [hW1, World.cell?_alloc_at (w := w.drew) ROW _ w.heap.size j rfl, Array.getElem?_eq_getElem (by omega)]; rfl
  have hNf : ∀ j, W1.frozen? ⟨w.heap.size, j, none⟩ = false := fun j => by rw [hW1]; exact World.frozen?_alloc_at (w := w.drew) ROW _ w.heap.size j rfl
  have hOb : ∀ j v, w.cell? ⟨b, j, none⟩ = some v → W1.cell? ⟨b, j, none⟩ = some v := fun j v h => by rw [hW1, World.cell?_alloc_past (w := w.drew) _ b j hbw]; exact h
  have hOv : ∀ j v, w.cell? ⟨vb, j, none⟩ = some v → W1.cell? ⟨vb, j, none⟩ = some v := fun j v h => by rw [hW1, World.cell?_alloc_past (w := w.drew) _ vb j hvw]; exact h
  have hcpA : ∀ (W : World), (∀ x, W.cell? x = W1.cell? x) → (∀ x, W.frozen? x = W1.frozen? x) → ∀ ty dc, (Builtin.copy_ #[158, 23] ty #[.slice (some ⟨w.heap.size, i * 3, none⟩) (n + 1 - i) dc, .slice (some ⟨vb, 0, none⟩) 1 vc]).run Try.prog W = .ok (goInt 1) (W.setCells w.heap.size (i * 3) vs) := fun W hWc hWf ty dc =>
    run_copy_cellsK W _ _ ty 25 i0 w.heap.size (i * 3) (n + 1 - i) dc ⟨vb, 0, none⟩ 1 vc 1 vs Try.underlying158 hi0 (by simp only [Nat.min_def]; split <;> omega) (by rw [hvl, hzs])
      (fun j v hj => by rw [Addr.add_lit, hWc, Nat.zero_add]; exact hOv _ v (hvs j v hj))
      (fun j hj => by rw [hWc]; exact hN _ (by omega)) (fun j hj => by rw [hWf]; exact hNf _) h1v
  have hGn : n + 1 ≤ G := by rw [hG]; exact grownCap_ge w _ _ _
  have hG63 : G ≤ 9223372036854775807 := by
    have := grownCap_le_maxLen w (n + 1) c 25 (by unfold maxLen; omega)
    rw [← hG] at this
    unfold maxLen at this
    omega
  have hGi : ¬ (G = i) := by omega
  have hGim : ¬ (G = i + 1) := by omega
  have hci : ¬ (c = i) := by omega
  have hbN : b ≠ w.heap.size := by omega
  have hdl : (cs.drop (i * 3)).length = (n - i) * 3 := by rw [List.length_drop, hcl, Nat.sub_mul]
  have hcpB : ∀ (W : World), (∀ x, W.cell? x = (W1.setCells w.heap.size (i * 3) vs).cell? x) → (∀ x, W.frozen? x = (W1.setCells w.heap.size (i * 3) vs).frozen? x) → ∀ ty dc sc, (Builtin.copy_ #[158, 158] ty #[.slice (some ⟨w.heap.size, (i + 1) * 3, none⟩) (n - i) dc, .slice (some ⟨b, i * 3, none⟩) (n - i) sc]).run Try.prog W = .ok (goInt ((n - i : Nat) : Int)) (W.setCells w.heap.size ((i + 1) * 3) (cs.drop (i * 3))) := fun W hWc hWf ty dc sc =>
    run_copy_cellsK W _ _ ty 25 i0 w.heap.size ((i + 1) * 3) (n - i) dc ⟨b, i * 3, none⟩ (n - i) sc (n - i) (cs.drop (i * 3)) Try.underlying158 hi0 (by simp only [Nat.min_def]; split <;> omega) (by rw [hdl, hzs])
      (fun j v hj => by
        rw [Addr.add_lit, hWc, World.cell?_setCells_out _ _ _ _ _ (fun h _ => absurd h hbN)]
        exact hOb _ v (hcs (i * 3 + j) v (by rwa [List.getElem?_drop] at hj)))
      (fun j hj => by rw [hWc]; exact isSome_setCells _ _ _ _ (fun t ht => hN _ (by omega)) _ (hN _ (by omega)))
      (fun j hj => by rw [hWf, World.frozen?_setCells]; exact hNf _) (fun v hv => h1c v (List.mem_of_mem_drop hv))
  subst hW1
  have hE1 : ∀ x, ((w.alloc (.cells ROW 25)).drew).cell? x = (w.drew.alloc (.cells ROW 25)).cell? x := fun x => rfl
  have hE2 : ∀ x, ((w.alloc (.cells ROW 25)).drew).frozen? x = (w.drew.alloc (.cells ROW 25)).frozen? x := fun x => rfl
  have hF1 : ∀ x, (((w.alloc (.cells ROW 25)).drew.setCells w.heap.size (i * 3) vs).drew).cell? x = ((w.drew.alloc (.cells ROW 25)).setCells w.heap.size (i * 3) vs).cell? x := fun x => rfl
  have hF2 : ∀ x, (((w.alloc (.cells ROW 25)).drew.setCells w.heap.size (i * 3) vs).drew).frozen? x = ((w.drew.alloc (.cells ROW 25)).setCells w.heap.size (i * 3) vs).frozen? x := fun x => rfl
  have hw1 : IntKind.i64.wrap ((i : Int) + 1) = (i : Int) + 1 := by rw [IntKind.wrap_i64]; omega
  have hw2 : IntKind.i64.wrap ((n : Int) + 1) = (n : Int) + 1 := by rw [IntKind.wrap_i64]; omega
  have hw3 : IntKind.i64.wrap ((n : Int) + 1 - (i : Int)) = (n : Int) + 1 - (i : Int) := by rw [IntKind.wrap_i64]; omega
  have hb1 : (0 : Int) ≤ (i : Int) + 1 := by omega
  have hin : i ≤ n := by omega
  have htn : ((i : Int) + 1).toNat = i + 1 := by omega
  have hb3 : (i : Int) ≤ (n : Int) := by omega
  have hb5 : (i : Int) ≤ (n : Int) + 1 := by omega
  clear hkk hik hold hROW hG hRl
  go_enter Try.func190, Try.ntmps190
  go_wp2_with (first
    | (at_builtin; refine Lib.wpList_append_run _ rfl _ _ _ _ rfl _ _ rfl rfl _ _ (hrz _) ?_)
    | (at_builtin; refine wpList_copy_runI _ rfl _ _ 158 23 rfl _ _ rfl rfl (hcpA _ hE1 hE2 _ _) ?_)
    | (at_builtin; refine wpList_copy_runI _ rfl _ _ 158 158 rfl _ _ rfl rfl (hcpB _ (fun _ => rfl) (fun _ => rfl) _ _ _) ?_))
  go_region_law_o (refine step_copy_runI rfl _ _ 158 158 rfl (.slice (some ⟨w.heap.size, (i + 1) * 3, none⟩) (n - i) (G - (i + 1))) (.slice (some ⟨b, i * 3, none⟩) (n - i) (c - i)) (by simp [Act.eval, Act.put]) (by simp [Act.eval, Act.put]) (hcpB _ hF1 hF2 3 (G - (i + 1)) (c - i)) ?_)
  go_wp2
  go_ret
  exact ⟨rfl, rfl⟩
open Go.VM in
theorem setCells_row (P : Program) {w : World} {b : Nat} {cur : Array Value} {e : TypeId} (hh : w.heap[b]? = some (.cells cur e (0, 0))) {o : Nat} {vs : List Value} (hle : o + vs.length ≤ cur.size) (h1 : ∀ v ∈ vs, v.oneCell' = true) :
    w.setCells b o vs = w.setRow b (cur.toList.take o ++ vs ++ cur.toList.drop (o + vs.length)).toArray := by
  have ha := run_storeCells_at (P := P) b o e vs 0 cur w hh (by omega) h1
  have hb := run_storeCells_cells (P := P) b o vs 0 w (fun j hj => by
    rw [cell_of_row w b _ cur e (0, 0) hh, Array.getElem?_eq_getElem (by omega)]; rfl) (fun j hj => by
    simp only [World.frozen?, hh]; simp) h1
  rw [ha] at hb
  simp only [Nat.add_zero, Result.ok.injEq, true_and] at hb
  exact hb.symm
def QL (G : Go.VM.Gh) (cs : List Go.VM.V) (xs : List Value) : Prop := ∀ (j : Nat) c x, cs[j]? = some c → xs[j]? = some x → Go.VM.sc x = true ∧ Go.VM.RelV G c x
theorem QL.app {G : Go.VM.Gh} {a b : List Go.VM.V} {x y : List Value} (hl : a.length = x.length) (h1 : QL G a x) (h2 : QL G b y) : QL G (a ++ b) (x ++ y) := by
  intro j c v hc hv
  rw [List.getElem?_append] at hc hv
  by_cases hj : j < a.length
  · rw [if_pos hj] at hc; rw [if_pos (hl ▸ hj)] at hv
    exact h1 j c v hc hv
  · rw [if_neg hj] at hc; rw [if_neg (hl ▸ hj)] at hv
    rw [hl] at hc
    exact h2 _ c v hc hv
theorem QL.take {G : Go.VM.Gh} {a : List Go.VM.V} {x : List Value} (h : QL G a x) (n : Nat) : QL G (a.take n) (x.take n) := by
  intro j c v hc hv
  rw [List.getElem?_take] at hc hv
  split at hc
  · rename_i hj; rw [if_pos hj] at hv; exact h j c v hc hv
  · cases hc
theorem QL.drop {G : Go.VM.Gh} {a : List Go.VM.V} {x : List Value} (h : QL G a x) (n : Nat) : QL G (a.drop n) (x.drop n) := by
  intro j c v hc hv
  rw [List.getElem?_drop] at hc hv
  exact h _ c v hc hv
theorem QL.mono {G G' : Go.VM.Gh} (hG : G.le G') {a : List Go.VM.V} {x : List Value} (h : QL G a x) : QL G' a x := fun j c v hc hv => ⟨(h j c v hc hv).1, (h j c v hc hv).2.mono hG⟩
theorem QL.one {G : Go.VM.Gh} {a : List Go.VM.V} {x : List Value} (h : QL G a x) (hl : x.length ≤ a.length) : ∀ v ∈ x, v.oneCell' = true := by
  intro v hv
  obtain ⟨j, hj⟩ := List.getElem?_of_mem hv
  have := (List.getElem?_eq_some_iff.1 hj).1
  exact Go.VM.sc_one (h j _ v (List.getElem?_eq_getElem (by omega)) hj).1
end Go.Proofs.Ytgiciiknagelhaa
set_option linter.unusedVariables false
namespace Go.Proofs.Ytgiciiknagelhaa
open Go.VM Go.Lib
theorem three {G : Gh} {a b c : V} {xs : Array Value} (h : RelL G [a, b, c] xs) : ∃ x y z, xs = #[x, y, z] ∧ RelV G a x ∧ RelV G b y ∧ RelV G c z := by
  have h3 : xs.size = 3 := h.1
  obtain ⟨x0, x1, x2, rfl⟩ : ∃ x0 x1 x2, xs = #[x0, x1, x2] := by
    obtain ⟨l⟩ := xs
    match l, h3 with
    | [a, b, c], _ => exact ⟨a, b, c, rfl⟩
  exact ⟨x0, x1, x2, rfl, h.2 0 _ _ rfl rfl, h.2 1 _ _ rfl rfl, h.2 2 _ _ rfl rfl⟩
theorem frozen_no {w : World} {b : Nat} {cur : Array Value} {e : TypeId} (hh : w.heap[b]? = some (.cells cur e (0, 0))) (j : Nat) : w.frozen? ⟨b, j, none⟩ = false := by
  simp only [World.frozen?, hh]; simp
end Go.Proofs.Ytgiciiknagelhaa
set_option linter.unusedVariables false
namespace Go.Proofs.Ytgiciiknagelhaa
open Go.VM Go.Lib Go.RowKit Go.Shelf
def cellsT (ts : List Tm) : List D := (ts.map Tm.row).flatten
theorem row_len (t : Tm) : t.row.length = 3 := by obtain ⟨o, v, ts⟩ := t; rfl
theorem cellsT_len : ∀ ts : List Tm, (cellsT ts).length = ts.length * 3
  | [] => rfl
  | t :: ts => by
    have := cellsT_len ts
    unfold cellsT at *
    simp only [List.map_cons, List.flatten_cons, List.length_append, row_len, List.length_cons, this]; omega
theorem cellsT_app (a b : List Tm) : cellsT (a ++ b) = cellsT a ++ cellsT b := by unfold cellsT; simp
theorem cellsT_one (t : Tm) : cellsT [t] = t.row := by unfold cellsT; simp
theorem cellsT_take (ts : List Tm) (i : Nat) : cellsT (ts.take i) = (cellsT ts).take (i * 3) := by
  induction ts generalizing i with
  | nil => simp [cellsT]
  | cons t ts ih =>
    cases i with
    | zero => simp [cellsT]
    | succ i =>
      have h := ih i
      have e1 : cellsT (t :: ts) = t.row ++ cellsT ts := by unfold cellsT; simp
      have e2 : cellsT (t :: ts.take i) = t.row ++ cellsT (ts.take i) := by unfold cellsT; simp
      rw [List.take_succ_cons, e1, e2, h, List.take_append, row_len]
      have e3 : t.row.take ((i + 1) * 3) = t.row := List.take_of_length_le (by rw [row_len]; omega)
      have e4 : (i + 1) * 3 - 3 = i * 3 := by omega
      rw [e3, e4]
theorem cellsT_drop (ts : List Tm) (i : Nat) : cellsT (ts.drop i) = (cellsT ts).drop (i * 3) := by
  induction ts generalizing i with
  | nil => simp [cellsT]
  | cons t ts ih =>
    cases i with
    | zero => simp [cellsT]
    | succ i =>
      have h := ih i
      have e1 : cellsT (t :: ts) = t.row ++ cellsT ts := by unfold cellsT; simp
      rw [List.drop_succ_cons, e1, h, List.drop_append, row_len]
      have e3 : t.row.drop ((i + 1) * 3) = [] := List.drop_eq_nil_of_le (by rw [row_len]; omega)
      have e4 : (i + 1) * 3 - 3 = i * 3 := by omega
      rw [e3, e4, List.nil_append]
theorem cellsT_get (ts : List Tm) (i j : Nat) (t : Tm) (hi : ts[i]? = some t) (hj : j < 3) : (cellsT ts)[i * 3 + j]? = t.row[j]? := by
  have h := cellsT_drop ts i
  have e : ts.drop i = t :: ts.drop (i + 1) := by
    have hlt := (List.getElem?_eq_some_iff.1 hi).1
    rw [List.drop_eq_getElem_cons hlt, (List.getElem?_eq_some_iff.1 hi).2]
  rw [e] at h
  have e1 : cellsT (t :: ts.drop (i + 1)) = t.row ++ cellsT (ts.drop (i + 1)) := by unfold cellsT; simp
  rw [e1] at h
  rw [← List.getElem?_drop, ← h, List.getElem?_append_left (by rw [row_len]; exact hj)]
structure QT (F : Fz) (ts : List Tm) (cs : List Value) : Prop where
  len : cs.length = ts.length * 3
  rel : ∀ (j : Nat) c x, (cellsT ts)[j]? = some c → cs[j]? = some x → RelD F c x
theorem QT.nil {F : Fz} : QT F [] [] := ⟨rfl, fun j c x h => by simp [cellsT] at h⟩
theorem QT.mono {F F' : Fz} (h : F.le F') {ts : List Tm} {cs : List Value} (hq : QT F ts cs) : QT F' ts cs := ⟨hq.len, fun j c x h1 h2 => (hq.rel j c x h1 h2).mono h⟩
theorem QT.one {F : Fz} {ts : List Tm} {cs : List Value} (h : QT F ts cs) : ∀ v ∈ cs, v.oneCell' = true := fun v hv => by
  obtain ⟨j, hj⟩ := List.getElem?_of_mem hv
  have hlt := (List.getElem?_eq_some_iff.1 hj).1
  have hl := cellsT_len ts
  exact sc_one ((h.rel j _ v (List.getElem?_eq_getElem (by rw [hl, ← h.len]; exact hlt)) hj).sc)
theorem QT.app {F : Fz} {a b : List Tm} {x y : List Value} (h1 : QT F a x) (h2 : QT F b y) : QT F (a ++ b) (x ++ y) := by
  refine ⟨by rw [List.length_append, List.length_append, h1.len, h2.len]; omega, fun j c v hc hv => ?_⟩
  rw [cellsT_app, List.getElem?_append, cellsT_len] at hc
  rw [List.getElem?_append, h1.len] at hv
  split at hc
  · rename_i hj; rw [if_pos hj] at hv; exact h1.rel j c v hc hv
  · rename_i hj; rw [if_neg hj] at hv; exact h2.rel _ c v hc hv
theorem QT.take {F : Fz} {a : List Tm} {x : List Value} (h : QT F a x) (i : Nat) : QT F (a.take i) (x.take (i * 3)) := by
  refine ⟨by rw [List.length_take, List.length_take, h.len]; omega, fun j c v hc hv => ?_⟩
  rw [cellsT_take] at hc
  rw [List.getElem?_take] at hc hv
  split at hc
  · rename_i hj; rw [if_pos hj] at hv; exact h.rel j c v hc hv
  · cases hc
theorem QT.drop {F : Fz} {a : List Tm} {x : List Value} (h : QT F a x) (i : Nat) : QT F (a.drop i) (x.drop (i * 3)) := by
  refine ⟨by rw [List.length_drop, List.length_drop, h.len]; omega, fun j c v hc hv => ?_⟩
  rw [cellsT_drop, List.getElem?_drop] at hc
  rw [List.getElem?_drop] at hv
  exact h.rel _ c v hc hv
inductive SlO (w : World) (lo : Nat) : Value → List Value → Option Nat → Nat → Nat → Prop
  | nil : SlO w lo (.slice none 0 0) [] none 0 0
  | at {b o n cap : Nat} {cur : Array Value} {cs : List Value} (hb : lo ≤ b) (hh : w.heap[b]? = some (.cells cur 25 (0, 0))) (hf : o + cap * 3 ≤ cur.size) (hn : n ≤ cap) (hm : cap ≤ maxLen) (hcs : cs = (cur.toList.drop o).take (n * 3)) :
      SlO w lo (.slice (some ⟨b, o, none⟩) n cap) cs (some b) o n
theorem SlO.mono {w w' : World} {lo : Nat} {v : Value} {cs : List Value} {ob : Option Nat} {o n : Nat} (h : SlO w lo v cs ob o n) (hw : ∀ b, ob = some b → w'.heap[b]? = w.heap[b]?) : SlO w' lo v cs ob o n := by
  cases h with
  | nil => exact .nil
  | «at» hb hh hf hn hm hcs => exact .at hb ((hw _ rfl).trans hh) hf hn hm hcs
theorem SlO.lt {w : World} {lo : Nat} {v : Value} {cs : List Value} {b o n : Nat} (h : SlO w lo v cs (some b) o n) : lo ≤ b ∧ b < w.heap.size := by
  cases h with
  | «at» hb hh hf hn hm hcs => exact ⟨hb, (Array.getElem?_eq_some_iff.1 hh).1⟩
theorem SlO.wx {w w' : World} {lo : Nat} {v : Value} {cs : List Value} {ob : Option Nat} {o n : Nat} {T : Nat → Prop} (h : SlO w lo v cs ob o n) (hw : Wx w w' T) (hT : ∀ b, ob = some b → ¬ T b) : SlO w' lo v cs ob o n :=
  h.mono fun b hb => by
    subst hb
    exact hw.block b h.lt.2 (hT b rfl)
theorem SlO.len {w : World} {lo : Nat} {v : Value} {cs : List Value} {ob : Option Nat} {o n : Nat} (h : SlO w lo v cs ob o n) : cs.length = n * 3 := by
  cases h with
  | nil => rfl
  | «at» hb hh hf hn hm hcs => subst hcs; simp; omega
theorem SlO.cell {w : World} {lo : Nat} {v : Value} {cs : List Value} {b o n : Nat} (h : SlO w lo v cs (some b) o n) {j : Nat} {x : Value} (hj : cs[j]? = some x) : w.cell? ⟨b, o + j, none⟩ = some x := by
  cases h with
  | «at» hb hh hf hn hm hcs =>
    rw [cell_of_row w b _ _ 25 (0, 0) hh]
    subst hcs
    rw [List.getElem?_take] at hj
    split at hj
    · rw [List.getElem?_drop] at hj; simpa using hj
    · cases hj
def lendF (F : Fz) (b o : Nat) (cs : List Value) : Fz := fun b' k => if b' = b then (if o ≤ k then cs[k - o]? else none) else F b' k
theorem lendF_at {F : Fz} {b o : Nat} {cs : List Value} (j : Nat) : lendF F b o cs b (o + j) = cs[j]? := by
  unfold lendF; rw [if_pos rfl, if_pos (Nat.le_add_right _ _), Nat.add_sub_cancel_left]
theorem lendF_le {F : Fz} {b o lo : Nat} {cs : List Value} (hb : lo ≤ b) (hlo : ∀ b k u, F b k = some u → b < lo) : F.le (lendF F b o cs) := fun b' k u hu => by
  unfold lendF
  rw [if_neg (fun e => by have := hlo _ _ _ hu; omega)]; exact hu
theorem lendF_some {F : Fz} {b o : Nat} {cs : List Value} {b' k : Nat} {u : Value} (h : lendF F b o cs b' k = some u) : (b' = b ∧ ∃ j, k = o + j ∧ cs[j]? = some u) ∨ F b' k = some u := by
  unfold lendF at h
  split at h
  · rename_i e
    split at h
    · exact .inl ⟨e, k - o, by omega, h⟩
    · cases h
  · exact .inr h
theorem SlO.lend {w : World} {lo : Nat} {v : Value} {cs : List Value} {ob : Option Nat} {o n : Nat} (h : SlO w lo v cs ob o n) {F : Fz} {ts : List Tm} (hF : FzOk F w) (hlo : ∀ b k u, F b k = some u → b < lo) (hq : QT F ts cs) :
    ∃ F', F.le F' ∧ FzOk F' w ∧ RelD F' (.sl (ts.map Tm.row)) v := by
  have hl := h.len
  have hl2 := hq.len
  cases h with
  | nil =>
    obtain rfl : ts = [] := List.length_eq_zero_iff.1 (by simp at hl2; omega)
    exact ⟨F, Fz.le_refl _, hF, RelD.nil F⟩
  | @«at» b o n cap cur cs hb hh hf hn hm hcs =>
    have hnt : n = ts.length := by omega
    subst hnt
    have hle : F.le (lendF F b o cs) := lendF_le hb hlo
    refine ⟨lendF F b o cs, hle, fun b' k u hu => ?_, ?_⟩
    · rcases lendF_some hu with ⟨rfl, j, rfl, hj⟩ | hu
      · exact SlO.cell (SlO.at (w := w) (lo := lo) hb hh hf hn hm hcs) hj
      · exact hF _ _ _ hu
    · refine .sl _ _ _ _ 3 (fun i j => (cs[i * 3 + j]?).getD undef) (by simp) hn hm (fun i row hr => ?_) (fun _ => ⟨b, o, rfl, fun i j hi hj => ?_⟩) (fun i j row c hr hc => ?_)
      · rw [List.getElem?_map] at hr
        cases hx : ts[i]? with
        | none => rw [hx] at hr; cases hr
        | some t => rw [hx] at hr; simp only [Option.map_some, Option.some.injEq] at hr; subst hr; exact row_len t
      · rw [List.length_map] at hi
        rw [lendF_at, List.getElem?_eq_getElem (by omega)]; rfl
      · rw [List.getElem?_map] at hr
        cases hx : ts[i]? with
        | none => rw [hx] at hr; cases hr
        | some t =>
          rw [hx] at hr; simp only [Option.map_some, Option.some.injEq] at hr; subst hr
          have hj : j < 3 := by have := (List.getElem?_eq_some_iff.1 hc).1; rwa [row_len] at this
          have hi := (List.getElem?_eq_some_iff.1 hx).1
          have hlt : i * 3 + j < cs.length := by omega
          rw [List.getElem?_eq_getElem hlt]
          exact (hq.rel (i * 3 + j) c _ (by rw [cellsT_get ts i j t hx hj]; exact hc) (List.getElem?_eq_getElem hlt)).mono hle
theorem _root_.Go.VM.Rl.entryF {F : Fz} {w : World} (hF : FzOk F w) : Rl w (Gh.ofF F) (.entry []) (Gh.ofF F) w :=
  { dep := rfl, dep0 := rfl, gn := rfl, F0 := Fz.le_refl _, Fnew := fun _ _ _ => rfl, ι0 := fun _ _ => rfl, τ0 := fun _ _ _ => rfl, wx := Wx.refl _ _, base := Nat.le_refl _, fz := hF,
    inj := fun i j b _ _ h => by cases h
    lt := fun i b h => by cases h
    sep := fun i b o _ h => by cases h
    ddb := fun i h => by cases h
    dd0 := fun _ _ h => h
    ζ0 := fun _ _ => rfl
    zok := fun i b h => by cases h
    old := fun i b _ h => by cases h
    new := fun i b _ h => by cases h
    blk := fun k cs hk => by simp [St.entry] at hk
    tok := fun g hg => by simp [St.entry] at hg
    tinj := fun g g' hg => by simp [St.entry] at hg }
theorem callF {VP : VProg} (hP : CProg Try.prog VP) {f : FuncId} {args : List V} {r : V} (h : CV VP f args [] = some ⟨r, [], [], 0⟩) (hf : f < 1000000) (hr : r.ltb 0 = true) {F : Fz} {w : World} {xs : Array Value} (hF : FzOk F w) (hx : RelL (Gh.ofF F) args xs) :
    Calls Try.prog f xs w fun e w' => ∃ v F', e = .returned v ∧ F.le F' ∧ FzOk F' w' ∧ RelV (Gh.ofF F') r v ∧ Wx w w' (fun _ => False) := by
  have hc := CV_sound hP (by kernel_rfl) f args [] _ h
  have hvc : VC Try.prog f args [] ⟨r, [], [], 0⟩ := hc.1 hf
  refine (hvc (Gh.ofF F) w xs hx (Rl.entryF hF)).mono ?_
  rintro e w' ⟨v, G', rfl, hv, hR⟩
  refine ⟨v, G'.F, rfl, hR.F0, hR.fz, ?_, ?_⟩
  · exact ltb0_rel hv hR.dep hR.gn hr
  · exact ⟨hR.wx.os, hR.wx.tape, hR.wx.output, hR.wx.size, fun b hb _ => hR.wx.block b hb fun ⟨i, hi, _⟩ => absurd hi (Nat.not_lt_zero _)⟩
end Go.Proofs.Ytgiciiknagelhaa
set_option linter.unusedVariables false
namespace Go.Proofs.Ytgiciiknagelhaa
open Go.VM Go.Lib Go.RowKit Go.Shelf
theorem _root_.Go.VM.Wx.sub {a b : World} {T T' : Nat → Prop} (h : Wx a b T) (hT : ∀ x, T x → T' x) : Wx a b T' :=
  ⟨h.os, h.tape, h.output, h.size, fun b hb hn => h.block b hb fun q => hn (hT _ q)⟩
theorem _root_.Go.VM.Wx.step {a b c : World} {T T' : Nat → Prop} (h : Wx a b T) (k : Wx b c T') (hT : ∀ x, T' x → T x ∨ a.heap.size ≤ x) : Wx a c T :=
  ⟨k.os.trans h.os, k.tape.trans h.tape, k.output.trans h.output, Nat.le_trans h.size k.size, fun x hx hn =>
    (k.block x (Nat.lt_of_lt_of_le hx h.size) fun q => (hT x q).elim hn fun q => absurd hx (Nat.not_lt.2 q)).trans (h.block x hx hn)⟩
theorem _root_.Go.VM.Wx.setRow (w : World) (b : Nat) (c : Array Value) : Wx w (w.setRow b c) (fun x => b = x) := by
  refine ⟨rfl, rfl, rfl, ?_, fun k hk hn => setRow_other w b k c (fun e => hn e.symm)⟩
  unfold World.setRow
  simp
theorem SlO.put {w : World} {lo : Nat} {v : Value} {cs : List Value} {b o n m : Nat} (h : SlO w lo v cs (some b) o n) (hm : m < n) {vs : List Value} (hv : vs.length = 3) (h1 : ∀ x ∈ vs, x.oneCell' = true) :
    SlO (w.setCells b (o + m * 3) vs) lo v (cs.take (m * 3) ++ vs ++ cs.drop ((m + 1) * 3)) (some b) o n ∧ Wx w (w.setCells b (o + m * 3) vs) (fun x => b = x) ∧ (w.setCells b (o + m * 3) vs).heap.size = w.heap.size := by
  cases h with
  | @«at» _ _ _ cap cur _ hb hh hf hn hmx hcs =>
    have e := setCells_row Try.prog hh (o := o + m * 3) (vs := vs) (by omega) h1
    rw [e]
    obtain ⟨c1, hc1⟩ : ∃ c1 : Array Value, c1 = (cur.toList.take (o + m * 3) ++ vs ++ cur.toList.drop (o + m * 3 + vs.length)).toArray := ⟨_, rfl⟩
    rw [← hc1]
    have hs : c1.size = cur.size := by rw [hc1]; simp; omega
    refine ⟨.at hb (setRow_heap w b cur c1 25 (0, 0) hh) (by omega) hn hmx ?_, Wx.setRow w b c1, by unfold World.setRow; simp⟩
    subst hcs
    rw [hc1]
    apply List.ext_getElem?
    intro j
    have hcl : cur.toList.length = cur.size := by simp
    simp only [List.getElem?_append, List.length_append, List.length_take, List.length_drop, List.getElem?_take, List.getElem?_drop, hv, hcl]
    by_cases h1 : j < m * 3
    · simp only [show j < min (m * 3) (min (n * 3) (cur.size - o)) + 3 by omega, show j < min (m * 3) (min (n * 3) (cur.size - o)) by omega, show o + j < min (o + m * 3) cur.size + 3 by omega, show o + j < min (o + m * 3) cur.size by omega, show o + j < o + m * 3 by omega, show j < n * 3 by omega, h1, if_true]
    · by_cases h2 : j < m * 3 + 3
      · simp only [show j < min (m * 3) (min (n * 3) (cur.size - o)) + 3 by omega, show ¬ j < min (m * 3) (min (n * 3) (cur.size - o)) by omega, show o + j < min (o + m * 3) cur.size + 3 by omega, show ¬ o + j < min (o + m * 3) cur.size by omega, show j < n * 3 by omega, if_true, if_false]
        congr 1; omega
      · simp only [show ¬ j < min (m * 3) (min (n * 3) (cur.size - o)) + 3 by omega, show ¬ o + j < min (o + m * 3) cur.size + 3 by omega, if_false]
        by_cases h3 : j < n * 3
        · simp only [h3, if_true, show (m + 1) * 3 + (j - (min (m * 3) (min (n * 3) (cur.size - o)) + 3)) < n * 3 by omega]
          congr 1; omega
        · simp only [h3, if_false, show ¬ (m + 1) * 3 + (j - (min (m * 3) (min (n * 3) (cur.size - o)) + 3)) < n * 3 by omega]
theorem SlO.appG {w : World} {lo : Nat} {v : Value} {cs : List Value} {ob : Option Nat} {o n vb vc : Nat} {curv : Array Value} {ev : TypeId} {vs : List Value} (h : SlO w lo v cs ob o n) (hlo : lo ≤ w.heap.size) (hn : n ≤ 1000000)
    (hhv : w.heap[vb]? = some (.cells curv ev (0, 0))) (hvl : vs.length = 3) (hvs : ∀ (j : Nat) x, vs[j]? = some x → curv[j]? = some x) (h1v : ∀ x ∈ vs, x.oneCell' = true) :
    ∃ b1 o1 c1 w1, (∀ ty, (Builtin.append_ #[23, 23] ty #[v, .slice (some ⟨vb, 0, none⟩) 1 vc]).run Try.prog w = .ok (.slice (some ⟨b1, o1, none⟩) (n + 1) c1) w1) ∧ SlO w1 lo (.slice (some ⟨b1, o1, none⟩) (n + 1) c1) (cs ++ vs) (some b1) o1 (n + 1) ∧ Wx w w1 (fun b => ob = some b) ∧ (ob = some b1 ∨ w.heap.size ≤ b1) := by
  obtain ⟨i0, hi0, hz0, hzs, hzb⟩ := infoI
  have cellv : ∀ j x, vs[j]? = some x → w.cell? ⟨vb, j, none⟩ = some x := fun j x hj => by rw [cell_of_row w vb j curv ev (0, 0) hhv]; exact hvs j x hj
  have hsrc := srcK (P := Try.prog) (vc := vc) hvl Try.underlying23 cellv h1v
  have hl := h.len
  have hzI : zI.size = 3 := rfl
  have grow : ∀ (base : Option Addr) (c : Nat), v = .slice base n c → n ≤ c → c < n + 1 → (Builtin.firstCells i0.size n (.slice base n c)).run Try.prog w.drew = .ok cs.toArray w.drew → 
      ∃ b1 o1 c1 w1, (∀ ty, (Builtin.append_ #[23, 23] ty #[v, .slice (some ⟨vb, 0, none⟩) 1 vc]).run Try.prog w = .ok (.slice (some ⟨b1, o1, none⟩) (n + 1) c1) w1) ∧ SlO w1 lo (.slice (some ⟨b1, o1, none⟩) (n + 1) c1) (cs ++ vs) (some b1) o1 (n + 1) ∧ Wx w w1 (fun b => ob = some b) ∧ (ob = some b1 ∨ w.heap.size ≤ b1) := by
    intro base c hv hnc hroom hold
    have hG := grownCap_ge w (n + 1) c 25
    have hG2 := grownCap_le_maxLen w (n + 1) c 25 (by unfold maxLen; omega)
    obtain ⟨ROW, hROW⟩ : ∃ ROW : Array Value, ROW = (cs ++ vs).toArray ++ Builtin.zeroCells zI (grownCap w (n + 1) c 25 - (n + 1)) := ⟨_, rfl⟩
    refine ⟨w.heap.size, 0, grownCap w (n + 1) c 25, w.drew.alloc (.cells ROW 25), fun ty => ?_, .at hlo (cur := ROW) ?_ ?_ hG hG2 ?_, ((Wx.drew w _).trans (Wx.alloc _ _ _)), .inr (Nat.le_refl _)⟩
    · rw [hv, hROW]
      exact run_append_grow_src w 23 23 ty 25 i0 _ Try.underlying23 hi0 hz0 base n c cs hold _ 1 vs (by rw [hzs]; exact hsrc) hroom (by omega) (by rw [hzb]; exact growslice_fits hroom (by omega))
    · exact heap_alloc_new w.drew _
    · rw [hROW]; simp only [Array.size_append, size_zeroCells, List.size_toArray, List.length_append, hl, hzI, hvl]; omega
    · rw [hROW]
      simp only [List.drop_zero, Array.toList_append, List.toList_toArray]
      rw [List.take_append_of_le_length (by rw [List.length_append, hl]; omega), List.take_of_length_le (by rw [List.length_append, hl]; omega)]
  cases h with
  | nil =>
    refine grow none 0 rfl (Nat.le_refl _) (by omega) ?_
    rw [hzs]
    exact run_firstCells_none w.drew 3 0 0 0
  | @«at» b _ _ cap cur _ hb hh hf hnc hmx hcs =>
    have h := SlO.at (w := w) (lo := lo) hb hh hf hnc hmx hcs
    by_cases hroom : n + 1 ≤ cap
    · have hmx' : SlO w lo (.slice (some ⟨b, o, none⟩) (n + 1) cap) ((cur.toList.drop o).take ((n + 1) * 3)) (some b) o (n + 1) := .at hb hh hf hroom hmx rfl
      obtain ⟨q1, q2, q3⟩ := hmx'.put (m := n) (by omega) (vs := vs) hvl h1v
      refine ⟨b, o, cap, _, fun ty => ?_, ?_, q2.sub fun x hx => by rw [hx], .inl rfl⟩
      · have := run_append_room_src w 23 23 ty 25 i0 Try.underlying23 hi0 b o n cap (.slice (some ⟨vb, 0, none⟩) 1 vc) 1 vs (by rw [hzs]; exact hsrc) hroom (fun j hj => by
          rw [hzs, cell_of_row w b _ cur 25 (0, 0) hh, Array.getElem?_eq_getElem (by omega)]; rfl) (fun j hj => frozen_no hh _)
        rw [hzs] at this
        exact this
      · have e1 : ((cur.toList.drop o).take ((n + 1) * 3)).take (n * 3) = cs := by rw [hcs, List.take_take, Nat.min_eq_left (by omega)]
        have e2 : ((cur.toList.drop o).take ((n + 1) * 3)).drop ((n + 1) * 3) = [] := List.drop_eq_nil_of_le (by simp; omega)
        rw [e1, e2, List.append_nil] at q1
        exact q1
    · refine grow _ cap rfl hnc (by omega) ?_
      rw [hzs]
      exact run_firstCells_some w.drew 3 n ⟨b, o, none⟩ n cap cs h.len (fun j x hj => by rw [Addr.add_lit]; exact h.cell hj)
end Go.Proofs.Ytgiciiknagelhaa
set_option linter.unusedVariables false
namespace Go.Proofs.Ytgiciiknagelhaa
open Go.VM Go.Lib Go.RowKit Go.Shelf
def wr (cur : Array Value) (o : Nat) (vs : List Value) : Array Value := (cur.toList.take o ++ vs ++ cur.toList.drop (o + vs.length)).toArray
theorem wr_size {cur : Array Value} {o : Nat} {vs : List Value} (h : o + vs.length ≤ cur.size) : (wr cur o vs).size = cur.size := by
  unfold wr; simp; omega
theorem wr_get {cur : Array Value} {o : Nat} {vs : List Value} (h : o + vs.length ≤ cur.size) (j : Nat) : (wr cur o vs)[j]? = if j < o then cur[j]? else if j < o + vs.length then vs[j - o]? else cur[j]? := by
  unfold wr
  rw [← Array.getElem?_toList, ← Array.getElem?_toList]
  simp only [List.getElem?_append, List.length_append, List.length_take, Array.length_toList, List.getElem?_take, List.getElem?_drop]
  have hm : min o cur.size = o := by omega
  rw [hm]
  by_cases h1 : j < o
  · rw [if_pos (by omega), if_pos h1, if_pos h1, if_pos h1]
  · by_cases h2 : j < o + vs.length
    · rw [if_pos h2, if_neg h1, if_neg h1, if_pos h2]
    · rw [if_neg h2, if_neg h1, if_neg h2]; congr 1; omega
theorem wr_getL {cur : Array Value} {o : Nat} {vs : List Value} (h : o + vs.length ≤ cur.size) (j : Nat) : (wr cur o vs).toList[j]? = if j < o then cur[j]? else if j < o + vs.length then vs[j - o]? else cur[j]? := by
  rw [Array.getElem?_toList]; exact wr_get h j
theorem set_wr {w : World} {b : Nat} {cur : Array Value} {o : Nat} {vs : List Value} (hh : w.heap[b]? = some (.cells cur 25 (0, 0))) (h : o + vs.length ≤ cur.size) (h1 : ∀ v ∈ vs, v.oneCell' = true) :
    (w.setCells b o vs).heap[b]? = some (.cells (wr cur o vs) 25 (0, 0)) ∧ Wx w (w.setCells b o vs) (fun x => b = x) := by
  have e := setCells_row Try.prog hh h h1
  rw [e]
  exact ⟨setRow_heap w b cur _ 25 (0, 0) hh, Wx.setRow w b _⟩
theorem _root_.Go.VM.Wx.get {a b : World} {T : Nat → Prop} (h : Wx a b T) {x : Nat} {o : Obj} (hx : a.heap[x]? = some o) (hT : ¬ T x) : b.heap[x]? = some o := by
  rw [h.block x (Array.getElem?_eq_some_iff.1 hx).1 hT]; exact hx
theorem SlO.ins {w : World} {lo : Nat} {v : Value} {cs : List Value} {ob : Option Nat} {n i vb vc : Nat} {curv : Array Value} {ev : TypeId} {vs : List Value} (h : SlO w lo v cs ob 0 n) (hlo : lo ≤ w.heap.size) (hi : i ≤ n) (hn : n ≤ 1000000)
    (hhv : w.heap[vb]? = some (.cells curv ev (0, 0))) (hvl : vs.length = 3) (hvs : ∀ (j : Nat) x, vs[j]? = some x → curv[j]? = some x) (hne : ob ≠ some vb) (h1c : ∀ x ∈ cs, x.oneCell' = true) (h1v : ∀ x ∈ vs, x.oneCell' = true) :
    Calls Try.prog 190 #[v, .int .i64 i, .slice (some ⟨vb, 0, none⟩) 1 vc] w fun e w' => ∃ v' b', e = .returned v' ∧ SlO w' lo v' (cs.take (i * 3) ++ vs ++ cs.drop (i * 3)) (some b') 0 (n + 1) ∧ Wx w w' (fun b => ob = some b) ∧ (ob = some b' ∨ w.heap.size ≤ b') := by
  have hcl := h.len
  have cellv : ∀ j x, vs[j]? = some x → w.cell? ⟨vb, j, none⟩ = some x := fun j x hj => by rw [cell_of_row w vb j curv ev (0, 0) hhv]; exact hvs j x hj
  have hzI : zI.size = 3 := rfl
  have hall : ∀ k, n ≤ k → (cs.take (k * 3) ++ vs ++ cs.drop (k * 3)) = cs ++ vs := fun k hk => by
    rw [List.take_of_length_le (by omega), List.drop_of_length_le (by omega), List.append_nil]
  cases h with
  | nil =>
    obtain rfl : i = 0 := by omega
    have W := ins_end_grow none 0 0 vb vc [] vs w (Nat.le_refl _) (by omega) (by omega) rfl hvl (fun _ => rfl) (fun a ha => by cases ha) cellv h1v
    refine W.mono ?_
    rintro e' w' ⟨rfl, rfl⟩
    have hge := grownCap_ge w (0 + 1) 0 25
    have hle2 := grownCap_le_maxLen w (0 + 1) 0 25 (by unfold maxLen; omega)
    refine ⟨_, _, rfl, .at hlo (heap_alloc_new w.drew _) ?_ hge hle2 ?_, (Wx.drew w _).trans (Wx.alloc _ _ _), .inr (Nat.le_refl _)⟩
    · simp only [Array.size_append, List.size_toArray, List.nil_append, size_zeroCells, hzI, hvl]; omega
    · rw [hall 0 (Nat.le_refl _)]
      simp only [List.drop_zero, List.nil_append, Array.toList_append, List.toList_toArray]
      rw [List.take_append_of_le_length (by omega), List.take_of_length_le (by omega)]
  | @«at» b _ _ cap cur _ hb hh hf hnc hmx hcs =>
    have h := SlO.at (w := w) (lo := lo) hb hh hf hnc hmx hcs
    have hc63 : cap ≤ 9223372036854775807 := by unfold maxLen at hmx; omega
    have hbne : vb ≠ b := fun e => hne (by rw [e])
    have cellc : ∀ j x, cs[j]? = some x → w.cell? ⟨b, j, none⟩ = some x := fun j x hj => by have := h.cell hj; rwa [Nat.zero_add] at this
    have hcg : ∀ j, cs[j]? = if j < n * 3 then cur[j]? else none := fun j => by
      rw [hcs, List.getElem?_take, List.drop_zero, Array.getElem?_toList]
    have hsp : ∀ j, j < (n + 1) * 3 → n + 1 ≤ cap → (w.cell? ⟨b, j, none⟩).isSome = true := fun j hj hr => by
      rw [cell_of_row w b j cur 25 (0, 0) hh, Array.getElem?_eq_getElem (by omega)]; rfl
    by_cases hroom : n + 1 ≤ cap
    · by_cases hin : i = n
      · subst hin
        have W := ins_end_room b i cap vb vc vs w hroom hc63 hvl (fun j hj => hsp j hj hroom) (frozen_no hh) cellv h1v
        refine W.mono ?_
        rintro e' w' ⟨rfl, rfl⟩
        obtain ⟨q1, q2⟩ := set_wr (o := i * 3) (vs := vs) hh (by omega) h1v
        refine ⟨_, b, rfl, .at hb q1 (by rw [wr_size (by omega)]; exact hf) hroom hmx ?_, q2.sub fun x hx => by rw [hx], .inl rfl⟩
        rw [hall i (Nat.le_refl _)]
        apply List.ext_getElem?
        intro j
        rw [List.getElem?_take, List.drop_zero, wr_getL (by omega), List.getElem?_append, hcl, hcg, hvl]
        by_cases h1 : j < i * 3
        · rw [if_pos h1, if_pos h1, if_pos (by omega), if_pos h1]
        · by_cases h2 : j < i * 3 + 3
          · rw [if_neg h1, if_pos (by omega), if_neg h1, if_pos h2]
          · rw [if_neg h1, if_neg (by omega), List.getElem?_eq_none (by omega)]
      · have W := ins_shift b n cap i vb vc cs vs w (by omega) hroom hc63 hbne hcl hvl cellc (fun j hj => hsp j hj hroom) (frozen_no hh) cellv h1c h1v ev 25 curv.size cur.size (by simp [World.shape?, hhv]) (by simp [World.shape?, hh]) (by omega) (frozen_no hhv)
        refine W.mono ?_
        rintro e' w' ⟨rfl, rfl⟩
        have hdl : (cs.drop (i * 3)).length = (n - i) * 3 := by rw [List.length_drop, hcl, Nat.sub_mul]
        have hd : w.drew.heap[b]? = some (.cells cur 25 (0, 0)) := hh
        obtain ⟨q1, q2⟩ := set_wr (o := (i + 1) * 3) (vs := cs.drop (i * 3)) hd (by omega) (fun x hx => h1c x (List.mem_of_mem_drop hx))
        have hs1 : (wr cur ((i + 1) * 3) (cs.drop (i * 3))).size = cur.size := wr_size (by omega)
        obtain ⟨r1, r2⟩ := set_wr (o := i * 3) (vs := vs) q1 (by omega) h1v
        refine ⟨_, b, rfl, .at hb r1 (by rw [wr_size (by omega), hs1]; exact hf) hroom hmx ?_, ((Wx.drew w _).trans (q2.trans r2)).sub fun x hx => by rw [hx], .inl rfl⟩
        apply List.ext_getElem?
        intro j
        rw [List.getElem?_take, List.drop_zero, wr_getL (by omega), wr_get (by omega), hdl, hvl]
        simp only [List.getElem?_append, List.length_append, List.length_take, List.getElem?_take, List.getElem?_drop, hcl, hcg, hvl]
        have hm : min (i * 3) (n * 3) = i * 3 := by omega
        rw [hm]
        by_cases h1 : j < i * 3
        · simp only [show j < i * 3 + 3 by omega, h1, show j < n * 3 by omega, show j < (n + 1) * 3 by omega, show j < (i + 1) * 3 by omega, if_true]
        · by_cases h2 : j < i * 3 + 3
          · simp only [h1, h2, show j < (n + 1) * 3 by omega, if_true, if_false]
          · simp only [h1, h2, if_false, show ¬ j < (i + 1) * 3 by omega]
            by_cases h3 : j < (n + 1) * 3
            · simp only [h3, if_true, show j < (i + 1) * 3 + (n - i) * 3 by omega, show i * 3 + (j - (i * 3 + 3)) < n * 3 by omega]
              rw [show i * 3 + (j - (i + 1) * 3) = i * 3 + (j - (i * 3 + 3)) by omega]
              simp only [show i * 3 + (j - (i * 3 + 3)) < n * 3 by omega, if_true]
            · simp only [h3, if_false, show ¬ i * 3 + (j - (i * 3 + 3)) < n * 3 by omega]
    · have hge := grownCap_ge w (n + 1) cap 25
      have hle2 := grownCap_le_maxLen w (n + 1) cap 25 (by unfold maxLen; omega)
      by_cases hin : i = n
      · subst hin
        have W := ins_end_grow (some ⟨b, 0, none⟩) i cap vb vc cs vs w hnc (by omega) (by omega) hcl hvl (fun q => by cases q) (fun a ha j x hj => by
          simp only [Option.some.injEq] at ha; subst ha
          rw [Addr.add_lit, Nat.zero_add]; exact cellc j x hj) cellv h1v
        refine W.mono ?_
        rintro e' w' ⟨rfl, rfl⟩
        refine ⟨_, _, rfl, .at hlo (heap_alloc_new w.drew _) ?_ hge hle2 ?_, (Wx.drew w _).trans (Wx.alloc _ _ _), .inr (Nat.le_refl _)⟩
        · simp only [Array.size_append, List.size_toArray, List.length_append, size_zeroCells, hzI, hvl, hcl]; omega
        · rw [hall i (Nat.le_refl _)]
          simp only [List.drop_zero, Array.toList_append, List.toList_toArray]
          rw [List.take_append_of_le_length (by rw [List.length_append]; omega), List.take_of_length_le (by rw [List.length_append]; omega)]
      · have W := ins_grow b n cap i vb vc cs vs w (by omega) hnc (by omega) (by omega) hcl hvl cellc cellv h1c h1v
        refine W.mono ?_
        rintro e' w' ⟨rfl, rfl⟩
        obtain ⟨ROW, hROW⟩ : ∃ ROW : Array Value, ROW = (cs.take (i * 3)).toArray ++ Builtin.zeroCells zI (n + 1 - i) ++ Builtin.zeroCells zI (grownCap w (n + 1) cap 25 - (n + 1)) := ⟨_, rfl⟩
        have hsize : ROW.size = grownCap w (n + 1) cap 25 * 3 := by
          rw [hROW]
          simp only [Array.size_append, List.size_toArray, List.length_take, size_zeroCells, hzI, hcl]; omega
        rw [← hROW]
        have hdl : (cs.drop (i * 3)).length = (n - i) * 3 := by rw [List.length_drop, hcl, Nat.sub_mul]
        have hN : (w.alloc (.cells ROW 25)).drew.heap[w.heap.size]? = some (.cells ROW 25 (0, 0)) := heap_alloc_new w _
        obtain ⟨q1, q2⟩ := set_wr (o := i * 3) (vs := vs) hN (by omega) h1v
        have hs1 : (wr ROW (i * 3) vs).size = ROW.size := wr_size (by omega)
        have q1' : ((w.alloc (.cells ROW 25)).drew.setCells w.heap.size (i * 3) vs).drew.heap[w.heap.size]? = _ := q1
        obtain ⟨r1, r2⟩ := set_wr (o := (i + 1) * 3) (vs := cs.drop (i * 3)) q1' (by omega) (fun x hx => h1c x (List.mem_of_mem_drop hx))
        refine ⟨_, w.heap.size, rfl, .at hlo r1 (by rw [wr_size (by omega), hs1]; omega) hge hle2 ?_, ?_, .inr (Nat.le_refl _)⟩
        · apply List.ext_getElem?
          intro j
          have hrg : j < i * 3 → ROW[j]? = cs[j]? := fun hj => by
            rw [hROW, Array.append_assoc, Array.getElem?_append_left (by simp; omega)]
            simp [List.getElem?_take, hj]
          rw [List.getElem?_take, List.drop_zero, wr_getL (by omega), wr_get (by omega), hdl, hvl]
          simp only [List.getElem?_append, List.length_append, List.length_take, List.getElem?_take, List.getElem?_drop, hcl, hvl]
          have hm : min (i * 3) (n * 3) = i * 3 := by omega
          rw [hm]
          by_cases h1 : j < i * 3
          · simp only [show j < i * 3 + 3 by omega, h1, show j < (n + 1) * 3 by omega, show j < (i + 1) * 3 by omega, if_true, hrg h1]
          · by_cases h2 : j < i * 3 + 3
            · simp only [h1, h2, show j < (i + 1) * 3 by omega, show j < (n + 1) * 3 by omega, if_true, if_false]
            · simp only [h1, h2, if_false, show ¬ j < (i + 1) * 3 by omega]
              by_cases h3 : j < (n + 1) * 3
              · simp only [h3, if_true, show j < (i + 1) * 3 + (n - i) * 3 by omega]
                congr 1; omega
              · simp only [h3, if_false]
                rw [List.getElem?_eq_none (by omega)]
        · have hA : Wx w (w.alloc (.cells ROW 25)).drew (fun b' => some b = some b') := (Wx.alloc w _ _).trans (Wx.drew _ _)
          exact (hA.step (q2.step (Wx.drew _ _) (fun x q => .inl q)) fun x hx => .inr (by omega)).step r2 fun x hx => .inr (by omega)
end Go.Proofs.Ytgiciiknagelhaa
set_option linter.unusedVariables false
namespace Go.Proofs.Ytgiciiknagelhaa
open Go.VM Go.Lib Go.RowKit Go.Shelf
inductive TV (F : Fz) : Tm → Int → Int → Value → Prop
  | mk {o v : Int} {us : List Tm} {a : Option Addr} {l c : Nat} (h : RelD F (.sl (Tm.rows us)) (.slice a l c)) (hl : l = us.length) (hc : l ≤ c) (hm : c ≤ maxLen) : TV F (.mk o v us) o v (.slice a l c)
theorem rows_len : ∀ us : List Tm, (Tm.rows us).length = us.length
  | [] => rfl
  | u :: us => by rw [Tm.rows, List.length_cons, rows_len us, List.length_cons]
theorem QT.at {F : Fz} {ts : List Tm} {cs : List Value} (h : QT F ts cs) {i : Nat} {t : Tm} (hi : ts[i]? = some t) :
    ∃ o v z, TV F t o v z ∧ cs[i * 3]? = some (.int .i64 o) ∧ cs[i * 3 + 1]? = some (.int .i64 v) ∧ cs[i * 3 + 2]? = some z := by
  obtain ⟨o, v, us⟩ := t
  have hlt := (List.getElem?_eq_some_iff.1 hi).1
  have hl := h.len
  have g : ∀ j c, j < 3 → (Tm.mk o v us).row[j]? = some c → ∃ x, cs[i * 3 + j]? = some x ∧ RelD F c x := fun j c hj hc => by
    have hx : i * 3 + j < cs.length := by omega
    exact ⟨_, List.getElem?_eq_getElem hx, h.rel (i * 3 + j) c _ (by rw [cellsT_get ts i j _ hi hj]; exact hc) (List.getElem?_eq_getElem hx)⟩
  obtain ⟨x, hx, rx⟩ := g 0 (I o) (by omega) rfl
  obtain ⟨y, hy, ry⟩ := g 1 (I v) (by omega) rfl
  obtain ⟨z, hz, rz⟩ := g 2 (.sl (Tm.rows us)) (by omega) rfl
  cases rx with
  | lit _ _ =>
  cases ry with
  | lit _ _ =>
  cases rz with
  | sl _ a len cap sz u hlen hcap hmax hrow hb hr =>
  exact ⟨o, v, _, .mk (.sl _ a len cap sz u hlen hcap hmax hrow hb hr) (by rw [hlen, rows_len]) hcap hmax, hx, hy, hz⟩
theorem TV.mono {F F' : Fz} (hF : F.le F') {t : Tm} {o v : Int} {z : Value} (h : TV F t o v z) : TV F' t o v z := by
  cases h with
  | mk h hl hc hm => exact .mk (h.mono hF) hl hc hm
theorem TV.qt {F : Fz} {t : Tm} {o v : Int} {z : Value} (h : TV F t o v z) : QT F [t] [.int .i64 o, .int .i64 v, z] := by
  cases h with
  | mk h hl hc hm =>
    refine ⟨rfl, fun j c x hj hx => ?_⟩
    rw [cellsT_one] at hj
    match j, hj, hx with
    | 0, hj, hx => simp [Tm.row] at hj hx; subst hj hx; exact .lit _ rfl
    | 1, hj, hx => simp [Tm.row] at hj hx; subst hj hx; exact .lit _ rfl
    | 2, hj, hx => simp [Tm.row] at hj hx; subst hj hx; exact h
    | j + 3, hj, hx => simp at hx
theorem TV.ag {F : Fz} {t : Tm} {o v : Int} {z : Value} (h : TV F t o v z) : RelV (Gh.ofF F) t.ag (.agg #[.int .i64 o, .int .i64 v, z]) := by
  cases h with
  | mk h hl hc hm =>
    refine .agg rfl (fun j x hx => ?_) (fun j c x hj hx => ?_)
    · match j, hx with
      | 0, hx => simp at hx; subst hx; rfl
      | 1, hx => simp at hx; subst hx; rfl
      | 2, hx => simp at hx; subst hx; rfl
      | j + 3, hx => simp at hx
    · match j, hj, hx with
      | 0, hj, hx => simp at hj hx; subst hj hx; exact .d (.lit _ rfl)
      | 1, hj, hx => simp at hj hx; subst hj hx; exact .d (.lit _ rfl)
      | 2, hj, hx => simp at hj hx; subst hj hx; refine .d ?_; rw [show (Tm.mk o v _).args = _ from rfl, ← Tm.rows_eq]; exact h
      | j + 3, hj, hx => simp at hx
theorem tup2 {F : Fz} {i : Int} {b : Bool} {v : Value} (h : RelV (Gh.ofF F) (.tup [.d (I i), .d (B b)]) v) : v = .tuple #[.int .i64 i, .bool b] := by
  cases h with
  | @tup _ xs hl hr =>
    obtain ⟨l⟩ := xs
    match l, hl, hr with
    | [x, y], _, hr =>
      have h0 := hr 0 _ _ rfl rfl
      have h1 := hr 1 _ _ rfl rfl
      cases h0 with | d h0 =>
      cases h0 with | lit _ _ =>
      cases h1 with | d h1 =>
      cases h1 with | lit _ _ => rfl
theorem bool1 {F : Fz} {b : Bool} {v : Value} (h : RelV (Gh.ofF F) (.d (B b)) v) : v = .bool b := by
  cases h with | d h =>
  cases h with | lit _ _ => rfl
theorem bs_calls {w : World} {lo : Nat} {vk : Value} {csk : List Value} {obk : Option Nat} {k : List Tm} {F : Fz} (hF : FzOk F w) (hlo : ∀ b k u, F b k = some u → b < lo) (hk : SlO w lo vk csk obk 0 k.length) (hq : QT F k csk) (hks : Tm.smalls k) (hn : k.length ≤ 1000000)
    {t : Tm} (ht : t.small) {o v : Int} {z : Value} (htv : TV F t o v z) :
    Calls Try.prog 189 #[vk, .agg #[.int .i64 o, .int .i64 v, z], .func (.func 160) #[] #[]] w fun e w' => e = .returned (.tuple #[.int .i64 (bsI k t : Nat), .bool (bsF k t)]) ∧ Wx w w' (fun _ => False) := by
  obtain ⟨F', hle, hF', hr⟩ := hk.lend hF hlo hq
  refine (callF VP_ok (e189 k t hks ht hn) (by decide) rfl hF' (xs := #[vk, .agg #[.int .i64 o, .int .i64 v, z], .func (.func 160) #[] #[]]) ⟨rfl, fun j c x hc hx => ?_⟩).mono ?_
  · match j, hc, hx with
    | 0, hc, hx => simp at hc hx; subst hc hx; exact .d hr
    | 1, hc, hx => simp at hc hx; subst hc hx; exact (htv.mono hle).ag
    | 2, hc, hx => simp at hc hx; subst hc hx; exact .fn rfl fun j c x h => by simp at h
    | j + 3, hc, hx => simp at hx
  · rintro e w' ⟨u, F2, rfl, _, _, hu, hw⟩
    rw [tup2 hu]
    exact ⟨rfl, hw⟩
theorem can_calls {w : World} {lo : Nat} {vk : Value} {csk : List Value} {obk : Option Nat} {k : List Tm} {F : Fz} (hF : FzOk F w) (hlo : ∀ b k u, F b k = some u → b < lo) (hk : SlO w lo vk csk obk 0 k.length) (hq : QT F k csk) (hks : Tm.smalls k) (hn : k.length ≤ 1000000)
    {t : Tm} (ht : t.small) {o v : Int} {z : Value} (htv : TV F t o v z) :
    Calls Try.prog 95 #[vk, .agg #[.int .i64 o, .int .i64 v, z]] w fun e w' => e = .returned (.bool (canF k t)) ∧ Wx w w' (fun _ => False) := by
  obtain ⟨F', hle, hF', hr⟩ := hk.lend hF hlo hq
  refine (callF VP_ok (e95 k hks hn t ht) (by decide) rfl hF' (xs := #[vk, .agg #[.int .i64 o, .int .i64 v, z]]) ⟨rfl, fun j c x hc hx => ?_⟩).mono ?_
  · match j, hc, hx with
    | 0, hc, hx => simp at hc hx; subst hc hx; exact .d hr
    | 1, hc, hx => simp at hc hx; subst hc hx; exact (htv.mono hle).ag
    | j + 2, hc, hx => simp at hx
  · rintro e w' ⟨u, F2, rfl, _, _, hu, hw⟩
    rw [bool1 hu]
    exact ⟨rfl, hw⟩
theorem FzOk.wx {F : Fz} {w w' : World} {T : Nat → Prop} {lo : Nat} (h : FzOk F w) (hlo : ∀ b k u, F b k = some u → b < lo) (hw : Wx w w' T) (hT : ∀ b, T b → lo ≤ b) (hl : lo ≤ w.heap.size) : FzOk F w' := fun b k u hu => by
  have hb := hlo b k u hu
  rw [World.cell?_of_block (w := w) (hw.block b (by omega) fun q => by have := hT b q; omega)]
  exact h b k u hu
end Go.Proofs.Ytgiciiknagelhaa
