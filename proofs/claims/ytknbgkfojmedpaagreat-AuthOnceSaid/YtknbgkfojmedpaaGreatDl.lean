/- The contract of slices.Delete at lists of structs, walked. Conditions: none. -/
import Derived.Test.YtknbgkfojmedpaaGreatVd
import Derived.Test.YtknbgkfojmedpaaGreatProg
import Derived.ProofKit
import Derived.WalkKit
import Derived.Deep.RegionLaw
import Derived.Deep.LoopGhost
import Derived.Lib.Walk
import Derived.Lib.SliceRun
import Derived.Lib.SlicesDelete
import Derived.Sort.WalkB12
import Derived.Shelf.RegionOpenPlain
set_option linter.unusedVariables false
namespace Go.Proofs.YtknbgkfojmedpaaGreat
open Go.RowKit Go.Lib Go.Sort
theorem run_clear_row {P : Program} (w : World) (t e ty : TypeId) (z : Value) (k : Nat) (ht : P.underlying t = some (.slice e)) (hv : ∀ w, (zeroValue e).run P w = .ok z w) (hz : z.cells.size = k) (hk : 0 < k) (h1 : ∀ v ∈ z.cells.toList, v.oneCell' = true) (b o n c : Nat) (hn : 0 < n)
    (hc : ∀ j, j < n * k → (w.cell? ⟨b, o + j, none⟩).isSome = true) (hf : ∀ j, j < n * k → w.frozen? ⟨b, o + j, none⟩ = false) :
    (Builtin.clear_ #[t] ty #[.slice (some ⟨b, o, none⟩) n c]).run P w = .ok (.tuple #[]) (w.setCells b o (Builtin.zeroCells z.cells n).toList) := by
  have hlen : (Builtin.zeroCells z.cells n).toList.length = n * k := by simp [Builtin.zeroCells, hz, Nat.mul_comm]
  have hone : ∀ v ∈ (Builtin.zeroCells z.cells n).toList, v.oneCell' = true := by
    intro v hv'
    simp only [Builtin.zeroCells, Array.toList_map, List.mem_map] at hv'
    obtain ⟨x, _, rfl⟩ := hv'
    have : x % z.cells.size < z.cells.size := Nat.mod_lt _ (by omega)
    rw [getElem!_pos z.cells _ this]
    exact h1 _ (by simp)
  have hst := run_storeCells_cells (P := P) b o (Builtin.zeroCells z.cells n).toList 0 w (by rw [hlen]; simpa using hc) (by rw [hlen]; simpa using hf) hone
  simp only [Nat.add_zero] at hst
  obtain ⟨m, rfl⟩ : ∃ m, n = m + 1 := ⟨n - 1, by omega⟩
  simp [Builtin.clear_, run_underlying ht, hv, hst]
open Go.VM in
theorem setCells_row (P : Program) {w : World} {b : Nat} {cur : Array Value} {e : TypeId} (hh : w.heap[b]? = some (.cells cur e (0, 0))) {o : Nat} {vs : List Value} (hle : o + vs.length ≤ cur.size) (h1 : ∀ v ∈ vs, v.oneCell' = true) :
    w.setCells b o vs = w.setRow b (cur.toList.take o ++ vs ++ cur.toList.drop (o + vs.length)).toArray := by
  have ha := run_storeCells_at (P := P) b o e vs 0 cur w hh (by omega) h1
  have hb := run_storeCells_cells (P := P) b o vs 0 w (fun j hj => by
    rw [cell_of_row w b _ cur e (0, 0) hh, Array.getElem?_eq_getElem (by omega)]; rfl) (fun j hj => by
    simp only [World.frozen?, hh]; simp) h1
  rw [ha] at hb
  simp only [Nat.add_zero, Result.ok.injEq, true_and] at hb
  exact hb.symm
def QL (G : Go.VM.Gh) (cs : List Go.VM.V) (xs : List Value) : Prop := ∀ (j : Nat) c x, cs[j]? = some c → xs[j]? = some x → Go.VM.sc x = true ∧ Go.VM.RelV G c x
theorem QL.app {G : Go.VM.Gh} {a b : List Go.VM.V} {x y : List Value} (hl : a.length = x.length) (h1 : QL G a x) (h2 : QL G b y) : QL G (a ++ b) (x ++ y) := by
  intro j c v hc hv
  rw [List.getElem?_append] at hc hv
  by_cases hj : j < a.length
  · rw [if_pos hj] at hc; rw [if_pos (hl ▸ hj)] at hv
    exact h1 j c v hc hv
  · rw [if_neg hj] at hc; rw [if_neg (hl ▸ hj)] at hv
    rw [hl] at hc
    exact h2 _ c v hc hv
theorem QL.take {G : Go.VM.Gh} {a : List Go.VM.V} {x : List Value} (h : QL G a x) (n : Nat) : QL G (a.take n) (x.take n) := by
  intro j c v hc hv
  rw [List.getElem?_take] at hc hv
  split at hc
  · rename_i hj; rw [if_pos hj] at hv; exact h j c v hc hv
  · cases hc
theorem QL.drop {G : Go.VM.Gh} {a : List Go.VM.V} {x : List Value} (h : QL G a x) (n : Nat) : QL G (a.drop n) (x.drop n) := by
  intro j c v hc hv
  rw [List.getElem?_drop] at hc hv
  exact h _ c v hc hv
theorem QL.pre {G : Go.VM.Gh} {a : List Go.VM.V} {x y : List Value} (hl : a.length ≤ x.length) (h : QL G a x) : QL G a (x ++ y) := by
  intro j c v hc hv
  have hj := (List.getElem?_eq_some_iff.1 hc).1
  rw [List.getElem?_append_left (by omega)] at hv
  exact h j c v hc hv
theorem QL.nil {G : Go.VM.Gh} : QL G [] [] := fun j c x h _ => by simp at h
theorem QL.cons {G : Go.VM.Gh} {c : Go.VM.V} {x : Value} {a : List Go.VM.V} {y : List Value} (h : Go.VM.sc x = true ∧ Go.VM.RelV G c x) (h1 : QL G a y) : QL G (c :: a) (x :: y) := fun j c' x' hc hx => match j with
  | 0 => by simp at hc hx; subst hc; subst hx; exact h
  | j + 1 => h1 j c' x' (by simpa using hc) (by simpa using hx)
theorem q_lit {G : Go.VM.Gh} {v : Value} (h : Go.VM.sc v = true) (h2 : Go.VM.RelV G (.d (.lit v)) v) : Go.VM.sc v = true ∧ Go.VM.RelV G (.d (.lit v)) v := ⟨h, h2⟩
namespace KS
set_option maxHeartbeats 4000000 in
set_option maxRecDepth 1000000 in
theorem del_walk (i0 : TypeInfo) (zc : Array Value) (hi0 : Tryz.prog.info? 83 = some i0) (hz1 : i0.size = 81) (v3 : ∀ w, (zeroValue 83).run Tryz.prog w = .ok (.agg zc) w) (hzc : zc.size = 81) (hz : ∀ v ∈ zc.toList, v.oneCell' = true)
    (b cap n i j : Nat) (news : List Value) (w : World) (hij : i < j) (hj : j ≤ n) (hcap : n ≤ cap) (hm : cap ≤ 9223372036854775807)
    (hlen : news.length = (n - j) * 81) (hsrc : ∀ t u, news[t]? = some u → w.cell? ⟨b, j * 81 + t, none⟩ = some u) (hone : ∀ u ∈ news, u.oneCell' = true)
    (hcell : ∀ t, t < n * 81 → (w.cell? ⟨b, t, none⟩).isSome = true ∧ w.frozen? ⟨b, t, none⟩ = false) :
    Calls Tryz.prog 150 #[.slice (some ⟨b, 0, none⟩) n cap, .int .i64 i, .int .i64 j] w fun e w' => e = .returned (.slice (some ⟨b, 0, none⟩) (n - (j - i)) cap) ∧
      w' = (w.drew.setCells b (i * 81) news).setCells b ((i + (n - j)) * 81) (Builtin.zeroCells zc (j - i)).toList := by
  obtain ⟨A, hA, hsrc2⟩ : ∃ A : Addr, (if cap = j then some (⟨b, 0, none⟩ : Addr) else some ⟨b, j * 81, none⟩) = some A ∧ Hid (∀ t u, news[t]? = some u → w.drew.cell? (A.add t) = some u) := by
    by_cases h : cap = j
    · refine ⟨⟨b, 0, none⟩, by simp [h], fun t u hu => ?_⟩
      have h0 : news.length = 0 := by rw [hlen]; omega
      rw [List.length_eq_zero_iff.1 h0] at hu
      simp at hu
    · refine ⟨⟨b, j * 81, none⟩, by simp [h], fun t u hu => ?_⟩
      rw [Addr.add_lit]
      exact hsrc t u hu
  have s1 : Hid (news.length = (n - j) * 81) := hlen
  have s2 : Hid (∀ u ∈ news, u.oneCell' = true) := hone
  have s3 : Hid (∀ t, t < news.length → (w.drew.cell? ⟨b, 0 + i * 81 + t, none⟩).isSome = true ∧ w.drew.frozen? ⟨b, 0 + i * 81 + t, none⟩ = false) := by
    intro t ht
    rw [hlen] at ht
    rw [Nat.zero_add]
    exact hcell (i * 81 + t) (by omega)
  obtain ⟨W1, hW1⟩ : ∃ W1, W1 = w.drew.setCells b (0 + i * 81) news := ⟨_, rfl⟩
  have hcl : ∀ ty, (Builtin.clear_ #[32] ty #[.slice (some ⟨b, (i + (n - j)) * 81, none⟩) (n - (i + (n - j))) (cap - (i + (n - j)))]).run Tryz.prog W1 = .ok (.tuple #[]) (W1.setCells b ((i + (n - j)) * 81) (Builtin.zeroCells zc (n - (i + (n - j)))).toList) := fun ty =>
    run_clear_row W1 _ _ ty (.agg zc) 81 Tryz.underlying32 v3 hzc (by decide) hz b _ _ _ (by omega) (fun t ht => by
      rw [hW1, World.cell?_setCells_out b _ _ _ _ (fun _ _ => .inr (by rw [hlen]; show 0 + i * 81 + (n - j) * 81 ≤ (i + (n - j)) * 81 + t; omega))]
      exact (hcell _ (by omega)).1) (fun t ht => by
      rw [hW1, World.frozen?_setCells b]
      exact (hcell _ (by omega)).2)
  have X : Aside (W1 = w.drew.setCells b (0 + i * 81) news) := hW1
  have hW : Hid (W1 = w.drew.setCells b (0 + i * 81) news) := hW1
  have mixed : Tryz.prog.follows .mixedOrders = true := by kernel_rfl
  have hic : i ≤ cap := by omega
  have hjc : j ≤ cap := by omega
  clear hW1 hsrc hcell hone hlen
  go_enter Tryz.func150, Tryz.ntmps150
  go_wp2_with fail
  go_region_law_o (refine step_append_room rfl (.tmp 22) (.tmp 25) 32 rfl 83 i0 81 Tryz.underlying32 hi0 hz1 b 0 i cap (by simp [Act.eval, Act.put]) A (n - j) (cap - j) news (by simp [Act.eval, Act.put]) s1.out hsrc2.out s2.out (by omega) s3.out ?_; rw [← hW.out])
  go_wp2
  go_ret
  refine ⟨by rw [show n - (j - i) = i + (n - j) by omega]; rfl, ?_⟩
  rw [X.out, Nat.zero_add, show n - (i + (n - j)) = j - i by omega]
def zT : Array Value := #[.int .i64 0, .int .i64 0, .bool false, .int .i64 0, .int .i64 0, .int .i64 0, .int .i64 0, .int .i64 0, .slice none 0 0, .int .i64 0, .int .i64 0, .slice none 0 0, .int .i64 0, .int .i64 0, .slice none 0 0, .int .i64 0, .int .i64 0, .slice none 0 0, .int .i64 0, .int .i64 0, .slice none 0 0, .int .i64 0, .int .i64 0, .slice none 0 0, .int .i64 0, .int .i64 0, .slice none 0 0, .int .i64 0, .int .i64 0, .int .i64 0, .int .i64 0, .int .i64 0, .int .i64 0, .slice none 0 0, .int .i64 0, .int .i64 0, .int .i64 0, .int .i64 0, .int .i64 0, .slice none 0 0, .int .i64 0, .int .i64 0, .slice none 0 0, .int .i64 0, .int .i64 0, .int .i64 0, .int .i64 0, .int .u64 0, .int .u64 0, .int .i64 0, .int .u64 0, .int .u64 0, .int .i64 0, .int .u64 0, .int .u64 0, .int .i64 0, .int .u64 0, .int .u64 0, .int .i64 0, .int .i64 0, .int .i64 0, .int .i64 0, .int .i64 0, .int .i64 0, .int .i64 0, .int .i64 0, .slice none 0 0, .slice none 0 0, .int .i64 0, .int .i64 0, .int .i64 0, .slice none 0 0, .int .i64 0, .int .i64 0, .int .i64 0, .int .i64 0, .int .i64 0, .bool false, .int .i64 0, .bool false, .int .i64 0]
def zV : List Go.VM.V := [.d (.lit (.int .i64 0)), .d (.lit (.int .i64 0)), .d (.lit (.bool false)), .d (.lit (.int .i64 0)), .d (.lit (.int .i64 0)), .d (.lit (.int .i64 0)), .d (.lit (.int .i64 0)), .d (.lit (.int .i64 0)), .d (.sl []), .d (.lit (.int .i64 0)), .d (.lit (.int .i64 0)), .d (.sl []), .d (.lit (.int .i64 0)), .d (.lit (.int .i64 0)), .d (.sl []), .d (.lit (.int .i64 0)), .d (.lit (.int .i64 0)), .d (.sl []), .d (.lit (.int .i64 0)), .d (.lit (.int .i64 0)), .d (.sl []), .d (.lit (.int .i64 0)), .d (.lit (.int .i64 0)), .d (.sl []), .d (.lit (.int .i64 0)), .d (.lit (.int .i64 0)), .d (.sl []), .d (.lit (.int .i64 0)), .d (.lit (.int .i64 0)), .d (.lit (.int .i64 0)), .d (.lit (.int .i64 0)), .d (.lit (.int .i64 0)), .d (.lit (.int .i64 0)), .d (.sl []), .d (.lit (.int .i64 0)), .d (.lit (.int .i64 0)), .d (.lit (.int .i64 0)), .d (.lit (.int .i64 0)), .d (.lit (.int .i64 0)), .d (.sl []), .d (.lit (.int .i64 0)), .d (.lit (.int .i64 0)), .d (.sl []), .d (.lit (.int .i64 0)), .d (.lit (.int .i64 0)), .d (.lit (.int .i64 0)), .d (.lit (.int .i64 0)), .d (.lit (.int .u64 0)), .d (.lit (.int .u64 0)), .d (.lit (.int .i64 0)), .d (.lit (.int .u64 0)), .d (.lit (.int .u64 0)), .d (.lit (.int .i64 0)), .d (.lit (.int .u64 0)), .d (.lit (.int .u64 0)), .d (.lit (.int .i64 0)), .d (.lit (.int .u64 0)), .d (.lit (.int .u64 0)), .d (.lit (.int .i64 0)), .d (.lit (.int .i64 0)), .d (.lit (.int .i64 0)), .d (.lit (.int .i64 0)), .d (.lit (.int .i64 0)), .d (.lit (.int .i64 0)), .d (.lit (.int .i64 0)), .d (.lit (.int .i64 0)), .d (.sl []), .d (.sl []), .d (.lit (.int .i64 0)), .d (.lit (.int .i64 0)), .d (.lit (.int .i64 0)), .d (.sl []), .d (.lit (.int .i64 0)), .d (.lit (.int .i64 0)), .d (.lit (.int .i64 0)), .d (.lit (.int .i64 0)), .d (.lit (.int .i64 0)), .d (.lit (.bool false)), .d (.lit (.int .i64 0)), .d (.lit (.bool false)), .d (.lit (.int .i64 0))]
theorem zq (G : Go.VM.Gh) : QL G zV zT.toList := .cons ⟨rfl, .d (.lit _ rfl)⟩ <| .cons ⟨rfl, .d (.lit _ rfl)⟩ <| .cons ⟨rfl, .d (.lit _ rfl)⟩ <| .cons ⟨rfl, .d (.lit _ rfl)⟩ <| .cons ⟨rfl, .d (.lit _ rfl)⟩ <| .cons ⟨rfl, .d (.lit _ rfl)⟩ <| .cons ⟨rfl, .d (.lit _ rfl)⟩ <| .cons ⟨rfl, .d (.lit _ rfl)⟩ <| .cons ⟨rfl, .d (Go.VM.RelD.nil _)⟩ <| .cons ⟨rfl, .d (.lit _ rfl)⟩ <| .cons ⟨rfl, .d (.lit _ rfl)⟩ <| .cons ⟨rfl, .d (Go.VM.RelD.nil _)⟩ <| .cons ⟨rfl, .d (.lit _ rfl)⟩ <| .cons ⟨rfl, .d (.lit _ rfl)⟩ <| .cons ⟨rfl, .d (Go.VM.RelD.nil _)⟩ <| .cons ⟨rfl, .d (.lit _ rfl)⟩ <| .cons ⟨rfl, .d (.lit _ rfl)⟩ <| .cons ⟨rfl, .d (Go.VM.RelD.nil _)⟩ <| .cons ⟨rfl, .d (.lit _ rfl)⟩ <| .cons ⟨rfl, .d (.lit _ rfl)⟩ <| .cons ⟨rfl, .d (Go.VM.RelD.nil _)⟩ <| .cons ⟨rfl, .d (.lit _ rfl)⟩ <| .cons ⟨rfl, .d (.lit _ rfl)⟩ <| .cons ⟨rfl, .d (Go.VM.RelD.nil _)⟩ <| .cons ⟨rfl, .d (.lit _ rfl)⟩ <| .cons ⟨rfl, .d (.lit _ rfl)⟩ <| .cons ⟨rfl, .d (Go.VM.RelD.nil _)⟩ <| .cons ⟨rfl, .d (.lit _ rfl)⟩ <| .cons ⟨rfl, .d (.lit _ rfl)⟩ <| .cons ⟨rfl, .d (.lit _ rfl)⟩ <| .cons ⟨rfl, .d (.lit _ rfl)⟩ <| .cons ⟨rfl, .d (.lit _ rfl)⟩ <| .cons ⟨rfl, .d (.lit _ rfl)⟩ <| .cons ⟨rfl, .d (Go.VM.RelD.nil _)⟩ <| .cons ⟨rfl, .d (.lit _ rfl)⟩ <| .cons ⟨rfl, .d (.lit _ rfl)⟩ <| .cons ⟨rfl, .d (.lit _ rfl)⟩ <| .cons ⟨rfl, .d (.lit _ rfl)⟩ <| .cons ⟨rfl, .d (.lit _ rfl)⟩ <| .cons ⟨rfl, .d (Go.VM.RelD.nil _)⟩ <| .cons ⟨rfl, .d (.lit _ rfl)⟩ <| .cons ⟨rfl, .d (.lit _ rfl)⟩ <| .cons ⟨rfl, .d (Go.VM.RelD.nil _)⟩ <| .cons ⟨rfl, .d (.lit _ rfl)⟩ <| .cons ⟨rfl, .d (.lit _ rfl)⟩ <| .cons ⟨rfl, .d (.lit _ rfl)⟩ <| .cons ⟨rfl, .d (.lit _ rfl)⟩ <| .cons ⟨rfl, .d (.lit _ rfl)⟩ <| .cons ⟨rfl, .d (.lit _ rfl)⟩ <| .cons ⟨rfl, .d (.lit _ rfl)⟩ <| .cons ⟨rfl, .d (.lit _ rfl)⟩ <| .cons ⟨rfl, .d (.lit _ rfl)⟩ <| .cons ⟨rfl, .d (.lit _ rfl)⟩ <| .cons ⟨rfl, .d (.lit _ rfl)⟩ <| .cons ⟨rfl, .d (.lit _ rfl)⟩ <| .cons ⟨rfl, .d (.lit _ rfl)⟩ <| .cons ⟨rfl, .d (.lit _ rfl)⟩ <| .cons ⟨rfl, .d (.lit _ rfl)⟩ <| .cons ⟨rfl, .d (.lit _ rfl)⟩ <| .cons ⟨rfl, .d (.lit _ rfl)⟩ <| .cons ⟨rfl, .d (.lit _ rfl)⟩ <| .cons ⟨rfl, .d (.lit _ rfl)⟩ <| .cons ⟨rfl, .d (.lit _ rfl)⟩ <| .cons ⟨rfl, .d (.lit _ rfl)⟩ <| .cons ⟨rfl, .d (.lit _ rfl)⟩ <| .cons ⟨rfl, .d (.lit _ rfl)⟩ <| .cons ⟨rfl, .d (Go.VM.RelD.nil _)⟩ <| .cons ⟨rfl, .d (Go.VM.RelD.nil _)⟩ <| .cons ⟨rfl, .d (.lit _ rfl)⟩ <| .cons ⟨rfl, .d (.lit _ rfl)⟩ <| .cons ⟨rfl, .d (.lit _ rfl)⟩ <| .cons ⟨rfl, .d (Go.VM.RelD.nil _)⟩ <| .cons ⟨rfl, .d (.lit _ rfl)⟩ <| .cons ⟨rfl, .d (.lit _ rfl)⟩ <| .cons ⟨rfl, .d (.lit _ rfl)⟩ <| .cons ⟨rfl, .d (.lit _ rfl)⟩ <| .cons ⟨rfl, .d (.lit _ rfl)⟩ <| .cons ⟨rfl, .d (.lit _ rfl)⟩ <| .cons ⟨rfl, .d (.lit _ rfl)⟩ <| .cons ⟨rfl, .d (.lit _ rfl)⟩ <| .cons ⟨rfl, .d (.lit _ rfl)⟩ <| .nil
def zVs : Nat → List Go.VM.V
  | 0 => []
  | n + 1 => zV ++ zVs n
theorem zVs_len : ∀ n, (zVs n).length = n * 81
  | 0 => rfl
  | n + 1 => by rw [zVs, List.length_append, zVs_len n]; show 81 + n * 81 = (n + 1) * 81; omega
theorem zVs_get : ∀ (n j : Nat), j < n * 81 → (zVs n)[j]? = zV[j % 81]?
  | 0, j, h => by omega
  | n + 1, j, h => by
    rw [zVs, List.getElem?_append]
    split
    · rename_i hj; rw [Nat.mod_eq_of_lt (show j < 81 from hj)]
    · rename_i hj
      have h6 : zV.length = 81 := rfl
      rw [h6] at hj ⊢
      rw [zVs_get n (j - 81) (by omega), Nat.mod_eq_sub_mod (show 81 ≤ j by omega)]
theorem zrel (G : Go.VM.Gh) (n : Nat) : QL G (zVs n) (Builtin.zeroCells zT n).toList := by
  intro j c x hc hx
  have hj : j < n * 81 := by have := (List.getElem?_eq_some_iff.1 hc).1; rw [zVs_len] at this; exact this
  rw [zVs_get n j hj] at hc
  have hx2 : x = zT[j % 81]! := by
    rw [Array.getElem?_toList, Builtin.zeroCells, Array.getElem?_map] at hx
    obtain ⟨k, hk, rfl⟩ := Option.map_eq_some_iff.1 hx
    rw [Array.getElem?_range] at hk
    split at hk
    · simp only [Option.some.injEq] at hk
      subst hk
      rfl
    · cases hk
  have hm : j % 81 < 81 := Nat.mod_lt _ (by decide)
  refine zq G _ c x hc ?_
  have hs : zT.size = 81 := rfl
  rw [hx2, Array.getElem?_toList, Array.getElem?_eq_getElem (by omega), getElem!_pos zT _ (by omega)]
open Go.VM in
set_option maxHeartbeats 4000000 in
theorem del_vc {id n i j : Nat} {blks : List (List V)} {cs : List V} (hb : blks[id]? = some cs) (hcl : cs.length = n * 81) (hij : i < j) (hj : j ≤ n) :
    VC Tryz.prog 150 [.loc id 0 n 81, .d (.lit (.int .i64 (i : Int))), .d (.lit (.int .i64 (j : Int)))] blks ⟨.loc id 0 (n - (j - i)) 81, blks.set id (cs.take (i * 81) ++ cs.drop (j * 81) ++ zVs (j - i)), [], 0⟩ := by
  intro G w xs hargs hR
  have k1 : (Tryz.prog.info? 83).bind (·.zero) = some (.agg zT) := by kernel_rfl
  have k2 : (Tryz.prog.info? 83).map (·.size) = some 81 := by kernel_rfl
  obtain ⟨i0, hi0, hz0, hz1⟩ : ∃ i0, Tryz.prog.info? 83 = some i0 ∧ i0.zero = some (.agg zT) ∧ i0.size = 81 := by
    cases h : Tryz.prog.info? 83 with
    | none => rw [h] at k2; cases k2
    | some i0 =>
      rw [h] at k1 k2
      simp only [Option.bind_some, Option.map_some, Option.some.injEq] at k1 k2
      exact ⟨i0, rfl, k1, k2⟩
  have v3 : ∀ w, (zeroValue 83).run Tryz.prog w = .ok (.agg zT) w := fun w => run_zero' hi0 hz0
  have hlt : id < blks.length := (List.getElem?_eq_some_iff.1 hb).1
  have h3 : xs.size = 3 := hargs.1
  obtain ⟨x0, x1, x2, rfl⟩ : ∃ x0 x1 x2, xs = #[x0, x1, x2] := by
    obtain ⟨l⟩ := xs
    match l, h3 with
    | [a, b, c], _ => exact ⟨a, b, c, rfl⟩
  have r0 := hargs.2 0 _ _ rfl rfl
  have r1 := hargs.2 1 _ _ rfl rfl
  have r2 := hargs.2 2 _ _ rfl rfl
  cases r1 with | d r1 =>
  cases r1 with | lit _ _ =>
  cases r2 with | d r2 =>
  cases r2 with | lit _ _ =>
  cases r0 with
  | @loc _ _ _ _ b cap hι hc hm hz =>
  obtain ⟨b', cur, e, hi', hh, hcur, hr⟩ := hR.blk id cs hb
  rw [if_pos (show id < (St.entry blks).base from hlt)] at hi' hr
  have hbb : b' = b := by
    have : G.ι id = some b' := hi'
    rw [hι] at this; simpa using this.symm
  subst hbb
  obtain ⟨cur2, e2, hh2, hsz⟩ := hR.zok id b' hι
  rw [hh] at hh2
  simp only [Option.some.injEq, Obj.cells.injEq] at hh2
  obtain ⟨rfl, rfl, _⟩ := hh2
  have hdd : G.dd id = false := by
    cases hd : G.dd id with
    | false => rfl
    | true =>
      have := hR.ddb id hd
      have h' : (St.entry blks).blocks[id]? = some cs := hb
      rw [h'] at this
      simp only [Option.some.injEq] at this
      rw [this] at hcl
      simp at hcl; omega
  have hQ : QL G.old cs cur.toList := fun j c x h1 h2 => hr j c x h1 (by simpa using h2)
  have hn6 : n * 81 ≤ cur.size := by omega
  obtain ⟨news, hnews⟩ : ∃ news, news = (cur.toList.drop (j * 81)).take ((n - j) * 81) := ⟨_, rfl⟩
  have hlen : news.length = (n - j) * 81 := by rw [hnews]; simp; omega
  have hcellrow : ∀ o, w.cell? ⟨b', o, none⟩ = cur[o]? := fun o => cell_of_row w b' o cur e (0, 0) hh
  have hone : ∀ u ∈ news, u.oneCell' = true := by
    intro u hu
    obtain ⟨t, ht⟩ := List.getElem?_of_mem hu
    have htl := (List.getElem?_eq_some_iff.1 ht).1
    rw [hnews, List.getElem?_take, if_pos (by omega), List.getElem?_drop] at ht
    have hlt2 : j * 81 + t < cs.length := by omega
    exact sc_one (hQ _ _ _ (List.getElem?_eq_getElem hlt2) ht).1
  have W := del_walk i0 zT hi0 hz1 v3 rfl (by decide +kernel) b' cap n i j news w hij hj hc (Nat.le_trans hm (by decide)) hlen (fun t u hu => by
    have htl := (List.getElem?_eq_some_iff.1 hu).1
    rw [hnews, List.getElem?_take, if_pos (by omega), List.getElem?_drop] at hu
    rw [hcellrow]; simpa using hu) hone (fun t ht => ⟨by rw [hcellrow, Array.getElem?_eq_getElem (by omega)]; rfl, by simp only [World.frozen?, hh]; simp⟩)
  refine W.mono ?_
  rintro e' w' ⟨rfl, rfl⟩
  have hzl : (Builtin.zeroCells zT (j - i)).toList.length = (j - i) * 81 := by simp [Builtin.zeroCells, zT, Nat.mul_comm]
  have hd : w.drew.heap[b']? = some (.cells cur e (0, 0)) := hh
  have e1 := setCells_row Tryz.prog hd (o := i * 81) (vs := news) (by omega) hone
  obtain ⟨c1, hc1⟩ : ∃ c1 : Array Value, c1 = (cur.toList.take (i * 81) ++ news ++ cur.toList.drop (i * 81 + news.length)).toArray := ⟨_, rfl⟩
  rw [← hc1] at e1
  have hc1s : c1.size = cur.size := by rw [hc1]; simp; omega
  have hh1 := setRow_heap w.drew b' cur c1 e (0, 0) hd
  have hzone : ∀ v ∈ (Builtin.zeroCells zT (j - i)).toList, v.oneCell' = true := by
    intro v hv
    obtain ⟨t, ht⟩ := List.getElem?_of_mem hv
    have htl := (List.getElem?_eq_some_iff.1 ht).1
    exact sc_one (zrel G (j - i) t _ _ (List.getElem?_eq_getElem (by rw [zVs_len]; omega)) ht).1
  have e2 := setCells_row Tryz.prog hh1 (o := (i + (n - j)) * 81) (vs := (Builtin.zeroCells zT (j - i)).toList) (by rw [hzl]; omega) hzone
  obtain ⟨c2, hc2⟩ : ∃ c2 : Array Value, c2 = (c1.toList.take ((i + (n - j)) * 81) ++ (Builtin.zeroCells zT (j - i)).toList ++ c1.toList.drop ((i + (n - j)) * 81 + (Builtin.zeroCells zT (j - i)).toList.length)).toArray := ⟨_, rfl⟩
  rw [← hc2] at e2
  have hc2s : c2.size = c1.size := by rw [hc2]; simp [hzl]; omega
  rw [e1, e2]
  have hR1 := hR.world (Wx.drew w _)
  have hR2 := hR1.setBlk (cs := []) (cur' := c1) hι hdd hc1s hd (by simp) (by simp)
  have hR3 := hR2.setBlk (cs := cs.take (i * 81) ++ cs.drop (j * 81) ++ zVs (j - i)) (cur' := c2) hι hdd hc2s hh1 (by simp [zVs_len]; omega) (by
    intro q c x hq hx
    rw [if_pos (show id < (St.entry blks).base from hlt)]
    have hA : (cur.toList.take (i * 81)).length = i * 81 := by rw [List.length_take, Array.length_toList]; omega
    have hc1l : c1.toList = (cur.toList.take (i * 81) ++ news) ++ cur.toList.drop (i * 81 + news.length) := by rw [hc1]
    have hc2l : c2.toList = (cur.toList.take (i * 81) ++ news) ++ (Builtin.zeroCells zT (j - i)).toList ++ c1.toList.drop ((i + (n - j)) * 81 + (Builtin.zeroCells zT (j - i)).toList.length) := by
      have ht : c1.toList.take ((i + (n - j)) * 81) = cur.toList.take (i * 81) ++ news := by
        rw [hc1l]
        exact List.take_left' (by rw [List.length_append, hA, hlen]; omega)
      rw [hc2, ht]
    have Q1 := hQ.take (i * 81)
    have Q2 : QL G.old (cs.drop (j * 81)) news := by
      intro t c x h1 h2
      have htl := (List.getElem?_eq_some_iff.1 h2).1
      rw [hnews, List.getElem?_take, if_pos (by omega)] at h2
      exact (hQ.drop (j * 81)) t c x h1 h2
    have Q3 := zrel G.old (j - i)
    have l1 : (cs.take (i * 81)).length = (cur.toList.take (i * 81)).length := by rw [hA, List.length_take]; omega
    have l2 : (cs.take (i * 81) ++ cs.drop (j * 81)).length = (cur.toList.take (i * 81) ++ news).length := by
      rw [List.length_append, List.length_append, l1, List.length_drop, hlen, hcl, Nat.sub_mul]
    have Q := ((Q1.app l1 Q2).app l2 Q3).pre (y := c1.toList.drop ((i + (n - j)) * 81 + (Builtin.zeroCells zT (j - i)).toList.length)) (by
      simp only [List.length_append, zVs_len, hzl] at l2 ⊢
      omega)
    rw [← hc2l] at Q
    exact Q q c x hq (by simpa using hx))
  refine ⟨_, G, rfl, .loc hι (by omega) hm hz, ?_⟩
  have hset : ∀ X : List V, ((blks.set id []).set id X) = blks.set id X := fun X => by simp
  have := hR3
  simp only [St.entry, hset] at this
  exact this
open Go.VM in
def del_nat (a : List V) (b : List (List V)) : Option Ret := match a with
  | [.loc id off n sz, .d (.lit (.int .i64 (.ofNat i))), .d (.lit (.int .i64 (.ofNat j)))] => match b[id]? with
    | some cs => match Nat.beq off 0 && Nat.beq sz 81 && Nat.beq cs.length (n * 81) && Nat.ble (i + 1) j && Nat.ble j n with
      | true => some ⟨.loc id 0 (n - (j - i)) 81, b.set id (cs.take (i * 81) ++ cs.drop (j * 81) ++ zVs (j - i)), [], 0⟩
      | false => none
    | none => none
  | _ => none
end KS
namespace KH
set_option maxHeartbeats 4000000 in
set_option maxRecDepth 1000000 in
theorem del_walk (i0 : TypeInfo) (zc : Array Value) (hi0 : Tryz.prog.info? 41 = some i0) (hz1 : i0.size = 26) (v3 : ∀ w, (zeroValue 41).run Tryz.prog w = .ok (.agg zc) w) (hzc : zc.size = 26) (hz : ∀ v ∈ zc.toList, v.oneCell' = true)
    (b cap n i j : Nat) (news : List Value) (w : World) (hij : i < j) (hj : j ≤ n) (hcap : n ≤ cap) (hm : cap ≤ 9223372036854775807)
    (hlen : news.length = (n - j) * 26) (hsrc : ∀ t u, news[t]? = some u → w.cell? ⟨b, j * 26 + t, none⟩ = some u) (hone : ∀ u ∈ news, u.oneCell' = true)
    (hcell : ∀ t, t < n * 26 → (w.cell? ⟨b, t, none⟩).isSome = true ∧ w.frozen? ⟨b, t, none⟩ = false) :
    Calls Tryz.prog 208 #[.slice (some ⟨b, 0, none⟩) n cap, .int .i64 i, .int .i64 j] w fun e w' => e = .returned (.slice (some ⟨b, 0, none⟩) (n - (j - i)) cap) ∧
      w' = (w.drew.setCells b (i * 26) news).setCells b ((i + (n - j)) * 26) (Builtin.zeroCells zc (j - i)).toList := by
  obtain ⟨A, hA, hsrc2⟩ : ∃ A : Addr, (if cap = j then some (⟨b, 0, none⟩ : Addr) else some ⟨b, j * 26, none⟩) = some A ∧ Hid (∀ t u, news[t]? = some u → w.drew.cell? (A.add t) = some u) := by
    by_cases h : cap = j
    · refine ⟨⟨b, 0, none⟩, by simp [h], fun t u hu => ?_⟩
      have h0 : news.length = 0 := by rw [hlen]; omega
      rw [List.length_eq_zero_iff.1 h0] at hu
      simp at hu
    · refine ⟨⟨b, j * 26, none⟩, by simp [h], fun t u hu => ?_⟩
      rw [Addr.add_lit]
      exact hsrc t u hu
  have s1 : Hid (news.length = (n - j) * 26) := hlen
  have s2 : Hid (∀ u ∈ news, u.oneCell' = true) := hone
  have s3 : Hid (∀ t, t < news.length → (w.drew.cell? ⟨b, 0 + i * 26 + t, none⟩).isSome = true ∧ w.drew.frozen? ⟨b, 0 + i * 26 + t, none⟩ = false) := by
    intro t ht
    rw [hlen] at ht
    rw [Nat.zero_add]
    exact hcell (i * 26 + t) (by omega)
  obtain ⟨W1, hW1⟩ : ∃ W1, W1 = w.drew.setCells b (0 + i * 26) news := ⟨_, rfl⟩
  have hcl : ∀ ty, (Builtin.clear_ #[31] ty #[.slice (some ⟨b, (i + (n - j)) * 26, none⟩) (n - (i + (n - j))) (cap - (i + (n - j)))]).run Tryz.prog W1 = .ok (.tuple #[]) (W1.setCells b ((i + (n - j)) * 26) (Builtin.zeroCells zc (n - (i + (n - j)))).toList) := fun ty =>
    run_clear_row W1 _ _ ty (.agg zc) 26 Tryz.underlying31 v3 hzc (by decide) hz b _ _ _ (by omega) (fun t ht => by
      rw [hW1, World.cell?_setCells_out b _ _ _ _ (fun _ _ => .inr (by rw [hlen]; show 0 + i * 26 + (n - j) * 26 ≤ (i + (n - j)) * 26 + t; omega))]
      exact (hcell _ (by omega)).1) (fun t ht => by
      rw [hW1, World.frozen?_setCells b]
      exact (hcell _ (by omega)).2)
  have X : Aside (W1 = w.drew.setCells b (0 + i * 26) news) := hW1
  have hW : Hid (W1 = w.drew.setCells b (0 + i * 26) news) := hW1
  have mixed : Tryz.prog.follows .mixedOrders = true := by kernel_rfl
  have hic : i ≤ cap := by omega
  have hjc : j ≤ cap := by omega
  clear hW1 hsrc hcell hone hlen
  go_enter Tryz.func208, Tryz.ntmps208
  go_wp2_with fail
  go_region_law_o (refine step_append_room rfl (.tmp 22) (.tmp 25) 31 rfl 41 i0 26 Tryz.underlying31 hi0 hz1 b 0 i cap (by simp [Act.eval, Act.put]) A (n - j) (cap - j) news (by simp [Act.eval, Act.put]) s1.out hsrc2.out s2.out (by omega) s3.out ?_; rw [← hW.out])
  go_wp2
  go_ret
  refine ⟨by rw [show n - (j - i) = i + (n - j) by omega]; rfl, ?_⟩
  rw [X.out, Nat.zero_add, show n - (i + (n - j)) = j - i by omega]
def zT : Array Value := #[.int .i64 0, .int .i64 0, .int .i64 0, .int .i64 0, .int .i64 0, .slice none 0 0, .int .i64 0, .int .i64 0, .slice none 0 0, .int .i64 0, .int .i64 0, .slice none 0 0, .int .i64 0, .int .i64 0, .slice none 0 0, .int .i64 0, .int .i64 0, .slice none 0 0, .int .i64 0, .int .i64 0, .slice none 0 0, .int .i64 0, .int .i64 0, .slice none 0 0, .int .i64 0, .bool false]
def zV : List Go.VM.V := [.d (.lit (.int .i64 0)), .d (.lit (.int .i64 0)), .d (.lit (.int .i64 0)), .d (.lit (.int .i64 0)), .d (.lit (.int .i64 0)), .d (.sl []), .d (.lit (.int .i64 0)), .d (.lit (.int .i64 0)), .d (.sl []), .d (.lit (.int .i64 0)), .d (.lit (.int .i64 0)), .d (.sl []), .d (.lit (.int .i64 0)), .d (.lit (.int .i64 0)), .d (.sl []), .d (.lit (.int .i64 0)), .d (.lit (.int .i64 0)), .d (.sl []), .d (.lit (.int .i64 0)), .d (.lit (.int .i64 0)), .d (.sl []), .d (.lit (.int .i64 0)), .d (.lit (.int .i64 0)), .d (.sl []), .d (.lit (.int .i64 0)), .d (.lit (.bool false))]
theorem zq (G : Go.VM.Gh) : QL G zV zT.toList := .cons ⟨rfl, .d (.lit _ rfl)⟩ <| .cons ⟨rfl, .d (.lit _ rfl)⟩ <| .cons ⟨rfl, .d (.lit _ rfl)⟩ <| .cons ⟨rfl, .d (.lit _ rfl)⟩ <| .cons ⟨rfl, .d (.lit _ rfl)⟩ <| .cons ⟨rfl, .d (Go.VM.RelD.nil _)⟩ <| .cons ⟨rfl, .d (.lit _ rfl)⟩ <| .cons ⟨rfl, .d (.lit _ rfl)⟩ <| .cons ⟨rfl, .d (Go.VM.RelD.nil _)⟩ <| .cons ⟨rfl, .d (.lit _ rfl)⟩ <| .cons ⟨rfl, .d (.lit _ rfl)⟩ <| .cons ⟨rfl, .d (Go.VM.RelD.nil _)⟩ <| .cons ⟨rfl, .d (.lit _ rfl)⟩ <| .cons ⟨rfl, .d (.lit _ rfl)⟩ <| .cons ⟨rfl, .d (Go.VM.RelD.nil _)⟩ <| .cons ⟨rfl, .d (.lit _ rfl)⟩ <| .cons ⟨rfl, .d (.lit _ rfl)⟩ <| .cons ⟨rfl, .d (Go.VM.RelD.nil _)⟩ <| .cons ⟨rfl, .d (.lit _ rfl)⟩ <| .cons ⟨rfl, .d (.lit _ rfl)⟩ <| .cons ⟨rfl, .d (Go.VM.RelD.nil _)⟩ <| .cons ⟨rfl, .d (.lit _ rfl)⟩ <| .cons ⟨rfl, .d (.lit _ rfl)⟩ <| .cons ⟨rfl, .d (Go.VM.RelD.nil _)⟩ <| .cons ⟨rfl, .d (.lit _ rfl)⟩ <| .cons ⟨rfl, .d (.lit _ rfl)⟩ <| .nil
def zVs : Nat → List Go.VM.V
  | 0 => []
  | n + 1 => zV ++ zVs n
theorem zVs_len : ∀ n, (zVs n).length = n * 26
  | 0 => rfl
  | n + 1 => by rw [zVs, List.length_append, zVs_len n]; show 26 + n * 26 = (n + 1) * 26; omega
theorem zVs_get : ∀ (n j : Nat), j < n * 26 → (zVs n)[j]? = zV[j % 26]?
  | 0, j, h => by omega
  | n + 1, j, h => by
    rw [zVs, List.getElem?_append]
    split
    · rename_i hj; rw [Nat.mod_eq_of_lt (show j < 26 from hj)]
    · rename_i hj
      have h6 : zV.length = 26 := rfl
      rw [h6] at hj ⊢
      rw [zVs_get n (j - 26) (by omega), Nat.mod_eq_sub_mod (show 26 ≤ j by omega)]
theorem zrel (G : Go.VM.Gh) (n : Nat) : QL G (zVs n) (Builtin.zeroCells zT n).toList := by
  intro j c x hc hx
  have hj : j < n * 26 := by have := (List.getElem?_eq_some_iff.1 hc).1; rw [zVs_len] at this; exact this
  rw [zVs_get n j hj] at hc
  have hx2 : x = zT[j % 26]! := by
    rw [Array.getElem?_toList, Builtin.zeroCells, Array.getElem?_map] at hx
    obtain ⟨k, hk, rfl⟩ := Option.map_eq_some_iff.1 hx
    rw [Array.getElem?_range] at hk
    split at hk
    · simp only [Option.some.injEq] at hk
      subst hk
      rfl
    · cases hk
  have hm : j % 26 < 26 := Nat.mod_lt _ (by decide)
  refine zq G _ c x hc ?_
  have hs : zT.size = 26 := rfl
  rw [hx2, Array.getElem?_toList, Array.getElem?_eq_getElem (by omega), getElem!_pos zT _ (by omega)]
open Go.VM in
set_option maxHeartbeats 4000000 in
theorem del_vc {id n i j : Nat} {blks : List (List V)} {cs : List V} (hb : blks[id]? = some cs) (hcl : cs.length = n * 26) (hij : i < j) (hj : j ≤ n) :
    VC Tryz.prog 208 [.loc id 0 n 26, .d (.lit (.int .i64 (i : Int))), .d (.lit (.int .i64 (j : Int)))] blks ⟨.loc id 0 (n - (j - i)) 26, blks.set id (cs.take (i * 26) ++ cs.drop (j * 26) ++ zVs (j - i)), [], 0⟩ := by
  intro G w xs hargs hR
  have k1 : (Tryz.prog.info? 41).bind (·.zero) = some (.agg zT) := by kernel_rfl
  have k2 : (Tryz.prog.info? 41).map (·.size) = some 26 := by kernel_rfl
  obtain ⟨i0, hi0, hz0, hz1⟩ : ∃ i0, Tryz.prog.info? 41 = some i0 ∧ i0.zero = some (.agg zT) ∧ i0.size = 26 := by
    cases h : Tryz.prog.info? 41 with
    | none => rw [h] at k2; cases k2
    | some i0 =>
      rw [h] at k1 k2
      simp only [Option.bind_some, Option.map_some, Option.some.injEq] at k1 k2
      exact ⟨i0, rfl, k1, k2⟩
  have v3 : ∀ w, (zeroValue 41).run Tryz.prog w = .ok (.agg zT) w := fun w => run_zero' hi0 hz0
  have hlt : id < blks.length := (List.getElem?_eq_some_iff.1 hb).1
  have h3 : xs.size = 3 := hargs.1
  obtain ⟨x0, x1, x2, rfl⟩ : ∃ x0 x1 x2, xs = #[x0, x1, x2] := by
    obtain ⟨l⟩ := xs
    match l, h3 with
    | [a, b, c], _ => exact ⟨a, b, c, rfl⟩
  have r0 := hargs.2 0 _ _ rfl rfl
  have r1 := hargs.2 1 _ _ rfl rfl
  have r2 := hargs.2 2 _ _ rfl rfl
  cases r1 with | d r1 =>
  cases r1 with | lit _ _ =>
  cases r2 with | d r2 =>
  cases r2 with | lit _ _ =>
  cases r0 with
  | @loc _ _ _ _ b cap hι hc hm hz =>
  obtain ⟨b', cur, e, hi', hh, hcur, hr⟩ := hR.blk id cs hb
  rw [if_pos (show id < (St.entry blks).base from hlt)] at hi' hr
  have hbb : b' = b := by
    have : G.ι id = some b' := hi'
    rw [hι] at this; simpa using this.symm
  subst hbb
  obtain ⟨cur2, e2, hh2, hsz⟩ := hR.zok id b' hι
  rw [hh] at hh2
  simp only [Option.some.injEq, Obj.cells.injEq] at hh2
  obtain ⟨rfl, rfl, _⟩ := hh2
  have hdd : G.dd id = false := by
    cases hd : G.dd id with
    | false => rfl
    | true =>
      have := hR.ddb id hd
      have h' : (St.entry blks).blocks[id]? = some cs := hb
      rw [h'] at this
      simp only [Option.some.injEq] at this
      rw [this] at hcl
      simp at hcl; omega
  have hQ : QL G.old cs cur.toList := fun j c x h1 h2 => hr j c x h1 (by simpa using h2)
  have hn6 : n * 26 ≤ cur.size := by omega
  obtain ⟨news, hnews⟩ : ∃ news, news = (cur.toList.drop (j * 26)).take ((n - j) * 26) := ⟨_, rfl⟩
  have hlen : news.length = (n - j) * 26 := by rw [hnews]; simp; omega
  have hcellrow : ∀ o, w.cell? ⟨b', o, none⟩ = cur[o]? := fun o => cell_of_row w b' o cur e (0, 0) hh
  have hone : ∀ u ∈ news, u.oneCell' = true := by
    intro u hu
    obtain ⟨t, ht⟩ := List.getElem?_of_mem hu
    have htl := (List.getElem?_eq_some_iff.1 ht).1
    rw [hnews, List.getElem?_take, if_pos (by omega), List.getElem?_drop] at ht
    have hlt2 : j * 26 + t < cs.length := by omega
    exact sc_one (hQ _ _ _ (List.getElem?_eq_getElem hlt2) ht).1
  have W := del_walk i0 zT hi0 hz1 v3 rfl (by decide +kernel) b' cap n i j news w hij hj hc (Nat.le_trans hm (by decide)) hlen (fun t u hu => by
    have htl := (List.getElem?_eq_some_iff.1 hu).1
    rw [hnews, List.getElem?_take, if_pos (by omega), List.getElem?_drop] at hu
    rw [hcellrow]; simpa using hu) hone (fun t ht => ⟨by rw [hcellrow, Array.getElem?_eq_getElem (by omega)]; rfl, by simp only [World.frozen?, hh]; simp⟩)
  refine W.mono ?_
  rintro e' w' ⟨rfl, rfl⟩
  have hzl : (Builtin.zeroCells zT (j - i)).toList.length = (j - i) * 26 := by simp [Builtin.zeroCells, zT, Nat.mul_comm]
  have hd : w.drew.heap[b']? = some (.cells cur e (0, 0)) := hh
  have e1 := setCells_row Tryz.prog hd (o := i * 26) (vs := news) (by omega) hone
  obtain ⟨c1, hc1⟩ : ∃ c1 : Array Value, c1 = (cur.toList.take (i * 26) ++ news ++ cur.toList.drop (i * 26 + news.length)).toArray := ⟨_, rfl⟩
  rw [← hc1] at e1
  have hc1s : c1.size = cur.size := by rw [hc1]; simp; omega
  have hh1 := setRow_heap w.drew b' cur c1 e (0, 0) hd
  have hzone : ∀ v ∈ (Builtin.zeroCells zT (j - i)).toList, v.oneCell' = true := by
    intro v hv
    obtain ⟨t, ht⟩ := List.getElem?_of_mem hv
    have htl := (List.getElem?_eq_some_iff.1 ht).1
    exact sc_one (zrel G (j - i) t _ _ (List.getElem?_eq_getElem (by rw [zVs_len]; omega)) ht).1
  have e2 := setCells_row Tryz.prog hh1 (o := (i + (n - j)) * 26) (vs := (Builtin.zeroCells zT (j - i)).toList) (by rw [hzl]; omega) hzone
  obtain ⟨c2, hc2⟩ : ∃ c2 : Array Value, c2 = (c1.toList.take ((i + (n - j)) * 26) ++ (Builtin.zeroCells zT (j - i)).toList ++ c1.toList.drop ((i + (n - j)) * 26 + (Builtin.zeroCells zT (j - i)).toList.length)).toArray := ⟨_, rfl⟩
  rw [← hc2] at e2
  have hc2s : c2.size = c1.size := by rw [hc2]; simp [hzl]; omega
  rw [e1, e2]
  have hR1 := hR.world (Wx.drew w _)
  have hR2 := hR1.setBlk (cs := []) (cur' := c1) hι hdd hc1s hd (by simp) (by simp)
  have hR3 := hR2.setBlk (cs := cs.take (i * 26) ++ cs.drop (j * 26) ++ zVs (j - i)) (cur' := c2) hι hdd hc2s hh1 (by simp [zVs_len]; omega) (by
    intro q c x hq hx
    rw [if_pos (show id < (St.entry blks).base from hlt)]
    have hA : (cur.toList.take (i * 26)).length = i * 26 := by rw [List.length_take, Array.length_toList]; omega
    have hc1l : c1.toList = (cur.toList.take (i * 26) ++ news) ++ cur.toList.drop (i * 26 + news.length) := by rw [hc1]
    have hc2l : c2.toList = (cur.toList.take (i * 26) ++ news) ++ (Builtin.zeroCells zT (j - i)).toList ++ c1.toList.drop ((i + (n - j)) * 26 + (Builtin.zeroCells zT (j - i)).toList.length) := by
      have ht : c1.toList.take ((i + (n - j)) * 26) = cur.toList.take (i * 26) ++ news := by
        rw [hc1l]
        exact List.take_left' (by rw [List.length_append, hA, hlen]; omega)
      rw [hc2, ht]
    have Q1 := hQ.take (i * 26)
    have Q2 : QL G.old (cs.drop (j * 26)) news := by
      intro t c x h1 h2
      have htl := (List.getElem?_eq_some_iff.1 h2).1
      rw [hnews, List.getElem?_take, if_pos (by omega)] at h2
      exact (hQ.drop (j * 26)) t c x h1 h2
    have Q3 := zrel G.old (j - i)
    have l1 : (cs.take (i * 26)).length = (cur.toList.take (i * 26)).length := by rw [hA, List.length_take]; omega
    have l2 : (cs.take (i * 26) ++ cs.drop (j * 26)).length = (cur.toList.take (i * 26) ++ news).length := by
      rw [List.length_append, List.length_append, l1, List.length_drop, hlen, hcl, Nat.sub_mul]
    have Q := ((Q1.app l1 Q2).app l2 Q3).pre (y := c1.toList.drop ((i + (n - j)) * 26 + (Builtin.zeroCells zT (j - i)).toList.length)) (by
      simp only [List.length_append, zVs_len, hzl] at l2 ⊢
      omega)
    rw [← hc2l] at Q
    exact Q q c x hq (by simpa using hx))
  refine ⟨_, G, rfl, .loc hι (by omega) hm hz, ?_⟩
  have hset : ∀ X : List V, ((blks.set id []).set id X) = blks.set id X := fun X => by simp
  have := hR3
  simp only [St.entry, hset] at this
  exact this
open Go.VM in
def del_nat (a : List V) (b : List (List V)) : Option Ret := match a with
  | [.loc id off n sz, .d (.lit (.int .i64 (.ofNat i))), .d (.lit (.int .i64 (.ofNat j)))] => match b[id]? with
    | some cs => match Nat.beq off 0 && Nat.beq sz 26 && Nat.beq cs.length (n * 26) && Nat.ble (i + 1) j && Nat.ble j n with
      | true => some ⟨.loc id 0 (n - (j - i)) 26, b.set id (cs.take (i * 26) ++ cs.drop (j * 26) ++ zVs (j - i)), [], 0⟩
      | false => none
    | none => none
  | _ => none
end KH
def delNat : Go.VM.Orc := fun f a b => match Nat.beq f 150 with
  | true => KS.del_nat a b
  | false =>   match Nat.beq f 208 with
    | true => KH.del_nat a b
    | false => none
open Go.VM in
theorem delNat_ok : OrcOk Tryz.prog delNat := by
  intro f a b r h
  unfold delNat at h
  split at h
  · rename_i hf
    rw [Nat.eq_of_beq_eq_true hf]
    unfold KS.del_nat at h
    split at h
    · rename_i id off n sz i j
      split at h
      · rename_i cs hcs
        split at h
        · rename_i hc
          simp only [Bool.and_eq_true] at hc
          obtain ⟨⟨⟨⟨h1, h2⟩, h3⟩, h4⟩, h5⟩ := hc
          have e1 := Nat.eq_of_beq_eq_true h1
          have e2 := Nat.eq_of_beq_eq_true h2
          subst e1 e2
          simp only [Option.some.injEq] at h
          subst h
          exact KS.del_vc hcs (Nat.eq_of_beq_eq_true h3) (Nat.le_of_ble_eq_true h4) (Nat.le_of_ble_eq_true h5)
        · cases h
      · cases h
    · cases h
  ·
    skip
    split at h
    · rename_i hf
      rw [Nat.eq_of_beq_eq_true hf]
      unfold KH.del_nat at h
      split at h
      · rename_i id off n sz i j
        split at h
        · rename_i cs hcs
          split at h
          · rename_i hc
            simp only [Bool.and_eq_true] at hc
            obtain ⟨⟨⟨⟨h1, h2⟩, h3⟩, h4⟩, h5⟩ := hc
            have e1 := Nat.eq_of_beq_eq_true h1
            have e2 := Nat.eq_of_beq_eq_true h2
            subst e1 e2
            simp only [Option.some.injEq] at h
            subst h
            exact KH.del_vc hcs (Nat.eq_of_beq_eq_true h3) (Nat.le_of_ble_eq_true h4) (Nat.le_of_ble_eq_true h5)
          · cases h
        · cases h
      · cases h
    ·
      skip
      cases h
theorem delNat_fn : Go.VM.OrcFn Tryz.prog delNat := by
  intro f a b r h
  unfold delNat at h
  split at h
  · rename_i hf
    rw [Nat.eq_of_beq_eq_true hf]
    exact ⟨_, Tryz.func150, by kernel_rfl, by kernel_rfl⟩
  ·
    skip
    split at h
    · rename_i hf
      rw [Nat.eq_of_beq_eq_true hf]
      exact ⟨_, Tryz.func208, by kernel_rfl, by kernel_rfl⟩
    ·
      skip
      cases h
end Go.Proofs.YtknbgkfojmedpaaGreat
