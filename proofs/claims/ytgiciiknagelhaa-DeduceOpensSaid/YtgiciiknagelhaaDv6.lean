/- deduce.Close walked. Conditions: none. -/
import Derived.Test.YtgiciiknagelhaaVe
import Derived.Test.YtgiciiknagelhaaDv5
import Derived.Deep.CutBlock
set_option linter.unusedVariables false
set_option linter.unusedSimpArgs false
namespace Go.Proofs.Ytgiciiknagelhaa
open Go.VM Go.Lib Go.RowKit Go.Shelf
theorem sm_at {l : List Tm} {i : Nat} {t : Tm} (h : Tm.smalls l) (ht : l[i]? = some t) : t.small := by
  have := smalls_getD i h
  rw [List.getD_eq_getElem?_getD, ht] at this
  exact this
theorem addT_kK (st : Wst) (t : Tm) : (addT st t).k = addK st.k t := by
  unfold addT addK
  split <;> rfl
theorem sm_app : ∀ {a b : List Tm}, Tm.smalls (a ++ b) ↔ Tm.smalls a ∧ Tm.smalls b
  | [], b => by simp [Tm.smalls]
  | t :: a, b => by rw [List.cons_append, Tm.smalls, Tm.smalls, sm_app, and_assoc]
theorem addK_sm {k : List Tm} {t : Tm} (hk : Tm.smalls k) (ht : t.small) : Tm.smalls (addK k t) := by
  unfold addK
  split
  · exact hk
  · unfold insAt
    have h : Tm.smalls (k.take (bsI k t) ++ k.drop (bsI k t)) := by rw [List.take_append_drop]; exact hk
    rw [sm_app] at h
    rw [sm_app, Tm.smalls]
    exact ⟨h.1, ht, h.2⟩
structure Wok (st : Wst) : Prop where
  k : Tm.smalls st.k
  f : Tm.smalls st.f
  s : Tm.smalls st.s
  n : st.f.length + st.s.length ≤ st.k.length
  two : ∀ t ∈ st.s, ∃ v a b, t = .mk 7 v [a, b]
theorem wok_addT {st : Wst} (h : Wok st) {t : Tm} (ht : t.small) : Wok (addT st t) := by
  have hk := addK_sm h.k ht
  rw [← addT_kK] at hk
  refine ⟨hk, ?_, ?_, ?_, ?_⟩
  · unfold addT; split
    · exact h.f
    · rw [sm_app]; exact ⟨h.f, ht, trivial⟩
  · rw [addT_s]; exact h.s
  · unfold addT; split
    · exact h.n
    · have := h.n
      simp only [List.length_append, List.length_singleton, insAt_len]; omega
  · rw [addT_s]; exact h.two
theorem wok_addL : ∀ {ls : List Tm} {st : Wst}, Wok st → Tm.smalls ls → Wok (addL st ls)
  | [], st, h, _ => h
  | t :: ls, st, h, hl => by rw [addL]; exact wok_addL (wok_addT h hl.1) hl.2
theorem addT_kl (st : Wst) (t : Tm) : st.k.length ≤ (addT st t).k.length := by
  unfold addT
  split
  · exact Nat.le_refl _
  · rw [insAt_len]; omega
theorem addL_kl : ∀ (ls : List Tm) (st : Wst), st.k.length ≤ (addL st ls).k.length
  | [], st => Nat.le_refl _
  | t :: ls, st => Nat.le_trans (addT_kl st t) (addL_kl ls _)
theorem stepF_kl (st : Wst) : st.k.length ≤ (stepF st).k.length := by
  unfold stepF
  split
  · exact Nat.le_refl _
  · rename_i o v ts f hf
    split
    · exact addL_kl ts ⟨st.k, f, st.s⟩
    · split <;> exact Nat.le_refl _
theorem wok_stepF {st : Wst} (h : Wok st) : Wok (stepF st) := by
  unfold stepF
  split
  · exact h
  · rename_i o v ts f hf
    have h0 := h.f
    rw [hf, Tm.smalls, Tm.small] at h0
    have hn := h.n
    rw [hf, List.length_cons] at hn
    have h1 : Wok ⟨st.k, f, st.s⟩ := ⟨h.k, h0.2, h.s, by show f.length + st.s.length ≤ st.k.length; omega, h.two⟩
    split
    · exact wok_addL h1 h0.1.2
    · split
      · rename_i ho
        obtain ⟨rfl, h2⟩ := ho
        refine ⟨h.k, h0.2, ?_, ?_, ?_⟩
        · rw [sm_app]; exact ⟨h.s, by rw [Tm.small]; exact h0.1, trivial⟩
        · simp only [List.length_append, List.length_singleton]; omega
        · intro t ht
          rcases List.mem_append.1 ht with ht | ht
          · exact h.two t ht
          · rw [List.mem_singleton] at ht
            match ts, h2 with
            | [a, b], _ => exact ⟨v, a, b, ht⟩
      · exact h1
theorem drainF_kl : ∀ (n : Nat) {st st' : Wst}, drainF n st = some st' → st.k.length ≤ st'.k.length
  | 0, st, st', h => by
    rw [drainF] at h
    split at h
    · simp only [Option.some.injEq] at h; subst h; exact Nat.le_refl _
    · cases h
  | n + 1, st, st', h => by
    rw [drainF] at h
    split at h
    · simp only [Option.some.injEq] at h; subst h; exact Nat.le_refl _
    · exact Nat.le_trans (stepF_kl st) (drainF_kl n h)
theorem wok_drainF : ∀ (n : Nat) {st st' : Wst}, Wok st → drainF n st = some st' → Wok st' ∧ st'.f = []
  | 0, st, st', h, he => by
    rw [drainF] at he
    split at he
    · rename_i hf; simp only [Option.some.injEq] at he; subst he; exact ⟨h, hf⟩
    · cases he
  | n + 1, st, st', h, he => by
    rw [drainF] at he
    split at he
    · rename_i hf; simp only [Option.some.injEq] at he; subst he; exact ⟨h, hf⟩
    · exact wok_drainF n (wok_stepF h) he
theorem sealG_kl : ∀ (S : List Tm) (w : Wst) (rest : List Tm) (more : Bool), w.k.length ≤ (sealG S w rest more).1.k.length
  | [], w, rest, more => Nat.le_refl _
  | t :: S, w, rest, more => by
    rw [sealG]
    split
    · exact Nat.le_trans (addL_kl _ _) (sealG_kl S _ _ _)
    · exact sealG_kl S _ _ _
theorem sealG_s : ∀ (S : List Tm) (w : Wst) (rest : List Tm) (more : Bool), (sealG S w rest more).1.s = w.s
  | [], w, rest, more => rfl
  | t :: S, w, rest, more => by
    rw [sealG]
    split
    · rw [sealG_s S, addL_s]
    · exact sealG_s S _ _ _
theorem SlO.tail {w : World} {lo b o n cap : Nat} {cs : List Value} (h : SlO w lo (.slice (some ⟨b, o, none⟩) (n + 1) cap) cs (some b) o (n + 1)) :
    (cap ≠ 1 → SlO w lo (.slice (some ⟨b, o + 3, none⟩) n (cap - 1)) (cs.drop 3) (some b) (o + 3) n) ∧ (cap = 1 → n = 0 ∧ SlO w lo (.slice (some ⟨b, o, none⟩) 0 0) (cs.drop 3) (some b) o 0) := by
  have hl := h.len
  cases h with
  | @«at» _ _ _ _ cur _ hb hh hf hnc hmx hcs =>
    refine ⟨fun hc => .at hb hh (by omega) (by omega) (by omega) ?_, fun hc => ?_⟩
    · rw [hcs, List.drop_take, List.drop_drop]; congr 1; omega
    · obtain rfl : n = 0 := by omega
      refine ⟨rfl, .at hb hh (by omega) (Nat.le_refl _) (by omega) ?_⟩
      rw [List.drop_of_length_le (by omega)]; simp
structure We (F : Fz) (lo wb : Nat) (eb : TypeId) (w : World) (st : Wst) (obk obf obs : Option Nat) (vs : Value) : Prop where
  d : Wd F lo wb eb vs w st.k st.f obk obf
  ex : ∃ css os, SlO w lo vs css obs os st.s.length ∧ QT F st.s css
  s1 : obs ≠ some wb
  sk : ∀ b, obs = some b → obk ≠ some b
  sf : ∀ b, obs = some b → obf ≠ some b
end Go.Proofs.Ytgiciiknagelhaa
set_option linter.unusedVariables false
set_option maxRecDepth 100000
namespace Go.Proofs.Ytgiciiknagelhaa
open Go.VM Go.Lib Go.RowKit Go.Shelf
theorem arr_any {t : Array Value} {n : Nat} (h : t.size = n) : t = ((List.range n).map fun j => t.getD j undef).toArray := by
  apply Array.ext
  · simp [h]
  · intro i h1 h2
    simp [Array.getD, h1]
theorem range97 (y : Nat → Value) : ((List.range 97).map y).toArray = #[y 0, y 1, y 2, y 3, y 4, y 5, y 6, y 7, y 8, y 9, y 10, y 11, y 12, y 13, y 14, y 15, y 16, y 17, y 18, y 19, y 20, y 21, y 22, y 23, y 24, y 25, y 26, y 27, y 28, y 29, y 30, y 31, y 32, y 33, y 34, y 35, y 36, y 37, y 38, y 39, y 40, y 41, y 42, y 43, y 44, y 45, y 46, y 47, y 48, y 49, y 50, y 51, y 52, y 53, y 54, y 55, y 56, y 57, y 58, y 59, y 60, y 61, y 62, y 63, y 64, y 65, y 66, y 67, y 68, y 69, y 70, y 71, y 72, y 73, y 74, y 75, y 76, y 77, y 78, y 79, y 80, y 81, y 82, y 83, y 84, y 85, y 86, y 87, y 88, y 89, y 90, y 91, y 92, y 93, y 94, y 95, y 96] := by kernel_rfl
theorem arr97 {t : Array Value} (h : t.size = 97) : ∃ y : Nat → Value, t = #[y 0, y 1, y 2, y 3, y 4, y 5, y 6, y 7, y 8, y 9, y 10, y 11, y 12, y 13, y 14, y 15, y 16, y 17, y 18, y 19, y 20, y 21, y 22, y 23, y 24, y 25, y 26, y 27, y 28, y 29, y 30, y 31, y 32, y 33, y 34, y 35, y 36, y 37, y 38, y 39, y 40, y 41, y 42, y 43, y 44, y 45, y 46, y 47, y 48, y 49, y 50, y 51, y 52, y 53, y 54, y 55, y 56, y 57, y 58, y 59, y 60, y 61, y 62, y 63, y 64, y 65, y 66, y 67, y 68, y 69, y 70, y 71, y 72, y 73, y 74, y 75, y 76, y 77, y 78, y 79, y 80, y 81, y 82, y 83, y 84, y 85, y 86, y 87, y 88, y 89, y 90, y 91, y 92, y 93, y 94, y 95, y 96] := ⟨fun j => t.getD j undef, (arr_any h).trans (range97 _)⟩
def S97a (p : Value) (a : Act) : Prop := a.defers = [] ∧ a.tmps.size = 97 ∧ a.tmps[0]? = some (p) ∧ a.tmps[2]? = some (.bool false)
theorem S97a.ex {p : Value} {a : Act} (h : S97a p a) : ∃ y : Nat → Value, a = ⟨#[p, y 1, .bool false, y 3, y 4, y 5, y 6, y 7, y 8, y 9, y 10, y 11, y 12, y 13, y 14, y 15, y 16, y 17, y 18, y 19, y 20, y 21, y 22, y 23, y 24, y 25, y 26, y 27, y 28, y 29, y 30, y 31, y 32, y 33, y 34, y 35, y 36, y 37, y 38, y 39, y 40, y 41, y 42, y 43, y 44, y 45, y 46, y 47, y 48, y 49, y 50, y 51, y 52, y 53, y 54, y 55, y 56, y 57, y 58, y 59, y 60, y 61, y 62, y 63, y 64, y 65, y 66, y 67, y 68, y 69, y 70, y 71, y 72, y 73, y 74, y 75, y 76, y 77, y 78, y 79, y 80, y 81, y 82, y 83, y 84, y 85, y 86, y 87, y 88, y 89, y 90, y 91, y 92, y 93, y 94, y 95, y 96], []⟩ := by
  obtain ⟨g0, g1, g2, g3⟩ := h
  obtain ⟨tm, df⟩ := a
  simp only at g0 g1 g2 g3
  subst g0
  obtain ⟨y, rfl⟩ := arr97 g1
  simp only [List.getElem?_toArray, List.getElem?_cons_succ, List.getElem?_cons_zero, Option.some.injEq] at g2 g3
  exact ⟨y, by rw [g2, g3]⟩
def S97b (p rest sv : Value) (more : Bool) (len i : Int) (a : Act) : Prop := a.defers = [] ∧ a.tmps.size = 97 ∧ a.tmps[0]? = some (p) ∧ a.tmps[4]? = some (.bool more) ∧ a.tmps[5]? = some (rest) ∧ a.tmps[63]? = some (sv) ∧ a.tmps[64]? = some (.int .i64 len) ∧ a.tmps[65]? = some (.int .i64 i)
theorem S97b.ex {p rest sv : Value} {more : Bool} {len i : Int} {a : Act} (h : S97b p rest sv more len i a) : ∃ y : Nat → Value, a = ⟨#[p, y 1, y 2, y 3, .bool more, rest, y 6, y 7, y 8, y 9, y 10, y 11, y 12, y 13, y 14, y 15, y 16, y 17, y 18, y 19, y 20, y 21, y 22, y 23, y 24, y 25, y 26, y 27, y 28, y 29, y 30, y 31, y 32, y 33, y 34, y 35, y 36, y 37, y 38, y 39, y 40, y 41, y 42, y 43, y 44, y 45, y 46, y 47, y 48, y 49, y 50, y 51, y 52, y 53, y 54, y 55, y 56, y 57, y 58, y 59, y 60, y 61, y 62, sv, .int .i64 len, .int .i64 i, y 66, y 67, y 68, y 69, y 70, y 71, y 72, y 73, y 74, y 75, y 76, y 77, y 78, y 79, y 80, y 81, y 82, y 83, y 84, y 85, y 86, y 87, y 88, y 89, y 90, y 91, y 92, y 93, y 94, y 95, y 96], []⟩ := by
  obtain ⟨g0, g1, g2, g3, g4, g5, g6, g7⟩ := h
  obtain ⟨tm, df⟩ := a
  simp only at g0 g1 g2 g3 g4 g5 g6 g7
  subst g0
  obtain ⟨y, rfl⟩ := arr97 g1
  simp only [List.getElem?_toArray, List.getElem?_cons_succ, List.getElem?_cons_zero, Option.some.injEq] at g2 g3 g4 g5 g6 g7
  exact ⟨y, by rw [g2, g3, g4, g5, g6, g7]⟩
def S97c (p q : Value) (a : Act) : Prop := a.defers = [] ∧ a.tmps.size = 97 ∧ a.tmps[0]? = some (p) ∧ a.tmps[2]? = some (.bool false) ∧ a.tmps[3]? = some (q)
theorem S97c.ex {p q : Value} {a : Act} (h : S97c p q a) : ∃ y : Nat → Value, a = ⟨#[p, y 1, .bool false, q, y 4, y 5, y 6, y 7, y 8, y 9, y 10, y 11, y 12, y 13, y 14, y 15, y 16, y 17, y 18, y 19, y 20, y 21, y 22, y 23, y 24, y 25, y 26, y 27, y 28, y 29, y 30, y 31, y 32, y 33, y 34, y 35, y 36, y 37, y 38, y 39, y 40, y 41, y 42, y 43, y 44, y 45, y 46, y 47, y 48, y 49, y 50, y 51, y 52, y 53, y 54, y 55, y 56, y 57, y 58, y 59, y 60, y 61, y 62, y 63, y 64, y 65, y 66, y 67, y 68, y 69, y 70, y 71, y 72, y 73, y 74, y 75, y 76, y 77, y 78, y 79, y 80, y 81, y 82, y 83, y 84, y 85, y 86, y 87, y 88, y 89, y 90, y 91, y 92, y 93, y 94, y 95, y 96], []⟩ := by
  obtain ⟨g0, g1, g2, g3, g4⟩ := h
  obtain ⟨tm, df⟩ := a
  simp only at g0 g1 g2 g3 g4
  subst g0
  obtain ⟨y, rfl⟩ := arr97 g1
  simp only [List.getElem?_toArray, List.getElem?_cons_succ, List.getElem?_cons_zero, Option.some.injEq] at g2 g3 g4
  exact ⟨y, by rw [g2, g3, g4]⟩
def S97d (p rest q sv : Value) (more nc : Bool) (len i : Int) (a : Act) : Prop := a.defers = [] ∧ a.tmps.size = 97 ∧ a.tmps[0]? = some (p) ∧ a.tmps[4]? = some (.bool more) ∧ a.tmps[5]? = some (rest) ∧ a.tmps[7]? = some (q) ∧ a.tmps[63]? = some (sv) ∧ a.tmps[64]? = some (.int .i64 len) ∧ a.tmps[65]? = some (.int .i64 i) ∧ a.tmps[78]? = some (.bool nc)
theorem S97d.ex {p rest q sv : Value} {more nc : Bool} {len i : Int} {a : Act} (h : S97d p rest q sv more nc len i a) : ∃ y : Nat → Value, a = ⟨#[p, y 1, y 2, y 3, .bool more, rest, y 6, q, y 8, y 9, y 10, y 11, y 12, y 13, y 14, y 15, y 16, y 17, y 18, y 19, y 20, y 21, y 22, y 23, y 24, y 25, y 26, y 27, y 28, y 29, y 30, y 31, y 32, y 33, y 34, y 35, y 36, y 37, y 38, y 39, y 40, y 41, y 42, y 43, y 44, y 45, y 46, y 47, y 48, y 49, y 50, y 51, y 52, y 53, y 54, y 55, y 56, y 57, y 58, y 59, y 60, y 61, y 62, sv, .int .i64 len, .int .i64 i, y 66, y 67, y 68, y 69, y 70, y 71, y 72, y 73, y 74, y 75, y 76, y 77, .bool nc, y 79, y 80, y 81, y 82, y 83, y 84, y 85, y 86, y 87, y 88, y 89, y 90, y 91, y 92, y 93, y 94, y 95, y 96], []⟩ := by
  obtain ⟨g0, g1, g2, g3, g4, g5, g6, g7, g8, g9⟩ := h
  obtain ⟨tm, df⟩ := a
  simp only at g0 g1 g2 g3 g4 g5 g6 g7 g8 g9
  subst g0
  obtain ⟨y, rfl⟩ := arr97 g1
  simp only [List.getElem?_toArray, List.getElem?_cons_succ, List.getElem?_cons_zero, Option.some.injEq] at g2 g3 g4 g5 g6 g7 g8 g9
  exact ⟨y, by rw [g2, g3, g4, g5, g6, g7, g8, g9]⟩
end Go.Proofs.Ytgiciiknagelhaa
set_option linter.unusedVariables false
namespace Go.Proofs.Ytgiciiknagelhaa
open Go.VM Go.Lib Go.RowKit Go.Shelf
theorem cutQ {P : Program} {c : Code} {K' : Act → World → Prop} {Q : Exit → Act → World → Prop} {a : Act} {w : World} (h : c.wp P (Exit.then K' Q) a w) (q : ∀ a w, K' a w → Q .normal a w) : c.wp P Q a w := by
  refine wp_mono h fun e a w k => ?_
  cases e with
  | normal => exact q a w k
  | _ => exact k
structure Hid (p : Prop) : Prop where
  out : p
theorem drain_nil {n : Nat} {k s : List Tm} {E : Wst} (h : drainF n ⟨k, [], s⟩ = some E) : E = ⟨k, [], s⟩ := by
  cases n with
  | zero => rw [drainF] at h; simpa using h.symm
  | succ m => rw [drainF] at h; simpa using h.symm
theorem slTail {F : Fz} {t : Tm} {ts : List Tm} {b o n cap : Nat} (h : RelD F (.sl ((t :: ts).map Tm.row)) (.slice (some ⟨b, o, none⟩) (n + 1) cap)) : RelD F (.sl (ts.map Tm.row)) (.slice (some ⟨b, o + 3, none⟩) n (cap - 1)) := by
  cases h with
  | sl _ _ _ _ sz u hlen hcap hmax hrow hb hr =>
  have hsz : sz = 3 := (hrow 0 _ rfl).symm.trans (row_len _)
  subst hsz
  obtain ⟨b', o', e, hF⟩ := hb (by simp)
  simp only [Option.some.injEq, Addr.mk.injEq, and_true] at e
  obtain ⟨rfl, rfl⟩ := e
  refine .sl _ _ _ _ 3 (fun i j => u (i + 1) j) (by simpa using hlen) (by omega) (by omega) (fun i row hi => hrow (i + 1) row (by simpa using hi)) (fun _ => ⟨b, o + 3, rfl, fun i j hi hj => ?_⟩) (fun i j row c hi hc => hr (i + 1) j row c (by simpa using hi) hc)
  have := hF (i + 1) j (by simpa using hi) hj
  rw [show o + 3 + (i * 3 + j) = o + ((i + 1) * 3 + j) by omega]
  exact this
theorem stepF_add {o v : Int} {us k f s : List Tm} (h : o = 3 ∨ o = 8) : stepF ⟨k, .mk o v us :: f, s⟩ = addL ⟨k, f, s⟩ us := if_pos h
theorem stepF_seal {o v : Int} {us k f s : List Tm} (h : ¬ (o = 3 ∨ o = 8)) (h7 : o = 7 ∧ us.length = 2) : stepF ⟨k, .mk o v us :: f, s⟩ = ⟨k, f, s ++ [.mk o v us]⟩ := (if_neg h).trans (if_pos h7)
theorem stepF_drop {o v : Int} {us k f s : List Tm} (h : ¬ (o = 3 ∨ o = 8)) (h7 : ¬ (o = 7 ∧ us.length = 2)) : stepF ⟨k, .mk o v us :: f, s⟩ = ⟨k, f, s⟩ := (if_neg h).trans (if_neg h7)
theorem drain_succ {n : Nat} {t : Tm} {k f s : List Tm} {E : Wst} (h : drainF n ⟨k, t :: f, s⟩ = some E) : ∃ m, n = m + 1 ∧ drainF m (stepF ⟨k, t :: f, s⟩) = some E := by
  cases n with
  | zero => rw [drainF] at h; simp at h
  | succ m => rw [drainF] at h; exact ⟨m, rfl, by simpa using h⟩
set_option maxHeartbeats 8000000 in
set_option maxRecDepth 1000000 in
theorem open97 {F : Fz} {lo wb : Nat} {eb : TypeId} {vs : Value} {w : World} {st : Wst} {obk obf obs : Option Nat} (h : We F lo wb eb w st obk obf obs vs) (hlo : ∀ b k u, F b k = some u → b < lo) (hwb : lo ≤ wb) (hok : Wok st)
    {n : Nat} {st' : Wst} {b : Bool} (ho : openF n st = some (st', b)) (hN : st'.k.length ≤ 1000000) :
    Calls Try.prog 97 #[.pointer (some ⟨wb, 0, none⟩)] w fun e w' => e = .returned (.bool b) ∧
      ∃ vs' obk' obf' obs', We F lo wb eb w' st' obk' obf' obs' vs' ∧ Wx w w' (fun x => wb = x ∨ obk = some x ∨ obf = some x ∨ obs = some x) ∧ (∀ b, obk' = some b → obk = some b ∨ w.heap.size ≤ b) ∧ (∀ b, obf' = some b → obf = some b ∨ w.heap.size ≤ b) ∧ (∀ b, obs' = some b → obs = some b ∨ w.heap.size ≤ b) := by
  have mixed := mixed
  have hcell : ∀ {W : World} {c : Array Value} {e : TypeId} {bk j : Nat} {v : Value}, W.heap[bk]? = some (.cells c e (0, 0)) → c[j]? = some v → W.cell? ⟨bk, j, none⟩ = some v := fun {W c e bk j v} h1 h2 => by
    rw [cell_of_row W bk j c e (0, 0) h1]; exact h2
  obtain ⟨R, hR⟩ : ∃ R : Ending → World → Prop, R = fun e w' => e = .returned (.bool b) ∧
      ∃ vs' obk' obf' obs', We F lo wb eb w' st' obk' obf' obs' vs' ∧ Wx w w' (fun x => wb = x ∨ obk = some x ∨ obf = some x ∨ obs = some x) ∧ (∀ b, obk' = some b → obk = some b ∨ w.heap.size ≤ b) ∧ (∀ b, obf' = some b → obf = some b ∨ w.heap.size ≤ b) ∧ (∀ b, obs' = some b → obs = some b ∨ w.heap.size ≤ b) := ⟨_, rfl⟩
  rw [← hR]
  obtain ⟨stE, hdr, hse⟩ : ∃ stE, drainF n st = some stE ∧ (⟨(sealG stE.s stE [] false).1.k, (sealG stE.s stE [] false).1.f, (sealG stE.s stE [] false).2.1⟩, (sealG stE.s stE [] false).2.2) = (st', b) := by
    unfold openF at ho
    split at ho
    · rename_i w1 hd
      exact ⟨w1, hd, by simpa using ho⟩
    · cases ho
  have hNE : stE.k.length ≤ 1000000 := by
    have := sealG_kl stE.s stE [] false
    rw [Prod.mk.injEq] at hse
    rw [← hse.1] at hN
    exact Nat.le_trans this hN
  go_enter Try.func97, Try.ntmps97
  go_wp2
  refine wp_loop_rounds (n + 1) ?_
  refine rounds_ind (I := fun m a' w' => ∃ (n1 : Nat) (st1 : Wst) (obk1 obf1 obs1 : Option Nat) (vs1 : Value), m = n1 + 1 ∧ S97a (.pointer (some ⟨wb, 0, none⟩)) a' ∧ We F lo wb eb w' st1 obk1 obf1 obs1 vs1 ∧ Wok st1 ∧ drainF n1 st1 = some stE ∧
    Wx w w' (fun x => wb = x ∨ obk = some x ∨ obf = some x ∨ obs = some x) ∧ (∀ b, obk1 = some b → obk = some b ∨ w.heap.size ≤ b) ∧ (∀ b, obf1 = some b → obf = some b ∨ w.heap.size ≤ b) ∧ (∀ b, obs1 = some b → obs = some b ∨ w.heap.size ≤ b)) ?_ ?_ _ _ _ ?_
  · rintro a' w' ⟨n1, _, _, _, _, _, h1, _⟩; omega
  · rintro m a' w' ⟨n1, st1, obk1, obf1, obs1, vs1, hm, hS, hW, hok1, hdr1, hwx, hnk, hnf, hns⟩
    obtain ⟨y, rfl⟩ := hS.ex
    clear hS
    obtain rfl : m = n1 := by omega
    clear hm
    obtain ⟨k1, f1, s1⟩ := st1
    have hW0 := hW
    obtain ⟨⟨p1, p2, ⟨vk, vf, csk, csf, oo, e1, e2, e3, e4, e5⟩, p4, p5, p6⟩, ⟨css, os, e6, e7⟩, q1, q2, q3⟩ := hW
    cases f1 with
    | nil =>
      have hE := drain_nil hdr1
      subst hE
      rw [Prod.mk.injEq] at hse
      obtain ⟨hse1, hse2⟩ := hse
      simp only at hse1 hse2 hNE
      obtain ⟨fa, fc, rfl⟩ := e4.val
      obtain ⟨sa, sc, rfl⟩ := e6.val
      have hw1 : w'.cell? ⟨wb, 1, none⟩ = some (.slice fa 0 fc) := hcell e1 rfl
      obtain ⟨len, hlen⟩ : ∃ len, s1.length = len := ⟨_, rfl⟩
      have hw2 : w'.cell? ⟨wb, 2, none⟩ = some (.slice sa len sc) := by rw [← hlen]; exact hcell e1 rfl
      rw [hlen] at e6
      have hnn := hok1.n
      simp only [List.length_nil, hlen] at hnn
      have hlen1 : s1.length ≤ len := by omega
      have hlen2 : len ≤ s1.length := by omega
      clear hlen
      have hfinal : ∀ (w9 : World) (k9 f9 rest : List Tm) (vr : Value) (obk9 obf9 obr : Option Nat), We F lo wb eb w9 ⟨k9, f9, rest⟩ obk9 obf9 obr vr → Wx w w9 (fun x => wb = x ∨ obk = some x ∨ obf = some x ∨ obs = some x) → (∀ b, obk9 = some b → obk = some b ∨ w.heap.size ≤ b) → (∀ b, obf9 = some b → obf = some b ∨ w.heap.size ≤ b) → (∀ b, obr = some b → w.heap.size ≤ b) →
          ∀ bb, (⟨k9, f9, rest⟩ : Wst) = st' → bb = b → R (.returned (.bool bb)) w9 := by
        intro w9 k9 f9 rest vr obk9 obf9 obr t1 t2 t3 t4 t5 bb t6 t7
        rw [hR]
        subst t6 t7
        exact ⟨rfl, vr, obk9, obf9, obr, t1, t2, t3, t4, fun b hb => .inr (t5 b hb)⟩
      clear hR
      go_wp2
      refine wp_loop_rounds (len + 1) ?_
      obtain ⟨IB, hIB⟩ : ∃ IB : Nat → Act → World → Prop, IB = fun m a2 w2 => ∃ (i : Nat) (k2 f2 rest : List Tm) (more : Bool) (obk2 obf2 obr : Option Nat) (vr : Value) (csr : List Value) (orr : Nat), i + m = len + 1 ∧ i ≤ len ∧ S97b (.pointer (some ⟨wb, 0, none⟩)) vr (.slice sa len sc) more len i a2 ∧
        Wd F lo wb eb (.slice sa len sc) w2 k2 f2 obk2 obf2 ∧ SlO w2 lo (.slice sa len sc) css obs1 os len ∧ SlO w2 lo vr csr obr orr rest.length ∧ QT F rest csr ∧ obr ≠ some wb ∧ (∀ b, obr = some b → obk2 ≠ some b) ∧ (∀ b, obr = some b → obf2 ≠ some b) ∧ (∀ b, obr = some b → obs1 ≠ some b) ∧
        (∀ b, obs1 = some b → obk2 ≠ some b) ∧ (∀ b, obs1 = some b → obf2 ≠ some b) ∧ sealG (s1.drop i) ⟨k2, f2, s1⟩ rest more = sealG s1 ⟨k1, [], s1⟩ [] false ∧ Wok ⟨k2, f2, s1⟩ ∧ rest.length ≤ i ∧
        Wx w w2 (fun x => wb = x ∨ obk = some x ∨ obf = some x ∨ obs = some x) ∧ (∀ b, obk2 = some b → obk = some b ∨ w.heap.size ≤ b) ∧ (∀ b, obf2 = some b → obf = some b ∨ w.heap.size ≤ b) ∧ (∀ b, obr = some b → w.heap.size ≤ b) := ⟨_, rfl⟩
      refine rounds_ind (I := IB) ?_ ?_ _ _ _ ?_
      · intro a2 w2 hi
        rw [hIB] at hi
        obtain ⟨i, _, _, _, _, _, _, _, _, _, _, h1, h2, _⟩ := hi
        omega
      · intro m2 a2 w2 hi2
        rw [hIB] at hi2
        obtain ⟨i, k2, f2, rest, more, obk2, obf2, obr, vr, csr, orr, hm2, hil, hS2, hWd, hsl, hre, hqr, r1, r2, r3, r4, r5, r6, hseal, hok2, hri, hwx2, hnk2, hnf2, hnr2⟩ := hi2
        obtain ⟨y2, rfl⟩ := hS2.ex
        clear hS2
        by_cases hi : i < len
        · obtain ⟨t, ht⟩ : ∃ t, s1[i]? = some t := ⟨_, List.getElem?_eq_getElem (by omega)⟩
          obtain ⟨v7, a0, b0, rfl⟩ := hok1.two t (List.mem_of_getElem? ht)
          obtain ⟨xi, yi, z, htv, g0, g1, g2⟩ := e7.at ht
          cases htv with
          | @mk _ _ us za zl zc hza hzl hzc hzm =>
          have hzl2 : zl = 2 := hzl
          subst hzl2
          obtain ⟨sb, rfl⟩ : ∃ sb, obs1 = some sb := by
            cases hsl with
            | nil => omega
            | «at» => exact ⟨_, rfl⟩
          obtain ⟨sc', hsc⟩ := hsl.shape
          simp only [Value.slice.injEq, true_and] at hsc
          obtain ⟨rfl, hsc⟩ := hsc
          clear hsc sc'
          have c0 := hsl.cell g0
          have c1 := hsl.cell g1
          have c2 := hsl.cell g2
          rw [← Nat.add_assoc] at c1 c2
          have hil2 : (i : Int) < (len : Int) := by omega
          have hil0 : (0 : Int) ≤ (i : Int) := by omega
          have hl63 : len ≤ 1000000 := by omega
          clear g0 g1 g2
          go_upto_region 14 with (fail)
          obtain ⟨tb, htb⟩ : ∃ tb, tb = w2.heap.size := ⟨_, rfl⟩
          have hnewb : (w2.alloc (Obj.cells #[.int .i64 7, .int .i64 v7, .slice za 2 zc] 25)).heap[tb]? = some (.cells #[.int .i64 7, .int .i64 v7, .slice za 2 zc] 25 (0, 0)) := by rw [htb]; exact World.alloc_heap_new w2 _
          rw [← htb]
          have htblt : w2.heap.size ≤ tb := by omega
          clear htb
          generalize hWW : w2.alloc (Obj.cells #[.int .i64 7, .int .i64 v7, .slice za 2 zc] 25) = W at hnewb ⊢
          have hWx : Wx w2 W (fun _ => False) := by rw [← hWW]; exact Wx.alloc _ _ _
          clear hWW c0 c1 c2
          have hWdW := hWd.wx hlo hWx
          have hok2' := hok2
          have hku := hok2.k
          simp only at hku
          have hkN : (sealG (s1.drop i) ⟨k2, f2, s1⟩ rest more).1.k.length ≤ 1000000 := by
            rw [hseal]
            have := congrArg (fun x : Wst => x.k.length) hse1
            simp only at this
            omega
          have hk2N : k2.length ≤ 1000000 := Nat.le_trans (sealG_kl (s1.drop i) ⟨k2, f2, s1⟩ rest more) hkN
          rw [Tm.rows_eq] at hza
          obtain ⟨ab, ao, rfl, oa, va, zaa, htva, d0, d1, d2⟩ := slTV (i := 0) (t := a0) hza rfl
          obtain ⟨aa, al, ac, rfl⟩ : ∃ aa al ac, zaa = .slice aa al ac := by cases htva; exact ⟨_, _, _, rfl⟩
          have d0 := hWdW.fz _ _ _ d0
          have d1 := hWdW.fz _ _ _ d1
          have d2 := hWdW.fz _ _ _ d2
          simp only [Nat.zero_mul, Nat.add_zero] at d0 d1 d2
          have hta : (Tm.mk 7 v7 [a0, b0]).small := sm_at hok1.s ht
          rw [Tm.small, Tm.smalls, Tm.smalls] at hta
          obtain ⟨y1, y2', ⟨vk2, vf2, csk2, csf2, oo2, e1', e2', e3', e4', e5'⟩, y3, y4, y5⟩ := hWdW
          have hk0 : W.cell? ⟨wb, 0, none⟩ = some vk2 := hcell e1' rfl
          have ht2 : W.cell? ⟨tb, 2, none⟩ = some (.slice (some ⟨ab, ao, none⟩) 2 zc) := hcell hnewb rfl
          have hxd : Wx W W.drew (fun _ => False) := Wx.drew W _
          have H := can_calls (FzOk.wx y1 hlo hxd (fun _ h => h.elim) y2') hlo (e2'.wx hxd (fun _ _ h => h)) e3' hku hk2N hta.2.1 htva
          have hpos2 : (0 : Int) < 2 := by omega
          refine cutK (K' := fun a w3 => S97d (.pointer (some ⟨wb, 0, none⟩)) vr (.pointer (some ⟨tb, 0, none⟩)) (.slice (some ⟨sb, os, none⟩) len sc) more (!canF k2 a0) len i a ∧ Wx W w3 (fun _ => False)) ?_ ?_
          · clear h hlo hwb hok ho hN hcell hwx hnk hnf hns p1 p2 p4 p5 p6 e1 e2 e3 e4 e6 e7 q1 q2 q3 hok1 hdr hdr1 hse1 hse2 hNE hw1 hw2 hnn hlen1 hlen2 hfinal hm2 hil hWd hsl hre hqr r1 r2 r3 r4 r5 r6 hseal hok2 hri hwx2 hnk2 hnf2 hnr2 hi ht hza hzl hzc hzm htblt hWx hnewb hok2' hku hkN hk2N htva hta y1 y2' e1' e2' e3' e4' e5' y3 y4 y5 hxd hil2 hil0 hl63
            go_region_with (refine H.mono ?_; rintro e w3 ⟨rfl, hw3⟩)
            all_goals exact ⟨⟨rfl, rfl, rfl, rfl, rfl, rfl, rfl, rfl, rfl, rfl⟩, (Wx.drew W _).step hw3 fun _ h => h.elim⟩
          rintro a3 w3 ⟨hS3, hw3⟩
          clear H hk0 ht2 d0 d1 d2
          have hx3 : Wx w2 w3 (fun _ => False) := hWx.step hw3 fun _ h => h.elim
          have hWd3 := hWd.wx hlo hx3
          have hsl3 := hsl.wx hx3 (fun _ _ h => h)
          have hre3 := hre.wx hx3 (fun _ _ h => h)
          have hnew3 := hw3.get hnewb (fun h => h)
          have hwx3 := hwx2.step hx3 fun _ h => h.elim
          have hsz3 := hx3.size
          obtain ⟨y7, rfl⟩ := hS3.ex
          clear hS3 y2
          rw [drop_cons ht, sealG] at hseal
          have ga0 : (Tm.mk 7 v7 [a0, b0]).args.getD 0 default = a0 := rfl
          have ga1 : (Tm.mk 7 v7 [a0, b0]).args.drop 1 = [b0] := rfl
          rw [ga0, ga1] at hseal
          cases hcan : canF k2 a0 with
          | false =>
            rw [hcan] at hseal
            simp only [Bool.false_eq_true, if_false] at hseal
            obtain ⟨ra, rc, rfl⟩ := hre3.val
            obtain ⟨nr, hnr⟩ : ∃ nr, rest.length = nr := ⟨_, rfl⟩
            obtain ⟨W5, hW5⟩ : ∃ W5, W5 = w3.alloc (Obj.cells #[.int .i64 7, .int .i64 v7, .slice (some ⟨ab, ao, none⟩) 2 zc] 25) := ⟨_, rfl⟩
            have hx5 : Wx w3 W5 (fun _ => False) := by rw [hW5]; exact Wx.alloc _ _ _
            have hn5 : W5.heap[w3.heap.size]? = some (.cells #[.int .i64 7, .int .i64 v7, .slice (some ⟨ab, ao, none⟩) 2 zc] 25 (0, 0)) := by rw [hW5]; exact World.alloc_heap_new w3 _
            have htv : TV F (.mk 7 v7 [a0, b0]) 7 v7 (.slice (some ⟨ab, ao, none⟩) 2 zc) := .mk (by rw [Tm.rows_eq]; exact hza) hzl hzc hzm
            obtain ⟨b1, o1, c1, W1, hrun, t2, t3, t4⟩ := (hre3.wx hx5 (fun _ _ h => h)).appG (vc := 1) (Nat.le_trans y2' (Nat.le_trans hw3.size hx5.size)) (by omega) hn5 (vs := [.int .i64 7, .int .i64 v7, .slice (some ⟨ab, ao, none⟩) 2 zc]) rfl (fun j x hj => by simpa using hj) htv.qt.one
            have hx51 : Wx w3 W1 (fun b => obr = some b) := (hx5.sub fun _ h => h.elim).step t3 fun x hx => .inl hx
            have hs5 := hx5.size
            have hsw := hwx3.size
            have hb1n : obr = some b1 ∨ w3.heap.size ≤ b1 := by
              rcases t4 with q | q
              · exact .inl q
              · exact .inr (by omega)
            obtain ⟨z1, z2, ⟨vk3, vf3, csk3, csf3, oo3, u1, u2, u3, u4, u5⟩, z4, z5, z6⟩ := hWd3
            have hltw3 := (Array.getElem?_eq_some_iff.1 u1).1
            have hWd6 : Wd F lo wb eb (.slice (some ⟨sb, os, none⟩) len sc) W1 k2 f2 obk2 obf2 :=
              ⟨FzOk.wx z1 hlo hx51 (fun b hb => (hre3.lt' b hb).1) z2, Nat.le_trans z2 hx51.size, ⟨vk3, vf3, csk3, csf3, oo3, hx51.get u1 r1, u2.wx hx51 (fun b hb hT => r2 b hT hb), u3, u4.wx hx51 (fun b hb hT => r3 b hT hb), u5⟩, z4, z5, z6⟩
            have hI1 : SlO W1 lo (.slice (some ⟨sb, os, none⟩) len sc) css (some sb) os len := hsl3.wx hx51 (fun b hb hT => r4 b hT hb)
            have hI2 : SlO W1 lo (.slice (some ⟨b1, o1, none⟩) (nr + 1) c1) (csr ++ [.int .i64 7, .int .i64 v7, .slice (some ⟨ab, ao, none⟩) 2 zc]) (some b1) o1 (rest ++ [Tm.mk 7 v7 [a0, b0]]).length := by
              rw [List.length_append, ← hnr]; exact t2
            have hI3 := hqr.app htv.qt
            have hI4 : (some b1 : Option Nat) ≠ some wb := fun e => by
              simp only [Option.some.injEq] at e; subst e
              rcases hb1n with q | q
              · exact r1 q
              · omega
            have hI5 : ∀ b, (some b1 : Option Nat) = some b → obk2 ≠ some b := fun b hb hb2 => by
              simp only [Option.some.injEq] at hb; subst hb
              rcases hb1n with q | q
              · exact r2 _ q hb2
              · have := (u2.lt' _ hb2).2; omega
            have hI6 : ∀ b, (some b1 : Option Nat) = some b → obf2 ≠ some b := fun b hb hb2 => by
              simp only [Option.some.injEq] at hb; subst hb
              rcases hb1n with q | q
              · exact r3 _ q hb2
              · have := (u4.lt' _ hb2).2; omega
            have hI7 : ∀ b, (some b1 : Option Nat) = some b → (some sb : Option Nat) ≠ some b := fun b hb hb2 => by
              simp only [Option.some.injEq] at hb; subst hb
              rcases hb1n with q | q
              · exact r4 _ q hb2
              · have := (hsl3.lt' _ hb2).2; omega
            have hI8 : Wx w W1 (fun x => wb = x ∨ obk = some x ∨ obf = some x ∨ obs = some x) := hwx3.step hx51 fun x hx => .inr (hnr2 x hx)
            have hI9 : ∀ b, (some b1 : Option Nat) = some b → w.heap.size ≤ b := fun b hb => by
              simp only [Option.some.injEq] at hb; subst hb
              rcases hb1n with q | q
              · exact hnr2 _ q
              · omega
            have hI10 : (rest ++ [Tm.mk 7 v7 [a0, b0]]).length ≤ i + 1 := by rw [List.length_append, List.length_singleton]; omega
            rw [hnr] at hrun
            rw [hW5] at hrun
            have hc0 : w3.cell? ⟨tb, 0, none⟩ = some (.int .i64 7) := hcell hnew3 rfl
            have hc1 : w3.cell? ⟨tb, 1, none⟩ = some (.int .i64 v7) := hcell hnew3 rfl
            have hc2 : w3.cell? ⟨tb, 2, none⟩ = some (.slice (some ⟨ab, ao, none⟩) 2 zc) := hcell hnew3 rfl
            have hm3 : i + 1 + m2 = len + 1 := by omega
            have hil3 : i + 1 ≤ len := by omega
            have hI : ∀ a', S97b (.pointer (some ⟨wb, 0, none⟩)) (.slice (some ⟨b1, o1, none⟩) (nr + 1) c1) (.slice (some ⟨sb, os, none⟩) len sc) more len ((i + 1 : Nat) : Int) a' → IB m2 a' W1 := by
              intro a' hS
              rw [hIB]
              exact ⟨i + 1, k2, f2, rest ++ [.mk 7 v7 [a0, b0]], more, obk2, obf2, some b1, _, _, o1, hm3, hil3, hS, hWd6, hI1, hI2, hI3, hI4, hI5, hI6, hI7, r5, r6, hseal, hok2, hI10, hI8, hnk2, hnf2, hI9⟩
            have hI := Hid.mk hI
            clear hIB hWd6 hI1 hI2 hI3 hI4 hI5 hI6 hI7 hI8 hI9 hI10 r5 r6 hseal hok2 hnk2 hnf2 hm3 hil3 e5 h hlo hwb hok ho hN hcell hwx hnk hnf hns p1 p2 p4 p5 p6 e1 e2 e3 e4 e6 e7 q1 q2 q3 hok1 hdr hdr1 hse1 hse2 hNE hw1 hw2 hnn hlen1 hlen2 hfinal hm2 hil hWd hsl hre hqr r1 r2 r3 r4 hri hwx2 hnr2 hi ht hza hzl hzc hzm htblt hWx hnewb hok2' hku hkN hk2N htva hta y1 y2' e1' e2' e3' e4' e5' y3 y4 y5 hxd hcan hx3 hsl3 hre3 hnew3 hwx3 hsz3 ga0 ga1 hx5 hn5 htv t2 t3 t4 hx51 hs5 hsw hb1n z1 z2 u1 u2 u3 u4 u5 z4 z5 z6 hltw3 hW5 hpos2 hw3
            go_upto_region 15 with (fail)
            go_wp2_with (at_builtin; refine Lib.wpList_append_run _ rfl _ _ 23 23 rfl (.slice ra nr rc) (.slice (some ⟨w3.heap.size, 0, none⟩) 1 1) (by simp [Act.eval, Act.put, hnr]) (by simp [Act.eval, Act.put]) _ _ (hrun _) ?_)
            all_goals first | exact ⟨rfl, rfl, rfl, rfl, rfl, rfl, rfl, rfl⟩ | exact hI.out _ ⟨rfl, rfl, rfl, rfl, rfl, rfl, rfl, rfl⟩
          | true =>
            rw [hcan] at hseal
            simp only [if_true] at hseal
            have hza' := slTail hza
            have hkl2 := sealG_kl (s1.drop (i + 1)) (addL ⟨k2, f2, s1⟩ [b0]) rest (newL ⟨k2, f2, s1⟩ [b0] || more)
            rw [hseal] at hkl2
            have hkE := congrArg (fun x : Wst => x.k.length) hse1
            simp only at hkE
            have hsb0 : Tm.smalls [b0] := ⟨hta.2.2.1, trivial⟩
            have hfk2 : f2.length ≤ k2.length := by have := hok2.n; simp only at this; omega
            have H96 := add96 (st := ⟨k2, f2, s1⟩) hWd3 hlo hwb hza' hku hsb0 (by omega) hfk2 rfl (by omega)
            have hokA : Wok (addL ⟨k2, f2, s1⟩ [b0]) := wok_addL hok2 hsb0
            have hAs : (addL ⟨k2, f2, s1⟩ [b0]).s = s1 := addL_s _ _
            obtain ⟨⟨kA, fA, sA⟩, hA⟩ : ∃ A, addL ⟨k2, f2, s1⟩ [b0] = A := ⟨_, rfl⟩
            rw [hA] at hokA hAs hseal H96
            simp only at hAs
            subst hAs
            obtain ⟨nb, hnb⟩ : ∃ nb, newL ⟨k2, f2, sA⟩ [b0] = nb := ⟨_, rfl⟩
            rw [hnb] at hseal H96
            obtain ⟨PP, hPP⟩ : ∃ PP : World → Prop, PP = fun w4 => ∃ obk' obf', Wd F lo wb eb (.slice (some ⟨sb, os, none⟩) len sc) w4 kA fA obk' obf' ∧ Wx w3 w4 (fun b => wb = b ∨ obk2 = some b ∨ obf2 = some b) ∧ (∀ b, obk' = some b → obk2 = some b ∨ w3.heap.size ≤ b) ∧ (∀ b, obf' = some b → obf2 = some b ∨ w3.heap.size ≤ b) := ⟨_, rfl⟩
            have H' : Calls Try.prog 96 #[.pointer (some ⟨wb, 0, none⟩), .slice (some ⟨ab, ao + 3, none⟩) 1 (zc - 1)] w3 fun e w' => e = .returned (.bool nb) ∧ PP w' := by rw [hPP]; exact H96
            have hend : ∀ w4, PP w4 → ∃ obk4 obf4, Wd F lo wb eb (.slice (some ⟨sb, os, none⟩) len sc) w4 kA fA obk4 obf4 ∧ SlO w4 lo (.slice (some ⟨sb, os, none⟩) len sc) css (some sb) os len ∧ SlO w4 lo vr csr obr orr rest.length ∧ (∀ b, obr = some b → obk4 ≠ some b) ∧ (∀ b, obr = some b → obf4 ≠ some b) ∧
                (∀ b, (some sb : Option Nat) = some b → obk4 ≠ some b) ∧ (∀ b, (some sb : Option Nat) = some b → obf4 ≠ some b) ∧ Wx w w4 (fun x => wb = x ∨ obk = some x ∨ obf = some x ∨ obs = some x) ∧ (∀ b, obk4 = some b → obk = some b ∨ w.heap.size ≤ b) ∧ (∀ b, obf4 = some b → obf = some b ∨ w.heap.size ≤ b) := by
              intro w4 hp
              rw [hPP] at hp
              obtain ⟨obk4, obf4, hd, hx, hk4, hf4⟩ := hp
              have hsw := hwx3.size
              refine ⟨obk4, obf4, hd, hsl3.wx hx (fun b hb hT => ?_), hre3.wx hx (fun b hb hT => ?_), fun b hb hb2 => ?_, fun b hb hb2 => ?_, fun b hb hb2 => ?_, fun b hb hb2 => ?_, hwx3.step hx fun x hx => ?_, fun b hb => ?_, fun b hb => ?_⟩
              · rcases hT with hT | hT | hT
                · exact q1 (by rw [hb, hT])
                · exact r5 b hb hT
                · exact r6 b hb hT
              · rcases hT with hT | hT | hT
                · exact r1 (by rw [hb, hT])
                · exact r2 b hb hT
                · exact r3 b hb hT
              · rcases hk4 b hb2 with q | q
                · exact r2 b hb q
                · have := (hre3.lt' b hb).2; omega
              · rcases hf4 b hb2 with q | q
                · exact r3 b hb q
                · have := (hre3.lt' b hb).2; omega
              · rcases hk4 b hb2 with q | q
                · exact r5 b hb q
                · have := (hsl3.lt' b hb).2; omega
              · rcases hf4 b hb2 with q | q
                · exact r6 b hb q
                · have := (hsl3.lt' b hb).2; omega
              · rcases hx with hx | hx | hx
                · exact .inl (.inl hx)
                · exact (hnk2 x hx).imp (fun q => .inr (.inl q)) id
                · exact (hnf2 x hx).imp (fun q => .inr (.inr (.inl q))) id
              · rcases hk4 b hb with q | q
                · exact hnk2 b q
                · exact .inr (by omega)
              · rcases hf4 b hb with q | q
                · exact hnf2 b q
                · exact .inr (by omega)
            have hc2 : w3.cell? ⟨tb, 2, none⟩ = some (.slice (some ⟨ab, ao, none⟩) 2 zc) := hcell hnew3 rfl
            have hm3 : i + 1 + m2 = len + 1 := by omega
            have hil3 : i + 1 ≤ len := by omega
            have hri3 : rest.length ≤ i + 1 := by omega
            have hI : ∀ w4, PP w4 → ∀ a', S97b (.pointer (some ⟨wb, 0, none⟩)) vr (.slice (some ⟨sb, os, none⟩) len sc) (nb || more) len ((i + 1 : Nat) : Int) a' → IB m2 a' w4 := by
              intro w4 hp a' hS
              obtain ⟨obk4, obf4, t1, t2, t3, t4, t5, t6, t7, t8, t9, t10⟩ := hend w4 hp
              rw [hIB]
              exact ⟨i + 1, kA, fA, rest, nb || more, obk4, obf4, obr, vr, csr, orr, hm3, hil3, hS, t1, t2, t3, hqr, r1, t4, t5, r4, t6, t7, hseal, hokA, hri3, t8, t9, t10, hnr2⟩
            have hI := Hid.mk hI
            have hzc1 : ¬ (zc = 1) := by omega
            have hzc2 : (1 : Int) ≤ (zc : Int) := by omega
            have hzc3 : (2 : Int) ≤ (zc : Int) := by omega
            clear hIB hend hqr r1 r4 hseal hokA hri3 hnr2 hm3 hil3 e5 hzc h hlo hwb hok ho hN hcell hwx hnk hnf hns p1 p2 p4 p5 p6 e1 e2 e3 e4 e6 e7 q1 q2 q3 hok1 hdr hdr1 hse1 hse2 hNE hw1 hw2 hnn hlen1 hlen2 hfinal hm2 hil hWd hsl hre r2 r3 r5 r6 hri hwx2 hi ht hza hzl hzm htblt hWx hnewb hok2' hku hkN hk2N htva hta y1 y2' e1' e2' e3' e4' e5' y3 y4 y5 hxd hcan hx3 hsl3 hre3 hnew3 hwx3 hsz3 ga0 ga1 hw3 hWd3 hza' hkl2 hkE hsb0 hfk2 H96 hA hnb hPP hok2 hnk2 hnf2
            go_wp2_with (fail)
            refine H'.mono ?_
            rintro e w4 ⟨rfl, hp⟩
            have hI4 := Hid.mk (hI.out w4 hp)
            clear hI H' hp hc2
            cases nb with
            | true =>
              go_wp2
              exact hI4.out _ ⟨rfl, rfl, rfl, rfl, rfl, rfl, rfl, rfl⟩
            | false =>
              go_wp2
              exact hI4.out _ ⟨rfl, rfl, rfl, rfl, rfl, rfl, rfl, rfl⟩
        · have hie : i = len := by omega
          subst hie
          have hil2 : ¬ ((i : Int) < (i : Int)) := by omega
          rw [List.drop_of_length_le (by omega), sealG] at hseal
          rw [← hseal] at hse1 hse2
          simp only at hse1 hse2
          obtain ⟨ra, rc, rfl⟩ := hre.val
          obtain ⟨z1, z2, ⟨vk3, vf3, csk3, csf3, oo3, u1, u2, u3, u4, u5⟩, z4, z5, z6⟩ := hWd
          have hw4 : w2.cell? ⟨wb, 2, none⟩ = some (.slice sa i sc) := hcell u1 rfl
          have hfw : w2.frozen? ⟨wb, 2, none⟩ = false := frozen_no u1 2
          obtain ⟨v1, v2⟩ := setCell_row u1 2 (.slice ra rest.length rc)
          have hcc : ∀ b, wb = b → lo ≤ b := fun b hb => by subst hb; exact hwb
          have hfin := hfinal (w2.setCell ⟨wb, 2, none⟩ (.slice ra rest.length rc)) k2 f2 rest (.slice ra rest.length rc) obk2 obf2 obr
            ⟨⟨FzOk.wx z1 hlo v2 hcc z2, Nat.le_trans z2 v2.size, ⟨vk3, vf3, csk3, csf3, oo3, v1, u2.wx v2 (fun b hb hT => z4 (by rw [hb, hT])), u3, u4.wx v2 (fun b hb hT => z5 (by rw [hb, hT])), u5⟩, z4, z5, z6⟩, ⟨csr, orr, hre.wx v2 (fun b hb hT => r1 (by rw [hb, hT])), hqr⟩, r1, r2, r3⟩
            (hwx2.step v2 fun x hx => .inl (.inl hx)) hnk2 hnf2 hnr2 more hse1 hse2
          have hfin := Hid.mk hfin
          clear h hlo hwb hok ho hN hcell hwx hnk hnf hns p1 p2 p4 p5 p6 e1 e2 e3 e4 e6 e7 q1 q2 q3 hok1 hdr hdr1 hse1 hse2 hNE hw1 hw2 hnn hlen1 hlen2 hfinal hm2 hil hsl hre hqr r1 r2 r3 r4 r5 r6 hseal hok2 hri hwx2 hnk2 hnf2 hnr2 hi z1 z2 u1 u2 u3 u4 u5 z4 z5 z6 v1 v2 hcc hIB e5
          go_wp2
          all_goals first | exact hfin.out | (go_ret; exact hfin.out)
      · rw [hIB]
        exact ⟨0, k1, [], [], false, obk1, obf1, none, _, [], 0, by omega, by omega, ⟨rfl, rfl, rfl, rfl, rfl, rfl, rfl, rfl⟩, ⟨p1, p2, ⟨vk, _, csk, csf, oo, (by have := e1; rwa [show s1.length = len by omega] at this), e2, e3, e4, e5⟩, p4, p5, p6⟩, e6, .nil, QT.nil, (fun e => by cases e), (fun _ e => by cases e), (fun _ e => by cases e), (fun _ e => by cases e), q2, q3, rfl, hok1, Nat.le_refl _, hwx, hnk, hnf, fun _ e => by cases e⟩
    | cons t f' =>
      obtain ⟨xi, yi, z, htv, g0, g1, g2⟩ := e5.at (i := 0) (t := t) rfl
      obtain ⟨za, zl, zc, rfl⟩ : ∃ za zl zc, z = .slice za zl zc := by cases htv; exact ⟨_, _, _, rfl⟩
      obtain ⟨fb, rfl⟩ : ∃ fb, obf1 = some fb := by
        cases e4 with
        | «at» => exact ⟨_, rfl⟩
      obtain ⟨fcap, rfl⟩ := e4.shape
      have c0 := e4.cell g0
      have c1 := e4.cell g1
      have c2 := e4.cell g2
      simp only [Nat.zero_mul, Nat.zero_add, Nat.add_zero, List.length_cons] at c0 c1 c2
      have hw1 : w'.cell? ⟨wb, 1, none⟩ = some (.slice (some ⟨fb, oo, none⟩) (f'.length + 1) fcap) := hcell e1 rfl
      obtain ⟨n2, hn2⟩ : ∃ n2, f'.length = n2 := ⟨_, rfl⟩
      rw [hn2] at hw1
      have hpos : (0 : Int) < (n2 : Int) + 1 := by omega
      clear hR g0 g1 g2
      go_upto_region 3 with (fail)
      obtain ⟨tb, htb⟩ : ∃ tb, tb = w'.heap.size := ⟨_, rfl⟩
      have hnewb : (w'.alloc (Obj.cells #[.int .i64 xi, .int .i64 yi, .slice za zl zc] 25)).heap[tb]? = some (.cells #[.int .i64 xi, .int .i64 yi, .slice za zl zc] 25 (0, 0)) := by rw [htb]; exact World.alloc_heap_new w' _
      rw [← htb]
      have htblt : w'.heap.size ≤ tb := by omega
      clear htb
      generalize hWW : w'.alloc (Obj.cells #[.int .i64 xi, .int .i64 yi, .slice za zl zc] 25) = W at hnewb ⊢
      have hWx : Wx w' W (fun _ => False) := by rw [← hWW]; exact Wx.alloc _ _ _
      clear hWW c0 c1 c2 hw1
      have hboxW := hWx.get e1 (fun h => h)
      have hltw := (Array.getElem?_eq_some_iff.1 e1).1
      have hw1 : W.cell? ⟨wb, 1, none⟩ = some (.slice (some ⟨fb, oo, none⟩) (n2 + 1) fcap) := by rw [← hn2]; exact hcell hboxW rfl
      have hfr : W.frozen? ⟨wb, 1, none⟩ = false := frozen_no hboxW 1
      obtain ⟨PA, hPA⟩ : ∃ PA : World → Prop, PA = fun w3 => Wd F lo wb eb vs1 w3 k1 f' obk1 (some fb) ∧ SlO w3 lo vs1 css obs1 os s1.length ∧ Wx W w3 (fun x => wb = x) := ⟨_, rfl⟩
      have hbW := e4.wx hWx (fun _ _ h => h)
      simp only [List.length_cons] at hbW
      obtain ⟨ht1, ht2⟩ := hbW.tail
      have hPA1 : ∀ (o3 c3 : Nat), SlO W lo (.slice (some ⟨fb, o3, none⟩) f'.length c3) (csf.drop 3) (some fb) o3 f'.length → PA (W.setCell ⟨wb, 1, none⟩ (.slice (some ⟨fb, o3, none⟩) f'.length c3)) := by
        intro o3 c3 hS
        obtain ⟨r1, r2⟩ := setCell_row hboxW 1 (.slice (some ⟨fb, o3, none⟩) f'.length c3)
        have hx3 : Wx w' (W.setCell ⟨wb, 1, none⟩ (.slice (some ⟨fb, o3, none⟩) f'.length c3)) (fun x => wb = x) := (hWx.sub fun _ h => h.elim).step r2 fun x hx => .inl hx
        rw [hPA]
        refine ⟨⟨FzOk.wx p1 hlo hx3 (fun b hb => by subst hb; exact hwb) p2, Nat.le_trans p2 hx3.size, ⟨vk, _, csk, csf.drop 3, o3, r1, e2.wx hx3 (fun b hb hT => p4 (by rw [hb, hT])), e3, hS.wx r2 (fun b hb hT => p5 (by rw [hb, hT])), by have := e5.drop 1; simpa using this⟩, p4, p5, p6⟩, e6.wx hx3 (fun b hb hT => q1 (by rw [hb, hT])), r2⟩
      rw [hn2] at hPA1 ht1 ht2
      refine cutK (K' := fun a w3 => S97c (.pointer (some ⟨wb, 0, none⟩)) (.pointer (some ⟨tb, 0, none⟩)) a ∧ PA w3) ?_ ?_
      · by_cases hc1 : fcap = 1
        · obtain ⟨rfl, hS⟩ := ht2 hc1
          have hfin := hPA1 _ _ hS
          subst hc1
          clear hPA hPA1 ht1 ht2 hcell h hlo hwb hok ho hN hdr hse hNE hW0 p1 p2 p4 p5 p6 e1 e2 e3 e4 e5 e6 e7 q1 q2 q3 hok1 hdr1 hwx hnk hnf hns htv hn2 hS hbW hnewb hWx hboxW hltw htblt
          go_wp2
          exact ⟨⟨rfl, rfl, rfl, rfl, rfl⟩, hfin⟩
        · have hS := ht1 hc1
          have hfin := hPA1 _ _ hS
          have hge : 1 ≤ fcap := by cases hbW; omega
          have hge1 : (1 : Int) ≤ (fcap : Int) := by omega
          clear hPA hPA1 ht1 ht2 hcell h hlo hwb hok ho hN hdr hse hNE hW0 p1 p2 p4 p5 p6 e1 e2 e3 e4 e5 e6 e7 q1 q2 q3 hok1 hdr1 hwx hnk hnf hns htv hn2 hS hbW hnewb hWx hboxW hltw htblt
          go_wp2
          exact ⟨⟨rfl, rfl, rfl, rfl, rfl⟩, hfin⟩
      rintro a3 w3 ⟨hS3, hp⟩
      rw [hPA] at hp
      clear hPA PA hPA1 ht1 ht2
      obtain ⟨hW3, hs3, hwx3⟩ := hp
      have hnew3 := hwx3.get hnewb (fun hx => by omega)
      have hwxx : Wx w w3 (fun x => wb = x ∨ obk = some x ∨ obf = some x ∨ obs = some x) := (hwx.step hWx fun _ h => h.elim).step hwx3 fun x hx => .inl (.inl hx)
      have hc0 : w3.cell? ⟨tb, 0, none⟩ = some (.int .i64 xi) := hcell hnew3 rfl
      have hc1 : w3.cell? ⟨tb, 1, none⟩ = some (.int .i64 yi) := hcell hnew3 rfl
      have hc2 : w3.cell? ⟨tb, 2, none⟩ = some (.slice za zl zc) := hcell hnew3 rfl
      clear hw1 hfr hboxW hbW hnewb hwx3 hWx e1 e2 e4 e6 p1 hW0
      have hfk := hok1.f
      rw [Tm.smalls] at hfk
      have hnn := hok1.n
      simp only [List.length_cons] at hnn
      cases htv with
      | @mk _ _ us _ _ _ hza hzl hzc hzm =>
      have hok2 := wok_stepF hok1
      obtain ⟨m', rfl, hdr2⟩ := drain_succ hdr1
      have hus := hfk.1
      rw [Tm.small] at hus
      have hkl := drainF_kl _ hdr2
      obtain ⟨y3, rfl⟩ := hS3.ex
      clear y hS3
      rw [Tm.rows_eq] at hza
      by_cases h38 : xi = 3 ∨ xi = 8
      · rw [stepF_add h38] at hdr2 hok2 hkl
        have H96 := add96 (st := ⟨k1, f', s1⟩) hW3 hlo hwb hza hok1.k hus.2 (by omega) (by show f'.length ≤ k1.length; omega) hzl (by unfold maxLen at hzm; omega)
        obtain ⟨PP, hPP⟩ : ∃ PP : World → Prop, PP = fun w4 => ∃ obk' obf', Wd F lo wb eb vs1 w4 (addL ⟨k1, f', s1⟩ us).k (addL ⟨k1, f', s1⟩ us).f obk' obf' ∧ Wx w3 w4 (fun b => wb = b ∨ obk1 = some b ∨ some fb = some b) ∧ (∀ b, obk' = some b → obk1 = some b ∨ w3.heap.size ≤ b) ∧ (∀ b, obf' = some b → some fb = some b ∨ w3.heap.size ≤ b) := ⟨_, rfl⟩
        have H' : Calls Try.prog 96 #[.pointer (some ⟨wb, 0, none⟩), .slice za zl zc] w3 fun e w' => e = .returned (.bool (newL ⟨k1, f', s1⟩ us)) ∧ PP w' := by rw [hPP]; exact H96
        have hend : ∀ w4, PP w4 → ∃ obk4 obf4, We F lo wb eb w4 (addL ⟨k1, f', s1⟩ us) obk4 obf4 obs1 vs1 ∧ Wx w w4 (fun x => wb = x ∨ obk = some x ∨ obf = some x ∨ obs = some x) ∧ (∀ b, obk4 = some b → obk = some b ∨ w.heap.size ≤ b) ∧ (∀ b, obf4 = some b → obf = some b ∨ w.heap.size ≤ b) := by
          intro w4 hp
          rw [hPP] at hp
          obtain ⟨obk4, obf4, hd, hx, hk4, hf4⟩ := hp
          have hsz := hwxx.size
          refine ⟨obk4, obf4, ⟨hd, ⟨css, os, ?_, ?_⟩, q1, fun b hb hb2 => ?_, fun b hb hb2 => ?_⟩, hwxx.step hx fun x hx => ?_, fun b hb => ?_, fun b hb => ?_⟩
          · rw [addL_s]
            refine hs3.wx hx fun b hb hT => ?_
            rcases hT with hT | hT | hT
            · exact q1 (by rw [hb, hT])
            · exact q2 b hb hT
            · exact q3 b hb hT
          · rw [addL_s]; exact e7
          · rcases hk4 b hb2 with q | q
            · exact q2 b hb q
            · have := (hs3.lt' b hb).2; omega
          · rcases hf4 b hb2 with q | q
            · exact q3 b hb q
            · have := (hs3.lt' b hb).2; omega
          · rcases hx with hx | hx | hx
            · exact .inl (.inl hx)
            · exact (hnk x hx).imp (fun q => .inr (.inl q)) id
            · exact (hnf x hx).imp (fun q => .inr (.inr (.inl q))) id
          · rcases hk4 b hb with q | q
            · exact hnk b q
            · exact .inr (by omega)
          · rcases hf4 b hb with q | q
            · exact hnf b q
            · exact .inr (by omega)
        clear H96 hPP hcell h hlo hwb hok ho hN hdr hse hNE p2 p4 p5 p6 e3 e5 e7 q1 q2 q3 hok1 hwx hnk hnf htblt hltw hza hzl hzc hzm hus hkl hfk hnn hW3 hs3 hnew3 hwxx hdr1
        rcases h38 with rfl | rfl
        · go_wp2_with (fail)
          refine H'.mono ?_
          rintro e w4 ⟨rfl, hp⟩
          obtain ⟨obk4, obf4, r1, r2, r3, r4⟩ := hend w4 hp
          clear hend H'
          go_wp2
          exact ⟨m', _, obk4, obf4, obs1, vs1, rfl, ⟨rfl, rfl, rfl, rfl⟩, r1, hok2, hdr2, r2, r3, r4, hns⟩
        · go_wp2_with (fail)
          refine H'.mono ?_
          rintro e w4 ⟨rfl, hp⟩
          obtain ⟨obk4, obf4, r1, r2, r3, r4⟩ := hend w4 hp
          clear hend H'
          go_wp2
          exact ⟨m', _, obk4, obf4, obs1, vs1, rfl, ⟨rfl, rfl, rfl, rfl⟩, r1, hok2, hdr2, r2, r3, r4, hns⟩
      · by_cases h72 : xi = 7 ∧ us.length = 2
        · rw [stepF_seal h38 h72] at hdr2 hok2 hkl
          obtain ⟨rfl, hu2⟩ := h72
          rw [← hzl] at hu2
          subst hu2
          obtain ⟨p1, p2', ⟨vk3, vf3, csk3, csf3, oo3, e1, e2, e3', e4, e5'⟩, p4', p5', p6'⟩ := hW3
          have htv : TV F (.mk 7 yi us) 7 yi (.slice za 2 zc) := .mk (by rw [Tm.rows_eq]; exact hza) hzl hzc hzm
          have hq1 := htv.qt.one
          have hkl' : k1.length ≤ stE.k.length := hkl
          obtain ⟨base, fcap3, b1, o1, c1, W1, z0, z1, z2, rfl, hrun, hb1, hd0, hd1, hd2, hdf, hdw, hdwf, hob, hend⟩ := app_gen (jq := 2) e1 rfl hs3 q1 p2' (by omega) hq1
          obtain ⟨n, hn⟩ : ∃ n, s1.length = n := ⟨_, rfl⟩
          rw [hn] at hrun hd0 hd1 hd2 hdw hend
          have hw0 : w3.cell? ⟨wb, 2, none⟩ = some (.slice base n fcap3) := by rw [← hn]; exact hcell e1 rfl
          have hltt : tb < w3.heap.size := (Array.getElem?_eq_some_iff.1 hnew3).1
          have hltw3 : wb < w3.heap.size := (Array.getElem?_eq_some_iff.1 e1).1
          have hw0a : (w3.alloc (Obj.cells #[.int .i64 0, .int .i64 0, .slice none 0 0] 25)).cell? ⟨wb, 2, none⟩ = some (.slice base n fcap3) := by rw [World.cell?_alloc_past _ wb 2 hltw3]; exact hw0
          have ht0a : (w3.alloc (Obj.cells #[.int .i64 0, .int .i64 0, .slice none 0 0] 25)).cell? ⟨tb, 0, none⟩ = some (.int .i64 7) := by rw [World.cell?_alloc_past _ tb 0 hltt]; exact hc0
          have ht1a : (w3.alloc (Obj.cells #[.int .i64 0, .int .i64 0, .slice none 0 0] 25)).cell? ⟨tb, 1, none⟩ = some (.int .i64 yi) := by rw [World.cell?_alloc_past _ tb 1 hltt]; exact hc1
          have ht2a : (w3.alloc (Obj.cells #[.int .i64 0, .int .i64 0, .slice none 0 0] 25)).cell? ⟨tb, 2, none⟩ = some (.slice za 2 zc) := by rw [World.cell?_alloc_past _ tb 2 hltt]; exact hc2
          have hnn : (n : Int) < (n : Int) + 1 := by omega
          have hb1' : wb ≠ b1 := fun e => hb1 e.symm
          have hfin : ∀ w4, (w4 = endA W1 wb 2 b1 (o1 + n * 3) (.int .i64 7) (.int .i64 yi) (.slice za 2 zc) (.slice (some ⟨b1, o1, none⟩) (n + 1) c1) ∨ w4 = endB W1 wb 2 b1 (o1 + n * 3) (.int .i64 7) (.int .i64 yi) (.slice za 2 zc) (.slice (some ⟨b1, o1, none⟩) (n + 1) c1)) →
              We F lo wb eb w4 ⟨k1, f', s1 ++ [.mk 7 yi us]⟩ obk1 (some fb) (some b1) (.slice (some ⟨b1, o1, none⟩) (n + 1) c1) ∧ Wx w w4 (fun x => wb = x ∨ obk = some x ∨ obf = some x ∨ obs = some x) ∧ (∀ b, (some b1 : Option Nat) = some b → obs = some b ∨ w.heap.size ≤ b) := by
            intro w4 hw4
            obtain ⟨f1', f2', f3'⟩ := hend w4 hw4
            have hsz := hwxx.size
            refine ⟨⟨⟨FzOk.wx p1 hlo f3' (fun b hb => ?_) p2', Nat.le_trans p2' f3'.size, ⟨vk3, vf3, csk3, csf3, oo3, f1', e2.wx f3' (fun b hb hT => ?_), e3', e4.wx f3' (fun b hb hT => ?_), e5'⟩, p4', p5', p6'⟩, ⟨_, o1, by rw [List.length_append, hn]; exact f2', e7.app htv.qt⟩, fun e => hb1 (by simpa using e), fun b hb hb2 => ?_, fun b hb hb2 => ?_⟩, hwxx.step f3' fun x hx => ?_, fun b hb => ?_⟩
            · rcases hb with rfl | hb
              · exact hwb
              · exact (hs3.lt' b hb).1
            · rcases hT with rfl | hT
              · exact p4' hb
              · exact q2 b hT hb
            · rcases hT with rfl | hT
              · exact p5' hb
              · exact q3 b hT hb
            · simp only [Option.some.injEq] at hb; subst hb
              rcases hob with q | q
              · exact q2 _ q hb2
              · have := (e2.lt' _ hb2).2; omega
            · simp only [Option.some.injEq] at hb; subst hb
              rcases hob with q | q
              · exact q3 _ q hb2
              · have := (e4.lt' _ hb2).2; omega
            · rcases hx with hx | hx
              · exact .inl (.inl hx)
              · exact (hns x hx).imp (fun q => .inr (.inr (.inr q))) id
            · simp only [Option.some.injEq] at hb; subst hb
              rcases hob with q | q
              · exact hns _ q
              · exact .inr (by omega)
          clear hend hn hltt hltw3 hob h hlo hwb hok ho hN hdr hse hNE p2 p2' p4 p5 p6 p1 e1 e2 e3 e3' e4 e5 e5' e7 q1 q2 q3 p4' p5' p6' hok1 hwx htblt hltw hza hzl hzc hzm hus hkl hkl' hfk hs3 hnew3 hwxx hdr1 htv hq1 hcell hns h38
          go_upto_region 8 with (fail)
          refine cutQ (K' := fun a w4 => S97c (.pointer (some ⟨wb, 0, none⟩)) (.pointer (some ⟨tb, 0, none⟩)) a ∧ (w4 = endA W1 wb 2 b1 (o1 + n * 3) (.int .i64 7) (.int .i64 yi) (.slice za 2 zc) (.slice (some ⟨b1, o1, none⟩) (n + 1) c1) ∨ w4 = endB W1 wb 2 b1 (o1 + n * 3) (.int .i64 7) (.int .i64 yi) (.slice za 2 zc) (.slice (some ⟨b1, o1, none⟩) (n + 1) c1))) ?_ ?_
          · clear hfin hdr2 hok2 hnk hnf
            go_region_law_o (refine step_append_runI rfl _ _ 23 23 rfl _ _ (by simp [Act.eval, Act.put]) (by simp [Act.eval, Act.put]) (hrun _) ?_)
            all_goals first
              | exact ⟨⟨rfl, rfl, rfl, rfl, rfl⟩, .inl rfl⟩
              | exact ⟨⟨rfl, rfl, rfl, rfl, rfl⟩, .inr rfl⟩
          · rintro a5 w4 ⟨hS5, hw4⟩
            obtain ⟨r1, r2, r3⟩ := hfin w4 hw4
            obtain ⟨y5, rfl⟩ := hS5.ex
            clear hfin hw4 hS5 hrun hd0 hd1 hd2 hdf hdw hdwf hw0 hw0a ht0a ht1a ht2a hc0 hc1 hc2 hnn
            go_wp2
            exact ⟨m', _, obk1, some fb, some b1, _, rfl, ⟨rfl, rfl, rfl, rfl⟩, r1, hok2, hdr2, r2, hnk, hnf, r3⟩
        · rw [stepF_drop h38 h72] at hdr2 hok2 hkl
          have hWe : We F lo wb eb w3 ⟨k1, f', s1⟩ obk1 (some fb) obs1 vs1 := ⟨hW3, ⟨css, os, hs3, e7⟩, q1, q2, q3⟩
          have hx3 : ¬ xi = 3 := fun e => h38 (.inl e)
          have hx8 : ¬ xi = 8 := fun e => h38 (.inr e)
          by_cases hx7 : xi = 7
          · have hz2 : ¬ ((zl : Int) = 2) := fun e => h72 ⟨hx7, by omega⟩
            subst hx7
            clear h hlo hwb hok ho hN hdr hse hNE p2 p4 p5 p6 e3 e5 e7 q1 q2 q3 hok1 hwx htblt hltw hza hzl hzc hzm hus hkl hfk hnn hW3 hs3 hnew3 hdr1 hcell h38 h72
            go_wp2
            all_goals exact ⟨m', _, obk1, some fb, obs1, vs1, rfl, ⟨rfl, rfl, rfl, rfl⟩, hWe, hok2, hdr2, hwxx, hnk, hnf, hns⟩
          · clear h hlo hwb hok ho hN hdr hse hNE p2 p4 p5 p6 e3 e5 e7 q1 q2 q3 hok1 hwx htblt hltw hza hzl hzc hzm hus hkl hfk hnn hW3 hs3 hnew3 hdr1 hcell h38 h72
            go_wp2
            all_goals exact ⟨m', _, obk1, some fb, obs1, vs1, rfl, ⟨rfl, rfl, rfl, rfl⟩, hWe, hok2, hdr2, hwxx, hnk, hnf, hns⟩
  · exact ⟨n, st, obk, obf, obs, vs, rfl, ⟨rfl, rfl, rfl, rfl⟩, h, hok, hdr, Wx.refl _ _, fun b hb => .inl hb, fun b hb => .inl hb, fun b hb => .inl hb⟩
end Go.Proofs.Ytgiciiknagelhaa
set_option linter.unusedVariables false
namespace Go.Proofs.Ytgiciiknagelhaa
open Go.VM Go.Lib Go.RowKit Go.Shelf
theorem SlO.lend2 {w : World} {lo : Nat} {v : Value} {cs : List Value} {ob : Option Nat} {o n : Nat} (h : SlO w lo v cs ob o n) {F : Fz} {ts : List Tm} (hF : FzOk F w) (hlo : ∀ b k u, F b k = some u → b < lo) (hq : QT F ts cs) :
    ∃ F', F.le F' ∧ FzOk F' w ∧ RelD F' (.sl (ts.map Tm.row)) v ∧ ∀ b k, b < lo → F' b k = F b k := by
  cases h with
  | nil =>
    have hl2 := hq.len
    obtain rfl : ts = [] := List.length_eq_zero_iff.1 (by simp at hl2; omega)
    exact ⟨F, Fz.le_refl _, hF, RelD.nil F, fun _ _ _ => rfl⟩
  | @«at» b o n cap cur cs hb hh hf hn hm hcs =>
    have hs := SlO.at (w := w) (lo := lo) hb hh hf hn hm hcs
    have hl := hs.len
    have hl2 := hq.len
    have hnt : n = ts.length := by omega
    subst hnt
    have hle : F.le (lendF F b o cs) := lendF_le hb hlo
    refine ⟨lendF F b o cs, hle, fun b' k u hu => ?_, ?_, fun b' k hb' => by unfold lendF; rw [if_neg (by omega)]⟩
    · rcases lendF_some hu with ⟨rfl, j, rfl, hj⟩ | hu
      · exact hs.cell hj
      · exact hF _ _ _ hu
    · refine .sl _ _ _ _ 3 (fun i j => (cs[i * 3 + j]?).getD undef) (by simp) hn hm (fun i row hr => ?_) (fun _ => ⟨b, o, rfl, fun i j hi hj => ?_⟩) (fun i j row c hr hc => ?_)
      · rw [List.getElem?_map] at hr
        cases hx : ts[i]? with
        | none => rw [hx] at hr; cases hr
        | some t => rw [hx] at hr; simp only [Option.map_some, Option.some.injEq] at hr; subst hr; exact row_len t
      · rw [List.length_map] at hi
        rw [lendF_at, List.getElem?_eq_getElem (by omega)]; rfl
      · rw [List.getElem?_map] at hr
        cases hx : ts[i]? with
        | none => rw [hx] at hr; cases hr
        | some t =>
          rw [hx] at hr; simp only [Option.map_some, Option.some.injEq] at hr; subst hr
          have hj : j < 3 := by have := (List.getElem?_eq_some_iff.1 hc).1; rwa [row_len] at this
          have hi := (List.getElem?_eq_some_iff.1 hx).1
          have hlt : i * 3 + j < cs.length := by omega
          rw [List.getElem?_eq_getElem hlt]
          exact (hq.rel (i * 3 + j) c _ (by rw [cellsT_get ts i j t hx hj]; exact hc) (List.getElem?_eq_getElem hlt)).mono hle
theorem range31 (y : Nat → Value) : ((List.range 31).map y).toArray = #[y 0, y 1, y 2, y 3, y 4, y 5, y 6, y 7, y 8, y 9, y 10, y 11, y 12, y 13, y 14, y 15, y 16, y 17, y 18, y 19, y 20, y 21, y 22, y 23, y 24, y 25, y 26, y 27, y 28, y 29, y 30] := by kernel_rfl
theorem arr31 {t : Array Value} (h : t.size = 31) : ∃ y : Nat → Value, t = #[y 0, y 1, y 2, y 3, y 4, y 5, y 6, y 7, y 8, y 9, y 10, y 11, y 12, y 13, y 14, y 15, y 16, y 17, y 18, y 19, y 20, y 21, y 22, y 23, y 24, y 25, y 26, y 27, y 28, y 29, y 30] := ⟨fun j => t.getD j undef, (arr_any h).trans (range31 _)⟩
def S31a (lv : Value) (len i : Int) (a : Act) : Prop := a.defers = [] ∧ a.tmps.size = 31 ∧ a.tmps[0]? = some (lv) ∧ a.tmps[10]? = some (lv) ∧ a.tmps[11]? = some (.int .i64 len) ∧ a.tmps[12]? = some (.int .i64 i)
theorem S31a.ex {lv : Value} {len i : Int} {a : Act} (h : S31a lv len i a) : ∃ y : Nat → Value, a = ⟨#[lv, y 1, y 2, y 3, y 4, y 5, y 6, y 7, y 8, y 9, lv, .int .i64 len, .int .i64 i, y 13, y 14, y 15, y 16, y 17, y 18, y 19, y 20, y 21, y 22, y 23, y 24, y 25, y 26, y 27, y 28, y 29, y 30], []⟩ := by
  obtain ⟨g0, g1, g2, g3, g4, g5⟩ := h
  obtain ⟨tm, df⟩ := a
  simp only at g0 g1 g2 g3 g4 g5
  subst g0
  obtain ⟨y, rfl⟩ := arr31 g1
  simp only [List.getElem?_toArray, List.getElem?_cons_succ, List.getElem?_cons_zero, Option.some.injEq] at g2 g3 g4 g5
  exact ⟨y, by rw [g2, g3, g4, g5]⟩
def S31b (p : Value) (a : Act) : Prop := a.defers = [] ∧ a.tmps.size = 31 ∧ a.tmps[6]? = some (p)
theorem S31b.ex {p : Value} {a : Act} (h : S31b p a) : ∃ y : Nat → Value, a = ⟨#[y 0, y 1, y 2, y 3, y 4, y 5, p, y 7, y 8, y 9, y 10, y 11, y 12, y 13, y 14, y 15, y 16, y 17, y 18, y 19, y 20, y 21, y 22, y 23, y 24, y 25, y 26, y 27, y 28, y 29, y 30], []⟩ := by
  obtain ⟨g0, g1, g2⟩ := h
  obtain ⟨tm, df⟩ := a
  simp only at g0 g1 g2
  subst g0
  obtain ⟨y, rfl⟩ := arr31 g1
  simp only [List.getElem?_toArray, List.getElem?_cons_succ, List.getElem?_cons_zero, Option.some.injEq] at g2
  exact ⟨y, by rw [g2]⟩
theorem closG_step {n m : Nat} {st wF : Wst} (h : closG n m st = some wF) : ∃ m' st' b, m = m' + 1 ∧ openF n st = some (st', b) ∧ (b = true → closG n m' st' = some wF) ∧ (b = false → st' = wF) := by
  cases m with
  | zero => cases h
  | succ m =>
    rw [closG] at h
    cases ho : openF n st with
    | none => rw [ho] at h; cases h
    | some p =>
      obtain ⟨st', b⟩ := p
      rw [ho] at h
      cases b with
      | true => exact ⟨m, st', true, rfl, rfl, fun _ => h, fun e => by cases e⟩
      | false => exact ⟨m, st', false, rfl, rfl, (fun e => by cases e), fun _ => by simpa using h⟩
theorem openF_kl {n : Nat} {st st' : Wst} {b : Bool} (h : openF n st = some (st', b)) : st.k.length ≤ st'.k.length := by
  unfold openF at h
  split at h
  · rename_i w1 hd
    simp only [Option.some.injEq, Prod.mk.injEq] at h
    rw [← h.1]
    exact Nat.le_trans (drainF_kl _ hd) (sealG_kl _ _ _ _)
  · cases h
theorem closG_kl {n : Nat} {wF : Wst} : ∀ (m : Nat) (st : Wst), closG n m st = some wF → st.k.length ≤ wF.k.length
  | 0, st, h => by cases h
  | m + 1, st, h => by
    obtain ⟨m', st', b, hm, ho, h1, h2⟩ := closG_step h
    obtain rfl : m = m' := by omega
    have := openF_kl ho
    cases b with
    | true => exact Nat.le_trans this (closG_kl m st' (h1 rfl))
    | false => rw [← h2 rfl]; exact this
theorem sealG_wok : ∀ (S : List Tm) {st : Wst} (rest : List Tm) (more : Bool), Wok st → (∀ t ∈ S, ∃ v a b, t = .mk 7 v [a, b]) → Tm.smalls S → Tm.smalls rest → (∀ t ∈ rest, ∃ v a b, t = .mk 7 v [a, b]) →
    Wok (sealG S st rest more).1 ∧ Tm.smalls (sealG S st rest more).2.1 ∧ (∀ t ∈ (sealG S st rest more).2.1, ∃ v a b, t = .mk 7 v [a, b]) ∧ (sealG S st rest more).2.1.length ≤ rest.length + S.length
  | [], st, rest, more, h, _, _, hr, h2 => ⟨h, hr, h2, by rw [sealG]; simp⟩
  | t :: S, st, rest, more, h, hS, hs, hr, h2 => by
    obtain ⟨v, a, b, rfl⟩ := hS t List.mem_cons_self
    have hs' := hs
    rw [Tm.smalls, Tm.small, Tm.smalls, Tm.smalls] at hs'
    rw [sealG]
    split
    · have hA : Wok (addL st [b]) := wok_addL h ⟨hs'.1.2.2.1, trivial⟩
      obtain ⟨q1, q2, q3, q4⟩ := sealG_wok S rest (newL st [b] || more) hA (fun x hx => hS x (List.mem_cons_of_mem _ hx)) hs'.2 hr h2
      exact ⟨q1, q2, q3, by simp only [List.length_cons]; exact Nat.le_trans q4 (by omega)⟩
    · obtain ⟨q1, q2, q3, q4⟩ := sealG_wok S (rest ++ [.mk 7 v [a, b]]) more h (fun x hx => hS x (List.mem_cons_of_mem _ hx)) hs'.2 (sm_app.2 ⟨hr, hs.1, trivial⟩) (fun x hx => by
        rcases List.mem_append.1 hx with hx | hx
        · exact h2 x hx
        · rw [List.mem_singleton] at hx; exact ⟨v, a, b, hx⟩)
      refine ⟨q1, q2, q3, ?_⟩
      simp only [List.length_append, List.length_cons, List.length_nil] at q4 ⊢
      omega
theorem wok_openF {n : Nat} {st st' : Wst} {b : Bool} (h : Wok st) (ho : openF n st = some (st', b)) : Wok st' := by
  unfold openF at ho
  split at ho
  · rename_i w1 hd
    obtain ⟨h1, hf⟩ := wok_drainF n h hd
    obtain ⟨q1, q2, q3, q4⟩ := sealG_wok w1.s [] false h1 h1.two h1.s trivial (fun _ h => by cases h)
    simp only [Option.some.injEq, Prod.mk.injEq] at ho
    rw [← ho.1]
    have hn := q1.n
    rw [sealG_s] at hn
    simp only [List.length_nil] at q4
    exact ⟨q1.k, q1.f, q2, by show (sealG w1.s w1 [] false).1.f.length + (sealG w1.s w1 [] false).2.1.length ≤ (sealG w1.s w1 [] false).1.k.length; omega, q3⟩
  · cases ho
end Go.Proofs.Ytgiciiknagelhaa
set_option linter.unusedVariables false
namespace Go.Proofs.Ytgiciiknagelhaa
open Go.VM Go.Lib Go.RowKit Go.Shelf
theorem val_calls {VPx : VProg} (hP : CProg Try.prog VPx) {w : World} {F : Fz} (hF : FzOk F w) {t : Tm} (hv : CV VPx 91 [t.ag] [] = some ⟨.d (B true), [], [], 0⟩) {o v : Int} {z : Value} (htv : TV F t o v z) :
    Calls Try.prog 91 #[.agg #[.int .i64 o, .int .i64 v, z]] w fun e w' => e = .returned (.bool true) ∧ Wx w w' (fun _ => False) := by
  refine (callF hP hv (by decide) rfl hF (xs := #[.agg #[.int .i64 o, .int .i64 v, z]]) ⟨rfl, fun j c x hc hx => ?_⟩).mono ?_
  · match j, hc, hx with
    | 0, hc, hx => simp at hc hx; subst hc hx; exact htv.ag
    | j + 1, hc, hx => simp at hx
  · rintro e w' ⟨u, F2, rfl, _, _, hu, hw⟩
    rw [bool1 hu]
    exact ⟨rfl, hw⟩
set_option maxHeartbeats 8000000 in
set_option maxRecDepth 1000000 in
theorem close_calls {VPx : VProg} (hP : CProg Try.prog VPx) {F : Fz} {w : World} (hF : FzOk F w) (hlo : ∀ b k u, F b k = some u → b < w.heap.size) {ls : List Tm} {a : Option Addr} {len cap : Nat} (hl : RelD F (.sl (ls.map Tm.row)) (.slice a len cap)) (hlen1 : len ≤ ls.length) (hlen2 : ls.length ≤ len)
    (hls : Tm.smalls ls) (hl4 : len ≤ 400) (hv : ∀ t ∈ ls, CV VPx 91 [t.ag] [] = some ⟨.d (B true), [], [], 0⟩) {n m : Nat} {wF : Wst} (hc : closG n m (addL ⟨[], [], []⟩ ls) = some wF) (hN : wF.k.length ≤ 1000000) :
    Calls Try.prog 31 #[.slice a len cap] w fun e w' => ∃ vk csk obk, e = .returned (.tuple #[vk, .int .i64 0]) ∧ SlO w' w.heap.size vk csk obk 0 wF.k.length ∧ QT F wF.k csk ∧ FzOk F w' ∧ Wx w w' (fun _ => False) := by
  have mixed := mixed
  have hcell : ∀ {W : World} {c : Array Value} {e : TypeId} {bk j : Nat} {v : Value}, W.heap[bk]? = some (.cells c e (0, 0)) → c[j]? = some v → W.cell? ⟨bk, j, none⟩ = some v := fun {W c e bk j v} h1 h2 => by
    rw [cell_of_row W bk j c e (0, 0) h1]; exact h2
  obtain ⟨R, hR⟩ : ∃ R : Ending → World → Prop, R = fun e w' => ∃ vk csk obk, e = .returned (.tuple #[vk, .int .i64 0]) ∧ SlO w' w.heap.size vk csk obk 0 wF.k.length ∧ QT F wF.k csk ∧ FzOk F w' ∧ Wx w w' (fun _ => False) := ⟨_, rfl⟩
  rw [← hR]
  have h4 : ¬ ((400 : Int) < (len : Int)) := by omega
  obtain ⟨lo, hlod⟩ : ∃ lo, w.heap.size = lo := ⟨_, rfl⟩
  have hR1 : ∀ (w' : World) (vk : Value) (csk : List Value) (obk : Option Nat), SlO w' lo vk csk obk 0 wF.k.length → QT F wF.k csk → FzOk F w' → Wx w w' (fun _ => False) → R (.returned (.tuple #[vk, .int .i64 0])) w' := fun w' vk csk obk h1 h2 h3 h4 => by
    rw [hR]; exact ⟨vk, csk, obk, rfl, by rw [hlod]; exact h1, h2, h3, h4⟩
  have hR1 := Hid.mk hR1
  rw [hlod] at hlo
  clear hR
  go_enter Try.func31, Try.ntmps31
  go_wp2
  refine wp_loop_rounds (len + 1) ?_
  obtain ⟨IA, hIA⟩ : ∃ IA : Nat → Act → World → Prop, IA = fun m1 a1 w1 => ∃ i : Nat, i + m1 = len + 1 ∧ i ≤ len ∧ S31a (.slice a len cap) len i a1 ∧ FzOk F w1 ∧ Wx w w1 (fun _ => False) := ⟨_, rfl⟩
  refine rounds_ind (I := IA) ?_ ?_ _ _ _ ?_
  · intro a1 w1 h
    rw [hIA] at h
    obtain ⟨i, h1, h2, _⟩ := h
    omega
  · intro m1 a1 w1 h
    rw [hIA] at h
    obtain ⟨i, him, hil, hS, hF1, hwx⟩ := h
    obtain ⟨y, rfl⟩ := hS.ex
    clear hS
    by_cases hi : i < len
    · obtain ⟨t, ht⟩ : ∃ t, ls[i]? = some t := ⟨_, List.getElem?_eq_getElem (by omega)⟩
      obtain ⟨lb, lf, rfl, xi, yi, z, htv, f0, f1, f2⟩ := slTV hl ht
      obtain ⟨za, zl, zc, rfl⟩ : ∃ za zl zc, z = .slice za zl zc := by cases htv; exact ⟨_, _, _, rfl⟩
      have c0 := hF1 _ _ _ f0
      have c1 := hF1 _ _ _ f1
      have c2 := hF1 _ _ _ f2
      have hil2 : (i : Int) < (len : Int) := by omega
      have hil0 : (0 : Int) ≤ (i : Int) := by omega
      obtain ⟨W, hW⟩ : ∃ W, w1.alloc (Obj.cells #[.int .i64 xi, .int .i64 yi, .slice za zl zc] 25) = W := ⟨_, rfl⟩
      have hWx : Wx w1 W (fun _ => False) := by rw [← hW]; exact Wx.alloc _ _ _
      have hlo2 : lo ≤ w1.heap.size := by rw [← hlod]; exact hwx.size
      have H := val_calls hP (FzOk.wx hF1 hlo hWx (fun _ h => h.elim) hlo2) (hv t (List.mem_of_getElem? ht)) htv
      rw [← hW] at H
      have hI : ∀ w2, Wx W w2 (fun _ => False) → ∀ a2, S31a (.slice (some ⟨lb, lf, none⟩) len cap) len ((i + 1 : Nat) : Int) a2 → IA m1 a2 w2 := by
        intro w2 hw2 a2 hS
        rw [hIA]
        have hx : Wx w1 w2 (fun _ => False) := hWx.step hw2 fun _ h => h.elim
        exact ⟨i + 1, by omega, by omega, hS, FzOk.wx hF1 hlo hx (fun _ h => h.elim) hlo2, hwx.step hx fun _ h => h.elim⟩
      have hI := Hid.mk hI
      rw [← hW] at hI
      clear hIA hF hlo hl hls hv hc hN hcell hR1 hlod hF1 hwx hi ht htv f0 f1 f2 hW hWx hlo2 hil him hlen1 hlen2
      go_wp2_with (fail)
      refine H.mono ?_
      rintro e w2 ⟨rfl, hw2⟩
      have hI2 := Hid.mk (hI.out w2 hw2)
      clear hI H hw2 c0 c1 c2
      go_wp2
      all_goals first | exact hI2.out _ ⟨rfl, rfl, rfl, rfl, rfl, rfl⟩ | exact ⟨rfl, rfl, rfl, rfl, rfl, rfl⟩
    · have hie : i = len := by omega
      subst hie
      have hil2 : ¬ ((i : Int) < (i : Int)) := by omega
      clear hIA him hil
      go_wp2_with (fail)
      obtain ⟨wb, hwb⟩ : ∃ wb, wb = w1.heap.size := ⟨_, rfl⟩
      have hnewb : (w1.alloc (Obj.cells #[.slice none 0 0, .slice none 0 0, .slice none 0 0] 161)).heap[wb]? = some (.cells #[.slice none 0 0, .slice none 0 0, .slice none 0 0] 161 (0, 0)) := by rw [hwb]; exact World.alloc_heap_new w1 _
      rw [← hwb]
      have hlo2 : lo ≤ w1.heap.size := by rw [← hlod]; exact hwx.size
      have hwbl : lo ≤ wb := by omega
      clear hwb
      generalize hWW : w1.alloc (Obj.cells #[.slice none 0 0, .slice none 0 0, .slice none 0 0] 161) = W at hnewb ⊢
      have hWx : Wx w1 W (fun _ => False) := by rw [← hWW]; exact Wx.alloc _ _ _
      clear hWW
      have hxW : Wx w W (fun _ => False) := hwx.step hWx fun _ h => h.elim
      have hd0 : Wd F lo wb 161 (.slice none 0 0) W [] [] none none := ⟨FzOk.wx hF1 hlo hWx (fun _ h => h.elim) hlo2, Nat.le_trans hlo2 hWx.size, ⟨_, _, [], [], 0, hnewb, .nil, QT.nil, .nil, QT.nil⟩, (fun e => by cases e), (fun e => by cases e), fun _ e => by cases e⟩
      have hwok0 : Wok ⟨[], [], []⟩ := ⟨trivial, trivial, trivial, Nat.le_refl _, fun _ h => by cases h⟩
      have hwokA := wok_addL hwok0 hls
      have H := add96 (st := ⟨[], [], []⟩) hd0 hlo hwbl hl trivial hls (Nat.le_trans (closG_kl m _ hc) hN) (Nat.le_refl _) (by omega) (by omega)
      have hAs : (addL ⟨[], [], []⟩ ls).s = [] := addL_s _ _
      refine H.mono ?_
      rintro e w6 ⟨rfl, obk0, obf0, hd6, hx6, hk6, hf6⟩
      have hwx6 : Wx w w6 (fun _ => False) := hxW.step hx6 fun x hx => by
        rcases hx with hx | hx | hx
        · subst hx; exact .inr (by omega)
        · cases hx
        · cases hx
      have hWe6 : We F lo wb 161 w6 (addL ⟨[], [], []⟩ ls) obk0 obf0 none (.slice none 0 0) := ⟨hd6, ⟨[], 0, by rw [hAs]; exact .nil, by rw [hAs]; exact QT.nil⟩, (fun e => by cases e), (fun _ e => by cases e), fun _ e => by cases e⟩
      clear H hd0 hxW hWx hnewb hx6 hk6 hf6 hd6 hwok0
      obtain ⟨IB, hIB⟩ : ∃ IB : Nat → Act → World → Prop, IB = fun m2 a2 w2 => ∃ (st : Wst) (obk obf obs : Option Nat) (vs : Value), closG n m2 st = some wF ∧ S31b (.pointer (some ⟨wb, 0, none⟩)) a2 ∧ We F lo wb 161 w2 st obk obf obs vs ∧ Wok st ∧ Wx w w2 (fun _ => False) := ⟨_, rfl⟩
      have hI0 : ∀ a2, S31b (.pointer (some ⟨wb, 0, none⟩)) a2 → IB m a2 w6 := fun a2 hS => by
        rw [hIB]; exact ⟨_, obk0, obf0, none, _, hc, hS, hWe6, hwokA, hwx6⟩
      have hI0 := Hid.mk hI0
      have hI1 : ∀ m2 a2 w2, IB m2 a2 w2 → ∃ m3 st st' b obk obf obs vs, m2 = m3 + 1 ∧ S31b (.pointer (some ⟨wb, 0, none⟩)) a2 ∧ Calls Try.prog 97 #[.pointer (some ⟨wb, 0, none⟩)] w2 (fun e w3 => e = .returned (.bool b) ∧ (b = true → ∀ a3, S31b (.pointer (some ⟨wb, 0, none⟩)) a3 → IB m3 a3 w3) ∧ (b = false → ∃ vk, w3.cell? ⟨wb, 0, none⟩ = some vk ∧ R (.returned (.tuple #[vk, .int .i64 0])) w3)) ∧ st = (st : Wst) ∧ st' = (st' : Wst) ∧ obk = (obk : Option Nat) ∧ obf = (obf : Option Nat) ∧ obs = (obs : Option Nat) ∧ vs = (vs : Value) := by
        intro m2 a2 w2 h
        rw [hIB] at h
        obtain ⟨st, obk, obf, obs, vs, hcl, hS, hWe, hok, hwx2⟩ := h
        obtain ⟨m3, st', b, hm, ho, h1, h2⟩ := closG_step hcl
        have hst' : st'.k.length ≤ 1000000 := by
          cases b with
          | true => exact Nat.le_trans (closG_kl m3 _ (h1 rfl)) hN
          | false => rw [h2 rfl]; exact hN
        refine ⟨m3, st, st', b, obk, obf, obs, vs, hm, hS, ?_, rfl, rfl, rfl, rfl, rfl, rfl⟩
        refine (open97 hWe hlo hwbl hok ho hst').mono ?_
        rintro e w3 ⟨rfl, vs', obk', obf', obs', hWe', hx', hk', hf', hs'⟩
        obtain ⟨⟨p1, p2, ⟨vk, vf, csk, csf, oo, e1, e2, e3, e4, e5⟩, p4, p5, p6⟩, ⟨css, os, e6, e7⟩, q1, q2, q3⟩ := hWe
        have hwx3 : Wx w w3 (fun _ => False) := hwx2.step hx' fun x hx => by
          right
          rcases hx with hx | hx | hx | hx
          · subst hx; omega
          · have := (e2.lt' x hx).1; omega
          · have := (e4.lt' x hx).1; omega
          · have := (e6.lt' x hx).1; omega
        refine ⟨rfl, fun hb a3 hS3 => ?_, fun hb => ?_⟩
        · rw [hIB]
          exact ⟨st', obk', obf', obs', vs', h1 hb, hS3, hWe', wok_openF hok ho, hwx3⟩
        · obtain ⟨⟨p1', p2', ⟨vk', vf', csk', csf', oo', e1', e2', e3', e4', e5'⟩, _⟩, _⟩ := hWe'
          have hst := h2 hb
          subst hst
          exact ⟨vk', hcell e1' rfl, hR1.out w3 vk' csk' obk' e2' e3' p1' hwx3⟩
      have hI1 := Hid.mk hI1
      clear hIB hWe6 hwx6 hwokA hAs hR1 hcell hc hN hv hls hl hlo hF hF1 hwx hlo2 hwbl hP hlod hlen1 hlen2 hl4 h4 hi hil2
      go_wp2
      refine wp_loop_rounds m ?_
      refine rounds_ind (I := IB) ?_ ?_ _ _ _ ?_
      · intro a2 w2 h
        obtain ⟨m3, _, _, _, _, _, _, _, hm, _⟩ := hI1.out 0 a2 w2 h
        omega
      · intro m2 a2 w2 h
        obtain ⟨m3, _, _, b, _, _, _, _, hm, hS, H, _⟩ := hI1.out (m2 + 1) a2 w2 h
        obtain rfl : m2 = m3 := by omega
        clear hI1 hI0 hm h
        obtain ⟨y2, rfl⟩ := hS.ex
        clear hS
        go_wp2_with (fail)
        refine H.mono ?_
        rintro e w3 ⟨rfl, hb1, hb2⟩
        clear H
        cases b with
        | true =>
          have hb3 := Hid.mk (hb1 rfl)
          clear hb1 hb2
          go_wp2
          exact hb3.out _ ⟨rfl, rfl, rfl⟩
        | false =>
          obtain ⟨vk, hvk, hfin⟩ := hb2 rfl
          clear hb1 hb2
          have hfin := Hid.mk hfin
          go_wp2
          all_goals first | exact hfin.out | (go_ret; exact hfin.out)
      · exact hI0.out _ ⟨rfl, rfl, rfl⟩
  · rw [hIA]
    exact ⟨0, by omega, by omega, ⟨rfl, rfl, rfl, rfl, rfl, rfl⟩, hF, Wx.refl _ _⟩
end Go.Proofs.Ytgiciiknagelhaa
set_option linter.unusedVariables false
namespace Go.Proofs.Ytgiciiknagelhaa
open Go.VM Go.Lib Go.RowKit Go.Shelf
theorem close_vc {VPx : VProg} (hP : CProg Try.prog VPx) {ls : List Tm} (hls : Tm.smalls ls) (hl4 : ls.length ≤ 400) (hv : ∀ t ∈ ls, CV VPx 91 [t.ag] [] = some ⟨.d (B true), [], [], 0⟩) {n m : Nat} {wF : Wst} (hc : closG n m (addL ⟨[], [], []⟩ ls) = some wF) (hN : wF.k.length ≤ 1000000) :
    VC Try.prog 31 [.d (.sl (ls.map Tm.row))] [] ⟨.tup [.d (.sl (wF.k.map Tm.row)), .d (I 0)], [], [], 0⟩ := by
  intro G w xs hargs hR
  obtain ⟨lv, rfl⟩ : ∃ lv, xs = #[lv] := by
    have h1 : xs.size = 1 := hargs.1
    obtain ⟨l⟩ := xs
    match l, h1 with
    | [a], _ => exact ⟨a, rfl⟩
  have r0 := hargs.2 0 _ _ rfl rfl
  obtain ⟨a, len, cap, rfl, hl, hlen⟩ : ∃ a len cap, lv = .slice a len cap ∧ RelD G.F (.sl (ls.map Tm.row)) (.slice a len cap) ∧ len = ls.length := by
    cases r0 with
    | d h =>
      cases h with
      | sl _ a len cap sz u hlen hcap hmax hrow hb hr => exact ⟨a, len, cap, rfl, .sl _ a len cap sz u hlen hcap hmax hrow hb hr, by rw [hlen, List.length_map]⟩
  refine (close_calls hP hR.fz (fun b k u h => hR.fz.lt h) hl (by omega) (by omega) hls (by omega) hv hc hN).mono ?_
  rintro e w' ⟨vk, csk, obk, rfl, hS, hq, hF', hx⟩
  obtain ⟨F', hle, hFz, hrel, hold⟩ := hS.lend2 hF' (fun b k u h => hR.fz.lt h) hq
  have hι : ∀ i b, G.ι i ≠ some b := fun i b h => absurd (hR.lt i b h) (Nat.not_lt_zero _)
  refine ⟨_, { G with F := F' }, rfl, .tup rfl fun j c x hj hx => ?_, ?_⟩
  · match j, hj, hx with
    | 0, hj, hx => simp at hj hx; subst hj hx; exact .d hrel
    | 1, hj, hx => simp at hj hx; subst hj hx; exact .d (.lit _ rfl)
    | j + 2, hj, hx => simp at hx
  · exact
      { dep := hR.dep, dep0 := hR.dep0, gn := hR.gn, F0 := hle, Fnew := fun b o hb => hold b o hb, ι0 := fun _ _ => rfl, τ0 := fun _ _ _ => rfl
        wx := ⟨hx.os, hx.tape, hx.output, hx.size, fun b hb _ => hx.block b hb fun h => h⟩
        base := Nat.le_refl _, fz := hFz
        inj := fun i j b _ _ h => absurd h (hι i b)
        lt := fun i b h => absurd h (hι i b)
        sep := fun i b o _ h => absurd h (hι i b)
        ddb := fun i h => by have := hR.ddb i h; simp [St.entry] at this
        dd0 := fun i _ h => h
        ζ0 := fun _ _ => rfl
        zok := fun i b h => absurd h (hι i b)
        old := fun i b _ h => absurd h (hι i b)
        new := fun i b _ h => absurd h (hι i b)
        blk := fun k cs hk => by simp [Ret.st] at hk
        tok := fun g hg => by simp [Ret.st] at hg
        tinj := fun g g' hg => by simp [Ret.st] at hg }
def CloP (VPx : VProg) (args : List V) (ret : Ret) : Prop := ∃ ls wF, args = [.d (.sl (ls.map Tm.row))] ∧ Tm.smalls ls ∧ ls.length ≤ 400 ∧ (∀ t ∈ ls, CV VPx 91 [t.ag] [] = some ⟨.d (B true), [], [], 0⟩) ∧
  (∃ n m, closG n m (addL ⟨[], [], []⟩ ls) = some wF) ∧ wF.k.length ≤ 1000000 ∧ ret = ⟨.tup [.d (.sl (wF.k.map Tm.row)), .d (I 0)], [], [], 0⟩
open Classical in
noncomputable def cloNat (VPx : VProg) : Orc := fun f args blks => match Nat.beq f 31 with
  | true => if blks = [] then (if h : ∃ ret, CloP VPx args ret then some (Classical.choose h) else none) else none
  | false => none
theorem cloNat_some {VPx : VProg} {f : FuncId} {args : List V} {blks : List (List V)} {ret : Ret} (h : cloNat VPx f args blks = some ret) : f = 31 ∧ blks = [] ∧ CloP VPx args ret := by
  unfold cloNat at h
  split at h
  case h_2 => cases h
  rename_i hf
  split at h
  case isFalse => cases h
  rename_i hb
  split at h
  case isFalse => cases h
  rename_i hx
  simp only [Option.some.injEq] at h
  subst h
  exact ⟨Nat.eq_of_beq_eq_true hf, hb, Classical.choose_spec hx⟩
theorem cloNat_ok {VPx : VProg} (hP : CProg Try.prog VPx) : OrcOk Try.prog (cloNat VPx) := fun f args blks ret h => by
  obtain ⟨rfl, rfl, ls, wF, rfl, h2, h3, h4, ⟨n, m, h5⟩, h6, rfl⟩ := cloNat_some h
  exact close_vc hP h2 h3 h4 h5 h6
theorem cloNat_fn {VPx : VProg} : OrcFn Try.prog (cloNat VPx) := fun f args blks ret h => by
  obtain ⟨rfl, _⟩ := cloNat_some h
  exact ⟨_, Try.func31, rfl, by kernel_rfl⟩
theorem map_row_inj {a b : List Tm} (h : a.map Tm.row = b.map Tm.row) : a = b := by
  rw [← Tm.rows_eq, ← Tm.rows_eq] at h
  exact rows_inj h
open Classical in
theorem clo_eq {VPx : VProg} {ls : List Tm} (hls : Tm.smalls ls) (hl4 : ls.length ≤ 400) (hv : ∀ t ∈ ls, CV VPx 91 [t.ag] [] = some ⟨.d (B true), [], [], 0⟩) (hN : (subsL ls).length ≤ 1000000) :
    ∃ wF n m, closG n m (addL ⟨[], [], []⟩ ls) = some wF ∧ wF.k.length ≤ 1000000 ∧ cloNat VPx 31 [.d (.sl (ls.map Tm.row))] [] = some ⟨.tup [.d (.sl (wF.k.map Tm.row)), .d (I 0)], [], [], 0⟩ := by
  obtain ⟨n, m, wF, hc, hk⟩ := close_some ls
  have hx : ∃ ret, CloP VPx [.d (.sl (ls.map Tm.row))] ret := ⟨_, ls, wF, rfl, hls, hl4, hv, ⟨n, m, hc⟩, Nat.le_trans hk hN, rfl⟩
  obtain ⟨ls', wF', e, h2, h3, h4, ⟨n', m', h5⟩, h6, h7⟩ := Classical.choose_spec hx
  have : ls = ls' := by
    simp only [List.cons.injEq, V.d.injEq, D.sl.injEq, and_true] at e
    exact map_row_inj e
  subst this
  refine ⟨wF', n', m', h5, h6, ?_⟩
  show (if ([] : List (List V)) = [] then (if h : ∃ ret, CloP VPx [.d (.sl (ls.map Tm.row))] ret then some (Classical.choose h) else none) else none) = _
  rw [if_pos rfl, dif_pos hx, h7]
end Go.Proofs.Ytgiciiknagelhaa
