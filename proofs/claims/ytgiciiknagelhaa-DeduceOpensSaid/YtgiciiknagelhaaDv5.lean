/- Adding to what is known, walked. Conditions: none. -/
import Derived.Test.YtgiciiknagelhaaVe
import Derived.Test.YtgiciiknagelhaaDv4
import Derived.Deep.RegionWith
import Derived.Deep.RegionLaw
set_option linter.unusedVariables false
set_option linter.unusedSimpArgs false
namespace Go.Proofs.Ytgiciiknagelhaa
open Go.VM Go.Lib Go.RowKit Go.Shelf
theorem cutK {P : Program} {c : Code} {K K' : Act → World → Prop} {B : Exit → Act → World → Prop} {a : Act} {w : World} (h : c.wp P (Exit.then K' B) a w) (q : ∀ a w, K' a w → K a w) : c.wp P (Exit.then K B) a w := by
  refine wp_mono h fun e a w k => ?_
  cases e with
  | normal => exact q a w k
  | _ => exact k
theorem setCell_row {w : World} {b : Nat} {cur : Array Value} {e : TypeId} (hh : w.heap[b]? = some (.cells cur e (0, 0))) (o : Nat) (v : Value) :
    (w.setCell ⟨b, o, none⟩ v).heap[b]? = some (.cells (cur.setIfInBounds o v) e (0, 0)) ∧ Wx w (w.setCell ⟨b, o, none⟩ v) (fun x => b = x) := by
  have hlt := (Array.getElem?_eq_some_iff.1 hh).1
  constructor
  · unfold World.setCell
    simp only [Array.getElem?_modify, if_true, hh]
    rfl
  · refine ⟨rfl, rfl, rfl, by unfold World.setCell; simp, fun x hx hn => ?_⟩
    unfold World.setCell
    simp only [Array.getElem?_modify, if_neg hn]
theorem SlO.shape {w : World} {lo : Nat} {v : Value} {cs : List Value} {b o n : Nat} (h : SlO w lo v cs (some b) o n) : ∃ c, v = .slice (some ⟨b, o, none⟩) n c := by
  cases h with
  | «at» => exact ⟨_, rfl⟩
theorem arr28 {t : Array Value} (h : t.size = 28) : ∃ y : Nat → Value, t = #[y 0, y 1, y 2, y 3, y 4, y 5, y 6, y 7, y 8, y 9, y 10, y 11, y 12, y 13, y 14, y 15, y 16, y 17, y 18, y 19, y 20, y 21, y 22, y 23, y 24, y 25, y 26, y 27] := by
  refine ⟨fun j => t.getD j undef, ?_⟩
  obtain ⟨l⟩ := t
  match l, h with
  | [a0, a1, a2, a3, a4, a5, a6, a7, a8, a9, a10, a11, a12, a13, a14, a15, a16, a17, a18, a19, a20, a21, a22, a23, a24, a25, a26, a27], _ => rfl
def addK (k : List Tm) (t : Tm) : List Tm := if bsF k t = true then k else insAt k (bsI k t) t
theorem bsI_le (k : List Tm) (t : Tm) (h : bsF k t = false) : bsI k t ≤ k.length := by
  unfold bsI
  have : ∀ (fuel i j : Nat), i ≤ j → j ≤ k.length → bsGo k t fuel i j ≤ k.length := by
    intro fuel
    induction fuel with
    | zero => intro i j h1 h2; unfold bsGo; omega
    | succ n ih =>
      intro i j h1 h2
      unfold bsGo
      split
      · split
        · exact ih _ _ (by omega) h2
        · exact ih _ _ (by omega) (by omega)
      · omega
  exact this _ _ _ (Nat.zero_le _) (Nat.le_refl _)
set_option maxHeartbeats 4000000 in
set_option maxRecDepth 1000000 in
theorem add166 {w : World} {lo wb : Nat} {vk vf vs : Value} {eb : TypeId} {csk : List Value} {obk : Option Nat} {k : List Tm} {F : Fz} (hF : FzOk F w) (hlo : ∀ b k u, F b k = some u → b < lo) (hle : lo ≤ w.heap.size)
    (hbox : w.heap[wb]? = some (.cells #[vk, vf, vs] eb (0, 0))) (hwb : lo ≤ wb) (hk : SlO w lo vk csk obk 0 k.length) (hq : QT F k csk) (hne : obk ≠ some wb) (hks : Tm.smalls k) (hn : k.length ≤ 1000000)
    {t : Tm} (ht : t.small) {xi yi : Int} {z : Value} (htv : TV F t xi yi z) :
    Calls Try.prog 166 #[.pointer (some ⟨wb, 0, none⟩), .agg #[.int .i64 xi, .int .i64 yi, z]] w fun e w' => e = .returned (.bool (!bsF k t)) ∧
      ∃ vk' csk' obk', w'.heap[wb]? = some (.cells #[vk', vf, vs] eb (0, 0)) ∧ SlO w' lo vk' csk' obk' 0 (addK k t).length ∧ QT F (addK k t) csk' ∧ Wx w w' (fun b => wb = b ∨ obk = some b) ∧ (∀ b, obk' = some b → obk = some b ∨ w.heap.size ≤ b) := by
  have mixed := mixed
  have hlt : wb < w.heap.size := (Array.getElem?_eq_some_iff.1 hbox).1
  obtain ⟨i, hi⟩ : ∃ i : Nat, bsI k t = i := ⟨_, rfl⟩
  obtain ⟨b, hb⟩ : ∃ b, bsF k t = b := ⟨_, rfl⟩
  have hqt := htv.qt
  obtain ⟨za, zl, zc, rfl⟩ : ∃ za zl zc, z = .slice za zl zc := by cases htv; exact ⟨_, _, _, rfl⟩
  have hcell : ∀ {W : World} {c : Array Value} {e : TypeId} {bk j : Nat} {v : Value}, W.heap[bk]? = some (.cells c e (0, 0)) → c[j]? = some v → W.cell? ⟨bk, j, none⟩ = some v := fun {W c e bk j v} h1 h2 => by
    rw [cell_of_row W bk j c e (0, 0) h1]; exact h2
  go_enter Try.func166, Try.ntmps166
  go_wp2
  obtain ⟨tb, htb⟩ : ∃ tb, tb = w.heap.size := ⟨_, rfl⟩
  have hnew : (w.alloc (Obj.cells #[.int .i64 xi, .int .i64 yi, .slice za zl zc] 25)).heap[tb]? = some (.cells #[.int .i64 xi, .int .i64 yi, .slice za zl zc] 25 (0, 0)) := by rw [htb]; exact World.alloc_heap_new w _
  rw [← htb]
  have htblt : w.heap.size ≤ tb := by omega
  clear htb
  generalize hW : w.alloc (Obj.cells #[.int .i64 xi, .int .i64 yi, .slice za zl zc] 25) = W at hnew ⊢
  have hWx : Wx w W (fun _ => False) := by rw [← hW]; exact Wx.alloc _ _ _
  clear hW
  have hboxW := hWx.get hbox (fun h => h)
  have hk1 : W.cell? ⟨wb, 0, none⟩ = some vk := hcell hboxW rfl
  have hc0 : W.cell? ⟨tb, 0, none⟩ = some (.int .i64 xi) := hcell hnew rfl
  have hc1 : W.cell? ⟨tb, 1, none⟩ = some (.int .i64 yi) := hcell hnew rfl
  have hc2 : W.cell? ⟨tb, 2, none⟩ = some (.slice za zl zc) := hcell hnew rfl
  have hFW : FzOk F W.drew := FzOk.wx hF hlo (hWx.step (Wx.drew W (fun _ => False)) fun _ h => h.elim) (fun _ h => h.elim) hle
  have hkW : SlO W.drew lo vk csk obk 0 k.length := hk.wx (hWx.step (Wx.drew W (fun _ => False)) fun _ h => h.elim) (fun _ _ h => h)
  have H := bs_calls hFW hlo hkW hq hks hn ht htv
  rw [hi, hb] at H
  refine cutK (K' := fun a w' => a = ⟨#[.pointer (some ⟨wb, 0, none⟩), .agg #[.int .i64 xi, .int .i64 yi, .slice za zl zc], undef, .pointer (some ⟨tb, 0, none⟩), .bool false, .int .i64 i, .bool b, .tuple #[.int .i64 i, .bool b],
     .pointer (some ⟨wb, 0, none⟩), .pointer (some ⟨wb, 0, none⟩), vk, .agg #[.int .i64 xi, .int .i64 yi, .slice za zl zc], .tuple #[.int .i64 i, .bool b], .int .i64 i, .bool b, undef, undef, undef, undef, undef, undef, undef, undef, undef, undef, undef, undef, undef], []⟩ ∧ Wx W w' (fun _ => False)) ?_ ?_
  · clear hFW hkW hcell hF hlo hk hq hks ht htv hqt hnew hboxW hbox hne hi hb hle hwb hn
    go_region_with (refine H.mono ?_; rintro e w' ⟨rfl, hw'⟩)
    all_goals exact ⟨rfl, (Wx.drew W _).step hw' fun _ h => h.elim⟩
  rintro _ w1 ⟨rfl, hw1⟩
  clear H hFW hkW hk1 hc0 hc1 hc2
  have hwx1 : Wx w w1 (fun _ => False) := hWx.step hw1 fun _ h => h.elim
  have hnew1 := hw1.get hnew (fun h => h)
  have hbox1 := hw1.get hboxW (fun h => h)
  clear hnew hboxW hw1 hWx
  cases b with
  | true =>
    go_wp2
    go_ret
    rw [hb]
    refine ⟨rfl, ?_⟩
    have hK : addK k t = k := by unfold addK; rw [hb]; rfl
    rw [hK]
    exact ⟨vk, csk, obk, hbox1, hk.wx hwx1 (fun _ _ h => h), hq, hwx1.sub fun _ h => h.elim, fun b h => .inl h⟩
  | false =>
    have hib : i ≤ k.length := by rw [← hi]; exact bsI_le k t hb
    have hK : addK k t = insAt k i t := by unfold addK; rw [hb, hi]; rfl
    go_wp2
    have hk1 : w1.cell? ⟨wb, 0, none⟩ = some vk := hcell hbox1 rfl
    have hc0 : w1.cell? ⟨tb, 0, none⟩ = some (.int .i64 xi) := hcell hnew1 rfl
    have hc1 : w1.cell? ⟨tb, 1, none⟩ = some (.int .i64 yi) := hcell hnew1 rfl
    have hc2 : w1.cell? ⟨tb, 2, none⟩ = some (.slice za zl zc) := hcell hnew1 rfl
    obtain ⟨W2, hW2⟩ : ∃ W2, W2 = (w1.alloc (Obj.cells #[.int .i64 xi, .int .i64 yi, .slice za zl zc] 25)).drew := ⟨_, rfl⟩
    have hx2 : Wx w1 W2 (fun _ => False) := by rw [hW2]; exact (Wx.alloc _ _ _).trans (Wx.drew _ _)
    have hn2 : W2.heap[w1.heap.size]? = some (.cells #[.int .i64 xi, .int .i64 yi, .slice za zl zc] 25 (0, 0)) := by rw [hW2]; exact World.alloc_heap_new w1 _
    have hwx2 : Wx w W2 (fun _ => False) := hwx1.step hx2 fun _ h => h.elim
    have hk2 := hk.wx hwx2 (fun _ _ h => h)
    have hbox2 := hx2.get hbox1 (fun h => h)
    have hneb : obk ≠ some w1.heap.size := fun e => by
      subst e
      have := hk.lt
      have := hwx1.size
      omega
    have H := SlO.ins (vc := 1) hk2 (Nat.le_trans hle hwx2.size) hib hn hn2 (vs := [.int .i64 xi, .int .i64 yi, .slice za zl zc]) rfl (fun j x hj => by simpa using hj) hneb hq.one hqt.one
    rw [hW2] at H
    have hfin : ∀ (w' : World) (b' c' : Nat), SlO w' lo (.slice (some ⟨b', 0, none⟩) (k.length + 1) c') (csk.take (i * 3) ++ [.int .i64 xi, .int .i64 yi, .slice za zl zc] ++ csk.drop (i * 3)) (some b') 0 (k.length + 1) → Wx W2 w' (fun b => obk = some b) → (obk = some b' ∨ W2.heap.size ≤ b') →
        ∃ vk' csk' obk', (w'.setCell ⟨wb, 0, none⟩ (.slice (some ⟨b', 0, none⟩) (k.length + 1) c')).heap[wb]? = some (.cells #[vk', vf, vs] eb (0, 0)) ∧ SlO (w'.setCell ⟨wb, 0, none⟩ (.slice (some ⟨b', 0, none⟩) (k.length + 1) c')) lo vk' csk' obk' 0 (addK k t).length ∧ QT F (addK k t) csk' ∧
          Wx w (w'.setCell ⟨wb, 0, none⟩ (.slice (some ⟨b', 0, none⟩) (k.length + 1) c')) (fun b => wb = b ∨ obk = some b) ∧ (∀ b, obk' = some b → obk = some b ∨ w.heap.size ≤ b) := by
      intro w' b' c' hS hw' hb'
      have hbox' := hw'.get hbox2 (fun h => hne h)
      obtain ⟨q1, q2⟩ := setCell_row hbox' 0 (.slice (some ⟨b', 0, none⟩) (k.length + 1) c')
      have hbne : b' ≠ wb := fun e => by
        subst e
        rcases hb' with h | h
        · exact hne h
        · have := hwx2.size; omega
      refine ⟨_, csk.take (i * 3) ++ [.int .i64 xi, .int .i64 yi, .slice za zl zc] ++ csk.drop (i * 3), some b', q1, ?_, ?_, ?_, ?_⟩
      · rw [hK, insAt_len]
        exact hS.wx q2 fun x hx e => by simp only [Option.some.injEq] at hx; omega
      · rw [hK]
        unfold insAt
        have := (QT.app (QT.app (hq.take i) hqt) (hq.drop i))
        rw [List.append_assoc] at this
        exact this
      · exact ((hwx2.sub fun _ h => h.elim).step hw' fun x hx => .inl (.inr hx)).step q2 fun x hx => .inl (.inl hx)
      · intro x hx
        simp only [Option.some.injEq] at hx; subst hx
        rcases hb' with h | h
        · exact .inl h
        · have := hwx2.size; exact .inr (by omega)
    obtain ⟨PP, hPP⟩ : ∃ PP : World → Nat → Nat → Prop, PP = fun w' b' c' => SlO w' lo (.slice (some ⟨b', 0, none⟩) (k.length + 1) c') (csk.take (i * 3) ++ [.int .i64 xi, .int .i64 yi, .slice za zl zc] ++ csk.drop (i * 3)) (some b') 0 (k.length + 1) ∧ Wx W2 w' (fun b => obk = some b) ∧ (obk = some b' ∨ W2.heap.size ≤ b') := ⟨_, rfl⟩
    have H' : Calls Try.prog 190 #[vk, .int .i64 i, .slice (some ⟨w1.heap.size, 0, none⟩) 1 1] (w1.alloc (Obj.cells #[.int .i64 xi, .int .i64 yi, .slice za zl zc] 25)).drew fun e w' => ∃ b' c', e = .returned (.slice (some ⟨b', 0, none⟩) (k.length + 1) c') ∧ PP w' b' c' := by
      refine H.mono ?_
      rintro e w' ⟨v', b', rfl, hS, hw', hb'⟩
      obtain ⟨c', rfl⟩ := hS.shape
      rw [hPP, hW2]
      exact ⟨b', c', rfl, hS, hw', hb'⟩
    have hwk : ∀ (w' : World) (b' c' : Nat), PP w' b' c' → w'.cell? ⟨wb, 0, none⟩ = some vk ∧ w'.frozen? ⟨wb, 0, none⟩ = false := fun w' b' c' hp => by
      rw [hPP] at hp
      have hbox' := hp.2.1.get hbox2 (fun h => hne h)
      exact ⟨hcell hbox' rfl, frozen_no hbox' 0⟩
    have hfin' : ∀ (w' : World) (b' c' : Nat), PP w' b' c' → _ := fun w' b' c' hp => by
      rw [hPP] at hp
      exact hfin w' b' c' hp.1 hp.2.1 hp.2.2
    clear hPP
    have hk1a : (w1.alloc (Obj.cells #[.int .i64 xi, .int .i64 yi, .slice za zl zc] 25)).cell? ⟨wb, 0, none⟩ = some vk := by
      rw [World.cell?_alloc_past _ wb 0 (Array.getElem?_eq_some_iff.1 hbox1).1]; exact hk1
    refine cutK (K' := fun a w' => (a.defers = [] ∧ a.tmps.size = 28 ∧ a.tmps[4]? = some (.bool false) ∧ a.tmps[6]? = some (.bool false)) ∧
       ∃ vk' csk' obk', w'.heap[wb]? = some (.cells #[vk', vf, vs] eb (0, 0)) ∧ SlO w' lo vk' csk' obk' 0 (addK k t).length ∧ QT F (addK k t) csk' ∧ Wx w w' (fun b => wb = b ∨ obk = some b) ∧ (∀ b, obk' = some b → obk = some b ∨ w.heap.size ≤ b)) ?_ ?_
    · clear hcell hfin hwb hne hib hi hb hK hn hle hbox hk hq hks ht htv hqt hbox1 hnew1 hx2 hwx2 hk2 hbox2 hneb hn2 hF hlo H hW2
      refine cutK (K' := fun a w' => (a.defers = [] ∧ a.tmps.size = 28 ∧ a.tmps[4]? = some (.bool false) ∧ a.tmps[6]? = some (.bool false)) ∧ ∃ b' c' w9, PP w9 b' c' ∧ w' = w9.setCell ⟨wb, 0, none⟩ (.slice (some ⟨b', 0, none⟩) (k.length + 1) c')) ?_ ?_
      · clear hfin'
        go_region_with (refine H'.mono ?_; rintro e w' ⟨b', c', rfl, hp⟩; have hk9 := (hwk w' b' c' hp).1; have hf9 := (hwk w' b' c' hp).2)
        all_goals exact ⟨⟨rfl, rfl, rfl, rfl⟩, b', c', w', hp, rfl⟩
      · rintro a w' ⟨hy, b', c', w9, hp, rfl⟩
        exact ⟨hy, hfin' w9 b' c' hp⟩
    rintro a w' ⟨⟨y0, y1, y2, y3⟩, hp⟩
    obtain ⟨tm, df⟩ := a
    simp only at y0 y1 y2 y3
    subst y0
    obtain ⟨y, rfl⟩ := arr28 y1
    have y2 : y 4 = .bool false := by simpa using y2
    have y3 : y 6 = .bool false := by simpa using y3
    go_wp2
    go_ret
    rw [hb]
    exact ⟨rfl, hp⟩
end Go.Proofs.Ytgiciiknagelhaa
set_option linter.unusedVariables false
namespace Go.Proofs.Ytgiciiknagelhaa
open Go.VM Go.Lib Go.RowKit Go.Shelf
theorem rounds_ind {P : Program} {c : Code} {Q : Exit → Act → World → Prop} (I : Nat → Act → World → Prop) (h0 : ∀ a w, ¬ I 0 a w) (hs : ∀ m a w, I (m + 1) a w → c.wp P (Exit.then (I m) Q) a w) : ∀ m a w, I m a w → Code.rounds P c Q m a w
  | 0, a, w, h => absurd h (h0 a w)
  | m + 1, a, w, h => by
    rw [rounds_succ]
    exact cutK (hs m a w h) fun a w k => rounds_ind I h0 hs m a w k
theorem slTV {F : Fz} {ts : List Tm} {a : Option Addr} {len cap : Nat} (h : RelD F (.sl (ts.map Tm.row)) (.slice a len cap)) {i : Nat} {t : Tm} (hi : ts[i]? = some t) :
    ∃ b o, a = some ⟨b, o, none⟩ ∧ ∃ ov vv z, TV F t ov vv z ∧ F b (o + i * 3) = some (.int .i64 ov) ∧ F b (o + i * 3 + 1) = some (.int .i64 vv) ∧ F b (o + i * 3 + 2) = some z := by
  obtain ⟨o', v', us⟩ := t
  cases h with
  | sl _ _ _ _ sz u hlen hcap hmax hrow hb hr =>
  have hlt := (List.getElem?_eq_some_iff.1 hi).1
  obtain ⟨b, o, rfl, hF⟩ := hb (fun e => by rw [List.map_eq_nil_iff] at e; subst e; simp at hlt)
  have hrw : (ts.map Tm.row)[i]? = some (Tm.mk o' v' us).row := by rw [List.getElem?_map, hi]; rfl
  have hsz : sz = 3 := (hrow i _ hrw).symm.trans (row_len _)
  subst hsz
  have g : ∀ j c, j < 3 → (Tm.mk o' v' us).row[j]? = some c → ∃ x, F b (o + i * 3 + j) = some x ∧ RelD F c x := fun j c hj hc => by
    refine ⟨u i j, ?_, hr i j _ c hrw hc⟩
    rw [Nat.add_assoc]
    exact hF i j (by rw [List.length_map]; exact hlt) hj
  obtain ⟨x, hx, rx⟩ := g 0 (I o') (by omega) rfl
  obtain ⟨y, hy, ry⟩ := g 1 (I v') (by omega) rfl
  obtain ⟨z, hz, rz⟩ := g 2 (.sl (Tm.rows us)) (by omega) rfl
  cases rx with
  | lit _ _ =>
  cases ry with
  | lit _ _ =>
  cases rz with
  | sl _ a len cap sz u hlen hcap hmax hrow hb hr =>
  exact ⟨b, o, rfl, o', v', _, .mk (.sl _ a len cap sz u hlen hcap hmax hrow hb hr) (by rw [hlen, rows_len]) hcap hmax, hx, hy, hz⟩
structure Wd (F : Fz) (lo wb : Nat) (eb : TypeId) (vs : Value) (w : World) (k f : List Tm) (obk obf : Option Nat) : Prop where
  fz : FzOk F w
  sz : lo ≤ w.heap.size
  ex : ∃ vk vf csk csf o, w.heap[wb]? = some (.cells #[vk, vf, vs] eb (0, 0)) ∧ SlO w lo vk csk obk 0 k.length ∧ QT F k csk ∧ SlO w lo vf csf obf o f.length ∧ QT F f csf
  k1 : obk ≠ some wb
  f1 : obf ≠ some wb
  kf : ∀ b, obk = some b → obf ≠ some b
theorem SlO.lt' {w : World} {lo : Nat} {v : Value} {cs : List Value} {ob : Option Nat} {o n : Nat} (h : SlO w lo v cs ob o n) : ∀ b, ob = some b → lo ≤ b ∧ b < w.heap.size := fun b hb => by subst hb; exact h.lt
theorem SlO.val {w : World} {lo : Nat} {v : Value} {cs : List Value} {ob : Option Nat} {o n : Nat} (h : SlO w lo v cs ob o n) : ∃ a c, v = .slice a n c := by
  cases h with
  | nil => exact ⟨_, _, rfl⟩
  | «at» => exact ⟨_, _, rfl⟩
theorem Wd.wx {F : Fz} {lo wb : Nat} {eb : TypeId} {vs : Value} {w w' : World} {k f : List Tm} {obk obf : Option Nat} (h : Wd F lo wb eb vs w k f obk obf) (hlo : ∀ b k u, F b k = some u → b < lo) (hw : Wx w w' (fun _ => False)) : Wd F lo wb eb vs w' k f obk obf := by
  obtain ⟨h1, h2, ⟨vk, vf, csk, csf, o, e1, e2, e3, e4, e5⟩, h4, h5, h6⟩ := h
  exact ⟨FzOk.wx h1 hlo hw (fun _ h => h.elim) h2, Nat.le_trans h2 hw.size, ⟨vk, vf, csk, csf, o, hw.get e1 (fun h => h), e2.wx hw (fun _ _ h => h), e3, e4.wx hw (fun _ _ h => h), e5⟩, h4, h5, h6⟩
theorem add166W {F : Fz} {lo wb : Nat} {eb : TypeId} {vs : Value} {w : World} {k f : List Tm} {obk obf : Option Nat} (h : Wd F lo wb eb vs w k f obk obf) (hlo : ∀ b k u, F b k = some u → b < lo) (hwb : lo ≤ wb) (hks : Tm.smalls k) (hn : k.length ≤ 1000000)
    {t : Tm} (ht : t.small) {xi yi : Int} {z : Value} (htv : TV F t xi yi z) :
    Calls Try.prog 166 #[.pointer (some ⟨wb, 0, none⟩), .agg #[.int .i64 xi, .int .i64 yi, z]] w fun e w' => e = .returned (.bool (!bsF k t)) ∧
      ∃ obk', Wd F lo wb eb vs w' (addK k t) f obk' obf ∧ Wx w w' (fun b => wb = b ∨ obk = some b) ∧ (∀ b, obk' = some b → obk = some b ∨ w.heap.size ≤ b) := by
  obtain ⟨h1, h2, ⟨vk, vf, csk, csf, o, e1, e2, e3, e4, e5⟩, h4, h5, h6⟩ := h
  refine (add166 h1 hlo h2 e1 hwb e2 e3 h4 hks hn ht htv).mono ?_
  rintro e w' ⟨rfl, vk', csk', obk', q1, q2, q3, q4, q5⟩
  refine ⟨rfl, obk', ⟨FzOk.wx h1 hlo q4 (fun b hb => ?_) h2, Nat.le_trans h2 q4.size, ⟨vk', vf, csk', csf, o, q1, q2, q3, e4.wx q4 (fun b hb hT => ?_), e5⟩, ?_, h5, ?_⟩, q4, q5⟩
  · rcases hb with rfl | hb
    · exact hwb
    · exact (e2.lt' b hb).1
  · rcases hT with rfl | hT
    · exact h5 hb
    · exact h6 b hT hb
  · intro e
    rcases q5 _ e with q | q
    · exact h4 q
    · have := (Array.getElem?_eq_some_iff.1 e1).1; omega
  · intro b hb e
    rcases q5 _ hb with q | q
    · exact h6 b q e
    · have := (e4.lt' b e).2; omega
end Go.Proofs.Ytgiciiknagelhaa
set_option linter.unusedVariables false
namespace Go.Proofs.Ytgiciiknagelhaa
open Go.VM Go.Lib Go.RowKit Go.Shelf
theorem step_append_runI {P : Program} {ops : Array Oper} {o : Oper} {a : Act} {w : World} {K : Act → World → Prop} {Q : Exit → Act → World → Prop} {E : Prop}
    (hg : o.guard = none) (d x : Operand) (dT sT : TypeId) (hop : o.op = Op.call { callee := Callee.builtin Builtin.append, args := #[d, x], argTypes := #[dT, sT] })
    (v u : Value) (hd : a.eval d = v) (hx : a.eval x = u) {v' : Value} {w' : World} (hr : (Builtin.append_ #[dT, sT] o.type #[v, u]).run P w = .ok v' w') (hK : K (a.put o.dst v') w') :
    if Region.wanted o (yielded ops a.tmps) = true then Oper.wp P o a w K Q else E := by
  have hw : Region.wanted o (yielded ops a.tmps) = true := by simp [Region.wanted, hg]
  rw [if_pos hw]
  unfold Oper.wp
  simp [execOp, hop, resolve, invoke, builtin, hd, hx, hr, Result.andThen]
  exact hK
abbrev zW (w : World) : World := w.alloc (Obj.cells #[.int .i64 0, .int .i64 0, .slice none 0 0] 25)
def endA (W1 : World) (wb jq b1 p : Nat) (x y z v1 : Value) : World := (((W1.setCell ⟨b1, p, none⟩ x).setCell ⟨b1, p + 1, none⟩ y).setCell ⟨b1, p + 2, none⟩ z).setCell ⟨wb, jq, none⟩ v1
def endB (W1 : World) (wb jq b1 p : Nat) (x y z v1 : Value) : World := (((W1.setCell ⟨wb, jq, none⟩ v1).setCell ⟨b1, p, none⟩ x).setCell ⟨b1, p + 1, none⟩ y).setCell ⟨b1, p + 2, none⟩ z
theorem app_gen {w : World} {lo wb jq : Nat} {eb : TypeId} {bx : Array Value} {vq : Value} {cs : List Value} {obq : Option Nat} {oq n : Nat} (hbox : w.heap[wb]? = some (.cells bx eb (0, 0))) (hj : bx[jq]? = some vq) (hq : SlO w lo vq cs obq oq n) (hne : obq ≠ some wb)
    (hle : lo ≤ w.heap.size) (hn : n ≤ 1000000) {x y z : Value} (h1 : ∀ v ∈ [x, y, z], v.oneCell' = true) :
    ∃ (base : Option Addr) (cap b1 o1 c1 : Nat) (W1 : World) (z0 z1 z2 : Value), vq = .slice base n cap ∧ (∀ ty, (Builtin.append_ #[23, 23] ty #[.slice base n cap, .slice (some ⟨w.heap.size, 0, none⟩) 1 1]).run Try.prog (zW w).drew = .ok (.slice (some ⟨b1, o1, none⟩) (n + 1) c1) W1) ∧
      b1 ≠ wb ∧ W1.cell? ⟨b1, o1 + n * 3, none⟩ = some z0 ∧ W1.cell? ⟨b1, o1 + n * 3 + 1, none⟩ = some z1 ∧ W1.cell? ⟨b1, o1 + n * 3 + 2, none⟩ = some z2 ∧ (∀ j, W1.frozen? ⟨b1, j, none⟩ = false) ∧
      W1.cell? ⟨wb, jq, none⟩ = some (.slice base n cap) ∧ (∀ j, W1.frozen? ⟨wb, j, none⟩ = false) ∧ (obq = some b1 ∨ w.heap.size ≤ b1) ∧
      ∀ WE, (WE = endA W1 wb jq b1 (o1 + n * 3) x y z (.slice (some ⟨b1, o1, none⟩) (n + 1) c1) ∨ WE = endB W1 wb jq b1 (o1 + n * 3) x y z (.slice (some ⟨b1, o1, none⟩) (n + 1) c1)) →
        WE.heap[wb]? = some (.cells (bx.setIfInBounds jq (.slice (some ⟨b1, o1, none⟩) (n + 1) c1)) eb (0, 0)) ∧ SlO WE lo (.slice (some ⟨b1, o1, none⟩) (n + 1) c1) (cs ++ [x, y, z]) (some b1) o1 (n + 1) ∧ Wx w WE (fun b => wb = b ∨ obq = some b) := by
  obtain ⟨base, cap, rfl⟩ := hq.val
  have hxW : Wx w (zW w).drew (fun _ => False) := (Wx.alloc w _ _).trans (Wx.drew _ _)
  have hqW := hq.wx hxW (fun _ _ h => h)
  have hnW : (zW w).drew.heap[w.heap.size]? = some (.cells #[.int .i64 0, .int .i64 0, .slice none 0 0] 25 (0, 0)) := World.alloc_heap_new w _
  obtain ⟨b1, o1, c1, W1, r1, r2, r3, r4⟩ := hqW.appG (vc := 1) (Nat.le_trans hle hxW.size) hn hnW (vs := [.int .i64 0, .int .i64 0, .slice none 0 0]) rfl (fun j x hj => by simpa using hj) (by decide)
  have hl := hq.len
  have hltw := (Array.getElem?_eq_some_iff.1 hbox).1
  have hb1 : b1 ≠ wb := fun e => by
    subst e
    rcases r4 with h | h
    · exact hne h
    · have := hxW.size; omega
  have hbox1 : W1.heap[wb]? = some (.cells bx eb (0, 0)) := r3.get (hxW.get hbox (fun h => h)) (fun h => hne h)
  have hcl : (cs ++ [Value.int .i64 0, .int .i64 0, .slice none 0 0]).length = n * 3 + 3 := by rw [List.length_append, hl]; rfl
  have hg : ∀ j, j < 3 → (cs ++ [Value.int .i64 0, .int .i64 0, .slice none 0 0])[n * 3 + j]? = [Value.int .i64 0, .int .i64 0, .slice none 0 0][j]? := fun j hj => by
    rw [List.getElem?_append_right (by omega)]; congr 1; omega
  have c0 := r2.cell (hg 0 (by omega))
  have c1' := r2.cell (hg 1 (by omega))
  have c2 := r2.cell (hg 2 (by omega))
  have hnb : w.heap.size ≤ b1 ∨ obq = some b1 := by
    rcases r4 with h | h
    · exact .inr h
    · have := hxW.size; exact .inl (by omega)
  have hwx1 : Wx w W1 (fun b => wb = b ∨ obq = some b) := (hxW.sub fun _ h => h.elim).step r3 fun x hx => .inl (.inr hx)
  have etk : (cs ++ [Value.int .i64 0, .int .i64 0, .slice none 0 0]).take (n * 3) = cs := by rw [List.take_append_of_le_length (by omega), List.take_of_length_le (by omega)]
  have edr : (cs ++ [Value.int .i64 0, .int .i64 0, .slice none 0 0]).drop ((n + 1) * 3) = [] := List.drop_of_length_le (by omega)
  refine ⟨base, cap, b1, o1, c1, W1, _, _, _, rfl, r1, hb1, c0, c1', c2, ?_, ?_, frozen_no hbox1, hnb.symm, ?_⟩
  · cases r2 with
    | «at» hb hh => exact frozen_no hh
  · rw [cell_of_row W1 wb _ _ eb (0, 0) hbox1]; exact hj
  · rintro WE (rfl | rfl)
    · obtain ⟨q1, q2, _⟩ := r2.put (m := n) (by omega) (vs := [x, y, z]) rfl h1
      rw [etk, edr, List.append_nil] at q1
      have hbox2 := q2.get hbox1 (fun h => hb1 h)
      obtain ⟨p1, p2⟩ := setCell_row hbox2 jq (.slice (some ⟨b1, o1, none⟩) (n + 1) c1)
      refine ⟨p1, q1.wx p2 (fun x hx e => ?_), (hwx1.step q2 fun x hx => ?_).step p2 fun x hx => .inl (.inl hx)⟩
      · simp only [Option.some.injEq] at hx; omega
      · subst hx; exact hnb.symm.imp .inr id
    · obtain ⟨p1, p2⟩ := setCell_row hbox1 jq (.slice (some ⟨b1, o1, none⟩) (n + 1) c1)
      have r2' := r2.wx p2 (fun x hx e => by simp only [Option.some.injEq] at hx; omega)
      obtain ⟨q1, q2, _⟩ := r2'.put (m := n) (by omega) (vs := [x, y, z]) rfl h1
      rw [etk, edr, List.append_nil] at q1
      refine ⟨q2.get p1 (fun h => hb1 h), q1, (hwx1.step p2 fun x hx => .inl (.inl hx)).step q2 fun x hx => ?_⟩
      subst hx; exact hnb.symm.imp .inr id
end Go.Proofs.Ytgiciiknagelhaa
set_option linter.unusedVariables false
namespace Go.Proofs.Ytgiciiknagelhaa
open Go.VM Go.Lib Go.RowKit Go.Shelf
theorem arr32 {t : Array Value} (h : t.size = 32) : ∃ y : Nat → Value, t = #[y 0, y 1, y 2, y 3, y 4, y 5, y 6, y 7, y 8, y 9, y 10, y 11, y 12, y 13, y 14, y 15, y 16, y 17, y 18, y 19, y 20, y 21, y 22, y 23, y 24, y 25, y 26, y 27, y 28, y 29, y 30, y 31] := by
  refine ⟨fun j => t.getD j undef, ?_⟩
  obtain ⟨l⟩ := t
  match l, h with
  | [a0, a1, a2, a3, a4, a5, a6, a7, a8, a9, a10, a11, a12, a13, a14, a15, a16, a17, a18, a19, a20, a21, a22, a23, a24, a25, a26, a27, a28, a29, a30, a31], _ => rfl
def S96 (p lv : Value) (mo : Bool) (len i : Int) (a : Act) : Prop := a.defers = [] ∧ a.tmps.size = 32 ∧ a.tmps[0]? = some p ∧ a.tmps[1]? = some lv ∧ a.tmps[4]? = some (.bool false) ∧ a.tmps[5]? = some (.bool mo) ∧ a.tmps[8]? = some lv ∧ a.tmps[9]? = some (.int .i64 len) ∧ a.tmps[10]? = some (.int .i64 i)
theorem S96.ex {p lv : Value} {mo : Bool} {len i : Int} {a : Act} (h : S96 p lv mo len i a) : ∃ y : Nat → Value, a = ⟨#[p, lv, y 2, y 3, .bool false, .bool mo, y 6, y 7, lv, .int .i64 len, .int .i64 i, y 11, y 12, y 13, y 14, y 15, y 16, y 17, y 18, y 19, y 20, y 21, y 22, y 23, y 24, y 25, y 26, y 27, y 28, y 29, y 30, y 31], []⟩ := by
  obtain ⟨g0, g1, g2, g3, g4, g5, g6, g7, g8⟩ := h
  obtain ⟨tm, df⟩ := a
  simp only at g0 g1 g2 g3 g4 g5 g6 g7 g8
  subst g0
  obtain ⟨y, rfl⟩ := arr32 g1
  simp only [List.getElem?_toArray, List.getElem?_cons_succ, List.getElem?_cons_zero, Option.some.injEq] at g2 g3 g4 g5 g6 g7 g8
  exact ⟨y, by rw [g2, g3, g4, g5, g6, g7, g8]⟩
theorem drop_cons {α : Type} {l : List α} {i : Nat} {t : α} (h : l[i]? = some t) : l.drop i = t :: l.drop (i + 1) := by
  have hlt := (List.getElem?_eq_some_iff.1 h).1
  rw [List.drop_eq_getElem_cons hlt, (List.getElem?_eq_some_iff.1 h).2]
theorem smalls_at {l : List Tm} {i : Nat} {t : Tm} (h : Tm.smalls l) (ht : l[i]? = some t) : t.small := by
  have := smalls_getD i h
  rw [List.getD_eq_getElem?_getD, ht] at this
  exact this
theorem addT_k (st : Wst) (t : Tm) : (addT st t).k = addK st.k t := by
  unfold addT addK
  split <;> rfl
theorem addK_len (k : List Tm) (t : Tm) : k.length ≤ (addK k t).length := by
  unfold addK
  split
  · exact Nat.le_refl _
  · rw [insAt_len]; omega
theorem addL_len : ∀ (ls : List Tm) (st : Wst), st.k.length ≤ (addL st ls).k.length
  | [], st => Nat.le_refl _
  | t :: ls, st => by
    rw [addL]
    refine Nat.le_trans ?_ (addL_len ls _)
    rw [addT_k]; exact addK_len _ _
theorem smalls_app : ∀ {a b : List Tm}, Tm.smalls (a ++ b) ↔ Tm.smalls a ∧ Tm.smalls b
  | [], b => by simp [Tm.smalls]
  | t :: a, b => by rw [List.cons_append, Tm.smalls, Tm.smalls, smalls_app, and_assoc]
theorem addK_smalls {k : List Tm} {t : Tm} (hk : Tm.smalls k) (ht : t.small) : Tm.smalls (addK k t) := by
  unfold addK
  split
  · exact hk
  · unfold insAt
    have h : Tm.smalls (k.take (bsI k t) ++ k.drop (bsI k t)) := by rw [List.take_append_drop]; exact hk
    rw [smalls_app] at h
    rw [smalls_app, Tm.smalls]
    exact ⟨h.1, ht, h.2⟩
set_option maxHeartbeats 8000000 in
set_option maxRecDepth 1000000 in
theorem add96 {F : Fz} {lo wb : Nat} {eb : TypeId} {vs : Value} {w : World} {st : Wst} {obk obf : Option Nat} (h : Wd F lo wb eb vs w st.k st.f obk obf) (hlo : ∀ b k u, F b k = some u → b < lo) (hwb : lo ≤ wb)
    {ls : List Tm} {a : Option Addr} {len cap : Nat} (hl : RelD F (.sl (ls.map Tm.row)) (.slice a len cap)) (hks : Tm.smalls st.k) (hls : Tm.smalls ls) (hN : (addL st ls).k.length ≤ 1000000) (hfk : st.f.length ≤ st.k.length) (hlen : len = ls.length) (hl63 : len ≤ 9223372036854775807) :
    Calls Try.prog 96 #[.pointer (some ⟨wb, 0, none⟩), .slice a len cap] w fun e w' => e = .returned (.bool (newL st ls)) ∧
      ∃ obk' obf', Wd F lo wb eb vs w' (addL st ls).k (addL st ls).f obk' obf' ∧ Wx w w' (fun b => wb = b ∨ obk = some b ∨ obf = some b) ∧ (∀ b, obk' = some b → obk = some b ∨ w.heap.size ≤ b) ∧ (∀ b, obf' = some b → obf = some b ∨ w.heap.size ≤ b) := by
  obtain ⟨hlen1, hlen2⟩ : len ≤ ls.length ∧ ls.length ≤ len := by omega
  clear hlen
  have mixed := mixed
  have hcell : ∀ {W : World} {c : Array Value} {e : TypeId} {bk j : Nat} {v : Value}, W.heap[bk]? = some (.cells c e (0, 0)) → c[j]? = some v → W.cell? ⟨bk, j, none⟩ = some v := fun {W c e bk j v} h1 h2 => by
    rw [cell_of_row W bk j c e (0, 0) h1]; exact h2
  obtain ⟨R, hR⟩ : ∃ R : Ending → World → Prop, R = fun e w' => e = .returned (.bool (newL st ls)) ∧
      ∃ obk' obf', Wd F lo wb eb vs w' (addL st ls).k (addL st ls).f obk' obf' ∧ Wx w w' (fun b => wb = b ∨ obk = some b ∨ obf = some b) ∧ (∀ b, obk' = some b → obk = some b ∨ w.heap.size ≤ b) ∧ (∀ b, obf' = some b → obf = some b ∨ w.heap.size ≤ b) := ⟨_, rfl⟩
  rw [← hR]
  go_enter Try.func96, Try.ntmps96
  go_wp2
  refine wp_loop_rounds (len + 1) ?_
  refine rounds_ind (I := fun m a' w' => ∃ (i : Nat) (st' : Wst) (mo : Bool) (obk' obf' : Option Nat), i + m = len + 1 ∧ i ≤ len ∧ S96 (.pointer (some ⟨wb, 0, none⟩)) (.slice a len cap) mo len i a' ∧
    Wd F lo wb eb vs w' st'.k st'.f obk' obf' ∧ Tm.smalls st'.k ∧ addL st' (ls.drop i) = addL st ls ∧ (mo || newL st' (ls.drop i)) = newL st ls ∧ st'.f.length ≤ st'.k.length ∧ Wx w w' (fun b => wb = b ∨ obk = some b ∨ obf = some b) ∧
    (∀ b, obk' = some b → obk = some b ∨ w.heap.size ≤ b) ∧ (∀ b, obf' = some b → obf = some b ∨ w.heap.size ≤ b)) ?_ ?_ _ _ _ ?_
  · rintro a' w' ⟨i, _, _, _, _, h1, h2, _⟩; omega
  · rintro m a' w' ⟨i, st', mo, obk', obf', hm, hil, hS, hW, hks', hadd, hnew, hfk', hwx, hnk, hnf⟩
    obtain ⟨y, rfl⟩ := hS.ex
    clear hS
    by_cases hi : i < len
    · obtain ⟨t, ht⟩ : ∃ t, ls[i]? = some t := ⟨_, List.getElem?_eq_getElem (by omega)⟩
      obtain ⟨lb, lf, rfl, xi, yi, z, htv, f0, f1, f2⟩ := slTV hl ht
      obtain ⟨za, zl, zc, rfl⟩ : ∃ za zl zc, z = .slice za zl zc := by cases htv; exact ⟨_, _, _, rfl⟩
      have c0 := hW.fz _ _ _ f0
      have c1 := hW.fz _ _ _ f1
      have c2 := hW.fz _ _ _ f2
      have hil2 : (i : Int) < (len : Int) := by omega
      have hil0 : (0 : Int) ≤ (i : Int) := by omega
      clear f0 f1 f2 hR
      go_wp2
      obtain ⟨tb, htb⟩ : ∃ tb, tb = w'.heap.size := ⟨_, rfl⟩
      have hnewb : (w'.alloc (Obj.cells #[.int .i64 xi, .int .i64 yi, .slice za zl zc] 25)).heap[tb]? = some (.cells #[.int .i64 xi, .int .i64 yi, .slice za zl zc] 25 (0, 0)) := by rw [htb]; exact World.alloc_heap_new w' _
      rw [← htb]
      have htblt : w'.heap.size ≤ tb := by omega
      clear htb
      generalize hWW : w'.alloc (Obj.cells #[.int .i64 xi, .int .i64 yi, .slice za zl zc] 25) = W at hnewb ⊢
      have hWx : Wx w' W (fun _ => False) := by rw [← hWW]; exact Wx.alloc _ _ _
      clear hWW c0 c1 c2
      have hc0 : W.cell? ⟨tb, 0, none⟩ = some (.int .i64 xi) := hcell hnewb rfl
      have hc1 : W.cell? ⟨tb, 1, none⟩ = some (.int .i64 yi) := hcell hnewb rfl
      have hc2 : W.cell? ⟨tb, 2, none⟩ = some (.slice za zl zc) := hcell hnewb rfl
      have hW2 := hW.wx hlo (hWx.step (Wx.drew W (fun _ => False)) fun _ h => h.elim)
      have htsm : t.small := smalls_at hls ht
      have hkN : (addK st'.k t).length ≤ 1000000 := by
        have := addL_len (ls.drop (i + 1)) (addT st' t)
        rw [drop_cons ht, addL] at hadd
        rw [hadd] at this
        rw [addT_k] at this
        omega
      have hkN0 : st'.k.length ≤ (addK st'.k t).length := addK_len _ _
      have H := add166W hW2 hlo hwb hks' (by omega) htsm htv
      obtain ⟨PP, hPP⟩ : ∃ PP : World → Prop, PP = fun w2 => ∃ obk2, Wd F lo wb eb vs w2 (addK st'.k t) st'.f obk2 obf' ∧ Wx W.drew w2 (fun b => wb = b ∨ obk' = some b) ∧ (∀ b, obk2 = some b → obk' = some b ∨ W.drew.heap.size ≤ b) := ⟨_, rfl⟩
      have H' : Calls Try.prog 166 #[.pointer (some ⟨wb, 0, none⟩), .agg #[.int .i64 xi, .int .i64 yi, .slice za zl zc]] W.drew fun e w' => e = .returned (.bool (!bsF st'.k t)) ∧ PP w' := by rw [hPP]; exact H
      refine cutK (K' := fun a w2 => (a.defers = [] ∧ a.tmps.size = 32 ∧ a.tmps[0]? = some (.pointer (some ⟨wb, 0, none⟩)) ∧ a.tmps[1]? = some (.slice (some ⟨lb, lf, none⟩) len cap) ∧ a.tmps[4]? = some (.bool false) ∧ a.tmps[5]? = some (.bool mo) ∧ a.tmps[7]? = some (.pointer (some ⟨tb, 0, none⟩)) ∧ a.tmps[8]? = some (.slice (some ⟨lb, lf, none⟩) len cap) ∧ a.tmps[9]? = some (.int .i64 len) ∧ a.tmps[10]? = some (.int .i64 i) ∧ a.tmps[18]? = some (.bool (!bsF st'.k t))) ∧ PP w2) ?_ ?_
      · clear hcell hadd hnew hfk' hwx hnk hnf hnewb hW2 htsm hkN hkN0 H hPP hW hks' hm hil hi ht hl htv hil2 hil0 htblt hWx h hlo hwb hks hls hN hfk hlen1 hlen2 hl63
        go_region_with (refine H'.mono ?_; rintro e w2 ⟨rfl, hp⟩)
        all_goals exact ⟨⟨rfl, rfl, rfl, rfl, rfl, rfl, rfl, rfl, rfl, rfl, rfl⟩, hp⟩
      rintro a2 w2 ⟨⟨g0, g1, g2, g3, g4, g5, g6, g7, g8, g9, g10⟩, hp⟩
      clear hc0 hc1 hc2 H H'
      rw [hPP] at hp
      clear hPP PP
      obtain ⟨obk2, hWd2, hwx2, hnk2⟩ := hp
      obtain ⟨tm, df⟩ := a2
      simp only at g0 g1 g2 g3 g4 g5 g6 g7 g8 g9 g10
      subst g0
      clear y
      obtain ⟨y, rfl⟩ := arr32 g1
      simp only [List.getElem?_toArray, List.getElem?_cons_succ, List.getElem?_cons_zero, Option.some.injEq] at g2 g3 g4 g5 g6 g7 g8 g9 g10
      rw [g2, g3, g4, g5, g6, g7, g8, g9, g10]
      obtain ⟨b, hb⟩ : ∃ b, bsF st'.k t = b := ⟨_, rfl⟩
      rw [hb]
      have hwx2' : Wx W w2 (fun b => wb = b ∨ obk' = some b) := (Wx.drew W _).step hwx2 fun x hx => .inl hx
      have hwx3 : Wx w w2 (fun b => wb = b ∨ obk = some b ∨ obf = some b) := (hwx.step hWx fun _ h => h.elim).step hwx2' fun x hx => by
        rcases hx with hx | hx
        · exact .inl (.inl hx)
        · rcases hnk x hx with q | q
          · exact .inl (.inr (.inl q))
          · exact .inr q
      have hnk3 : ∀ b, obk2 = some b → obk = some b ∨ w.heap.size ≤ b := fun b hb => by
        rcases hnk2 b hb with q | q
        · exact hnk b q
        · exact .inr (Nat.le_trans (hwx.step hWx fun _ h => h.elim).size q)
      have hks2 := addK_smalls hks' htsm
      rw [drop_cons ht, addL] at hadd
      rw [drop_cons ht, newL] at hnew
      cases b with
      | true =>
        have hK : addK st'.k t = st'.k := by unfold addK; rw [hb]; rfl
        have hT : addT st' t = st' := by unfold addT; rw [hb]; rfl
        rw [hK] at hWd2 hks2
        rw [hT] at hadd hnew
        rw [hb] at hnew
        go_wp2
        exact ⟨i + 1, st', mo, obk2, obf', by omega, by omega, ⟨rfl, rfl, rfl, rfl, rfl, rfl, rfl, rfl, rfl⟩, hWd2, hks2, hadd, hnew, hfk', hwx3, hnk3, hnf⟩
      | false =>
        have hT : addT st' t = ⟨addK st'.k t, st'.f ++ [t], st'.s⟩ := by unfold addT addK; rw [hb]; rfl
        rw [hT] at hadd hnew
        rw [hb] at hnew
        have htbw : w2.heap[tb]? = some (.cells #[.int .i64 xi, .int .i64 yi, .slice za zl zc] 25 (0, 0)) := by
          refine hwx2.get hnewb fun hx => ?_
          obtain ⟨_, _, ⟨vk, vf, csk, csf, oo, e1, e2, _⟩, _⟩ := hW
          rcases hx with hx | hx
          · subst hx
            have := (Array.getElem?_eq_some_iff.1 e1).1; omega
          · have := (e2.lt' tb hx).2; omega
        obtain ⟨p1, p2, ⟨vk, vf, csk, csf, oo, e1, e2, e3, e4, e5⟩, p4, p5, p6⟩ := hWd2
        have hq1 := htv.qt.one
        obtain ⟨base, fcap, b1, o1, c1, W1, z0, z1, z2, rfl, hrun, hb1, hd0, hd1, hd2, hdf, hdw, hdwf, hob, hend⟩ := app_gen (jq := 1) e1 rfl e4 p5 p2 (by omega) hq1
        obtain ⟨n, hn⟩ : ∃ n, st'.f.length = n := ⟨_, rfl⟩
        rw [hn] at hrun hd0 hd1 hd2 hdw hend
        have hw0 : w2.cell? ⟨wb, 1, none⟩ = some (.slice base n fcap) := by rw [← hn]; exact hcell e1 rfl
        have hltw : wb < w2.heap.size := (Array.getElem?_eq_some_iff.1 e1).1
        have hltt : tb < w2.heap.size := (Array.getElem?_eq_some_iff.1 htbw).1
        have hw0a : (w2.alloc (Obj.cells #[.int .i64 0, .int .i64 0, .slice none 0 0] 25)).cell? ⟨wb, 1, none⟩ = some (.slice base n fcap) := by rw [World.cell?_alloc_past _ wb 1 hltw]; exact hw0
        have ht0 : w2.cell? ⟨tb, 0, none⟩ = some (.int .i64 xi) := hcell htbw rfl
        have ht1 : w2.cell? ⟨tb, 1, none⟩ = some (.int .i64 yi) := hcell htbw rfl
        have ht2 : w2.cell? ⟨tb, 2, none⟩ = some (.slice za zl zc) := hcell htbw rfl
        have ht0a : (w2.alloc (Obj.cells #[.int .i64 0, .int .i64 0, .slice none 0 0] 25)).cell? ⟨tb, 0, none⟩ = some (.int .i64 xi) := by rw [World.cell?_alloc_past _ tb 0 hltt]; exact ht0
        have ht1a : (w2.alloc (Obj.cells #[.int .i64 0, .int .i64 0, .slice none 0 0] 25)).cell? ⟨tb, 1, none⟩ = some (.int .i64 yi) := by rw [World.cell?_alloc_past _ tb 1 hltt]; exact ht1
        have ht2a : (w2.alloc (Obj.cells #[.int .i64 0, .int .i64 0, .slice none 0 0] 25)).cell? ⟨tb, 2, none⟩ = some (.slice za zl zc) := by rw [World.cell?_alloc_past _ tb 2 hltt]; exact ht2
        have hnn : (n : Int) < (n : Int) + 1 := by omega
        have hb1' : wb ≠ b1 := fun e => hb1 e.symm
        go_wp2
        refine cutK (K' := fun a w3 => S96 (.pointer (some ⟨wb, 0, none⟩)) (.slice (some ⟨lb, lf, none⟩) len cap) mo len i a ∧ (w3 = endA W1 wb 1 b1 (o1 + n * 3) (.int .i64 xi) (.int .i64 yi) (.slice za zl zc) (.slice (some ⟨b1, o1, none⟩) (n + 1) c1) ∨ w3 = endB W1 wb 1 b1 (o1 + n * 3) (.int .i64 xi) (.int .i64 yi) (.slice za zl zc) (.slice (some ⟨b1, o1, none⟩) (n + 1) c1))) ?_ ?_
        · clear hn hend hob hltw hltt e1 e2 e3 e4 e5 p1 p2 p4 p5 p6 htbw hks2 hnk3 hwx3 hnk2 hwx2' hwx2 hT hb hadd hnew hcell hfk' hwx hnk hnf hnewb hW2 htsm hkN hkN0 hW hks' hm hil hi ht hl htv hil2 hil0 htblt hWx h hlo hwb hks hls hN hfk hlen1 hlen2 hl63 hq1
          go_region_law_o (refine step_append_runI rfl _ _ 23 23 rfl _ _ rfl rfl (hrun _) ?_)
          all_goals first
            | exact ⟨⟨rfl, rfl, rfl, rfl, rfl, rfl, rfl, rfl, rfl⟩, .inl rfl⟩
            | exact ⟨⟨rfl, rfl, rfl, rfl, rfl, rfl, rfl, rfl, rfl⟩, .inr rfl⟩
        rintro a3 w3 ⟨hS3, hw3⟩
        obtain ⟨f1', f2', f3'⟩ := hend w3 hw3
        clear hw0 hw0a ht0 ht1 ht2 ht0a ht1a ht2a hrun hd0 hd1 hd2 hdf hdw hdwf hend hb1'
        obtain ⟨y3, rfl⟩ := hS3.ex
        clear hS3 hw3
        have hle3 : lo ≤ w3.heap.size := Nat.le_trans p2 f3'.size
        have hlob : ∀ b, (wb = b ∨ obf' = some b) → lo ≤ b := fun b hb => by
          rcases hb with rfl | hb
          · exact hwb
          · exact (e4.lt' b hb).1
        have hWd3 : Wd F lo wb eb vs w3 (addK st'.k t) (st'.f ++ [t]) obk2 (some b1) := by
          refine ⟨FzOk.wx p1 hlo f3' hlob p2, hle3, ⟨vk, _, csk, _, o1, f1', e2.wx f3' (fun b hb hT => ?_), e3, by rw [List.length_append, hn]; exact f2', e5.app htv.qt⟩, p4, fun e => hb1 (by simpa using e), fun b hb e => ?_⟩
          · rcases hT with rfl | hT
            · exact p4 hb
            · exact p6 b hb hT
          · simp only [Option.some.injEq] at e; subst e
            rcases hob with q | q
            · exact p6 _ hb q
            · have := (e2.lt' _ hb).2; omega
        have hwx4 : Wx w w3 (fun b => wb = b ∨ obk = some b ∨ obf = some b) := hwx3.step f3' fun x hx => by
          rcases hx with hx | hx
          · exact .inl (.inl hx)
          · rcases hnf x hx with q | q
            · exact .inl (.inr (.inr q))
            · exact .inr q
        have hnf3 : ∀ b, (some b1 : Option Nat) = some b → obf = some b ∨ w.heap.size ≤ b := fun b hb => by
          simp only [Option.some.injEq] at hb; subst hb
          rcases hob with q | q
          · exact hnf _ q
          · exact .inr (Nat.le_trans hwx3.size q)
        clear hcell
        go_wp2
        refine ⟨i + 1, ⟨addK st'.k t, st'.f ++ [t], st'.s⟩, true, obk2, some b1, by omega, by omega, ⟨rfl, rfl, rfl, rfl, rfl, rfl, rfl, rfl, rfl⟩, hWd3, hks2, hadd, ?_, ?_, hwx4, hnk3, hnf3⟩
        · rw [← hnew]; simp
        · have hlk : (addK st'.k t).length = st'.k.length + 1 := by unfold addK; rw [hb]; exact insAt_len _ _ _
          simp only [List.length_append, List.length_singleton, hlk]; omega
    · have hie : i = len := by omega
      subst hie
      have hil2 : ¬ ((i : Int) < (i : Int)) := by omega
      rw [List.drop_of_length_le (by omega), addL] at hadd
      rw [List.drop_of_length_le (by omega), newL, Bool.or_false] at hnew
      have hfinal : R (.returned (.bool mo)) w' := by
        rw [hR, ← hadd, ← hnew]
        exact ⟨rfl, obk', obf', hW, hwx, hnk, hnf⟩
      clear hcell hadd hnew hR
      go_wp2
      all_goals first | exact hfinal | (go_ret; exact hfinal)
  · exact ⟨0, st, false, obk, obf, by omega, by omega, ⟨rfl, rfl, rfl, rfl, rfl, rfl, rfl, rfl, rfl⟩, h, hks, rfl, by simp, hfk, Wx.refl _ _, fun b hb => .inl hb, fun b hb => .inl hb⟩
end Go.Proofs.Ytgiciiknagelhaa
