/- The law DeduceOpens on the machine: it answers true. Conditions: none. -/
import Derived.Test.YtgiciiknagelhaaVe
import Derived.Test.YtgiciiknagelhaaDv8
set_option linter.unusedSimpArgs false
set_option linter.unusedVariables false
namespace Go.Proofs.Ytgiciiknagelhaa
open Go.VM Go.Lib Go.RowKit Go.Shelf
theorem callG {VP : VProg} (hP : CProg Try.prog VP) {f : FuncId} {args : List V} {r : V} (h : CV VP f args [] = some ⟨r, [], [], 0⟩) (hf : f < 1000000) (hr : r.ltb 0 = true) {F : Fz} {w : World} {xs : Array Value} (hF : FzOk F w) (hx : RelL (Gh.ofF F) args xs) :
    Calls Try.prog f xs w fun e w' => ∃ v F', e = .returned v ∧ F.le F' ∧ FzOk F' w' ∧ (∀ b o, b < w.heap.size → F' b o = F b o) ∧ RelV (Gh.ofF F') r v ∧ Wx w w' (fun _ => False) := by
  have hc := CV_sound hP (by kernel_rfl) f args [] _ h
  have hvc : VC Try.prog f args [] ⟨r, [], [], 0⟩ := hc.1 hf
  refine (hvc (Gh.ofF F) w xs hx (Rl.entryF hF)).mono ?_
  rintro e w' ⟨v, G', rfl, hv, hR⟩
  refine ⟨v, G'.F, rfl, hR.F0, hR.fz, hR.Fnew, ?_, ?_⟩
  · exact ltb0_rel hv hR.dep hR.gn hr
  · exact ⟨hR.wx.os, hR.wx.tape, hR.wx.output, hR.wx.size, fun b hb _ => hR.wx.block b hb fun ⟨i, hi, _⟩ => absurd hi (Nat.not_lt_zero _)⟩
theorem FzOk.wx2 {F : Fz} {w w' : World} {T : Nat → Prop} (h : FzOk F w) (hw : Wx w w' T) (hT : ∀ b o u, F b o = some u → ¬ T b) : FzOk F w' := fun b k u hu => by
  have hb : b < w.heap.size := h.lt hu
  rw [World.cell?_of_block (w := w) (hw.block b hb (hT b k u hu))]
  exact h b k u hu
theorem tm_ret {F : Fz} {t : Tm} {v : Value} (h : RelV (Gh.ofF F) t.ag v) : ∃ o x z, v = .agg #[.int .i64 o, .int .i64 x, z] ∧ TV F t o x z := by
  obtain ⟨o, x, us⟩ := t
  cases h with
  | @agg _ xs hl hs hr =>
    obtain ⟨l⟩ := xs
    match l, hl with
    | [a, b, c], _ =>
      have h0 := hr 0 _ _ rfl rfl
      have h1 := hr 1 _ _ rfl rfl
      have h2 := hr 2 _ _ rfl rfl
      cases h0 with
      | d h0 =>
      cases h0 with
      | lit _ _ =>
      cases h1 with
      | d h1 =>
      cases h1 with
      | lit _ _ =>
      cases h2 with
      | d h2 =>
      rw [show (Tm.mk o x us).args = us from rfl, ← Tm.rows_eq] at h2
      cases h2 with
      | sl _ a len cap sz u hlen hcap hmax hrow hb hr2 =>
      exact ⟨o, x, _, rfl, .mk (.sl _ a len cap sz u hlen hcap hmax hrow hb hr2) (by rw [hlen, rows_len]) hcap hmax⟩
structure Cx (F : Fz) (w : World) (cb : Nat) (q : List Int) (k : Nat) : Prop where
  ex : ∃ lv cur e, w.heap[cb]? = some (.cells cur e (0, 0)) ∧ 2 ≤ cur.size ∧ cur[0]? = some lv ∧ cur[1]? = some (.int .i64 k) ∧ RelD F (.sl (q.map byteRow)) lv
  fr : ∀ o, F cb o = none
theorem dd_false {w0 w : World} {G0 G : Gh} {st : St} (h : Rl w0 G0 st G w) {i : Nat} {c : V} {cs : List V} (hb : st.blocks[i]? = some (c :: cs)) : G.dd i = false := by
  cases hd : G.dd i with
  | false => rfl
  | true => have := h.ddb i hd; rw [hb] at this; cases this
theorem new_calls {VP : VProg} (hP : CProg Try.prog VP) {f : FuncId} (hf : f < 1000000) {args : List V} {q : List Int} (h : CV VP f args [] = some ⟨.ptr 0 0, [[.sl 1 (q.map byteRow) (.own 0 0), .d (I 0)]], [0], 1⟩) {F : Fz} {w : World} {xs : Array Value} (hF : FzOk F w) (hx : RelL (Gh.ofF F) args xs) :
    Calls Try.prog f xs w fun e w' => ∃ cb F', e = .returned (.pointer (some ⟨cb, 0, none⟩)) ∧ F.le F' ∧ FzOk F' w' ∧ (∀ b o, b < w.heap.size → F' b o = F b o) ∧ w.heap.size ≤ cb ∧ Cx F' w' cb q 0 ∧ Wx w w' (fun _ => False) := by
  have hc := CV_sound hP (by kernel_rfl) f args [] _ h
  have hvc : VC Try.prog f args [] _ := hc.1 hf
  refine (hvc (Gh.ofF F) w xs hx (Rl.entryF hF)).mono ?_
  rintro e w' ⟨v, G', rfl, hv, hR⟩
  cases hv with
  | @ptr _ _ b hi =>
  obtain ⟨b2, cur, e, hi2, hh, hl, hr⟩ := hR.blkG 0 _ rfl
  obtain rfl : b = b2 := by rw [hi] at hi2; simpa using hi2
  have hl2 : 2 ≤ cur.size := hl
  obtain ⟨s0, r0⟩ := hr 0 _ _ rfl (Array.getElem?_eq_getElem (by omega))
  obtain ⟨s1, r1⟩ := hr 1 _ _ rfl (Array.getElem?_eq_getElem (by omega))
  refine ⟨b, G'.F, rfl, hR.F0, hR.fz, hR.Fnew, hR.new 0 b (Nat.zero_le _) hi, ⟨⟨_, cur, e, hh, hl2, Array.getElem?_eq_getElem (by omega), ?_, ?_⟩, fun o => hR.sep 0 b o (dd_false hR rfl) hi⟩, ?_⟩
  · rw [Array.getElem?_eq_getElem (by omega)]
    cases r1 with
    | d r1 => generalize cur[1] = x at *; cases r1 with
      | lit _ _ => rfl
  · cases r0 with
    | own h _ _ _ => exact h
  · exact ⟨hR.wx.os, hR.wx.tape, hR.wx.output, hR.wx.size, fun b hb _ => hR.wx.block b hb fun ⟨i, hi, _⟩ => absurd hi (Nat.not_lt_zero _)⟩
def GC (F : Fz) (cb s : Nat) : Gh := { F := F, ι := fun i => if i = 0 then some cb else none, τ := fun _ _ => none, dep := 0, gn := 0, ζ := fun _ => s }
theorem GC_ι {F : Fz} {cb s i b : Nat} (h : (GC F cb s).ι i = some b) : i = 0 ∧ b = cb := by
  by_cases hi : i = 0
  · subst hi; simp [GC] at h; exact ⟨rfl, h.symm⟩
  · simp [GC, hi] at h
theorem Cx.rl {F : Fz} {w : World} {cb : Nat} {q : List Int} {k : Nat} (h : Cx F w cb q k) (hF : FzOk F w) : ∃ s, Rl w (GC F cb s) (.entry [cdK q k]) (GC F cb s) w := by
  obtain ⟨⟨lv, cur, e, hh, h2, h0, h1, hr⟩, hfr⟩ := h
  refine ⟨cur.size, ?_⟩
  have hlt := (Array.getElem?_eq_some_iff.1 hh).1
  exact { dep := rfl, dep0 := rfl, gn := rfl, F0 := Fz.le_refl _, Fnew := fun _ _ _ => rfl, ι0 := fun _ _ => rfl, τ0 := fun _ _ _ => rfl, wx := Wx.refl _ _, base := Nat.le_refl _, fz := hF
          inj := fun i j b _ _ hi hj => by rw [(GC_ι hi).1, (GC_ι hj).1]
          lt := fun i b hi => by rw [(GC_ι hi).1]; exact Nat.zero_lt_one
          sep := fun i b o _ hi => by rw [(GC_ι hi).2]; exact hfr o
          ddb := fun i h => by cases h
          dd0 := fun _ _ h => h
          ζ0 := fun _ _ => rfl
          zok := fun i b hi => by rw [(GC_ι hi).2]; exact ⟨cur, e, hh, rfl⟩
          old := fun i b _ hi => by rw [(GC_ι hi).2]; exact hlt
          new := fun i b hb hi => by rw [(GC_ι hi).1] at hb; exact absurd hb (by simp [St.entry])
          blk := fun id cs hk => by
            match id, hk with
            | 0, hk =>
              simp [St.entry] at hk; subst hk
              refine ⟨cb, cur, e, rfl, hh, h2, fun j c x hj hx => ?_⟩
              match j, hj, hx with
              | 0, hj, hx => simp at hj; subst hj; rw [h0] at hx; simp only [Option.some.injEq] at hx; subst hx; exact ⟨hr.sc, .d hr⟩
              | 1, hj, hx => simp at hj; subst hj; rw [h1] at hx; simp only [Option.some.injEq] at hx; subst hx; exact ⟨rfl, .d (.lit _ rfl)⟩
              | j + 2, hj, hx => simp at hj
            | id + 1, hk => simp [St.entry] at hk
          tok := fun g hg => by simp [St.entry] at hg
          tinj := fun g g' hg => by simp [St.entry] at hg }
theorem next_calls {VP : VProg} (hP : CProg Try.prog VP) {f : FuncId} (hf : f < 1000000) {q : List Int} {k k' : Nat} {n v : Int} (h : CV VP f [.ptr 0 0, .d (I n)] [cdK q k] = some ⟨.d (I v), [cdK q k'], [], 0⟩) {F : Fz} {w : World} {cb : Nat} (hF : FzOk F w) (hc : Cx F w cb q k) :
    Calls Try.prog f #[.pointer (some ⟨cb, 0, none⟩), .int .i64 n] w fun e w' => e = .returned (.int .i64 v) ∧ ∃ F', F.le F' ∧ FzOk F' w' ∧ (∀ b o, b < w.heap.size → F' b o = F b o) ∧ Cx F' w' cb q k' ∧ Wx w w' (fun b => cb = b) := by
  have hs := CV_sound hP (by kernel_rfl) f _ _ _ h
  have hvc : VC Try.prog f _ _ _ := hs.1 hf
  obtain ⟨s, hR0⟩ := hc.rl hF
  refine (hvc (GC F cb s) w _ ⟨rfl, fun j c x hj hx => ?_⟩ hR0).mono ?_
  · match j, hj, hx with
    | 0, hj, hx => simp at hj hx; subst hj hx; exact .ptr rfl
    | 1, hj, hx => simp at hj hx; subst hj hx; exact .d (.lit _ rfl)
    | j + 2, hj, hx => simp at hj
  rintro e w' ⟨u, G', rfl, hv, hR⟩
  have hi : G'.ι 0 = some cb := hR.ι0 0 (by exact Nat.zero_lt_one)
  obtain ⟨b2, cur, e, hi2, hh, hl, hr⟩ := hR.blkG 0 _ rfl
  obtain rfl : cb = b2 := by rw [hi] at hi2; simpa using hi2
  have hl2 : 2 ≤ cur.size := hl
  obtain ⟨s0, r0⟩ := hr 0 _ _ rfl (Array.getElem?_eq_getElem (by omega))
  obtain ⟨s1, r1⟩ := hr 1 _ _ rfl (Array.getElem?_eq_getElem (by omega))
  refine ⟨?_, G'.F, hR.F0, hR.fz, hR.Fnew, ⟨⟨_, cur, e, hh, hl2, Array.getElem?_eq_getElem (by omega), ?_, ?_⟩, fun o => hR.sep 0 cb o (dd_false hR rfl) hi⟩, ?_⟩
  · cases hv with
    | d hv => cases hv with
      | lit _ _ => rfl
  · rw [Array.getElem?_eq_getElem (by omega)]
    cases r1 with
    | d r1 => generalize cur[1] = x at *; cases r1 with
      | lit _ _ => rfl
  · cases r0 with
    | d h => exact h
  · refine ⟨hR.wx.os, hR.wx.tape, hR.wx.output, hR.wx.size, fun b hb hn => hR.wx.block b hb fun ⟨i, hi, he⟩ => ?_⟩
    exact hn (GC_ι he).2.symm
end Go.Proofs.Ytgiciiknagelhaa
set_option linter.unusedVariables false
namespace Go.Proofs.Ytgiciiknagelhaa
open Go.VM Go.Lib Go.RowKit Go.Shelf
theorem SlO.lend3 {w : World} {lo : Nat} {v : Value} {cs : List Value} {ob : Option Nat} {o n : Nat} (h : SlO w lo v cs ob o n) {F : Fz} {ts : List Tm} (hF : FzOk F w) (hno : ∀ b, ob = some b → ∀ k, F b k = none) (hq : QT F ts cs) :
    ∃ F', F.le F' ∧ FzOk F' w ∧ RelD F' (.sl (ts.map Tm.row)) v ∧ ∀ b k, ob ≠ some b → F' b k = F b k := by
  cases h with
  | nil =>
    have hl2 := hq.len
    obtain rfl : ts = [] := List.length_eq_zero_iff.1 (by simp at hl2; omega)
    exact ⟨F, Fz.le_refl _, hF, RelD.nil F, fun _ _ _ => rfl⟩
  | @«at» b o n cap cur cs hb hh hf hn hm hcs =>
    have hs := SlO.at (w := w) (lo := lo) hb hh hf hn hm hcs
    have hl := hs.len
    have hl2 := hq.len
    have hnt : n = ts.length := by omega
    subst hnt
    have hle : F.le (lendF F b o cs) := fun b' k u hu => by
      unfold lendF
      rw [if_neg (fun e => by subst e; rw [hno _ rfl k] at hu; cases hu)]; exact hu
    refine ⟨lendF F b o cs, hle, fun b' k u hu => ?_, ?_, fun b' k hb' => by unfold lendF; rw [if_neg (fun e => hb' (by rw [e]))]⟩
    · rcases lendF_some hu with ⟨rfl, j, rfl, hj⟩ | hu
      · exact hs.cell hj
      · exact hF _ _ _ hu
    · refine .sl _ _ _ _ 3 (fun i j => (cs[i * 3 + j]?).getD undef) (by simp) hn hm (fun i row hr => ?_) (fun _ => ⟨b, o, rfl, fun i j hi hj => ?_⟩) (fun i j row c hr hc => ?_)
      · rw [List.getElem?_map] at hr
        cases hx : ts[i]? with
        | none => rw [hx] at hr; cases hr
        | some t => rw [hx] at hr; simp only [Option.map_some, Option.some.injEq] at hr; subst hr; exact row_len t
      · rw [List.length_map] at hi
        rw [lendF_at, List.getElem?_eq_getElem (by omega)]; rfl
      · rw [List.getElem?_map] at hr
        cases hx : ts[i]? with
        | none => rw [hx] at hr; cases hr
        | some t =>
          rw [hx] at hr; simp only [Option.map_some, Option.some.injEq] at hr; subst hr
          have hj : j < 3 := by have := (List.getElem?_eq_some_iff.1 hc).1; rwa [row_len] at this
          have hi := (List.getElem?_eq_some_iff.1 hx).1
          have hlt : i * 3 + j < cs.length := by omega
          rw [List.getElem?_eq_getElem hlt]
          exact (hq.rel (i * 3 + j) c _ (by rw [cellsT_get ts i j t hx hj]; exact hc) (List.getElem?_eq_getElem hlt)).mono hle
structure Op (w0 : World) (F0 : Fz) (cb : Nat) (q : List Int) (F : Fz) (k : Nat) (ls : List Tm) (vk : Value) (w : World) : Prop where
  fz : FzOk F w
  le : F0.le F
  old : ∀ b o, b < w0.heap.size → F b o = F0 b o
  wx : Wx w0 w (fun _ => False)
  cx : Cx F w cb q k
  cl : w0.heap.size ≤ cb
  sl : ∃ cs ob o, SlO w w0.heap.size vk cs ob o ls.length ∧ QT F ls cs ∧ ob ≠ some cb ∧ ∀ b, ob = some b → ∀ o, F b o = none
theorem Cx.mono {F F' : Fz} {w w' : World} {cb : Nat} {q : List Int} {k : Nat} (h : Cx F w cb q k) (hle : F.le F') (hh : w'.heap[cb]? = w.heap[cb]?) (hn : ∀ o, F' cb o = F cb o) : Cx F' w' cb q k := by
  obtain ⟨⟨lv, cur, e, h1, h2, h3, h4, h5⟩, hfr⟩ := h
  exact ⟨⟨lv, cur, e, by rw [hh]; exact h1, h2, h3, h4, h5.mono hle⟩, fun o => by rw [hn]; exact hfr o⟩
theorem Cx.lt {F : Fz} {w : World} {cb : Nat} {q : List Int} {k : Nat} (h : Cx F w cb q k) : cb < w.heap.size := by
  obtain ⟨⟨lv, cur, e, h1, _⟩, _⟩ := h
  exact (Array.getElem?_eq_some_iff.1 h1).1
section
variable {w0 : World} {F0 : Fz} {cb : Nat} {q : List Int} {F F' : Fz} {k : Nat} {ls : List Tm} {vk : Value} {w w' : World}
theorem Op.grow (h : Op w0 F0 cb q F k ls vk w) (hle : F.le F') (hfz : FzOk F' w') (hn : ∀ b o, b < w.heap.size → F' b o = F b o) (hx : Wx w w' (fun _ => False)) : Op w0 F0 cb q F' k ls vk w' := by
  obtain ⟨h1, h2, h3, h4, h5, h6, cs, ob, o, h7, h8, h9, h10⟩ := h
  refine ⟨hfz, Fz.le_trans h2 hle, fun b o hb => by rw [hn b o (Nat.lt_of_lt_of_le hb h4.size)]; exact h3 b o hb, h4.step hx fun _ h => h.elim, h5.mono hle (hx.block cb h5.lt fun h => h) (fun o => hn cb o h5.lt), h6, cs, ob, o, h7.wx hx (fun _ _ h => h), h8.mono hle, h9, fun b hb o => ?_⟩
  subst hb
  rw [hn b o h7.lt.2]; exact h10 b rfl o
theorem Op.alloc (h : Op w0 F0 cb q F k ls vk w) (hx : Wx w w' (fun _ => False)) : Op w0 F0 cb q F k ls vk w' :=
  h.grow (Fz.le_refl _) (FzOk.wx2 h.fz hx fun _ _ _ _ h => h) (fun _ _ _ => rfl) hx
theorem Op.next {k' : Nat} (h : Op w0 F0 cb q F k ls vk w) (hle : F.le F') (hfz : FzOk F' w') (hn : ∀ b o, b < w.heap.size → F' b o = F b o) (hc : Cx F' w' cb q k') (hx : Wx w w' (fun b => cb = b)) : Op w0 F0 cb q F' k' ls vk w' := by
  obtain ⟨h1, h2, h3, h4, h5, h6, cs, ob, o, h7, h8, h9, h10⟩ := h
  refine ⟨hfz, Fz.le_trans h2 hle, fun b o hb => by rw [hn b o (Nat.lt_of_lt_of_le hb h4.size)]; exact h3 b o hb, h4.step hx fun x h => .inr (by omega), hc, h6, cs, ob, o, h7.wx hx (fun b hb h => h9 (by rw [hb, h])), h8.mono hle, h9, fun b hb o => ?_⟩
  subst hb
  rw [hn b o h7.lt.2]; exact h10 b rfl o
theorem Op.app (h : Op w0 F0 cb q F k ls vk w) (hl : ls.length ≤ 1000000) {t : Tm} {vb vc : Nat} {curv : Array Value} {ev : TypeId} {vs : List Value} (hhv : w.heap[vb]? = some (.cells curv ev (0, 0))) (hvs : ∀ (j : Nat) x, vs[j]? = some x → curv[j]? = some x) (hq : QT F [t] vs) :
    ∃ b1 o1 c1 w1, (∀ ty, (Builtin.append_ #[23, 23] ty #[vk, .slice (some ⟨vb, 0, none⟩) 1 vc]).run Try.prog w = .ok (.slice (some ⟨b1, o1, none⟩) (ls.length + 1) c1) w1) ∧ Op w0 F0 cb q F k (ls ++ [t]) (.slice (some ⟨b1, o1, none⟩) (ls.length + 1) c1) w1 := by
  obtain ⟨h1, h2, h3, h4, h5, h6, cs, ob, o, h7, h8, h9, h10⟩ := h
  obtain ⟨b1, o1, c1, w1, hrun, hs, hx, hb1⟩ := h7.appG h4.size hl hhv hq.len hvs hq.one
  refine ⟨b1, o1, c1, w1, hrun, ⟨FzOk.wx2 h1 hx fun b o u hu e => (by rw [h10 b e o] at hu; cases hu), h2, h3, h4.step hx fun x e => .inr ?_, h5.mono (Fz.le_refl _) (hx.block cb h5.lt h9) (fun _ => rfl), h6, cs ++ vs, some b1, o1, by rw [List.length_append]; exact hs, h8.app hq, fun e => ?_, fun b e o => ?_⟩⟩
  · subst e; exact h7.lt.1
  · simp only [Option.some.injEq] at e
    rcases hb1 with e1 | e1
    · exact h9 (by rw [e1, e])
    · have := h5.lt; omega
  · simp only [Option.some.injEq] at e; subst e
    rcases hb1 with e1 | e1
    · exact h10 _ e1 o
    · cases hf : F b1 o with
      | none => rfl
      | some u => have := h1.lt hf; omega
end
def swapT (ls : List Tm) (j k : Nat) (tj tk : Tm) : List Tm := (ls.set j tk).set k tj
theorem swap_mem {ls : List Tm} {j k : Nat} {tj tk : Tm} (hj : ls[j]? = some tj) (hk : ls[k]? = some tk) (t : Tm) : t ∈ swapT ls j k tj tk ↔ t ∈ ls := by
  have hjl := (List.getElem?_eq_some_iff.1 hj).1
  have hkl := (List.getElem?_eq_some_iff.1 hk).1
  have g : ∀ i, (swapT ls j k tj tk)[i]? = if k = i then some tj else if j = i then some tk else ls[i]? := fun i => by
    unfold swapT
    rw [List.getElem?_set, List.length_set]
    by_cases h1 : k = i
    · rw [if_pos h1, if_pos h1, if_pos (by omega)]
    · rw [if_neg h1, if_neg h1, List.getElem?_set]
      by_cases h2 : j = i
      · rw [if_pos h2, if_pos h2, if_pos (by omega)]
      · rw [if_neg h2, if_neg h2]
  constructor
  · intro h
    obtain ⟨i, hi⟩ := List.mem_iff_getElem?.1 h
    rw [g] at hi
    split at hi
    · simp only [Option.some.injEq] at hi; subst hi; exact List.mem_of_getElem? hj
    · split at hi
      · simp only [Option.some.injEq] at hi; subst hi; exact List.mem_of_getElem? hk
      · exact List.mem_of_getElem? hi
  · intro h
    obtain ⟨i, hi⟩ := List.mem_iff_getElem?.1 h
    apply List.mem_iff_getElem?.2
    by_cases h1 : k = i
    · subst h1
      obtain rfl : tk = t := by rw [hk] at hi; simpa using hi
      by_cases h2 : j = k
      · subst h2
        obtain rfl : tj = tk := by rw [hj] at hk; simpa using hk
        exact ⟨j, by rw [g, if_pos rfl]⟩
      · exact ⟨j, by rw [g, if_neg (fun e => h2 e.symm), if_pos rfl]⟩
    · by_cases h2 : j = i
      · subst h2
        obtain rfl : tj = t := by rw [hj] at hi; simpa using hi
        exact ⟨k, by rw [g, if_pos rfl]⟩
      · exact ⟨i, by rw [g, if_neg h1, if_neg h2]; exact hi⟩
theorem swap_len (ls : List Tm) (j k : Nat) (tj tk : Tm) : (swapT ls j k tj tk).length = ls.length := by unfold swapT; simp
theorem QT.set {F : Fz} {ls : List Tm} {cs : List Value} (h : QT F ls cs) {j : Nat} (hj : j < ls.length) {t : Tm} {vs : List Value} (hv : QT F [t] vs) : QT F (ls.set j t) (cs.take (j * 3) ++ vs ++ cs.drop ((j + 1) * 3)) := by
  rw [List.set_eq_take_append_cons_drop, if_pos hj]
  have e : ls.take j ++ t :: ls.drop (j + 1) = ls.take j ++ [t] ++ ls.drop (j + 1) := by simp
  rw [e]
  exact ((h.take j).app hv).app (h.drop (j + 1))
section
variable {w0 : World} {F0 : Fz} {cb : Nat} {q : List Int} {F F' : Fz} {k : Nat} {ls : List Tm} {w w' : World}
theorem Op.swap {a : Option Addr} {n cap : Nat} (h : Op w0 F0 cb q F k ls (.slice a n cap) w) {i j : Nat} (hi : i < ls.length) (hj : j < ls.length) :
    ∃ b o ti tj oi vi zi oj vj zj, a = some ⟨b, o, none⟩ ∧ n = ls.length ∧ ls[i]? = some ti ∧ ls[j]? = some tj ∧ w.cell? ⟨b, o + i * 3, none⟩ = some (.int .i64 oi) ∧ w.cell? ⟨b, o + i * 3 + 1, none⟩ = some (.int .i64 vi) ∧ w.cell? ⟨b, o + i * 3 + 2, none⟩ = some zi ∧
      w.cell? ⟨b, o + j * 3, none⟩ = some (.int .i64 oj) ∧ w.cell? ⟨b, o + j * 3 + 1, none⟩ = some (.int .i64 vj) ∧ w.cell? ⟨b, o + j * 3 + 2, none⟩ = some zj ∧ (∃ x l c, zi = .slice x l c) ∧ (∃ x l c, zj = .slice x l c) ∧ (∀ x, w.frozen? ⟨b, x, none⟩ = false) ∧
      ∃ W1, ((w.setCell ⟨b, o + j * 3, none⟩ (.int .i64 oi)).setCell ⟨b, o + j * 3 + 1, none⟩ (.int .i64 vi)).setCell ⟨b, o + j * 3 + 2, none⟩ zi = W1 ∧ (∃ x0 x1 x2, W1.cell? ⟨b, o + i * 3, none⟩ = some x0 ∧ W1.cell? ⟨b, o + i * 3 + 1, none⟩ = some x1 ∧ W1.cell? ⟨b, o + i * 3 + 2, none⟩ = some x2) ∧
        (∀ x, W1.frozen? ⟨b, x, none⟩ = false) ∧ Op w0 F0 cb q F k (swapT ls j i tj ti) (.slice a n cap) (((W1.setCell ⟨b, o + i * 3, none⟩ (.int .i64 oj)).setCell ⟨b, o + i * 3 + 1, none⟩ (.int .i64 vj)).setCell ⟨b, o + i * 3 + 2, none⟩ zj).drew := by
  obtain ⟨h1, h2, h3, h4, h5, h6, cs, ob, o, h7, h8, h9, h10⟩ := h
  obtain ⟨ti, hti⟩ : ∃ t, ls[i]? = some t := ⟨_, List.getElem?_eq_getElem hi⟩
  obtain ⟨tj, htj⟩ : ∃ t, ls[j]? = some t := ⟨_, List.getElem?_eq_getElem hj⟩
  obtain ⟨oi, vi, zi, ri, i0, i1, i2⟩ := h8.at hti
  obtain ⟨oj, vj, zj, rj, j0, j1, j2⟩ := h8.at htj
  have hn : n = ls.length := by
    have hl := h7.len
    generalize hll : ls.length = L at h7 hl hi
    cases h7 with
    | nil => rfl
    | «at» => rfl
  obtain ⟨b, rfl, ha⟩ : ∃ b, ob = some b ∧ a = some ⟨b, o, none⟩ := by
    generalize hll : ls.length = L at h7
    cases h7 with
    | nil => omega
    | «at» => exact ⟨_, rfl, rfl⟩
  subst ha
  have hz : ∀ {t : Tm} {x y : Int} {z : Value}, TV F t x y z → ∃ x l c, z = .slice x l c := fun h => by cases h; exact ⟨_, _, _, rfl⟩
  have hfz : ∀ x, w.frozen? ⟨b, x, none⟩ = false := fun x => by
    generalize hll : ls.length = L at h7
    cases h7 with
    | «at» hb hh hf hn hm hcs => exact frozen_no hh x
  refine ⟨b, o, ti, tj, oi, vi, zi, oj, vj, zj, rfl, hn, hti, htj, h7.cell i0, ?_, ?_, h7.cell j0, ?_, ?_, hz ri, hz rj, hfz, ?_⟩
  · have := h7.cell i1; rwa [← Nat.add_assoc] at this
  · have := h7.cell i2; rwa [← Nat.add_assoc] at this
  · have := h7.cell j1; rwa [← Nat.add_assoc] at this
  · have := h7.cell j2; rwa [← Nat.add_assoc] at this
  · obtain ⟨s1, x1, z1⟩ := h7.put hj (vs := [.int .i64 oi, .int .i64 vi, zi]) rfl ri.qt.one
    obtain ⟨W1, hW1⟩ : ∃ W1, w.setCells b (o + j * 3) [.int .i64 oi, .int .i64 vi, zi] = W1 := ⟨_, rfl⟩
    rw [hW1] at s1 x1 z1
    obtain ⟨s2, x2, z2⟩ := s1.put hi (vs := [.int .i64 oj, .int .i64 vj, zj]) rfl rj.qt.one
    obtain ⟨W2, hW2⟩ : ∃ W2, W1.setCells b (o + i * 3) [.int .i64 oj, .int .i64 vj, zj] = W2 := ⟨_, rfl⟩
    rw [hW2] at s2 x2 z2
    have hx : Wx w W2.drew (fun x => b = x) := (x1.step x2 fun _ h => .inl h).step (Wx.drew W2 (fun _ => False)) fun _ h => h.elim
    have q1 := h8.set hj ri.qt
    have q2 := q1.set (j := i) (by rw [List.length_set]; exact hi) rj.qt
    have hl1 := s1.len
    have hg : ∀ d, d < 3 → ∃ x, W1.cell? ⟨b, o + i * 3 + d, none⟩ = some x := fun d hd => by
      have hlt : i * 3 + d < (cs.take (j * 3) ++ [.int .i64 oi, .int .i64 vi, zi] ++ cs.drop ((j + 1) * 3)).length := by rw [hl1]; omega
      exact ⟨_, by rw [Nat.add_assoc]; exact s1.cell (List.getElem?_eq_getElem hlt)⟩
    obtain ⟨y0, g0⟩ := hg 0 (by omega)
    obtain ⟨y1, g1⟩ := hg 1 (by omega)
    obtain ⟨y2, g2⟩ := hg 2 (by omega)
    have hf1 : ∀ x, W1.frozen? ⟨b, x, none⟩ = false := fun x => by
      generalize hll : ls.length = L at s1
      cases s1 with
      | «at» hb hh hf hn hm hcs => exact frozen_no hh x
    refine ⟨W1, hW1, ⟨y0, y1, y2, g0, g1, g2⟩, hf1, ?_⟩
    have e2 : (((W1.setCell ⟨b, o + i * 3, none⟩ (.int .i64 oj)).setCell ⟨b, o + i * 3 + 1, none⟩ (.int .i64 vj)).setCell ⟨b, o + i * 3 + 2, none⟩ zj) = W2 := hW2
    rw [e2]
    refine ⟨FzOk.wx2 h1 hx fun b' o u hu e => (by subst e; rw [h10 b rfl o] at hu; cases hu), h2, h3, h4.step hx fun x e => .inr ?_, h5.mono (Fz.le_refl _) (hx.block cb h5.lt (fun e => h9 (by rw [e]))) (fun _ => rfl), h6, _, some b, o, by rw [swap_len]; exact s2.wx (Wx.drew W2 (fun _ => False)) (fun _ _ h => h), q2, h9, h10⟩
    subst e; exact h7.lt.1
end
end Go.Proofs.Ytgiciiknagelhaa
set_option linter.unusedVariables false
set_option maxRecDepth 1000000
namespace Go.Proofs.Ytgiciiknagelhaa
open Go.VM Go.Lib Go.RowKit Go.Shelf
theorem range102 (y : Nat → Value) : ((List.range 102).map y).toArray = #[y 0, y 1, y 2, y 3, y 4, y 5, y 6, y 7, y 8, y 9, y 10, y 11, y 12, y 13, y 14, y 15, y 16, y 17, y 18, y 19, y 20, y 21, y 22, y 23, y 24, y 25, y 26, y 27, y 28, y 29, y 30, y 31, y 32, y 33, y 34, y 35, y 36, y 37, y 38, y 39, y 40, y 41, y 42, y 43, y 44, y 45, y 46, y 47, y 48, y 49, y 50, y 51, y 52, y 53, y 54, y 55, y 56, y 57, y 58, y 59, y 60, y 61, y 62, y 63, y 64, y 65, y 66, y 67, y 68, y 69, y 70, y 71, y 72, y 73, y 74, y 75, y 76, y 77, y 78, y 79, y 80, y 81, y 82, y 83, y 84, y 85, y 86, y 87, y 88, y 89, y 90, y 91, y 92, y 93, y 94, y 95, y 96, y 97, y 98, y 99, y 100, y 101] := by kernel_rfl
theorem arr102 {t : Array Value} (h : t.size = 102) : ∃ y : Nat → Value, t = #[y 0, y 1, y 2, y 3, y 4, y 5, y 6, y 7, y 8, y 9, y 10, y 11, y 12, y 13, y 14, y 15, y 16, y 17, y 18, y 19, y 20, y 21, y 22, y 23, y 24, y 25, y 26, y 27, y 28, y 29, y 30, y 31, y 32, y 33, y 34, y 35, y 36, y 37, y 38, y 39, y 40, y 41, y 42, y 43, y 44, y 45, y 46, y 47, y 48, y 49, y 50, y 51, y 52, y 53, y 54, y 55, y 56, y 57, y 58, y 59, y 60, y 61, y 62, y 63, y 64, y 65, y 66, y 67, y 68, y 69, y 70, y 71, y 72, y 73, y 74, y 75, y 76, y 77, y 78, y 79, y 80, y 81, y 82, y 83, y 84, y 85, y 86, y 87, y 88, y 89, y 90, y 91, y 92, y 93, y 94, y 95, y 96, y 97, y 98, y 99, y 100, y 101] := ⟨fun j => t.getD j undef, (arr_any h).trans (range102 _)⟩
def S7a (p : Value) (n : Int) (vk : Value) (i : Int) (a : Act) : Prop := a.defers = [] ∧ a.tmps.size = 102 ∧ a.tmps[5]? = some (p) ∧ a.tmps[6]? = some (.int .i64 n) ∧ a.tmps[7]? = some (vk) ∧ a.tmps[8]? = some (.int .i64 i)
theorem S7a.ex {p : Value} {n : Int} {vk : Value} {i : Int} {a : Act} (h : S7a p n vk i a) : ∃ y : Nat → Value, a = ⟨#[y 0, y 1, y 2, y 3, y 4, p, .int .i64 n, vk, .int .i64 i, y 9, y 10, y 11, y 12, y 13, y 14, y 15, y 16, y 17, y 18, y 19, y 20, y 21, y 22, y 23, y 24, y 25, y 26, y 27, y 28, y 29, y 30, y 31, y 32, y 33, y 34, y 35, y 36, y 37, y 38, y 39, y 40, y 41, y 42, y 43, y 44, y 45, y 46, y 47, y 48, y 49, y 50, y 51, y 52, y 53, y 54, y 55, y 56, y 57, y 58, y 59, y 60, y 61, y 62, y 63, y 64, y 65, y 66, y 67, y 68, y 69, y 70, y 71, y 72, y 73, y 74, y 75, y 76, y 77, y 78, y 79, y 80, y 81, y 82, y 83, y 84, y 85, y 86, y 87, y 88, y 89, y 90, y 91, y 92, y 93, y 94, y 95, y 96, y 97, y 98, y 99, y 100, y 101], []⟩ := by
  obtain ⟨g0, g1, g2, g3, g4, g5⟩ := h
  obtain ⟨t, d⟩ := a
  simp only at g0 g1 g2 g3 g4 g5
  subst g0
  obtain ⟨y, rfl⟩ := arr102 g1
  simp only [List.getElem?_toArray, List.getElem?_cons_succ, List.getElem?_cons_zero, Option.some.injEq] at g2 g3 g4 g5
  rw [g2, g3, g4, g5]
  exact ⟨y, rfl⟩
def S7b (p : Value) (n : Int) (vk : Value) (k : Int) (a : Act) : Prop := a.defers = [] ∧ a.tmps.size = 102 ∧ a.tmps[5]? = some (p) ∧ a.tmps[6]? = some (.int .i64 n) ∧ a.tmps[7]? = some (vk) ∧ a.tmps[10]? = some (.int .i64 k)
theorem S7b.ex {p : Value} {n : Int} {vk : Value} {k : Int} {a : Act} (h : S7b p n vk k a) : ∃ y : Nat → Value, a = ⟨#[y 0, y 1, y 2, y 3, y 4, p, .int .i64 n, vk, y 8, y 9, .int .i64 k, y 11, y 12, y 13, y 14, y 15, y 16, y 17, y 18, y 19, y 20, y 21, y 22, y 23, y 24, y 25, y 26, y 27, y 28, y 29, y 30, y 31, y 32, y 33, y 34, y 35, y 36, y 37, y 38, y 39, y 40, y 41, y 42, y 43, y 44, y 45, y 46, y 47, y 48, y 49, y 50, y 51, y 52, y 53, y 54, y 55, y 56, y 57, y 58, y 59, y 60, y 61, y 62, y 63, y 64, y 65, y 66, y 67, y 68, y 69, y 70, y 71, y 72, y 73, y 74, y 75, y 76, y 77, y 78, y 79, y 80, y 81, y 82, y 83, y 84, y 85, y 86, y 87, y 88, y 89, y 90, y 91, y 92, y 93, y 94, y 95, y 96, y 97, y 98, y 99, y 100, y 101], []⟩ := by
  obtain ⟨g0, g1, g2, g3, g4, g5⟩ := h
  obtain ⟨t, d⟩ := a
  simp only at g0 g1 g2 g3 g4 g5
  subst g0
  obtain ⟨y, rfl⟩ := arr102 g1
  simp only [List.getElem?_toArray, List.getElem?_cons_succ, List.getElem?_cons_zero, Option.some.injEq] at g2 g3 g4 g5
  rw [g2, g3, g4, g5]
  exact ⟨y, rfl⟩
def S7c (p : Value) (n : Int) (vk : Value) (a : Act) : Prop := a.defers = [] ∧ a.tmps.size = 102 ∧ a.tmps[5]? = some (p) ∧ a.tmps[6]? = some (.int .i64 n) ∧ a.tmps[7]? = some (vk)
theorem S7c.ex {p : Value} {n : Int} {vk : Value} {a : Act} (h : S7c p n vk a) : ∃ y : Nat → Value, a = ⟨#[y 0, y 1, y 2, y 3, y 4, p, .int .i64 n, vk, y 8, y 9, y 10, y 11, y 12, y 13, y 14, y 15, y 16, y 17, y 18, y 19, y 20, y 21, y 22, y 23, y 24, y 25, y 26, y 27, y 28, y 29, y 30, y 31, y 32, y 33, y 34, y 35, y 36, y 37, y 38, y 39, y 40, y 41, y 42, y 43, y 44, y 45, y 46, y 47, y 48, y 49, y 50, y 51, y 52, y 53, y 54, y 55, y 56, y 57, y 58, y 59, y 60, y 61, y 62, y 63, y 64, y 65, y 66, y 67, y 68, y 69, y 70, y 71, y 72, y 73, y 74, y 75, y 76, y 77, y 78, y 79, y 80, y 81, y 82, y 83, y 84, y 85, y 86, y 87, y 88, y 89, y 90, y 91, y 92, y 93, y 94, y 95, y 96, y 97, y 98, y 99, y 100, y 101], []⟩ := by
  obtain ⟨g0, g1, g2, g3, g4⟩ := h
  obtain ⟨t, d⟩ := a
  simp only at g0 g1 g2 g3 g4
  subst g0
  obtain ⟨y, rfl⟩ := arr102 g1
  simp only [List.getElem?_toArray, List.getElem?_cons_succ, List.getElem?_cons_zero, Option.some.injEq] at g2 g3 g4
  rw [g2, g3, g4]
  exact ⟨y, rfl⟩
def sqA : Code → Code
  | .seq a _ => a
  | c => c
def sqB : Code → Code
  | .seq _ b => b
  | c => c
def blkB : Code → Code
  | .block _ b => b
  | c => c
noncomputable def c7 : Code := (Try.f7.body).getD .skip
noncomputable def c7e : Code := sqB (sqB (sqB (sqB (sqB c7))))
noncomputable def c7L0 : Code := blkB (sqB (sqA c7e))
noncomputable def c7L2 : Code := blkB (sqB (sqA (sqB c7e)))
noncomputable def c7R : Code := sqB (sqB c7e)
end Go.Proofs.Ytgiciiknagelhaa
set_option linter.unusedVariables false
set_option maxRecDepth 1000000
set_option maxHeartbeats 8000000
namespace Go.Proofs.Ytgiciiknagelhaa
open Go.VM
theorem e34g (a b : Int) : CV VP 34 [.d (I a), .d (I b)] [] = some ⟨.agg [.d (I 2), .d (I (w (w (a * 1048576) + b))), .d (.sl [])], [], [], 0⟩ := by
  refine CV_run (vf := vf34) rfl rfl ?_
  rw [vf34_start]
  (repeat (first
    | refine RX_seq ?_
    | refine RX_block ?_
    | ((first | refine RX_reg ?_ | refine RX_cond' ?_ | refine RX_draw0 ?_ | refine RX_draw rfl ?_ | refine RX_skip ?_ | refine RX_gfrz ?_ | refine RX_exit ?_ | refine RX_ret ?_); try (simp only [go_sem, Nat.max_zero, List.isEmpty_cons, Int.reduceToNat, Nat.reducePow, Int.reduceEq, Int.reduceNe, Int.reduceLT, Int.reduceLE, Nat.reduceAdd, Nat.reduceLeDiff, ↓reduceIte, Nat.reduceLT, Nat.reduceMul, Nat.reduceSub, reduceCtorEq, frzLoc, rowCells, vAppM, beq_iff_eq, bne_iff_ne, bne_self_eq_false, beq_self_eq_true, beq_true, beq_false, I, B, w, vf34_res, vf34_keep]))))
theorem c34n {x : Int} (h1 : 0 ≤ x) (h2 : x ≤ 1000) : CV VPC 34 [.d (I 0), .d (I x)] [] = some ⟨(nameT 0 x).ag, [], [], 0⟩ := by
  have h := upVC (e34g 0 x)
  have e : w (w (0 * 1048576) + x) = 0 * 1048576 + x := by
    show IntKind.i64.wrap (IntKind.i64.wrap (0 * 1048576) + x) = 0 * 1048576 + x
    rw [IntKind.wrap_i64, IntKind.wrap_i64]; omega
  rw [e] at h
  exact h
theorem c36n (i : Int) : CV VPC 36 [.d (I i)] [] = some ⟨(Tm.mk 1 i []).ag, [], [], 0⟩ := upVC (c36 i)
theorem c35n (i : Nat) : CV VPC 35 [.d (.sl ([Tm.mk 1 i [], nameT 0 (101 + i)].map Tm.row))] [] = some ⟨(linkB i).ag, [], [], 0⟩ := upVC (c35 1 i 2 (0 * 1048576 + (101 + i)) (.sl []) (.sl []))
theorem c33n (i : Nat) : CV VPC 33 [(nameT 0 (100 + i)).ag, (linkB i).ag] [] = some ⟨(linkT i).ag, [], [], 0⟩ := upVC (c33 2 (0 * 1048576 + (100 + i)) 3 0 (.sl []) (.sl ([Tm.mk 1 i [], nameT 0 (101 + i)].map Tm.row)))
end Go.Proofs.Ytgiciiknagelhaa
set_option linter.unusedVariables false
set_option maxRecDepth 1000000
set_option maxHeartbeats 8000000
namespace Go.Proofs.Ytgiciiknagelhaa
open Go.VM Go.Lib Go.RowKit Go.Shelf
def lnk (n : Nat) : List Tm := (List.range n).map linkT
theorem relL1 {G : Gh} {a : V} {x : Value} (h : RelV G a x) : RelL G [a] #[x] := ⟨rfl, fun j c y hj hy => by
  match j, hj, hy with
  | 0, hj, hy => simp at hj hy; subst hj hy; exact h
  | j + 1, hj, hy => simp at hj⟩
theorem relL2 {G : Gh} {a b : V} {x y : Value} (h : RelV G a x) (h2 : RelV G b y) : RelL G [a, b] #[x, y] := ⟨rfl, fun j c z hj hz => by
  match j, hj, hz with
  | 0, hj, hz => simp at hj hz; subst hj hz; exact h
  | 1, hj, hz => simp at hj hz; subst hj hz; exact h2
  | j + 2, hj, hz => simp at hj⟩
theorem relI {F : Fz} (i : Int) : RelV (Gh.ofF F) (.d (I i)) (.int .i64 i) := .d (.lit _ rfl)
theorem Op.built2 {w0 : World} {F0 : Fz} {cb : Nat} {q : List Int} {F : Fz} {k : Nat} {ls : List Tm} {vk : Value} {w : World} (h : Op w0 F0 cb q F k ls vk w) {t1 t2 : Tm} {o1 p1 o2 p2 : Int} {z1 z2 : Value} (tv1 : TV F t1 o1 p1 z1) (tv2 : TV F t2 o2 p2 z2) :
    ∃ F', F.le F' ∧ FzOk F' (w.alloc (.cells #[.int .i64 o1, .int .i64 p1, z1, .int .i64 o2, .int .i64 p2, z2] 25)) ∧ Op w0 F0 cb q F' k ls vk (w.alloc (.cells #[.int .i64 o1, .int .i64 p1, z1, .int .i64 o2, .int .i64 p2, z2] 25)) ∧ RelD F' (.sl ([t1, t2].map Tm.row)) (.slice (some ⟨w.heap.size, 0, none⟩) 2 2) := by
  have hx : Wx w (w.alloc (.cells #[.int .i64 o1, .int .i64 p1, z1, .int .i64 o2, .int .i64 p2, z2] 25)) (fun _ => False) := Wx.alloc _ _ _
  have hs : SlO (w.alloc (.cells #[.int .i64 o1, .int .i64 p1, z1, .int .i64 o2, .int .i64 p2, z2] 25)) 0 (.slice (some ⟨w.heap.size, 0, none⟩) 2 2) [.int .i64 o1, .int .i64 p1, z1, .int .i64 o2, .int .i64 p2, z2] (some w.heap.size) 0 2 :=
    .at (Nat.zero_le _) (World.alloc_heap_new w _) (by simp) (Nat.le_refl _) (by unfold maxLen; omega) rfl
  have hf := FzOk.wx2 h.fz hx fun _ _ _ _ h => h
  obtain ⟨F', l1, l2, l3, l4⟩ := hs.lend3 hf (fun b hb k => by
    simp only [Option.some.injEq] at hb; subst hb
    cases hn : F w.heap.size k with
    | none => rfl
    | some u => have := FzOk.lt h.fz hn; omega) (tv1.qt.app tv2.qt)
  exact ⟨F', l1, l2, h.grow l1 l2 (fun b o hb => l4 b o fun e => by simp only [Option.some.injEq] at e; omega) hx, l3⟩
theorem loop1 {w0 : World} {F0 : Fz} {cb : Nat} {q : List Int} {k n : Nat} (hn1 : 1 ≤ n) (hn8 : n ≤ 8) {F : Fz} {a : Act} {w : World} (hS : S7a (.pointer (some ⟨cb, 0, none⟩)) n (.slice none 0 0) 0 a) (hop : Op w0 F0 cb q F k [] (.slice none 0 0) w) :
    c7L0.wp Try.prog (fun e a' w' => e = .exit 0 ∧ ∃ F' vk, S7c (.pointer (some ⟨cb, 0, none⟩)) n vk a' ∧ Op w0 F0 cb q F' k (lnk n) vk w') a w := by
  have mixed := mixed
  show Code.wp Try.prog (.loop _) _ a w
  refine wp_loop_rounds (n + 1) ?_
  obtain ⟨R, hR⟩ : ∃ R : Exit → Act → World → Prop, R = fun e a' w' => e = .exit 0 ∧ ∃ F' vk, S7c (.pointer (some ⟨cb, 0, none⟩)) n vk a' ∧ Op w0 F0 cb q F' k (lnk n) vk w' := ⟨_, rfl⟩
  rw [← hR]
  obtain ⟨IA, hIA⟩ : ∃ IA : Nat → Act → World → Prop, IA = fun m1 a1 w1 => ∃ (i : Nat) (F : Fz) (vk : Value), i + m1 = n + 1 ∧ i ≤ n ∧ S7a (.pointer (some ⟨cb, 0, none⟩)) n vk i a1 ∧ Op w0 F0 cb q F k (lnk i) vk w1 := ⟨_, rfl⟩
  refine rounds_ind (I := IA) ?_ ?_ _ _ _ ?_
  · intro a1 w1 h
    rw [hIA] at h
    obtain ⟨i, F, vk, h1, h2, _⟩ := h
    omega
  · intro m1 a1 w1 h
    rw [hIA] at h
    obtain ⟨i, F, vk, him, hil, hS, hop⟩ := h
    obtain ⟨y, rfl⟩ := hS.ex
    clear hS
    by_cases hi : i < n
    · have hi2 : (i : Int) < (n : Int) := by omega
      have hi9 : (i : Int) < 9 := by omega
      have hi0 : (0 : Int) ≤ (i : Int) := by omega
      have H := callG VPC_ok (c34n (x := 100 + i) (by omega) (by omega)) (by decide) rfl hop.fz (relL2 (relI 0) (relI _))
      clear hR
      go_wp2_with (fail)
      refine H.mono ?_
      clear H
      rintro e w2 ⟨v1, F2, rfl, le2, fz2, nw2, rv1, x2⟩
      obtain ⟨o1, p1, z1, rfl, tv1⟩ := tm_ret rv1
      have hop2 := hop.grow le2 fz2 nw2 x2
      clear hop le2 nw2 x2 rv1
      have H := callG VPC_ok (c36n i) (by decide) rfl fz2 (relL1 (relI _))
      go_wp2_with (fail)
      refine H.mono ?_
      clear H fz2
      rintro e w3 ⟨v2, F3, rfl, le3, fz3, nw3, rv2, x3⟩
      obtain ⟨o2, p2, z2, rfl, tv2⟩ := tm_ret rv2
      have hop3 := hop2.grow le3 fz3 nw3 x3
      have tv1 := tv1.mono le3
      clear hop2 le3 nw3 x3 rv2
      have H := callG VPC_ok (c34n (x := 101 + i) (by omega) (by omega)) (by decide) rfl fz3 (relL2 (relI 0) (relI _))
      go_wp2_with (fail)
      refine H.mono ?_
      clear H fz3
      rintro e w4 ⟨v3, F4, rfl, le4, fz4, nw4, rv3, x4⟩
      obtain ⟨o3, p3, z3, rfl, tv3⟩ := tm_ret rv3
      have hop4 := hop3.grow le4 fz4 nw4 x4
      have tv1 := tv1.mono le4
      have tv2 := tv2.mono le4
      clear hop3 le4 nw4 x4 rv3
      go_wp2_with (fail)
      obtain ⟨F5, le5, fz5, hop5, rd5⟩ := hop4.built2 tv2 tv3
      have tv1 := tv1.mono le5
      clear tv2 tv3 hop4 le5
      generalize w4.alloc (.cells #[.int .i64 o2, .int .i64 p2, z2, .int .i64 o3, .int .i64 p3, z3] 25) = w5 at *
      have H := callG VPC_ok (c35n i) (by decide) rfl fz5 (relL1 (.d rd5))
      refine H.mono ?_
      clear H fz5 rd5
      rintro e w6 ⟨v4, F6, rfl, le6, fz6, nw6, rv4, x6⟩
      obtain ⟨o4, p4, z4, rfl, tv4⟩ := tm_ret rv4
      have hop6 := hop5.grow le6 fz6 nw6 x6
      have tv1 := tv1.mono le6
      clear hop5 le6 nw6 x6 rv4
      have H := callG VPC_ok (c33n i) (by decide) rfl fz6 (relL2 tv1.ag tv4.ag)
      go_wp2_with (fail)
      refine H.mono ?_
      clear H fz6 tv1 tv4
      rintro e w7 ⟨v5, F7, rfl, le7, fz7, nw7, rv5, x7⟩
      obtain ⟨o5, p5, z5, rfl, tv5⟩ := tm_ret rv5
      have hop7 := hop6.grow le7 fz7 nw7 x7
      clear hop6 le7 nw7 x7 rv5
      obtain ⟨za, zl, zc, rfl⟩ : ∃ za zl zc, z5 = .slice za zl zc := by cases tv5; exact ⟨_, _, _, rfl⟩
      have hx8 : Wx w7 ((w7.alloc (.cells #[.int .i64 o5, .int .i64 p5, .slice za zl zc] 25)).alloc (.cells #[.int .i64 o5, .int .i64 p5, .slice za zl zc] 25)) (fun _ => False) := (Wx.alloc _ _ _).trans (Wx.alloc _ _ _)
      have hop8 := hop7.alloc hx8
      have hh8 : ((w7.alloc (.cells #[.int .i64 o5, .int .i64 p5, .slice za zl zc] 25)).alloc (.cells #[.int .i64 o5, .int .i64 p5, .slice za zl zc] 25)).heap[w7.heap.size + 1]? = some (.cells #[.int .i64 o5, .int .i64 p5, .slice za zl zc] 25 (0, 0)) := by
        have := World.alloc_heap_new (w7.alloc (.cells #[.int .i64 o5, .int .i64 p5, .slice za zl zc] 25)) (.cells #[.int .i64 o5, .int .i64 p5, .slice za zl zc] 25)
        rwa [show (w7.alloc (.cells #[.int .i64 o5, .int .i64 p5, .slice za zl zc] 25)).heap.size = w7.heap.size + 1 from Array.size_push _] at this
      obtain ⟨b1, o9, c1, w9, hrun, hop9⟩ := hop8.app (t := linkT i) (vc := 1) (by simp [lnk]; omega) hh8 (vs := [.int .i64 o5, .int .i64 p5, .slice za zl zc]) (fun j x h => by simpa using h) tv5.qt
      have hE : lnk i ++ [linkT i] = lnk (i + 1) := by simp [lnk, List.range_succ]
      have hL : (lnk i).length = i := by simp [lnk]
      rw [hE, hL] at hop9
      rw [hL] at hrun
      have hI : ∀ a2, S7a (.pointer (some ⟨cb, 0, none⟩)) n (.slice (some ⟨b1, o9, none⟩) (i + 1) c1) ((i : Int) + 1) a2 → IA m1 a2 w9 := by
        intro a2 hS2
        rw [hIA]
        exact ⟨i + 1, F7, _, by omega, by omega, by rw [Int.natCast_add]; exact hS2, hop9⟩
      have hI := Hid.mk hI
      clear hIA hop7 hop8 hop9 hx8 hh8 tv5 hE hL
      go_upto_region 10 with (fail)
      go_wp2_with (at_builtin; refine Lib.wpList_append_run _ rfl _ _ 23 23 rfl vk (.slice (some ⟨w7.heap.size + 1, 0, none⟩) 1 1) (by simp [Act.eval, Act.put]) (by simp [Act.eval, Act.put]) _ _ (hrun _) ?_)
      all_goals first | exact ⟨rfl, rfl, rfl, rfl, rfl, rfl⟩ | exact hI.out _ ⟨rfl, rfl, rfl, rfl, rfl, rfl⟩
    · have hie : i = n := by omega
      subst hie
      have hi2 : ¬ ((i : Int) < (i : Int)) := by omega
      have hfin : ∀ a2, S7c (.pointer (some ⟨cb, 0, none⟩)) i vk a2 → R (.exit 0) a2 w1 := fun a2 h => by
        rw [hR]; exact ⟨rfl, F, vk, h, hop⟩
      have hfin := Hid.mk hfin
      clear hIA hR hop
      go_wp2
      all_goals first | exact ⟨rfl, rfl, rfl, rfl, rfl⟩ | exact hfin.out _ ⟨rfl, rfl, rfl, rfl, rfl⟩
  · rw [hIA]
    exact ⟨0, F, _, by omega, by omega, hS, hop⟩
end Go.Proofs.Ytgiciiknagelhaa
set_option linter.unusedVariables false
set_option maxRecDepth 1000000
set_option maxHeartbeats 8000000
namespace Go.Proofs.Ytgiciiknagelhaa
open Go.VM Go.Lib Go.RowKit Go.Shelf
def loopB : Code → Code
  | .loop b => b
  | c => c
noncomputable def c7S : Code := sqB (blkB (sqA (sqB (loopB c7L2))))
def S7d (p : Value) (n : Int) (vk : Value) (k : Int) (j : Int) (a : Act) : Prop := a.defers = [] ∧ a.tmps.size = 102 ∧ a.tmps[5]? = some (p) ∧ a.tmps[6]? = some (.int .i64 n) ∧ a.tmps[7]? = some (vk) ∧ a.tmps[10]? = some (.int .i64 k) ∧ a.tmps[11]? = some (.int .i64 j)
theorem S7d.ex {p : Value} {n : Int} {vk : Value} {k : Int} {j : Int} {a : Act} (h : S7d p n vk k j a) : ∃ y : Nat → Value, a = ⟨#[y 0, y 1, y 2, y 3, y 4, p, .int .i64 n, vk, y 8, y 9, .int .i64 k, .int .i64 j, y 12, y 13, y 14, y 15, y 16, y 17, y 18, y 19, y 20, y 21, y 22, y 23, y 24, y 25, y 26, y 27, y 28, y 29, y 30, y 31, y 32, y 33, y 34, y 35, y 36, y 37, y 38, y 39, y 40, y 41, y 42, y 43, y 44, y 45, y 46, y 47, y 48, y 49, y 50, y 51, y 52, y 53, y 54, y 55, y 56, y 57, y 58, y 59, y 60, y 61, y 62, y 63, y 64, y 65, y 66, y 67, y 68, y 69, y 70, y 71, y 72, y 73, y 74, y 75, y 76, y 77, y 78, y 79, y 80, y 81, y 82, y 83, y 84, y 85, y 86, y 87, y 88, y 89, y 90, y 91, y 92, y 93, y 94, y 95, y 96, y 97, y 98, y 99, y 100, y 101], []⟩ := by
  obtain ⟨g0, g1, g2, g3, g4, g5, g6⟩ := h
  obtain ⟨t, d⟩ := a
  simp only at g0 g1 g2 g3 g4 g5 g6
  subst g0
  obtain ⟨y, rfl⟩ := arr102 g1
  simp only [List.getElem?_toArray, List.getElem?_cons_succ, List.getElem?_cons_zero, Option.some.injEq] at g2 g3 g4 g5 g6
  rw [g2, g3, g4, g5, g6]
  exact ⟨y, rfl⟩
theorem swap15 {w2 W1 : World} {b o n cap i j : Nat} {oi vi oj vj : Int} {xi xj : Option Addr} {li ki lj kj : Nat} {y0 y1 y2 p : Value}
    (hin : (i : Int) < (n : Int)) (hjn : (j : Int) < (n : Int)) (hi0 : (0 : Int) ≤ i) (hj0 : (0 : Int) ≤ j)
    (ci0 : w2.cell? ⟨b, o + i * 3, none⟩ = some (.int .i64 oi)) (ci1 : w2.cell? ⟨b, o + i * 3 + 1, none⟩ = some (.int .i64 vi)) (ci2 : w2.cell? ⟨b, o + i * 3 + 2, none⟩ = some (.slice xi li ki))
    (cj0 : w2.cell? ⟨b, o + j * 3, none⟩ = some (.int .i64 oj)) (cj1 : w2.cell? ⟨b, o + j * 3 + 1, none⟩ = some (.int .i64 vj)) (cj2 : w2.cell? ⟨b, o + j * 3 + 2, none⟩ = some (.slice xj lj kj))
    (f3 : w2.frozen? ⟨b, o + j * 3, none⟩ = false) (f4 : w2.frozen? ⟨b, o + j * 3 + 1, none⟩ = false) (f5 : w2.frozen? ⟨b, o + j * 3 + 2, none⟩ = false)
    (hA : ((w2.setCell ⟨b, o + j * 3, none⟩ (.int .i64 oi)).setCell ⟨b, o + j * 3 + 1, none⟩ (.int .i64 vi)).setCell ⟨b, o + j * 3 + 2, none⟩ (.slice xi li ki) = W1)
    (g0 : W1.cell? ⟨b, o + i * 3, none⟩ = some y0) (g1 : W1.cell? ⟨b, o + i * 3 + 1, none⟩ = some y1) (g2 : W1.cell? ⟨b, o + i * 3 + 2, none⟩ = some y2)
    (k0 : W1.frozen? ⟨b, o + i * 3, none⟩ = false) (k1 : W1.frozen? ⟨b, o + i * 3 + 1, none⟩ = false) (k2 : W1.frozen? ⟨b, o + i * 3 + 2, none⟩ = false)
    {a : Act}
    (ha : S7d p n (.slice (some ⟨b, o, none⟩) n cap) i j a) : c7S.wp Try.prog (Exit.then (fun a2 w3 => S7b p n (.slice (some ⟨b, o, none⟩) n cap) i a2 ∧ w3 = (((W1.setCell ⟨b, o + i * 3, none⟩ (.int .i64 oj)).setCell ⟨b, o + i * 3 + 1, none⟩ (.int .i64 vj)).setCell ⟨b, o + i * 3 + 2, none⟩ (.slice xj lj kj)).drew) (fun _ _ _ => False)) a w2 := by
  have mixed := mixed
  obtain ⟨y, rfl⟩ := ha.ex
  clear ha
  show Code.wp Try.prog (.region 15 _ true) _ _ _
  go_region
  all_goals exact ⟨⟨rfl, rfl, rfl, rfl, rfl, rfl⟩, rfl⟩
end Go.Proofs.Ytgiciiknagelhaa
set_option linter.unusedVariables false
set_option maxRecDepth 1000000
set_option maxHeartbeats 8000000
namespace Go.Proofs.Ytgiciiknagelhaa
open Go.VM Go.Lib Go.RowKit Go.Shelf
theorem loop2 {w0 : World} {F0 : Fz} {cb : Nat} {q : List Int} (hB : Bytes q) {k n : Nat} (hn1 : 1 ≤ n) (hn8 : n ≤ 8) {F : Fz} {a0 : Option Addr} {cap : Nat} {a : Act} {w : World} {ls : List Tm} (hlen : ls.length = n) (hmem : ∀ t, t ∈ ls ↔ t ∈ lnk n) (hS : S7b (.pointer (some ⟨cb, 0, none⟩)) n (.slice a0 n cap) ((n - 1 : Nat) : Int) a) (hop : Op w0 F0 cb q F k ls (.slice a0 n cap) w) :
    c7L2.wp Try.prog (fun e a' w' => e = .exit 2 ∧ ∃ F' k' ls', S7c (.pointer (some ⟨cb, 0, none⟩)) n (.slice a0 n cap) a' ∧ Op w0 F0 cb q F' k' ls' (.slice a0 n cap) w' ∧ ls'.length = n ∧ ∀ t, t ∈ ls' ↔ t ∈ lnk n) a w := by
  have mixed := mixed
  show Code.wp Try.prog (.loop _) _ a w
  refine wp_loop_rounds n ?_
  obtain ⟨R, hR⟩ : ∃ R : Exit → Act → World → Prop, R = fun e a' w' => e = .exit 2 ∧ ∃ F' k' ls', S7c (.pointer (some ⟨cb, 0, none⟩)) n (.slice a0 n cap) a' ∧ Op w0 F0 cb q F' k' ls' (.slice a0 n cap) w' ∧ ls'.length = n ∧ ∀ t, t ∈ ls' ↔ t ∈ lnk n := ⟨_, rfl⟩
  rw [← hR]
  obtain ⟨IA, hIA⟩ : ∃ IA : Nat → Act → World → Prop, IA = fun m1 a1 w1 => ∃ (i : Nat) (F : Fz) (k : Nat) (ls : List Tm), i + 1 = m1 ∧ i < n ∧ S7b (.pointer (some ⟨cb, 0, none⟩)) n (.slice a0 n cap) i a1 ∧ Op w0 F0 cb q F k ls (.slice a0 n cap) w1 ∧ ls.length = n ∧ ∀ t, t ∈ ls ↔ t ∈ lnk n := ⟨_, rfl⟩
  refine rounds_ind (I := IA) ?_ ?_ _ _ _ ?_
  · intro a1 w1 h
    rw [hIA] at h
    obtain ⟨i, F, k, ls, h1, h2, _⟩ := h
    omega
  · intro m1 a1 w1 h
    rw [hIA] at h
    obtain ⟨i, F, k, ls, him, hil, hS, hop, hlen, hmem⟩ := h
    obtain ⟨y, rfl⟩ := hS.ex
    clear hS
    by_cases hi : 0 < i
    · have hi2 : (0 : Int) < (i : Int) := by omega
      have hi9 : (i : Int) < 9 := by omega
      have hi0 : (0 : Int) ≤ (i : Int) := by omega
      have hin : (i : Int) < (n : Int) := by omega
      have H := next_calls VPC_ok (by decide) (next37 hB k (n := (i : Int) + 1) (by omega) (by omega)) hop.fz hop.cx
      obtain ⟨r1, r2⟩ := nxV_range hB (k := k) (n := (i : Int) + 1) (by omega)
      obtain ⟨j, hj⟩ : ∃ j : Nat, nxV q k ((i : Int) + 1) = (j : Int) := ⟨_, (Int.toNat_of_nonneg r1).symm⟩
      rw [hj] at H r1 r2
      clear hR
      go_wp2_with (fail)
      refine H.mono ?_
      clear H
      rintro e w2 ⟨rfl, F2, le2, fz2, nw2, cx2, x2⟩
      have hop2 := hop.next le2 fz2 nw2 cx2 x2
      clear hop le2 fz2 nw2 cx2 x2
      have hj2 : (j : Int) < (n : Int) := by omega
      obtain ⟨b, o, ti, tj, oi, vi, zi, oj, vj, zj, rfl, hnl, hti, htj, ci0, ci1, ci2, cj0, cj1, cj2, ⟨xi, li, ki, rfl⟩, ⟨xj, lj, kj, rfl⟩, hfr, W1, hA, ⟨y0, y1, y2, g0, g1, g2⟩, hfr1, hsw⟩ := hop2.swap (i := i) (j := j) (by omega) (by omega)
      have hI : ∀ a2, S7b (.pointer (some ⟨cb, 0, none⟩)) n (.slice (some ⟨b, o, none⟩) n cap) ((i : Int) - 1) a2 → IA m1 a2 (((W1.setCell ⟨b, o + i * 3, none⟩ (.int .i64 oj)).setCell ⟨b, o + i * 3 + 1, none⟩ (.int .i64 vj)).setCell ⟨b, o + i * 3 + 2, none⟩ (.slice xj lj kj)).drew := by
        intro a2 hS2
        rw [hIA]
        exact ⟨i - 1, F2, _, _, by omega, by omega, by rw [show ((i - 1 : Nat) : Int) = (i : Int) - 1 by omega]; exact hS2, hsw, by rw [swap_len]; exact hlen, fun t => (swap_mem htj hti t).trans (hmem t)⟩
      have hI := Hid.mk hI
      clear hIA hsw hop2 hnl hti htj hlen hmem
      have f0 := hfr (o + i * 3)
      have f1 := hfr (o + i * 3 + 1)
      have f2 := hfr (o + i * 3 + 2)
      have f3 := hfr (o + j * 3)
      have f4 := hfr (o + j * 3 + 1)
      have f5 := hfr (o + j * 3 + 2)
      clear hfr
      have e0 : nxV q k ((i : Int) + 1) = (j : Int) := hj
      go_wp2_with (fail)
      have k0 := hfr1 (o + i * 3)
      have k1 := hfr1 (o + i * 3 + 1)
      have k2 := hfr1 (o + i * 3 + 2)
      clear hfr1
      refine wp_mono (swap15 (p := .pointer (some ⟨cb, 0, none⟩)) (cap := cap) hin hj2 hi0 r1 ci0 ci1 ci2 cj0 cj1 cj2 f3 f4 f5 hA g0 g1 g2 k0 k1 k2 ⟨rfl, rfl, rfl, rfl, rfl, rfl, rfl⟩) ?_
      clear hin hj2 ci0 ci1 ci2 cj0 cj1 cj2 f0 f1 f2 f3 f4 f5 hA g0 g1 g2 k0 k1 k2
      rintro e a2 w3 h
      cases e with
      | normal =>
        obtain ⟨hS2, rfl⟩ := h
        obtain ⟨y2, rfl⟩ := hS2.ex
        clear hS2
        go_wp2
        all_goals first | exact ⟨rfl, rfl, rfl, rfl, rfl, rfl⟩ | exact hI.out _ ⟨rfl, rfl, rfl, rfl, rfl, rfl⟩
      | _ => exact h.elim
    · have hi2 : ¬ ((0 : Int) < (i : Int)) := by omega
      have hfin : ∀ a2, S7c (.pointer (some ⟨cb, 0, none⟩)) n (.slice a0 n cap) a2 → R (.exit 2) a2 w1 := fun a2 h => by
        rw [hR]; exact ⟨rfl, F, k, ls, h, hop, hlen, hmem⟩
      have hfin := Hid.mk hfin
      clear hIA hR hop
      go_wp2
      all_goals first | exact ⟨rfl, rfl, rfl, rfl, rfl⟩ | exact hfin.out _ ⟨rfl, rfl, rfl, rfl, rfl⟩
  · rw [hIA]
    exact ⟨n - 1, F, k, ls, by omega, by omega, hS, hop, hlen, hmem⟩
end Go.Proofs.Ytgiciiknagelhaa
set_option linter.unusedVariables false
set_option maxRecDepth 100000
set_option maxHeartbeats 8000000
namespace Go.Proofs.Ytgiciiknagelhaa
open Go.VM
def vRc : VCode := .seq (.reg [oM 67 6,oo 68 (.bin .add (ki 100) (.t 67)),oC 69 34 [ki 0,.t 68],oo 12 (.box [zi,zi,.nil]),oS 12 69 3]) (.seq (.reg [oM 70 5,oM 71 6,oC 72 37 [.t 70,.t 71],oM 13 72]) (.seq (.draw [oM 73 7,oL 74 12 3,oC 75 30 [.t 73,.t 74],oo 76 (.un .not (.t 75)),oM 77 76,gM 78 7 77 true,og 79 (.app 3 (.c .nil) (.t 78) false) 77 true,gM 80 13 77 true,og 81 (.bin .add (ki 100) (.t 80)) 77 true,og 82 (.call 34 [ki 0,.t 81]) 77 true,og 83 (.buildSl 1 3 [zi,zi,.nil] [(0,.t 82)] false) 77 true,og 84 (.app 3 (.t 79) (.t 83) false) 77 true,gL 85 12 3 77 true,og 86 (.call 30 [.t 84,.t 85]) 77 true,oQ 87 77 86,oM 88 87,gM 89 7 88 true,og 90 (.app 3 (.c .nil) (.t 89) false) 88 true,gM 91 13 88 true,og 92 (.bin .add (ki 100) (.t 91)) 88 true,og 93 (.call 34 [ki 0,.t 92]) 88 true,og 94 (.buildSl 1 3 [zi,zi,.nil] [(0,.t 93)] false) 88 true,og 95 (.app 3 (.t 90) (.t 94) false) 88 true,og 96 (.call 34 [ki 0,ki 100]) 88 true,og 97 (.call 30 [.t 95,.t 96]) 88 true,gM 98 13 88 true,og 99 (.bin .eql (.t 98) (ki 0)) 88 true,og 100 (.eqb false (.t 97) (.t 99)) 88 true,oQ 101 88 100,oM 4 101] [(12,6),(12,9),(12,11)]) .ret))
def vfR : VFunc := ⟨102, vRc, [.tmp 4], false⟩
theorem vfR_res : vfR.res = [.tmp 4] := rfl
theorem vfR_keep : vfR.keep = false := rfl
theorem vRc_ok : CCode Try.prog c7R vRc := comp_ok (mts := []) (n := 102) (by kernel_rfl)
theorem vRc_go {VP : VProg} {st : St} {Q : VExit → St → Prop} (h : RX VP (.seq (.reg [oM 67 6,oo 68 (.bin .add (ki 100) (.t 67)),oC 69 34 [ki 0,.t 68],oo 12 (.box [zi,zi,.nil]),oS 12 69 3]) (.seq (.reg [oM 70 5,oM 71 6,oC 72 37 [.t 70,.t 71],oM 13 72]) (.seq (.draw [oM 73 7,oL 74 12 3,oC 75 30 [.t 73,.t 74],oo 76 (.un .not (.t 75)),oM 77 76,gM 78 7 77 true,og 79 (.app 3 (.c .nil) (.t 78) false) 77 true,gM 80 13 77 true,og 81 (.bin .add (ki 100) (.t 80)) 77 true,og 82 (.call 34 [ki 0,.t 81]) 77 true,og 83 (.buildSl 1 3 [zi,zi,.nil] [(0,.t 82)] false) 77 true,og 84 (.app 3 (.t 79) (.t 83) false) 77 true,gL 85 12 3 77 true,og 86 (.call 30 [.t 84,.t 85]) 77 true,oQ 87 77 86,oM 88 87,gM 89 7 88 true,og 90 (.app 3 (.c .nil) (.t 89) false) 88 true,gM 91 13 88 true,og 92 (.bin .add (ki 100) (.t 91)) 88 true,og 93 (.call 34 [ki 0,.t 92]) 88 true,og 94 (.buildSl 1 3 [zi,zi,.nil] [(0,.t 93)] false) 88 true,og 95 (.app 3 (.t 90) (.t 94) false) 88 true,og 96 (.call 34 [ki 0,ki 100]) 88 true,og 97 (.call 30 [.t 95,.t 96]) 88 true,gM 98 13 88 true,og 99 (.bin .eql (.t 98) (ki 0)) 88 true,og 100 (.eqb false (.t 97) (.t 99)) 88 true,oQ 101 88 100,oM 4 101] [(12,6),(12,9),(12,11)]) .ret))) st Q) : RX VP vRc st Q := h
def T7 (N : Nat) (r : List D) (L : List (List D)) : List V := [.any, .any, .any, .any, .any, .ptr 0 0, .d (I (N : Nat)), .d (.sl (r :: L)), .any, .any, .any, .any, .any, .any, .any, .any, .any, .any, .any, .any, .any, .any, .any, .any, .any, .any, .any, .any, .any, .any, .any, .any, .any, .any, .any, .any, .any, .any, .any, .any, .any, .any, .any, .any, .any, .any, .any, .any, .any, .any, .any, .any, .any, .any, .any, .any, .any, .any, .any, .any, .any, .any, .any, .any, .any, .any, .any, .any, .any, .any, .any, .any, .any, .any, .any, .any, .any, .any, .any, .any, .any, .any, .any, .any, .any, .any, .any, .any, .any, .any, .any, .any, .any, .any, .any, .any, .any, .any, .any, .any, .any, .any]
theorem rest_run {q : List Int} {k k' N at_ : Nat} {x x2 x3 : Int} {r : List D} {L : List (List D)} {b : Bool} (hr : r.length = 3) (hrl : ∀ r ∈ L, r.length = 3) (hll : L.length ≤ 8) (hN8 : N ≤ 8) (hat : at_ ≤ 8) (hb : b = decide (at_ = 0))
    (h34 : CV VPC 34 [.d (I 0), .d (I (100 + N))] [] = some ⟨.agg [.d (I 2), .d (I x), .d (.sl [])], [], [], 0⟩)
    (h37 : CV VPC 37 [.ptr 0 0, .d (I (N : Nat))] [cdK q k] = some ⟨.d (I (at_ : Nat)), [cdK q k'], [], 0⟩)
    (h34b : CV VPC 34 [.d (I 0), .d (I (100 + at_))] [] = some ⟨.agg [.d (I 2), .d (I x2), .d (.sl [])], [], [], 0⟩)
    (h34c : CV VPC 34 [.d (I 0), .d (I 100)] [] = some ⟨.agg [.d (I 2), .d (I x3), .d (.sl [])], [], [], 0⟩)
    (g1 : CV VPC 30 [.d (.sl (r :: L)), .agg [.d (I 2), .d (I x), .d (.sl [])]] [] = some ⟨.d (B false), [], [], 0⟩)
    (g2 : CV VPC 30 [.d (.sl (r :: (L ++ [[I 2, I x2, .sl []]]))), .agg [.d (I 2), .d (I x), .d (.sl [])]] [] = some ⟨.d (B true), [], [], 0⟩)
    (g3 : CV VPC 30 [.d (.sl (r :: (L ++ [[I 2, I x2, .sl []]]))), .agg [.d (I 2), .d (I x3), .d (.sl [])]] [] = some ⟨.d (B b), [], [], 0⟩) :
    RX VPC vRc ⟨T7 N r L, [cdK q k], [], 0, 0, 0⟩ (retQ vfR 0 ⟨.d (B true), [], [], 0⟩) := by
  have hr1 : (r.length == 3) = true := by rw [hr]; rfl
  have hr2 : (L.all fun r => r.length == 3) = true := List.all_eq_true.2 fun r h => by rw [hrl r h]; rfl
  have hr3 : L.length ≤ 4294967288 := by omega
  have hr4 : L.length ≤ 4294967289 := by omega
  have hr5 : L.length ≤ 4294967290 := by omega
  have hr6 : L.length ≤ 4294967291 := by omega
  have hr7 : L.length ≤ 4294967292 := by omega
  have hr8 : L.length ≤ 4294967293 := by omega
  have hr9 : L.length ≤ 4294967294 := by omega
  have hr10 : L.length ≤ 4294967295 := by omega
  have hw1 : IntKind.i64.wrap (100 + (N : Int)) = 100 + (N : Int) := by rw [IntKind.wrap_i64]; omega
  have hw2 : IntKind.i64.wrap (100 + (at_ : Int)) = 100 + (at_ : Int) := by rw [IntKind.wrap_i64]; omega
  refine vRc_go ?_
  unfold T7
  by_cases h0 : at_ = 0
  · have hb2 : b = true := by rw [hb, h0]; rfl
    subst hb2
    subst h0
    have e0 : ((0 : Nat) : Int) = 0 := rfl
    simp only [e0] at h34b h37 hw2
    (repeat (first
    | refine RX_seq ?_
    | refine RX_block ?_
    | ((first | refine RX_reg ?_ | refine RX_cond' ?_ | refine RX_draw0 ?_ | refine RX_draw rfl ?_ | refine RX_skip ?_ | refine RX_gfrz ?_ | refine RX_exit ?_ | refine RX_ret ?_); try (simp only [go_sem, Nat.max_zero, List.isEmpty_cons, Int.reduceToNat, Nat.reducePow, Int.reduceEq, Int.reduceNe, Int.reduceLT, Int.reduceLE, Nat.reduceAdd, Nat.reduceLeDiff, ↓reduceIte, Nat.reduceLT, Nat.reduceMul, Nat.reduceSub, reduceCtorEq, frzLoc, rowCells, vAppM, beq_iff_eq, bne_iff_ne, bne_self_eq_false, beq_self_eq_true, beq_true, beq_false, I, B, w, vfR_res, vfR_keep, h34, h37, h34b, h34c, g1, g2, g3, hw1, hw2, hr1, hr2, hr3, hr4, hr5, hr6, hr7, hr8, hr9, hr10, List.length_append, List.all_append, List.all_cons, List.all_nil, List.length_cons, List.length_nil, Bool.and_true, List.append_assoc, List.cons_append, List.nil_append]))))
  · have hb2 : b = false := by rw [hb]; exact decide_eq_false h0
    subst hb2
    have hc0 : ((at_ : Int) == 0) = false := by simpa using h0
    have hbb : (false == false) = true := rfl
    (repeat (first
    | refine RX_seq ?_
    | refine RX_block ?_
    | ((first | refine RX_reg ?_ | refine RX_cond' ?_ | refine RX_draw0 ?_ | refine RX_draw rfl ?_ | refine RX_skip ?_ | refine RX_gfrz ?_ | refine RX_exit ?_ | refine RX_ret ?_); try (simp only [go_sem, Nat.max_zero, List.isEmpty_cons, Int.reduceToNat, Nat.reducePow, Int.reduceEq, Int.reduceNe, Int.reduceLT, Int.reduceLE, Nat.reduceAdd, Nat.reduceLeDiff, ↓reduceIte, Nat.reduceLT, Nat.reduceMul, Nat.reduceSub, reduceCtorEq, frzLoc, rowCells, vAppM, beq_iff_eq, bne_iff_ne, bne_self_eq_false, beq_self_eq_true, beq_true, beq_false, I, B, w, vfR_res, vfR_keep, h34, h37, h34b, h34c, g1, g2, g3, hw1, hw2, hc0, hbb, hr1, hr2, hr3, hr4, hr5, hr6, hr7, hr8, hr9, hr10, List.length_append, List.all_append, List.all_cons, List.all_nil, List.length_cons, List.length_nil, Bool.and_true, List.append_assoc, List.cons_append, List.nil_append]))))
end Go.Proofs.Ytgiciiknagelhaa
set_option linter.unusedVariables false
set_option maxRecDepth 1000000
set_option maxHeartbeats 8000000
namespace Go.Proofs.Ytgiciiknagelhaa
open Go.VM Go.Lib Go.RowKit Go.Shelf
theorem SlO.ex {w : World} {lo : Nat} {v : Value} {cs : List Value} {ob : Option Nat} {o n : Nat} (h : SlO w lo v cs ob o n) : ∃ a cap, v = .slice a n cap := by
  cases h with
  | nil => exact ⟨none, 0, rfl⟩
  | «at» => exact ⟨_, _, rfl⟩
theorem Op.rl {w0 : World} {G0 : Gh} {cb : Nat} {q : List Int} {F : Fz} {k : Nat} {ls : List Tm} {vk : Value} {w : World} (h : Op w0 G0.F cb q F k ls vk w) (hd : G0.dep = 0) (T : List V) :
    ∃ F2 s, Rl w0 G0 ⟨T, [cdK q k], [], 0, 0, 0⟩ (GC F2 cb s) w ∧ RelD F2 (.sl (ls.map Tm.row)) vk := by
  obtain ⟨h1, h2, h3, h4, h5, h6, cs, ob, o, h7, h8, h9, h10⟩ := h
  obtain ⟨F2, l1, l2, l3, l4⟩ := h7.lend3 h1 h10 h8
  have hc2 : Cx F2 w cb q k := h5.mono l1 rfl (fun o => l4 cb o h9)
  obtain ⟨⟨lv, cur, e, hh, g2, g0, g1, hr⟩, hfr⟩ := hc2
  refine ⟨F2, cur.size, ?_, l3⟩
  exact { dep := rfl, dep0 := hd, gn := rfl, F0 := Fz.le_trans h2 l1
          Fnew := fun b o hb => by
            show F2 b o = _
            rw [l4 b o (fun e => by subst e; have := h7.lt.1; omega)]; exact h3 b o hb
          ι0 := fun i hi => absurd hi (Nat.not_lt_zero _)
          τ0 := fun d g hd => absurd hd (Nat.not_lt_zero _)
          wx := h4.sub fun _ h => h.elim
          base := Nat.zero_le _, fz := l2
          inj := fun i j b _ _ hi hj => by rw [(GC_ι hi).1, (GC_ι hj).1]
          lt := fun i b hi => by rw [(GC_ι hi).1]; exact Nat.zero_lt_one
          sep := fun i b o _ hi => by rw [(GC_ι hi).2]; exact hfr o
          ddb := fun i h => by cases h
          dd0 := fun i hi _ => absurd hi (Nat.not_lt_zero _)
          ζ0 := fun i hi => absurd hi (Nat.not_lt_zero _)
          zok := fun i b hi => by rw [(GC_ι hi).2]; exact ⟨cur, e, hh, rfl⟩
          old := fun i b hb _ => absurd hb (Nat.not_lt_zero _)
          new := fun i b _ hi => by rw [(GC_ι hi).2]; exact h6
          blk := fun id cs hk => by
            match id, hk with
            | 0, hk =>
              simp at hk; subst hk
              refine ⟨cb, cur, e, rfl, hh, g2, fun j c x hj hx => ?_⟩
              match j, hj, hx with
              | 0, hj, hx => simp at hj; subst hj; rw [g0] at hx; simp only [Option.some.injEq] at hx; subst hx; exact ⟨hr.sc, .d hr⟩
              | 1, hj, hx => simp at hj; subst hj; rw [g1] at hx; simp only [Option.some.injEq] at hx; subst hx; exact ⟨rfl, .d (.lit _ rfl)⟩
              | j + 2, hj, hx => simp at hj
            | id + 1, hk => simp at hk
          tok := fun g hg => by simp at hg
          tinj := fun g g' hg => by simp at hg }
theorem T7_eq (N : Nat) (r : List D) (L : List (List D)) : T7 N r L = List.replicate 5 .any ++ ([.ptr 0 0, .d (I (N : Nat)), .d (.sl (r :: L))] ++ List.replicate 94 .any) := rfl
theorem T7_rel {G : Gh} {N : Nat} {r : List D} {L : List (List D)} {p vk : Value} {a : Act} (hp : RelV G (.ptr 0 0) p) (hv : RelV G (.d (.sl (r :: L))) vk) (hS : S7c p N vk a) : RelT G (T7 N r L) a.tmps := by
  obtain ⟨h0, h1, h2, h3, h4⟩ := hS
  refine ⟨by rw [h1]; rfl, fun t v x ht hx => ?_⟩
  rw [T7_eq, List.getElem?_append, List.length_replicate] at ht
  split at ht
  · have := List.mem_of_getElem? ht
    rw [List.mem_replicate] at this
    rw [this.2]; exact .any _
  · rename_i h5
    rw [List.getElem?_append] at ht
    split at ht
    · rename_i h6
      simp only [List.length_cons, List.length_nil] at h6
      obtain rfl | rfl | rfl : t = 5 ∨ t = 6 ∨ t = 7 := by omega
      · rw [h2] at hx; simp at ht hx; subst ht hx; exact hp
      · rw [h3] at hx; simp at ht hx; subst ht hx; exact .d (.lit _ rfl)
      · rw [h4] at hx; simp at ht hx; subst ht hx; exact hv
    · have := List.mem_of_getElem? ht
      rw [List.mem_replicate] at this
      rw [this.2]; exact .any _
theorem smalls_of {ls : List Tm} (h : ∀ t ∈ ls, t.small) : Tm.smalls ls := by
  induction ls with
  | nil => trivial
  | cons t ts ih => exact ⟨h t List.mem_cons_self, ih fun u hu => h u (List.mem_cons_of_mem _ hu)⟩
theorem name_small (x : Int) : (nameT 0 x).small := nm_sm _
theorem name_vld {x : Int} (h : 0 ≤ x) : Vld (nameT 0 x) := by
  unfold nameT
  exact nm_vld (by omega)
theorem link_small (j : Nat) : (linkT j).small := ⟨by simp, name_small _, ⟨by simp, ⟨by simp, trivial⟩, name_small _, trivial⟩, trivial⟩
theorem link_vld (j : Nat) : Vld (linkT j) := by
  refine ⟨by simp [linkT, linkB, nameT, subs, subsL], by simp [linkT, linkB, nameT, dep, depL], AllS2 (by simp [sndF]) (name_vld (by omega)).2.2 (AllS2 (by simp [sndF]) (AllS0 (by simp [sndF])) (name_vld (by omega)).2.2)⟩
theorem rest_ok {q : List Int} (hB : Bytes q) {k N : Nat} (hN1 : 1 ≤ N) (hN8 : N ≤ 8) {ls : List Tm} (hlen : ls.length = N) (hmem : ∀ t, t ∈ ls ↔ t ∈ lnk N) :
    ∃ r L, ls.map Tm.row = r :: L ∧ RX VPC vRc ⟨T7 N r L, [cdK q k], [], 0, 0, 0⟩ (retQ vfR 0 ⟨.d (B true), [], [], 0⟩) := by
  have hk1 : ∀ t ∈ ls, ∃ j, j < N ∧ t = linkT j := fun t ht => by
    have := (hmem t).1 ht
    simp only [lnk, List.mem_map, List.mem_range] at this
    obtain ⟨j, h1, h2⟩ := this
    exact ⟨j, h1, h2.symm⟩
  have hk2 : ∀ j, j < N → linkT j ∈ ls := fun j hj => (hmem _).2 (by simp only [lnk, List.mem_map, List.mem_range]; exact ⟨j, hj, rfl⟩)
  have hs : Tm.smalls ls := smalls_of fun t ht => by obtain ⟨j, _, rfl⟩ := hk1 t ht; exact link_small j
  have hv : ∀ u ∈ ls, Vld u := fun t ht => by obtain ⟨j, _, rfl⟩ := hk1 t ht; exact link_vld j
  obtain ⟨r1, r2⟩ := nxV_range hB (k := k) (n := (N : Int)) (by omega)
  obtain ⟨at_, hat⟩ : ∃ j : Nat, nxV q k (N : Int) = (j : Int) := ⟨_, (Int.toNat_of_nonneg r1).symm⟩
  have h37 := next37 hB k (n := (N : Int)) (by omega) (by omega)
  rw [hat] at h37 r1 r2
  have hatN : at_ < N := by omega
  have g1 := can30F hs (name_small (100 + N)) (by omega) hv (name_vld (by omega)) (chain_shut (by omega) hk1)
  have hs2 := sm_snoc hs (name_small (100 + at_))
  have hv2 := vl_snoc hv (name_vld (x := 100 + at_) (by omega))
  have hl2 : (ls ++ [nameT 0 (100 + at_)]).length ≤ 12 := by rw [List.length_append]; simp; omega
  have g2 := can30T hs2 (name_small (100 + N)) hl2 hv2 (name_vld (by omega)) (chain_last hk2 (by omega : at_ ≤ N))
  obtain ⟨b, hb, g3⟩ : ∃ b, b = decide (at_ = 0) ∧ CV VPC 30 [.d (.sl ((ls ++ [nameT 0 (100 + at_)]).map Tm.row)), (nameT 0 100).ag] [] = some ⟨.d (B b), [], [], 0⟩ := by
    by_cases h0 : at_ = 0
    · refine ⟨true, (decide_eq_true h0).symm, can30T hs2 (name_small _) hl2 hv2 (name_vld (by omega)) (CanM_of (Kn_base ?_))⟩
      subst h0
      exact List.mem_append_right _ (List.mem_singleton.2 rfl)
    · exact ⟨false, (decide_eq_false h0).symm, can30F hs2 (name_small _) hl2 hv2 (name_vld (by omega)) (chain_first (by omega) hk1 hatN (by omega))⟩
  match ls, hlen with
  | [], h => simp at h; omega
  | t :: ts, hlen =>
    refine ⟨t.row, ts.map Tm.row, rfl, rest_run (x := 0 * 1048576 + (100 + (N : Int))) (x2 := 0 * 1048576 + (100 + (at_ : Int))) (x3 := 0 * 1048576 + 100) (row_len t) (fun r hr => ?_) ?_ hN8 (by omega) hb (c34n (by omega) (by omega)) h37 (c34n (by omega) (by omega)) (c34n (by omega) (by omega)) g1 ?_ ?_⟩
    · obtain ⟨u, _, rfl⟩ := List.mem_map.1 hr; exact row_len u
    · rw [List.length_map]; simp only [List.length_cons] at hlen; omega
    · rw [List.cons_append, List.map_cons, List.map_append] at g2
      exact g2
    · rw [List.cons_append, List.map_cons, List.map_append] at g3
      exact g3
end Go.Proofs.Ytgiciiknagelhaa
set_option linter.unusedVariables false
set_option maxRecDepth 1000000
set_option maxHeartbeats 8000000
namespace Go.Proofs.Ytgiciiknagelhaa
open Go.VM Go.Lib Go.RowKit Go.Shelf
theorem main7 {G : Gh} {w : World} {x0 : Value} {l : List Int} {n1 : Int} (hB : ByteL l) (hn0 : 0 ≤ n1) (hn1 : n1 < 256) (hx0 : RelV G (.d (byteD l)) x0) (hF : FzOk G.F w) (hd0 : G.dep = 0) {R : Ending → World → Prop} (hRR : R = fun e w' => ∃ v G', e = .returned v ∧ RelV G' (.d (B true)) v ∧ Rl w G ((⟨.d (B true), [], [], 0⟩ : Ret).st 0) G' w') : Calls Try.prog 7 #[x0, .int .u8 n1] w R := by
  have mixed := mixed
  have hRR2 : ∀ e w', (∃ v G', e = .returned v ∧ RelV G' (.d (B true)) v ∧ Rl w G ((⟨.d (B true), [], [], 0⟩ : Ret).st 0) G' w') → R e w' := fun e w' h => by rw [hRR]; exact h
  have hBq := bytes_take hB 60 (by decide)
  have h11 : CV VPC 11 [.d (byteD l), .d (I 60)] [] = some ⟨.ptr 0 0, [[.sl 1 ((l.take 60).map byteRow) (.own 0 0), .d (I 0)]], [0], 1⟩ := upVC (e21 60 (by decide))
  have hx0' : RelV (Gh.ofF G.F) (.d (byteD l)) x0 := by cases hx0 with | d h => exact .d h
  have H := callG VPC_ok e27 (by decide) rfl hF (xs := #[]) ⟨rfl, fun j c x hj => by simp at hj⟩
  go_enter Try.func7, Try.ntmps7
  go_wp2_with (fail)
  refine H.mono ?_
  clear H
  rintro e w1 ⟨v, F1, rfl, le1, fz1, nw1, rv1, x1⟩
  obtain rfl := bool1 rv1
  clear rv1
  have hx1 : RelV (Gh.ofF F1) (.d (byteD l)) x0 := by cases hx0' with | d h => exact .d (h.mono le1)
  have H := new_calls VPC_ok (by decide) h11 fz1 (relL2 hx1 (relI 60))
  go_wp2_with (fail)
  refine H.mono ?_
  clear H
  rintro e w2 ⟨cb, F2, rfl, le2, fz2, nw2, hcb, hcx, x2⟩
  have hop : Op w G.F cb (l.take 60) F2 0 [] (.slice none 0 0) w2 := ⟨fz2, Fz.le_trans le1 le2, fun b o hb => by rw [nw2 b o (Nat.lt_of_lt_of_le hb x1.size), nw1 b o hb], x1.step x2 fun _ h => h.elim, hcx, Nat.le_trans x1.size hcb, [], none, 0, .nil, QT.nil, (fun e => by cases e), fun b e => by cases e⟩
  clear le1 fz1 nw1 x1 hx1 le2 fz2 nw2 hcb hcx x2
  go_wp2_with (fail)
  obtain ⟨N, hN⟩ : ∃ N : Nat, 1 + n1 % 8 = (N : Int) := ⟨(1 + n1 % 8).toNat, by omega⟩
  have hN1 : 1 ≤ N := by omega
  have hN8 : N ≤ 8 := by omega
  simp only [hN]
  refine wp_mono (loop1 (n := N) hN1 hN8 ⟨rfl, rfl, rfl, rfl, rfl, rfl⟩ hop) ?_
  clear hop
  rintro e a3 w3 ⟨rfl, F3, vk, hS3, hop3⟩
  obtain ⟨a0, cap, rfl⟩ : ∃ a cap, vk = .slice a N cap := by
    obtain ⟨cs, ob, o, hs, _⟩ := hop3.sl
    rw [show (lnk N).length = N by simp [lnk]] at hs
    exact hs.ex
  obtain ⟨y, rfl⟩ := hS3.ex
  clear hS3
  have hN0 : (N : Int) - 1 = ((N - 1 : Nat) : Int) := by omega
  clear hRR
  go_wp2_with (fail)
  rename_i K8 hK8
  refine wp_mono (loop2 hBq (ls := lnk N) hN1 hN8 (by simp [lnk]) (fun _ => Iff.rfl) ⟨rfl, rfl, rfl, rfl, rfl, rfl⟩ hop3) ?_
  clear hop3
  rintro e a4 w4 ⟨rfl, F4, k4, ls, hS4, hop4, hlen, hmem⟩
  show K8 a4 w4
  refine hK8 _ _ ?_
  clear hK8
  obtain ⟨r, L, hrL, e, st, hX, he, hret⟩ := rest_ok hBq (k := k4) hN1 hN8 hlen hmem
  obtain ⟨F5, s, hRl, rd⟩ := hop4.rl hd0 (T7 N r L)
  rw [hrL] at rd
  obtain ⟨nn, hn⟩ := X_iff.1 hX
  have hfit : Fits Try.prog = true := by kernel_rfl
  obtain ⟨hC, hFn⟩ := vcall_sound VPC_ok hfit nn
  have hT := T7_rel (G := GC F5 cb s) (.ptr rfl) (.d rd) hS4
  refine wp_mono ((vx_sound hC hFn hd0 mixed (L := 0) nn).1 c7R vRc _ _ _ hn vRc_ok (Nat.zero_le _) (GC F5 cb s) a4 w4 hRl hT hS4.1) ?_
  rintro e' a' w' ⟨rfl, G', hR', ht', hdf', _⟩
  have hbase : st.base = 0 := (vx_base nn).1 _ _ _ _ hn
  obtain ⟨v, G'', h1, h2, h3⟩ := vRet_sound (vf := vfR) (fn := Try.f7) (cRes_ok (by kernel_rfl)) hret hR' ht' hbase hd0
  rcases he with rfl | rfl
  · exact ⟨hdf', v, h1, hRR2 _ _ ⟨v, G'', rfl, h2, h3⟩⟩
  · exact ⟨hdf', v, h1, hRR2 _ _ ⟨v, G'', rfl, h2, h3⟩⟩
theorem open_vc {l : List Int} {n1 : Int} (hB : ByteL l) (hn0 : 0 ≤ n1) (hn1 : n1 < 256) : VC Try.prog 7 [.d (byteD l), .d (.lit (.int .u8 n1))] [] ⟨.d (B true), [], [], 0⟩ := by
  intro G w xs hargs hR
  obtain ⟨x0, x1, rfl⟩ : ∃ x0 x1, xs = #[x0, x1] := by
    have h1 : xs.size = 2 := hargs.1
    obtain ⟨l⟩ := xs
    match l, h1 with
    | [a, b], _ => exact ⟨a, b, rfl⟩
  have r0 := hargs.2 0 _ _ rfl rfl
  have r1 := hargs.2 1 _ _ rfl rfl
  cases r1 with
  | d h =>
  cases h with
  | lit _ _ => exact main7 hB hn0 hn1 r0 hR.fz hR.dep rfl
def OpP (args : List V) (ret : Ret) : Prop := ∃ l n1, ByteL l ∧ 0 ≤ n1 ∧ n1 < 256 ∧ args = [.d (byteD l), .d (.lit (.int .u8 n1))] ∧ ret = ⟨.d (B true), [], [], 0⟩
open Classical in
noncomputable def opNat : Orc := fun f args blks => match Nat.beq f 7 with
  | true => if blks = [] then (if OpP args ⟨.d (B true), [], [], 0⟩ then some ⟨.d (B true), [], [], 0⟩ else none) else none
  | false => none
theorem opNat_some {f : FuncId} {args : List V} {blks : List (List V)} {ret : Ret} (h : opNat f args blks = some ret) : f = 7 ∧ blks = [] ∧ OpP args ret := by
  unfold opNat at h
  split at h
  case h_2 => cases h
  rename_i hf
  split at h
  case isFalse => cases h
  rename_i hb
  split at h
  case isFalse => cases h
  rename_i hx
  simp only [Option.some.injEq] at h
  subst h
  exact ⟨Nat.eq_of_beq_eq_true hf, hb, hx⟩
theorem opNat_ok : OrcOk Try.prog opNat := fun f args blks ret h => by
  obtain ⟨rfl, rfl, l, n1, h1, h2, h3, rfl, rfl⟩ := opNat_some h
  exact open_vc h1 h2 h3
theorem opNat_fn : OrcFn Try.prog opNat := fun f args blks ret h => by
  obtain ⟨rfl, _⟩ := opNat_some h
  exact ⟨_, Try.func7, rfl, by kernel_rfl⟩
noncomputable def VPO : VProg := ⟨VPC.fn, orN opNat VPC.nat⟩
theorem VPO_ok : CProg Try.prog VPO := cprog_or VPC_ok opNat_ok opNat_fn
open Classical in
theorem e7 {l : List Int} (hB : ByteL l) (n1 : Int) (hn0 : 0 ≤ n1) (hn1 : n1 < 256) : CV VPO 7 [.d (byteD l), .d (.lit (.int .u8 n1))] [] = some ⟨.d (B true), [], [], 0⟩ :=
  CV_nat (by
    show orN opNat VPC.nat 7 _ _ = _
    have hx : OpP [.d (byteD l), .d (.lit (.int .u8 n1))] ⟨.d (B true), [], [], 0⟩ := ⟨l, n1, hB, hn0, hn1, rfl, rfl⟩
    have h : opNat 7 [.d (byteD l), .d (.lit (.int .u8 n1))] [] = some ⟨.d (B true), [], [], 0⟩ := by
      show (if ([] : List (List V)) = [] then (if OpP [.d (byteD l), .d (.lit (.int .u8 n1))] ⟨.d (B true), [], [], 0⟩ then some (⟨.d (B true), [], [], 0⟩ : Ret) else none) else none) = _
      rw [if_pos rfl, if_pos hx]
    unfold orN; rw [h])
end Go.Proofs.Ytgiciiknagelhaa
