/- The value level machine, fifth part: loops over iterators, proved right. Conditions: none. -/
import Derived.Test.YtgiciiknagelhaaVd
import Derived.RangeFuncNested
import Derived.RangeFuncLeaves
import Derived.LoopNIn
import Derived.TacticsIn
import Derived.OrdersIn
set_option linter.unusedSimpArgs false
set_option linter.unusedVariables false
namespace Go.VM
abbrev wf (r : Option Nat) : Fence := { Fence.wide with round := r }
def more (ds : List Deferred) (a : Act) : Act := { a with defers := a.defers ++ ds }
def moreK (ds : List Deferred) (K : Act → World → Prop) : Act → World → Prop := fun a w => ∃ a0, a = more ds a0 ∧ K a0 w
def moreQ (ds : List Deferred) (Q : Exit → Act → World → Prop) : Exit → Act → World → Prop := fun e a w => ∃ a0, a = more ds a0 ∧ Q e a0 w
def isDefer : Op → Bool
  | .defer _ => true
  | _ => false
theorem more_put (ds : List Deferred) (a : Act) (d : Option Tmp) (v : Value) : (more ds a).put d v = more ds (a.put d v) := by
  cases d <;> rfl
theorem more_eval (ds : List Deferred) (a : Act) : (more ds a).eval = a.eval := by
  funext x; cases x <;> rfl
theorem letsOut_more {ds : List Deferred} {Q : Exit → Act → World → Prop} (h : LetsOut Q) : LetsOut (moreQ ds Q) := by
  obtain ⟨a, w, h⟩ := h
  exact ⟨more ds a, w, a, rfl, h⟩
section
variable {P : Program} {ds : List Deferred} {r : Option Nat} {n : Nat}
theorem calls_wf {f : FuncId} {args : Array Value} {w : World} {R : Ending → World → Prop} (h : Calls P f args w R) : CallsIn (wf r) n P f args w R := by
  have := (callsIn_wide (n := n)).2 h
  exact this
theorem rows_wf {row : String} {args : Array Value} {w : World} {R : Value → World → Prop} (h : Rows P row args w R) : RowsIn (wf r) n P row args w R := fun c cs _ => by
  obtain ⟨v, w', h1, h2⟩ := h c cs
  exact ⟨v, w', h1, (stepsIn_wide (P := P)).2 h2⟩
theorem oper_more {o : Oper} {a : Act} {w : World} {K : Act → World → Prop} {Q : Exit → Act → World → Prop} (hd : isDefer o.op = false) (h : o.wp P a w K Q) : o.wpIn (wf r) n P (more ds a) w (moreK ds K) (moreQ ds Q) := by
  unfold Oper.wp at h
  refine ⟨fun _ _ => trivial, ?_⟩
  rw [more_eval, Oper.semAt_eq _ _ _ (fun c hc => by rw [hc] at hd; cases hd)]
  revert h
  generalize (execOp a.eval o).run P w = x
  intro h
  match x, h with
  | .ok (.value v) w', h => exact ⟨_, more_put _ _ _ _, h⟩
  | .ok .skip w', h => exact ⟨_, more_put _ _ _ _, h⟩
  | .ok (.defer d) w', h =>
    refine ⟨_, ?_, h⟩
    rw [← more_put]; rfl
  | .ok (.enter f args) w', h =>
    refine ⟨fun h => (by cases h), (calls_wf h).mono ?_⟩
    intro e w'' k
    cases e with
    | returned v => exact ⟨_, more_put _ _ _ _, k⟩
    | panicked chain => exact ⟨_, rfl, k⟩
    | outgrown => exact letsOut_more k
  | .ok (.row row args) w', h => exact ⟨fun h => (by cases h), (rows_wf h).mono fun v w'' k => ⟨_, more_put _ _ _ _, k⟩⟩
  | .halt (.panic v) w', h => exact ⟨_, rfl, h⟩
theorem wpOps_more {ops : Array Oper} {Q : Exit → Act → World → Prop} (hd : ∀ (i : Nat) (o : Oper), ops[i]? = some o → isDefer o.op = false) (hQ : ¬ LetsOut Q) : ∀ (l : List Nat) (a : Act) (w : World), wpOps P ops Q l a w → wpOpsIn (wf r) n P ops (moreQ ds Q) l (more ds a) w
  | [], a, w, h => ⟨a, rfl, by simpa [wpOps] using h⟩
  | i :: rest, a, w, h => by
    have ih := wpOps_more hd hQ rest
    simp only [wpOps] at h
    simp only [wpOpsIn]
    split at h
    · rename_i heq
      simp only [heq]
      exact ih a w h
    · rename_i o heq
      simp only [heq]
      split at h
      · rename_i hw
        rw [if_pos (by exact hw)]
        rcases h with h | ⟨_, h⟩
        · refine Oper.wpIn_mono ?_ (oper_more (ds := ds) (hd i o heq) h)
          rintro a' w' ⟨a0, rfl, k⟩
          exact ih a0 w' k
        · exact absurd h hQ
      · rename_i hw
        rw [if_neg (by exact hw)]
        refine ⟨fun _ _ => trivial, ?_⟩
        rw [more_put]
        exact ih _ w h
theorem region_more {id : Nat} {ops : Array Oper} {Q : Exit → Act → World → Prop} {a : Act} {w : World} (hd : ∀ (i : Nat) (o : Oper), ops[i]? = some o → isDefer o.op = false) (hQ : ¬ LetsOut Q) (h : wpList P ops Q ops.toList a w) :
    (Code.region id ops false).wpIn (wf r) n P (moreQ ds Q) (more ds a) w := by
  refine wpIn_region (wpOps_more hd hQ _ _ _ ?_)
  rw [List.range_eq_range', ← Array.length_toList, wpOps_eq_wpList ops.toList 0 (by simp)]
  exact h
theorem draws_more (hm : P.follows .mixedOrders = true) {ops : Array Oper} {Q : Exit → Act → World → Prop} {id : Nat} {a : Act} {w : World} (hd : ∀ (i : Nat) (o : Oper), ops[i]? = some o → isDefer o.op = false) (hQ : ¬ LetsOut Q) (h : Draws P ops Q a w) :
    (Code.region id ops true).wpIn (wf r) n P (moreQ ds Q) (more ds a) w :=
  wpIn_region_draw fun t => by
    simp only [Region.schedule, hm, Bool.true_or, if_true]
    exact wpOps_more hd hQ _ _ _ (h _ (ords_lin ops.size t _ (by simp) (Nat.le_add_right _ _)))
theorem Cop.nd {o : Op} {vo : VOp} (h : Cop P o vo) : isDefer o = false := by cases h <;> rfl
theorem Ceff.nd {o : Op} {vo : VOp} (h : Ceff P o vo) : isDefer o = false := by
  cases h
  case frz h => exact h.nd
  all_goals rfl
theorem Cstep.nd {o : Op} {vo : VOp} (h : Cstep P o vo) : isDefer o = false := by
  cases h with
  | pure h => exact h.nd
  | eff h => exact h.nd
theorem COpers.nd {ops : Array Oper} : ∀ {l : List Oper} {vl : List VOper}, COpers P ops l vl → ∀ (i : Nat) o, l[i]? = some o → isDefer o.op = false
  | _, _, .nil, i, o, h => by simp at h
  | _, _, .cons hc hs, 0, o, h => by simp at h; subst h; exact hc.op.nd
  | _, _, .cons hc hs, i + 1, o, h => COpers.nd hs i o (by simpa using h)
theorem COpsAll.nd {ops : Array Oper} {vops : List VOper} (h : COpsAll P ops vops) (i : Nat) (o : Oper) (ho : ops[i]? = some o) : isDefer o.op = false := by
  have hi : i < vops.length := by rw [← h.len]; exact (Array.getElem?_eq_some_iff.1 ho).1
  exact (h.op i o _ ho (List.getElem?_eq_getElem hi)).op.nd
def VCode.plain : VCode → Bool
  | .alt _ _ _ => false
  | .seq a b => a.plain && b.plain
  | .cond _ a b => a.plain && b.plain
  | .block _ b => b.plain
  | .loop _ b => b.plain
  | _ => true
theorem pst_letsOut {L : Nat} {sS : St} {Gs : Gh} {ws w0 : World} {G0 : Gh} {e : VExit} {st : St} : ¬ LetsOut (Pst L sS Gs ws w0 G0 e st) := by
  rintro ⟨a, w, h, _⟩
  cases e <;> cases h
theorem roundsIn_mono {F : Fence} {c : Code} {Q R : Exit → Act → World → Prop} (hQ : ∀ e a w, Q e a w → R e a w) : ∀ (m : Nat) {a : Act} {w : World}, Code.roundsIn F n P c Q m a w → Code.roundsIn F n P c R m a w
  | 0, a, w, h => h
  | m + 1, a, w, h => by
    rw [roundsIn_succ] at h ⊢
    refine wpIn_mono h fun e a w k => ?_
    cases e <;> first | exact roundsIn_mono hQ m k | exact hQ _ _ _ k
variable {w0 : World} {G0 : Gh}
theorem vx_soundIn {C : Orc} (hC : OrcOk2 P C) (hFn : OrcFn2 P C) (hd0 : G0.dep = 0) (hm : P.follows .mixedOrders = true) {L : Nat} : ∀ nn,
    (∀ c vc st e st', vx C nn vc st = some (e, st') → CCode P c vc → vc.plain = true → L ≤ st.blocks.length → ∀ G a w, Rl w0 G0 st G w → RelT G st.tmps a.tmps → a.defers = [] → c.wpIn (wf r) n P (moreQ ds (Pst L st G w w0 G0 e st')) (more ds a) w) ∧
    (∀ c keep vb k st e st', vloop C nn keep vb k st = some (e, st') → CCode P c vb → vb.plain = true → st.base ≤ k → L ≤ k → L ≤ st.blocks.length → ∃ m, ∀ G a w, Rl w0 G0 st G w → RelT G st.tmps a.tmps → a.defers = [] → Code.roundsIn (wf r) n P c (moreQ ds (Pst L st G w w0 G0 e st')) m (more ds a) w)
  | 0 => ⟨fun c vc st e st' h => by simp [vx] at h, fun c keep b k st e st' h => by simp [vloop] at h⟩
  | nn + 1 => by
    obtain ⟨ih1, ih2⟩ := vx_soundIn hC hFn hd0 hm (L := L) nn
    refine ⟨fun c vc st e st' h hc hp hL G a w hR ht hdf => ?_, fun c keep b k st e st' h hc hp hk hLk hL => ?_⟩
    · cases hc with
      | skip => simp [vx] at h; obtain ⟨rfl, rfl⟩ := h; exact wpIn_skip ⟨a, rfl, rfl, G, hR, ht, hdf, Via.refl hL⟩
      | reg hop =>
        simp only [vx] at h
        split at h
        case h_2 => cases h
        rename_i s hs
        simp at h; obtain ⟨rfl, rfl⟩ := h
        exact region_more (fun i o ho => hop.nd i o (by simpa using ho)) pst_letsOut (vOps_sound hC hFn hd0 hop hs hR ht hdf fun a' G' w' h1 h2 h3 h4 h5 => ⟨rfl, G', h3, h1, h2, Via.of h4 h5 hL (vOps_len hs)⟩)
      | @draw id ops vops chk bef hA hO hck => exact draws_more hm hA.nd pst_letsOut (vx_draws (id := id) hC hFn hd0 (nn + 1) _ _ _ _ _ h (.draw hA hO hck) hL G a w hR ht hdf (fun _ _ _ h => h))
      | alt hpq hA hB ha hb => cases hp
      | @seq ca cb va vb ha hb =>
        simp only [VCode.plain, Bool.and_eq_true] at hp
        simp only [vx] at h
        split at h
        · rename_i s hs
          refine wpIn_seq (wpIn_mono (ih1 _ _ _ _ _ hs ha hp.1 hL G a w hR ht hdf) ?_)
          rintro e' a' w' ⟨a0, rfl, rfl, G', h1, h2, h3, h4⟩
          refine wpIn_mono (ih1 _ _ _ _ _ h hb hp.2 h4.len G' a0 w' h1 h2 h3) ?_
          rintro e' a' w' ⟨a1, rfl, k1, G2, k2, k3, k4, k5⟩
          exact ⟨a1, rfl, k1, G2, k2, k3, k4, h4.trans k5⟩
        · rename_i hne
          refine wpIn_seq (wpIn_mono (ih1 _ _ _ _ _ h ha hp.1 hL G a w hR ht hdf) ?_)
          rintro e' a' w' ⟨a0, rfl, rfl, G', h1, h2, h3, h4⟩
          cases e with
          | normal => exact absurd h (hne _)
          | exit id => exact ⟨a0, rfl, rfl, G', h1, h2, h3, h4⟩
          | ret => exact ⟨a0, rfl, rfl, G', h1, h2, h3, h4⟩
      | cond hcx ha hb =>
        simp only [VCode.plain, Bool.and_eq_true] at hp
        simp only [vx] at h
        split at h
        case h_2 => cases h
        rename_i t hbo
        have hv := V.bool_rel (hcx.rel ht) hbo
        refine wpIn_cond (t := t) (by rw [more_eval]; exact hv) ?_
        cases t
        · exact ih1 _ _ _ _ _ h hb hp.2 hL G a w hR ht hdf
        · exact ih1 _ _ _ _ _ h ha hp.1 hL G a w hR ht hdf
      | @block id b vb hb =>
        simp only [VCode.plain] at hp
        simp only [vx] at h
        refine wpIn_block ?_
        split at h
        · rename_i i s hs
          refine wpIn_mono (ih1 _ _ _ _ _ hs hb hp hL G a w hR ht hdf) ?_
          rintro e' a' w' ⟨a0, rfl, rfl, G', h1, h2, h3, h4⟩
          simp only [VExit.to, Exit.inBlock]
          split at h
          · rename_i hi; simp at h; obtain ⟨rfl, rfl⟩ := h; rw [if_pos hi]; exact ⟨a0, rfl, rfl, G', h1, h2, h3, h4⟩
          · rename_i hi; simp at h; obtain ⟨rfl, rfl⟩ := h; rw [if_neg hi]; exact ⟨a0, rfl, rfl, G', h1, h2, h3, h4⟩
        · rename_i hne
          refine wpIn_mono (ih1 _ _ _ _ _ h hb hp hL G a w hR ht hdf) ?_
          rintro e' a' w' ⟨a0, rfl, rfl, G', h1, h2, h3, h4⟩
          cases e with
          | normal => exact ⟨a0, rfl, rfl, G', h1, h2, h3, h4⟩
          | exit id => exact absurd h (hne _ _)
          | ret => exact ⟨a0, rfl, rfl, G', h1, h2, h3, h4⟩
      | loop hb =>
        simp only [VCode.plain] at hp
        simp only [vx] at h
        obtain ⟨m, hm'⟩ := ih2 _ _ _ _ _ _ _ h hb hp hR.base hL hL
        exact wpIn_loop_rounds m (hm' G a w hR ht hdf)
      | exit => simp [vx] at h; obtain ⟨rfl, rfl⟩ := h; exact wpIn_exit ⟨a, rfl, rfl, G, hR, ht, hdf, Via.refl hL⟩
      | ret => simp [vx] at h; obtain ⟨rfl, rfl⟩ := h; exact wpIn_ret ⟨a, rfl, rfl, G, hR, ht, hdf, Via.refl hL⟩
      | @ghost c k vc hb =>
        simp only [VCode.plain, Bool.and_eq_true] at hp
        simp only [vx] at h
        cases nn with
        | zero => simp [vx] at h
        | succ nn =>
          simp only [vx] at h
          obtain ⟨G', h1, h2, h3⟩ := gfrz_sound hR ht k
          refine wpIn_mono (ih1 _ _ _ _ _ h hb hp.2 (h3 L hL).len G' a w h1 h2 hdf) ?_
          rintro e' a' w' ⟨a0, rfl, k1, G2, k2, k3, k4, k5⟩
          exact ⟨a0, rfl, k1, G2, k2, k3, k4, (h3 L hL).trans k5⟩
    · simp only [vloop] at h
      split at h
      case h_2 => cases h
      rename_i s hs
      have hls' : L ≤ s.blocks.length := by
        unfold St.head at hs
        split at hs
        · simp only [Option.some.injEq] at hs; subst hs; simp; omega
        · simp only [Option.some.injEq] at hs; subst hs; exact hL
      split at h
      · rename_i s1 hs1
        have hb1 := (vx_base nn).1 _ _ _ _ hs1
        have hb0 : s.base = st.base := by
          unfold St.head at hs
          split at hs
          · simp only [Option.some.injEq] at hs; subst hs; rfl
          · simp only [Option.some.injEq] at hs; subst hs; rfl
        have hl1 : L ≤ s1.blocks.length := (vx_len nn).1 _ _ _ _ hs1 hls'
        obtain ⟨m, hm'⟩ := ih2 _ _ _ _ _ _ _ h hc hp (by rw [hb1, hb0]; exact hk) hLk hl1
        refine ⟨m + 1, fun G a w hR ht hdf => ?_⟩
        obtain ⟨_, hR', ht', _, hv⟩ := head_sound hs hk hR ht
        rw [roundsIn_succ]
        refine wpIn_mono (ih1 _ _ _ _ _ hs1 hc hp hls' _ a w hR' ht' hdf) ?_
        rintro e' a' w' ⟨a0, rfl, rfl, G', h1, h2, h3, h4⟩
        have := hm' G' a0 w' h1 h2 h3
        refine roundsIn_mono ?_ _ this
        rintro e' a' w' ⟨a1, rfl, k1, G2, k2, k3, k4, k5⟩
        exact ⟨a1, rfl, k1, G2, k2, k3, k4, (hv L hLk hL).trans (h4.trans k5)⟩
      · rename_i hne
        refine ⟨1, fun G a w hR ht hdf => ?_⟩
        obtain ⟨_, hR', ht', _, hv⟩ := head_sound hs hk hR ht
        rw [roundsIn_succ]
        refine wpIn_mono (ih1 _ _ _ _ _ h hc hp hls' _ a w hR' ht' hdf) ?_
        rintro e' a' w' ⟨a0, rfl, rfl, G', h1, h2, h3, h4⟩
        cases e with
        | normal => exact absurd h (hne _)
        | exit id => exact ⟨a0, rfl, rfl, G', h1, h2, h3, (hv L hLk hL).trans h4⟩
        | ret => exact ⟨a0, rfl, rfl, G', h1, h2, h3, (hv L hLk hL).trans h4⟩
end
end Go.VM
namespace Go.VM
open Go.RowKit
section
variable {P : Program} {w0 : World} {G0 : Gh} {st : St} {G : Gh} {w : World}
theorem cell_obj {w : World} {b o : Nat} {u : Value} (h : w.cell? ⟨b, o, none⟩ = some u) : ∃ ob, w.heap[b]? = some ob ∧ ob.isCells = true := by
  unfold World.cell? at h
  cases ho : w.heap[b]? with
  | none => simp [ho] at h
  | some ob =>
    refine ⟨ob, rfl, ?_⟩
    cases ob <;> simp_all [Obj.isCells]
theorem Rl.ι_obj (h : Rl w0 G0 st G w) {i b : Nat} (hi : G.ι i = some b) : ∃ ob, w.heap[b]? = some ob ∧ ob.isCells = true := by
  obtain ⟨cur, e, h1, _⟩ := h.zok i b hi
  exact ⟨_, h1, rfl⟩
theorem Rl.loose_obj (h : Rl w0 G0 st G w) {b : Nat} {o : Obj} (hl : w.heap[b]? = some o) (ho : o.isCells = false) : Loose st G w b o := by
  refine ⟨hl, fun i hi => ?_, fun k => ?_, fun g hg l c sz hτ => ?_⟩
  · obtain ⟨ob, h1, h2⟩ := h.ι_obj hi
    rw [hl] at h1; cases h1; rw [ho] at h2; cases h2
  · cases hf : G.F b k with
    | none => rfl
    | some u =>
      obtain ⟨ob, h1, h2⟩ := cell_obj (h.fz b k u hf)
      rw [hl] at h1; cases h1; rw [ho] at h2; cases h2
  · obtain ⟨_, a, len, cap, sz', h2, h3⟩ := h.tok g hg
    rw [hτ] at h2; simp at h2
    obtain ⟨⟨rfl, rfl, rfl⟩, rfl⟩ := h2
    rcases h3 with h3 | ⟨b', e, cur, _, r2, _, r4, _⟩
    · exact h3
    · simp at r2; subst r2
      rw [hl] at r4; cases r4; cases ho
theorem Rl.putObj (h : Rl w0 G0 st G w) {l : Nat} {o : Obj} (o' : Obj) (hl : w.heap[l]? = some o) (ho : o.isCells = false) (hw : w0.heap.size ≤ l) : Rl w0 G0 st G (w.putObj l o') := by
  have hL := h.loose_obj hl ho
  have hb : ∀ b, b ≠ l → (w.putObj l o').heap[b]? = w.heap[b]? := fun b hb => World.putObj_heap_other hb
  exact
    { h with
      wx := ⟨h.wx.os, h.wx.tape, h.wx.output, by rw [World.putObj_size]; exact h.wx.size, fun b hlt hT => (hb b (by omega)).trans (h.wx.block b hlt hT)⟩
      fz := fun b o u hf => by
        rw [World.cell?_of_block (w := w) (hb b (fun e => by subst e; rw [hL.F] at hf; cases hf))]; exact h.fz b o u hf
      blk := fun k cs hk => (h.blk k cs hk).world fun b hi => hb b (fun e => by
        subst e
        refine hL.ι k ?_
        split at hi <;> exact hi)
      zok := fun i b hi => by
        obtain ⟨cur, e, h1, h2⟩ := h.zok i b hi
        exact ⟨cur, e, by rw [hb b (fun e => by subst e; exact hL.ι i hi)]; exact h1, h2⟩
      tok := fun g hg => by
        obtain ⟨h1, a, len, cap, sz, h2, h3⟩ := h.tok g hg
        refine ⟨h1, a, len, cap, sz, h2, ?_⟩
        rcases h3 with h3 | ⟨b, e, cur, r1, r2, r3, r4, rest⟩
        · exact .inl h3
        · exact .inr ⟨b, e, cur, r1, r2, r3, by rw [hb b (fun e => by subst e; rw [hl] at r4; cases r4; cases ho)]; exact r4, rest⟩ }
theorem Loose.putObj {b l : Nat} {o o' : Obj} (h : Loose st G w b o) (hne : b ≠ l) : Loose st G (w.putObj l o') b o :=
  ⟨by rw [World.putObj_heap_other hne]; exact h.heap, h.ι, h.F, h.tok⟩
theorem Rl.loose_new (h : Rl w0 G0 st G w) {w' : World} (hw : Wx w w' (fun _ => False)) {b : Nat} {o : Obj} (hb : w.heap.size ≤ b) (ho : w'.heap[b]? = some o) : Loose st G w' b o := by
  refine ⟨ho, fun i hi => ?_, fun k => ?_, fun g hg l c sz hτ => ?_⟩
  · have := h.ιlt hi; omega
  · cases hf : G.F b k with
    | none => rfl
    | some u => have := h.fz.lt hf; omega
  · obtain ⟨_, a, len, cap, sz', h2, h3⟩ := h.tok g hg
    rw [hτ] at h2; simp at h2
    obtain ⟨⟨rfl, rfl, rfl⟩, rfl⟩ := h2
    rcases h3 with h3 | ⟨b', e, cur, _, r2, _, r4, _⟩
    · exact h3
    · simp at r2; subst r2
      have := (Array.getElem?_eq_some_iff.1 r4).1; omega
theorem Gh.cut_le (G : Gh) (n : Nat) : (G.cut n).le G where
  F := Fz.le_refl _
  ι i b h := by
    have h' : (if i < n then G.ι i else none) = some b := h
    split at h'
    · exact h'
    · cases h'
  τ _ _ _ _ h := h
  tag _ _ h := h
  ζ _ _ _ := rfl
def Gh.ofF (F : Fz) : Gh := { F := F, ι := fun _ => none, τ := fun _ _ => none, dep := 0, gn := 0 }
theorem Gh.ofF_le {F : Fz} {G : Gh} (h : F.le G.F) : (Gh.ofF F).le G where
  F := h
  ι i b hi := by cases hi
  τ d g v ht := by rcases ht with ht | ⟨_, ht⟩ <;> exact absurd ht (Nat.not_lt_zero _)
  tag d g ht := by rcases ht with ht | ⟨_, ht⟩ <;> exact absurd ht (Nat.not_lt_zero _)
  ζ i b hi := by cases hi
structure Host (F : Fz) (J : Nat → (Nat → Obj → Prop) → World → Prop) (Jx : World → Prop) : Prop where
  look : ∀ {j S W b o}, J j S W → S b o → W.heap[b]? = some o
  fz : ∀ {j S W}, J j S W → FzOk F W
  grow : ∀ {j S A B}, J j S A → Wx A B (fun _ => False) → J j (fun b o => S b o ∨ (A.heap.size ≤ b ∧ B.heap[b]? = some o)) B
  growx : ∀ {A B}, Jx A → Wx A B (fun _ => False) → Jx B
  weak : ∀ {j S S' W}, (∀ b o, S' b o → S b o) → J j S W → J j S' W
def Itr (P : Program) (gf : Nat) (lb : Array Value) (F : Fz) (items : List (List V)) : Prop :=
  ∀ (l : Nat) (J : Nat → (Nat → Obj → Prop) → World → Prop) (Jx : World → Prop) (W : World), Host F J Jx →
    (∀ n j S it xs A, items[j]? = some it → J j S A → RelL (Gh.ofF F) it xs → YieldAt (wf none) n P l xs A fun e B =>
      (e = .returned (.bool true) ∧ J (j + 1) S B) ∨ (e = .returned (.bool false) ∧ Jx B)) →
    J 0 (fun _ _ => False) W →
    ∀ n, CallsIn (wf none) n P gf (#[.func (.yield l) #[] #[]] ++ lb) W fun e B => (∃ v, e = .returned v) ∧ (J items.length (fun _ _ => False) B ∨ Jx B)
def setPs : List Nat → List V → List V → List V
  | p :: ps, v :: vs, t => setPs ps vs (t.set p v)
  | _, _, t => t
theorem setPs_rel : ∀ {ps : List Nat} {vs : List V} {xs : List Value} {t : List V} {ts : Array Value}, xs.length = vs.length → (∀ (j : Nat) v x, vs[j]? = some v → xs[j]? = some x → RelV G v x) → RelT G t ts →
    RelT G (setPs ps vs t) ((ps.zip xs).foldl (fun t (p, v) => t.setIfInBounds p v) ts)
  | [], _, _, _, _, _, _, h => by simpa [setPs] using h
  | p :: ps, [], [], _, _, _, _, h => by simpa [setPs] using h
  | p :: ps, [], x :: xs, _, _, hl, _, h => by simp at hl
  | p :: ps, v :: vs, [], _, _, hl, _, h => by simp at hl
  | p :: ps, v :: vs, x :: xs, t, ts, hl, hr, h => by
    simp only [setPs, List.zip_cons_cons, List.foldl_cons]
    exact setPs_rel (by simpa using hl) (fun j v x hv hx => hr (j + 1) v x (by simpa using hv) (by simpa using hx)) (h.set p (hr 0 v x rfl rfl))
theorem foldl_zip {ps : Array Tmp} {xs : Array Value} {ts : Array Value} : (ps.zip xs).foldl (fun t (p, v) => t.setIfInBounds p v) ts = (ps.toList.zip xs.toList).foldl (fun t (p, v) => t.setIfInBounds p v) ts := by
  rw [← Array.foldl_toList, Array.toList_zip]
def VExit.code : VExit → Code
  | .normal => .skip
  | .exit id => .exit id
  | .ret => .ret
open Classical in
noncomputable def vFor (Ex : VCode → St → Option (VExit × St)) (as bd : VCode) (ps : List Nat) (tm : List V) (L : Nat) : List (List V) → St → Option (VExit × St)
  | [], st => some (.normal, st)
  | it :: its, st =>
    if it.length = ps.length then
      match Ex as { st with tmps := setPs ps it tm } with
      | some (.normal, s1) =>
        match Ex bd s1 with
        | some (.normal, s2) => if (s2.blocks.take L).all (V.ltbL L) = true then vFor Ex as bd ps tm L its { s2 with tmps := tm, blocks := s2.blocks.take L } else none
        | some (e, s2) => some (e, { s2 with tmps := tm })
        | none => none
      | _ => none
    else none
theorem more_nil (a : Act) : more [] a = a := by simp [more]
theorem moreQ_nil {Q : Exit → Act → World → Prop} {e : Exit} {a : Act} {w : World} : moreQ [] Q e a w ↔ Q e a w := by
  constructor
  · rintro ⟨a0, rfl, h⟩; rw [more_nil]; exact h
  · exact fun h => ⟨a, (more_nil a).symm, h⟩
theorem RelT.uncut {L : Nat} {G G' : Gh} {ts : List V} {xs : Array Value} (h : RelT G ts xs) (hl : V.ltbL L ts = true) (hle : (G.cut L).le (G'.cut L)) : RelT G' ts xs :=
  ⟨h.1, fun t v x hv hx => (((h.2 t v x hv hx).cut (V.ltbL_mem hl t v hv)).mono hle).mono (G'.cut_le L)⟩
theorem Via.up {L : Nat} {st st' : St} {G G' : Gh} {w w' : World} (h : Via L st G w st' G' w') : (G.cut L).le (G'.cut L) := h.le
abbrev lrec (fn : FuncId) (tmps : Array Value) (ps : Array Tmp) (assign body : Code) (D : Nat) (s : LoopState) (pe : Option Code) : Loop :=
  { state := s, pending := pe, fn, tmps, params := ps, assign, body, defers := D }
abbrev dmark (D : Nat) : Deferred := { target := .collected D, args := #[] }
def ForPost (ds : List Deferred) (L : Nat) (sE : St) (GE : Gh) (wE : World) (w0 : World) (G0 : Gh) (a0 : Act) (e : VExit) (st : St) : Exit → Act → World → Prop :=
  fun e' a w => e' = e.to ∧ ∃ G D, Rl w0 G0 st G w ∧ RelT G st.tmps a0.tmps ∧ a = more (dmark D :: ds) a0 ∧ Loose st G w D (.deferred (some [])) ∧ Stay sE GE wE st G w ∧ (GE.cut L).le (G.cut L) ∧ L ≤ st.blocks.length ∧ wE.heap.size ≤ D
def RunOk (P : Program) (Ex : VCode → St → Option (VExit × St)) : Prop := ∀ c st r, Ex c st = some r → ∃ C nn, OrcOk2 P C ∧ OrcFn2 P C ∧ vx C nn c st = some r
theorem wp_for {Ex : VCode → St → Option (VExit × St)} (hEx : RunOk P Ex) (hd0 : G0.dep = 0) (hm : P.follows .mixedOrders = true) {g : Operand} {ps : Array Tmp} {assign body : Code} {as bd : VCode}
    (cas : CCode P assign as) (cbd : CCode P body bd) (pas : as.plain = true) (pbd : bd.plain = true) {n : Nat} {ds : List Deferred} {gf : Nat} {lb : Array Value} {items : List (List V)} {a0 : Act} {e : VExit} {st' : St}
    (hR : Rl w0 G0 st G w) (ht : RelT G st.tmps a0.tmps) (hdf : a0.defers = []) (hlt : V.ltbL st.blocks.length st.tmps = true)
    (hg : a0.eval g = .func (.func gf) #[] lb) (eg : ∀ args w, (callFunc gf args).run P w = .ok (.enter gf args) w) (hI : Itr P gf lb G.F items)
    (hrun : vFor Ex as bd ps.toList st.tmps st.blocks.length items st = some (e, st')) :
    (Code.rangeFunc g ps assign body).wpIn (wf none) n P (ForPost ds st.blocks.length st G w w0 G0 a0 e st') (more ds a0) w := by
  refine wpIn_rangeFunc ?_
  intro fn hfn
  obtain ⟨rc, hrc⟩ : ∃ rc : LoopState → Option Code → Loop, rc = lrec fn a0.tmps ps assign body w.heap.size := ⟨_, rfl⟩
  obtain ⟨W1, hW1⟩ : ∃ W1, (w.alloc (.deferred (some []))).alloc (.loop (rc .ready none)) = W1 := ⟨_, rfl⟩
  have hL1 : W1.heap[w.heap.size + 1]? = some (.loop (rc .ready none)) := by
    rw [← hW1]; have := World.alloc_heap_new (w.alloc (.deferred (some []))) (.loop (rc .ready none)); rwa [World.size_alloc] at this
  have hK1 : W1.heap[w.heap.size]? = some (.deferred (some [])) := by
    rw [← hW1, heap_alloc_old _ _ (by simp)]; exact World.alloc_heap_new w _
  have hwx1 : Wx w W1 (fun _ => False) := by rw [← hW1]; exact (Wx.alloc w _ _).trans (Wx.alloc _ _ _)
  have hw0 := hR.wx.size
  have hbase := hR.base
  have hcode : VExit → Option Code := fun e => match e with | .normal => none | e => some e.code
  obtain ⟨J, hJ⟩ : ∃ J : Nat → (Nat → Obj → Prop) → World → Prop, J = fun j S W => ∃ s Gs, vFor Ex as bd ps.toList st.tmps st.blocks.length (items.drop j) s = some (e, st') ∧ s.tmps = st.tmps ∧ s.blocks.length = st.blocks.length ∧ s.base = st.base ∧
      Rl w0 G0 s Gs W ∧ (G.cut st.blocks.length).le (Gs.cut st.blocks.length) ∧ Stay st G w s Gs W ∧ W.heap[w.heap.size + 1]? = some (.loop (rc .ready none)) ∧ W.heap[w.heap.size]? = some (.deferred (some [])) ∧ ∀ b o, S b o → Loose s Gs W b o := ⟨_, rfl⟩
  obtain ⟨Jx, hJx⟩ : ∃ Jx : World → Prop, Jx = fun W => e ≠ .normal ∧ ∃ Gs, Rl w0 G0 st' Gs W ∧ st'.tmps = st.tmps ∧ (G.cut st.blocks.length).le (Gs.cut st.blocks.length) ∧ Stay st G w st' Gs W ∧ st.blocks.length ≤ st'.blocks.length ∧
      W.heap[w.heap.size + 1]? = some (.loop (rc .done (some e.code))) ∧ W.heap[w.heap.size]? = some (.deferred (some [])) := ⟨_, rfl⟩
  have hJ0 : J 0 (fun _ _ => False) W1 := by
    rw [hJ]
    exact ⟨st, G, hrun, rfl, rfl, rfl, hR.world hwx1, Gh.le_refl _, Stay.world hwx1, hL1, hK1, fun _ _ h => h.elim⟩
  have host : Host G.F J Jx := by
    subst hJ hJx
    refine ⟨?_, ?_, ?_, ?_, ?_⟩
    · rintro j S W b o ⟨s, Gs, _, _, _, _, _, _, _, _, _, h⟩ hS
      exact (h b o hS).heap
    · rintro j S W ⟨s, Gs, _, _, _, _, h, hle, _⟩
      exact fun b o u hf => h.fz b o u (hle.F b o u hf)
    · rintro j S A B ⟨s, Gs, h1, h2, h3, h3b, h4, h5, h6, h7, h8, h9⟩ hw
      refine ⟨s, Gs, h1, h2, h3, h3b, h4.world hw, h5, h6.trans (Stay.world hw), ?_, ?_, ?_⟩
      · rw [hw.block _ (Array.getElem?_eq_some_iff.1 h7).1 id]; exact h7
      · rw [hw.block _ (Array.getElem?_eq_some_iff.1 h8).1 id]; exact h8
      · rintro b o (h | ⟨hb, ho⟩)
        · exact Stay.world hw b o (h9 b o h)
        · exact h4.loose_new hw hb ho
    · rintro A B ⟨he, Gs, h1, h2, h3, h4, h5, h6, h7⟩ hw
      refine ⟨he, Gs, h1.world hw, h2, h3, h4.trans (Stay.world hw), h5, ?_, ?_⟩
      · rw [hw.block _ (Array.getElem?_eq_some_iff.1 h6).1 id]; exact h6
      · rw [hw.block _ (Array.getElem?_eq_some_iff.1 h7).1 id]; exact h7
    · rintro j S S' W hS ⟨s, Gs, h1, h2, h3, h3b, h4, h5, h6, h7, h8, h9⟩
      exact ⟨s, Gs, h1, h2, h3, h3b, h4, h5, h6, h7, h8, fun b o h => h9 b o (hS b o h)⟩
  refine ⟨w.heap.size + 1, [dmark w.heap.size], W1, { target := .fn (.func gf) lb, args := #[.func (.yield (w.heap.size + 1)) #[] #[]] }, W1, gf,
    #[.func (.yield (w.heap.size + 1)) #[] #[]] ++ lb, W1, ?_, ?_, fun _ _ => trivial, ?_, fun h => (by cases h), ?_⟩
  · rw [← hW1, hrc]; exact run_enterLoop_outer _ _ _ _ _
  · simp only [resolve, more_eval, hg]
    simp [go_sem]
  · simp [invoke, go_sem, eg]
  · refine (hI (w.heap.size + 1) J Jx W1 host ?_ hJ0 _).mono ?_
    · -- one round
      intro m j S it xs A hit hj hrel
      have hjs := hj
      rw [hJ] at hj
      obtain ⟨s, Gs, h1, h2, h3, h3b, h4, h5, h6, h7, h8, h9⟩ := hj
      have hlen : j < items.length := (List.getElem?_eq_some_iff.1 hit).1
      have hdrop : items.drop j = it :: items.drop (j + 1) := by
        rw [List.drop_eq_getElem_cons hlen, (List.getElem?_eq_some_iff.1 hit).2]
      rw [hdrop] at h1
      simp only [vFor] at h1
      split at h1
      case isFalse => cases h1
      rename_i hpl
      have hxs : xs.size = ps.size := by rw [hrel.1, hpl]; simp
      have hy := run_yield (P := P) (args := xs) h7 (by rw [hrc]; exact hxs)
      rw [hrc] at hy
      refine ⟨fn, _, assign, body, hy, roundIn_of_wpIn hfn ?_⟩
      split at h1
      case h_2 => cases h1
      rename_i s1 hs1
      obtain ⟨C1, n1, hC1, hF1, hs1⟩ := hEx _ _ _ hs1
      have hT : RelT Gs (setPs ps.toList it st.tmps) ((ps.zip xs).foldl (fun t (p, v) => t.setIfInBounds p v) a0.tmps) := by
        rw [foldl_zip]
        refine setPs_rel (by simp [hrel.1]) (fun k v x hv hx => ?_) (ht.uncut hlt h5)
        exact (hrel.2 k v x hv (by simpa using hx)).mono (Gh.ofF_le (show G.F.le Gs.F from h5.F))
      have hRt : Rl w0 G0 { s with tmps := setPs ps.toList it st.tmps } Gs A := h4.tmps _
      have key := (vx_soundIn (r := some (w.heap.size + 1)) (n := m) (ds := []) hC1 hF1 hd0 hm (L := st.blocks.length) n1).1 assign as _ _ _ hs1 cas pas (by rw [← h3]; exact Nat.le_refl _) Gs { tmps := (ps.zip xs).foldl (fun t (p, v) => t.setIfInBounds p v) a0.tmps, defers := [] } A hRt hT rfl
      rw [more_nil] at key
      refine wpIn_mono key ?_
      rintro e1 a1 A1 hq
      rw [moreQ_nil] at hq
      obtain ⟨rfl, G1, hR1, hT1, hd1, hv1⟩ := hq
      have hv1s : Stay s Gs A s1 G1 A1 := fun b o hl => hv1.stay b o ⟨hl.heap, hl.ι, hl.F, hl.tok⟩
      have hl1 := (hv1s _ _ (h4.loose_obj h7 rfl)).heap
      have hk1 := (hv1s _ _ (h4.loose_obj h8 rfl)).heap
      refine ⟨_, run_beginRound hl1 (by rw [hrc]), ?_⟩
      obtain ⟨A2, hA2⟩ : ∃ A2, A1.putObj (w.heap.size + 1) (.loop { rc .ready none with state := .busy }) = A2 := ⟨_, rfl⟩
      rw [hA2]
      have hR2 : Rl w0 G0 s1 G1 A2 := by rw [← hA2]; exact hR1.putObj _ hl1 rfl (by omega)
      have hl2 : A2.heap[w.heap.size + 1]? = some (.loop { rc .ready none with state := .busy }) := by rw [← hA2]; exact World.putObj_heap_same (Array.getElem?_eq_some_iff.1 hl1).1
      have hk2 : A2.heap[w.heap.size]? = some (.deferred (some [])) := by rw [← hA2, World.putObj_heap_other (by omega)]; exact hk1
      have hst2 : ∀ b o, b ≠ w.heap.size + 1 → Loose s Gs A b o → Loose s1 G1 A2 b o := fun b o hne hl => by
        rw [← hA2]; exact (hv1s b o hl).putObj hne
      have hne1 : ∀ {b : Nat} {o : Obj}, Loose st G w b o → b ≠ w.heap.size + 1 := fun hl e => by have := hl.lt; omega
      have hb1 := (vx_base n1).1 _ _ _ _ hs1
      have hb1 : s1.base = st.base := hb1.trans h3b
      have fin : ∀ (jump : Option Code) (W3 : World), W3.heap[w.heap.size + 1]? = some (.loop { rc .ready none with state := .busy }) → W3.heap[w.heap.size]? = some (.deferred (some [])) →
          (Instr.endRound (w.heap.size + 1) jump).run P W3 = .ok (.bool jump.isNone) (W3.putObj (w.heap.size + 1) (.loop (rc (if jump.isNone then .ready else .done) jump))) ∧
          (W3.putObj (w.heap.size + 1) (.loop (rc (if jump.isNone then .ready else .done) jump))).heap[w.heap.size + 1]? = some (.loop (rc (if jump.isNone then .ready else .done) jump)) ∧
          (W3.putObj (w.heap.size + 1) (.loop (rc (if jump.isNone then .ready else .done) jump))).heap[w.heap.size]? = some (.deferred (some [])) := fun jump W3 h h' => by
        have := run_endRound (P := P) jump h
        rw [hrc] at this ⊢
        exact ⟨this, World.putObj_heap_same (Array.getElem?_eq_some_iff.1 h).1, (World.putObj_heap_other (by omega)).trans h'⟩
      split at h1
      · rename_i s2 hs2
        obtain ⟨C2, n2, hC2, hF2, hs2⟩ := hEx _ _ _ hs2
        split at h1
        case isFalse => cases h1
        rename_i hall
        have key2 := (vx_soundIn (r := some (w.heap.size + 1)) (n := m) (ds := []) hC2 hF2 hd0 hm (L := st.blocks.length) n2).1 body bd _ _ _ hs2 cbd pbd hv1.len G1 a1 A2 hR2 hT1 hd1
        rw [more_nil] at key2
        refine wpIn_mono key2 ?_
        rintro e2 a2 A3 hq2
        rw [moreQ_nil] at hq2
        obtain ⟨rfl, G2, hR3, hT3, hd3, hv3⟩ := hq2
        have hl3 := (hv3.stay _ _ (hR2.loose_obj hl2 rfl)).heap
        have hk3 := (hv3.stay _ _ (hR2.loose_obj hk2 rfl)).heap
        obtain ⟨f1, f2, f3⟩ := fin none A3 hl3 hk3
        refine ⟨_, _, f1, .inl ⟨rfl, ?_⟩⟩
        have hb2 := (vx_base n2).1 _ _ _ _ hs2
        have hb2 : s2.base = st.base := hb2.trans hb1
        have hcutR := (hR3.cut (n := st.blocks.length) (by rw [hb2]; exact hbase) hall).tmps st.tmps
        have hcutL : ∀ b o, Loose s2 G2 A3 b o → Loose { s2 with tmps := st.tmps, blocks := s2.blocks.take st.blocks.length } (G2.cut st.blocks.length) A3 b o := fun b o hl => ⟨hl.heap, fun i hi => (by
          have hi' : (if i < st.blocks.length then G2.ι i else none) = some b := hi
          split at hi'
          · exact hl.ι i hi'
          · cases hi'), hl.F, hl.tok⟩
        rw [hJ]
        refine ⟨_, G2.cut st.blocks.length, h1, rfl, ?_, hb2, hcutR.putObj _ hl3 rfl (by omega), ?_, ?_, f2, f3, ?_⟩
        · show (s2.blocks.take st.blocks.length).length = _
          rw [List.length_take]; have := hv3.len; omega
        · exact Gh.le_trans h5 (Gh.le_trans hv1.le (Gh.le_trans hv3.le (Gh.cut_cut_le G2 (Nat.le_refl _))))
        · exact fun b o hl => (hcutL b o (hv3.stay b o (hst2 b o (hne1 hl) (h6 b o hl)))).putObj (hne1 hl)
        · intro b o hS
          have hne : b ≠ w.heap.size + 1 ∨ b = w.heap.size + 1 := by omega
          rcases hne with hne | rfl
          · exact (hcutL b o (hv3.stay b o (hst2 b o hne (h9 b o hS)))).putObj hne
          · have := (h9 _ o hS).heap
            rw [h7] at this; cases this
            exact (hcutR.putObj _ hl3 rfl (by omega)).loose_obj f2 rfl
      · rename_i e2 s2 hne2 hs2
        obtain ⟨C2, n2, hC2, hF2, hs2⟩ := hEx _ _ _ hs2
        simp only [Option.some.injEq, Prod.mk.injEq] at h1
        obtain ⟨rfl, rfl⟩ := h1
        have key2 := (vx_soundIn (r := some (w.heap.size + 1)) (n := m) (ds := []) hC2 hF2 hd0 hm (L := st.blocks.length) n2).1 body bd _ _ _ hs2 cbd pbd hv1.len G1 a1 A2 hR2 hT1 hd1
        rw [more_nil] at key2
        refine wpIn_mono key2 ?_
        rintro e3 a2 A3 hq2
        rw [moreQ_nil] at hq2
        obtain ⟨rfl, G2, hR3, hT3, hd3, hv3⟩ := hq2
        have hl3 := (hv3.stay _ _ (hR2.loose_obj hl2 rfl)).heap
        have hk3 := (hv3.stay _ _ (hR2.loose_obj hk2 rfl)).heap
        have out : ∀ c : Code, c = e2.code → e2 ≠ .normal → ∃ v w', (Instr.endRound (w.heap.size + 1) (some c)).run P A3 = .ok v w' ∧ ((Ending.returned v = .returned (.bool true) ∧ J (j + 1) S w') ∨ (Ending.returned v = .returned (.bool false) ∧ Jx w')) := by
          rintro c rfl hne
          obtain ⟨f1, f2, f3⟩ := fin (some e2.code) A3 hl3 hk3
          refine ⟨_, _, f1, .inr ⟨rfl, ?_⟩⟩
          rw [hJx]
          exact ⟨hne, G2, (hR3.tmps st.tmps).putObj _ hl3 rfl (by omega), rfl, Gh.le_trans h5 (Gh.le_trans hv1.le hv3.le), fun b o hl => ((hv3.stay b o (hst2 b o (hne1 hl) (h6 b o hl))).putObj (hne1 hl)).st (fun _ h => h) rfl, hv3.len, f2, f3⟩
        cases e2 with
        | normal => exact (hne2 rfl).elim
        | exit id => exact out (.exit id) rfl (by simp)
        | ret => exact out .ret rfl (by simp)
      · cases h1
    · -- behind the iterator
      rintro e1 W2 ⟨⟨v, rfl⟩, h | h⟩
      · rw [hJ] at h
        obtain ⟨s, Gs, h1, h2, h3, h3b, h4, h5, h6, h7, h8, h9⟩ := h
        rw [List.drop_length] at h1
        simp only [vFor, Option.some.injEq, Prod.mk.injEq] at h1
        obtain ⟨rfl, rfl⟩ := h1
        have hend := run_endLoop (P := P) h7 (by rw [hrc]; simp)
        rw [hrc] at hend
        have hne1 : ∀ {b : Nat} {o : Obj}, Loose st G w b o → b ≠ w.heap.size + 1 := fun hl e => by have := hl.lt; omega
        refine ⟨none, _, hend, rfl, Gs, w.heap.size, h4.putObj _ h7 rfl (by omega), by rw [h2]; exact ht.uncut hlt h5, by simp [more, hdf], (h4.loose_obj h8 rfl).putObj (by omega), fun b o hl => (h6 b o hl).putObj (hne1 hl), h5, by omega, Nat.le_refl _⟩
      · rw [hJx] at h
        obtain ⟨he, Gs, h1, h2, h3, h4, h5, h6, h7⟩ := h
        have hend := run_endLoop (P := P) h6 (by rw [hrc]; simp)
        rw [hrc] at hend
        have hne1 : ∀ {b : Nat} {o : Obj}, Loose st G w b o → b ≠ w.heap.size + 1 := fun hl e => by have := hl.lt; omega
        refine ⟨some e.code, _, hend, ?_⟩
        have hP : ∀ e', e' = e.to → ForPost ds st.blocks.length st G w w0 G0 a0 e st' e' { more ds a0 with defers := [dmark w.heap.size] ++ (more ds a0).defers } (W2.putObj (w.heap.size + 1) (.loop { lrec fn a0.tmps ps assign body w.heap.size .done (some e.code) with state := .exhausted })) := by
          rintro e' rfl
          exact ⟨rfl, Gs, w.heap.size, h1.putObj _ h6 rfl (by omega), by rw [h2]; exact ht.uncut hlt h3, by simp [more, hdf], (h1.loose_obj h7 rfl).putObj (by omega), fun b o hl => (h4 b o hl).putObj (hne1 hl), h3, h5, Nat.le_refl _⟩
        cases e with
        | normal => exact absurd rfl he
        | exit id => exact wpIn_exit (hP _ rfl)
        | ret => exact wpIn_ret (hP _ rfl)
end
end Go.VM
namespace Go.VM
open Go.RowKit
inductive RCode where
  | base (v : VCode)
  | seq (a b : RCode)
  | block (id : Nat) (b : RCode)
  | rfor (x : VArg) (ps : List Nat) (as bd : VCode)
def epOf (bl : List (List V)) (n : Nat) : V → V
  | .ptr id 0 => if id < n then .any else match bl[id]? with
    | some (c :: cs) => match toDs (c :: cs) with
      | some ds => .ep ds
      | none => .any
    | _ => .any
  | .d x => .d x
  | _ => .any
def ptrIds (n : Nat) : List V → List Nat
  | [] => []
  | .ptr id 0 :: vs => if id < n then ptrIds n vs else id :: ptrIds n vs
  | _ :: vs => ptrIds n vs
abbrev Sq := FuncId → List V → Option (List (List V))
def SqOk (P : Program) (sq : Sq) : Prop := ∀ gf caps items, sq gf caps = some items → (∀ args w, (callFunc gf args).run P w = .ok (.enter gf args) w) ∧ ∀ (F : Fz) (lb : Array Value), RelL (Gh.ofF F) caps lb → Itr P gf lb F items
noncomputable def rx (Ex : VCode → St → Option (VExit × St)) (sq : Sq) : RCode → St → Option (VExit × St)
  | .base v, st => if v.plain then Ex v st else none
  | .seq a b, st => match rx Ex sq a st with
    | some (.normal, st') => rx Ex sq b st'
    | r => r
  | .block id b, st => match rx Ex sq b st with
    | some (.exit i, st') => if i = id then some (.normal, st') else some (.exit i, st')
    | r => r
  | .rfor x ps as bd, st => match x.ev st.tmps with
    | .fn gf caps => match sq gf (caps.map (epOf st.blocks st.base)) with
      | some items => if V.ltbL st.blocks.length st.tmps then vFor Ex as bd ps st.tmps st.blocks.length items { st with blocks := killL st.blocks (ptrIds st.base caps) } else none
      | none => none
    | _ => none
section
variable {P : Program} {w0 : World} {G0 : Gh} {st : St} {G : Gh} {w : World}
inductive CR (P : Program) : Code → RCode → Prop
  | base {c : Code} {v : VCode} (h : CCode P c v) : CR P c (.base v)
  | seq {a b : Code} {ra rb : RCode} (ha : CR P a ra) (hb : CR P b rb) : CR P (.seq a b) (.seq ra rb)
  | block {id : Nat} {b : Code} {rb : RCode} (hb : CR P b rb) : CR P (.block id b) (.block id rb)
  | rfor {g : Operand} {x : VArg} {ps : Array Tmp} {assign body : Code} {as bd : VCode} (hx : CArg g x) (ha : CCode P assign as) (hb : CCode P body bd) (pa : as.plain = true) (pb : bd.plain = true) : CR P (.rangeFunc g ps assign body) (.rfor x ps.toList as bd)
theorem RelV.ptr_ι {id off : Nat} {x : Value} (h : RelV G (.ptr id off) x) : ∃ b, G.ι id = some b := by
  cases h with
  | ptr hi => exact ⟨_, hi⟩
theorem ptrIds_mem {n : Nat} : ∀ {vs : List V} {id : Nat}, id ∈ ptrIds n vs → n ≤ id ∧ .ptr id 0 ∈ vs
  | [], id, h => by simp [ptrIds] at h
  | v :: vs, id, h => by
    unfold ptrIds at h
    split at h
    · cases h
    · rename_i i vs' heq
      cases heq
      split at h
      · have := ptrIds_mem h; exact ⟨this.1, List.mem_cons_of_mem _ this.2⟩
      · rcases List.mem_cons.1 h with rfl | h
        · exact ⟨by omega, List.mem_cons_self⟩
        · have := ptrIds_mem h; exact ⟨this.1, List.mem_cons_of_mem _ this.2⟩
    · rename_i heq
      cases heq
      have := ptrIds_mem h; exact ⟨this.1, List.mem_cons_of_mem _ this.2⟩
theorem ptrIds_of {n : Nat} : ∀ {vs : List V} {id : Nat}, n ≤ id → .ptr id 0 ∈ vs → id ∈ ptrIds n vs
  | [], id, _, h => by cases h
  | v :: vs, id, hn, h => by
    unfold ptrIds
    rcases List.mem_cons.1 h with rfl | h
    · simp only
      rw [if_neg (by omega)]
      exact List.mem_cons_self
    · have := ptrIds_of hn h
      split
      · rename_i heq; cases heq
      · rename_i heq
        cases heq
        split
        · exact this
        · exact List.mem_cons_of_mem _ this
      · rename_i heq; cases heq; exact this
theorem epOf_rel (h : Rl w0 G0 st G w) {ids : List Nat} {v : V} {x : Value} (hids : ∀ id, v = .ptr id 0 → st.base ≤ id → id ∈ ids) (hv : RelV G v x) : RelV (Gh.ofF (G.frzK w ids).F) (epOf st.blocks st.base v) x := by
  unfold epOf
  split
  · rename_i id
    split
    · exact .any _
    · rename_i hlt
      split
      · rename_i c cs hcs
        split
        · rename_i ds hds
          cases hv with
          | ptr hi =>
            rename_i b
            obtain ⟨b2, cur, e, hi2, hh, hl, hr⟩ := h.blkG id _ hcs
            obtain rfl : b = b2 := by rw [hi] at hi2; simpa using hi2
            obtain ⟨h1, h2⟩ := toDs_get hds
            have hd : G.dd id = false := by
              cases hdd : G.dd id with
              | false => rfl
              | true => have := h.ddb id hdd; rw [hcs] at this; cases this
            refine .ep (fun j => (cur[j]?).getD undef) (fun j hj => ?_) (fun j c' hj => ?_)
            · have hlt : j < cur.size := by omega
              show (G.frz w (fun i => i ∈ ids)).F b (0 + j) = _
              refine Gh.frz_cell h.fz (hids id rfl (by omega)) hd hi ?_
              rw [Nat.zero_add, Array.getElem?_eq_getElem hlt]
              simp [World.cell?, hh]
            · obtain ⟨v0, hv0, hvd⟩ := h2 j c' hj
              have hlt : j < cur.size := by have := (List.getElem?_eq_some_iff.1 hv0).1; omega
              rw [Array.getElem?_eq_getElem hlt]
              exact (toD_rel (hr j v0 _ hv0 (Array.getElem?_eq_getElem hlt)).2 hvd).mono (G.le_frzK w ids).F
        · exact .any _
      · exact .any _
  · cases hv with
    | d hx => exact .d (hx.mono (G.le_frzK w ids).F)
  · exact .any _
def RPost (w0 : World) (G0 : Gh) (e : VExit) (st : St) : Exit → Act → World → Prop :=
  fun e' a w => e' = e.to ∧ ∃ G a0, ∃ Ds : List Nat, a = more (Ds.map dmark) a0 ∧ a0.defers = [] ∧ Rl w0 G0 st G w ∧ RelT G st.tmps a0.tmps ∧ (∀ D ∈ Ds, Loose st G w D (.deferred (some [])) ∧ w0.heap.size ≤ D) ∧ Ds.Nodup
theorem rx_sound {Ex : VCode → St → Option (VExit × St)} (hEx : RunOk P Ex) {sq : Sq} (hsq : SqOk P sq) (hd0 : G0.dep = 0) (hm : P.follows .mixedOrders = true) {m : Nat} : ∀ (rc : RCode) (c : Code) (st : St) (e : VExit) (st' : St), rx Ex sq rc st = some (e, st') → CR P c rc →
    ∀ G a0 w (Ds : List Nat), Rl w0 G0 st G w → RelT G st.tmps a0.tmps → a0.defers = [] → (∀ D ∈ Ds, Loose st G w D (.deferred (some [])) ∧ w0.heap.size ≤ D) → Ds.Nodup → c.wpIn (wf none) m P (RPost w0 G0 e st') (more (Ds.map dmark) a0) w
  | .base v, c, st, e, st', h, hc, G, a0, w, Ds, hR, ht, hdf, hD, hN => by
    simp only [rx] at h
    split at h
    case isFalse => cases h
    rename_i hp
    obtain ⟨C, n, hC, hF, hx⟩ := hEx _ _ _ h
    cases hc with
    | base hcc =>
      refine wpIn_mono ((vx_soundIn (r := none) (n := m) (ds := Ds.map dmark) hC hF hd0 hm (L := 0) n).1 c v _ _ _ hx hcc hp (Nat.zero_le _) G a0 w hR ht hdf) ?_
      rintro e' a' w' ⟨a1, rfl, rfl, G', h1, h2, h3, h4⟩
      exact ⟨rfl, G', a1, Ds, rfl, h3, h1, h2, fun D hd => ⟨h4.stay _ _ (hD D hd).1, (hD D hd).2⟩, hN⟩
  | .seq ra rb, c, st, e, st', h, hc, G, a0, w, Ds, hR, ht, hdf, hD, hN => by
    cases hc with
    | seq ha hb =>
      simp only [rx] at h
      split at h
      · rename_i s hs
        refine wpIn_seq (wpIn_mono (rx_sound hEx hsq hd0 hm ra _ _ _ _ hs ha G a0 w Ds hR ht hdf hD hN) ?_)
        rintro e' a' w' ⟨rfl, G', a1, Ds', rfl, h1, h2, h3, h4, h5⟩
        exact rx_sound hEx hsq hd0 hm rb _ _ _ _ h hb G' a1 w' Ds' h2 h3 h1 h4 h5
      · rename_i hne
        refine wpIn_seq (wpIn_mono (rx_sound hEx hsq hd0 hm ra _ _ _ _ h ha G a0 w Ds hR ht hdf hD hN) ?_)
        rintro e' a' w' ⟨rfl, hrest⟩
        cases e with
        | normal => exact absurd h (hne _)
        | exit id => exact ⟨rfl, hrest⟩
        | ret => exact ⟨rfl, hrest⟩
  | .block id rb, c, st, e, st', h, hc, G, a0, w, Ds, hR, ht, hdf, hD, hN => by
    cases hc with
    | block hb =>
      simp only [rx] at h
      refine wpIn_block ?_
      split at h
      · rename_i i s hs
        refine wpIn_mono (rx_sound hEx hsq hd0 hm rb _ _ _ _ hs hb G a0 w Ds hR ht hdf hD hN) ?_
        rintro e' a' w' ⟨rfl, hrest⟩
        simp only [VExit.to, Exit.inBlock]
        split at h
        · rename_i hi; simp at h; obtain ⟨rfl, rfl⟩ := h; rw [if_pos hi]; exact ⟨rfl, hrest⟩
        · rename_i hi; simp at h; obtain ⟨rfl, rfl⟩ := h; rw [if_neg hi]; exact ⟨rfl, hrest⟩
      · rename_i hne
        refine wpIn_mono (rx_sound hEx hsq hd0 hm rb _ _ _ _ h hb G a0 w Ds hR ht hdf hD hN) ?_
        rintro e' a' w' ⟨rfl, hrest⟩
        cases e with
        | normal => exact ⟨rfl, hrest⟩
        | exit id => exact absurd h (hne _ _)
        | ret => exact ⟨rfl, hrest⟩
  | .rfor x ps as bd, c, st, e, st', h, hc, G, a0, w, Ds, hR, ht, hdf, hD, hN => by
    cases hc with
    | @rfor g _ psA assign body _ _ hx ha hb pa pb =>
      simp only [rx] at h
      split at h
      case h_2 => cases h
      rename_i gf caps hev
      split at h
      case h_2 => cases h
      rename_i items hit
      split at h
      case isFalse => cases h
      rename_i hlt
      have hrel := hx.rel ht
      rw [hev] at hrel
      obtain ⟨lb, hval, hlb⟩ : ∃ lb : Array Value, a0.eval g = .func (.func gf) #[] lb ∧ RelL G caps lb := by
        cases hrel' : a0.eval g with
        | _ => rw [hrel'] at hrel; cases hrel; try exact ⟨_, rfl, by assumption, by assumption⟩
      have hids : ∀ id ∈ ptrIds st.base caps, st.base ≤ id ∧ ∃ b, G.ι id = some b := by
        intro id hid
        obtain ⟨h1, h2⟩ := ptrIds_mem hid
        refine ⟨h1, ?_⟩
        obtain ⟨j, hj⟩ := List.mem_iff_getElem?.1 h2
        have hjl := (List.getElem?_eq_some_iff.1 hj).1
        exact (hlb.2 j _ _ hj (Array.getElem?_eq_getElem (by rw [hlb.1]; exact hjl))).ptr_ι
      obtain ⟨hR2, hst2⟩ := hR.freeze hids
      have hcaps : RelL (Gh.ofF (G.frzK w (ptrIds st.base caps)).F) (caps.map (epOf st.blocks st.base)) lb := by
        refine ⟨by rw [hlb.1]; simp, fun j v x hv hx => ?_⟩
        rw [List.getElem?_map] at hv
        obtain ⟨v0, hv0, rfl⟩ := Option.map_eq_some_iff.1 hv
        refine epOf_rel hR (fun id he hb => ptrIds_of hb ?_) (hlb.2 j v0 x hv0 hx)
        rw [← he]; exact List.mem_of_getElem? hv0
      obtain ⟨he, hI⟩ := hsq _ _ _ hit
      have key := wp_for (n := m) (ds := Ds.map dmark) (st := { st with blocks := killL st.blocks (ptrIds st.base caps) }) hEx hd0 hm ha hb pa pb hR2 (ht.mono (G.le_frzK w _)) hdf
        (by show V.ltbL (killL st.blocks _).length st.tmps = true; rw [killL_length]; exact hlt) hval he (hI _ _ hcaps) (e := e) (st' := st') (by show vFor Ex as bd psA.toList st.tmps (killL st.blocks _).length items _ = _; rw [killL_length]; exact h)
      refine wpIn_mono key ?_
      rintro e' a' w' ⟨rfl, G', D, h1, h2, rfl, h3, h4, _, _, h5⟩
      refine ⟨rfl, G', a0, D :: Ds, rfl, hdf, h1, h2, ?_, ?_⟩
      · intro D' hD'
        rcases List.mem_cons.1 hD' with rfl | hD'
        · exact ⟨h3, Nat.le_trans hR.wx.size h5⟩
        · exact ⟨h4 _ _ (hst2 _ _ (hD D' hD').1), (hD D' hD').2⟩
      · refine List.nodup_cons.2 ⟨fun hmem => ?_, hN⟩
        have := (hD D hmem).1.lt
        omega
theorem leaves_marks {fn : Func} {tmps : Array Value} {n : Nat} {R : Ending → World → Prop} : ∀ (Ds : List Nat) (w : World), Ds.Nodup → (∀ D ∈ Ds, w.heap[D]? = some (.deferred (some []))) →
    (∀ w', w'.os = w.os → w'.tape = w.tape → w'.output = w.output → w'.heap.size = w.heap.size → (∀ b, b ∉ Ds → w'.heap[b]? = w.heap[b]?) → ∃ v, (results fn tmps).run P w' = .ok v w' ∧ R (.returned v) w') →
    LeavesInM (wf none) n P fn tmps R (Ds.map dmark) .returning w
  | [], w, _, _, h => by
    obtain ⟨v, h1, h2⟩ := h w rfl rfl rfl rfl (fun _ _ => rfl)
    exact ⟨v, h1, h2⟩
  | D :: Ds, w, hN, hD, h => by
    have hn := List.nodup_cons.1 hN
    refine ⟨by simp, .inl ⟨D, _, rfl, run_takeDeferred (hD D List.mem_cons_self), ?_⟩⟩
    refine leaves_marks Ds _ hn.2 (fun D' hD' => ?_) (fun w' h1 h2 h3 h4 h5 => ?_)
    · rw [World.putObj_heap_other (fun e => hn.1 (by rw [← e]; exact hD'))]; exact hD D' (List.mem_cons_of_mem _ hD')
    · refine h w' h1 h2 h3 (by rw [h4, World.putObj_size]) (fun b hb => ?_)
      rw [h5 b (fun hm => hb (List.mem_cons_of_mem _ hm)), World.putObj_heap_other (fun e => hb (by rw [e]; exact List.mem_cons_self))]
theorem Rl.turn (h : Rl w0 G0 st G w) {Ds : List Nat} (hD : ∀ D ∈ Ds, w0.heap.size ≤ D ∧ ∃ o, w.heap[D]? = some o ∧ o.isCells = false) {w' : World} (h1 : w'.os = w.os) (h2 : w'.tape = w.tape) (h3 : w'.output = w.output) (h4 : w'.heap.size = w.heap.size)
    (h5 : ∀ b, b ∉ Ds → w'.heap[b]? = w.heap[b]?) : Rl w0 G0 st G w' := by
  have nc : ∀ {b : Nat} {o : Obj}, w.heap[b]? = some o → o.isCells = true → w'.heap[b]? = w.heap[b]? := fun hb ho => h5 _ (fun hm => by
    obtain ⟨_, o', h6, h7⟩ := hD _ hm
    rw [hb] at h6; cases h6; rw [ho] at h7; cases h7)
  exact
    { h with
      wx := ⟨h1.trans h.wx.os, h2.trans h.wx.tape, h3.trans h.wx.output, by rw [h4]; exact h.wx.size, fun b hlt hT => (h5 b (fun hm => by have := (hD b hm).1; omega)).trans (h.wx.block b hlt hT)⟩
      fz := fun b o u hf => by
        obtain ⟨ob, h6, h7⟩ := cell_obj (h.fz b o u hf)
        rw [World.cell?_of_block (w := w) (nc h6 h7)]; exact h.fz b o u hf
      blk := fun k cs hk => (h.blk k cs hk).world fun b hi => by
        obtain ⟨ob, h6, h7⟩ := h.ι_obj (i := k) (b := b) (by split at hi <;> exact hi)
        exact nc h6 h7
      zok := fun i b hi => by
        obtain ⟨cur, e, h6, h7⟩ := h.zok i b hi
        exact ⟨cur, e, by rw [nc h6 rfl]; exact h6, h7⟩
      tok := fun g hg => by
        obtain ⟨k1, a, len, cap, sz, k2, k3⟩ := h.tok g hg
        refine ⟨k1, a, len, cap, sz, k2, ?_⟩
        rcases k3 with k3 | ⟨b, e, cur, r1, r2, r3, r4, rest⟩
        · exact .inl k3
        · exact .inr ⟨b, e, cur, r1, r2, r3, by rw [nc r4 rfl]; exact r4, rest⟩ }
noncomputable def vRunR (Ex : VCode → St → Option (VExit × St)) (sq : Sq) (vf : VFunc) (rc : RCode) (args : List V) (blks : List (List V)) : Option Ret :=
  match rx Ex sq rc (vf.start args blks) with
  | some (.normal, st) => if st.base = blks.length then vRet vf blks.length st else none
  | some (.ret, st) => if st.base = blks.length then vRet vf blks.length st else none
  | _ => none
structure CFuncR (P : Program) (f : FuncId) (vf : VFunc) (rc : RCode) : Prop where
  ex : ∃ fn code, P.funcs[f]? = some fn ∧ fn.body = some code ∧ (fn.name == "runtime.NumGoroutine") = false ∧ fn.ntmps = vf.ntmps ∧ CR P code rc ∧ CRes P fn.results.toList vf.res
theorem runR_sound {Ex : VCode → St → Option (VExit × St)} (hEx : RunOk P Ex) {sq : Sq} (hsq : SqOk P sq) (hm : P.follows .mixedOrders = true) {f : FuncId} {vf : VFunc} {rc : RCode} (hf : CFuncR P f vf rc) {args : List V} {blks : List (List V)} {ret : Ret}
    (hr : vRunR Ex sq vf rc args blks = some ret) : VC P f args blks ret := by
  intro G w xs hargs hR
  obtain ⟨fn, code, hfn, hbody, hname, hnt, hcode, hres⟩ := hf.ex
  have hd0 : G.dep = 0 := hR.dep
  have main : ∀ e st, rx Ex sq rc (vf.start args blks) = some (e, st) → (e = .normal ∨ e = .ret) → st.base = blks.length → vRet vf blks.length st = some ret →
      Calls P f xs w fun e w' => ∃ v G', e = .returned v ∧ RelV G' ret.r v ∧ Rl w G (ret.st blks.length) G' w' := by
    intro e st hx he hbase hret
    refine (callsIn_wide (n := 0)).1 (callsIn_of_wp_marks hfn hbody trivial ?_ rfl)
    have key := rx_sound (w0 := w) (G0 := G) (m := 0) hEx hsq hd0 hm rc code _ _ _ hx hcode G { tmps := xs ++ Array.replicate (fn.ntmps - xs.size) undef, defers := [] } w [] ?_ ?_ rfl (fun _ h => by cases h) List.nodup_nil
    · rw [List.map_nil, more_nil] at key
      refine wpIn_mono key ?_
      rintro e' a' w' ⟨rfl, G', a1, Ds, rfl, h1, h2, h3, h4, h5⟩
      have fin : LeavesInM (wf none) 0 P fn (more (Ds.map dmark) a1).tmps (fun e w' => ∃ v G', e = .returned v ∧ RelV G' ret.r v ∧ Rl w G (ret.st blks.length) G' w') (more (Ds.map dmark) a1).defers .returning w' := by
        show LeavesInM (wf none) 0 P fn a1.tmps _ (a1.defers ++ Ds.map dmark) .returning w'
        rw [h1, List.nil_append]
        refine leaves_marks Ds w' h5 (fun D hD => (h4 D hD).1.heap) (fun w2 k1 k2 k3 k4 k5 => ?_)
        have hR2 := h2.turn (Ds := Ds) (fun D hD => ⟨(h4 D hD).2, _, (h4 D hD).1.heap, rfl⟩) k1 k2 k3 k4 k5
        obtain ⟨v, G'', j1, j2, j3⟩ := vRet_sound hres hret hR2 h3 hbase hd0
        exact ⟨v, j1, v, G'', rfl, j2, j3⟩
      rcases he with rfl | rfl <;> exact fin
    · exact hR.tmps (args ++ List.replicate (vf.ntmps - args.length) .any)
    · refine ⟨by simp [VFunc.start, hargs.1, hnt], fun t v x h1 h2 => ?_⟩
      simp only [VFunc.start] at h1
      rw [List.getElem?_append] at h1
      rw [Array.getElem?_append, hargs.1] at h2
      split at h1
      · rename_i hlt; rw [if_pos hlt] at h2
        exact hargs.2 t v x h1 h2
      · have := List.mem_of_getElem? h1
        rw [List.mem_replicate] at this
        rw [this.2]; exact .any _
  unfold vRunR at hr
  split at hr
  · rename_i st hx
    split at hr
    · rename_i hb; exact main _ _ hx (.inl rfl) hb hr
    · cases hr
  · rename_i st hx
    split at hr
    · rename_i hb; exact main _ _ hx (.inr rfl) hb hr
    · cases hr
  · cases hr
end
end Go.VM
namespace Go.VM
section
variable {P : Program} {F : Fz} {w : World} {n : Nat}
theorem COpers.split {ops : Array Oper} : ∀ {l : List Oper} {v1 v2 : List VOper}, COpers P ops l (v1 ++ v2) → ∃ l1 l2, l = l1 ++ l2 ∧ COpers P ops l1 v1 ∧ COpers P ops l2 v2
  | l, [], v2, h => ⟨[], l, rfl, .nil, h⟩
  | _, v :: v1, v2, .cons ho hs => by
    obtain ⟨l1, l2, rfl, h1, h2⟩ := COpers.split hs
    exact ⟨_ :: l1, l2, rfl, .cons ho h1, h2⟩
theorem RelT.weaken {G : Gh} {ts ts' : List V} {xs : Array Value} (h : RelT G ts xs) (hl : ts'.length = ts.length) (hw : ∀ (t : Nat) v, ts'[t]? = some v → v = .any ∨ ts[t]? = some v) : RelT G ts' xs :=
  ⟨h.1.trans hl.symm, fun t v x hv hx => by
    rcases hw t v hv with rfl | h'
    · exact .any x
    · exact h.2 t v x h' hx⟩
theorem RelT.forget {G : Gh} {ts : List V} {xs : Array Value} (h : RelT G ts xs) (keep : List Bool) : RelT G (forget keep ts) xs :=
  h.weaken (forget_length keep ts) (fun t v hv => forget_get keep ts t v hv)
end
end Go.VM
namespace Go.VM
section
variable {P : Program}
def compR (P : Program) (mts : List Nat) (n : Nat) : Code → Option RCode
  | .rangeFunc g ps a b => match cArg g, comp P mts n a, comp P mts n b with
    | some x, some va, some vb => if va.plain && vb.plain then some (.rfor x ps.toList va vb) else none
    | _, _, _ => none
  | .seq a b => match comp P mts n (.seq a b) with
    | some v => some (.base v)
    | none => match compR P mts n a, compR P mts n b with
      | some ra, some rb => some (.seq ra rb)
      | _, _ => none
  | .block id b => match comp P mts n (.block id b) with
    | some v => some (.base v)
    | none => match compR P mts n b with
      | some rb => some (.block id rb)
      | none => none
  | c => match comp P mts n c with
    | some v => some (.base v)
    | none => none
def compFnR (P : Program) (mts : List Nat) (f : FuncId) : Option (VFunc × RCode) :=
  match P.funcs[f]? with
  | some fn => match fn.body with
    | some code => match compR P mts fn.ntmps code, cRes P fn.results.toList with
      | some rc, some rs => if (fn.name == "runtime.NumGoroutine") = false then some ({ ntmps := fn.ntmps, body := .skip, res := rs, keep := false }, rc) else none
      | _, _ => none
    | none => none
  | none => none
theorem compR_ok {mts : List Nat} {n : Nat} : ∀ {c : Code} {rc : RCode}, compR P mts n c = some rc → CR P c rc
  | .rangeFunc g ps a b, rc, h => by
    simp only [compR] at h
    split at h
    case h_2 => cases h
    rename_i x va vb h1 h2 h3
    split at h
    case isFalse => cases h
    rename_i hp
    rw [Bool.and_eq_true] at hp
    simp only [Option.some.injEq] at h; subst h
    exact .rfor (cArg_ok h1) (comp_ok h2) (comp_ok h3) hp.1 hp.2
  | .seq a b, rc, h => by
    simp only [compR] at h
    split at h
    · rename_i v hv; simp only [Option.some.injEq] at h; subst h; exact .base (comp_ok hv)
    · split at h
      · rename_i ra rb h1 h2; simp only [Option.some.injEq] at h; subst h; exact .seq (compR_ok h1) (compR_ok h2)
      · cases h
  | .block id b, rc, h => by
    simp only [compR] at h
    split at h
    · rename_i v hv; simp only [Option.some.injEq] at h; subst h; exact .base (comp_ok hv)
    · split at h
      · rename_i rb h1; simp only [Option.some.injEq] at h; subst h; exact .block (compR_ok h1)
      · cases h
  | .skip, rc, h | .region .., rc, h | .cond .., rc, h | .loop .., rc, h | .exit .., rc, h | .ret, rc, h | .scope .., rc, h | .label .., rc, h | .goto .., rc, h | .refuse .., rc, h => by
    simp only [compR] at h
    split at h
    · rename_i v hv; simp only [Option.some.injEq] at h; subst h; exact .base (comp_ok hv)
    · cases h
theorem compFnR_ok {mts : List Nat} {f : FuncId} {vf : VFunc} {rc : RCode} (h : compFnR P mts f = some (vf, rc)) : CFuncR P f vf rc := by
  unfold compFnR at h
  split at h
  case h_2 => cases h
  rename_i fn hfn
  split at h
  case h_2 => cases h
  rename_i code hc
  split at h
  case h_2 => cases h
  rename_i r rs hr hrs
  split at h
  case isFalse => cases h
  rename_i hn
  simp only [Option.some.injEq, Prod.mk.injEq] at h
  obtain ⟨rfl, rfl⟩ := h
  exact ⟨fn, code, hfn, hc, hn, rfl, compR_ok hr, cRes_ok hrs⟩
theorem runOk_X {VP : VProg} (hP : CProg P VP) (hm : Fits P = true) : RunOk P (X VP) := fun c st r h => by
  obtain ⟨n, hn⟩ := X_iff.1 h
  obtain ⟨h1, h2⟩ := vcall_sound hP hm n
  exact ⟨_, n, h1, h2, hn⟩
def RXR (VP : VProg) (sq : Sq) (rc : RCode) (st : St) (Q : VExit → St → Prop) : Prop := ∃ e st', rx (X VP) sq rc st = some (e, st') ∧ Q e st'
variable {VP : VProg} {sq : Sq} {st : St} {Q : VExit → St → Prop}
theorem RXR_base {v : VCode} (hp : v.plain = true) (h : RX VP v st Q) : RXR VP sq (.base v) st Q := by
  obtain ⟨e, st', h1, h2⟩ := h
  exact ⟨e, st', by simp only [rx]; rw [if_pos hp]; exact h1, h2⟩
theorem RXR_seq {a b : RCode} (h : RXR VP sq a st fun e st' => match e with | .normal => RXR VP sq b st' Q | e => Q e st') : RXR VP sq (.seq a b) st Q := by
  obtain ⟨e, st', h1, h2⟩ := h
  cases e with
  | normal =>
    obtain ⟨e2, st2, h3, h4⟩ := h2
    exact ⟨e2, st2, by simp only [rx]; rw [h1]; exact h3, h4⟩
  | exit id => exact ⟨.exit id, st', by simp only [rx]; rw [h1], h2⟩
  | ret => exact ⟨.ret, st', by simp only [rx]; rw [h1], h2⟩
theorem RXR_block {id : Nat} {b : RCode} (h : RXR VP sq b st fun e st' => Q (e.out id) st') : RXR VP sq (.block id b) st Q := by
  obtain ⟨e, st', h1, h2⟩ := h
  refine ⟨e.out id, st', ?_, h2⟩
  simp only [rx]
  rw [h1]
  cases e with
  | normal => rfl
  | ret => rfl
  | exit i =>
    simp only [VExit.out]
    split <;> rfl
def RFor (VP : VProg) (as bd : VCode) (ps : List Nat) (tm : List V) (L : Nat) : List (List V) → St → (VExit → St → Prop) → Prop
  | [], st, Q => Q .normal st
  | it :: its, st, Q => it.length = ps.length ∧ RX VP as { st with tmps := setPs ps it tm } fun e s1 => e = .normal ∧ RX VP bd s1 fun e s2 => match e with
    | .normal => (s2.blocks.take L).all (V.ltbL L) = true ∧ RFor VP as bd ps tm L its { s2 with tmps := tm, blocks := s2.blocks.take L } Q
    | e => Q e { s2 with tmps := tm }
theorem RFor_run {as bd : VCode} {ps : List Nat} {tm : List V} {L : Nat} : ∀ {its : List (List V)} {st : St} {Q : VExit → St → Prop}, RFor VP as bd ps tm L its st Q → ∃ e st', vFor (X VP) as bd ps tm L its st = some (e, st') ∧ Q e st'
  | [], st, Q, h => ⟨.normal, st, rfl, h⟩
  | it :: its, st, Q, h => by
    obtain ⟨hl, e, s1, h1, rfl, e2, s2, h2, h3⟩ := h
    simp only [vFor]
    rw [if_pos hl, h1]
    simp only
    rw [h2]
    cases e2 with
    | normal =>
      obtain ⟨h4, h5⟩ := h3
      simp only
      rw [if_pos h4]
      exact RFor_run h5
    | exit id => exact ⟨_, _, rfl, h3⟩
    | ret => exact ⟨_, _, rfl, h3⟩
theorem RXR_for {x : VArg} {ps : List Nat} {as bd : VCode} {gf : FuncId} {caps : List V} {items : List (List V)} (hx : x.ev st.tmps = .fn gf caps) (hi : sq gf (caps.map (epOf st.blocks st.base)) = some items) (hl : V.ltbL st.blocks.length st.tmps = true)
    (h : RFor VP as bd ps st.tmps st.blocks.length items { st with blocks := killL st.blocks (ptrIds st.base caps) } Q) : RXR VP sq (.rfor x ps as bd) st Q := by
  obtain ⟨e, st', h1, h2⟩ := RFor_run h
  refine ⟨e, st', ?_, h2⟩
  simp only [rx]
  rw [hx]
  simp only
  rw [hi]
  simp only
  rw [if_pos hl]
  exact h1
theorem runR_of {vf : VFunc} {rc : RCode} {args : List V} {blks : List (List V)} {ret : Ret} (h : RXR VP sq rc (vf.start args blks) fun e st => (e = .normal ∨ e = .ret) ∧ st.base = blks.length ∧ vRet vf blks.length st = some ret) :
    vRunR (X VP) sq vf rc args blks = some ret := by
  obtain ⟨e, st, h1, h2, h3, h4⟩ := h
  unfold vRunR
  rw [h1]
  rcases h2 with rfl | rfl
  · simp only; rw [if_pos h3]; exact h4
  · simp only; rw [if_pos h3]; exact h4
noncomputable def natR (VP : VProg) (sq : Sq) (T : FuncId → Option (VFunc × RCode)) : Orc := fun f args blks => match T f with
  | some (vf, rc) => vRunR (X VP) sq vf rc args blks
  | none => none
theorem natR_ok {T : FuncId → Option (VFunc × RCode)} (hP : CProg P VP) (hm : Fits P = true) (hsq : SqOk P sq) (hT : ∀ f vf rc, T f = some (vf, rc) → CFuncR P f vf rc) : OrcOk P (natR VP sq T) := fun f args blks ret h => by
  unfold natR at h
  split at h
  · rename_i vf rc ht
    exact runR_sound (runOk_X hP hm) hsq (fits_of hm).1 (hT f vf rc ht) h
  · cases h
theorem natR_fn {T : FuncId → Option (VFunc × RCode)} (hT : ∀ f vf rc, T f = some (vf, rc) → CFuncR P f vf rc) : OrcFn P (natR VP sq T) := fun f args blks ret h => by
  unfold natR at h
  split at h
  · rename_i vf rc ht
    obtain ⟨fn, code, h1, h2, h3, _⟩ := (hT f vf rc ht).ex
    exact ⟨fn, h1, by rw [h2]; rfl, h3⟩
  · cases h
end
end Go.VM
namespace Go.VM
theorem CV_moreI {VP : VProg} {N : Orc} (hN : ∀ f a b r, N f a b = some r → (f < 1000000 ∨ VP.fn (f - 1000000) = none) ∧ VP.fn f = none ∧ ∀ a b, VP.nat f a b = none) {f : FuncId} {a : List V} {b : List (List V)} {r : Ret} (h : CV VP f a b = some r) : CV ⟨VP.fn, orN N VP.nat⟩ f a b = some r := by
  have key : ∀ n, Orc.le (vcall VP n) (vcall ⟨VP.fn, orN N VP.nat⟩ n) := by
    intro n
    induction n with
    | zero => exact fun f a b r h => by simp [vcall] at h
    | succ n ih =>
      intro f a b r h
      rw [vcall] at h ⊢
      simp only [orN]
      cases hn : N f a b with
      | some r' =>
        obtain ⟨h1, h2, h3⟩ := hN f a b r' hn
        rw [h3, h2] at h
        simp only at h
        rcases h1 with h1 | h1
        · rw [if_neg (Nat.not_le.2 h1)] at h
          cases h
        · split at h
          · split at h
            · rename_i hv; rw [h1] at hv; cases hv
            · cases h
          · cases h
      | none =>
        simp only
        cases hr : VP.nat f a b with
        | some r' => rw [hr] at h; exact h
        | none =>
          rw [hr] at h
          simp only at h ⊢
          cases hv : VP.fn f with
          | some vf => rw [hv] at h; exact vRun_mono ih (Nat.le_refl n) h
          | none =>
            rw [hv] at h
            simp only at h ⊢
            split at h
            · rename_i hge
              rw [if_pos hge]
              split at h
              · exact vRunI_mono ih (Nat.le_refl n) h
              · cases h
            · cases h
  obtain ⟨n, hn⟩ := CV_iff.1 h
  exact CV_iff.2 ⟨n, key n _ _ _ _ hn⟩
end Go.VM
namespace Go.VM
theorem Host.box {F F' : Fz} {J : Nat → (Nat → Obj → Prop) → World → Prop} {Jx : World → Prop} (h : Host F J Jx) {b : Nat} {o : Obj}
    (hF : ∀ b' k u, F' b' k = some u → F b' k = some u ∨ (b' = b ∧ ∀ W : World, W.heap[b]? = some o → W.cell? ⟨b, k, none⟩ = some u)) :
    Host F' (fun j S W => J j (fun b' o' => S b' o' ∨ (b' = b ∧ o' = o)) W) Jx where
  look hJ hS := h.look hJ (.inl hS)
  fz hJ := fun b' k u hf => by
    rcases hF b' k u hf with q | ⟨rfl, q⟩
    · exact h.fz hJ b' k u q
    · exact q _ (h.look hJ (.inr ⟨rfl, rfl⟩))
  grow hJ hw := h.weak (fun b' o' q => by
    rcases q with (q | q) | q
    · exact .inl (.inl q)
    · exact .inr q
    · exact .inl (.inr q)) (h.grow hJ hw)
  growx hJ hw := h.growx hJ hw
  weak hS hJ := h.weak (fun b' o' q => q.imp (hS b' o') id) hJ
end Go.VM
