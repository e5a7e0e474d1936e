/- The value level machine, fourth part: a form of it that the kernel reckons fast, proved right. Conditions: none. -/
import Derived.Test.YtjhfakhmflemmaaVc
set_option linter.unusedSimpArgs false
set_option linter.unusedVariables false
namespace Go.VM
/-! a machine that the kernel reckons fast: every list is forced before one goes on; choices that are not literal are given beforehand and owed -/
abbrev Rs := Option (Ret × List (Bool × Bool))
def OKs (l : List (Bool × Bool)) : Prop := ∀ p ∈ l, p.1 = p.2
theorem OKs.sub {a b : List (Bool × Bool)} (h : OKs b) (hs : a ⊆ b) : OKs a := fun p hp => h p (hs hp)

noncomputable def over {α : Type} (cs z : List α) (k : List α → Rs) : Rs :=
  List.rec (motive := fun _ => List α → (List α → Rs) → Rs) (fun z k => k z) (fun c _ ih z k => List.rec (motive := fun _ => Rs) none (fun _ z' _ => ih z' fun r => k (c :: r)) z) cs z k
/-! what holds no block and no token -/
end Go.VM

set_option linter.unusedVariables false
namespace Go.VM
end Go.VM

set_option linter.unusedVariables false
namespace Go.VM
end Go.VM

namespace Go.VM
/-! the slots as a tree -/
inductive TS where
  | lf
  | nd (v : V) (l r : TS)
  deriving Inhabited
noncomputable def getT (t : TS) (n : Nat) : V :=
  TS.rec (motive := fun _ => Nat → V) (fun _ => .any) (fun v _ _ il ir n => Nat.rec (motive := fun _ => V) v (fun m _ => match Nat.beq (Nat.mod m 2) 0 with
    | true => il (Nat.div m 2)
    | false => ir (Nat.div m 2)) n) t n
/-- the tree holds what the list holds -/
structure TrOf (N : Nat) (t : TS) (ts : List V) : Prop where
  len : ts.length = N
  get : ∀ i, getT t i = ts.getD i .any
noncomputable def evT (t : TS) (a : VArg) : V := match a with
  | .t n => getT t n
  | .c v => v
theorem TrOf.ev {N : Nat} {t : TS} {ts : List V} (h : TrOf N t ts) : evT t = VArg.ev ts := by
  funext a
  cases a with
  | t n => exact h.get n
  | c v => rfl
end Go.VM

namespace Go.VM
/-! a drawn region whose order matters: the states on the way -/
/-- a state on the way: its tree, its blocks, and what the operation behind it may turn -/
structure Tk where
  t : TS
  bl : List (List V)
  c : Option (Option Nat)
  deriving Inhabited
/-- the traces go together -/
inductive TkOf (N : Nat) : List Tk → List St → Prop
  | nil : TkOf N [] []
  | cons {tk : Tk} {st : St} {tks : List Tk} {sts : List St} (h1 : TrOf N tk.t st.tmps) (h2 : tk.bl = st.blocks) (h3 : ∀ c, tk.c = some c → ∀ st', sts.head? = some st' → ∀ id, id < st.blocks.length → c ≠ some id → st'.blocks[id]? = st.blocks[id]?) (h : TkOf N tks sts) : TkOf N (tk :: tks) (st :: sts)
theorem TkOf.len {N : Nat} : ∀ {tks : List Tk} {sts : List St}, TkOf N tks sts → tks.length = sts.length
  | _, _, .nil => rfl
  | _, _, .cons _ _ _ h => by rw [List.length_cons, List.length_cons, h.len]
theorem TkOf.get {N : Nat} : ∀ {tks : List Tk} {sts : List St}, TkOf N tks sts → ∀ e, e < sts.length → TrOf N (tks.getD e default).t (sts.getD e default).tmps ∧ (tks.getD e default).bl = (sts.getD e default).blocks ∧
    ∀ c, (tks.getD e default).c = some c → e + 1 < sts.length → ∀ id, id < (sts.getD e default).blocks.length → c ≠ some id → (sts.getD (e + 1) default).blocks[id]? = (sts.getD e default).blocks[id]?
  | _, _, .nil, e, he => absurd he (Nat.not_lt_zero _)
  | _, _, .cons (tk := tk) (st := st) (tks := tks) (sts := sts) h1 h2 h3 h, 0, _ => by
    refine ⟨h1, h2, fun c hc hl id hid hne => ?_⟩
    cases sts with
    | nil => simp at hl
    | cons s2 sts => exact h3 c hc s2 rfl id hid hne
  | _, _, .cons (tk := tk) (st := st) (tks := tks) (sts := sts) h1 h2 h3 h, e + 1, he => by
    have := h.get e (by simpa using he)
    simp only [List.getD_cons_succ]
    refine ⟨this.1, this.2.1, fun c hc hl => ?_⟩
    exact this.2.2 c hc (by simpa using hl)
/-! the same comparison, integers by choices that may be told beforehand -/
end Go.VM

namespace Go.VM
theorem fgt_len : ∀ (keep : List Bool) (ts : List V), (forget keep ts).length = ts.length
  | _, [] => by cases ‹List Bool› <;> rfl
  | [], v :: ts => by simp only [forget, List.length_cons, fgt_len [] ts]
  | k :: ks, v :: ts => by simp only [forget, List.length_cons, fgt_len ks ts]
theorem fgt_get : ∀ (keep : List Bool) (ts : List V) (i : Nat), (forget keep ts).getD i .any = if keep.getD i false = true then ts.getD i .any else .any
  | keep, [], i => by
    have : forget keep [] = [] := by cases keep <;> rfl
    rw [this]
    simp
  | [], v :: ts, 0 => by simp [forget]
  | [], v :: ts, i + 1 => by
    simp only [forget, List.getD_cons_succ, fgt_get [] ts i]
    simp
  | k :: ks, v :: ts, 0 => by simp [forget]
  | k :: ks, v :: ts, i + 1 => by
    simp only [forget, List.getD_cons_succ, fgt_get ks ts i]
end Go.VM

namespace Go.VM
/-- which functions are compiled, as a tree -/
inductive FT where
  | no
  | fn (k : Nat) (vf : VFunc)
  | nd (m : Nat) (l r : FT)
noncomputable def FT.get (t : FT) (f : Nat) : Option VFunc :=
  FT.rec (motive := fun _ => Option VFunc) none (fun k vf => match Nat.beq f k with | true => some vf | false => none) (fun m _ _ il ir => match Nat.ble f m with | true => il | false => ir) t
def FT.all (p : Nat → VFunc → Prop) : FT → Prop
  | .no => True
  | .fn k vf => p k vf
  | .nd _ l r => l.all p ∧ r.all p
theorem FT.get_ok {p : Nat → VFunc → Prop} : ∀ {t : FT}, t.all p → ∀ {f vf}, t.get f = some vf → p f vf
  | .no, _, f, vf, h => by cases h
  | .fn k vf', hp, f, vf, h => by
    simp only [FT.get] at h
    split at h
    · rename_i hk
      rw [Nat.eq_of_beq_eq_true hk]
      simp only [Option.some.injEq] at h
      subst h
      exact hp
    · cases h
  | .nd m l r, hp, f, vf, h => by
    have hg : (FT.nd m l r).get f = match Nat.ble f m with | true => l.get f | false => r.get f := rfl
    rw [hg] at h
    split at h
    · exact FT.get_ok hp.1 h
    · exact FT.get_ok hp.2 h
theorem FT.ok {P : Program} {t : FT} (h : t.all (fun k v => CFunc P k v)) : ∀ f vf, t.get f = some vf → CFunc P f vf := fun _ _ hg => FT.get_ok (p := fun k v => CFunc P k v) h hg
theorem cprogT_of {P : Program} {t : FT} (h : t.all (fun k v => CFunc P k v)) : CProg P ⟨t.get, noNat⟩ :=
  ⟨FT.ok h, (fun _ _ _ _ h => by cases h), (fun _ _ _ _ h => by cases h)⟩
theorem cprogT_clone {P : Program} {t : FT} (h : t.all (fun k v => CFunc P k v)) {cl : List Nat} (hcl : ∀ f ∈ cl, VC P f [.d (.sl [])] [] ⟨.d (.sl []), [], [], 0⟩ ∧ ∃ vf, CFunc P f vf) :
    CProg P ⟨t.get, cloneNat cl⟩ := by
  have key : ∀ f args blks ret, cloneNat cl f args blks = some ret → f ∈ cl ∧ args = [.d (.sl [])] ∧ blks = [] ∧ ret = ⟨.d (.sl []), [], [], 0⟩ := by
    intro f args blks ret h
    unfold cloneNat at h
    split at h
    · cases h
    · rename_i hf
      exact ⟨natMem_iff hf, cloneNat1_some h⟩
  refine ⟨FT.ok h, fun f args blks ret hr => ?_, fun f args blks ret hr => ?_⟩
  · obtain ⟨hf, rfl, rfl, rfl⟩ := key f args blks ret hr
    exact (hcl f hf).1
  · obtain ⟨hf, _⟩ := key f args blks ret hr
    obtain ⟨vf, hvf⟩ := (hcl f hf).2
    obtain ⟨fn, code, hfn, hbody, hname, _⟩ := hvf.ex
    exact ⟨fn, hfn, by rw [hbody]; rfl, hname⟩
/-- what Clone answers of an empty slice, frozen or one that may be written later -/
def lkN (m : List (Nat × Nat)) (f : Nat) : Option Nat := match m with
  | [] => none
  | (k, sz) :: r => match Nat.beq f k with
    | true => some sz
    | false => lkN r f
theorem lkN_mem {f sz : Nat} : ∀ {m : List (Nat × Nat)}, lkN m f = some sz → (f, sz) ∈ m
  | (k, s) :: r, h => by
    simp only [lkN] at h
    split at h
    · rename_i hk
      simp only [Option.some.injEq] at h; subst h
      rw [Nat.eq_of_beq_eq_true hk]; exact List.mem_cons_self
    · exact List.mem_cons_of_mem _ (lkN_mem h)
def cloneM (sz : Nat) : List V → List (List V) → Option Ret
  | [.d (.sl [])], [] => some ⟨.sl sz [] .full, [], [], 0⟩
  | _, _ => none
def cloneNat2 (l : List Nat) (m : List (Nat × Nat)) : Orc := fun f args blks => match lkN m f with
  | some sz => cloneM sz args blks
  | none => cloneNat l f args blks
theorem cprogT_clone2 {P : Program} {t : FT} (h : t.all (fun k v => CFunc P k v)) {cl : List Nat} {cm : List (Nat × Nat)} (hcl : ∀ f ∈ cl, VC P f [.d (.sl [])] [] ⟨.d (.sl []), [], [], 0⟩ ∧ ∃ vf, CFunc P f vf)
    (hcm : ∀ p ∈ cm, VC P p.1 [.d (.sl [])] [] ⟨.sl p.2 [] .full, [], [], 0⟩ ∧ ∃ vf, CFunc P p.1 vf) :
    CProg P ⟨t.get, cloneNat2 cl cm⟩ := by
  have old := cprogT_clone h hcl
  have key : ∀ f args blks ret, cloneNat2 cl cm f args blks = some ret → cloneNat cl f args blks = some ret ∨ ∃ sz, (f, sz) ∈ cm ∧ args = [.d (.sl [])] ∧ blks = [] ∧ ret = ⟨.sl sz [] .full, [], [], 0⟩ := by
    intro f args blks ret h
    unfold cloneNat2 at h
    split at h
    · rename_i sz hf
      unfold cloneM at h
      split at h
      · simp only [Option.some.injEq] at h
        exact .inr ⟨sz, lkN_mem hf, rfl, rfl, h.symm⟩
      · cases h
    · exact .inl h
  obtain ⟨o1, o2, o3⟩ := old
  refine ⟨FT.ok h, fun f args blks ret hr => ?_, fun f args blks ret hr => ?_⟩
  · rcases key f args blks ret hr with hr | ⟨sz, hf, rfl, rfl, rfl⟩
    · exact o2 _ _ _ _ hr
    · exact (hcm _ hf).1
  · rcases key f args blks ret hr with hr | ⟨sz, hf, rfl, rfl, rfl⟩
    · exact o3 _ _ _ _ hr
    · obtain ⟨vf, hvf⟩ := (hcm _ hf).2
      obtain ⟨fn, code, hfn, hbody, hname, _⟩ := hvf.ex
      exact ⟨fn, hfn, by rw [hbody]; rfl, hname⟩
theorem OKs.nil : OKs [] := fun p h => by cases h
theorem OKs.cons {a b : Bool} {l : List (Bool × Bool)} (h : a = b) (hl : OKs l) : OKs ((a, b) :: l) := fun p hp => by
  rcases List.mem_cons.1 hp with rfl | hp
  · exact h
  · exact hl p hp
end Go.VM

namespace Go.VM
/-! calls that are answered by hearsay: what is answered is owed -/
/-! a stretch of code, reckoned by the fast machine -/
/-- what is known of the state behind a stretch of code -/
structure Seg (ks : List Nat) (n : Nat) (vs : List V) (bl : List (List V)) (lv : List Nat) (gn ba : Nat) (st : St) : Prop where
  len : st.tmps.length = n
  get : ks.map (fun k => st.tmps.getD k .any) = vs
  blocks : st.blocks = bl
  live : st.live = lv
  gn : st.gn = gn
  base : st.base = ba
  dep : st.dep = 0
/-- the slots that a loop keeps -/
def keepK : List Bool → Nat → List Nat
  | [], _ => []
  | true :: r, i => i :: keepK r (i + 1)
  | false :: r, i => keepK r (i + 1)
/-- the slots at a loop's head out of what is kept -/
def keepT : List Bool → List V → List V
  | [], _ => []
  | true :: r, v :: vs => v :: keepT r vs
  | true :: r, [] => .any :: keepT r []
  | false :: r, vs => .any :: keepT r vs
theorem keepT_ok (l : List V) : ∀ (keep : List Bool) (i : Nat), keepT keep ((keepK keep i).map fun k => l.getD k .any) = (List.range' i keep.length).map fun j => if keep.getD (j - i) false = true then l.getD j .any else .any
  | [], i => rfl
  | true :: r, i => by
    simp only [keepK, List.map_cons, keepT, keepT_ok l r (i + 1), List.length_cons, List.range'_succ, Nat.sub_self, List.getD_cons_zero, if_true]
    congr 1
    refine List.map_congr_left fun j hj => ?_
    have := (List.mem_range'.1 hj)
    obtain ⟨k, hk, rfl⟩ := this
    rw [show i + 1 + 1 * k - i = (i + 1 + 1 * k - (i + 1)) + 1 by omega, List.getD_cons_succ]
  | false :: r, i => by
    simp only [keepK, keepT, keepT_ok l r (i + 1), List.length_cons, List.range'_succ, List.map_cons, Nat.sub_self, List.getD_cons_zero, Bool.false_eq_true, if_false]
    congr 1
    refine List.map_congr_left fun j hj => ?_
    have := (List.mem_range'.1 hj)
    obtain ⟨k, hk, rfl⟩ := this
    rw [show i + 1 + 1 * k - i = (i + 1 + 1 * k - (i + 1)) + 1 by omega, List.getD_cons_succ]
theorem forget_keepT {keep : List Bool} {l : List V} (h : keep.length = l.length) : forget keep l = keepT keep ((keepK keep 0).map fun k => l.getD k .any) := by
  rw [keepT_ok]
  apply List.ext_getElem?
  intro i
  have h1 := fgt_get keep l i
  have h2 := fgt_len keep l
  rw [List.getElem?_map]
  rcases Nat.lt_or_ge i l.length with hlt | hge
  · have hi : i < (forget keep l).length := by rw [h2]; exact hlt
    rw [List.getElem?_eq_getElem hi, List.getElem?_eq_getElem (by simp; omega)]
    rw [List.getD_eq_getElem?_getD, List.getElem?_eq_getElem hi] at h1
    simp only [Option.getD_some] at h1
    rw [h1]
    simp
  · rw [List.getElem?_eq_none (by rw [h2]; exact hge), List.getElem?_eq_none (by simp; omega)]
    rfl
theorem Seg.at {keep : List Bool} {n N : Nat} {vs : List V} {bl : List (List V)} {lv : List Nat} {gn ba : Nat} {st : St} (h : Seg (keepK keep 0) N vs bl lv gn ba st) (hk : keep.length = N) : At keep n st (keepT keep vs) (bl.take n) lv gn ba :=
  ⟨by rw [forget_keepT (hk.trans h.len.symm), h.get], by rw [h.blocks], h.live, h.gn, h.base, h.dep⟩
/-- all slots are known -/
theorem Seg.all {n : Nat} {vs : List V} {bl : List (List V)} {lv : List Nat} {gn ba : Nat} {st : St} (h : Seg (List.range n) n vs bl lv gn ba st) : st = ⟨vs, bl, lv, gn, ba, 0⟩ := by
  obtain ⟨ts, bl', lv', gn', ba', de⟩ := st
  obtain ⟨h1, h2, h3, h4, h5, h6, h7⟩ := h
  simp only at h1 h2 h3 h4 h5 h6 h7
  subst h3 h4 h5 h6 h7
  congr 1
  rw [← h2]
  apply List.ext_getElem?
  intro i
  rw [List.getElem?_map]
  rcases Nat.lt_or_ge i ts.length with hlt | hge
  · rw [List.getElem?_range (by omega)]
    simp [hlt]
  · rw [List.getElem?_eq_none hge, List.getElem?_eq_none (by simp; omega)]
    rfl
end Go.VM

namespace Go.VM
/-! a function's code in pieces -/
def flat : VCode → List VCode
  | .seq a b => flat a ++ flat b
  | c => [c]
section
variable {VP : VProg}
end
end Go.VM

namespace Go.VM
/-! answers that are there, but not reckoned -/
end Go.VM

namespace Go.VM
/-! what comes in, where its bulk is bounded -/
section
variable {H : Type} {enc : TypeId × Value → H} {P : Program} {W : World} {spare : Nat → Bool} {held : Bool}
end
section
variable {H : Type} {enc : TypeId × Value → H} {P : Program} {W : World} {spare : Nat → Bool} {held : Bool} {t : TypeId} {v : Value} {d : DataW H} {ps : List MemPlace} {r : Reach} {base : Nat}
end
end Go.VM
