/- The value level machine, fourth part: a form of it that the kernel reckons fast, proved right. Conditions: none. -/
import Derived.Test.YtjhfakhmflemmaaVc
set_option linter.unusedSimpArgs false
set_option linter.unusedVariables false
namespace Go.VM
/-! a machine that the kernel reckons fast: every list is forced before one goes on; choices that are not literal are given beforehand and owed -/
structure Fl where
  fl : List (Nat × Bool)
  ob : List (Bool × Bool)
  vs : List Int
abbrev Rs := Option (Ret × List (Bool × Bool))
def OKs (l : List (Bool × Bool)) : Prop := ∀ p ∈ l, p.1 = p.2
theorem OKs.sub {a b : List (Bool × Bool)} (h : OKs b) (hs : a ⊆ b) : OKs a := fun p hp => h p (hs hp)

noncomputable def spF {α : Type} (l : List α) (k : List α → Rs) : Rs :=
  List.rec (motive := fun _ => (List α → Rs) → Rs) (fun k => k []) (fun a _ ih k => ih fun l' => k (a :: l')) l k
noncomputable def sp2F {α : Type} (l : List (List α)) (k : List (List α) → Rs) : Rs :=
  List.rec (motive := fun _ => (List (List α) → Rs) → Rs) (fun k => k []) (fun a _ ih k => spF a fun a' => ih fun l' => k (a' :: l')) l k
noncomputable def lenK {α : Type} (l : List α) : Nat := List.rec (motive := fun _ => Nat) 0 (fun _ _ ih => Nat.succ ih) l
noncomputable def natF (n : Nat) (k : Nat → Rs) : Rs := Nat.rec (motive := fun _ => Rs) (k 0) (fun m _ => k (Nat.succ m)) n
noncomputable def setF {α : Type} (l : List α) (n : Nat) (v : α) (k : List α → Rs) : Rs :=
  List.rec (motive := fun _ => Nat → (List α → Rs) → Rs) (fun _ k => k []) (fun a l ih n k => Nat.rec (motive := fun _ => Rs) (k (v :: l)) (fun m _ => ih m fun l' => k (a :: l')) n) l n k
noncomputable def dropF {α : Type} (l : List α) (n : Nat) (k : List α → Rs) : Rs :=
  Nat.rec (motive := fun _ => List α → Rs) (fun l => k l) (fun _ ih l => List.rec (motive := fun _ => Rs) none (fun _ l' _ => ih l') l) n l
noncomputable def takeF {α : Type} (l : List α) (n : Nat) (k : List α → Rs) : Rs :=
  Nat.rec (motive := fun _ => List α → (List α → Rs) → Rs) (fun _ k => k []) (fun _ ih l k => List.rec (motive := fun _ => Rs) none (fun a l' _ => ih l' fun r => k (a :: r)) l) n l k
noncomputable def nthF {α : Type} (l : List α) (n : Nat) (k : α → Rs) : Rs :=
  Nat.rec (motive := fun _ => List α → Rs) (fun l => List.rec (motive := fun _ => Rs) none (fun a _ _ => k a) l) (fun _ ih l => List.rec (motive := fun _ => Rs) none (fun _ l' _ => ih l') l) n l
noncomputable def lenEq {α : Type} (l : List α) (n : Nat) : Bool :=
  List.rec (motive := fun _ => Nat → Bool) (fun n => Nat.rec (motive := fun _ => Bool) true (fun _ _ => false) n) (fun _ _ ih n => Nat.rec (motive := fun _ => Bool) false (fun m _ => ih m) n) l n
noncomputable def over {α : Type} (cs z : List α) (k : List α → Rs) : Rs :=
  List.rec (motive := fun _ => List α → (List α → Rs) → Rs) (fun z k => k z) (fun c _ ih z k => List.rec (motive := fun _ => Rs) none (fun _ z' _ => ih z' fun r => k (c :: r)) z) cs z k
noncomputable def splF {α : Type} (z : List α) (off : Nat) (cs : List α) (k : List α → Rs) : Rs :=
  Nat.rec (motive := fun _ => List α → (List α → Rs) → Rs) (fun z k => over cs z k) (fun _ ih z k => List.rec (motive := fun _ => Rs) none (fun a z' _ => ih z' fun r => k (a :: r)) z) off z k
noncomputable def appF {α : Type} (a b : List α) (k : List α → Rs) : Rs :=
  List.rec (motive := fun _ => (List α → Rs) → Rs) (fun k => k b) (fun x _ ih k => ih fun l' => k (x :: l')) a k
noncomputable def allK {α : Type} (p : α → Bool) (l : List α) : Bool := List.rec (motive := fun _ => Bool) true (fun a _ ih => Bool.rec false ih (p a)) l
noncomputable def fvAny (k : V → Rs) : Rs := k .any
noncomputable def fvNil (k : V → Rs) : Rs := k .nil
noncomputable def fvD (x : D) (k : V → Rs) : Rs := k (.d x)
noncomputable def fvSl (sz : Nat) (es : List (List D)) (t : Tag) (k : V → Rs) : Rs := k (.sl sz es t)
noncomputable def fsSv (sz : Nat) (es : List (List D)) (t : Tag) (k : V → Rs) : Rs := spF es fun es => k (.sl sz es t)
noncomputable def fvLoc (a b c d : Nat) (k : V → Rs) : Rs := k (.loc a b c d)
noncomputable def fvPtr (a b : Nat) (k : V → Rs) : Rs := k (.ptr a b)
noncomputable def fvEp (cs : List D) (k : V → Rs) : Rs := spF cs fun cs => k (.ep cs)
noncomputable def fvEpv (v : V) (k : V → Rs) : Rs := k (.epv v)
noncomputable def fvPsl (cs : List V) (k : V → Rs) : Rs := spF cs fun cs => k (.psl cs)
noncomputable def fvAgg (cs : List V) (k : V → Rs) : Rs := spF cs fun cs => k (.agg cs)
noncomputable def fvTup (cs : List V) (k : V → Rs) : Rs := spF cs fun cs => k (.tup cs)
noncomputable def fvFn (f : FuncId) (cs : List V) (k : V → Rs) : Rs := spF cs fun cs => k (.fn f cs)
/-- forced: the choice first, what goes on last, so that little is written anew -/
noncomputable def fV (v : V) : (V → Rs) → Rs := match v with
  | .any => fvAny
  | .nil => fvNil
  | .d x => fvD x
  | .sl sz es t => fvSl sz es t
  | .loc a b c d => fvLoc a b c d
  | .ptr a b => fvPtr a b
  | .ep cs => fvEp cs
  | .epv v => fvEpv v
  | .psl cs => fvPsl cs
  | .agg cs => fvAgg cs
  | .tup cs => fvTup cs
  | .fn f cs => fvFn f cs
noncomputable def fsSl (es : List (List D)) (k : V → Rs) : Rs := spF es fun es => k (.d (.sl es))
noncomputable def fsLit (v : Value) (k : V → Rs) : Rs := k (.d (.lit v))
noncomputable def fsD (x : D) : (V → Rs) → Rs := match x with
  | .sl es => fsSl es
  | .lit v => fsLit v
/-- forced, the rows of a frozen slice too -/
noncomputable def fVs (v : V) : (V → Rs) → Rs := match v with
  | .d x => fsD x
  | .sl sz es t => fsSv sz es t
  | v => fV v
noncomputable def fL (l : List V) (k : List V → Rs) : Rs :=
  List.rec (motive := fun _ => (List V → Rs) → Rs) (fun k => k []) (fun a _ ih k => fV a fun a' => ih fun l' => k (a' :: l')) l k
noncomputable def fLL (l : List (List V)) (k : List (List V) → Rs) : Rs :=
  List.rec (motive := fun _ => (List (List V) → Rs) → Rs) (fun k => k []) (fun a _ ih k => fL a fun a' => ih fun l' => k (a' :: l')) l k
/-! what holds no block and no token -/
def isD : V → Bool
  | .d _ => true
  | _ => false
noncomputable def allD (l : List V) : Bool := allK isD l
noncomputable def pl1 : V → Bool
  | .d _ => true
  | .agg cs => allD cs
  | _ => false
noncomputable def pl2 : V → Bool
  | .d _ => true
  | .agg cs => allD cs
  | .tup cs => allK pl1 cs
  | _ => false
end Go.VM

set_option linter.unusedVariables false
namespace Go.VM
noncomputable def evsF (ρ : VArg → V) (as : List VArg) (k : List V → Rs) : Rs :=
  List.rec (motive := fun _ => (List V → Rs) → Rs) (fun k => k []) (fun a _ ih k => fV (ρ a) fun v => ih fun l => k (v :: l)) as k
noncomputable def dmapF (l : List D) (k : List V → Rs) : Rs :=
  List.rec (motive := fun _ => (List V → Rs) → Rs) (fun k => k []) (fun a _ ih k => ih fun l => k (.d a :: l)) l k
noncomputable def cellsF (v : V) (n : Nat) (k : List V → Rs) : Rs := match v with
  | .agg cs => match lenEq cs n with
    | true => match allK V.isCell cs with
      | true => k cs
      | false => none
    | false => none
  | .any => none
  | .tup _ => none
  | v => match Nat.beq n 1 with
    | true => k [v]
    | false => none
noncomputable def loadF (bl : List (List V)) (v : V) (n : Nat) (k : List V → Rs) : Rs := match v with
  | .ptr id off => nthF bl id fun cs => dropF cs off fun cs' => takeF cs' n k
  | .ep cs => takeF cs n fun ds => dmapF ds k
  | .epv v => match Nat.beq n 1 with
    | true => k [v]
    | false => none
  | _ => none
noncomputable def shapeF (ag : Bool) (cs : List V) (k : V → Rs) : Rs := match ag with
  | true => k (.agg cs)
  | false => match cs with
    | [v] => fV v k
    | _ => none
noncomputable def idxF (es : List (List D)) (iv : V) (k : List D → Rs) : Rs := match vIdx (lenK es) iv with
  | some j => nthF es j k
  | none => none
noncomputable def fillF (ρ : VArg → V) (parts : List (Nat × Nat × VArg)) (zero : List V) (k : List V → Rs) : Rs :=
  List.rec (motive := fun _ => List V → Rs) (fun z => k z) (fun p _ ih z => cellsF (ρ p.2.2) p.2.1 fun cs => splF z p.1 cs fun z' => ih z') parts zero
/-- wrapping and comparing, by the numbers' constructors -/
def wF (n : Int) : Int := match n with
  | .ofNat m => match Nat.ble m 9223372036854775807 with
    | true => .ofNat m
    | false => IntKind.i64.wrap (.ofNat m)
  | .negSucc m => match Nat.ble m 9223372036854775807 with
    | true => .negSucc m
    | false => IntKind.i64.wrap (.negSucc m)
def eqF (a b : Int) : Bool := match a, b with
  | .ofNat m, .ofNat n => Nat.beq m n
  | .negSucc m, .negSucc n => Nat.beq m n
  | .ofNat _, .negSucc _ => false
  | .negSucc _, .ofNat _ => false
def leF (a b : Int) : Bool := match a, b with
  | .ofNat m, .ofNat n => Nat.ble m n
  | .negSucc m, .negSucc n => Nat.ble n m
  | .ofNat _, .negSucc _ => false
  | .negSucc _, .ofNat _ => true
def arF (op : BinOp) (g : Int → Int → Int) (x y : V) : Option V := match x, y with
  | .d (.lit (.int .i64 a)), .d (.lit (.int .i64 b)) => some (.d (.lit (.int .i64 (wF (g a b)))))
  | x, y => vBin op x y
def cmF (op : BinOp) (g : Int → Int → Bool) (x y : V) : Option V := match x, y with
  | .d (.lit (.int .i64 a)), .d (.lit (.int .i64 b)) => some (.d (.lit (.bool (g a b))))
  | x, y => vBin op x y
def binF (op : BinOp) (x y : V) : Option V := match op with
  | .add => arF .add (fun a b => a + b) x y
  | .sub => arF .sub (fun a b => a - b) x y
  | .mul => arF .mul (fun a b => a * b) x y
  | .eql => cmF .eql (fun a b => eqF a b) x y
  | .neq => cmF .neq (fun a b => !eqF a b) x y
  | .lss => cmF .lss (fun a b => !leF b a) x y
  | .leq => cmF .leq (fun a b => leF a b) x y
  | .gtr => cmF .gtr (fun a b => !leF a b) x y
  | .geq => cmF .geq (fun a b => leF b a) x y
  | op => vBin op x y
def cvF (kd : IntKind) (x : V) : Option V := match kd, x with
  | .i64, .d (.lit (.int _ n)) => some (.d (.lit (.int .i64 (wF n))))
  | kd, x => match x.int with
    | some (_, n) => some (lit (.int kd (kd.wrap n)))
    | none => none
noncomputable def pMov (x : VArg) (bl : List (List V)) (ρ : VArg → V) (k : V → Rs) : Rs := fV (ρ x) k
noncomputable def pLoad (x : VArg) (n : Nat) (ag : Bool) (bl : List (List V)) (ρ : VArg → V) (k : V → Rs) : Rs := loadF bl (ρ x) n fun cs => shapeF ag cs k
noncomputable def pFieldA (x : VArg) (off : Nat) (bl : List (List V)) (ρ : VArg → V) (k : V → Rs) : Rs := match ρ x with
  | .ptr id o => natF (o + off) fun o => k (.ptr id o)
  | .ep cs => dropF cs off fun cs => k (.ep cs)
  | .epv v => match Nat.beq off 0 with
    | true => k (.epv v)
    | false => none
  | _ => none
noncomputable def pField (x : VArg) (off n : Nat) (ag : Bool) (bl : List (List V)) (ρ : VArg → V) (k : V → Rs) : Rs := match ρ x with
  | .agg cs => dropF cs off fun cs' => takeF cs' n fun r => shapeF ag r k
  | _ => none
noncomputable def pIdxA (sz : Nat) (x i : VArg) (bl : List (List V)) (ρ : VArg → V) (k : V → Rs) : Rs := match ρ x with
  | .d y => match y with
    | .sl es => idxF es (ρ i) fun row => match lenEq row sz with
      | true => k (.ep row)
      | false => none
    | .lit _ => none
  | .sl s es _ => match Nat.beq s sz with
    | true => idxF es (ρ i) fun row => k (.ep row)
    | false => none
  | v => match vIdxA sz v (ρ i) with
    | some r => fV r k
    | none => none
noncomputable def pExt (x : VArg) (i : Nat) (bl : List (List V)) (ρ : VArg → V) (k : V → Rs) : Rs := match ρ x with
  | .tup vs => nthF vs i fun v => fV v k
  | _ => none
noncomputable def pLen (x : VArg) (bl : List (List V)) (ρ : VArg → V) (k : V → Rs) : Rs := match ρ x with
  | .d y => match y with
    | .sl es => natF (lenK es) fun n => k (.d (.lit (.int .i64 (Int.ofNat n))))
    | .lit _ => none
  | .sl _ es _ => natF (lenK es) fun n => k (.d (.lit (.int .i64 (Int.ofNat n))))
  | v => match vLen v with
    | some r => fV r k
    | none => none
noncomputable def pBuild (zero : List V) (parts : List (Nat × Nat × VArg)) (bl : List (List V)) (ρ : VArg → V) (k : V → Rs) : Rs := fillF ρ parts zero fun cs => k (.agg cs)
noncomputable def pSlice (sz : Nat) (x : VArg) (lo hi : Option VArg) (bl : List (List V)) (ρ : VArg → V) (k : V → Rs) : Rs := match vSlice sz (ρ x) (lo.map (ρ)) (hi.map (ρ)) with
  | some r => fVs r k
  | none => none
noncomputable def pBin (op : BinOp) (x y : VArg) (bl : List (List V)) (ρ : VArg → V) (k : V → Rs) : Rs := match binF op (ρ x) (ρ y) with
  | some r => fV r k
  | none => none
noncomputable def pConvI (kd : IntKind) (x : VArg) (bl : List (List V)) (ρ : VArg → V) (k : V → Rs) : Rs := match cvF kd (ρ x) with
  | some r => fV r k
  | none => none
noncomputable def pGen (op : VOp) (bl : List (List V)) (ρ : VArg → V) (k : V → Rs) : Rs := match vPure (fun id => bl[id]?) ρ op with
  | some r => fV r k
  | none => none
noncomputable def pureF (op : VOp) : List (List V) → (VArg → V) → (V → Rs) → Rs := match op with
  | .mov x => pMov x
  | .load x n ag => pLoad x n ag
  | .fieldA x off => pFieldA x off
  | .field x off n ag => pField x off n ag
  | .idxA sz x i => pIdxA sz x i
  | .ext x i => pExt x i
  | .len x => pLen x
  | .build zero parts => pBuild zero parts
  | .slice sz x lo hi => pSlice sz x lo hi
  | .bin op x y => pBin op x y
  | .convI kd x => pConvI kd x
  | op => pGen op
end Go.VM

set_option linter.unusedVariables false
namespace Go.VM
abbrev CF := FuncId → List V → List (List V) → Fl → (Ret → Fl → Rs) → Rs
noncomputable def erF (v : V) : V := match pl2 v with
  | true => v
  | false => v.er
noncomputable def erLF (v : List V) : List V := match allD v with
  | true => v
  | false => V.erL v
/-- what comes back of a call that was handed no blocks -/
noncomputable def backF (bl : List (List V)) (lv : List Nat) (gn ba de : Nat) (ret : Ret) (k : V → St → Rs) : Rs :=
  fV (ret.r.imp gn (lenK bl)) fun r => fLL (ret.blocks.map (V.impL gn (lenK bl))) fun rb => appF bl rb fun bl' => spF (ret.live.map (gn + ·) ++ lv) fun lv' => natF (gn + ret.gn) fun gn' => k r ⟨[], bl', lv', gn', ba, de⟩
/-- the first blocks, as they are handed over alone -/
noncomputable def vPreF (ba : Nat) (bl : List (List V)) (as : List V) : Option (List (List V)) := match ba with
  | 0 => match preOk (V.topL as) as ((bl.take (V.topL as)).map V.erL) with
    | true => some ((bl.take (V.topL as)).map V.erL)
    | false => none
  | _ + 1 => none
noncomputable def callF (C : CF) (bl : List (List V)) (lv : List Nat) (gn ba de : Nat) (f : FuncId) (as : List V) (fl : Fl) (k : V → St → Fl → Rs) : Rs :=
  match allK pl2 as with
  | true => C f as [] fl fun ret fl' => match ret.blocks, ret.live, ret.gn with
    | [], [], 0 => match pl2 ret.r with
      | true => fV ret.r fun r => k r ⟨[], bl, lv, gn, ba, de⟩ fl'
      | false => backF bl lv gn ba de ret fun r st => k r st fl'
    | _, _, _ => backF bl lv gn ba de ret fun r st => k r st fl'
  | false => fL (as.map erF) fun as' => match allK (V.ltb 0) as' with
    | true => C f as' [] fl fun ret fl' => backF bl lv gn ba de ret fun r st => k r st fl'
    | false => match vPreF ba bl as' with
      | some pb => fLL pb fun pb' => C f as' pb' fl fun ret fl' => match ret.live, ret.gn with
        | [], 0 => match Nat.beq (lenK ret.blocks) (lenK pb') with
          | true => fV ret.r fun r => fLL ret.blocks fun rb => appF rb (bl.drop (lenK pb')) fun bl2 => k r ⟨[], bl2, lv, gn, ba, de⟩ fl'
          | false => none
        | _, _ => none
      | none => fLL (bl.map erLF) fun bl' => C f as' bl' fl fun ret fl' => match ret.live, ret.gn with
        | [], 0 => match Nat.beq (lenK ret.blocks) (lenK bl) with
          | true => fV ret.r fun r => fLL ret.blocks fun rb => k r ⟨[], rb, lv, gn, ba, de⟩ fl'
          | false => none
        | _, _ => none
noncomputable def decT (l : List (Nat × Bool)) (ob : List (Bool × Bool)) (vs : List Int) (k : Bool → Fl → Rs) : Rs := k true ⟨l, ob, vs⟩
noncomputable def decF (l : List (Nat × Bool)) (ob : List (Bool × Bool)) (vs : List Int) (k : Bool → Fl → Rs) : Rs := k false ⟨l, ob, vs⟩
noncomputable def decB (b : Bool) : List (Nat × Bool) → List (Bool × Bool) → List Int → (Bool → Fl → Rs) → Rs := match b with
  | true => decT
  | false => decF
noncomputable def decN (n : Nat) (t : Bool) (r : List (Nat × Bool)) (b : Bool) (ob : List (Bool × Bool)) (vs : List Int) (k : Bool → Fl → Rs) : Rs := match n with
  | 0 => k t ⟨r, (b, t) :: ob, vs⟩
  | m + 1 => decB b ((m, t) :: r) ob vs k
noncomputable def decP (p : Nat × Bool) (r : List (Nat × Bool)) : Bool → List (Bool × Bool) → List Int → (Bool → Fl → Rs) → Rs := match p with
  | (n, t) => decN n t r
noncomputable def decE (b : Bool) (ob : List (Bool × Bool)) (vs : List Int) (k : Bool → Fl → Rs) : Rs := decB b [] ob vs k
noncomputable def decL (l : List (Nat × Bool)) : Bool → List (Bool × Bool) → List Int → (Bool → Fl → Rs) → Rs := match l with
  | [] => decE
  | p :: r => decP p r
noncomputable def decU (l : List (Nat × Bool)) (ob : List (Bool × Bool)) (vs : List Int) (b : Bool) (k : Bool → Fl → Rs) : Rs := decL l b ob vs k
noncomputable def dec (b : Bool) (f : Fl) (k : Bool → Fl → Rs) : Rs := (match f with | ⟨l, ob, vs⟩ => decU l ob vs : Bool → (Bool → Fl → Rs) → Rs) b k
/-- is this number literal? (the kernel stands still if it is not) -/
def isLit (n : Int) : Bool := match n with
  | .ofNat _ => true
  | .negSucc _ => true
noncomputable def frcI (n : Int) (k : Int → Rs) : Rs := match n with
  | .ofNat m => natF m fun m => k (.ofNat m)
  | .negSucc m => natF m fun m => k (.negSucc m)
/-- a number is reckoned at once, or left as it stands -/
noncomputable def lzT (l : List (Nat × Bool)) (n : Int) (ob : List (Bool × Bool)) (vs : List Int) (k : Int → Fl → Rs) : Rs := frcI n fun n' => k n' ⟨l, ob, vs⟩
noncomputable def lzF (l : List (Nat × Bool)) (n : Int) (ob : List (Bool × Bool)) (vs : List Int) (k : Int → Fl → Rs) : Rs := k n ⟨l, ob, vs⟩
noncomputable def lzB (b : Bool) : List (Nat × Bool) → Int → List (Bool × Bool) → List Int → (Int → Fl → Rs) → Rs := match b with
  | true => lzT
  | false => lzF
/-- the number is told beforehand, and owed -/
noncomputable def lzV (r : List (Nat × Bool)) (n : Int) (ob : List (Bool × Bool)) (vs : List Int) (k : Int → Fl → Rs) : Rs := match vs with
  | v :: vs' => k v ⟨r, (eqF n v, true) :: ob, vs'⟩
  | [] => none
noncomputable def lz0 (t : Bool) : List (Nat × Bool) → Int → List (Bool × Bool) → List Int → (Int → Fl → Rs) → Rs := match t with
  | true => lzF
  | false => lzV
noncomputable def lzN (c : Nat) (t : Bool) (r : List (Nat × Bool)) (n : Int) (ob : List (Bool × Bool)) (vs : List Int) (k : Int → Fl → Rs) : Rs := match c with
  | 0 => lz0 t r n ob vs k
  | m + 1 => lzB (isLit n) ((m, t) :: r) n ob vs k
noncomputable def lzP (p : Nat × Bool) (r : List (Nat × Bool)) : Int → List (Bool × Bool) → List Int → (Int → Fl → Rs) → Rs := match p with
  | (c, t) => lzN c t r
noncomputable def lzL (l : List (Nat × Bool)) : Int → List (Bool × Bool) → List Int → (Int → Fl → Rs) → Rs := match l with
  | [] => lzT []
  | p :: r => lzP p r
noncomputable def lzU (l : List (Nat × Bool)) (ob : List (Bool × Bool)) (vs : List Int) (n : Int) (k : Int → Fl → Rs) : Rs := lzL l n ob vs k
/-- a number is reckoned at once, or left as it stands, or told beforehand -/
noncomputable def lzy (n : Int) (f : Fl) (k : Int → Fl → Rs) : Rs := (match f with | ⟨l, ob, vs⟩ => lzU l ob vs : Int → (Int → Fl → Rs) → Rs) n k
noncomputable def nmI (kd : IntKind) (n : Int) (fl : Fl) (k : V → Fl → Rs) : Rs := lzy n fl fun n' fl' => k (.d (.lit (.int kd n'))) fl'
noncomputable def nmO (v : Value) (fl : Fl) (k : V → Fl → Rs) : Rs := k (.d (.lit v)) fl
noncomputable def nmL (v : Value) : Fl → (V → Fl → Rs) → Rs := match v with
  | .int kd n => nmI kd n
  | v => nmO v
noncomputable def nmS (es : List (List D)) (fl : Fl) (k : V → Fl → Rs) : Rs := k (.d (.sl es)) fl
noncomputable def nmD (y : D) : Fl → (V → Fl → Rs) → Rs := match y with
  | .lit v => nmL v
  | .sl es => nmS es
noncomputable def nmR (r : V) (fl : Fl) (k : V → Fl → Rs) : Rs := k r fl
/-- the answer of an operation that reckons: its number at once -/
noncomputable def numF (r : V) : Fl → (V → Fl → Rs) → Rs := match r with
  | .d y => nmD y
  | r => nmR r
/-- what is frozen, forced -/
noncomputable def locF (bl : List (List V)) (id off len sz : Nat) (k : V → Rs) : Rs := match frzLoc bl[id]? off len sz with
  | .d y => match y with
    | .sl es => sp2F es fun es => k (.d (.sl es))
    | y => k (.d y)
  | v => k v
noncomputable def frz1F (bl : List (List V)) (n : Nat) (v : V) (k : V → Rs) : Rs := match v with
  | .d y => k (.d y)
  | .loc id off len sz => match Nat.ble n id with
    | true => locF bl id off len sz k
    | false => k (.loc id off len sz)
  | v => fV (v.frz bl n) k
noncomputable def frzLF (bl : List (List V)) (n : Nat) (vs : List V) (k : List V → Rs) : Rs :=
  List.rec (motive := fun _ => (List V → Rs) → Rs) (fun k => k []) (fun v _ ih k => frz1F bl n v fun v' => ih fun l => k (v' :: l)) vs k
noncomputable def frz2F (bl : List (List V)) (n : Nat) (v : V) (k : V → Rs) : Rs := match v with
  | .agg vs => frzLF bl n vs fun vs' => k (.agg vs')
  | v => frz1F bl n v k
noncomputable def frzL2F (bl : List (List V)) (n : Nat) (vs : List V) (k : List V → Rs) : Rs :=
  List.rec (motive := fun _ => (List V → Rs) → Rs) (fun k => k []) (fun v _ ih k => frz2F bl n v fun v' => ih fun l => k (v' :: l)) vs k
noncomputable def frzF (bl : List (List V)) (n : Nat) (v : V) (k : V → Rs) : Rs := match v with
  | .tup vs => frzL2F bl n vs fun vs' => k (.tup vs')
  | v => frz2F bl n v k
noncomputable def sPure (p : List (List V) → (VArg → V) → (V → Rs) → Rs) (C : CF) (ρ : VArg → V) (bl : List (List V)) (lv : List Nat) (gn ba de : Nat) (fl : Fl) (k : V → St → Fl → Rs) : Rs := p bl ρ fun r => k r ⟨[], bl, lv, gn, ba, de⟩ fl
noncomputable def sNum (p : List (List V) → (VArg → V) → (V → Rs) → Rs) (C : CF) (ρ : VArg → V) (bl : List (List V)) (lv : List Nat) (gn ba de : Nat) (fl : Fl) (k : V → St → Fl → Rs) : Rs := p bl ρ fun r => numF r fl fun r fl' => k r ⟨[], bl, lv, gn, ba, de⟩ fl'
noncomputable def sCall (f : FuncId) (args : List VArg) (C : CF) (ρ : VArg → V) (bl : List (List V)) (lv : List Nat) (gn ba de : Nat) (fl : Fl) (k : V → St → Fl → Rs) : Rs := evsF ρ args fun as => callF C bl lv gn ba de f as fl k
noncomputable def sCallv (y : VArg) (args : List VArg) (C : CF) (ρ : VArg → V) (bl : List (List V)) (lv : List Nat) (gn ba de : Nat) (fl : Fl) (k : V → St → Fl → Rs) : Rs := match ρ y with
  | .fn f caps => evsF ρ args fun as => appF as caps fun as => callF C bl lv gn ba de f as fl k
  | _ => none
noncomputable def sBox (cells : List V) (C : CF) (ρ : VArg → V) (bl : List (List V)) (lv : List Nat) (gn ba de : Nat) (fl : Fl) (k : V → St → Fl → Rs) : Rs := natF (lenK bl) fun id => appF bl [cells] fun bl' => k (.ptr id 0) ⟨[], bl', lv, gn, ba, de⟩ fl
noncomputable def sBoxv (n : Nat) (y : VArg) (C : CF) (ρ : VArg → V) (bl : List (List V)) (lv : List Nat) (gn ba de : Nat) (fl : Fl) (k : V → St → Fl → Rs) : Rs := cellsF (ρ y) n fun cs => natF (lenK bl) fun id => appF bl [cs] fun bl' => k (.ptr id 0) ⟨[], bl', lv, gn, ba, de⟩ fl
noncomputable def sStore (a y : VArg) (n : Nat) (C : CF) (ρ : VArg → V) (bl : List (List V)) (lv : List Nat) (gn ba de : Nat) (fl : Fl) (k : V → St → Fl → Rs) : Rs := match ρ a with
  | .ptr id off => cellsF (ρ y) n fun cs => nthF bl id fun blk => match n with
    | 0 => none
    | _ + 1 => match Nat.ble ba id with
      | true => splF blk off cs fun blk' => setF bl id blk' fun bl' => k .any ⟨[], bl', lv, gn, ba, de⟩ fl
      | false => splF blk off (erLF cs) fun blk' => fL blk' fun blk' => setF bl id blk' fun bl' => k .any ⟨[], bl', lv, gn, ba, de⟩ fl
  | _ => none
noncomputable def sAppF (sz : Nat) (y z : VArg) (C : CF) (ρ : VArg → V) (bl : List (List V)) (lv : List Nat) (gn ba de : Nat) (fl : Fl) (k : V → St → Fl → Rs) : Rs := match vRows (ρ z) with
  | some ms => match vAppDst ⟨[], [], lv, gn, ba, de⟩ sz (ρ y) with
    | some (es, live) => match Nat.ble (lenK es + lenK ms) appBound with
      | true => match allK (fun r => lenEq r sz) ms with
        | true => appF es ms fun es' => spF live fun live' => natF gn fun g => k (.sl sz es' (.own de g)) ⟨[], bl, g :: live', Nat.succ g, ba, de⟩ fl
        | false => none
      | false => none
    | none => match vApp0 (ρ y) ms with
      | some r => fVs r fun r => k r ⟨[], bl, lv, gn, ba, de⟩ fl
      | none => none
  | none => none
noncomputable def sBuildSlF (len sz : Nat) (zero : List V) (parts : List (Nat × VArg)) (C : CF) (ρ : VArg → V) (bl : List (List V)) (lv : List Nat) (gn ba de : Nat) (fl : Fl) (k : V → St → Fl → Rs) : Rs := match vBuildSl [] len sz zero (parts.map fun p => (p.1, VArg.c (ρ p.2))) with
  | some r => fVs r fun r => k r ⟨[], bl, lv, gn, ba, de⟩ fl
  | none => none
noncomputable def sBuildSlT (len sz : Nat) (zero : List V) (parts : List (Nat × VArg)) (C : CF) (ρ : VArg → V) (bl : List (List V)) (lv : List Nat) (gn ba de : Nat) (fl : Fl) (k : V → St → Fl → Rs) : Rs := match vBuildSlM ⟨[], bl, lv, gn, ba, de⟩ [] len sz zero (parts.map fun p => (p.1, VArg.c (ρ p.2))) with
  | some (r, ⟨_, bl', lv', gn', _, _⟩) => fVs r fun r => sp2F bl' fun bl' => spF lv' fun lv' => natF gn' fun gn' => k r ⟨[], bl', lv', gn', ba, de⟩ fl
  | none => none
noncomputable def sAppT (sz : Nat) (y z : VArg) (C : CF) (ρ : VArg → V) (bl : List (List V)) (lv : List Nat) (gn ba de : Nat) (fl : Fl) (k : V → St → Fl → Rs) : Rs := match vRows (ρ z) with
  | some ms => match vAppM ⟨[], bl, lv, gn, ba, de⟩ sz (ρ y) ms with
    | some (r, ⟨_, bl', lv', gn', _, _⟩) => fVs r fun r => sp2F bl' fun bl' => spF lv' fun lv' => natF gn' fun gn' => k r ⟨[], bl', lv', gn', ba, de⟩ fl
    | none => none
  | none => none
noncomputable def sFrz (y : VArg) (ld : Option (Nat × Bool)) (C : CF) (ρ : VArg → V) (bl : List (List V)) (lv : List Nat) (gn ba de : Nat) (fl : Fl) (k : V → St → Fl → Rs) : Rs := match vPure (fun id => bl[id]?) ρ (frzIn y ld) with
  | some v => fV v fun v => frzF bl ba v fun r => sp2F (killL bl (v.locs ba)) fun bl' => k r ⟨[], bl', lv, gn, ba, de⟩ fl
  | none => none
noncomputable def sPick (c a b : VArg) (C : CF) (ρ : VArg → V) (bl : List (List V)) (lv : List Nat) (gn ba de : Nat) (fl : Fl) (k : V → St → Fl → Rs) : Rs := match (ρ c).bool with
  | some t => dec t fl fun t' fl' => match t' with
    | true => fV (ρ a) fun r => k r ⟨[], bl, lv, gn, ba, de⟩ fl'
    | false => fV (ρ b) fun r => k r ⟨[], bl, lv, gn, ba, de⟩ fl'
  | none => none
noncomputable def sMkSl (zero : List V) (len cap : VArg) (_ : Bool) (C : CF) (ρ : VArg → V) (bl : List (List V)) (lv : List Nat) (gn ba de : Nat) (fl : Fl) (k : V → St → Fl → Rs) : Rs := match vMkSl zero (ρ len) (ρ cap) with
  | some r => fVs r fun r => k r ⟨[], bl, lv, gn, ba, de⟩ fl
  | none => none
noncomputable def sSBytes (y : VArg) (C : CF) (ρ : VArg → V) (bl : List (List V)) (lv : List Nat) (gn ba de : Nat) (fl : Fl) (k : V → St → Fl → Rs) : Rs := match (ρ y).str with
  | some s => match Nat.ble s.size 16777216 with
    | true => fVs (.d (.sl (strRows s))) fun r => k r ⟨[], bl, lv, gn, ba, de⟩ fl
    | false => none
  | none => none
noncomputable def stepF (op : VOp) : CF → (VArg → V) → List (List V) → List Nat → Nat → Nat → Nat → Fl → (V → St → Fl → Rs) → Rs := match op with
  | .call f args => sCall f args
  | .callv y args => sCallv y args
  | .box cells => sBox cells
  | .boxv n y => sBoxv n y
  | .store a y n => sStore a y n
  | .app sz y z false => sAppF sz y z
  | .buildSl len sz zero parts false => sBuildSlF len sz zero parts
  | .buildSl len sz zero parts true => sBuildSlT len sz zero parts
  | .app sz y z true => sAppT sz y z
  | .frz y ld => sFrz y ld
  | .pick c a b => sPick c a b
  | .bin op x y => sNum (pureF (.bin op x y))
  | .un op x => sNum (pureF (.un op x))
  | .convI kd x => sNum (pureF (.convI kd x))
  | .mkSl zero len cap m => sMkSl zero len cap m
  | .sBytes y => sSBytes y
  | .mov x => sPure (pMov x)
  | .load x n ag => sPure (pLoad x n ag)
  | .fieldA x off => sPure (pFieldA x off)
  | .field x off n ag => sPure (pField x off n ag)
  | .idxA sz x i => sPure (pIdxA sz x i)
  | .ext x i => sPure (pExt x i)
  | .len x => sPure (pLen x)
  | .build zero parts => sPure (pBuild zero parts)
  | .slice sz x lo hi => sPure (pSlice sz x lo hi)
  | op => sPure (pGen op)
end Go.VM

namespace Go.VM
/-! the slots as a tree -/
inductive TS where
  | lf
  | nd (v : V) (l r : TS)
  deriving Inhabited
noncomputable def getT (t : TS) (n : Nat) : V :=
  TS.rec (motive := fun _ => Nat → V) (fun _ => .any) (fun v _ _ il ir n => Nat.rec (motive := fun _ => V) v (fun m _ => match Nat.beq (Nat.mod m 2) 0 with
    | true => il (Nat.div m 2)
    | false => ir (Nat.div m 2)) n) t n
noncomputable def setT (f : Nat) (t : TS) (n : Nat) (v : V) (k : TS → Rs) : Rs :=
  Nat.rec (motive := fun _ => TS → Nat → (TS → Rs) → Rs) (fun _ _ _ => none) (fun _ ih t n k => match t with
    | .lf => Nat.rec (motive := fun _ => Rs) (k (.nd v .lf .lf)) (fun m _ => match Nat.beq (Nat.mod m 2) 0 with
      | true => ih .lf (Nat.div m 2) fun l => k (.nd .any l .lf)
      | false => ih .lf (Nat.div m 2) fun r => k (.nd .any .lf r)) n
    | .nd a l r => Nat.rec (motive := fun _ => Rs) (k (.nd v l r)) (fun m _ => match Nat.beq (Nat.mod m 2) 0 with
      | true => ih l (Nat.div m 2) fun l' => k (.nd a l' r)
      | false => ih r (Nat.div m 2) fun r' => k (.nd a l r')) n) f t n k
/-- the tree holds what the list holds -/
structure TrOf (N : Nat) (t : TS) (ts : List V) : Prop where
  len : ts.length = N
  get : ∀ i, getT t i = ts.getD i .any
noncomputable def evT (t : TS) (a : VArg) : V := match a with
  | .t n => getT t n
  | .c v => v
theorem TrOf.ev {N : Nat} {t : TS} {ts : List V} (h : TrOf N t ts) : evT t = VArg.ev ts := by
  funext a
  cases a with
  | t n => exact h.get n
  | c v => rfl
noncomputable def putT (N : Nat) (t : TS) (d : Option Nat) (v : V) (k : TS → Rs) : Rs := match d with
  | none => k t
  | some d => match Nat.ble (Nat.succ d) N with
    | true => setT 12 t d v k
    | false => none
noncomputable def wantT (t : TS) (g : Option (Nat × Bool)) (fl : Fl) (k : Bool → Fl → Rs) : Rs := match g with
  | none => k true fl
  | some (n, want) => match (getT t n).gd with
    | some (some b) => dec b fl fun b' fl' => match b', want with
      | true, true => k true fl'
      | true, false => k false fl'
      | false, true => k false fl'
      | false, false => k true fl'
    | some none => k false fl
    | none => none
/-- one operation on the tree -/
noncomputable def oneT (C : CF) (N : Nat) (o : VOper) (t : TS) (s : St) (fl : Fl) (k : TS → St → Fl → Rs) : Rs := wantT t o.guard fl fun w fl' => match w with
  | true => match s with
    | ⟨_, bl, lv, gn, ba, de⟩ => stepF o.op C (evT t) bl lv gn ba de fl' fun r s' fl'' => putT N t o.dst r fun t' => k t' s' fl''
  | false => putT N t o.dst (.tup []) fun t' => k t' s fl'
noncomputable def opsF (C : CF) (N : Nat) (os : List VOper) (t : TS) (s : St) (fl : Fl) (k : TS → St → Fl → Rs) : Rs :=
  List.rec (motive := fun _ => TS → St → Fl → Rs) (fun t s fl => k t s fl) (fun o _ ih t s fl => oneT C N o t s fl ih) os t s fl
end Go.VM

namespace Go.VM
/-! a drawn region whose order matters: the states on the way -/
noncomputable def ltbF0 (v : V) : Bool := match pl2 v with
  | true => true
  | false => V.ltb 0 v
/-- which of the old blocks an operation may turn: none, one, or it is not known -/
noncomputable def chg (ρ : VArg → V) (op : VOp) : Option (Option Nat) := match op with
  | .call _ args => match allK (fun a => ltbF0 (erF (ρ a))) args with
    | true => some none
    | false => none
  | .app _ _ _ false => some none
  | .buildSl _ _ _ _ false => some none
  | .sBytes _ => some none
  | .store a _ _ => match ρ a with
    | .ptr id _ => some (some id)
    | _ => none
  | .box _ => some none
  | .boxv _ _ => some none
  | _ => none
/-- the same, where a call in a function that was handed no blocks hands over the first block alone -/
noncomputable def chgB (ba : Nat) (bl : List (List V)) (ρ : VArg → V) (op : VOp) : Option (Option Nat) := match chg ρ op with
  | some c => some c
  | none => match op with
    | .call _ args => match vPreF ba bl ((args.map ρ).map V.er) with
      | some pb => match lenEq pb 1 with
        | true => some (some 0)
        | false => none
      | none => none
    | _ => none
/-- a state on the way: its tree, its blocks, and what the operation behind it may turn -/
structure Tk where
  t : TS
  bl : List (List V)
  c : Option (Option Nat)
  deriving Inhabited
noncomputable def trF (C : CF) (N : Nat) (os : List VOper) (t : TS) (s : St) (fl : Fl) (k : List Tk → TS → St → Fl → Rs) : Rs :=
  List.rec (motive := fun _ => TS → St → Fl → (List Tk → TS → St → Fl → Rs) → Rs) (fun t s fl k => k [⟨t, s.blocks, none⟩] t s fl) (fun o _ ih t s fl k =>
    oneT C N o t s fl fun t' s' fl' => ih t' s' fl' fun tks => k (⟨t, s.blocks, chgB s.base s.blocks (evT t) o.op⟩ :: tks)) os t s fl k
/-- the traces go together -/
inductive TkOf (N : Nat) : List Tk → List St → Prop
  | nil : TkOf N [] []
  | cons {tk : Tk} {st : St} {tks : List Tk} {sts : List St} (h1 : TrOf N tk.t st.tmps) (h2 : tk.bl = st.blocks) (h3 : ∀ c, tk.c = some c → ∀ st', sts.head? = some st' → ∀ id, id < st.blocks.length → c ≠ some id → st'.blocks[id]? = st.blocks[id]?) (h : TkOf N tks sts) : TkOf N (tk :: tks) (st :: sts)
noncomputable def blkT (t : TS) (op : VOp) : Option Nat := match op with
  | .load x _ _ => match evT t x with
    | .ptr id _ => some id
    | _ => none
  | _ => none
noncomputable def wntT (t : TS) (g : Option (Nat × Bool)) : Option Bool := match g with
  | none => some true
  | some (n, want) => gdW want (getT t n).gd
theorem TkOf.len {N : Nat} : ∀ {tks : List Tk} {sts : List St}, TkOf N tks sts → tks.length = sts.length
  | _, _, .nil => rfl
  | _, _, .cons _ _ _ h => by rw [List.length_cons, List.length_cons, h.len]
theorem TkOf.get {N : Nat} : ∀ {tks : List Tk} {sts : List St}, TkOf N tks sts → ∀ e, e < sts.length → TrOf N (tks.getD e default).t (sts.getD e default).tmps ∧ (tks.getD e default).bl = (sts.getD e default).blocks ∧
    ∀ c, (tks.getD e default).c = some c → e + 1 < sts.length → ∀ id, id < (sts.getD e default).blocks.length → c ≠ some id → (sts.getD (e + 1) default).blocks[id]? = (sts.getD e default).blocks[id]?
  | _, _, .nil, e, he => absurd he (Nat.not_lt_zero _)
  | _, _, .cons (tk := tk) (st := st) (tks := tks) (sts := sts) h1 h2 h3 h, 0, _ => by
    refine ⟨h1, h2, fun c hc hl id hid hne => ?_⟩
    cases sts with
    | nil => simp at hl
    | cons s2 sts => exact h3 c hc s2 rfl id hid hne
  | _, _, .cons (tk := tk) (st := st) (tks := tks) (sts := sts) h1 h2 h3 h, e + 1, he => by
    have := h.get e (by simpa using he)
    simp only [List.getD_cons_succ]
    refine ⟨this.1, this.2.1, fun c hc hl => ?_⟩
    exact this.2.2 c hc (by simpa using hl)
/-! the same comparison, integers by choices that may be told beforehand -/
noncomputable def cmpVal (v u : Value) (fl : Fl) (k : Fl → Rs) : Rs := match v, u with
  | .int kd a, .int kd' b => match decide (kd = kd') with
    | true => dec (eqF a b) fl fun t fl' => match t with
      | true => k fl'
      | false => none
    | false => none
  | v, u => match Value.beqC v u with
    | true => k fl
    | false => none
mutual
noncomputable def cmpD : D → D → Fl → (Fl → Rs) → Rs
  | .lit v, .lit u, fl, k => cmpVal v u fl k
  | .sl a, .sl b, fl, k => cmpDLL a b fl k
  | _, _, _, _ => none
noncomputable def cmpDL : List D → List D → Fl → (Fl → Rs) → Rs
  | [], [], fl, k => k fl
  | a :: l, b :: m, fl, k => cmpD a b fl fun fl' => cmpDL l m fl' k
  | _, _, _, _ => none
noncomputable def cmpDLL : List (List D) → List (List D) → Fl → (Fl → Rs) → Rs
  | [], [], fl, k => k fl
  | a :: l, b :: m, fl, k => cmpDL a b fl fun fl' => cmpDLL l m fl' k
  | _, _, _, _ => none
end
noncomputable def cmpC (x y : V) (fl : Fl) (k : Fl → Rs) : Rs := match x, y with
  | .d a, .d b => cmpD a b fl k
  | x, y => match V.beqC x y with
    | true => k fl
    | false => none
noncomputable def cmpCs : List V → List V → Fl → (Fl → Rs) → Rs
  | [], [], fl, k => k fl
  | a :: l, b :: m, fl, k => cmpC a b fl fun fl' => cmpCs l m fl' k
  | _, _, _, _ => none
noncomputable def cmpO (a b : Option (List V)) (fl : Fl) (k : Fl → Rs) : Rs := match a, b with
  | some x, some y => cmpCs x y fl k
  | none, none => k fl
  | _, _ => none
noncomputable def stayF (tks : List Tk) (e id : Nat) (fl : Fl) (k : Fl → Rs) : Rs := match (tks.getD e default).c with
  | some c => match Nat.ble (Nat.succ id) (lenK (tks.getD e default).bl) with
    | true => match c with
      | none => k fl
      | some i => match Nat.beq i id with
        | true => cmpO (tks.getD e default).bl[id]? (tks.getD (e + 1) default).bl[id]? fl k
        | false => k fl
    | false => cmpO (tks.getD e default).bl[id]? (tks.getD (e + 1) default).bl[id]? fl k
  | none => cmpO (tks.getD e default).bl[id]? (tks.getD (e + 1) default).bl[id]? fl k
noncomputable def pairF (vops : List VOper) (tks : List Tk) (p e : Nat) (fl : Fl) (k : Fl → Rs) : Rs := match vops[p]? with
  | some x => match wntT (tks.getD p default).t x.guard with
    | some true => match blkT (tks.getD p default).t x.op with
      | some id => stayF tks e id fl k
      | none => k fl
    | _ => k fl
  | none => k fl
noncomputable def pairsF (vops : List VOper) (tks : List Tk) : List (Nat × Nat) → Fl → (Fl → Rs) → Rs
  | [], fl, k => k fl
  | p :: ps, fl, k => match Nat.ble (p.2 + 2) (lenK tks) with
    | true => pairF vops tks p.1 p.2 fl fun fl' => pairsF vops tks ps fl' k
    | false => none
end Go.VM

namespace Go.VM
noncomputable def drawF (C : CF) (N : Nat) (os : List VOper) (chk : List (Nat × Nat)) (t : TS) (s : St) (fl : Fl) (k : TS → St → Fl → Rs) : Rs := match chk with
  | [] => opsF C N os t s fl k
  | p :: ps => match Nat.ble (lenK os) 4000 with
    | true => trF C N os t s fl fun tks t' s' fl' => match Nat.ble (lenK os) (lenK tks) with
      | true => pairsF os tks (p :: ps) fl' fun fl'' => k t' s' fl''
      | false => none
    | false => none
/-- the slots that are kept at a loop's head, and what they hold -/
noncomputable def fgT (t : TS) (keep : List Bool) (k : TS → List V → Rs) : Rs :=
  List.rec (motive := fun _ => Nat → TS → List V → Rs) (fun _ acc vs => k acc vs) (fun b _ ih i acc vs => match b with
    | true => fV (getT t i) fun v => setT 12 acc i v fun acc' => natF (Nat.succ i) fun i' => ih i' acc' (v :: vs)
    | false => natF (Nat.succ i) fun i' => ih i' acc vs) keep 0 .lf []
theorem fgt_len : ∀ (keep : List Bool) (ts : List V), (forget keep ts).length = ts.length
  | _, [] => by cases ‹List Bool› <;> rfl
  | [], v :: ts => by simp only [forget, List.length_cons, fgt_len [] ts]
  | k :: ks, v :: ts => by simp only [forget, List.length_cons, fgt_len ks ts]
theorem fgt_get : ∀ (keep : List Bool) (ts : List V) (i : Nat), (forget keep ts).getD i .any = if keep.getD i false = true then ts.getD i .any else .any
  | keep, [], i => by
    have : forget keep [] = [] := by cases keep <;> rfl
    rw [this]
    simp
  | [], v :: ts, 0 => by simp [forget]
  | [], v :: ts, i + 1 => by
    simp only [forget, List.getD_cons_succ, fgt_get [] ts i]
    simp
  | k :: ks, v :: ts, 0 => by simp [forget]
  | k :: ks, v :: ts, i + 1 => by
    simp only [forget, List.getD_cons_succ, fgt_get ks ts i]
noncomputable def takeTF {α : Type} (l : List α) (n : Nat) (k : List α → Rs) : Rs :=
  Nat.rec (motive := fun _ => List α → (List α → Rs) → Rs) (fun _ k => k []) (fun _ ih l k => List.rec (motive := fun _ => Rs) (k []) (fun a l' _ => ih l' fun r => k (a :: r)) l) n l k
noncomputable def ltbF (n : Nat) (v : V) : Bool := match v with
  | .any => true
  | .d _ => true
  | .agg cs => match allD cs with
    | true => true
    | false => V.ltb n (.agg cs)
  | v => V.ltb n v
noncomputable def ltbLF (n : Nat) (cs : List V) : Bool := match allD cs with
  | true => true
  | false => V.ltbL n cs
noncomputable def headF (keep : List Bool) (n : Nat) (t : TS) (s : St) (k : TS → St → Rs) : Rs := match s with
  | ⟨_, bl, lv, gn, ba, de⟩ => fgT t keep fun t' vs => match allK (ltbF n) vs with
    | true => takeTF bl n fun bl' => match allK (ltbLF n) bl' with
      | true => k t' ⟨[], bl', lv, gn, ba, de⟩
      | false => k t' ⟨[], bl, lv, gn, ba, de⟩
    | false => k t' ⟨[], bl, lv, gn, ba, de⟩
noncomputable def itF (b : TS → St → Fl → (VExit → TS → St → Fl → Rs) → Rs) (keep : List Bool) (n : Nat) (F : Nat) (t : TS) (s : St) (fl : Fl) (k : VExit → TS → St → Fl → Rs) : Rs :=
  Nat.rec (motive := fun _ => TS → St → Fl → Rs) (fun _ _ _ => none) (fun _ ih t s fl => headF keep n t s fun t0 s0 => b t0 s0 fl fun e t1 s1 fl1 => match e with
    | .normal => ih t1 s1 fl1
    | .exit i => k (.exit i) t1 s1 fl1
    | .ret => k .ret t1 s1 fl1) F t s fl
noncomputable def exF (C : CF) (N F : Nat) (c : VCode) : TS → St → Fl → (VExit → TS → St → Fl → Rs) → Rs :=
  VCode.rec (motive := fun _ => TS → St → Fl → (VExit → TS → St → Fl → Rs) → Rs)
    (fun t s fl k => k .normal t s fl)
    (fun ops t s fl k => opsF C N ops t s fl (k .normal))
    (fun ops chk t s fl k => drawF C N ops chk t s fl (k .normal))
    (fun _ _ ia ib t s fl k => ia t s fl fun e t1 s1 fl1 => match e with
      | .normal => ib t1 s1 fl1 k
      | .exit i => k (.exit i) t1 s1 fl1
      | .ret => k .ret t1 s1 fl1)
    (fun c _ _ ia ib t s fl k => match (evT t c).bool with
      | some b => dec b fl fun w fl1 => match w with
        | true => ia t s fl1 k
        | false => ib t s fl1 k
      | none => none)
    (fun id _ ib t s fl k => ib t s fl fun e t1 s1 fl1 => match e with
      | .normal => k .normal t1 s1 fl1
      | .exit i => match Nat.beq i id with
        | true => k .normal t1 s1 fl1
        | false => k (.exit i) t1 s1 fl1
      | .ret => k .ret t1 s1 fl1)
    (fun keep _ ib t s fl k => natF (lenK s.blocks) fun n => itF ib keep n F t s fl k)
    (fun id t s fl k => k (.exit id) t s fl)
    (fun t s fl k => k .ret t s fl) c
end Go.VM

namespace Go.VM
noncomputable def getResF (t : TS) (bl : List (List V)) (rs : List VRes) (k : List V → Rs) : Rs :=
  List.rec (motive := fun _ => (List V → Rs) → Rs) (fun k => k []) (fun r _ ih k => match r with
    | .tmp j => fV (getT t j) fun v => ih fun l => k (v :: l)
    | .cell a n ag => loadF bl (getT t a) n fun cs => shapeF ag cs fun v => ih fun l => k (v :: l)) rs k
noncomputable def cutF (v : V) (n : Nat) (bl : List (List V)) (k : Ret → Rs) : Rs := takeTF bl n fun bl' => match allK (ltbLF n) bl' with
  | true => k ⟨v, bl', [], 0⟩
  | false => none
/-- without its append rights, forced -/
noncomputable def fVs' (v : V) (k : V → Rs) : Rs := match pl2 v with
  | true => k v
  | false => fVs v.er k
noncomputable def retF (vf : VFunc) (n : Nat) (t : TS) (st : St) (k : Ret → Rs) : Rs := match st with
  | ⟨_, bl, lv, gn, _, _⟩ => getResF t bl vf.res fun vs => fV (vPack vs) fun v => match vf.keep with
    | true => k ⟨v, bl, lv, gn⟩
    | false => match pl2 v with
      | true => cutF v n bl k
      | false => frzF bl n v fun v' => fVs' v' fun r => match r.ltb n with
        | true => cutF r n bl k
        | false => none
/-- the arguments in their slots -/
noncomputable def inT (args : List V) (k : TS → Rs) : Rs := List.rec (motive := fun _ => Nat → TS → Rs) (fun _ t => k t) (fun a _ ih i t => setT 12 t i a fun t' => natF (Nat.succ i) fun i' => ih i' t') args 0 .lf
/-- which functions are compiled, as a tree -/
inductive FT where
  | no
  | fn (k : Nat) (vf : VFunc)
  | nd (m : Nat) (l r : FT)
noncomputable def FT.get (t : FT) (f : Nat) : Option VFunc :=
  FT.rec (motive := fun _ => Option VFunc) none (fun k vf => match Nat.beq f k with | true => some vf | false => none) (fun m _ _ il ir => match Nat.ble f m with | true => il | false => ir) t
def FT.all (p : Nat → VFunc → Prop) : FT → Prop
  | .no => True
  | .fn k vf => p k vf
  | .nd _ l r => l.all p ∧ r.all p
theorem FT.get_ok {p : Nat → VFunc → Prop} : ∀ {t : FT}, t.all p → ∀ {f vf}, t.get f = some vf → p f vf
  | .no, _, f, vf, h => by cases h
  | .fn k vf', hp, f, vf, h => by
    simp only [FT.get] at h
    split at h
    · rename_i hk
      rw [Nat.eq_of_beq_eq_true hk]
      simp only [Option.some.injEq] at h
      subst h
      exact hp
    · cases h
  | .nd m l r, hp, f, vf, h => by
    have hg : (FT.nd m l r).get f = match Nat.ble f m with | true => l.get f | false => r.get f := rfl
    rw [hg] at h
    split at h
    · exact FT.get_ok hp.1 h
    · exact FT.get_ok hp.2 h
theorem FT.ok {P : Program} {t : FT} (h : t.all (fun k v => CFunc P k v)) : ∀ f vf, t.get f = some vf → CFunc P f vf := fun _ _ hg => FT.get_ok (p := fun k v => CFunc P k v) h hg
theorem cprogT_of {P : Program} {t : FT} (h : t.all (fun k v => CFunc P k v)) : CProg P ⟨t.get, noNat⟩ :=
  ⟨FT.ok h, (fun _ _ _ _ h => by cases h), (fun _ _ _ _ h => by cases h)⟩
theorem cprogT_clone {P : Program} {t : FT} (h : t.all (fun k v => CFunc P k v)) {cl : List Nat} (hcl : ∀ f ∈ cl, VC P f [.d (.sl [])] [] ⟨.d (.sl []), [], [], 0⟩ ∧ ∃ vf, CFunc P f vf) :
    CProg P ⟨t.get, cloneNat cl⟩ := by
  have key : ∀ f args blks ret, cloneNat cl f args blks = some ret → f ∈ cl ∧ args = [.d (.sl [])] ∧ blks = [] ∧ ret = ⟨.d (.sl []), [], [], 0⟩ := by
    intro f args blks ret h
    unfold cloneNat at h
    split at h
    · cases h
    · rename_i hf
      exact ⟨natMem_iff hf, cloneNat1_some h⟩
  refine ⟨FT.ok h, fun f args blks ret hr => ?_, fun f args blks ret hr => ?_⟩
  · obtain ⟨hf, rfl, rfl, rfl⟩ := key f args blks ret hr
    exact (hcl f hf).1
  · obtain ⟨hf, _⟩ := key f args blks ret hr
    obtain ⟨vf, hvf⟩ := (hcl f hf).2
    obtain ⟨fn, code, hfn, hbody, hname, _⟩ := hvf.ex
    exact ⟨fn, hfn, by rw [hbody]; rfl, hname⟩
/-- what Clone answers of an empty slice, frozen or one that may be written later -/
def lkN (m : List (Nat × Nat)) (f : Nat) : Option Nat := match m with
  | [] => none
  | (k, sz) :: r => match Nat.beq f k with
    | true => some sz
    | false => lkN r f
theorem lkN_mem {f sz : Nat} : ∀ {m : List (Nat × Nat)}, lkN m f = some sz → (f, sz) ∈ m
  | (k, s) :: r, h => by
    simp only [lkN] at h
    split at h
    · rename_i hk
      simp only [Option.some.injEq] at h; subst h
      rw [Nat.eq_of_beq_eq_true hk]; exact List.mem_cons_self
    · exact List.mem_cons_of_mem _ (lkN_mem h)
def cloneM (sz : Nat) : List V → List (List V) → Option Ret
  | [.d (.sl [])], [] => some ⟨.sl sz [] .full, [], [], 0⟩
  | _, _ => none
def cloneNat2 (l : List Nat) (m : List (Nat × Nat)) : Orc := fun f args blks => match lkN m f with
  | some sz => cloneM sz args blks
  | none => cloneNat l f args blks
theorem cprogT_clone2 {P : Program} {t : FT} (h : t.all (fun k v => CFunc P k v)) {cl : List Nat} {cm : List (Nat × Nat)} (hcl : ∀ f ∈ cl, VC P f [.d (.sl [])] [] ⟨.d (.sl []), [], [], 0⟩ ∧ ∃ vf, CFunc P f vf)
    (hcm : ∀ p ∈ cm, VC P p.1 [.d (.sl [])] [] ⟨.sl p.2 [] .full, [], [], 0⟩ ∧ ∃ vf, CFunc P p.1 vf) :
    CProg P ⟨t.get, cloneNat2 cl cm⟩ := by
  have old := cprogT_clone h hcl
  have key : ∀ f args blks ret, cloneNat2 cl cm f args blks = some ret → cloneNat cl f args blks = some ret ∨ ∃ sz, (f, sz) ∈ cm ∧ args = [.d (.sl [])] ∧ blks = [] ∧ ret = ⟨.sl sz [] .full, [], [], 0⟩ := by
    intro f args blks ret h
    unfold cloneNat2 at h
    split at h
    · rename_i sz hf
      unfold cloneM at h
      split at h
      · simp only [Option.some.injEq] at h
        exact .inr ⟨sz, lkN_mem hf, rfl, rfl, h.symm⟩
      · cases h
    · exact .inl h
  obtain ⟨o1, o2, o3⟩ := old
  refine ⟨FT.ok h, fun f args blks ret hr => ?_, fun f args blks ret hr => ?_⟩
  · rcases key f args blks ret hr with hr | ⟨sz, hf, rfl, rfl, rfl⟩
    · exact o2 _ _ _ _ hr
    · exact (hcm _ hf).1
  · rcases key f args blks ret hr with hr | ⟨sz, hf, rfl, rfl, rfl⟩
    · exact o3 _ _ _ _ hr
    · obtain ⟨vf, hvf⟩ := (hcm _ hf).2
      obtain ⟨fn, code, hfn, hbody, hname, _⟩ := hvf.ex
      exact ⟨fn, hfn, by rw [hbody]; rfl, hname⟩
theorem OKs.nil : OKs [] := fun p h => by cases h
theorem OKs.cons {a b : Bool} {l : List (Bool × Bool)} (h : a = b) (hl : OKs l) : OKs ((a, b) :: l) := fun p hp => by
  rcases List.mem_cons.1 hp with rfl | hp
  · exact h
  · exact hl p hp
end Go.VM

namespace Go.VM
/-! calls that are answered by hearsay: what is answered is owed -/
/-! a stretch of code, reckoned by the fast machine -/
/-- what is known of the state behind a stretch of code -/
structure Seg (ks : List Nat) (n : Nat) (vs : List V) (bl : List (List V)) (lv : List Nat) (gn ba : Nat) (st : St) : Prop where
  len : st.tmps.length = n
  get : ks.map (fun k => st.tmps.getD k .any) = vs
  blocks : st.blocks = bl
  live : st.live = lv
  gn : st.gn = gn
  base : st.base = ba
  dep : st.dep = 0
/-- the slots that a loop keeps -/
def keepK : List Bool → Nat → List Nat
  | [], _ => []
  | true :: r, i => i :: keepK r (i + 1)
  | false :: r, i => keepK r (i + 1)
/-- the slots at a loop's head out of what is kept -/
def keepT : List Bool → List V → List V
  | [], _ => []
  | true :: r, v :: vs => v :: keepT r vs
  | true :: r, [] => .any :: keepT r []
  | false :: r, vs => .any :: keepT r vs
theorem keepT_ok (l : List V) : ∀ (keep : List Bool) (i : Nat), keepT keep ((keepK keep i).map fun k => l.getD k .any) = (List.range' i keep.length).map fun j => if keep.getD (j - i) false = true then l.getD j .any else .any
  | [], i => rfl
  | true :: r, i => by
    simp only [keepK, List.map_cons, keepT, keepT_ok l r (i + 1), List.length_cons, List.range'_succ, Nat.sub_self, List.getD_cons_zero, if_true]
    congr 1
    refine List.map_congr_left fun j hj => ?_
    have := (List.mem_range'.1 hj)
    obtain ⟨k, hk, rfl⟩ := this
    rw [show i + 1 + 1 * k - i = (i + 1 + 1 * k - (i + 1)) + 1 by omega, List.getD_cons_succ]
  | false :: r, i => by
    simp only [keepK, keepT, keepT_ok l r (i + 1), List.length_cons, List.range'_succ, List.map_cons, Nat.sub_self, List.getD_cons_zero, Bool.false_eq_true, if_false]
    congr 1
    refine List.map_congr_left fun j hj => ?_
    have := (List.mem_range'.1 hj)
    obtain ⟨k, hk, rfl⟩ := this
    rw [show i + 1 + 1 * k - i = (i + 1 + 1 * k - (i + 1)) + 1 by omega, List.getD_cons_succ]
theorem forget_keepT {keep : List Bool} {l : List V} (h : keep.length = l.length) : forget keep l = keepT keep ((keepK keep 0).map fun k => l.getD k .any) := by
  rw [keepT_ok]
  apply List.ext_getElem?
  intro i
  have h1 := fgt_get keep l i
  have h2 := fgt_len keep l
  rw [List.getElem?_map]
  rcases Nat.lt_or_ge i l.length with hlt | hge
  · have hi : i < (forget keep l).length := by rw [h2]; exact hlt
    rw [List.getElem?_eq_getElem hi, List.getElem?_eq_getElem (by simp; omega)]
    rw [List.getD_eq_getElem?_getD, List.getElem?_eq_getElem hi] at h1
    simp only [Option.getD_some] at h1
    rw [h1]
    simp
  · rw [List.getElem?_eq_none (by rw [h2]; exact hge), List.getElem?_eq_none (by simp; omega)]
    rfl
theorem Seg.at {keep : List Bool} {n N : Nat} {vs : List V} {bl : List (List V)} {lv : List Nat} {gn ba : Nat} {st : St} (h : Seg (keepK keep 0) N vs bl lv gn ba st) (hk : keep.length = N) : At keep n st (keepT keep vs) (bl.take n) lv gn ba :=
  ⟨by rw [forget_keepT (hk.trans h.len.symm), h.get], by rw [h.blocks], h.live, h.gn, h.base, h.dep⟩
/-- all slots are known -/
theorem Seg.all {n : Nat} {vs : List V} {bl : List (List V)} {lv : List Nat} {gn ba : Nat} {st : St} (h : Seg (List.range n) n vs bl lv gn ba st) : st = ⟨vs, bl, lv, gn, ba, 0⟩ := by
  obtain ⟨ts, bl', lv', gn', ba', de⟩ := st
  obtain ⟨h1, h2, h3, h4, h5, h6, h7⟩ := h
  simp only at h1 h2 h3 h4 h5 h6 h7
  subst h3 h4 h5 h6 h7
  congr 1
  rw [← h2]
  apply List.ext_getElem?
  intro i
  rw [List.getElem?_map]
  rcases Nat.lt_or_ge i ts.length with hlt | hge
  · rw [List.getElem?_range (by omega)]
    simp [hlt]
  · rw [List.getElem?_eq_none hge, List.getElem?_eq_none (by simp; omega)]
    rfl
/-- a stretch of code to the function's end -/
noncomputable def endF (C : CF) (F : Nat) (fl : List (Nat × Bool)) (vs : List Int) (vf : VFunc) (n : Nat) (c : VCode) (ts : List V) (bl : List (List V)) (lv : List Nat) (gn ba : Nat) : Rs :=
  inT ts fun t => exF C (lenK ts) F c t ⟨[], bl, lv, gn, ba, 0⟩ ⟨fl, [], vs⟩ fun e t s fl => match e with
    | .exit _ => none
    | .normal => retF vf n t s fun ret => some (ret, fl.ob)
    | .ret => retF vf n t s fun ret => some (ret, fl.ob)
end Go.VM

namespace Go.VM
/-! a function's code in pieces -/
def flat : VCode → List VCode
  | .seq a b => flat a ++ flat b
  | c => [c]
section
variable {VP : VProg}
end
end Go.VM

namespace Go.VM
/-! answers that are there, but not reckoned -/
end Go.VM

namespace Go.VM
/-! what comes in, where its bulk is bounded -/
inductive CapD (N : Nat) : D → Prop
  | lit (v : Value) : CapD N (.lit v)
  | sl (es : List (List D)) (h : es.length ≤ N) (hr : ∀ row ∈ es, ∀ x ∈ row, CapD N x) : CapD N (.sl es)
/-- a measure of what is read: that of a slice is at least its length and that of its elements -/
structure Meas {H : Type} (μ : DataW H → Nat) : Prop where
  len : ∀ es sp, es.length ≤ μ (.slice es sp)
  el : ∀ es sp y, y ∈ es → μ y ≤ μ (.slice es sp)
  ag : ∀ xs y, y ∈ xs → μ y ≤ μ (.agg xs)
section
variable {H : Type} {enc : TypeId × Value → H} {P : Program} {W : World} {spare : Nat → Bool} {held : Bool}
theorem cameC {S : List TypeId} (hS : plainB P S = true) {μ : DataW H → Nat} (hμ : Meas μ) {N : Nat} : ∀ (n : Nat) (t : TypeId) (cs : List Value) x, t ∈ S → DataW.trod enc P W 0 spare held n t cs = some x → μ x.1 ≤ N → ∃ ds, RelDs (Gh.entry W).F ds cs ∧ WT P t ds ∧ ∀ y ∈ ds, CapD N y
  | 0, t, cs, x, _, h, _ => by simp [DataW.trod] at h
  | n + 1, t, cs, x, ht, h, hN => by
    have hp := List.all_eq_true.1 hS t ht
    split at hp
    · rename_i hu
      obtain ⟨b, rfl, _⟩ := DataW.trod_bool hu h
      exact ⟨_, .one (.lit _ rfl), .bool hu b, by simp; exact .lit _⟩
    · rename_i hu
      obtain ⟨s, rfl, _, hs⟩ := DataW.trod_string hu h
      exact ⟨_, .one (.lit _ rfl), .str hu s hs, by simp; exact .lit _⟩
    · rename_i k hu
      obtain ⟨z, rfl, _, hw⟩ := DataW.trod_int hu h
      exact ⟨_, .one (.lit _ rfl), .int hu z hw, by simp; exact .lit _⟩
    · rename_i e hu
      simp only [Bool.and_eq_true, decide_eq_true_eq] at hp
      obtain ⟨he, hpos⟩ := hp
      have he : e ∈ S := by simpa using he
      rcases DataW.trod_slice hu h with ⟨rfl, _⟩ | ⟨a, len, cap, elems, rest, m, hm, rfl, hxe, _, hlc, hcm, hel, hrow, _⟩
      · exact ⟨_, .one (RelD.nil _), .sl hu [] (Nat.zero_le _) (by simp), by simp; exact .sl [] (Nat.zero_le _) (by simp)⟩
      · have ex : ∀ i, i < len → ∃ r, ∃ ccs, W.cells? 0 (a.add (i * P.cellsOf e)) (P.cellsOf e) = some ccs ∧ RelDs (Gh.entry W).F r ccs ∧ WT P e r ∧ ∀ y ∈ r, CapD N y := by
          intro i hi
          have h1 := hrow i hi
          obtain ⟨y, hy⟩ : ∃ y, elems[i]? = some y := ⟨_, List.getElem?_eq_getElem (by omega)⟩
          rw [hy, Option.bind_eq_some_iff] at h1
          obtain ⟨ccs, hc, h2⟩ := h1
          obtain rfl : m = n := by omega
          obtain ⟨r, hr, hw, hcp⟩ := cameC hS hμ (N := N) m e ccs y he h2 (by subst hxe; exact Nat.le_trans (hμ.el (elems.map (·.1)) (rest.map (·.1)) y.1 (List.mem_map.2 ⟨y, List.mem_of_getElem? hy, rfl⟩)) hN)
          exact ⟨r, ccs, hc, hr, hw, hcp⟩
        obtain ⟨es, hes, hA⟩ := exL len ex
        have hsz : ∀ (i : Nat) row, es[i]? = some row → row.length = P.cellsOf e := by
          intro i row hr
          obtain ⟨ccs, hc, hr, _⟩ := hA i row hr
          rw [hr.1]; exact (World.cells?_some hc).2.1
        refine ⟨[.sl es], .one ?_, .sl hu es (by omega) (fun row hr => ?_), ?_⟩
        · have hcell : ∀ i j, i < len → j < P.cellsOf e → a.spot = none ∧ ∃ row ccs v, es[i]? = some row ∧ RelDs (Gh.entry W).F row ccs ∧ ccs[j]? = some v ∧ W.cell? ⟨a.block, a.off + (i * P.cellsOf e + j), none⟩ = some v := by
            intro i j hi hj
            obtain ⟨row, hri⟩ : ∃ row, es[i]? = some row := ⟨_, List.getElem?_eq_getElem (by omega)⟩
            obtain ⟨ccs, hc, hr, _⟩ := hA i row hri
            obtain ⟨_, hcl, hce⟩ := World.cells?_some hc
            obtain ⟨v, hv⟩ : ∃ v, ccs[j]? = some v := ⟨_, List.getElem?_eq_getElem (by omega)⟩
            have hcv := hce j hj
            rw [hv] at hcv
            have hsp : a.spot = none := by
              obtain ⟨row0, hr0⟩ : ∃ row, es[0]? = some row := ⟨_, List.getElem?_eq_getElem (by omega)⟩
              obtain ⟨ccs0, hc0, _, _⟩ := hA 0 row0 hr0
              obtain ⟨_, hcl0, hce0⟩ := World.cells?_some hc0
              obtain ⟨v0, hv0⟩ : ∃ v, ccs0[0]? = some v := ⟨_, List.getElem?_eq_getElem (by omega)⟩
              have h0 := hce0 0 hpos
              rw [hv0] at h0
              obtain ⟨b, o, sp⟩ := a
              simp only [Addr.add, Nat.zero_mul, World.cell?, if_true] at h0
              cases sp with
              | none => rfl
              | some s =>
                simp only [Option.isSome_some, if_true] at h0
                split at h0 <;> cases h0
            refine ⟨hsp, row, ccs, v, hri, hr, hv, ?_⟩
            rw [← hcv]
            obtain ⟨b, o, sp⟩ := a
            simp only at hsp
            subst hsp
            congr 1
            unfold Addr.add
            split <;> split <;> simp_all <;> omega
          refine .sl es _ len cap (P.cellsOf e) (fun i j => (W.cell? ⟨a.block, a.off + (i * P.cellsOf e + j), none⟩).getD default) hes.symm hlc hcm hsz (fun hne => ?_) (fun i j row c hi hj => ?_)
          · have hpl : 0 < len := by rw [← hes]; exact List.length_pos_iff.2 hne
            have hsp := (hcell 0 0 hpl hpos).1
            refine ⟨a.block, a.off, by obtain ⟨b, o, sp⟩ := a; simp only at hsp; rw [hsp], fun i j hi hj => ?_⟩
            obtain ⟨_, row, ccs, v, _, _, _, hv⟩ := hcell i j (by omega) hj
            show W.cell? _ = _
            rw [hv]; rfl
          · have hil : i < len := by have := (List.getElem?_eq_some_iff.1 hi).1; omega
            have hjl : j < P.cellsOf e := by rw [← hsz i row hi]; exact (List.getElem?_eq_some_iff.1 hj).1
            obtain ⟨_, row', ccs, v, h1, h2, h3, hv⟩ := hcell i j hil hjl
            rw [hi] at h1; cases h1
            show RelD _ c ((W.cell? _).getD default)
            rw [hv]
            exact h2.2 j c v hj h3
        · obtain ⟨i, hi⟩ := List.getElem?_of_mem hr
          obtain ⟨_, _, _, hw, _⟩ := hA i row hi
          exact hw
        · intro y hy
          obtain rfl : y = .sl es := by simpa using hy
          refine .sl es ?_ fun row hr => ?_
          · subst hxe
            have := hμ.len (elems.map (·.1)) (rest.map (·.1))
            rw [List.length_map] at this
            exact Nat.le_trans (by omega) (Nat.le_trans this hN)
          · obtain ⟨i, hi⟩ := List.getElem?_of_mem hr
            obtain ⟨_, _, _, _, hcp⟩ := hA i row hi
            exact hcp
    · rename_i fs hu
      simp only [Bool.and_eq_true] at hp
      obtain ⟨hf, htile⟩ := hp
      obtain ⟨xs, m, hm, hxe, hl, hxl, hx⟩ := DataW.trod_struct hu h
      obtain rfl : m = n := by omega
      have ex : ∀ i, i < fs.size → ∃ r, ∀ f, fs[i]? = some f → RelDs (Gh.entry W).F r ((cs.drop f.offset).take (P.cellsOf f.type)) ∧ WT P f.type r ∧ ∀ y ∈ r, CapD N y := by
        intro i hi
        obtain ⟨f, hfi⟩ : ∃ f, fs[i]? = some f := ⟨_, Array.getElem?_eq_getElem hi⟩
        obtain ⟨y, hy⟩ : ∃ y, xs[i]? = some y := ⟨_, List.getElem?_eq_getElem (by omega)⟩
        have h1 := hx i f hfi
        rw [hy] at h1
        have hfS : f.type ∈ S := by
          have := List.all_eq_true.1 hf f (by rw [← Array.getElem?_toList] at hfi; exact List.mem_of_getElem? hfi)
          simpa using this
        obtain ⟨r, hr, hw, hcp⟩ := cameC hS hμ (N := N) m _ _ y hfS h1 (by subst hxe; exact Nat.le_trans (hμ.ag (xs.map (·.1)) y.1 (List.mem_map.2 ⟨y, List.mem_of_getElem? hy, rfl⟩)) hN)
        exact ⟨r, fun f' hf' => by rw [hfi] at hf'; cases hf'; exact ⟨hr, hw, hcp⟩⟩
      obtain ⟨dss, hdl, hA⟩ := exL fs.size ex
      rw [← hl] at htile
      refine ⟨dss.flatten, ?_, .st hu dss hdl (fun i f ds h1 h2 => (hA i ds h2 f h1).2.1), fun y hy => ?_⟩
      rotate_left
      · obtain ⟨r, hr, hyr⟩ := List.mem_flatten.1 hy
        obtain ⟨i, hi⟩ := List.getElem?_of_mem hr
        have hlt : i < fs.size := by rw [← hdl]; exact (List.getElem?_eq_some_iff.1 hi).1
        exact (hA i r hi _ (Array.getElem?_eq_getElem hlt)).2.2 y hyr
      have := tile_rel (F := (Gh.entry W).F) fs.toList 0 dss htile (by simpa using hdl) (fun i f ds h1 h2 => (hA i ds h2 f (by simpa using h1)).1)
      simpa using this
    · cases hp
end
section
variable {H : Type} {enc : TypeId × Value → H} {P : Program} {W : World} {spare : Nat → Bool} {held : Bool} {t : TypeId} {v : Value} {d : DataW H} {ps : List MemPlace} {r : Reach} {base : Nat}
theorem cameC_st {S : List TypeId} (hS : plainB P S = true) {μ : DataW H → Nat} (hμ : Meas μ) {N : Nat} (hN : μ d ≤ N) (ht : t ∈ S) {fs : Array Field} (hu : P.underlying t = some (.struct fs)) (hok : Value.okWide P W r base t v) (h : DataW.Trod enc P W 0 spare held t v d ps) :
    ∃ ds, WT P t ds ∧ (∀ y ∈ ds, CapD N y) ∧ RelV (Gh.entry W) (.agg (ds.map .d)) v := by
  obtain ⟨xs, rfl, _⟩ := WideShapes.okWide_struct hu hok
  obtain ⟨n, hn⟩ := h
  obtain ⟨ds, hr, hw, hc⟩ := cameC hS hμ n t _ _ ht hn hN
  exact ⟨ds, hw, hc, relV_agg hr⟩
end
end Go.VM
