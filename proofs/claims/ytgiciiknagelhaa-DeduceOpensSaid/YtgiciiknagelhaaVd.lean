/- The value level machine, fourth part: a form of it that the kernel reckons fast, proved right. Conditions: none. -/
import Derived.Test.YtgiciiknagelhaaVc
set_option linter.unusedSimpArgs false
set_option linter.unusedVariables false
namespace Go.VM
structure Fl where
  fl : List (Nat × Bool)
  ob : List (Bool × Bool)
  vs : List Int
abbrev Rs := Option (Ret × List (Bool × Bool))
def OKs (l : List (Bool × Bool)) : Prop := ∀ p ∈ l, p.1 = p.2
theorem OKs.sub {a b : List (Bool × Bool)} (h : OKs b) (hs : a ⊆ b) : OKs a := fun p hp => h p (hs hp)
noncomputable def spF {α : Type} (l : List α) (k : List α → Rs) : Rs :=
  List.rec (motive := fun _ => (List α → Rs) → Rs) (fun k => k []) (fun a _ ih k => ih fun l' => k (a :: l')) l k
noncomputable def sp2F {α : Type} (l : List (List α)) (k : List (List α) → Rs) : Rs :=
  List.rec (motive := fun _ => (List (List α) → Rs) → Rs) (fun k => k []) (fun a _ ih k => spF a fun a' => ih fun l' => k (a' :: l')) l k
noncomputable def lenK {α : Type} (l : List α) : Nat := List.rec (motive := fun _ => Nat) 0 (fun _ _ ih => Nat.succ ih) l
noncomputable def natF (n : Nat) (k : Nat → Rs) : Rs := Nat.rec (motive := fun _ => Rs) (k 0) (fun m _ => k (Nat.succ m)) n
noncomputable def setF {α : Type} (l : List α) (n : Nat) (v : α) (k : List α → Rs) : Rs :=
  List.rec (motive := fun _ => Nat → (List α → Rs) → Rs) (fun _ k => k []) (fun a l ih n k => Nat.rec (motive := fun _ => Rs) (k (v :: l)) (fun m _ => ih m fun l' => k (a :: l')) n) l n k
noncomputable def dropF {α : Type} (l : List α) (n : Nat) (k : List α → Rs) : Rs :=
  Nat.rec (motive := fun _ => List α → Rs) (fun l => k l) (fun _ ih l => List.rec (motive := fun _ => Rs) none (fun _ l' _ => ih l') l) n l
noncomputable def takeF {α : Type} (l : List α) (n : Nat) (k : List α → Rs) : Rs :=
  Nat.rec (motive := fun _ => List α → (List α → Rs) → Rs) (fun _ k => k []) (fun _ ih l k => List.rec (motive := fun _ => Rs) none (fun a l' _ => ih l' fun r => k (a :: r)) l) n l k
noncomputable def nthF {α : Type} (l : List α) (n : Nat) (k : α → Rs) : Rs :=
  Nat.rec (motive := fun _ => List α → Rs) (fun l => List.rec (motive := fun _ => Rs) none (fun a _ _ => k a) l) (fun _ ih l => List.rec (motive := fun _ => Rs) none (fun _ l' _ => ih l') l) n l
noncomputable def lenEq {α : Type} (l : List α) (n : Nat) : Bool :=
  List.rec (motive := fun _ => Nat → Bool) (fun n => Nat.rec (motive := fun _ => Bool) true (fun _ _ => false) n) (fun _ _ ih n => Nat.rec (motive := fun _ => Bool) false (fun m _ => ih m) n) l n
noncomputable def over {α : Type} (cs z : List α) (k : List α → Rs) : Rs :=
  List.rec (motive := fun _ => List α → (List α → Rs) → Rs) (fun z k => k z) (fun c _ ih z k => List.rec (motive := fun _ => Rs) none (fun _ z' _ => ih z' fun r => k (c :: r)) z) cs z k
noncomputable def splF {α : Type} (z : List α) (off : Nat) (cs : List α) (k : List α → Rs) : Rs :=
  Nat.rec (motive := fun _ => List α → (List α → Rs) → Rs) (fun z k => over cs z k) (fun _ ih z k => List.rec (motive := fun _ => Rs) none (fun a z' _ => ih z' fun r => k (a :: r)) z) off z k
noncomputable def appF {α : Type} (a b : List α) (k : List α → Rs) : Rs :=
  List.rec (motive := fun _ => (List α → Rs) → Rs) (fun k => k b) (fun x _ ih k => ih fun l' => k (x :: l')) a k
noncomputable def allK {α : Type} (p : α → Bool) (l : List α) : Bool := List.rec (motive := fun _ => Bool) true (fun a _ ih => Bool.rec false ih (p a)) l
noncomputable def fvAny (k : V → Rs) : Rs := k .any
noncomputable def fvNil (k : V → Rs) : Rs := k .nil
noncomputable def fvD (x : D) (k : V → Rs) : Rs := k (.d x)
noncomputable def fvSl (sz : Nat) (es : List (List D)) (t : Tag) (k : V → Rs) : Rs := k (.sl sz es t)
noncomputable def fsSv (sz : Nat) (es : List (List D)) (t : Tag) (k : V → Rs) : Rs := spF es fun es => k (.sl sz es t)
noncomputable def fvLoc (a b c d : Nat) (k : V → Rs) : Rs := k (.loc a b c d)
noncomputable def fvPtr (a b : Nat) (k : V → Rs) : Rs := k (.ptr a b)
noncomputable def fvEp (cs : List D) (k : V → Rs) : Rs := spF cs fun cs => k (.ep cs)
noncomputable def fvEpv (v : V) (k : V → Rs) : Rs := k (.epv v)
noncomputable def fvPsl (cs : List V) (k : V → Rs) : Rs := spF cs fun cs => k (.psl cs)
noncomputable def fvAgg (cs : List V) (k : V → Rs) : Rs := spF cs fun cs => k (.agg cs)
noncomputable def fvTup (cs : List V) (k : V → Rs) : Rs := spF cs fun cs => k (.tup cs)
noncomputable def fvFn (f : FuncId) (cs : List V) (k : V → Rs) : Rs := spF cs fun cs => k (.fn f cs)
noncomputable def fV (v : V) : (V → Rs) → Rs := match v with
  | .any => fvAny
  | .nil => fvNil
  | .d x => fvD x
  | .sl sz es t => fvSl sz es t
  | .loc a b c d => fvLoc a b c d
  | .ptr a b => fvPtr a b
  | .ep cs => fvEp cs
  | .epv v => fvEpv v
  | .psl cs => fvPsl cs
  | .agg cs => fvAgg cs
  | .tup cs => fvTup cs
  | .fn f cs => fvFn f cs
noncomputable def fsSl (es : List (List D)) (k : V → Rs) : Rs := spF es fun es => k (.d (.sl es))
noncomputable def fsLit (v : Value) (k : V → Rs) : Rs := k (.d (.lit v))
noncomputable def fsD (x : D) : (V → Rs) → Rs := match x with
  | .sl es => fsSl es
  | .lit v => fsLit v
noncomputable def fVs (v : V) : (V → Rs) → Rs := match v with
  | .d x => fsD x
  | .sl sz es t => fsSv sz es t
  | v => fV v
noncomputable def fL (l : List V) (k : List V → Rs) : Rs :=
  List.rec (motive := fun _ => (List V → Rs) → Rs) (fun k => k []) (fun a _ ih k => fV a fun a' => ih fun l' => k (a' :: l')) l k
noncomputable def fLL (l : List (List V)) (k : List (List V) → Rs) : Rs :=
  List.rec (motive := fun _ => (List (List V) → Rs) → Rs) (fun k => k []) (fun a _ ih k => fL a fun a' => ih fun l' => k (a' :: l')) l k
def isD : V → Bool
  | .d _ => true
  | _ => false
noncomputable def allD (l : List V) : Bool := allK isD l
noncomputable def pl1 : V → Bool
  | .d _ => true
  | .agg cs => allD cs
  | _ => false
noncomputable def pl2 : V → Bool
  | .d _ => true
  | .agg cs => allD cs
  | .tup cs => allK pl1 cs
  | _ => false
end Go.VM
set_option linter.unusedVariables false
namespace Go.VM
noncomputable def evsF (ρ : VArg → V) (as : List VArg) (k : List V → Rs) : Rs :=
  List.rec (motive := fun _ => (List V → Rs) → Rs) (fun k => k []) (fun a _ ih k => fV (ρ a) fun v => ih fun l => k (v :: l)) as k
noncomputable def dmapF (l : List D) (k : List V → Rs) : Rs :=
  List.rec (motive := fun _ => (List V → Rs) → Rs) (fun k => k []) (fun a _ ih k => ih fun l => k (.d a :: l)) l k
noncomputable def cellsF (v : V) (n : Nat) (k : List V → Rs) : Rs := match v with
  | .agg cs => match lenEq cs n with
    | true => match allK V.isCell cs with
      | true => k cs
      | false => none
    | false => none
  | .any => none
  | .tup _ => none
  | v => match Nat.beq n 1 with
    | true => k [v]
    | false => none
noncomputable def loadF (bl : List (List V)) (v : V) (n : Nat) (k : List V → Rs) : Rs := match v with
  | .ptr id off => nthF bl id fun cs => dropF cs off fun cs' => takeF cs' n k
  | .ep cs => takeF cs n fun ds => dmapF ds k
  | .epv v => match Nat.beq n 1 with
    | true => k [v]
    | false => none
  | _ => none
noncomputable def shapeF (ag : Bool) (cs : List V) (k : V → Rs) : Rs := match ag with
  | true => k (.agg cs)
  | false => match cs with
    | [v] => fV v k
    | _ => none
noncomputable def idxF (es : List (List D)) (iv : V) (k : List D → Rs) : Rs := match vIdx (lenK es) iv with
  | some j => nthF es j k
  | none => none
noncomputable def fillF (ρ : VArg → V) (parts : List (Nat × Nat × VArg)) (zero : List V) (k : List V → Rs) : Rs :=
  List.rec (motive := fun _ => List V → Rs) (fun z => k z) (fun p _ ih z => cellsF (ρ p.2.2) p.2.1 fun cs => splF z p.1 cs fun z' => ih z') parts zero
def wF (n : Int) : Int := match n with
  | .ofNat m => match Nat.ble m 9223372036854775807 with
    | true => .ofNat m
    | false => IntKind.i64.wrap (.ofNat m)
  | .negSucc m => match Nat.ble m 9223372036854775807 with
    | true => .negSucc m
    | false => IntKind.i64.wrap (.negSucc m)
def eqF (a b : Int) : Bool := match a, b with
  | .ofNat m, .ofNat n => Nat.beq m n
  | .negSucc m, .negSucc n => Nat.beq m n
  | .ofNat _, .negSucc _ => false
  | .negSucc _, .ofNat _ => false
def leF (a b : Int) : Bool := match a, b with
  | .ofNat m, .ofNat n => Nat.ble m n
  | .negSucc m, .negSucc n => Nat.ble n m
  | .ofNat _, .negSucc _ => false
  | .negSucc _, .ofNat _ => true
def arF (op : BinOp) (g : Int → Int → Int) (x y : V) : Option V := match x, y with
  | .d (.lit (.int .i64 a)), .d (.lit (.int .i64 b)) => some (.d (.lit (.int .i64 (wF (g a b)))))
  | x, y => vBin op x y
def cmF (op : BinOp) (g : Int → Int → Bool) (x y : V) : Option V := match x, y with
  | .d (.lit (.int .i64 a)), .d (.lit (.int .i64 b)) => some (.d (.lit (.bool (g a b))))
  | x, y => vBin op x y
def binF (op : BinOp) (x y : V) : Option V := match op with
  | .add => arF .add (fun a b => a + b) x y
  | .sub => arF .sub (fun a b => a - b) x y
  | .mul => arF .mul (fun a b => a * b) x y
  | .eql => cmF .eql (fun a b => eqF a b) x y
  | .neq => cmF .neq (fun a b => !eqF a b) x y
  | .lss => cmF .lss (fun a b => !leF b a) x y
  | .leq => cmF .leq (fun a b => leF a b) x y
  | .gtr => cmF .gtr (fun a b => !leF a b) x y
  | .geq => cmF .geq (fun a b => leF b a) x y
  | op => vBin op x y
def cvF (kd : IntKind) (x : V) : Option V := match kd, x with
  | .i64, .d (.lit (.int _ n)) => some (.d (.lit (.int .i64 (wF n))))
  | kd, x => match x.int with
    | some (_, n) => some (lit (.int kd (kd.wrap n)))
    | none => none
noncomputable def pMov (x : VArg) (bl : List (List V)) (ρ : VArg → V) (k : V → Rs) : Rs := fV (ρ x) k
noncomputable def pLoad (x : VArg) (n : Nat) (ag : Bool) (bl : List (List V)) (ρ : VArg → V) (k : V → Rs) : Rs := loadF bl (ρ x) n fun cs => shapeF ag cs k
noncomputable def pFieldA (x : VArg) (off : Nat) (bl : List (List V)) (ρ : VArg → V) (k : V → Rs) : Rs := match ρ x with
  | .ptr id o => natF (o + off) fun o => k (.ptr id o)
  | .ep cs => dropF cs off fun cs => k (.ep cs)
  | .epv v => match Nat.beq off 0 with
    | true => k (.epv v)
    | false => none
  | _ => none
noncomputable def pField (x : VArg) (off n : Nat) (ag : Bool) (bl : List (List V)) (ρ : VArg → V) (k : V → Rs) : Rs := match ρ x with
  | .agg cs => dropF cs off fun cs' => takeF cs' n fun r => shapeF ag r k
  | _ => none
noncomputable def pIdxA (sz : Nat) (x i : VArg) (bl : List (List V)) (ρ : VArg → V) (k : V → Rs) : Rs := match ρ x with
  | .d y => match y with
    | .sl es => idxF es (ρ i) fun row => match lenEq row sz with
      | true => k (.ep row)
      | false => none
    | .lit _ => none
  | .sl s es _ => match Nat.beq s sz with
    | true => idxF es (ρ i) fun row => k (.ep row)
    | false => none
  | v => match vIdxA sz v (ρ i) with
    | some r => fV r k
    | none => none
noncomputable def pExt (x : VArg) (i : Nat) (bl : List (List V)) (ρ : VArg → V) (k : V → Rs) : Rs := match ρ x with
  | .tup vs => nthF vs i fun v => fV v k
  | _ => none
noncomputable def pLen (x : VArg) (bl : List (List V)) (ρ : VArg → V) (k : V → Rs) : Rs := match ρ x with
  | .d y => match y with
    | .sl es => natF (lenK es) fun n => k (.d (.lit (.int .i64 (Int.ofNat n))))
    | .lit _ => none
  | .sl _ es _ => natF (lenK es) fun n => k (.d (.lit (.int .i64 (Int.ofNat n))))
  | v => match vLen v with
    | some r => fV r k
    | none => none
noncomputable def pBuild (zero : List V) (parts : List (Nat × Nat × VArg)) (bl : List (List V)) (ρ : VArg → V) (k : V → Rs) : Rs := fillF ρ parts zero fun cs => k (.agg cs)
noncomputable def pSlice (sz : Nat) (x : VArg) (lo hi : Option VArg) (bl : List (List V)) (ρ : VArg → V) (k : V → Rs) : Rs := match vSlice sz (ρ x) (lo.map (ρ)) (hi.map (ρ)) with
  | some r => fVs r k
  | none => none
noncomputable def pBin (op : BinOp) (x y : VArg) (bl : List (List V)) (ρ : VArg → V) (k : V → Rs) : Rs := match binF op (ρ x) (ρ y) with
  | some r => fV r k
  | none => none
noncomputable def pConvI (kd : IntKind) (x : VArg) (bl : List (List V)) (ρ : VArg → V) (k : V → Rs) : Rs := match cvF kd (ρ x) with
  | some r => fV r k
  | none => none
noncomputable def pGen (op : VOp) (bl : List (List V)) (ρ : VArg → V) (k : V → Rs) : Rs := match vPure (fun id => bl[id]?) ρ op with
  | some r => fV r k
  | none => none
noncomputable def pureF (op : VOp) : List (List V) → (VArg → V) → (V → Rs) → Rs := match op with
  | .mov x => pMov x
  | .load x n ag => pLoad x n ag
  | .fieldA x off => pFieldA x off
  | .field x off n ag => pField x off n ag
  | .idxA sz x i => pIdxA sz x i
  | .ext x i => pExt x i
  | .len x => pLen x
  | .build zero parts => pBuild zero parts
  | .slice sz x lo hi => pSlice sz x lo hi
  | .bin op x y => pBin op x y
  | .convI kd x => pConvI kd x
  | op => pGen op
end Go.VM
set_option linter.unusedVariables false
namespace Go.VM
abbrev CF := FuncId → List V → List (List V) → Fl → (Ret → Fl → Rs) → Rs
noncomputable def erF (v : V) : V := match pl2 v with
  | true => v
  | false => v.er
noncomputable def erLF (v : List V) : List V := match allD v with
  | true => v
  | false => V.erL v
noncomputable def backF (bl : List (List V)) (lv : List Nat) (gn ba de : Nat) (ret : Ret) (k : V → St → Rs) : Rs :=
  fV (ret.r.imp gn (lenK bl)) fun r => fLL (ret.blocks.map (V.impL gn (lenK bl))) fun rb => appF bl rb fun bl' => spF (ret.live.map (gn + ·) ++ lv) fun lv' => natF (gn + ret.gn) fun gn' => k r ⟨[], bl', lv', gn', ba, de⟩
noncomputable def vPreF (ba : Nat) (bl : List (List V)) (as : List V) : Option (List (List V)) := match ba with
  | 0 => match preOk (V.topL as) as ((bl.take (V.topL as)).map V.erL) with
    | true => some ((bl.take (V.topL as)).map V.erL)
    | false => none
  | _ + 1 => none
noncomputable def callF (C : CF) (bl : List (List V)) (lv : List Nat) (gn ba de : Nat) (f : FuncId) (as : List V) (fl : Fl) (k : V → St → Fl → Rs) : Rs :=
  match allK pl2 as with
  | true => C f as [] fl fun ret fl' => match ret.blocks, ret.live, ret.gn with
    | [], [], 0 => match pl2 ret.r with
      | true => fV ret.r fun r => k r ⟨[], bl, lv, gn, ba, de⟩ fl'
      | false => backF bl lv gn ba de ret fun r st => k r st fl'
    | _, _, _ => backF bl lv gn ba de ret fun r st => k r st fl'
  | false => fL (as.map erF) fun as' => match allK (V.ltb 0) as' with
    | true => C f as' [] fl fun ret fl' => backF bl lv gn ba de ret fun r st => k r st fl'
    | false => match vPreF ba bl as' with
      | some pb => fLL pb fun pb' => C f as' pb' fl fun ret fl' => match ret.live, ret.gn with
        | [], 0 => match Nat.beq (lenK ret.blocks) (lenK pb') with
          | true => fV ret.r fun r => fLL ret.blocks fun rb => appF rb (bl.drop (lenK pb')) fun bl2 => k r ⟨[], bl2, lv, gn, ba, de⟩ fl'
          | false => none
        | _, _ => match Nat.beq (lenK ret.blocks) (lenK pb') with
          | true => fV (ret.r.imp gn 0) fun r => fLL ret.blocks fun rb => appF rb (bl.drop (lenK pb')) fun bl2 => spF (ret.live.map (gn + ·) ++ lv) fun lv' => natF (gn + ret.gn) fun gn' => k r ⟨[], bl2, lv', gn', ba, de⟩ fl'
          | false => none
      | none => fLL (bl.map erLF) fun bl' => C f as' bl' fl fun ret fl' => match ret.live, ret.gn with
        | [], 0 => match Nat.beq (lenK ret.blocks) (lenK bl) with
          | true => fV ret.r fun r => fLL ret.blocks fun rb => k r ⟨[], rb, lv, gn, ba, de⟩ fl'
          | false => none
        | _, _ => none
noncomputable def decT (l : List (Nat × Bool)) (ob : List (Bool × Bool)) (vs : List Int) (k : Bool → Fl → Rs) : Rs := k true ⟨l, ob, vs⟩
noncomputable def decF (l : List (Nat × Bool)) (ob : List (Bool × Bool)) (vs : List Int) (k : Bool → Fl → Rs) : Rs := k false ⟨l, ob, vs⟩
noncomputable def decB (b : Bool) : List (Nat × Bool) → List (Bool × Bool) → List Int → (Bool → Fl → Rs) → Rs := match b with
  | true => decT
  | false => decF
noncomputable def decN (n : Nat) (t : Bool) (r : List (Nat × Bool)) (b : Bool) (ob : List (Bool × Bool)) (vs : List Int) (k : Bool → Fl → Rs) : Rs := match n with
  | 0 => k t ⟨r, (b, t) :: ob, vs⟩
  | m + 1 => decB b ((m, t) :: r) ob vs k
noncomputable def decP (p : Nat × Bool) (r : List (Nat × Bool)) : Bool → List (Bool × Bool) → List Int → (Bool → Fl → Rs) → Rs := match p with
  | (n, t) => decN n t r
noncomputable def decE (b : Bool) (ob : List (Bool × Bool)) (vs : List Int) (k : Bool → Fl → Rs) : Rs := decB b [] ob vs k
noncomputable def decL (l : List (Nat × Bool)) : Bool → List (Bool × Bool) → List Int → (Bool → Fl → Rs) → Rs := match l with
  | [] => decE
  | p :: r => decP p r
noncomputable def decU (l : List (Nat × Bool)) (ob : List (Bool × Bool)) (vs : List Int) (b : Bool) (k : Bool → Fl → Rs) : Rs := decL l b ob vs k
noncomputable def dec (b : Bool) (f : Fl) (k : Bool → Fl → Rs) : Rs := (match f with | ⟨l, ob, vs⟩ => decU l ob vs : Bool → (Bool → Fl → Rs) → Rs) b k
def isLit (n : Int) : Bool := match n with
  | .ofNat _ => true
  | .negSucc _ => true
noncomputable def frcI (n : Int) (k : Int → Rs) : Rs := match n with
  | .ofNat m => natF m fun m => k (.ofNat m)
  | .negSucc m => natF m fun m => k (.negSucc m)
noncomputable def lzT (l : List (Nat × Bool)) (n : Int) (ob : List (Bool × Bool)) (vs : List Int) (k : Int → Fl → Rs) : Rs := frcI n fun n' => k n' ⟨l, ob, vs⟩
noncomputable def lzF (l : List (Nat × Bool)) (n : Int) (ob : List (Bool × Bool)) (vs : List Int) (k : Int → Fl → Rs) : Rs := k n ⟨l, ob, vs⟩
noncomputable def lzB (b : Bool) : List (Nat × Bool) → Int → List (Bool × Bool) → List Int → (Int → Fl → Rs) → Rs := match b with
  | true => lzT
  | false => lzF
noncomputable def lzV (r : List (Nat × Bool)) (n : Int) (ob : List (Bool × Bool)) (vs : List Int) (k : Int → Fl → Rs) : Rs := match vs with
  | v :: vs' => k v ⟨r, (eqF n v, true) :: ob, vs'⟩
  | [] => none
noncomputable def lz0 (t : Bool) : List (Nat × Bool) → Int → List (Bool × Bool) → List Int → (Int → Fl → Rs) → Rs := match t with
  | true => lzF
  | false => lzV
noncomputable def lzN (c : Nat) (t : Bool) (r : List (Nat × Bool)) (n : Int) (ob : List (Bool × Bool)) (vs : List Int) (k : Int → Fl → Rs) : Rs := match c with
  | 0 => lz0 t r n ob vs k
  | m + 1 => lzB (isLit n) ((m, t) :: r) n ob vs k
noncomputable def lzP (p : Nat × Bool) (r : List (Nat × Bool)) : Int → List (Bool × Bool) → List Int → (Int → Fl → Rs) → Rs := match p with
  | (c, t) => lzN c t r
noncomputable def lzL (l : List (Nat × Bool)) : Int → List (Bool × Bool) → List Int → (Int → Fl → Rs) → Rs := match l with
  | [] => lzT []
  | p :: r => lzP p r
noncomputable def lzU (l : List (Nat × Bool)) (ob : List (Bool × Bool)) (vs : List Int) (n : Int) (k : Int → Fl → Rs) : Rs := lzL l n ob vs k
noncomputable def lzy (n : Int) (f : Fl) (k : Int → Fl → Rs) : Rs := (match f with | ⟨l, ob, vs⟩ => lzU l ob vs : Int → (Int → Fl → Rs) → Rs) n k
noncomputable def nmI (kd : IntKind) (n : Int) (fl : Fl) (k : V → Fl → Rs) : Rs := lzy n fl fun n' fl' => k (.d (.lit (.int kd n'))) fl'
noncomputable def nmO (v : Value) (fl : Fl) (k : V → Fl → Rs) : Rs := k (.d (.lit v)) fl
noncomputable def nmL (v : Value) : Fl → (V → Fl → Rs) → Rs := match v with
  | .int kd n => nmI kd n
  | v => nmO v
noncomputable def nmS (es : List (List D)) (fl : Fl) (k : V → Fl → Rs) : Rs := k (.d (.sl es)) fl
noncomputable def nmD (y : D) : Fl → (V → Fl → Rs) → Rs := match y with
  | .lit v => nmL v
  | .sl es => nmS es
noncomputable def nmR (r : V) (fl : Fl) (k : V → Fl → Rs) : Rs := k r fl
noncomputable def numF (r : V) : Fl → (V → Fl → Rs) → Rs := match r with
  | .d y => nmD y
  | r => nmR r
noncomputable def locF (bl : List (List V)) (id off len sz : Nat) (k : V → Rs) : Rs := match frzLoc bl[id]? off len sz with
  | .d y => match y with
    | .sl es => sp2F es fun es => k (.d (.sl es))
    | y => k (.d y)
  | v => k v
noncomputable def frz1F (bl : List (List V)) (n : Nat) (v : V) (k : V → Rs) : Rs := match v with
  | .d y => k (.d y)
  | .loc id off len sz => match Nat.ble n id with
    | true => locF bl id off len sz k
    | false => k (.loc id off len sz)
  | v => fV (v.frz bl n) k
noncomputable def frzLF (bl : List (List V)) (n : Nat) (vs : List V) (k : List V → Rs) : Rs :=
  List.rec (motive := fun _ => (List V → Rs) → Rs) (fun k => k []) (fun v _ ih k => frz1F bl n v fun v' => ih fun l => k (v' :: l)) vs k
noncomputable def frz2F (bl : List (List V)) (n : Nat) (v : V) (k : V → Rs) : Rs := match v with
  | .agg vs => frzLF bl n vs fun vs' => k (.agg vs')
  | v => frz1F bl n v k
noncomputable def frzL2F (bl : List (List V)) (n : Nat) (vs : List V) (k : List V → Rs) : Rs :=
  List.rec (motive := fun _ => (List V → Rs) → Rs) (fun k => k []) (fun v _ ih k => frz2F bl n v fun v' => ih fun l => k (v' :: l)) vs k
noncomputable def frzF (bl : List (List V)) (n : Nat) (v : V) (k : V → Rs) : Rs := match v with
  | .tup vs => frzL2F bl n vs fun vs' => k (.tup vs')
  | v => frz2F bl n v k
noncomputable def inlF (C : CF) (bl : List (List V)) (lv : List Nat) (gn ba de : Nat) (f : FuncId) (as : List V) (fl : Fl) (k : V → St → Fl → Rs) : Rs := match de with
  | 0 => C (f + 1000000) (inArgs gn ba lv as) bl fl fun ret fl' => match Nat.ble (lenK bl) (lenK ret.blocks) with
    | true => fV ret.r fun r => k r ⟨[], ret.blocks, ret.live, ret.gn, ba, 0⟩ fl'
    | false => none
  | _ + 1 => none
noncomputable def sPure (p : List (List V) → (VArg → V) → (V → Rs) → Rs) (C : CF) (ρ : VArg → V) (bl : List (List V)) (lv : List Nat) (gn ba de : Nat) (fl : Fl) (k : V → St → Fl → Rs) : Rs := p bl ρ fun r => k r ⟨[], bl, lv, gn, ba, de⟩ fl
noncomputable def sNum (p : List (List V) → (VArg → V) → (V → Rs) → Rs) (C : CF) (ρ : VArg → V) (bl : List (List V)) (lv : List Nat) (gn ba de : Nat) (fl : Fl) (k : V → St → Fl → Rs) : Rs := p bl ρ fun r => numF r fl fun r fl' => k r ⟨[], bl, lv, gn, ba, de⟩ fl'
noncomputable def sCall (f : FuncId) (args : List VArg) (C : CF) (ρ : VArg → V) (bl : List (List V)) (lv : List Nat) (gn ba de : Nat) (fl : Fl) (k : V → St → Fl → Rs) : Rs := evsF ρ args fun as => match Nat.ble (Nat.succ f) 1000000 with
    | true => callF C bl lv gn ba de f as fl k
    | false => none
noncomputable def sCallv (y : VArg) (args : List VArg) (C : CF) (ρ : VArg → V) (bl : List (List V)) (lv : List Nat) (gn ba de : Nat) (fl : Fl) (k : V → St → Fl → Rs) : Rs := match ρ y with
  | .fn f caps => evsF ρ args fun as => appF as caps fun as => match Nat.ble (Nat.succ f) 1000000 with
      | true => callF C bl lv gn ba de f as fl k
      | false => none
  | _ => none
noncomputable def sBox (cells : List V) (C : CF) (ρ : VArg → V) (bl : List (List V)) (lv : List Nat) (gn ba de : Nat) (fl : Fl) (k : V → St → Fl → Rs) : Rs := natF (lenK bl) fun id => appF bl [cells] fun bl' => k (.ptr id 0) ⟨[], bl', lv, gn, ba, de⟩ fl
noncomputable def sBoxv (n : Nat) (y : VArg) (C : CF) (ρ : VArg → V) (bl : List (List V)) (lv : List Nat) (gn ba de : Nat) (fl : Fl) (k : V → St → Fl → Rs) : Rs := cellsF (ρ y) n fun cs => natF (lenK bl) fun id => appF bl [cs] fun bl' => k (.ptr id 0) ⟨[], bl', lv, gn, ba, de⟩ fl
noncomputable def sStore (a y : VArg) (n : Nat) (C : CF) (ρ : VArg → V) (bl : List (List V)) (lv : List Nat) (gn ba de : Nat) (fl : Fl) (k : V → St → Fl → Rs) : Rs := match ρ a with
  | .ptr id off => cellsF (ρ y) n fun cs => nthF bl id fun blk => match n with
    | 0 => none
    | _ + 1 => match Nat.ble ba id with
      | true => splF blk off cs fun blk' => setF bl id blk' fun bl' => k .any ⟨[], bl', lv, gn, ba, de⟩ fl
      | false => splF blk off (erLF cs) fun blk' => fL blk' fun blk' => setF bl id blk' fun bl' => k .any ⟨[], bl', lv, gn, ba, de⟩ fl
  | _ => none
noncomputable def sAppF (sz : Nat) (y z : VArg) (C : CF) (ρ : VArg → V) (bl : List (List V)) (lv : List Nat) (gn ba de : Nat) (fl : Fl) (k : V → St → Fl → Rs) : Rs := match vRows (ρ z) with
  | some ms => match vAppDst ⟨[], [], lv, gn, ba, de⟩ sz (ρ y) with
    | some (es, live) => dec (Nat.ble (lenK es + lenK ms) appBound) fl fun t fl' => match t with
      | true => match allK (fun r => lenEq r sz) ms with
        | true => spF live fun live' => natF gn fun g => k (.sl sz (es ++ ms) (.own de g)) ⟨[], bl, g :: live', Nat.succ g, ba, de⟩ fl'
        | false => none
      | false => none
    | none => match vApp0 (ρ y) ms with
      | some r => fVs r fun r => k r ⟨[], bl, lv, gn, ba, de⟩ fl
      | none => none
  | none => none
noncomputable def sBuildSlF (len sz : Nat) (zero : List V) (parts : List (Nat × VArg)) (C : CF) (ρ : VArg → V) (bl : List (List V)) (lv : List Nat) (gn ba de : Nat) (fl : Fl) (k : V → St → Fl → Rs) : Rs := match vBuildSl [] len sz zero (parts.map fun p => (p.1, VArg.c (ρ p.2))) with
  | some r => fVs r fun r => k r ⟨[], bl, lv, gn, ba, de⟩ fl
  | none => none
noncomputable def sBuildSlT (len sz : Nat) (zero : List V) (parts : List (Nat × VArg)) (C : CF) (ρ : VArg → V) (bl : List (List V)) (lv : List Nat) (gn ba de : Nat) (fl : Fl) (k : V → St → Fl → Rs) : Rs := match vBuildSlM ⟨[], bl, lv, gn, ba, de⟩ [] len sz zero (parts.map fun p => (p.1, VArg.c (ρ p.2))) with
  | some (r, ⟨_, bl', lv', gn', _, _⟩) => fVs r fun r => sp2F bl' fun bl' => spF lv' fun lv' => natF gn' fun gn' => k r ⟨[], bl', lv', gn', ba, de⟩ fl
  | none => none
noncomputable def sAppT (sz : Nat) (y z : VArg) (C : CF) (ρ : VArg → V) (bl : List (List V)) (lv : List Nat) (gn ba de : Nat) (fl : Fl) (k : V → St → Fl → Rs) : Rs := match vRows (ρ z) with
  | some ms => match vAppM ⟨[], bl, lv, gn, ba, de⟩ sz (ρ y) ms with
    | some (r, ⟨_, bl', lv', gn', _, _⟩) => fVs r fun r => sp2F bl' fun bl' => spF lv' fun lv' => natF gn' fun gn' => k r ⟨[], bl', lv', gn', ba, de⟩ fl
    | none => none
  | none => none
noncomputable def sFrz (y : VArg) (ld : Option (Nat × Bool)) (C : CF) (ρ : VArg → V) (bl : List (List V)) (lv : List Nat) (gn ba de : Nat) (fl : Fl) (k : V → St → Fl → Rs) : Rs := match vPure (fun id => bl[id]?) ρ (frzIn y ld) with
  | some v => fV v fun v => frzF bl ba v fun r => sp2F (killL bl (v.locs ba)) fun bl' => k r ⟨[], bl', lv, gn, ba, de⟩ fl
  | none => none
noncomputable def sPick (c a b : VArg) (C : CF) (ρ : VArg → V) (bl : List (List V)) (lv : List Nat) (gn ba de : Nat) (fl : Fl) (k : V → St → Fl → Rs) : Rs := match (ρ c).bool with
  | some t => dec t fl fun t' fl' => match t' with
    | true => fV (ρ a) fun r => k r ⟨[], bl, lv, gn, ba, de⟩ fl'
    | false => fV (ρ b) fun r => k r ⟨[], bl, lv, gn, ba, de⟩ fl'
  | none => none
noncomputable def sMkSl (zero : List V) (len cap : VArg) (_ : Bool) (C : CF) (ρ : VArg → V) (bl : List (List V)) (lv : List Nat) (gn ba de : Nat) (fl : Fl) (k : V → St → Fl → Rs) : Rs := match vMkSl zero (ρ len) (ρ cap) with
  | some r => fVs r fun r => k r ⟨[], bl, lv, gn, ba, de⟩ fl
  | none => none
noncomputable def sSBytes (y : VArg) (C : CF) (ρ : VArg → V) (bl : List (List V)) (lv : List Nat) (gn ba de : Nat) (fl : Fl) (k : V → St → Fl → Rs) : Rs := match (ρ y).str with
  | some s => match Nat.ble s.size 16777216 with
    | true => fVs (.d (.sl (strRows s))) fun r => k r ⟨[], bl, lv, gn, ba, de⟩ fl
    | false => none
  | none => none
noncomputable def sInl (f : FuncId) (args : List VArg) (C : CF) (ρ : VArg → V) (bl : List (List V)) (lv : List Nat) (gn ba de : Nat) (fl : Fl) (k : V → St → Fl → Rs) : Rs := evsF ρ args fun as => inlF C bl lv gn ba de f as fl k
noncomputable def stepF (op : VOp) : CF → (VArg → V) → List (List V) → List Nat → Nat → Nat → Nat → Fl → (V → St → Fl → Rs) → Rs := match op with
  | .call f args => sCall f args
  | .callv y args => sCallv y args
  | .inl f args => sInl f args
  | .box cells => sBox cells
  | .boxv n y => sBoxv n y
  | .store a y n => sStore a y n
  | .app sz y z false => sAppF sz y z
  | .buildSl len sz zero parts false => sBuildSlF len sz zero parts
  | .buildSl len sz zero parts true => sBuildSlT len sz zero parts
  | .app sz y z true => sAppT sz y z
  | .frz y ld => sFrz y ld
  | .pick c a b => sPick c a b
  | .bin op x y => sNum (pureF (.bin op x y))
  | .un op x => sNum (pureF (.un op x))
  | .convI kd x => sNum (pureF (.convI kd x))
  | .mkSl zero len cap m => sMkSl zero len cap m
  | .sBytes y => sSBytes y
  | .mov x => sPure (pMov x)
  | .load x n ag => sPure (pLoad x n ag)
  | .fieldA x off => sPure (pFieldA x off)
  | .field x off n ag => sPure (pField x off n ag)
  | .idxA sz x i => sPure (pIdxA sz x i)
  | .ext x i => sPure (pExt x i)
  | .len x => sPure (pLen x)
  | .build zero parts => sPure (pBuild zero parts)
  | .slice sz x lo hi => sPure (pSlice sz x lo hi)
  | op => sPure (pGen op)
end Go.VM
namespace Go.VM
inductive TS where
  | lf
  | nd (v : V) (l r : TS)
  deriving Inhabited
noncomputable def getT (t : TS) (n : Nat) : V :=
  TS.rec (motive := fun _ => Nat → V) (fun _ => .any) (fun v _ _ il ir n => Nat.rec (motive := fun _ => V) v (fun m _ => match Nat.beq (Nat.mod m 2) 0 with
    | true => il (Nat.div m 2)
    | false => ir (Nat.div m 2)) n) t n
structure TrOf (N : Nat) (t : TS) (ts : List V) : Prop where
  len : ts.length = N
  get : ∀ i, getT t i = ts.getD i .any
noncomputable def evT (t : TS) (a : VArg) : V := match a with
  | .t n => getT t n
  | .c v => v
theorem TrOf.ev {N : Nat} {t : TS} {ts : List V} (h : TrOf N t ts) : evT t = VArg.ev ts := by
  funext a
  cases a with
  | t n => exact h.get n
  | c v => rfl
end Go.VM
namespace Go.VM
structure Tk where
  t : TS
  bl : List (List V)
  c : Option (Option Nat)
  deriving Inhabited
inductive TkOf (N : Nat) : List Tk → List St → Prop
  | nil : TkOf N [] []
  | cons {tk : Tk} {st : St} {tks : List Tk} {sts : List St} (h1 : TrOf N tk.t st.tmps) (h2 : tk.bl = st.blocks) (h3 : ∀ c, tk.c = some c → ∀ st', sts.head? = some st' → ∀ id, id < st.blocks.length → c ≠ some id → st'.blocks[id]? = st.blocks[id]?) (h : TkOf N tks sts) : TkOf N (tk :: tks) (st :: sts)
theorem TkOf.len {N : Nat} : ∀ {tks : List Tk} {sts : List St}, TkOf N tks sts → tks.length = sts.length
  | _, _, .nil => rfl
  | _, _, .cons _ _ _ h => by rw [List.length_cons, List.length_cons, h.len]
theorem TkOf.get {N : Nat} : ∀ {tks : List Tk} {sts : List St}, TkOf N tks sts → ∀ e, e < sts.length → TrOf N (tks.getD e default).t (sts.getD e default).tmps ∧ (tks.getD e default).bl = (sts.getD e default).blocks ∧
    ∀ c, (tks.getD e default).c = some c → e + 1 < sts.length → ∀ id, id < (sts.getD e default).blocks.length → c ≠ some id → (sts.getD (e + 1) default).blocks[id]? = (sts.getD e default).blocks[id]?
  | _, _, .nil, e, he => absurd he (Nat.not_lt_zero _)
  | _, _, .cons (tk := tk) (st := st) (tks := tks) (sts := sts) h1 h2 h3 h, 0, _ => by
    refine ⟨h1, h2, fun c hc hl id hid hne => ?_⟩
    cases sts with
    | nil => simp at hl
    | cons s2 sts => exact h3 c hc s2 rfl id hid hne
  | _, _, .cons (tk := tk) (st := st) (tks := tks) (sts := sts) h1 h2 h3 h, e + 1, he => by
    have := h.get e (by simpa using he)
    simp only [List.getD_cons_succ]
    refine ⟨this.1, this.2.1, fun c hc hl => ?_⟩
    exact this.2.2 c hc (by simpa using hl)
end Go.VM
namespace Go.VM
theorem fgt_len : ∀ (keep : List Bool) (ts : List V), (forget keep ts).length = ts.length
  | _, [] => by cases ‹List Bool› <;> rfl
  | [], v :: ts => by simp only [forget, List.length_cons, fgt_len [] ts]
  | k :: ks, v :: ts => by simp only [forget, List.length_cons, fgt_len ks ts]
theorem fgt_get : ∀ (keep : List Bool) (ts : List V) (i : Nat), (forget keep ts).getD i .any = if keep.getD i false = true then ts.getD i .any else .any
  | keep, [], i => by
    have : forget keep [] = [] := by cases keep <;> rfl
    rw [this]
    simp
  | [], v :: ts, 0 => by simp [forget]
  | [], v :: ts, i + 1 => by
    simp only [forget, List.getD_cons_succ, fgt_get [] ts i]
    simp
  | k :: ks, v :: ts, 0 => by simp [forget]
  | k :: ks, v :: ts, i + 1 => by
    simp only [forget, List.getD_cons_succ, fgt_get ks ts i]
end Go.VM
namespace Go.VM
inductive FT where
  | no
  | fn (k : Nat) (vf : VFunc)
  | nd (m : Nat) (l r : FT)
noncomputable def FT.get (t : FT) (f : Nat) : Option VFunc :=
  FT.rec (motive := fun _ => Option VFunc) none (fun k vf => match Nat.beq f k with | true => some vf | false => none) (fun m _ _ il ir => match Nat.ble f m with | true => il | false => ir) t
def FT.all (p : Nat → VFunc → Prop) : FT → Prop
  | .no => True
  | .fn k vf => p k vf
  | .nd _ l r => l.all p ∧ r.all p
theorem FT.get_ok {p : Nat → VFunc → Prop} : ∀ {t : FT}, t.all p → ∀ {f vf}, t.get f = some vf → p f vf
  | .no, _, f, vf, h => by cases h
  | .fn k vf', hp, f, vf, h => by
    simp only [FT.get] at h
    split at h
    · rename_i hk
      rw [Nat.eq_of_beq_eq_true hk]
      simp only [Option.some.injEq] at h
      subst h
      exact hp
    · cases h
  | .nd m l r, hp, f, vf, h => by
    have hg : (FT.nd m l r).get f = match Nat.ble f m with | true => l.get f | false => r.get f := rfl
    rw [hg] at h
    split at h
    · exact FT.get_ok hp.1 h
    · exact FT.get_ok hp.2 h
theorem FT.ok {P : Program} {t : FT} (h : t.all (fun k v => CFunc P k v)) : ∀ f vf, t.get f = some vf → CFunc P f vf := fun _ _ hg => FT.get_ok (p := fun k v => CFunc P k v) h hg
theorem cprogT_of {P : Program} {t : FT} (h : t.all (fun k v => CFunc P k v)) : CProg P ⟨t.get, noNat⟩ :=
  CProg0.up ⟨FT.ok h, (fun _ _ _ _ h => by cases h), (fun _ _ _ _ h => by cases h)⟩
theorem cprogT_clone {P : Program} {t : FT} (h : t.all (fun k v => CFunc P k v)) {cl : List Nat} (hcl : ∀ f ∈ cl, VC P f [.d (.sl [])] [] ⟨.d (.sl []), [], [], 0⟩ ∧ ∃ vf, CFunc P f vf) :
    CProg0 P ⟨t.get, cloneNat cl⟩ := by
  have key : ∀ f args blks ret, cloneNat cl f args blks = some ret → f ∈ cl ∧ args = [.d (.sl [])] ∧ blks = [] ∧ ret = ⟨.d (.sl []), [], [], 0⟩ := by
    intro f args blks ret h
    unfold cloneNat at h
    split at h
    · cases h
    · rename_i hf
      exact ⟨natMem_iff hf, cloneNat1_some h⟩
  refine ⟨FT.ok h, fun f args blks ret hr => ?_, fun f args blks ret hr => ?_⟩
  · obtain ⟨hf, rfl, rfl, rfl⟩ := key f args blks ret hr
    exact (hcl f hf).1
  · obtain ⟨hf, _⟩ := key f args blks ret hr
    obtain ⟨vf, hvf⟩ := (hcl f hf).2
    obtain ⟨fn, code, hfn, hbody, hname, _⟩ := hvf.ex
    exact ⟨fn, hfn, by rw [hbody]; rfl, hname⟩
def lkN (m : List (Nat × Nat)) (f : Nat) : Option Nat := match m with
  | [] => none
  | (k, sz) :: r => match Nat.beq f k with
    | true => some sz
    | false => lkN r f
theorem lkN_mem {f sz : Nat} : ∀ {m : List (Nat × Nat)}, lkN m f = some sz → (f, sz) ∈ m
  | (k, s) :: r, h => by
    simp only [lkN] at h
    split at h
    · rename_i hk
      simp only [Option.some.injEq] at h; subst h
      rw [Nat.eq_of_beq_eq_true hk]; exact List.mem_cons_self
    · exact List.mem_cons_of_mem _ (lkN_mem h)
def cloneM (sz : Nat) : List V → List (List V) → Option Ret
  | [.d (.sl [])], [] => some ⟨.sl sz [] .full, [], [], 0⟩
  | [.sl _ [] .full], [] => some ⟨.sl sz [] .full, [], [], 0⟩
  | _, _ => none
def cloneNat2 (l : List Nat) (m : List (Nat × Nat)) : Orc := fun f args blks => match lkN m f with
  | some sz => cloneM sz args blks
  | none => cloneNat l f args blks
theorem VC_full {P : Program} {f : FuncId} {z : Nat} {ret : Ret} (h : VC P f [.d (.sl [])] [] ret) : VC P f [.sl z [] .full] [] ret := fun G w xs hx hR => h G w xs ⟨hx.1, fun j c x hj hxj => by
  match j with
  | 0 =>
    simp only [List.getElem?_cons_zero, Option.some.injEq] at hj
    subst hj
    have := hx.2 0 _ x rfl hxj
    cases this with
    | full h _ => exact .d h
  | j + 1 => simp at hj⟩ hR
theorem cprogT_clone2 {P : Program} {t : FT} (h : t.all (fun k v => CFunc P k v)) {cl : List Nat} {cm : List (Nat × Nat)} (hcl : ∀ f ∈ cl, VC P f [.d (.sl [])] [] ⟨.d (.sl []), [], [], 0⟩ ∧ ∃ vf, CFunc P f vf)
    (hcm : ∀ p ∈ cm, VC P p.1 [.d (.sl [])] [] ⟨.sl p.2 [] .full, [], [], 0⟩ ∧ ∃ vf, CFunc P p.1 vf) :
    CProg P ⟨t.get, cloneNat2 cl cm⟩ := by
  have old := cprogT_clone h hcl
  have key : ∀ f args blks ret, cloneNat2 cl cm f args blks = some ret → cloneNat cl f args blks = some ret ∨ ∃ sz, (f, sz) ∈ cm ∧ (args = [.d (.sl [])] ∨ ∃ z, args = [.sl z [] .full]) ∧ blks = [] ∧ ret = ⟨.sl sz [] .full, [], [], 0⟩ := by
    intro f args blks ret h
    unfold cloneNat2 at h
    split at h
    · rename_i sz hf
      unfold cloneM at h
      split at h
      · simp only [Option.some.injEq] at h
        exact .inr ⟨sz, lkN_mem hf, .inl rfl, rfl, h.symm⟩
      · simp only [Option.some.injEq] at h
        exact .inr ⟨sz, lkN_mem hf, .inr ⟨_, rfl⟩, rfl, h.symm⟩
      · cases h
    · exact .inl h
  obtain ⟨o1, o2, o3⟩ := old
  refine CProg0.up ⟨FT.ok h, fun f args blks ret hr => ?_, fun f args blks ret hr => ?_⟩
  · rcases key f args blks ret hr with hr | ⟨sz, hf, rfl | ⟨z, rfl⟩, rfl, rfl⟩
    · exact o2 _ _ _ _ hr
    · exact (hcm _ hf).1
    · exact VC_full (hcm _ hf).1
  · rcases key f args blks ret hr with hr | ⟨sz, hf, _, rfl, rfl⟩
    · exact o3 _ _ _ _ hr
    · obtain ⟨vf, hvf⟩ := (hcm _ hf).2
      obtain ⟨fn, code, hfn, hbody, hname, _⟩ := hvf.ex
      exact ⟨fn, hfn, by rw [hbody]; rfl, hname⟩
def orN (N M : Orc) : Orc := fun f a b => match N f a b with
  | some r => some r
  | none => M f a b
theorem orN_some {N M : Orc} {f : FuncId} {a : List V} {b : List (List V)} {r : Ret} (h : orN N M f a b = some r) : N f a b = some r ∨ M f a b = some r := by
  unfold orN at h
  split at h
  · rename_i r' hr; rw [← h]; exact .inl hr
  · exact .inr h
theorem cprog_or {P : Program} {fn : FuncId → Option VFunc} {M : Orc} (h : CProg P ⟨fn, M⟩) {N : Orc} (hN : OrcOk P N) (hF : OrcFn P N) : CProg P ⟨fn, orN N M⟩ := by
  obtain ⟨h1, h2, h3, h4⟩ := h
  refine ⟨h1, fun f a b r hr hlt => ?_, fun f a b r hr hge hn => ?_, fun f a b r hr hlt => ?_⟩
  · rcases orN_some hr with h | h
    · exact hN f a b r h
    · exact h2 f a b r h hlt
  · rcases orN_some hr with h | h
    · obtain ⟨fn, hf, _⟩ := hF f a b r h
      rw [hn] at hf; cases hf
    · exact h3 f a b r h hge hn
  · rcases orN_some hr with h | h
    · exact hF f a b r h
    · exact h4 f a b r h hlt
theorem full_of_nil {G : Gh} {v : Value} {sz : Nat} (h : RelV G .nil v) : RelV G (.sl sz [] .full) v := by
  cases h; exact .full (RelD.nil _) (by simp)
theorem OKs.nil : OKs [] := fun p h => by cases h
theorem OKs.cons {a b : Bool} {l : List (Bool × Bool)} (h : a = b) (hl : OKs l) : OKs ((a, b) :: l) := fun p hp => by
  rcases List.mem_cons.1 hp with rfl | hp
  · exact h
  · exact hl p hp
end Go.VM
namespace Go.VM
structure Seg (ks : List Nat) (n : Nat) (vs : List V) (bl : List (List V)) (lv : List Nat) (gn ba : Nat) (st : St) : Prop where
  len : st.tmps.length = n
  get : ks.map (fun k => st.tmps.getD k .any) = vs
  blocks : st.blocks = bl
  live : st.live = lv
  gn : st.gn = gn
  base : st.base = ba
  dep : st.dep = 0
def keepK : List Bool → Nat → List Nat
  | [], _ => []
  | true :: r, i => i :: keepK r (i + 1)
  | false :: r, i => keepK r (i + 1)
def keepT : List Bool → List V → List V
  | [], _ => []
  | true :: r, v :: vs => v :: keepT r vs
  | true :: r, [] => .any :: keepT r []
  | false :: r, vs => .any :: keepT r vs
theorem keepT_ok (l : List V) : ∀ (keep : List Bool) (i : Nat), keepT keep ((keepK keep i).map fun k => l.getD k .any) = (List.range' i keep.length).map fun j => if keep.getD (j - i) false = true then l.getD j .any else .any
  | [], i => rfl
  | true :: r, i => by
    simp only [keepK, List.map_cons, keepT, keepT_ok l r (i + 1), List.length_cons, List.range'_succ, Nat.sub_self, List.getD_cons_zero, if_true]
    congr 1
    refine List.map_congr_left fun j hj => ?_
    have := (List.mem_range'.1 hj)
    obtain ⟨k, hk, rfl⟩ := this
    rw [show i + 1 + 1 * k - i = (i + 1 + 1 * k - (i + 1)) + 1 by omega, List.getD_cons_succ]
  | false :: r, i => by
    simp only [keepK, keepT, keepT_ok l r (i + 1), List.length_cons, List.range'_succ, List.map_cons, Nat.sub_self, List.getD_cons_zero, Bool.false_eq_true, if_false]
    congr 1
    refine List.map_congr_left fun j hj => ?_
    have := (List.mem_range'.1 hj)
    obtain ⟨k, hk, rfl⟩ := this
    rw [show i + 1 + 1 * k - i = (i + 1 + 1 * k - (i + 1)) + 1 by omega, List.getD_cons_succ]
theorem forget_keepT {keep : List Bool} {l : List V} (h : keep.length = l.length) : forget keep l = keepT keep ((keepK keep 0).map fun k => l.getD k .any) := by
  rw [keepT_ok]
  apply List.ext_getElem?
  intro i
  have h1 := fgt_get keep l i
  have h2 := fgt_len keep l
  rw [List.getElem?_map]
  rcases Nat.lt_or_ge i l.length with hlt | hge
  · have hi : i < (forget keep l).length := by rw [h2]; exact hlt
    rw [List.getElem?_eq_getElem hi, List.getElem?_eq_getElem (by simp; omega)]
    rw [List.getD_eq_getElem?_getD, List.getElem?_eq_getElem hi] at h1
    simp only [Option.getD_some] at h1
    rw [h1]
    simp
  · rw [List.getElem?_eq_none (by rw [h2]; exact hge), List.getElem?_eq_none (by simp; omega)]
    rfl
theorem Seg.at {keep : List Bool} {n N : Nat} {vs : List V} {bl : List (List V)} {lv : List Nat} {gn ba : Nat} {st : St} (h : Seg (keepK keep 0) N vs bl lv gn ba st) (hk : keep.length = N) : At keep n st (keepT keep vs) (bl.take n) lv gn ba :=
  ⟨by rw [forget_keepT (hk.trans h.len.symm), h.get], by rw [h.blocks], h.live, h.gn, h.base, h.dep⟩
theorem Seg.all {n : Nat} {vs : List V} {bl : List (List V)} {lv : List Nat} {gn ba : Nat} {st : St} (h : Seg (List.range n) n vs bl lv gn ba st) : st = ⟨vs, bl, lv, gn, ba, 0⟩ := by
  obtain ⟨ts, bl', lv', gn', ba', de⟩ := st
  obtain ⟨h1, h2, h3, h4, h5, h6, h7⟩ := h
  simp only at h1 h2 h3 h4 h5 h6 h7
  subst h3 h4 h5 h6 h7
  congr 1
  rw [← h2]
  apply List.ext_getElem?
  intro i
  rw [List.getElem?_map]
  rcases Nat.lt_or_ge i ts.length with hlt | hge
  · rw [List.getElem?_range (by omega)]
    simp [hlt]
  · rw [List.getElem?_eq_none hge, List.getElem?_eq_none (by simp; omega)]
    rfl
end Go.VM
namespace Go.VM
def flat : VCode → List VCode
  | .seq a b => flat a ++ flat b
  | c => [c]
section
variable {VP : VProg}
end
end Go.VM
namespace Go.VM
end Go.VM
namespace Go.VM
section
variable {H : Type} {enc : TypeId × Value → H} {P : Program} {W : World} {spare : Nat → Bool} {held : Bool}
end
section
variable {H : Type} {enc : TypeId × Value → H} {P : Program} {W : World} {spare : Nat → Bool} {held : Bool} {t : TypeId} {v : Value} {d : DataW H} {ps : List MemPlace} {r : Reach} {base : Nat}
end
end Go.VM
