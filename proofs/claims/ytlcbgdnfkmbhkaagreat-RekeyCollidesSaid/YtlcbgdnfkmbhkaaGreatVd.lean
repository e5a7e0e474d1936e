/- The value level machine, fourth part: a form of it that the kernel reckons fast, proved right. Conditions: none. -/
import Derived.Test.YtlcbgdnfkmbhkaaGreatVc
set_option linter.unusedSimpArgs false
set_option linter.unusedVariables false
namespace Go.VM
structure Fl where
 fl:List (Nat×Bool)
 ob:List (Bool×Bool)
 vs:List Int
abbrev Rs:=Option (Ret×List (Bool×Bool))
def OKs (l:List (Bool×Bool)):Prop:=∀ p∈l,p.1=p.2
theorem OKs.sub {a b:List (Bool×Bool)} (h:OKs b) (hs:a ⊆ b):OKs a:=fun p hp=>h p (hs hp)
noncomputable def spF {α:Type} (l:List α) (k:List α→Rs):Rs:=
 List.rec (motive:=fun _=>(List α→Rs)→Rs) (fun k=>k []) (fun a _ ih k=>ih fun l'=>k (a::l')) l k
theorem spF_eq {α:Type} (l:List α) (k:List α→Rs):spF l k=k l:=by
 unfold spF
 induction l generalizing k with
 |nil=>rfl
 |cons a l ih=>exact ih _
noncomputable def sp2F {α:Type} (l:List (List α)) (k:List (List α)→Rs):Rs:=
 List.rec (motive:=fun _=>(List (List α)→Rs)→Rs) (fun k=>k []) (fun a _ ih k=>spF a fun a'=>ih fun l'=>k (a'::l')) l k
theorem sp2F_eq {α:Type} (l:List (List α)) (k:List (List α)→Rs):sp2F l k=k l:=by
 unfold sp2F
 induction l generalizing k with
 |nil=>rfl
 |cons a l ih=>exact (spF_eq a _).trans (ih _)
noncomputable def lenK {α:Type} (l:List α):Nat:=List.rec (motive:=fun _=>Nat) 0 (fun _ _ ih=>Nat.succ ih) l
theorem lenK_eq {α:Type} (l:List α):lenK l=l.length:=by
 unfold lenK
 induction l with
 |nil=>rfl
 |cons a l ih=>simp only [List.length_cons,← ih]
noncomputable def natF (n:Nat) (k:Nat→Rs):Rs:=Nat.rec (motive:=fun _=>Rs) (k 0) (fun m _=>k (Nat.succ m)) n
theorem natF_eq (n:Nat) (k:Nat→Rs):natF n k=k n:=by cases n<;>rfl
noncomputable def setF {α:Type} (l:List α) (n:Nat) (v:α) (k:List α→Rs):Rs:=
 List.rec (motive:=fun _=>Nat→(List α→Rs)→Rs) (fun _ k=>k []) (fun a l ih n k=>Nat.rec (motive:=fun _=>Rs) (k (v::l)) (fun m _=>ih m fun l'=>k (a::l')) n) l n k
theorem setF_eq {α:Type} (l:List α) (n:Nat) (v:α) (k:List α→Rs):setF l n v k=k (l.set n v):=by
 unfold setF
 induction l generalizing n k with
 |nil=>rfl
 |cons a l ih=>
  cases n with
  |zero=>rfl
  |succ n=>exact ih n _
noncomputable def dropF {α:Type} (l:List α) (n:Nat) (k:List α→Rs):Rs:=
 Nat.rec (motive:=fun _=>List α→Rs) (fun l=>k l) (fun _ ih l=>List.rec (motive:=fun _=>Rs) none (fun _ l' _=>ih l') l) n l
theorem dropF_some {α:Type} {l:List α} {n:Nat} {k:List α→Rs} {x} (h:dropF l n k=some x):n≤l.length∧k (l.drop n)=some x:=by
 unfold dropF at h
 induction n generalizing l with
 |zero=>exact ⟨Nat.zero_le _,h⟩
 |succ n ih=>
  cases l with
  |nil=>cases h
  |cons a l=>
   obtain ⟨h1,h2⟩:=ih h
   exact ⟨by simpa using h1,by simpa using h2⟩
noncomputable def takeF {α:Type} (l:List α) (n:Nat) (k:List α→Rs):Rs:=
 Nat.rec (motive:=fun _=>List α→(List α→Rs)→Rs) (fun _ k=>k []) (fun _ ih l k=>List.rec (motive:=fun _=>Rs) none (fun a l' _=>ih l' fun r=>k (a::r)) l) n l k
theorem takeF_some {α:Type} {l:List α} {n:Nat} {k:List α→Rs} {x} (h:takeF l n k=some x):n≤l.length∧k (l.take n)=some x:=by
 unfold takeF at h
 induction n generalizing l k with
 |zero=>exact ⟨Nat.zero_le _,h⟩
 |succ n ih=>
  cases l with
  |nil=>cases h
  |cons a l=>
   obtain ⟨h1,h2⟩:=ih h
   exact ⟨by simpa using h1,by simpa using h2⟩
noncomputable def nthF {α:Type} (l:List α) (n:Nat) (k:α→Rs):Rs:=
 Nat.rec (motive:=fun _=>List α→Rs) (fun l=>List.rec (motive:=fun _=>Rs) none (fun a _ _=>k a) l) (fun _ ih l=>List.rec (motive:=fun _=>Rs) none (fun _ l' _=>ih l') l) n l
theorem nthF_some {α:Type} {l:List α} {n:Nat} {k:α→Rs} {x} (h:nthF l n k=some x):∃ a,l[n]?=some a∧k a=some x:=by
 unfold nthF at h
 induction n generalizing l with
 |zero=>
  cases l with
  |nil=>cases h
  |cons a l=>exact ⟨a,rfl,h⟩
 |succ n ih=>
  cases l with
  |nil=>cases h
  |cons a l=>
   obtain ⟨b,h1,h2⟩:=ih h
   exact ⟨b,by simpa using h1,h2⟩
noncomputable def lenEq {α:Type} (l:List α) (n:Nat):Bool:=
 List.rec (motive:=fun _=>Nat→Bool) (fun n=>Nat.rec (motive:=fun _=>Bool) true (fun _ _=>false) n) (fun _ _ ih n=>Nat.rec (motive:=fun _=>Bool) false (fun m _=>ih m) n) l n
theorem lenEq_true {α:Type} {l:List α} {n:Nat} (h:lenEq l n=true):l.length=n:=by
 unfold lenEq at h
 induction l generalizing n with
 |nil=>cases n with|zero=>rfl|succ n=>cases h
 |cons a l ih=>cases n with|zero=>cases h|succ n=>simpa using ih h
noncomputable def over {α:Type} (cs z:List α) (k:List α→Rs):Rs:=
 List.rec (motive:=fun _=>List α→(List α→Rs)→Rs) (fun z k=>k z) (fun c _ ih z k=>List.rec (motive:=fun _=>Rs) none (fun _ z' _=>ih z' fun r=>k (c::r)) z) cs z k
theorem over_some {α:Type} {cs z:List α} {k:List α→Rs} {x} (h:over cs z k=some x):cs.length≤z.length∧k (cs++z.drop cs.length)=some x:=by
 unfold over at h
 induction cs generalizing z k with
 |nil=>exact ⟨Nat.zero_le _,by simpa using h⟩
 |cons c cs ih=>
  cases z with
  |nil=>cases h
  |cons a z=>
   obtain ⟨h1,h2⟩:=ih h
   exact ⟨by simpa using h1,by simpa using h2⟩
noncomputable def splF {α:Type} (z:List α) (off:Nat) (cs:List α) (k:List α→Rs):Rs:=
 Nat.rec (motive:=fun _=>List α→(List α→Rs)→Rs) (fun z k=>over cs z k) (fun _ ih z k=>List.rec (motive:=fun _=>Rs) none (fun a z' _=>ih z' fun r=>k (a::r)) z) off z k
theorem splF_some {α:Type} {z:List α} {off:Nat} {cs:List α} {k:List α→Rs} {x} (h:splF z off cs k=some x):off+cs.length≤z.length∧k (z.take off++cs++z.drop (off+cs.length))=some x:=by
 unfold splF at h
 induction off generalizing z k with
 |zero=>
  obtain ⟨h1,h2⟩:=over_some h
  exact ⟨by simpa using h1,by simpa using h2⟩
 |succ n ih=>
  cases z with
  |nil=>cases h
  |cons a z=>
   obtain ⟨h1,h2⟩:=ih h
   refine ⟨by simp only [List.length_cons];omega,?_⟩
   rw [show n+1+cs.length=(n+cs.length)+1 by omega]
   simpa using h2
noncomputable def appF {α:Type} (a b:List α) (k:List α→Rs):Rs:=
 List.rec (motive:=fun _=>(List α→Rs)→Rs) (fun k=>k b) (fun x _ ih k=>ih fun l'=>k (x::l')) a k
theorem appF_eq {α:Type} (a b:List α) (k:List α→Rs):appF a b k=k (a++b):=by
 unfold appF
 induction a generalizing k with
 |nil=>rfl
 |cons x a ih=>exact ih _
noncomputable def allK {α:Type} (p:α→Bool) (l:List α):Bool:=List.rec (motive:=fun _=>Bool) true (fun a _ ih=>Bool.rec false ih (p a)) l
theorem allK_eq {α:Type} (p:α→Bool) (l:List α):allK p l=l.all p:=by
 unfold allK
 induction l with
 |nil=>rfl
 |cons a l ih=>
  simp only [List.all_cons,← ih]
  cases p a<;>rfl
noncomputable def fvAny (k:V→Rs):Rs:=k .any
noncomputable def fvNil (k:V→Rs):Rs:=k .nil
noncomputable def fvD (x:D) (k:V→Rs):Rs:=k (.d x)
noncomputable def fvSl (sz:Nat) (es:List (List D)) (t:Tag) (k:V→Rs):Rs:=k (.sl sz es t)
noncomputable def fsSv (sz:Nat) (es:List (List D)) (t:Tag) (k:V→Rs):Rs:=spF es fun es=>k (.sl sz es t)
noncomputable def fvLoc (a b c d:Nat) (k:V→Rs):Rs:=k (.loc a b c d)
noncomputable def fvPtr (a b:Nat) (k:V→Rs):Rs:=k (.ptr a b)
noncomputable def fvEp (cs:List D) (k:V→Rs):Rs:=spF cs fun cs=>k (.ep cs)
noncomputable def fvEpv (v:V) (k:V→Rs):Rs:=k (.epv v)
noncomputable def fvPsl (cs:List V) (k:V→Rs):Rs:=spF cs fun cs=>k (.psl cs)
noncomputable def fvAgg (cs:List V) (k:V→Rs):Rs:=spF cs fun cs=>k (.agg cs)
noncomputable def fvTup (cs:List V) (k:V→Rs):Rs:=spF cs fun cs=>k (.tup cs)
noncomputable def fvFn (f:FuncId) (cs:List V) (k:V→Rs):Rs:=spF cs fun cs=>k (.fn f cs)
noncomputable def fV (v:V):(V→Rs)→Rs:=match v with
 |.any=>fvAny
 |.nil=>fvNil
 |.d x=>fvD x
 |.sl sz es t=>fvSl sz es t
 |.loc a b c d=>fvLoc a b c d
 |.ptr a b=>fvPtr a b
 |.ep cs=>fvEp cs
 |.epv v=>fvEpv v
 |.psl cs=>fvPsl cs
 |.agg cs=>fvAgg cs
 |.tup cs=>fvTup cs
 |.fn f cs=>fvFn f cs
theorem fV_eq (v:V) (k:V→Rs):fV v k=k v:=by
 cases v<;>simp only [fV,fvAny,fvNil,fvD,fvSl,fvLoc,fvPtr,fvEp,fvEpv,fvPsl,fvAgg,fvTup,fvFn,spF_eq]
noncomputable def fsSl (es:List (List D)) (k:V→Rs):Rs:=spF es fun es=>k (.d (.sl es))
noncomputable def fsLit (v:Value) (k:V→Rs):Rs:=k (.d (.lit v))
noncomputable def fsD (x:D):(V→Rs)→Rs:=match x with
 |.sl es=>fsSl es
 |.lit v=>fsLit v
noncomputable def fVs (v:V):(V→Rs)→Rs:=match v with
 |.d x=>fsD x
 |.sl sz es t=>fsSv sz es t
 |v=>fV v
theorem fVs_eq (v:V) (k:V→Rs):fVs v k=k v:=by
 cases v with
 |d x=>cases x<;>simp only [fVs,fsD,fsSl,fsLit,spF_eq]
 |sl sz es t=>simp only [fVs,fsSv,spF_eq]
 |_=>simp only [fVs,fV_eq]
noncomputable def fL (l:List V) (k:List V→Rs):Rs:=
 List.rec (motive:=fun _=>(List V→Rs)→Rs) (fun k=>k []) (fun a _ ih k=>fV a fun a'=>ih fun l'=>k (a'::l')) l k
theorem fL_eq (l:List V) (k:List V→Rs):fL l k=k l:=by
 unfold fL
 induction l generalizing k with
 |nil=>rfl
 |cons a l ih=>exact (fV_eq a _).trans (ih _)
noncomputable def fLL (l:List (List V)) (k:List (List V)→Rs):Rs:=
 List.rec (motive:=fun _=>(List (List V)→Rs)→Rs) (fun k=>k []) (fun a _ ih k=>fL a fun a'=>ih fun l'=>k (a'::l')) l k
theorem fLL_eq (l:List (List V)) (k:List (List V)→Rs):fLL l k=k l:=by
 unfold fLL
 induction l generalizing k with
 |nil=>rfl
 |cons a l ih=>exact (fL_eq a _).trans (ih _)
def isD:V→Bool
 |.d _=>true
 |_=>false
noncomputable def allD (l:List V):Bool:=allK isD l
noncomputable def pl1:V→Bool
 |.d _=>true
 |.agg cs=>allD cs
 |_=>false
noncomputable def pl2:V→Bool
 |.d _=>true
 |.agg cs=>allD cs
 |.tup cs=>allK pl1 cs
 |_=>false
theorem isD_d {v:V} (h:isD v=true):∃ x,v=.d x:=by cases v<;>simp_all [isD]
theorem allD_map {l:List V} (h:allD l=true):∃ ds:List D,l=ds.map .d:=by
 rw [allD,allK_eq,List.all_eq_true] at h
 induction l with
 |nil=>exact ⟨[],rfl⟩
 |cons a l ih=>
  obtain ⟨ds,rfl⟩:=ih fun x hx=>h x (List.mem_cons_of_mem _ hx)
  obtain ⟨x,rfl⟩:=isD_d (h a List.mem_cons_self)
  exact ⟨x::ds,rfl⟩
theorem allD_er {l:List V} (h:allD l=true):V.erL l=l:=by
 obtain ⟨ds,rfl⟩:=allD_map h
 rw [V.erL_eq,List.map_map];rfl
theorem allD_imp {l:List V} (h:allD l=true) (g n:Nat):V.impL g n l=l:=by
 obtain ⟨ds,rfl⟩:=allD_map h
 rw [V.impL_eq,List.map_map];rfl
theorem allD_ltb {l:List V} (h:allD l=true) (n:Nat):V.ltbL n l=true:=by
 obtain ⟨ds,rfl⟩:=allD_map h
 clear h
 induction ds with
 |nil=>rfl
 |cons a l ih=>simp only [List.map_cons,V.ltbL,V.ltb,ih,Bool.and_self]
theorem allD_frz {l:List V} (h:allD l=true) (bl:List (List V)) (n:Nat):V.frzL bl n l=l:=by
 obtain ⟨ds,rfl⟩:=allD_map h
 rw [V.frzL_eq,List.map_map];rfl
theorem pl1_er {v:V} (h:pl1 v=true):v.er=v:=by
 cases v<;>simp_all [pl1,V.er,allD_er]
theorem pl1_imp {v:V} (h:pl1 v=true) (g n:Nat):v.imp g n=v:=by
 cases v<;>simp_all [pl1,V.imp,allD_imp]
theorem pl1_ltb {v:V} (h:pl1 v=true) (n:Nat):v.ltb n=true:=by
 cases v<;>simp_all [pl1,V.ltb,allD_ltb]
theorem pl1_frz {v:V} (h:pl1 v=true) (bl:List (List V)) (n:Nat):v.frz bl n=v:=by
 cases v<;>simp_all [pl1,V.frz,allD_frz]
theorem pl1s {vs:List V} (h:allK pl1 vs=true):∀ v∈vs,pl1 v=true:=by
 rw [allK_eq,List.all_eq_true] at h;exact h
theorem map_id_of {α:Type} {f:α→α} {l:List α} (h:∀ x∈l,f x=x):l.map f=l:=by
 induction l with
 |nil=>rfl
 |cons a l ih=>rw [List.map_cons,h a List.mem_cons_self,ih fun x hx=>h x (List.mem_cons_of_mem _ hx)]
theorem ltbL_all (n:Nat):∀ vs:List V,V.ltbL n vs=vs.all (V.ltb n)
 |[]=>rfl
 |v::vs=>by rw [V.ltbL,ltbL_all n vs,List.all_cons]
theorem pl2_er {v:V} (h:pl2 v=true):v.er=v:=by
 cases v with
 |d x=>rfl
 |agg cs=>simp only [pl2] at h;simp only [V.er,allD_er h]
 |tup cs=>simp only [pl2] at h;simp only [V.er,V.erL_eq,map_id_of fun x hx=>pl1_er (pl1s h x hx)]
 |_=>simp [pl2] at h
theorem pl2_imp {v:V} (h:pl2 v=true) (g n:Nat):v.imp g n=v:=by
 cases v with
 |d x=>rfl
 |agg cs=>simp only [pl2] at h;simp only [V.imp,allD_imp h]
 |tup cs=>simp only [pl2] at h;simp only [V.imp,V.impL_eq,map_id_of fun x hx=>pl1_imp (pl1s h x hx) g n]
 |_=>simp [pl2] at h
theorem pl2_ltb {v:V} (h:pl2 v=true) (n:Nat):v.ltb n=true:=by
 cases v with
 |d x=>rfl
 |agg cs=>simp only [pl2] at h;simp only [V.ltb,allD_ltb h]
 |tup cs=>simp only [pl2] at h;simp only [V.ltb,ltbL_all,List.all_eq_true];exact fun x hx=>pl1_ltb (pl1s h x hx) n
 |_=>simp [pl2] at h
theorem pl2_frz {v:V} (h:pl2 v=true) (bl:List (List V)) (n:Nat):v.frz bl n=v:=by
 cases v with
 |d x=>rfl
 |agg cs=>simp only [pl2] at h;simp only [V.frz,allD_frz h]
 |tup cs=>simp only [pl2] at h;simp only [V.frz,V.frzL_eq,map_id_of fun x hx=>pl1_frz (pl1s h x hx) bl n]
 |_=>simp [pl2] at h
end Go.VM
set_option linter.unusedVariables false
namespace Go.VM
noncomputable def evsF (ρ:VArg→V) (as:List VArg) (k:List V→Rs):Rs:=
 List.rec (motive:=fun _=>(List V→Rs)→Rs) (fun k=>k []) (fun a _ ih k=>fV (ρ a) fun v=>ih fun l=>k (v::l)) as k
theorem evsF_eq (ρ:VArg→V) (as:List VArg) (k:List V→Rs):evsF ρ as k=k (as.map ρ):=by
 unfold evsF
 induction as generalizing k with
 |nil=>rfl
 |cons a l ih=>exact (fV_eq _ _).trans (ih _)
noncomputable def dmapF (l:List D) (k:List V→Rs):Rs:=
 List.rec (motive:=fun _=>(List V→Rs)→Rs) (fun k=>k []) (fun a _ ih k=>ih fun l=>k (.d a::l)) l k
theorem dmapF_eq (l:List D) (k:List V→Rs):dmapF l k=k (l.map .d):=by
 unfold dmapF
 induction l generalizing k with
 |nil=>rfl
 |cons a l ih=>exact ih _
noncomputable def cellsF (v:V) (n:Nat) (k:List V→Rs):Rs:=match v with
 |.agg cs=>match lenEq cs n with
  |true=>match allK V.isCell cs with
   |true=>k cs
   |false=>none
  |false=>none
 |.any=>none
 |.tup _=>none
 |v=>match Nat.beq n 1 with
  |true=>k [v]
  |false=>none
theorem cellsF_some {v:V} {n:Nat} {k:List V→Rs} {x} (h:cellsF v n k=some x):∃ cs,v.cells=some cs∧cs.length=n∧cs.all V.isCell=true∧k cs=some x:=by
 unfold cellsF at h
 cases v with
 |agg cs=>
  simp only at h
  split at h
  ·rename_i h1
   split at h
   ·rename_i h2
    exact ⟨cs,rfl,lenEq_true h1,by rw [← allK_eq];exact h2,h⟩
   ·cases h
  ·cases h
 |any=>cases h
 |tup _=>cases h
 |_=>
  simp only at h
  split at h
  ·rename_i h1
   exact ⟨_,rfl,(Nat.eq_of_beq_eq_true h1).symm,rfl,h⟩
  ·cases h
noncomputable def loadF (bl:List (List V)) (v:V) (n:Nat) (k:List V→Rs):Rs:=match v with
 |.ptr id off=>nthF bl id fun cs=>dropF cs off fun cs'=>takeF cs' n k
 |.ep cs=>takeF cs n fun ds=>dmapF ds k
 |.epv v=>match Nat.beq n 1 with
  |true=>k [v]
  |false=>none
 |_=>none
theorem loadF_some {bl:List (List V)} {v:V} {n:Nat} {k:List V→Rs} {x} (h:loadF bl v n k=some x):∃ cs,vLoadCells (fun id=>bl[id]?) v n=some cs∧k cs=some x:=by
 unfold loadF at h
 cases v with
 |ptr id off=>
  obtain ⟨cs,h1,h2⟩:=nthF_some h
  obtain ⟨h3,h4⟩:=dropF_some h2
  obtain ⟨h5,h6⟩:=takeF_some h4
  refine ⟨_,?_,h6⟩
  rw [List.length_drop] at h5
  simp only [vLoadCells,h1]
  rw [if_pos (by omega)]
 |ep cs=>
  obtain ⟨h1,h2⟩:=takeF_some h
  rw [dmapF_eq] at h2
  exact ⟨_,by simp only [vLoadCells];rw [if_pos h1],h2⟩
 |epv v=>
  simp only at h
  split at h
  ·rename_i h1
   exact ⟨_,by simp only [vLoadCells];rw [if_pos (Nat.eq_of_beq_eq_true h1)],h⟩
  ·cases h
 |_=>cases h
noncomputable def shapeF (ag:Bool) (cs:List V) (k:V→Rs):Rs:=match ag with
 |true=>k (.agg cs)
 |false=>match cs with
  |[v]=>fV v k
  |_=>none
theorem shapeF_some {ag:Bool} {cs:List V} {k:V→Rs} {x} (h:shapeF ag cs k=some x):∃ v,vShape ag cs=some v∧k v=some x:=by
 unfold shapeF at h
 cases ag with
 |true=>exact ⟨_,rfl,h⟩
 |false=>
  simp only at h
  split at h
  ·rw [fV_eq] at h;exact ⟨_,rfl,h⟩
  ·cases h
noncomputable def idxF (es:List (List D)) (iv:V) (k:List D→Rs):Rs:=match iv with
 |.d (.lit (.int _ (.ofNat j)))=>nthF es j k
 |iv=>match vIdx (lenK es) iv with
  |some j=>nthF es j k
  |none=>none
theorem idxF_some {es:List (List D)} {iv:V} {k:List D→Rs} {x} (h:idxF es iv k=some x):∃ j row,vIdx es.length iv=some j∧es[j]?=some row∧k row=some x:=by
 unfold idxF at h
 split at h
 ·rename_i kd j
  obtain ⟨row,h1,h2⟩:=nthF_some h
  have hlt:=(List.getElem?_eq_some_iff.1 h1).1
  refine ⟨j,row,?_,h1,h2⟩
  simp only [vIdx,V.int]
  rw [if_pos ⟨Int.natCast_nonneg j,Int.ofNat_lt.2 hlt⟩]
  rfl
 ·rw [lenK_eq] at h
  split at h
  ·rename_i j hj
   obtain ⟨row,h1,h2⟩:=nthF_some h
   exact ⟨j,row,hj,h1,h2⟩
  ·cases h
noncomputable def fillF (ρ:VArg→V) (parts:List (Nat×Nat×VArg)) (zero:List V) (k:List V→Rs):Rs:=
 List.rec (motive:=fun _=>List V→Rs) (fun z=>k z) (fun p _ ih z=>cellsF (ρ p.2.2) p.2.1 fun cs=>splF z p.1 cs fun z'=>ih z') parts zero
theorem fillF_some {ρ:VArg→V} {parts:List (Nat×Nat×VArg)} {zero:List V} {k:List V→Rs} {x} (h:fillF ρ parts zero k=some x):∃ cs,vFill zero (parts.map fun (o,n,x)=>(o,n,ρ x))=some cs∧k cs=some x:=by
 unfold fillF at h
 induction parts generalizing zero with
 |nil=>exact ⟨zero,rfl,h⟩
 |cons p ps ih=>
  obtain ⟨o,n,a⟩:=p
  obtain ⟨cs,h1,h2,h3,h4⟩:=cellsF_some h
  obtain ⟨h5,h6⟩:=splF_some h4
  obtain ⟨r,h7,h8⟩:=ih h6
  refine ⟨r,?_,h8⟩
  simp only at h1 h2 h5 h7
  subst h2
  simp only [List.map_cons,vFill,h1]
  rw [if_pos ⟨trivial,h5,h3⟩]
  exact h7
def wF (n:Int):Int:=match n with
 |.ofNat m=>match Nat.ble m 9223372036854775807 with
  |true=>.ofNat m
  |false=>IntKind.i64.wrap (.ofNat m)
 |.negSucc m=>match Nat.ble m 9223372036854775807 with
  |true=>.negSucc m
  |false=>IntKind.i64.wrap (.negSucc m)
theorem wF_eq (n:Int):wF n=IntKind.i64.wrap n:=by
 unfold wF
 split
 ·rename_i m
  split
  ·rename_i h
   have:=Nat.le_of_ble_eq_true h
   have h1:-9223372036854775808≤(m:Int):=by omega
   have h2:(m:Int)≤9223372036854775807:=by omega
   exact (w_in (x:=(m:Int)) h1 h2).symm
  ·rfl
 ·rename_i m
  split
  ·rename_i h
   have:=Nat.le_of_ble_eq_true h
   exact (w_in (x:=Int.negSucc m) (by omega) (by omega)).symm
  ·rfl
def eqF (a b:Int):Bool:=match a,b with
 |.ofNat m,.ofNat n=>Nat.beq m n
 |.negSucc m,.negSucc n=>Nat.beq m n
 |.ofNat _,.negSucc _=>false
 |.negSucc _,.ofNat _=>false
def leF (a b:Int):Bool:=match a,b with
 |.ofNat m,.ofNat n=>Nat.ble m n
 |.negSucc m,.negSucc n=>Nat.ble n m
 |.ofNat _,.negSucc _=>false
 |.negSucc _,.ofNat _=>true
theorem eqF_eq (a b:Int):eqF a b=(a==b):=by
 cases a with
 |ofNat m=>cases b with
  |ofNat n=>
   simp only [eqF]
   rw [Bool.eq_iff_iff]
   simp only [beq_iff_eq]
   constructor
   ·intro h;rw [Nat.eq_of_beq_eq_true h]
   ·intro h;cases h;exact Nat.beq_refl m
  |negSucc n=>rfl
 |negSucc m=>cases b with
  |ofNat n=>rfl
  |negSucc n=>
   simp only [eqF]
   rw [Bool.eq_iff_iff]
   simp only [beq_iff_eq]
   constructor
   ·intro h;rw [Nat.eq_of_beq_eq_true h]
   ·intro h;cases h;exact Nat.beq_refl m
theorem leF_eq (a b:Int):leF a b=decide (a≤b):=by
 rw [Bool.eq_iff_iff,decide_eq_true_eq]
 cases a with
 |ofNat m=>cases b with
  |ofNat n=>simp only [leF,Nat.ble_eq];show m≤n↔(m:Int)≤(n:Int);omega
  |negSucc n=>simp only [leF];constructor;(intro h;cases h);(intro h;exfalso;have:(m:Int)≤Int.negSucc n:=h;omega)
 |negSucc m=>cases b with
  |ofNat n=>simp only [leF,true_iff];show Int.negSucc m≤(n:Int);omega
  |negSucc n=>simp only [leF,Nat.ble_eq];omega
def arF (op:BinOp) (g:Int→Int→Int) (x y:V):Option V:=match x,y with
 |.d (.lit (.int .i64 a)),.d (.lit (.int .i64 b))=>some (.d (.lit (.int .i64 (wF (g a b)))))
 |x,y=>vBin op x y
def cmF (op:BinOp) (g:Int→Int→Bool) (x y:V):Option V:=match x,y with
 |.d (.lit (.int .i64 a)),.d (.lit (.int .i64 b))=>some (.d (.lit (.bool (g a b))))
 |x,y=>vBin op x y
def binF (op:BinOp) (x y:V):Option V:=match op with
 |.add=>arF .add (fun a b=>a+b) x y
 |.sub=>arF .sub (fun a b=>a-b) x y
 |.mul=>arF .mul (fun a b=>a*b) x y
 |.eql=>cmF .eql (fun a b=>eqF a b) x y
 |.neq=>cmF .neq (fun a b=>!eqF a b) x y
 |.lss=>cmF .lss (fun a b=>!leF b a) x y
 |.leq=>cmF .leq (fun a b=>leF a b) x y
 |.gtr=>cmF .gtr (fun a b=>!leF a b) x y
 |.geq=>cmF .geq (fun a b=>leF b a) x y
 |op=>vBin op x y
theorem arF_eq {op:BinOp} {g:Int→Int→Int} (h:∀ a b,vInt op .i64 a b=some (lit (.int .i64 (IntKind.i64.wrap (g a b))))) (hs:isShift op=false) (x y:V):arF op g x y=vBin op x y:=by
 unfold arF
 split
 ·rename_i a b
  simp only [vBin,hs,h,wF_eq]
  rfl
 ·rfl
theorem cmF_eq {op:BinOp} {g:Int→Int→Bool} (h:∀ a b,vInt op .i64 a b=some (lit (.bool (g a b)))) (hs:isShift op=false) (x y:V):cmF op g x y=vBin op x y:=by
 unfold cmF
 split
 ·rename_i a b
  simp only [vBin,hs,h]
  rfl
 ·rfl
theorem nle_lt (a b:Int):(!decide (b≤a))=decide (a<b):=by
 rw [Bool.eq_iff_iff];simp
theorem binF_eq (op:BinOp) (x y:V):binF op x y=vBin op x y:=by
 cases op with
 |add=>exact arF_eq (fun _ _=>rfl) rfl x y
 |sub=>exact arF_eq (fun _ _=>rfl) rfl x y
 |mul=>exact arF_eq (fun _ _=>rfl) rfl x y
 |eql=>exact cmF_eq (fun a b=>by rw [eqF_eq];rfl) rfl x y
 |neq=>exact cmF_eq (fun a b=>by rw [eqF_eq];rfl) rfl x y
 |lss=>exact cmF_eq (fun a b=>by rw [leF_eq,nle_lt];rfl) rfl x y
 |leq=>exact cmF_eq (fun a b=>by rw [leF_eq];rfl) rfl x y
 |gtr=>exact cmF_eq (fun a b=>by rw [leF_eq,nle_lt];rfl) rfl x y
 |geq=>exact cmF_eq (fun a b=>by rw [leF_eq];rfl) rfl x y
 |_=>rfl
def cvF (kd:IntKind) (x:V):Option V:=match kd,x with
 |.i64,.d (.lit (.int _ n))=>some (.d (.lit (.int .i64 (wF n))))
 |kd,x=>match x.int with
  |some (_,n)=>some (lit (.int kd (kd.wrap n)))
  |none=>none
theorem cvF_eq (kd:IntKind) (x:V):cvF kd x=match x.int with
  |some (_,n)=>some (lit (.int kd (kd.wrap n)))
  |none=>none:=by
 unfold cvF
 split
 ·rw [wF_eq];rfl
 ·rfl
noncomputable def pureF0 (bl:List (List V)) (ρ:VArg→V) (op:VOp) (k:V→Rs):Rs:=match op with
 |.mov x=>fV (ρ x) k
 |.load x n ag=>loadF bl (ρ x) n fun cs=>shapeF ag cs k
 |.fieldA x off=>match ρ x with
  |.ptr id o=>natF (o+off) fun o=>k (.ptr id o)
  |.ep cs=>dropF cs off fun cs=>k (.ep cs)
  |.epv v=>match Nat.beq off 0 with
   |true=>k (.epv v)
   |false=>none
  |_=>none
 |.field x off n ag=>match ρ x with
  |.agg cs=>dropF cs off fun cs'=>takeF cs' n fun r=>shapeF ag r k
  |_=>none
 |.idxA sz x i=>match ρ x with
  |.d y=>match y with
   |.sl es=>idxF es (ρ i) fun row=>match lenEq row sz with
    |true=>k (.ep row)
    |false=>none
   |.lit _=>none
  |.sl s es _=>match Nat.beq s sz with
   |true=>idxF es (ρ i) fun row=>k (.ep row)
   |false=>none
  |v=>match vIdxA sz v (ρ i) with
   |some r=>fV r k
   |none=>none
 |.ext x i=>match ρ x with
  |.tup vs=>nthF vs i fun v=>fV v k
  |_=>none
 |.len x=>match ρ x with
  |.d y=>match y with
   |.sl es=>natF (lenK es) fun n=>k (.d (.lit (.int .i64 (Int.ofNat n))))
   |.lit _=>none
  |.sl _ es _=>natF (lenK es) fun n=>k (.d (.lit (.int .i64 (Int.ofNat n))))
  |v=>match vLen v with
   |some r=>fV r k
   |none=>none
 |.build zero parts=>fillF ρ parts zero fun cs=>k (.agg cs)
 |.slice sz x lo hi=>match vSlice sz (ρ x) (lo.map (ρ)) (hi.map (ρ)) with
  |some r=>fVs r k
  |none=>none
 |.bin op x y=>match binF op (ρ x) (ρ y) with
  |some r=>fV r k
  |none=>none
 |.convI kd x=>match cvF kd (ρ x) with
  |some r=>fV r k
  |none=>none
 |op=>match vPure (fun id=>bl[id]?) ρ op with
  |some r=>fV r k
  |none=>none
noncomputable def pMov (x:VArg) (bl:List (List V)) (ρ:VArg→V) (k:V→Rs):Rs:=fV (ρ x) k
noncomputable def pLoad (x:VArg) (n:Nat) (ag:Bool) (bl:List (List V)) (ρ:VArg→V) (k:V→Rs):Rs:=loadF bl (ρ x) n fun cs=>shapeF ag cs k
noncomputable def pFieldA (x:VArg) (off:Nat) (bl:List (List V)) (ρ:VArg→V) (k:V→Rs):Rs:=match ρ x with
 |.ptr id o=>natF (o+off) fun o=>k (.ptr id o)
 |.ep cs=>dropF cs off fun cs=>k (.ep cs)
 |.epv v=>match Nat.beq off 0 with
  |true=>k (.epv v)
  |false=>none
 |_=>none
noncomputable def pField (x:VArg) (off n:Nat) (ag:Bool) (bl:List (List V)) (ρ:VArg→V) (k:V→Rs):Rs:=match ρ x with
 |.agg cs=>dropF cs off fun cs'=>takeF cs' n fun r=>shapeF ag r k
 |_=>none
noncomputable def pIdxA (sz:Nat) (x i:VArg) (bl:List (List V)) (ρ:VArg→V) (k:V→Rs):Rs:=match ρ x with
 |.d y=>match y with
  |.sl es=>idxF es (ρ i) fun row=>match lenEq row sz with
   |true=>k (.ep row)
   |false=>none
  |.lit _=>none
 |.sl s es _=>match Nat.beq s sz with
  |true=>idxF es (ρ i) fun row=>k (.ep row)
  |false=>none
 |v=>match vIdxA sz v (ρ i) with
  |some r=>fV r k
  |none=>none
noncomputable def pExt (x:VArg) (i:Nat) (bl:List (List V)) (ρ:VArg→V) (k:V→Rs):Rs:=match ρ x with
 |.tup vs=>nthF vs i fun v=>fV v k
 |_=>none
noncomputable def pLen (x:VArg) (bl:List (List V)) (ρ:VArg→V) (k:V→Rs):Rs:=match ρ x with
 |.d y=>match y with
  |.sl es=>natF (lenK es) fun n=>k (.d (.lit (.int .i64 (Int.ofNat n))))
  |.lit _=>none
 |.sl _ es _=>natF (lenK es) fun n=>k (.d (.lit (.int .i64 (Int.ofNat n))))
 |v=>match vLen v with
  |some r=>fV r k
  |none=>none
noncomputable def pBuild (zero:List V) (parts:List (Nat×Nat×VArg)) (bl:List (List V)) (ρ:VArg→V) (k:V→Rs):Rs:=fillF ρ parts zero fun cs=>k (.agg cs)
noncomputable def pSlice (sz:Nat) (x:VArg) (lo hi:Option VArg) (bl:List (List V)) (ρ:VArg→V) (k:V→Rs):Rs:=match vSlice sz (ρ x) (lo.map (ρ)) (hi.map (ρ)) with
 |some r=>fVs r k
 |none=>none
noncomputable def pBin (op:BinOp) (x y:VArg) (bl:List (List V)) (ρ:VArg→V) (k:V→Rs):Rs:=match binF op (ρ x) (ρ y) with
 |some r=>fV r k
 |none=>none
noncomputable def pConvI (kd:IntKind) (x:VArg) (bl:List (List V)) (ρ:VArg→V) (k:V→Rs):Rs:=match cvF kd (ρ x) with
 |some r=>fV r k
 |none=>none
noncomputable def pGen (op:VOp) (bl:List (List V)) (ρ:VArg→V) (k:V→Rs):Rs:=match vPure (fun id=>bl[id]?) ρ op with
 |some r=>fV r k
 |none=>none
noncomputable def pureF (op:VOp):List (List V)→(VArg→V)→(V→Rs)→Rs:=match op with
 |.mov x=>pMov x
 |.load x n ag=>pLoad x n ag
 |.fieldA x off=>pFieldA x off
 |.field x off n ag=>pField x off n ag
 |.idxA sz x i=>pIdxA sz x i
 |.ext x i=>pExt x i
 |.len x=>pLen x
 |.build zero parts=>pBuild zero parts
 |.slice sz x lo hi=>pSlice sz x lo hi
 |.bin op x y=>pBin op x y
 |.convI kd x=>pConvI kd x
 |op=>pGen op
theorem pureF_eq (op:VOp) (bl:List (List V)) (ρ:VArg→V) (k:V→Rs):pureF op bl ρ k=pureF0 bl ρ op k:=by cases op<;>rfl
theorem pureF0_some {bl:List (List V)} {ρ:VArg→V} {op:VOp} {k:V→Rs} {x} (h:pureF0 bl ρ op k=some x):∃ r,vPure (fun id=>bl[id]?) ρ op=some r∧k r=some x:=by
 unfold pureF0 at h
 cases op with
 |mov a=>simp only [fV_eq] at h;exact ⟨_,rfl,h⟩
 |load a n ag=>
  obtain ⟨cs,h1,h2⟩:=loadF_some h
  obtain ⟨v,h3,h4⟩:=shapeF_some h2
  exact ⟨v,by simp only [vPure,h1];exact h3,h4⟩
 |fieldA a off=>
  simp only at h
  split at h
  ·rename_i id o ha
   rw [natF_eq] at h
   exact ⟨_,by simp only [vPure,ha,vFieldA],h⟩
  ·rename_i cs ha
   obtain ⟨h1,h2⟩:=dropF_some h
   exact ⟨_,by simp only [vPure,ha,vFieldA];rw [if_pos h1],h2⟩
  ·rename_i v ha
   split at h
   ·rename_i h1
    exact ⟨_,by simp only [vPure,ha,vFieldA];rw [if_pos (Nat.eq_of_beq_eq_true h1)],h⟩
   ·cases h
  ·cases h
 |field a off n ag=>
  simp only at h
  split at h
  ·rename_i cs ha
   obtain ⟨h1,h2⟩:=dropF_some h
   obtain ⟨h3,h4⟩:=takeF_some h2
   obtain ⟨v,h5,h6⟩:=shapeF_some h4
   rw [List.length_drop] at h3
   exact ⟨v,by simp only [vPure,ha,vField];rw [if_pos (by omega)];exact h5,h6⟩
  ·cases h
 |idxA sz a i=>
  simp only at h
  split at h
  ·rename_i y ha
   split at h
   ·rename_i es
    obtain ⟨j,row,h1,h2,h3⟩:=idxF_some h
    split at h3
    ·rename_i h4
     exact ⟨_,by simp only [vPure,ha,vIdxA,h1,h2];rw [if_pos (lenEq_true h4)],h3⟩
    ·cases h3
   ·cases h
  ·rename_i s es t ha
   split at h
   ·rename_i hs
    obtain ⟨j,row,h1,h2,h3⟩:=idxF_some h
    exact ⟨_,by simp only [vPure,ha,vIdxA,h1,h2];rw [if_pos (Nat.eq_of_beq_eq_true hs)],h3⟩
   ·cases h
  ·split at h
   ·rename_i r hr
    rw [fV_eq] at h
    exact ⟨r,hr,h⟩
   ·cases h
 |ext a i=>
  simp only at h
  split at h
  ·rename_i vs ha
   obtain ⟨v,h1,h2⟩:=nthF_some h
   rw [fV_eq] at h2
   exact ⟨v,by simp only [vPure,ha,h1],h2⟩
  ·cases h
 |len a=>
  simp only at h
  split at h
  ·rename_i y ha
   split at h
   ·rename_i es
    rw [natF_eq,lenK_eq] at h
    exact ⟨_,by simp only [vPure,ha,vLen];rfl,h⟩
   ·cases h
  ·rename_i s es t ha
   rw [natF_eq,lenK_eq] at h
   exact ⟨_,by simp only [vPure,ha,vLen];rfl,h⟩
  ·split at h
   ·rename_i r hr
    rw [fV_eq] at h
    exact ⟨r,hr,h⟩
   ·cases h
 |build zero parts=>
  obtain ⟨cs,h1,h2⟩:=fillF_some h
  exact ⟨.agg cs,by simp only [vPure,h1];rfl,h2⟩
 |convI kd a=>
  simp only [cvF_eq] at h
  split at h
  ·rename_i r hr
   rw [fV_eq] at h
   exact ⟨r,hr,h⟩
  ·cases h
 |bin op a b=>
  simp only [binF_eq] at h
  split at h
  ·rename_i r hr
   rw [fV_eq] at h
   exact ⟨r,hr,h⟩
  ·cases h
 |slice sz a lo hi=>
  simp only at h
  split at h
  ·rename_i r hr
   rw [fVs_eq] at h
   exact ⟨r,hr,h⟩
  ·cases h
 |_=>
  simp only at h
  split at h
  ·rename_i r hr
   rw [fV_eq] at h
   exact ⟨r,hr,h⟩
  ·cases h
theorem pureF_some {bl:List (List V)} {ρ:VArg→V} {op:VOp} {k:V→Rs} {x} (h:pureF op bl ρ k=some x):∃ r,vPure (fun id=>bl[id]?) ρ op=some r∧k r=some x:=by
 rw [pureF_eq] at h
 exact pureF0_some h
end Go.VM
set_option linter.unusedVariables false
namespace Go.VM
abbrev CF:=FuncId→List V→List (List V)→Fl→(Ret→Fl→Rs)→Rs
def CFok (VP:VProg) (C:CF):Prop:=∀ f a b fl k x,C f a b fl k=some x→∃ r fl',fl.ob ⊆ fl'.ob∧(OKs fl'.ob→CV VP f a b=some r)∧k r fl'=some x
noncomputable def erF (v:V):V:=match pl2 v with
 |true=>v
 |false=>v.er
theorem erF_eq:erF=V.er:=by
 funext v
 unfold erF
 split
 ·rename_i h;rw [pl2_er h]
 ·rfl
noncomputable def erLF (v:List V):List V:=match allD v with
 |true=>v
 |false=>V.erL v
theorem erLF_eq:erLF=V.erL:=by
 funext v
 unfold erLF
 split
 ·rename_i h;rw [allD_er h]
 ·rfl
noncomputable def backF (bl:List (List V)) (lv:List Nat) (gn ba de:Nat) (ret:Ret) (k:V→St→Rs):Rs:=
 fV (ret.r.imp gn (lenK bl)) fun r=>fLL (ret.blocks.map (V.impL gn (lenK bl))) fun rb=>appF bl rb fun bl'=>spF (ret.live.map (gn+·)++lv) fun lv'=>natF (gn+ret.gn) fun gn'=>k r ⟨[],bl',lv',gn',ba,de⟩
noncomputable def vPreF (ba:Nat) (bl:List (List V)) (as:List V):Option (List (List V)):=match ba with
 |0=>match preOk (V.topL as) as ((bl.take (V.topL as)).map V.erL) with
  |true=>some ((bl.take (V.topL as)).map V.erL)
  |false=>none
 |_+1=>none
theorem vPreF_eq (ba:Nat) (bl:List (List V)) (as:List V) (ts:List V) (lv:List Nat) (gn de:Nat):vPreF ba bl as=vPre ⟨ts,bl,lv,gn,ba,de⟩ as:=by
 cases ba with
 |zero=>
  simp only [vPreF,vPre]
  rw [if_pos trivial]
  split
  ·rename_i h;rw [if_pos h]
  ·rename_i h;rw [if_neg (by rw [h];decide)]
 |succ n=>rw [vPre_no (Nat.succ_ne_zero n)];rfl
noncomputable def callF (C:CF) (bl:List (List V)) (lv:List Nat) (gn ba de:Nat) (f:FuncId) (as:List V) (fl:Fl) (k:V→St→Fl→Rs):Rs:=
 match allK pl2 as with
 |true=>C f as [] fl fun ret fl'=>match ret.blocks,ret.live,ret.gn with
  |[],[],0=>match pl2 ret.r with
   |true=>fV ret.r fun r=>k r ⟨[],bl,lv,gn,ba,de⟩ fl'
   |false=>backF bl lv gn ba de ret fun r st=>k r st fl'
  |_,_,_=>backF bl lv gn ba de ret fun r st=>k r st fl'
 |false=>fL (as.map erF) fun as'=>match allK (V.ltb 0) as' with
  |true=>C f as' [] fl fun ret fl'=>backF bl lv gn ba de ret fun r st=>k r st fl'
  |false=>match vPreF ba bl as' with
   |some pb=>fLL pb fun pb'=>C f as' pb' fl fun ret fl'=>match ret.live,ret.gn with
    |[],0=>match Nat.beq (lenK ret.blocks) (lenK pb') with
     |true=>fV ret.r fun r=>fLL ret.blocks fun rb=>appF rb (bl.drop (lenK pb')) fun bl2=>k r ⟨[],bl2,lv,gn,ba,de⟩ fl'
     |false=>none
    |_,_=>match Nat.beq (lenK ret.blocks) (lenK pb') with
     |true=>fV (ret.r.imp gn 0) fun r=>fLL ret.blocks fun rb=>appF rb (bl.drop (lenK pb')) fun bl2=>spF (ret.live.map (gn+·)++lv) fun lv'=>natF (gn+ret.gn) fun gn'=>k r ⟨[],bl2,lv',gn',ba,de⟩ fl'
     |false=>none
   |none=>fLL (bl.map erLF) fun bl'=>C f as' bl' fl fun ret fl'=>match ret.live,ret.gn with
    |[],0=>match Nat.beq (lenK ret.blocks) (lenK bl) with
     |true=>fV ret.r fun r=>fLL ret.blocks fun rb=>k r ⟨[],rb,lv,gn,ba,de⟩ fl'
     |false=>none
    |_,_=>none
theorem backF_some {VP:VProg} (ts:List V) {bl:List (List V)} {lv:List Nat} {gn ba de:Nat} {ret:Ret} {f:FuncId} {as:List V} {k:V→St→Rs} {x} (h:backF bl lv gn ba de ret k=some x)
  (ha:(as.map V.er).all (V.ltb 0)=true) (hc:CV VP f (as.map V.er) []=some ret):∃ r st',vCall (CV VP) ⟨ts,bl,lv,gn,ba,de⟩ f as=some (r,{ st' with tmps:=ts })∧k r st'=some x:=by
 unfold backF at h
 simp only [fV_eq,fLL_eq,appF_eq,spF_eq,natF_eq,lenK_eq] at h
 refine ⟨_,_,?_,h⟩
 unfold vCall
 rw [if_pos ha,hc]
theorem callF_some {VP:VProg} {C:CF} (hC:CFok VP C) (ts:List V) {bl:List (List V)} {lv:List Nat} {gn ba de:Nat} {f:FuncId} {as:List V} {fl:Fl} {k:V→St→Fl→Rs} {x}
  (h:callF C bl lv gn ba de f as fl k=some x):∃ r st' fl',fl.ob ⊆ fl'.ob∧(OKs fl'.ob→vCall (CV VP) ⟨ts,bl,lv,gn,ba,de⟩ f as=some (r,{ st' with tmps:=ts }))∧k r st' fl'=some x:=by
 unfold callF at h
 split at h
 ·rename_i hp
  have hp':∀ v∈as,pl2 v=true:=by rw [allK_eq,List.all_eq_true] at hp;exact hp
  have he:as.map V.er=as:=map_id_of fun v hv=>pl2_er (hp' v hv)
  have ha:(as.map V.er).all (V.ltb 0)=true:=by rw [he,List.all_eq_true];exact fun v hv=>pl2_ltb (hp' v hv) 0
  obtain ⟨ret,fl',h1,h2,h3⟩:=hC _ _ _ _ _ _ h
  have gen:∀ {x},(backF bl lv gn ba de ret fun r st=>k r st fl')=some x→∃ r st' fl',fl.ob ⊆ fl'.ob∧(OKs fl'.ob→vCall (CV VP) ⟨ts,bl,lv,gn,ba,de⟩ f as=some (r,{ st' with tmps:=ts }))∧k r st' fl'=some x:=by
   intro x hb
   by_cases hok:OKs fl'.ob
   ·obtain ⟨r,st',h4,h5⟩:=backF_some ts hb ha (by rw [he];exact h2 hok)
    exact ⟨r,st',fl',h1,fun _=>h4,h5⟩
   ·unfold backF at hb
    simp only [fV_eq,fLL_eq,appF_eq,spF_eq,natF_eq,lenK_eq] at hb
    exact ⟨_,_,fl',h1,fun h=>absurd h hok,hb⟩
  split at h3
  ·rename_i e1 e2 e3
   split at h3
   ·rename_i hr
    rw [fV_eq] at h3
    refine ⟨_,_,fl',h1,fun hok=>?_,h3⟩
    unfold vCall
    rw [if_pos ha,he,h2 hok]
    simp only [e1,e2,e3,pl2_imp hr,List.map_nil,List.append_nil,List.nil_append,Nat.add_zero]
   ·exact gen h3
  ·exact gen h3
 ·rw [fL_eq,erF_eq] at h
  split at h
  ·rename_i hp
   have ha:(as.map V.er).all (V.ltb 0)=true:=by rw [allK_eq] at hp;exact hp
   obtain ⟨ret,fl',h1,h2,h3⟩:=hC _ _ _ _ _ _ h
   by_cases hok:OKs fl'.ob
   ·obtain ⟨r,st',h4,h5⟩:=backF_some ts h3 ha (h2 hok)
    exact ⟨r,st',fl',h1,fun _=>h4,h5⟩
   ·unfold backF at h3
    simp only [fV_eq,fLL_eq,appF_eq,spF_eq,natF_eq,lenK_eq] at h3
    exact ⟨_,_,fl',h1,fun h=>absurd h hok,h3⟩
  ·rename_i hp
   have ha:¬(as.map V.er).all (V.ltb 0)=true:=by rw [allK_eq] at hp;rw [hp];decide
   rw [vPreF_eq ba bl (as.map V.er) ts lv gn de] at h
   split at h
   ·rename_i pb hpb
    rw [fLL_eq] at h
    obtain ⟨ret,fl',h1,h2,h3⟩:=hC _ _ _ _ _ _ h
    split at h3
    ·rename_i e1 e2
     split at h3
     ·rename_i e3
      rw [fV_eq,fLL_eq,appF_eq] at h3
      refine ⟨_,_,fl',h1,fun hok=>?_,h3⟩
      have e4:=Nat.eq_of_beq_eq_true e3
      rw [lenK_eq,lenK_eq] at e4
      unfold vCall
      rw [if_neg ha,hpb]
      simp only [h2 hok]
      rw [if_pos ⟨e1,e2,e4⟩]
      simp only [lenK_eq]
     ·cases h3
    ·rename_i e0
     split at h3
     ·rename_i e3
      rw [fV_eq,fLL_eq,appF_eq,spF_eq,natF_eq] at h3
      refine ⟨_,_,fl',h1,fun hok=>?_,h3⟩
      have e4:=Nat.eq_of_beq_eq_true e3
      rw [lenK_eq,lenK_eq] at e4
      unfold vCall
      rw [if_neg ha,hpb]
      simp only [h2 hok]
      rw [if_neg (fun hh=>e0 hh.1 hh.2.1),if_pos e4]
      simp only [lenK_eq]
     ·cases h3
   rename_i hpb
   rw [fLL_eq,erLF_eq] at h
   obtain ⟨ret,fl',h1,h2,h3⟩:=hC _ _ _ _ _ _ h
   split at h3
   ·rename_i e1 e2
    split at h3
    ·rename_i e3
     rw [fV_eq,fLL_eq] at h3
     refine ⟨_,_,fl',h1,fun hok=>?_,h3⟩
     have e4:=Nat.eq_of_beq_eq_true e3
     rw [lenK_eq,lenK_eq] at e4
     unfold vCall
     rw [if_neg ha,hpb]
     simp only [h2 hok]
     rw [if_pos ⟨e1,e2,e4⟩]
    ·cases h3
   ·cases h3
noncomputable def decT (l:List (Nat×Bool)) (ob:List (Bool×Bool)) (vs:List Int) (k:Bool→Fl→Rs):Rs:=k true ⟨l,ob,vs⟩
noncomputable def decF (l:List (Nat×Bool)) (ob:List (Bool×Bool)) (vs:List Int) (k:Bool→Fl→Rs):Rs:=k false ⟨l,ob,vs⟩
noncomputable def decB (b:Bool):List (Nat×Bool)→List (Bool×Bool)→List Int→(Bool→Fl→Rs)→Rs:=match b with
 |true=>decT
 |false=>decF
noncomputable def decN (n:Nat) (t:Bool) (r:List (Nat×Bool)) (b:Bool) (ob:List (Bool×Bool)) (vs:List Int) (k:Bool→Fl→Rs):Rs:=match n with
 |0=>k t ⟨r,(b,t)::ob,vs⟩
 |m+1=>decB b ((m,t)::r) ob vs k
noncomputable def decP (p:Nat×Bool) (r:List (Nat×Bool)):Bool→List (Bool×Bool)→List Int→(Bool→Fl→Rs)→Rs:=match p with
 |(n,t)=>decN n t r
noncomputable def decE (b:Bool) (ob:List (Bool×Bool)) (vs:List Int) (k:Bool→Fl→Rs):Rs:=decB b [] ob vs k
noncomputable def decL (l:List (Nat×Bool)):Bool→List (Bool×Bool)→List Int→(Bool→Fl→Rs)→Rs:=match l with
 |[]=>decE
 |p::r=>decP p r
noncomputable def decU (l:List (Nat×Bool)) (ob:List (Bool×Bool)) (vs:List Int) (b:Bool) (k:Bool→Fl→Rs):Rs:=decL l b ob vs k
noncomputable def dec (b:Bool) (f:Fl) (k:Bool→Fl→Rs):Rs:=(match f with|⟨l,ob,vs⟩=>decU l ob vs:Bool→(Bool→Fl→Rs)→Rs) b k
theorem dec_some {b:Bool} {f:Fl} {k:Bool→Fl→Rs} {x} (h:dec b f k=some x):∃ t f',f.ob ⊆ f'.ob∧(OKs f'.ob→b=t)∧k t f'=some x:=by
 obtain ⟨l,ob,vs⟩:=f
 cases l with
 |nil=>cases b<;>exact ⟨_,⟨[],ob,vs⟩,fun _ h=>h,fun _=>rfl,h⟩
 |cons p r=>
  obtain ⟨n,t⟩:=p
  cases n with
  |zero=>exact ⟨t,_,fun _ h=>List.mem_cons_of_mem _ h,fun hok=>hok (b,t) List.mem_cons_self,h⟩
  |succ m=>cases b<;>exact ⟨_,⟨(m,t)::r,ob,vs⟩,fun _ h=>h,fun _=>rfl,h⟩
def isLit (n:Int):Bool:=match n with
 |.ofNat _=>true
 |.negSucc _=>true
noncomputable def frcI (n:Int) (k:Int→Rs):Rs:=match n with
 |.ofNat m=>natF m fun m=>k (.ofNat m)
 |.negSucc m=>natF m fun m=>k (.negSucc m)
theorem frcI_eq (n:Int) (k:Int→Rs):frcI n k=k n:=by cases n<;>simp only [frcI,natF_eq]
noncomputable def lzT (l:List (Nat×Bool)) (n:Int) (ob:List (Bool×Bool)) (vs:List Int) (k:Int→Fl→Rs):Rs:=frcI n fun n'=>k n' ⟨l,ob,vs⟩
noncomputable def lzF (l:List (Nat×Bool)) (n:Int) (ob:List (Bool×Bool)) (vs:List Int) (k:Int→Fl→Rs):Rs:=k n ⟨l,ob,vs⟩
noncomputable def lzB (b:Bool):List (Nat×Bool)→Int→List (Bool×Bool)→List Int→(Int→Fl→Rs)→Rs:=match b with
 |true=>lzT
 |false=>lzF
noncomputable def lzV (r:List (Nat×Bool)) (n:Int) (ob:List (Bool×Bool)) (vs:List Int) (k:Int→Fl→Rs):Rs:=match vs with
 |v::vs'=>k v ⟨r,(eqF n v,true)::ob,vs'⟩
 |[]=>none
noncomputable def lz0 (t:Bool):List (Nat×Bool)→Int→List (Bool×Bool)→List Int→(Int→Fl→Rs)→Rs:=match t with
 |true=>lzF
 |false=>lzV
noncomputable def lzN (c:Nat) (t:Bool) (r:List (Nat×Bool)) (n:Int) (ob:List (Bool×Bool)) (vs:List Int) (k:Int→Fl→Rs):Rs:=match c with
 |0=>lz0 t r n ob vs k
 |m+1=>lzB (isLit n) ((m,t)::r) n ob vs k
noncomputable def lzP (p:Nat×Bool) (r:List (Nat×Bool)):Int→List (Bool×Bool)→List Int→(Int→Fl→Rs)→Rs:=match p with
 |(c,t)=>lzN c t r
noncomputable def lzL (l:List (Nat×Bool)):Int→List (Bool×Bool)→List Int→(Int→Fl→Rs)→Rs:=match l with
 |[]=>lzT []
 |p::r=>lzP p r
noncomputable def lzU (l:List (Nat×Bool)) (ob:List (Bool×Bool)) (vs:List Int) (n:Int) (k:Int→Fl→Rs):Rs:=lzL l n ob vs k
noncomputable def lzy (n:Int) (f:Fl) (k:Int→Fl→Rs):Rs:=(match f with|⟨l,ob,vs⟩=>lzU l ob vs:Int→(Int→Fl→Rs)→Rs) n k
theorem lzy_some {n:Int} {f:Fl} {k:Int→Fl→Rs} {x} (h:lzy n f k=some x):∃ n' f',f.ob ⊆ f'.ob∧(OKs f'.ob→n=n')∧k n' f'=some x:=by
 obtain ⟨l,ob,vs⟩:=f
 cases l with
 |nil=>simp only [lzy,lzU,lzL,lzT,frcI_eq] at h;exact ⟨n,_,fun _ h=>h,fun _=>rfl,h⟩
 |cons p r=>
  obtain ⟨c,t⟩:=p
  cases c with
  |zero=>
   cases t with
   |true=>exact ⟨n,⟨r,ob,vs⟩,fun _ h=>h,fun _=>rfl,h⟩
   |false=>
    cases vs with
    |nil=>cases h
    |cons v vs'=>
     refine ⟨v,⟨r,(eqF n v,true)::ob,vs'⟩,fun _ h=>List.mem_cons_of_mem _ h,fun hok=>?_,h⟩
     have:=hok (eqF n v,true) List.mem_cons_self
     simp only [eqF_eq,beq_iff_eq] at this
     exact this
  |succ m=>
   simp only [lzy,lzU,lzL,lzP,lzN] at h
   refine ⟨n,⟨(m,t)::r,ob,vs⟩,fun _ h=>h,fun _=>rfl,?_⟩
   cases hb:isLit n with
   |true=>rw [hb] at h;simp only [lzB,lzT,frcI_eq] at h;exact h
   |false=>rw [hb] at h;exact h
noncomputable def nmI (kd:IntKind) (n:Int) (fl:Fl) (k:V→Fl→Rs):Rs:=lzy n fl fun n' fl'=>k (.d (.lit (.int kd n'))) fl'
noncomputable def nmO (v:Value) (fl:Fl) (k:V→Fl→Rs):Rs:=k (.d (.lit v)) fl
noncomputable def nmL (v:Value):Fl→(V→Fl→Rs)→Rs:=match v with
 |.int kd n=>nmI kd n
 |v=>nmO v
noncomputable def nmS (es:List (List D)) (fl:Fl) (k:V→Fl→Rs):Rs:=k (.d (.sl es)) fl
noncomputable def nmD (y:D):Fl→(V→Fl→Rs)→Rs:=match y with
 |.lit v=>nmL v
 |.sl es=>nmS es
noncomputable def nmR (r:V) (fl:Fl) (k:V→Fl→Rs):Rs:=k r fl
noncomputable def numF (r:V):Fl→(V→Fl→Rs)→Rs:=match r with
 |.d y=>nmD y
 |r=>nmR r
theorem numF_some {r:V} {fl:Fl} {k:V→Fl→Rs} {x} (h:numF r fl k=some x):∃ r' fl',fl.ob ⊆ fl'.ob∧(OKs fl'.ob→r=r')∧k r' fl'=some x:=by
 cases r with
 |d y=>
  cases y with
  |lit v=>
   cases v with
   |int kd n=>
    obtain ⟨n',f',h1,h2,h3⟩:=lzy_some h
    exact ⟨_,f',h1,fun hok=>by rw [h2 hok],h3⟩
   |_=>exact ⟨_,fl,fun _ h=>h,fun _=>rfl,h⟩
  |sl es=>exact ⟨_,fl,fun _ h=>h,fun _=>rfl,h⟩
 |_=>exact ⟨_,fl,fun _ h=>h,fun _=>rfl,h⟩
noncomputable def locF (bl:List (List V)) (id off len sz:Nat) (k:V→Rs):Rs:=match frzLoc bl[id]? off len sz with
 |.d y=>match y with
  |.sl es=>sp2F es fun es=>k (.d (.sl es))
  |y=>k (.d y)
 |v=>k v
theorem locF_eq (bl:List (List V)) (id off len sz:Nat) (k:V→Rs):locF bl id off len sz k=k (frzLoc bl[id]? off len sz):=by
 unfold locF
 split
 ·rename_i y h
  rw [h]
  cases y<;>simp only [sp2F_eq]
 ·rfl
noncomputable def frz1F (bl:List (List V)) (n:Nat) (v:V) (k:V→Rs):Rs:=match v with
 |.d y=>k (.d y)
 |.loc id off len sz=>match Nat.ble n id with
  |true=>locF bl id off len sz k
  |false=>k (.loc id off len sz)
 |v=>fV (v.frz bl n) k
theorem frz1F_eq (bl:List (List V)) (n:Nat) (v:V) (k:V→Rs):frz1F bl n v k=k (v.frz bl n):=by
 cases v with
 |loc id off len sz=>
  simp only [frz1F]
  split
  ·rename_i h
   have:=Nat.le_of_ble_eq_true h
   rw [locF_eq,V.frz,if_neg (by omega)]
  ·rename_i h
   have:¬n≤id:=fun h'=>by rw [Nat.ble_eq_true_of_le h'] at h;cases h
   rw [V.frz,if_pos (by omega)]
 |d y=>rfl
 |_=>simp only [frz1F,fV_eq]
noncomputable def frzLF (bl:List (List V)) (n:Nat) (vs:List V) (k:List V→Rs):Rs:=
 List.rec (motive:=fun _=>(List V→Rs)→Rs) (fun k=>k []) (fun v _ ih k=>frz1F bl n v fun v'=>ih fun l=>k (v'::l)) vs k
theorem frzLF_eq (bl:List (List V)) (n:Nat) (vs:List V) (k:List V→Rs):frzLF bl n vs k=k (V.frzL bl n vs):=by
 unfold frzLF
 induction vs generalizing k with
 |nil=>rfl
 |cons v vs ih=>exact (frz1F_eq _ _ _ _).trans (ih _)
noncomputable def frz2F (bl:List (List V)) (n:Nat) (v:V) (k:V→Rs):Rs:=match v with
 |.agg vs=>frzLF bl n vs fun vs'=>k (.agg vs')
 |v=>frz1F bl n v k
theorem frz2F_eq (bl:List (List V)) (n:Nat) (v:V) (k:V→Rs):frz2F bl n v k=k (v.frz bl n):=by
 cases v with
 |agg vs=>simp only [frz2F,frzLF_eq,V.frz]
 |_=>simp only [frz2F,frz1F_eq]
noncomputable def frzL2F (bl:List (List V)) (n:Nat) (vs:List V) (k:List V→Rs):Rs:=
 List.rec (motive:=fun _=>(List V→Rs)→Rs) (fun k=>k []) (fun v _ ih k=>frz2F bl n v fun v'=>ih fun l=>k (v'::l)) vs k
theorem frzL2F_eq (bl:List (List V)) (n:Nat) (vs:List V) (k:List V→Rs):frzL2F bl n vs k=k (V.frzL bl n vs):=by
 unfold frzL2F
 induction vs generalizing k with
 |nil=>rfl
 |cons v vs ih=>exact (frz2F_eq _ _ _ _).trans (ih _)
noncomputable def frzF (bl:List (List V)) (n:Nat) (v:V) (k:V→Rs):Rs:=match v with
 |.tup vs=>frzL2F bl n vs fun vs'=>k (.tup vs')
 |v=>frz2F bl n v k
theorem frzF_eq (bl:List (List V)) (n:Nat) (v:V) (k:V→Rs):frzF bl n v k=k (v.frz bl n):=by
 cases v with
 |tup vs=>simp only [frzF,frzL2F_eq,V.frz]
 |_=>simp only [frzF,frz2F_eq]
noncomputable def inlF (C:CF) (bl:List (List V)) (lv:List Nat) (gn ba de:Nat) (f:FuncId) (as:List V) (fl:Fl) (k:V→St→Fl→Rs):Rs:=match de with
 |0=>C (f+1000000) (inArgs gn ba lv as) bl fl fun ret fl'=>match Nat.ble (lenK bl) (lenK ret.blocks) with
  |true=>fV ret.r fun r=>k r ⟨[],ret.blocks,ret.live,ret.gn,ba,0⟩ fl'
  |false=>none
 |_+1=>none
theorem inlF_some {VP:VProg} {C:CF} (hC:CFok VP C) (ts:List V) {bl:List (List V)} {lv:List Nat} {gn ba de:Nat} {f:FuncId} {as:List V} {fl:Fl} {k:V→St→Fl→Rs} {x} (h:inlF C bl lv gn ba de f as fl k=some x) :
  ∃ r st' fl',fl.ob ⊆ fl'.ob∧(OKs fl'.ob→vInl (CV VP) ⟨ts,bl,lv,gn,ba,de⟩ f as=some (r,{ st' with tmps:=ts }))∧k r st' fl'=some x:=by
 unfold inlF at h
 split at h
 ·obtain ⟨ret,f2,h1,h2,h3⟩:=hC _ _ _ _ _ _ h
  split at h3
  ·rename_i hl
   have hl':=Nat.le_of_ble_eq_true hl
   rw [lenK_eq,lenK_eq] at hl'
   rw [fV_eq] at h3
   refine ⟨_,_,f2,h1,fun hok=>?_,h3⟩
   simp only [vInl,h2 hok]
   rw [if_pos hl']
  ·cases h3
 ·cases h
noncomputable def stepF0 (C:CF) (ρ:VArg→V) (bl:List (List V)) (lv:List Nat) (gn ba de:Nat) (op:VOp) (fl:Fl) (k:V→St→Fl→Rs):Rs:=match op with
 |.call f args=>evsF ρ args fun as=>match Nat.ble (Nat.succ f) 1000000 with
  |true=>callF C bl lv gn ba de f as fl k
  |false=>none
 |.callv y args=>match ρ y with
  |.fn f caps=>evsF ρ args fun as=>appF as caps fun as=>match Nat.ble (Nat.succ f) 1000000 with
   |true=>callF C bl lv gn ba de f as fl k
   |false=>none
  |_=>none
 |.inl f args=>evsF ρ args fun as=>inlF C bl lv gn ba de f as fl k
 |.box cells=>natF (lenK bl) fun id=>appF bl [cells] fun bl'=>k (.ptr id 0) ⟨[],bl',lv,gn,ba,de⟩ fl
 |.boxv n y=>cellsF (ρ y) n fun cs=>natF (lenK bl) fun id=>appF bl [cs] fun bl'=>k (.ptr id 0) ⟨[],bl',lv,gn,ba,de⟩ fl
 |.store a y n=>match ρ a with
  |.ptr id off=>cellsF (ρ y) n fun cs=>nthF bl id fun blk=>match n with
   |0=>none
   |_+1=>match Nat.ble ba id with
    |true=>splF blk off cs fun blk'=>setF bl id blk' fun bl'=>k .any ⟨[],bl',lv,gn,ba,de⟩ fl
    |false=>splF blk off (erLF cs) fun blk'=>fL blk' fun blk'=>setF bl id blk' fun bl'=>k .any ⟨[],bl',lv,gn,ba,de⟩ fl
  |_=>none
 |.app sz y z false=>match vRows (ρ z) with
  |some ms=>match vAppDst ⟨[],[],lv,gn,ba,de⟩ sz (ρ y) with
   |some (es,live)=>dec (Nat.ble (lenK es+lenK ms) appBound) fl fun t fl'=>match t with
    |true=>match allK (fun r=>lenEq r sz) ms with
     |true=>spF live fun live'=>natF gn fun g=>k (.sl sz (es++ms) (.own de g)) ⟨[],bl,g::live',Nat.succ g,ba,de⟩ fl'
     |false=>none
    |false=>none
   |none=>match vApp0 (ρ y) ms with
    |some r=>fVs r fun r=>k r ⟨[],bl,lv,gn,ba,de⟩ fl
    |none=>none
  |none=>none
 |.buildSl len sz zero parts false=>match vBuildSl [] len sz zero (parts.map fun p=>(p.1,VArg.c (ρ p.2))) with
  |some r=>fVs r fun r=>k r ⟨[],bl,lv,gn,ba,de⟩ fl
  |none=>none
 |.buildSl len sz zero parts true=>match vBuildSlM ⟨[],bl,lv,gn,ba,de⟩ [] len sz zero (parts.map fun p=>(p.1,VArg.c (ρ p.2))) with
  |some (r,⟨_,bl',lv',gn',_,_⟩)=>fVs r fun r=>sp2F bl' fun bl'=>spF lv' fun lv'=>natF gn' fun gn'=>k r ⟨[],bl',lv',gn',ba,de⟩ fl
  |none=>none
 |.app sz y z true=>match vRows (ρ z) with
  |some ms=>match vAppM ⟨[],bl,lv,gn,ba,de⟩ sz (ρ y) ms with
   |some (r,⟨_,bl',lv',gn',_,_⟩)=>fVs r fun r=>sp2F bl' fun bl'=>spF lv' fun lv'=>natF gn' fun gn'=>k r ⟨[],bl',lv',gn',ba,de⟩ fl
   |none=>none
  |none=>none
 |.frz y ld=>match vPure (fun id=>bl[id]?) ρ (frzIn y ld) with
  |some v=>fV v fun v=>frzF bl ba v fun r=>sp2F (killL bl (v.locs ba)) fun bl'=>k r ⟨[],bl',lv,gn,ba,de⟩ fl
  |none=>none
 |.pick c a b=>match (ρ c).bool with
  |some t=>dec t fl fun t' fl'=>match t' with
   |true=>fV (ρ a) fun r=>k r ⟨[],bl,lv,gn,ba,de⟩ fl'
   |false=>fV (ρ b) fun r=>k r ⟨[],bl,lv,gn,ba,de⟩ fl'
  |none=>none
 |.bin op x y=>pureF (.bin op x y) bl ρ fun r=>numF r fl fun r fl'=>k r ⟨[],bl,lv,gn,ba,de⟩ fl'
 |.un op x=>pureF (.un op x) bl ρ fun r=>numF r fl fun r fl'=>k r ⟨[],bl,lv,gn,ba,de⟩ fl'
 |.convI kd x=>pureF (.convI kd x) bl ρ fun r=>numF r fl fun r fl'=>k r ⟨[],bl,lv,gn,ba,de⟩ fl'
 |.mkSl zero len cap _=>match vMkSl zero (ρ len) (ρ cap) with
  |some r=>fVs r fun r=>k r ⟨[],bl,lv,gn,ba,de⟩ fl
  |none=>none
 |.sBytes y=>match (ρ y).str with
  |some s=>match Nat.ble s.size 16777216 with
   |true=>fVs (.d (.sl (strRows s))) fun r=>k r ⟨[],bl,lv,gn,ba,de⟩ fl
   |false=>none
  |none=>none
 |op=>pureF op bl ρ fun r=>k r ⟨[],bl,lv,gn,ba,de⟩ fl
noncomputable def sPure (p:List (List V)→(VArg→V)→(V→Rs)→Rs) (C:CF) (ρ:VArg→V) (bl:List (List V)) (lv:List Nat) (gn ba de:Nat) (fl:Fl) (k:V→St→Fl→Rs):Rs:=p bl ρ fun r=>k r ⟨[],bl,lv,gn,ba,de⟩ fl
noncomputable def sNum (p:List (List V)→(VArg→V)→(V→Rs)→Rs) (C:CF) (ρ:VArg→V) (bl:List (List V)) (lv:List Nat) (gn ba de:Nat) (fl:Fl) (k:V→St→Fl→Rs):Rs:=p bl ρ fun r=>numF r fl fun r fl'=>k r ⟨[],bl,lv,gn,ba,de⟩ fl'
noncomputable def sCall (f:FuncId) (args:List VArg) (C:CF) (ρ:VArg→V) (bl:List (List V)) (lv:List Nat) (gn ba de:Nat) (fl:Fl) (k:V→St→Fl→Rs):Rs:=evsF ρ args fun as=>match Nat.ble (Nat.succ f) 1000000 with
  |true=>callF C bl lv gn ba de f as fl k
  |false=>none
noncomputable def sCallv (y:VArg) (args:List VArg) (C:CF) (ρ:VArg→V) (bl:List (List V)) (lv:List Nat) (gn ba de:Nat) (fl:Fl) (k:V→St→Fl→Rs):Rs:=match ρ y with
 |.fn f caps=>evsF ρ args fun as=>appF as caps fun as=>match Nat.ble (Nat.succ f) 1000000 with
   |true=>callF C bl lv gn ba de f as fl k
   |false=>none
 |_=>none
noncomputable def sBox (cells:List V) (C:CF) (ρ:VArg→V) (bl:List (List V)) (lv:List Nat) (gn ba de:Nat) (fl:Fl) (k:V→St→Fl→Rs):Rs:=natF (lenK bl) fun id=>appF bl [cells] fun bl'=>k (.ptr id 0) ⟨[],bl',lv,gn,ba,de⟩ fl
noncomputable def sBoxv (n:Nat) (y:VArg) (C:CF) (ρ:VArg→V) (bl:List (List V)) (lv:List Nat) (gn ba de:Nat) (fl:Fl) (k:V→St→Fl→Rs):Rs:=cellsF (ρ y) n fun cs=>natF (lenK bl) fun id=>appF bl [cs] fun bl'=>k (.ptr id 0) ⟨[],bl',lv,gn,ba,de⟩ fl
noncomputable def sStore (a y:VArg) (n:Nat) (C:CF) (ρ:VArg→V) (bl:List (List V)) (lv:List Nat) (gn ba de:Nat) (fl:Fl) (k:V→St→Fl→Rs):Rs:=match ρ a with
 |.ptr id off=>cellsF (ρ y) n fun cs=>nthF bl id fun blk=>match n with
  |0=>none
  |_+1=>match Nat.ble ba id with
   |true=>splF blk off cs fun blk'=>setF bl id blk' fun bl'=>k .any ⟨[],bl',lv,gn,ba,de⟩ fl
   |false=>splF blk off (erLF cs) fun blk'=>fL blk' fun blk'=>setF bl id blk' fun bl'=>k .any ⟨[],bl',lv,gn,ba,de⟩ fl
 |_=>none
noncomputable def sAppF (sz:Nat) (y z:VArg) (C:CF) (ρ:VArg→V) (bl:List (List V)) (lv:List Nat) (gn ba de:Nat) (fl:Fl) (k:V→St→Fl→Rs):Rs:=match vRows (ρ z) with
 |some ms=>match vAppDst ⟨[],[],lv,gn,ba,de⟩ sz (ρ y) with
  |some (es,live)=>dec (Nat.ble (lenK es+lenK ms) appBound) fl fun t fl'=>match t with
   |true=>match allK (fun r=>lenEq r sz) ms with
    |true=>spF live fun live'=>natF gn fun g=>k (.sl sz (es++ms) (.own de g)) ⟨[],bl,g::live',Nat.succ g,ba,de⟩ fl'
    |false=>none
   |false=>none
  |none=>match vApp0 (ρ y) ms with
   |some r=>fVs r fun r=>k r ⟨[],bl,lv,gn,ba,de⟩ fl
   |none=>none
 |none=>none
noncomputable def sBuildSlF (len sz:Nat) (zero:List V) (parts:List (Nat×VArg)) (C:CF) (ρ:VArg→V) (bl:List (List V)) (lv:List Nat) (gn ba de:Nat) (fl:Fl) (k:V→St→Fl→Rs):Rs:=match vBuildSl [] len sz zero (parts.map fun p=>(p.1,VArg.c (ρ p.2))) with
 |some r=>fVs r fun r=>k r ⟨[],bl,lv,gn,ba,de⟩ fl
 |none=>none
noncomputable def sBuildSlT (len sz:Nat) (zero:List V) (parts:List (Nat×VArg)) (C:CF) (ρ:VArg→V) (bl:List (List V)) (lv:List Nat) (gn ba de:Nat) (fl:Fl) (k:V→St→Fl→Rs):Rs:=match vBuildSlM ⟨[],bl,lv,gn,ba,de⟩ [] len sz zero (parts.map fun p=>(p.1,VArg.c (ρ p.2))) with
 |some (r,⟨_,bl',lv',gn',_,_⟩)=>fVs r fun r=>sp2F bl' fun bl'=>spF lv' fun lv'=>natF gn' fun gn'=>k r ⟨[],bl',lv',gn',ba,de⟩ fl
 |none=>none
noncomputable def sAppT (sz:Nat) (y z:VArg) (C:CF) (ρ:VArg→V) (bl:List (List V)) (lv:List Nat) (gn ba de:Nat) (fl:Fl) (k:V→St→Fl→Rs):Rs:=match vRows (ρ z) with
 |some ms=>match vAppM ⟨[],bl,lv,gn,ba,de⟩ sz (ρ y) ms with
  |some (r,⟨_,bl',lv',gn',_,_⟩)=>fVs r fun r=>sp2F bl' fun bl'=>spF lv' fun lv'=>natF gn' fun gn'=>k r ⟨[],bl',lv',gn',ba,de⟩ fl
  |none=>none
 |none=>none
noncomputable def sFrz (y:VArg) (ld:Option (Nat×Bool)) (C:CF) (ρ:VArg→V) (bl:List (List V)) (lv:List Nat) (gn ba de:Nat) (fl:Fl) (k:V→St→Fl→Rs):Rs:=match vPure (fun id=>bl[id]?) ρ (frzIn y ld) with
 |some v=>fV v fun v=>frzF bl ba v fun r=>sp2F (killL bl (v.locs ba)) fun bl'=>k r ⟨[],bl',lv,gn,ba,de⟩ fl
 |none=>none
noncomputable def sPick (c a b:VArg) (C:CF) (ρ:VArg→V) (bl:List (List V)) (lv:List Nat) (gn ba de:Nat) (fl:Fl) (k:V→St→Fl→Rs):Rs:=match (ρ c).bool with
 |some t=>dec t fl fun t' fl'=>match t' with
  |true=>fV (ρ a) fun r=>k r ⟨[],bl,lv,gn,ba,de⟩ fl'
  |false=>fV (ρ b) fun r=>k r ⟨[],bl,lv,gn,ba,de⟩ fl'
 |none=>none
noncomputable def sMkSl (zero:List V) (len cap:VArg) (_:Bool) (C:CF) (ρ:VArg→V) (bl:List (List V)) (lv:List Nat) (gn ba de:Nat) (fl:Fl) (k:V→St→Fl→Rs):Rs:=match vMkSl zero (ρ len) (ρ cap) with
 |some r=>fVs r fun r=>k r ⟨[],bl,lv,gn,ba,de⟩ fl
 |none=>none
noncomputable def sSBytes (y:VArg) (C:CF) (ρ:VArg→V) (bl:List (List V)) (lv:List Nat) (gn ba de:Nat) (fl:Fl) (k:V→St→Fl→Rs):Rs:=match (ρ y).str with
 |some s=>match Nat.ble s.size 16777216 with
  |true=>fVs (.d (.sl (strRows s))) fun r=>k r ⟨[],bl,lv,gn,ba,de⟩ fl
  |false=>none
 |none=>none
noncomputable def sInl (f:FuncId) (args:List VArg) (C:CF) (ρ:VArg→V) (bl:List (List V)) (lv:List Nat) (gn ba de:Nat) (fl:Fl) (k:V→St→Fl→Rs):Rs:=evsF ρ args fun as=>inlF C bl lv gn ba de f as fl k
noncomputable def stepF (op:VOp):CF→(VArg→V)→List (List V)→List Nat→Nat→Nat→Nat→Fl→(V→St→Fl→Rs)→Rs:=match op with
 |.call f args=>sCall f args
 |.callv y args=>sCallv y args
 |.inl f args=>sInl f args
 |.box cells=>sBox cells
 |.boxv n y=>sBoxv n y
 |.store a y n=>sStore a y n
 |.app sz y z false=>sAppF sz y z
 |.buildSl len sz zero parts false=>sBuildSlF len sz zero parts
 |.buildSl len sz zero parts true=>sBuildSlT len sz zero parts
 |.app sz y z true=>sAppT sz y z
 |.frz y ld=>sFrz y ld
 |.pick c a b=>sPick c a b
 |.bin op x y=>sNum (pureF (.bin op x y))
 |.un op x=>sNum (pureF (.un op x))
 |.convI kd x=>sNum (pureF (.convI kd x))
 |.mkSl zero len cap m=>sMkSl zero len cap m
 |.sBytes y=>sSBytes y
 |.mov x=>sPure (pMov x)
 |.load x n ag=>sPure (pLoad x n ag)
 |.fieldA x off=>sPure (pFieldA x off)
 |.field x off n ag=>sPure (pField x off n ag)
 |.idxA sz x i=>sPure (pIdxA sz x i)
 |.ext x i=>sPure (pExt x i)
 |.len x=>sPure (pLen x)
 |.build zero parts=>sPure (pBuild zero parts)
 |.slice sz x lo hi=>sPure (pSlice sz x lo hi)
 |op=>sPure (pGen op)
theorem stepF_eq (op:VOp) (C:CF) (ρ:VArg→V) (bl:List (List V)) (lv:List Nat) (gn ba de:Nat) (fl:Fl) (k:V→St→Fl→Rs):stepF op C ρ bl lv gn ba de fl k=stepF0 C ρ bl lv gn ba de op fl k:=by
 cases op with
 |app a b c m=>cases m<;>rfl
 |buildSl a b c d m=>cases m<;>rfl
 |_=>rfl
theorem vBuildSlM_ts {bl:List (List V)} {lv:List Nat} {gn ba de:Nat} {ts us vs:List V} {len sz:Nat} {zero:List V} {parts ps:List (Nat×VArg)} {r:V} {st':St} (h:vBuildSlM ⟨vs,bl,lv,gn,ba,de⟩ us len sz zero ps=some (r,st'))
  (hp:(ps.map fun (i,x)=>(i*sz,sz,x.ev us))=(parts.map fun (i,x)=>(i*sz,sz,x.ev ts))):vBuildSlM ⟨ts,bl,lv,gn,ba,de⟩ ts len sz zero parts=some (r,⟨ts,st'.blocks,st'.live,st'.gn,ba,de⟩):=by
 unfold vBuildSlM at h ⊢
 rw [hp] at h
 split at h
 ·rename_i cs hcs
  rw [hcs]
  simp only
  split at h
  ·rename_i hl
   simp only [Option.some.injEq,Prod.mk.injEq] at h
   obtain ⟨rfl,rfl⟩:=h
   rw [if_pos hl]
  ·cases h
 ·cases h
theorem vAppM_ts {bl:List (List V)} {lv:List Nat} {gn ba de:Nat} {ts us:List V} {sz:Nat} {y r:V} {ms:List (List D)} {st':St} (h:vAppM ⟨us,bl,lv,gn,ba,de⟩ sz y ms=some (r,st')) :
  vAppM ⟨ts,bl,lv,gn,ba,de⟩ sz y ms=some (r,⟨ts,st'.blocks,st'.live,st'.gn,ba,de⟩):=by
 unfold vAppM at h ⊢
 split at h
 ·rename_i hc
  rw [if_pos hc]
  split at h
  ·split at h<;>(simp only [Option.some.injEq,Prod.mk.injEq] at h;obtain ⟨rfl,rfl⟩:=h;rfl)
  ·split at h
   ·rename_i hs
    simp only [if_pos hs]
    split at h<;>(simp only [Option.some.injEq,Prod.mk.injEq] at h;obtain ⟨rfl,rfl⟩:=h;rfl)
   ·cases h
  ·split at h
   ·rename_i cs hcs
    simp only [hcs]
    split at h
    ·rename_i hs
     rw [if_pos hs]
     split at h<;>(simp only [Option.some.injEq,Prod.mk.injEq] at h;obtain ⟨rfl,rfl⟩:=h;rfl)
    ·cases h
   ·cases h
  ·cases h
 ·cases h
theorem parts_ev {ts:List V} {sz:Nat} (parts:List (Nat×VArg)):((parts.map fun p=>(p.1,VArg.c (VArg.ev ts p.2))).map fun (i,x)=>(i*sz,sz,x.ev []))=(parts.map fun (i,x)=>(i*sz,sz,x.ev ts)):=by
 rw [List.map_map];rfl
theorem vPure_step {C:Orc} {ts:List V} {bl:List (List V)} {lv:List Nat} {gn ba de:Nat} {op:VOp} {r:V} (h:vPure (fun id=>bl[id]?) (VArg.ev ts) op=some r)
  (hop:vStep C ⟨ts,bl,lv,gn,ba,de⟩ op=(vPure (fun id=>bl[id]?) (VArg.ev ts) op).map (·,⟨ts,bl,lv,gn,ba,de⟩)):vStep C ⟨ts,bl,lv,gn,ba,de⟩ op=some (r,⟨ts,bl,lv,gn,ba,de⟩):=by
 rw [hop,h];rfl
theorem erLF_len (cs:List V):(erLF cs).length=cs.length:=by rw [erLF_eq,V.erL_eq,List.length_map]
theorem stepF0_some {VP:VProg} {C:CF} (hC:CFok VP C) (ts:List V) {bl:List (List V)} {lv:List Nat} {gn ba de:Nat} {op:VOp} {fl:Fl} {k:V→St→Fl→Rs} {x} (h:stepF0 C (VArg.ev ts) bl lv gn ba de op fl k=some x) :
  ∃ r st' fl',fl.ob ⊆ fl'.ob∧(OKs fl'.ob→vStep (CV VP) ⟨ts,bl,lv,gn,ba,de⟩ op=some (r,{ st' with tmps:=ts }))∧k r st' fl'=some x:=by
 have pure:∀ {op},pureF op bl (VArg.ev ts) (fun r=>k r ⟨[],bl,lv,gn,ba,de⟩ fl)=some x→vStep (CV VP) ⟨ts,bl,lv,gn,ba,de⟩ op=(vPure (fun id=>bl[id]?) (VArg.ev ts) op).map (·,⟨ts,bl,lv,gn,ba,de⟩) →
   ∃ r st' fl',fl.ob ⊆ fl'.ob∧(OKs fl'.ob→vStep (CV VP) ⟨ts,bl,lv,gn,ba,de⟩ op=some (r,{ st' with tmps:=ts }))∧k r st' fl'=some x:=by
  intro op hp hs
  obtain ⟨r,h1,h2⟩:=pureF_some hp
  exact ⟨r,_,fl,fun _ h=>h,fun _=>vPure_step h1 hs,h2⟩
 have num:∀ {op},pureF op bl (VArg.ev ts) (fun r=>numF r fl fun r fl'=>k r ⟨[],bl,lv,gn,ba,de⟩ fl')=some x→vStep (CV VP) ⟨ts,bl,lv,gn,ba,de⟩ op=(vPure (fun id=>bl[id]?) (VArg.ev ts) op).map (·,⟨ts,bl,lv,gn,ba,de⟩) →
   ∃ r st' fl',fl.ob ⊆ fl'.ob∧(OKs fl'.ob→vStep (CV VP) ⟨ts,bl,lv,gn,ba,de⟩ op=some (r,{ st' with tmps:=ts }))∧k r st' fl'=some x:=by
  intro op hp hs
  obtain ⟨r,h1,h2⟩:=pureF_some hp
  obtain ⟨r',f',h3,h5,h4⟩:=numF_some h2
  exact ⟨r',_,f',h3,fun hok=>by rw [← h5 hok];exact vPure_step h1 hs,h4⟩
 cases op with
 |call f args=>
  simp only [stepF0,evsF_eq] at h
  split at h
  ·rename_i hlt
   obtain ⟨r,st',fl',h1,h2,h3⟩:=callF_some hC ts h
   refine ⟨r,st',fl',h1,fun hok=>?_,h3⟩
   simp only [vStep]
   rw [if_pos (show f<1000000 from Nat.le_of_ble_eq_true hlt)]
   exact h2 hok
  ·cases h
 |inl f args=>
  simp only [stepF0,evsF_eq] at h
  exact inlF_some hC ts h
 |callv y args=>
  simp only [stepF0] at h
  split at h
  ·rename_i f caps hy
   rw [evsF_eq,appF_eq] at h
   split at h
   ·rename_i hlt
    obtain ⟨r,st',fl',h1,h2,h3⟩:=callF_some hC ts h
    exact ⟨r,st',fl',h1,fun hok=>by simp only [vStep,hy];rw [if_pos (show f<1000000 from Nat.le_of_ble_eq_true hlt)];exact h2 hok,h3⟩
   ·cases h
  ·cases h
 |box cells=>
  simp only [stepF0,natF_eq,appF_eq,lenK_eq] at h
  exact ⟨_,_,fl,fun _ h=>h,fun _=>rfl,h⟩
 |boxv n y=>
  simp only [stepF0,natF_eq,appF_eq,lenK_eq] at h
  obtain ⟨cs,h1,h2,h3,h4⟩:=cellsF_some h
  exact ⟨_,_,fl,fun _ h=>h,fun _=>by simp only [vStep,h1];rw [if_pos ⟨h2,h3⟩],h4⟩
 |store a y n=>
  simp only [stepF0] at h
  split at h
  ·rename_i id off ha
   obtain ⟨cs,h1,h2,h3,h4⟩:=cellsF_some h
   obtain ⟨blk,h5,h6⟩:=nthF_some h4
   split at h6
   ·cases h6
   ·rename_i m
    split at h6
    ·rename_i hb
     have hb':¬id<ba:=by have:=Nat.le_of_ble_eq_true hb;omega
     obtain ⟨h7,h8⟩:=splF_some h6
     rw [setF_eq] at h8
     refine ⟨_,_,fl,fun _ h=>h,fun _=>?_,h8⟩
     simp only [vStep,ha,vStore,h1,h5]
     rw [if_pos ⟨h2,by omega,by omega,h3⟩]
     simp only [if_neg hb',Option.map_some,St.setB,h2]
    ·rename_i hb
     have hb':id<ba:=by
      have:¬ba≤id:=fun h=>by rw [Nat.ble_eq_true_of_le h] at hb;cases hb
      omega
     obtain ⟨h7,h8⟩:=splF_some h6
     rw [fL_eq,setF_eq] at h8
     rw [erLF_len] at h7 h8
     refine ⟨_,_,fl,fun _ h=>h,fun _=>?_,h8⟩
     simp only [vStep,ha,vStore,h1,h5]
     rw [if_pos ⟨h2,by omega,by omega,h3⟩]
     simp only [if_pos hb',Option.map_some,St.setB,h2,erLF_eq]
  ·cases h
 |app sz y z m=>
  cases m with
  |false=>
   simp only [stepF0] at h
   split at h
   ·rename_i ms hms
    split at h
    ·rename_i es live hd
     obtain ⟨t,f',g1,g2,h⟩:=dec_some h
     split at h
     ·split at h
      ·rename_i hal
       rw [spF_eq,natF_eq] at h
       have hal':ms.all (fun r=>r.length==sz)=true:=by
        rw [allK_eq,List.all_eq_true] at hal
        rw [List.all_eq_true]
        intro r hr
        simpa using lenEq_true (hal r hr)
       refine ⟨_,_,f',g1,fun hok=>?_,h⟩
       have hb':=Nat.le_of_ble_eq_true (g2 hok)
       rw [lenK_eq,lenK_eq] at hb'
       have hd':vAppDst ⟨ts,bl,lv,gn,ba,de⟩ sz (VArg.ev ts y)=some (es,live):=by rw [← hd];cases (VArg.ev ts y)<;>rfl
       simp only [vStep,hms,vApp,hd']
       rw [if_pos ⟨hb',hal'⟩]
       rfl
      ·cases h
     ·cases h
    ·rename_i hd
     split at h
     ·rename_i r h0
      rw [fVs_eq] at h
      refine ⟨_,_,fl,fun _ h=>h,fun _=>?_,h⟩
      have hd':vAppDst ⟨ts,bl,lv,gn,ba,de⟩ sz (VArg.ev ts y)=none:=by rw [← hd];cases (VArg.ev ts y)<;>rfl
      simp only [vStep,hms,vApp,hd',h0]
     ·cases h
   ·cases h
  |true=>
   simp only [stepF0] at h
   split at h
   ·rename_i ms hms
    split at h
    ·rename_i r a b c d e f hs
     rw [fVs_eq,sp2F_eq,spF_eq,natF_eq] at h
     exact ⟨_,_,fl,fun _ h=>h,fun _=>by simp only [vStep,hms];exact vAppM_ts hs,h⟩
    ·cases h
   ·cases h
 |buildSl len sz zero parts m=>
  cases m with
  |false=>
   simp only [stepF0] at h
   split at h
   ·rename_i r hs
    rw [fVs_eq] at h
    have hs':vBuildSl ts len sz zero parts=some r:=by
     rw [← hs]
     unfold vBuildSl
     rw [parts_ev]
    exact ⟨r,_,fl,fun _ h=>h,fun _=>by simp only [vStep,hs'];rfl,h⟩
   ·cases h
  |true=>
   simp only [stepF0] at h
   split at h
   ·rename_i r a b c d e f hs
    rw [fVs_eq,sp2F_eq,spF_eq,natF_eq] at h
    exact ⟨_,_,fl,fun _ h=>h,fun _=>by simp only [vStep];exact vBuildSlM_ts hs (parts_ev parts),h⟩
   ·cases h
 |frz y ld=>
  simp only [stepF0] at h
  split at h
  ·rename_i v hv
   rw [fV_eq,frzF_eq,sp2F_eq] at h
   exact ⟨_,_,fl,fun _ h=>h,fun _=>by simp only [vStep,hv],h⟩
  ·cases h
 |pick c a b=>
  simp only [stepF0] at h
  split at h
  ·rename_i t ht
   obtain ⟨t',f',h1,h2,h3⟩:=dec_some h
   cases t' with
   |true=>
    simp only [fV_eq] at h3
    exact ⟨_,_,f',h1,fun hok=>by simp only [vStep,vPure,ht,h2 hok];rfl,h3⟩
   |false=>
    simp only [fV_eq] at h3
    exact ⟨_,_,f',h1,fun hok=>by simp only [vStep,vPure,ht,h2 hok];rfl,h3⟩
  ·cases h
 |bin op a b=>exact num h rfl
 |un op a=>exact num h rfl
 |convI kd a=>exact num h rfl
 |mkSl zero len cap m=>
  simp only [stepF0] at h
  split at h
  ·rename_i r hr
   rw [fVs_eq] at h
   exact ⟨r,_,fl,fun _ h=>h,fun _=>by simp only [vStep,hr];rfl,h⟩
  ·cases h
 |sBytes y=>
  simp only [stepF0] at h
  split at h
  ·rename_i s hs
   split at h
   ·rename_i hb
    rw [fVs_eq] at h
    exact ⟨_,_,fl,fun _ h=>h,fun _=>by simp only [vStep,hs];rw [if_pos (Nat.le_of_ble_eq_true hb)],h⟩
   ·cases h
  ·cases h
 |_=>exact pure h rfl
theorem stepF_some {VP:VProg} {C:CF} (hC:CFok VP C) (ts:List V) {bl:List (List V)} {lv:List Nat} {gn ba de:Nat} {op:VOp} {fl:Fl} {k:V→St→Fl→Rs} {x} (h:stepF op C (VArg.ev ts) bl lv gn ba de fl k=some x) :
  ∃ r st' fl',fl.ob ⊆ fl'.ob∧(OKs fl'.ob→vStep (CV VP) ⟨ts,bl,lv,gn,ba,de⟩ op=some (r,{ st' with tmps:=ts }))∧k r st' fl'=some x:=by
 rw [stepF_eq] at h
 exact stepF0_some hC ts h
end Go.VM
namespace Go.VM
inductive TS where
 |lf
 |nd (v:V) (l r:TS)
 deriving Inhabited
noncomputable def getT (t:TS) (n:Nat):V:=
 TS.rec (motive:=fun _=>Nat→V) (fun _=>.any) (fun v _ _ il ir n=>Nat.rec (motive:=fun _=>V) v (fun m _=>match Nat.beq (Nat.mod m 2) 0 with
  |true=>il (Nat.div m 2)
  |false=>ir (Nat.div m 2)) n) t n
theorem getT_lf (n:Nat):getT .lf n=.any:=rfl
theorem getT_0 (v:V) (l r:TS):getT (.nd v l r) 0=v:=rfl
theorem getT_s (v:V) (l r:TS) (m:Nat):getT (.nd v l r) (m+1)=if m%2=0 then getT l (m / 2) else getT r (m / 2):=by
 show (match Nat.beq (Nat.mod m 2) 0 with|true=>getT l (Nat.div m 2)|false=>getT r (Nat.div m 2))=_
 split
 ·rename_i h
  have h':m%2=0:=Nat.eq_of_beq_eq_true h
  rw [if_pos h'];rfl
 ·rename_i h
  have h':¬m%2=0:=Nat.ne_of_beq_eq_false h
  rw [if_neg h'];rfl
noncomputable def setT (f:Nat) (t:TS) (n:Nat) (v:V) (k:TS→Rs):Rs:=
 Nat.rec (motive:=fun _=>TS→Nat→(TS→Rs)→Rs) (fun _ _ _=>none) (fun _ ih t n k=>match t with
  |.lf=>Nat.rec (motive:=fun _=>Rs) (k (.nd v .lf .lf)) (fun m _=>match Nat.beq (Nat.mod m 2) 0 with
   |true=>ih .lf (Nat.div m 2) fun l=>k (.nd .any l .lf)
   |false=>ih .lf (Nat.div m 2) fun r=>k (.nd .any .lf r)) n
  |.nd a l r=>Nat.rec (motive:=fun _=>Rs) (k (.nd v l r)) (fun m _=>match Nat.beq (Nat.mod m 2) 0 with
   |true=>ih l (Nat.div m 2) fun l'=>k (.nd a l' r)
   |false=>ih r (Nat.div m 2) fun r'=>k (.nd a l r')) n) f t n k
theorem setT_lf {f m:Nat} {v:V} {k:TS→Rs}:setT (f+1) .lf (m+1) v k=match Nat.beq (Nat.mod m 2) 0 with
 |true=>setT f .lf (Nat.div m 2) v fun l=>k (.nd .any l .lf)
 |false=>setT f .lf (Nat.div m 2) v fun r=>k (.nd .any .lf r):=rfl
theorem setT_nd {f m:Nat} {a v:V} {l r:TS} {k:TS→Rs}:setT (f+1) (.nd a l r) (m+1) v k=match Nat.beq (Nat.mod m 2) 0 with
 |true=>setT f l (Nat.div m 2) v fun l'=>k (.nd a l' r)
 |false=>setT f r (Nat.div m 2) v fun r'=>k (.nd a l r'):=rfl
theorem setT_key {v a:V} {l r:TS} {m:Nat} {p:Bool} (hp:p=Nat.beq (Nat.mod m 2) 0) {t':TS} (h1:∀ i,getT t' i=if i=m / 2 then v else getT (if p=true then l else r) i) :
  ∀ i,getT (if p=true then .nd a t' r else .nd a l t') i=if i=m+1 then v else getT (.nd a l r) i:=by
 intro i
 have hm:p=true↔m%2=0:=by
  rw [hp]
  exact ⟨fun h=>Nat.eq_of_beq_eq_true h,fun h=>by show Nat.beq (m%2) 0=true;rw [h];rfl⟩
 by_cases hpt:p=true
 ·rw [if_pos hpt] at h1 ⊢
  have hm0:=hm.1 hpt
  cases i with
  |zero=>rw [getT_0,getT_0,if_neg (by omega)]
  |succ i=>
   rw [getT_s,getT_s,h1]
   by_cases hi:i%2=0
   ·rw [if_pos hi,if_pos hi]
    by_cases e:i=m
    ·subst e;rw [if_pos rfl,if_pos rfl]
    ·rw [if_neg (by omega),if_neg (by omega)]
   ·rw [if_neg hi,if_neg hi,if_neg (by omega)]
 ·rw [if_neg hpt] at h1 ⊢
  have hm0:¬m%2=0:=fun h=>hpt (hm.2 h)
  cases i with
  |zero=>rw [getT_0,getT_0,if_neg (by omega)]
  |succ i=>
   rw [getT_s,getT_s,h1]
   by_cases hi:i%2=0
   ·rw [if_pos hi,if_pos hi,if_neg (by omega)]
   ·rw [if_neg hi,if_neg hi]
    by_cases e:i=m
    ·subst e;rw [if_pos rfl,if_pos rfl]
    ·rw [if_neg (by omega),if_neg (by omega)]
theorem getT_any (i:Nat):getT (.nd .any .lf .lf) i=getT .lf i:=by
 cases i with
 |zero=>rfl
 |succ i=>rw [getT_s,getT_lf,getT_lf];split<;>rfl
theorem setT_some:∀ {f:Nat} {t:TS} {n:Nat} {v:V} {k:TS→Rs} {x:Ret×List (Bool×Bool)},setT f t n v k=some x→∃ t',(∀ i,getT t' i=if i=n then v else getT t i)∧k t'=some x
 |0,_,_,_,_,_,h=>by cases h
 |f+1,.lf,0,v,k,x,h=>⟨.nd v .lf .lf,fun i=>by
   cases i with
   |zero=>rfl
   |succ i=>rw [if_neg (by omega),getT_s,getT_lf,getT_lf];split<;>rfl,h⟩
 |f+1,.nd a l r,0,v,k,x,h=>⟨.nd v l r,fun i=>by
   cases i with
   |zero=>rfl
   |succ i=>rw [if_neg (by omega),getT_s,getT_s],h⟩
 |f+1,.lf,m+1,v,k,x,h=>by
  rw [setT_lf] at h
  split at h
  ·rename_i hp
   obtain ⟨t',h1,h2⟩:=setT_some h
   have:=setT_key (v:=v) (a:=.any) (l:=.lf) (r:=.lf) (p:=true) hp.symm (t':=t') h1
   exact ⟨_,fun i=>by rw [← getT_any i];exact this i,h2⟩
  ·rename_i hp
   obtain ⟨t',h1,h2⟩:=setT_some h
   have:=setT_key (v:=v) (a:=.any) (l:=.lf) (r:=.lf) (p:=false) hp.symm (t':=t') h1
   exact ⟨_,fun i=>by rw [← getT_any i];exact this i,h2⟩
 |f+1,.nd a l r,m+1,v,k,x,h=>by
  rw [setT_nd] at h
  split at h
  ·rename_i hp
   obtain ⟨t',h1,h2⟩:=setT_some h
   exact ⟨_,setT_key (v:=v) (a:=a) (l:=l) (r:=r) (p:=true) hp.symm (t':=t') h1,h2⟩
  ·rename_i hp
   obtain ⟨t',h1,h2⟩:=setT_some h
   exact ⟨_,setT_key (v:=v) (a:=a) (l:=l) (r:=r) (p:=false) hp.symm (t':=t') h1,h2⟩
structure TrOf (N:Nat) (t:TS) (ts:List V):Prop where
 len:ts.length=N
 get:∀ i,getT t i=ts.getD i .any
noncomputable def evT (t:TS) (a:VArg):V:=match a with
 |.t n=>getT t n
 |.c v=>v
theorem TrOf.ev {N:Nat} {t:TS} {ts:List V} (h:TrOf N t ts):evT t=VArg.ev ts:=by
 funext a
 cases a with
 |t n=>exact h.get n
 |c v=>rfl
noncomputable def putT (N:Nat) (t:TS) (d:Option Nat) (v:V) (k:TS→Rs):Rs:=match d with
 |none=>k t
 |some d=>match Nat.ble (Nat.succ d) N with
  |true=>setT 12 t d v k
  |false=>none
theorem putT_some {N:Nat} {t:TS} {ts:List V} (hR:TrOf N t ts) {d:Option Nat} {v:V} {k:TS→Rs} {x} (h:putT N t d v k=some x) :
  ∃ t' ts',TrOf N t' ts'∧(∀ st:St,st.tmps=ts→st.put d v={ st with tmps:=ts' })∧k t'=some x:=by
 cases d with
 |none=>exact ⟨t,ts,hR,fun st hs=>by obtain ⟨a,b,c,d,e,f⟩:=st;simp only at hs;subst hs;rfl,h⟩
 |some d=>
  simp only [putT] at h
  split at h
  ·rename_i hd
   have hd':d<N:=Nat.le_of_ble_eq_true hd
   obtain ⟨t',h1,h2⟩:=setT_some h
   refine ⟨t',ts.set d v,⟨by rw [List.length_set];exact hR.len,fun i=>?_⟩,fun st hs=>by subst hs;rfl,h2⟩
   rw [h1,hR.get,List.getD_eq_getElem?_getD,List.getD_eq_getElem?_getD,List.getElem?_set]
   by_cases e:i=d
   ·subst e;rw [if_pos rfl,if_pos rfl,if_pos (by rw [hR.len];exact hd')];rfl
   ·rw [if_neg e,if_neg (fun h=>e h.symm)]
  ·cases h
noncomputable def wantT (t:TS) (g:Option (Nat×Bool)) (fl:Fl) (k:Bool→Fl→Rs):Rs:=match g with
 |none=>k true fl
 |some (n,want)=>match (getT t n).gd with
  |some (some b)=>dec b fl fun b' fl'=>match b',want with
   |true,true=>k true fl'
   |true,false=>k false fl'
   |false,true=>k false fl'
   |false,false=>k true fl'
  |some none=>k false fl
  |none=>none
theorem wantT_some {N:Nat} {t:TS} {ts:List V} (hR:TrOf N t ts) {g:Option (Nat×Bool)} {fl:Fl} {k:Bool→Fl→Rs} {x} (h:wantT t g fl k=some x):∃ w fl',fl.ob ⊆ fl'.ob∧(OKs fl'.ob→vWanted ts g=some w)∧k w fl'=some x:=by
 cases g with
 |none=>exact ⟨true,fl,fun _ h=>h,fun _=>rfl,h⟩
 |some p=>
  obtain ⟨t,want⟩:=p
  simp only [wantT] at h
  rw [hR.get] at h
  split at h
  ·rename_i b hb
   obtain ⟨b',f',h1,h2,h3⟩:=dec_some h
   cases b'<;>cases want <;>
   exact ⟨_,f',h1,fun hok=>by simp only [vWanted,hb,gdW,h2 hok];rfl,h3⟩
  ·rename_i hb
   exact ⟨false,fl,fun _ h=>h,fun _=>by simp only [vWanted,hb,gdW],h⟩
  ·cases h
noncomputable def oneT (C:CF) (N:Nat) (o:VOper) (t:TS) (s:St) (fl:Fl) (k:TS→St→Fl→Rs):Rs:=wantT t o.guard fl fun w fl'=>match w with
 |true=>match s with
  |⟨_,bl,lv,gn,ba,de⟩=>stepF o.op C (evT t) bl lv gn ba de fl' fun r s' fl''=>putT N t o.dst r fun t'=>k t' s' fl''
 |false=>putT N t o.dst (.tup []) fun t'=>k t' s fl'
theorem oneT_some {VP:VProg} {C:CF} (hC:CFok VP C) {N:Nat} {o:VOper} {t:TS} {ts:List V} (hR:TrOf N t ts) {s:St} {fl:Fl} {k:TS→St→Fl→Rs} {x} (h:oneT C N o t s fl k=some x) :
  ∃ ts' t' s' fl',TrOf N t' ts'∧fl.ob ⊆ fl'.ob∧(OKs fl'.ob→(vWanted ts o.guard=some true∧∃ r st1,vStep (CV VP) { s with tmps:=ts } o.op=some (r,st1)∧st1.put o.dst r={ s' with tmps:=ts' }∧st1.blocks=s'.blocks) ∨
   (vWanted ts o.guard=some false∧({ s with tmps:=ts }:St).put o.dst (.tup [])={ s' with tmps:=ts' }∧s'=s))∧k t' s' fl'=some x:=by
 obtain ⟨w,f1,h1,h2,h3⟩:=wantT_some hR h
 cases w with
 |true=>
  obtain ⟨us,bl,lv,gn,ba,de⟩:=s
  simp only [hR.ev] at h3
  obtain ⟨r,s',f2,h4,h5,h6⟩:=stepF_some hC ts h3
  obtain ⟨t',ts',h7,h8,h9⟩:=putT_some hR h6
  exact ⟨ts',t',s',f2,h7,fun _ h=>h4 (h1 h),fun hok=>.inl ⟨h2 (hok.sub h4),r,_,h5 hok,by rw [h8 _ rfl],rfl⟩,h9⟩
 |false=>
  obtain ⟨t',ts',h7,h8,h9⟩:=putT_some hR h3
  exact ⟨ts',t',s,f1,h7,h1,fun hok=>.inr ⟨h2 hok,by rw [h8 _ rfl],rfl⟩,h9⟩
noncomputable def opsF (C:CF) (N:Nat) (os:List VOper) (t:TS) (s:St) (fl:Fl) (k:TS→St→Fl→Rs):Rs:=
 List.rec (motive:=fun _=>TS→St→Fl→Rs) (fun t s fl=>k t s fl) (fun o _ ih t s fl=>oneT C N o t s fl ih) os t s fl
theorem opsF_some {VP:VProg} {C:CF} (hC:CFok VP C) {N:Nat} {os:List VOper} {t:TS} {ts:List V} (hR:TrOf N t ts) {s:St} {fl:Fl} {k:TS→St→Fl→Rs} {x} (h:opsF C N os t s fl k=some x) :
  ∃ ts' t' s' fl',TrOf N t' ts'∧fl.ob ⊆ fl'.ob∧(OKs fl'.ob→vOps (CV VP) os { s with tmps:=ts }=some { s' with tmps:=ts' })∧k t' s' fl'=some x:=by
 unfold opsF at h
 induction os generalizing t ts s fl with
 |nil=>exact ⟨ts,t,s,fl,hR,fun _ h=>h,fun _=>rfl,h⟩
 |cons o os ih=>
  obtain ⟨ts1,t1,s1,f1,g1,g2,g3,g4⟩:=oneT_some hC hR h
  obtain ⟨ts2,t2,s2,f2,k1,k2,k3,k4⟩:=ih g1 g4
  refine ⟨ts2,t2,s2,f2,k1,fun _ h=>k2 (g2 h),fun hok=>?_,k4⟩
  rcases g3 (hok.sub k2) with ⟨hw,r,st1,hs,hp,_⟩|⟨hw,hp,_⟩
  ·simp only [vOps,hw,hs,hp,k3 hok]
  ·simp only [vOps,hw,hp,k3 hok]
end Go.VM
namespace Go.VM
noncomputable def ltbF0 (v:V):Bool:=match pl2 v with
 |true=>true
 |false=>V.ltb 0 v
theorem ltbF0_eq (v:V):ltbF0 v=V.ltb 0 v:=by
 unfold ltbF0
 split
 ·rename_i h;rw [pl2_ltb h]
 ·rfl
noncomputable def chg (ρ:VArg→V) (op:VOp):Option (Option Nat):=match op with
 |.call _ args=>match allK (fun a=>ltbF0 (erF (ρ a))) args with
  |true=>some none
  |false=>none
 |.app _ _ _ false=>some none
 |.buildSl _ _ _ _ false=>some none
 |.sBytes _=>some none
 |.store a _ _=>match ρ a with
  |.ptr id _=>some (some id)
  |_=>none
 |.box _=>some none
 |.boxv _ _=>some none
 |_=>none
theorem chg_ok {C:Orc} {ts:List V} {bl:List (List V)} {lv:List Nat} {gn ba de:Nat} {op:VOp} {c:Option Nat} {r:V} {st':St} (hc:chg (VArg.ev ts) op=some c) (h:vStep C ⟨ts,bl,lv,gn,ba,de⟩ op=some (r,st'))
  {id:Nat} (hid:id<bl.length) (hne:c≠some id):st'.blocks[id]?=bl[id]?:=by
 cases op with
 |call f args=>
  simp only [chg] at hc
  split at hc
  ·rename_i hp
   rw [allK_eq,List.all_eq_true] at hp
   have ha:((args.map (VArg.ev ts)).map V.er).all (V.ltb 0)=true:=by
    rw [List.all_eq_true]
    intro v hv
    simp only [List.mem_map] at hv
    obtain ⟨w,⟨a,ha,rfl⟩,rfl⟩:=hv
    have:=hp a ha
    rw [ltbF0_eq,erF_eq] at this
    exact this
   simp only [vStep] at h
   split at h
   case isFalse=>cases h
   simp only [vCall] at h
   rw [if_pos ha] at h
   split at h
   ·simp only [Option.some.injEq,Prod.mk.injEq] at h
    obtain ⟨_,rfl⟩:=h
    exact List.getElem?_append_left hid
   ·cases h
  ·cases hc
 |store a y n=>
  simp only [chg] at hc
  split at hc
  ·rename_i id' off ha
   simp only [Option.some.injEq] at hc
   subst hc
   simp only [vStep,ha] at h
   cases hs:vStore ⟨ts,bl,lv,gn,ba,de⟩ (.ptr id' off) (VArg.ev ts y) n with
   |none=>rw [hs] at h;cases h
   |some st1=>
    rw [hs] at h
    simp only [Option.map_some,Option.some.injEq,Prod.mk.injEq] at h
    obtain ⟨_,rfl⟩:=h
    unfold vStore at hs
    split at hs
    ·rename_i i2 o2 cs h1 h2
     cases h1
     split at hs
     ·split at hs
      ·simp only [Option.some.injEq] at hs
       subst hs
       exact List.getElem?_set_ne (fun e=>hne (by rw [e]))
      ·cases hs
     ·cases hs
    ·cases hs
  ·cases hc
 |box cells=>
  simp only [vStep,Option.some.injEq,Prod.mk.injEq] at h
  obtain ⟨_,rfl⟩:=h
  exact List.getElem?_append_left hid
 |boxv n y=>
  simp only [vStep] at h
  split at h
  ·split at h
   ·simp only [Option.some.injEq,Prod.mk.injEq] at h
    obtain ⟨_,rfl⟩:=h
    exact List.getElem?_append_left hid
   ·cases h
  ·cases h
 |app sz y z m=>
  cases m with
  |true=>cases hc
  |false=>
   simp only [vStep] at h
   split at h
   ·rename_i ms hms
    unfold vApp at h
    split at h
    ·split at h
     ·simp only [Option.some.injEq,Prod.mk.injEq] at h
      obtain ⟨_,rfl⟩:=h;rfl
     ·cases h
    ·split at h
     ·simp only [Option.some.injEq,Prod.mk.injEq] at h
      obtain ⟨_,rfl⟩:=h;rfl
     ·cases h
   ·cases h
 |buildSl a b c d m=>
  cases m with
  |true=>cases hc
  |false=>
   simp only [vStep] at h
   cases hb:vBuildSl ts a b c d with
   |none=>rw [hb] at h;cases h
   |some r'=>
    rw [hb] at h
    simp only [Option.map_some,Option.some.injEq,Prod.mk.injEq] at h
    obtain ⟨_,rfl⟩:=h;rfl
 |sBytes y=>
  simp only [vStep] at h
  split at h
  ·split at h
   ·simp only [Option.some.injEq,Prod.mk.injEq] at h
    obtain ⟨_,rfl⟩:=h;rfl
   ·cases h
  ·cases h
 |_=>cases hc
noncomputable def chgB (ba:Nat) (bl:List (List V)) (ρ:VArg→V) (op:VOp):Option (Option Nat):=match chg ρ op with
 |some c=>some c
 |none=>match op with
  |.call _ args=>match vPreF ba bl ((args.map ρ).map V.er) with
   |some pb=>match lenEq pb 1 with
    |true=>some (some 0)
    |false=>none
   |none=>none
  |_=>none
theorem chgB_ok {C:Orc} {ts:List V} {bl:List (List V)} {lv:List Nat} {gn ba de:Nat} {op:VOp} {c:Option Nat} {r:V} {st':St} (hc:chgB ba bl (VArg.ev ts) op=some c) (h:vStep C ⟨ts,bl,lv,gn,ba,de⟩ op=some (r,st'))
  {id:Nat} (hid:id<bl.length) (hne:c≠some id):st'.blocks[id]?=bl[id]?:=by
 unfold chgB at hc
 split at hc
 ·rename_i c' h1
  simp only [Option.some.injEq] at hc
  subst hc
  exact chg_ok h1 h hid hne
 ·split at hc
  ·rename_i f args _
   split at hc
   ·rename_i pb hpb
    split at hc
    ·rename_i hl
     have hl:=lenEq_true hl
     simp only [Option.some.injEq] at hc
     subst hc
     rw [vPreF_eq ba bl _ ts lv gn de] at hpb
     simp only [vStep] at h
     split at h
     case isFalse=>cases h
     simp only [vCall] at h
     split at h
     ·split at h
      ·simp only [Option.some.injEq,Prod.mk.injEq] at h
       obtain ⟨_,rfl⟩:=h
       exact List.getElem?_append_left hid
      ·cases h
     ·rw [hpb] at h
      simp only at h
      split at h
      ·split at h
       ·rename_i ret _ hk
        simp only [Option.some.injEq,Prod.mk.injEq] at h
        obtain ⟨_,rfl⟩:=h
        have h0:id≠0:=fun e=>hne (by rw [e])
        simp only
        rw [List.getElem?_append_right (by omega),List.getElem?_drop]
        congr 1
        omega
       ·split at h
        ·rename_i ret _ _ hk
         simp only [Option.some.injEq,Prod.mk.injEq] at h
         obtain ⟨_,rfl⟩:=h
         have h0:id≠0:=fun e=>hne (by rw [e])
         simp only
         rw [List.getElem?_append_right (by omega),List.getElem?_drop]
         congr 1
         omega
        ·cases h
      ·cases h
    ·cases hc
   ·cases hc
  ·cases hc
structure Tk where
 t:TS
 bl:List (List V)
 c:Option (Option Nat)
 deriving Inhabited
noncomputable def trF (C:CF) (N:Nat) (os:List VOper) (t:TS) (s:St) (fl:Fl) (k:List Tk→TS→St→Fl→Rs):Rs:=
 List.rec (motive:=fun _=>TS→St→Fl→(List Tk→TS→St→Fl→Rs)→Rs) (fun t s fl k=>k [⟨t,s.blocks,none⟩] t s fl) (fun o _ ih t s fl k=>
  oneT C N o t s fl fun t' s' fl'=>ih t' s' fl' fun tks=>k (⟨t,s.blocks,chgB s.base s.blocks (evT t) o.op⟩::tks)) os t s fl k
inductive TkOf (N:Nat):List Tk→List St→Prop
 |nil:TkOf N [] []
 |cons {tk:Tk} {st:St} {tks:List Tk} {sts:List St} (h1:TrOf N tk.t st.tmps) (h2:tk.bl=st.blocks) (h3:∀ c,tk.c=some c→∀ st',sts.head?=some st'→∀ id,id<st.blocks.length→c≠some id→st'.blocks[id]?=st.blocks[id]?) (h:TkOf N tks sts):TkOf N (tk::tks) (st::sts)
theorem vTr_head {C:Orc}:∀ {os:List VOper} {st:St} {sts:List St},vTr C os st=some sts→sts.head?=some st
 |[],st,sts,h=>by simp only [vTr,Option.some.injEq] at h;subst h;rfl
 |o::os,st,sts,h=>by
  simp only [vTr] at h
  repeat' split at h
  all_goals first|(cases h;done)|(simp only [Option.some.injEq] at h;subst h;rfl)
theorem trF_some {VP:VProg} {C:CF} (hC:CFok VP C) {N:Nat} {os:List VOper} {t:TS} {ts:List V} (hR:TrOf N t ts) {s:St} {fl:Fl} {k:List Tk→TS→St→Fl→Rs} {x} (h:trF C N os t s fl k=some x) :
  ∃ tks ts' t' s' fl',TrOf N t' ts'∧fl.ob ⊆ fl'.ob∧(OKs fl'.ob→∃ sts,vTr (CV VP) os { s with tmps:=ts }=some sts∧sts.getLast?=some { s' with tmps:=ts' }∧TkOf N tks sts)∧k tks t' s' fl'=some x:=by
 unfold trF at h
 induction os generalizing t ts s fl k with
 |nil=>exact ⟨_,ts,t,s,fl,hR,fun _ h=>h,fun _=>⟨_,rfl,rfl,.cons hR rfl (fun c h=>by cases h) .nil⟩,h⟩
 |cons o os ih=>
  obtain ⟨ts1,t1,s1,f1,g1,g2,g3,g4⟩:=oneT_some hC hR h
  obtain ⟨tks,ts2,t2,s2,f2,k1,k2,k3,k4⟩:=ih g1 g4
  refine ⟨_,ts2,t2,s2,f2,k1,fun _ h=>k2 (g2 h),fun hok=>?_,k4⟩
  obtain ⟨sts,e1,e2,e3⟩:=k3 hok
  have hl:∀ {a:St},(a::sts).getLast?=some { s2 with tmps:=ts2 }:=by
   intro a
   cases sts with
   |nil=>cases e2
   |cons c l=>rw [List.getLast?_cons_cons];exact e2
  have hh:=vTr_head e1
  rcases g3 (hok.sub k2) with ⟨hw,r,st1,hs,hp,hb⟩|⟨hw,hp,hb⟩
  ·refine ⟨{ s with tmps:=ts }::sts,by simp only [vTr,hw,hs,hp,e1],hl,.cons hR rfl ?_ e3⟩
   intro c hc st' hst' id hid hne
   rw [hh] at hst'
   simp only [Option.some.injEq] at hst'
   subst hst'
   simp only [hR.ev] at hc
   obtain ⟨us,bl,lv,gn,ba,de⟩:=s
   have:=chgB_ok hc hs hid hne
   rw [hb] at this
   exact this
  ·refine ⟨{ s with tmps:=ts }::sts,by simp only [vTr,hw,hp,e1],hl,.cons hR rfl ?_ e3⟩
   intro c hc st' hst' id hid hne
   rw [hh] at hst'
   simp only [Option.some.injEq] at hst'
   subst hst'
   rw [hb]
noncomputable def blkT (t:TS) (op:VOp):Option Nat:=match op with
 |.load x _ _=>match evT t x with
  |.ptr id _=>some id
  |_=>none
 |_=>none
noncomputable def wntT (t:TS) (g:Option (Nat×Bool)):Option Bool:=match g with
 |none=>some true
 |some (n,want)=>gdW want (getT t n).gd
theorem TkOf.len {N:Nat}:∀ {tks:List Tk} {sts:List St},TkOf N tks sts→tks.length=sts.length
 |_,_,.nil=>rfl
 |_,_,.cons _ _ _ h=>by rw [List.length_cons,List.length_cons,h.len]
theorem TkOf.get {N:Nat}:∀ {tks:List Tk} {sts:List St},TkOf N tks sts→∀ e,e<sts.length→TrOf N (tks.getD e default).t (sts.getD e default).tmps∧(tks.getD e default).bl=(sts.getD e default).blocks ∧
  ∀ c,(tks.getD e default).c=some c→e+1<sts.length→∀ id,id<(sts.getD e default).blocks.length→c≠some id→(sts.getD (e+1) default).blocks[id]?=(sts.getD e default).blocks[id]?
 |_,_,.nil,e,he=>absurd he (Nat.not_lt_zero _)
 |_,_,.cons (tk:=tk) (st:=st) (tks:=tks) (sts:=sts) h1 h2 h3 h,0,_=>by
  refine ⟨h1,h2,fun c hc hl id hid hne=>?_⟩
  cases sts with
  |nil=>simp at hl
  |cons s2 sts=>exact h3 c hc s2 rfl id hid hne
 |_,_,.cons (tk:=tk) (st:=st) (tks:=tks) (sts:=sts) h1 h2 h3 h,e+1,he=>by
  have:=h.get e (by simpa using he)
  simp only [List.getD_cons_succ]
  refine ⟨this.1,this.2.1,fun c hc hl=>?_⟩
  exact this.2.2 c hc (by simpa using hl)
noncomputable def prB (p:Prop):Bool:=@decide p (Classical.propDecidable p)
theorem prB_of {p:Prop} (h:p):prB p=true:=@decide_eq_true p (Classical.propDecidable p) h
theorem of_prB {p:Prop} (h:prB p=true):p:=@of_decide_eq_true p (Classical.propDecidable p) h
noncomputable def askF (fl:Fl) (p:Prop) (k:Fl→Rs):Rs:=match fl with
 |⟨l,ob,vs⟩=>k ⟨l,(prB p,true)::ob,vs⟩
noncomputable def cmpO (a b:Option (List V)) (fl:Fl) (k:Fl→Rs):Rs:=match a,b with
 |some x,some y=>askF fl (x=y) k
 |none,none=>k fl
 |_,_=>none
theorem cmpO_some {a b:Option (List V)} {fl:Fl} {k:Fl→Rs} {x} (h:cmpO a b fl k=some x):∃ fl',fl.ob ⊆ fl'.ob∧(OKs fl'.ob→a=b)∧k fl'=some x:=by
 unfold cmpO at h
 split at h
 ·obtain ⟨l,ob,vs⟩:=fl
  exact ⟨_,fun m hm=>List.mem_cons_of_mem _ hm,fun hok=>by rw [of_prB (hok _ List.mem_cons_self)],h⟩
 ·exact ⟨fl,fun _ h=>h,fun _=>rfl,h⟩
 ·cases h
noncomputable def stayF (tks:List Tk) (e id:Nat) (fl:Fl) (k:Fl→Rs):Rs:=match (tks.getD e default).c with
 |some c=>match Nat.ble (Nat.succ id) (lenK (tks.getD e default).bl) with
  |true=>match c with
   |none=>k fl
   |some i=>match Nat.beq i id with
    |true=>cmpO (tks.getD e default).bl[id]? (tks.getD (e+1) default).bl[id]? fl k
    |false=>k fl
  |false=>cmpO (tks.getD e default).bl[id]? (tks.getD (e+1) default).bl[id]? fl k
 |none=>cmpO (tks.getD e default).bl[id]? (tks.getD (e+1) default).bl[id]? fl k
noncomputable def pairF (vops:List VOper) (tks:List Tk) (p e:Nat) (fl:Fl) (k:Fl→Rs):Rs:=match vops[p]? with
 |some x=>match blkT (tks.getD p default).t x.op with
  |some id=>stayF tks e id fl k
  |none=>k fl
 |none=>k fl
noncomputable def pairsF (vops:List VOper) (tks:List Tk):List (Nat×Nat)→Fl→(Fl→Rs)→Rs
 |[],fl,k=>k fl
 |p::ps,fl,k=>match Nat.ble (p.2+2) (lenK tks) with
  |true=>pairF vops tks p.1 p.2 fl fun fl'=>pairsF vops tks ps fl' k
  |false=>none
theorem stayF_some {tks:List Tk} {e id:Nat} {fl:Fl} {k:Fl→Rs} {x} (h:stayF tks e id fl k=some x):∃ fl',fl.ob ⊆ fl'.ob ∧
  (OKs fl'.ob→∀ {N:Nat} {sts:List St},TkOf N tks sts→e+1<sts.length→(sts.getD e default).blocks[id]?=(sts.getD (e+1) default).blocks[id]?)∧k fl'=some x:=by
 have fall:cmpO (tks.getD e default).bl[id]? (tks.getD (e+1) default).bl[id]? fl k=some x→∃ fl',fl.ob ⊆ fl'.ob ∧
  (OKs fl'.ob→∀ {N:Nat} {sts:List St},TkOf N tks sts→e+1<sts.length→(sts.getD e default).blocks[id]?=(sts.getD (e+1) default).blocks[id]?)∧k fl'=some x:=by
  intro h
  obtain ⟨f',h1,h2,h3⟩:=cmpO_some h
  refine ⟨f',h1,fun hok N sts hT hl=>?_,h3⟩
  rw [← (hT.get e (by omega)).2.1,← (hT.get (e+1) hl).2.1]
  exact h2 hok
 unfold stayF at h
 split at h
 ·rename_i c hc
  split at h
  ·rename_i hl
   have hl':=Nat.le_of_ble_eq_true hl
   rw [lenK_eq] at hl'
   split at h
   ·refine ⟨fl,fun _ h=>h,fun _ N sts hT hs=>?_,h⟩
    obtain ⟨_,e2,e3⟩:=hT.get e (by omega)
    exact (e3 _ hc hs id (by rw [← e2];omega) (by simp)).symm
   ·rename_i i
    split at h
    ·exact fall h
    ·rename_i hi
     refine ⟨fl,fun _ h=>h,fun _ N sts hT hs=>?_,h⟩
     obtain ⟨_,e2,e3⟩:=hT.get e (by omega)
     exact (e3 _ hc hs id (by rw [← e2];omega) (by intro h;cases h;exact absurd rfl (Nat.ne_of_beq_eq_false hi))).symm
  ·exact fall h
 ·exact fall h
theorem pairF_some {vops:List VOper} {tks:List Tk} {p e:Nat} {fl:Fl} {k:Fl→Rs} {x} (h:pairF vops tks p e fl k=some x):∃ fl',fl.ob ⊆ fl'.ob ∧
  (OKs fl'.ob→∀ {N:Nat} {sts:List St},TkOf N tks sts→vops.length≤sts.length→e+1<sts.length→pairOk vops sts p e)∧k fl'=some x:=by
 unfold pairF at h
 cases hx:vops[p]? with
 |none=>
  rw [hx] at h
  exact ⟨fl,fun _ h=>h,fun _ N sts _ _ _=>by unfold pairOk;rw [hx];trivial,h⟩
 |some y=>
  rw [hx] at h
  simp only at h
  have trans:∀ {N:Nat} {sts:List St},TkOf N tks sts→vops.length≤sts.length→wntT (tks.getD p default).t y.guard=vWanted (sts.getD p default).tmps y.guard∧blkT (tks.getD p default).t y.op=y.op.blk (sts.getD p default).tmps:=by
   intro N sts hT hn
   obtain ⟨g1,_,_⟩:=hT.get p (Nat.lt_of_lt_of_le (List.getElem?_eq_some_iff.1 hx).1 hn)
   constructor
   ·cases hg:y.guard with
    |none=>rfl
    |some q=>obtain ⟨n,w⟩:=q;simp only [wntT,vWanted,g1.get]
   ·cases y.op<;>first|rfl|(simp only [blkT,VOp.blk,g1.ev];done)|(simp only [blkT,VOp.blk,g1.ev];rfl)|(simp only [blkT,VOp.blk,g1.ev];split<;>simp_all)
  split at h
  ·rename_i id hid
   obtain ⟨f',h1,h2,h3⟩:=stayF_some h
   refine ⟨f',h1,fun hok N sts hT hn hl=>?_,h3⟩
   unfold pairOk
   rw [hx]
   simp only
   intro _
   rw [← (trans hT hn).2,hid]
   exact h2 hok hT hl
  ·rename_i hid
   refine ⟨fl,fun _ h=>h,fun _ N sts hT hn hl=>?_,h⟩
   unfold pairOk
   rw [hx]
   simp only
   intro _
   rw [← (trans hT hn).2,hid]
   trivial
theorem pairsF_some {vops:List VOper} {tks:List Tk}:∀ {l:List (Nat×Nat)} {fl:Fl} {k:Fl→Rs} {x:Ret×List (Bool×Bool)},pairsF vops tks l fl k=some x→∃ fl',fl.ob ⊆ fl'.ob ∧
  (OKs fl'.ob→∀ {N:Nat} {sts:List St},TkOf N tks sts→vops.length≤sts.length→allPairs vops sts l)∧k fl'=some x
 |[],fl,k,x,h=>⟨fl,fun _ h=>h,fun _ _ _ _ _=>trivial,h⟩
 |p::ps,fl,k,x,h=>by
  rw [pairsF] at h
  split at h
  case h_2=>cases h
  rename_i hle
  have hle':=Nat.le_of_ble_eq_true hle
  rw [lenK_eq] at hle'
  obtain ⟨f1,h1,h2,h3⟩:=pairF_some h
  obtain ⟨f2,h4,h5,h6⟩:=pairsF_some h3
  exact ⟨f2,fun _ h=>h4 (h1 h),fun hok N sts hT hn=>⟨h2 (hok.sub h4) hT hn (by rw [← hT.len];omega),h5 hok hT hn⟩,h6⟩
end Go.VM
namespace Go.VM
noncomputable def drawF (C:CF) (N:Nat) (os:List VOper) (chk:List (Nat×Nat)) (t:TS) (s:St) (fl:Fl) (k:TS→St→Fl→Rs):Rs:=match chk with
 |[]=>opsF C N os t s fl k
 |p::ps=>match Nat.ble (lenK os) 4000 with
  |true=>trF C N os t s fl fun tks t' s' fl'=>match Nat.ble (lenK os) (lenK tks) with
   |true=>pairsF os tks (p::ps) fl' fun fl''=>k t' s' fl''
   |false=>none
  |false=>none
theorem drawF_some {VP:VProg} {C:CF} (hC:CFok VP C) {N:Nat} {os:List VOper} {chk:List (Nat×Nat)} {t:TS} {ts:List V} (hR:TrOf N t ts) {s:St} {fl:Fl} {k:TS→St→Fl→Rs} {x} (h:drawF C N os chk t s fl k=some x) :
  ∃ ts' t' s' fl',TrOf N t' ts'∧fl.ob ⊆ fl'.ob∧(OKs fl'.ob→vDraw (CV VP) os chk { s with tmps:=ts }=some { s' with tmps:=ts' })∧k t' s' fl'=some x:=by
 cases chk with
 |nil=>
  obtain ⟨ts',t',s',fl',h0,h1,h2,h3⟩:=opsF_some hC hR h
  exact ⟨ts',t',s',fl',h0,h1,fun hok=>h2 hok,h3⟩
 |cons p ps=>
  simp only [drawF] at h
  split at h
  case h_2=>cases h
  obtain ⟨tks,ts',t',s',fl',h0,h1,h2,h3⟩:=trF_some hC hR h
  split at h3
  ·rename_i hl
   obtain ⟨f2,h4,h5,h6⟩:=pairsF_some h3
   refine ⟨ts',t',s',f2,h0,fun _ h=>h4 (h1 h),fun hok=>?_,h6⟩
   obtain ⟨sts,e1,e2,e3⟩:=h2 (hok.sub h4)
   have hl':=Nat.le_of_ble_eq_true hl
   rw [lenK_eq,lenK_eq,e3.len] at hl'
   simp only [vDraw,e1]
   rw [if_pos (h5 hok e3 hl'),e2]
  ·cases h3
noncomputable def fgT (t:TS) (keep:List Bool) (k:TS→List V→Rs):Rs:=
 List.rec (motive:=fun _=>Nat→TS→List V→Rs) (fun _ acc vs=>k acc vs) (fun b _ ih i acc vs=>match b with
  |true=>fV (getT t i) fun v=>setT 12 acc i v fun acc'=>natF (Nat.succ i) fun i'=>ih i' acc' (v::vs)
  |false=>natF (Nat.succ i) fun i'=>ih i' acc vs) keep 0 .lf []
theorem fgt_len:∀ (keep:List Bool) (ts:List V),(forget keep ts).length=ts.length
 |_,[]=>by cases ‹List Bool›<;>rfl
 |[],v::ts=>by simp only [forget,List.length_cons,fgt_len [] ts]
 |k::ks,v::ts=>by simp only [forget,List.length_cons,fgt_len ks ts]
theorem fgt_get:∀ (keep:List Bool) (ts:List V) (i:Nat),(forget keep ts).getD i .any=if keep.getD i false=true then ts.getD i .any else .any
 |keep,[],i=>by
  have:forget keep []=[]:=by cases keep<;>rfl
  rw [this]
  simp
 |[],v::ts,0=>by simp [forget]
 |[],v::ts,i+1=>by
  simp only [forget,List.getD_cons_succ,fgt_get [] ts i]
  simp
 |k::ks,v::ts,0=>by simp [forget]
 |k::ks,v::ts,i+1=>by
  simp only [forget,List.getD_cons_succ,fgt_get ks ts i]
theorem all_getD {p:V→Bool} (hp:p .any=true) (l:List V):l.all p=true↔∀ i,p (l.getD i .any)=true:=by
 rw [List.all_eq_true]
 constructor
 ·intro h i
  by_cases hi:i<l.length
  ·rw [List.getD_eq_getElem?_getD,List.getElem?_eq_getElem hi];exact h _ (List.getElem_mem hi)
  ·rw [List.getD_eq_getElem?_getD,List.getElem?_eq_none (by omega)];exact hp
 ·intro h v hv
  obtain ⟨i,hi,rfl⟩:=List.getElem_of_mem hv
  have:=h i
  rw [List.getD_eq_getElem?_getD,List.getElem?_eq_getElem hi] at this
  exact this
theorem fgT_some {N:Nat} {t:TS} {ts:List V} (hR:TrOf N t ts) {keep:List Bool} {k:TS→List V→Rs} {x} (h:fgT t keep k=some x) :
  ∃ t' vs,TrOf N t' (forget keep ts)∧(∀ p:V→Bool,p .any=true→(forget keep ts).all p=vs.all p)∧k t' vs=some x:=by
 have gen:∀ (kr:List Bool) (i:Nat) (acc:TS) (vs:List V) {x:Ret×List (Bool×Bool)},keep.drop i=kr→(∀ j,getT acc j=if j<i then (if keep.getD j false=true then ts.getD j .any else .any) else .any) →
   (∀ p:V→Bool,p .any=true→(vs.all p=true↔∀ j,j<i→p (if keep.getD j false=true then ts.getD j .any else .any)=true)) →
   (List.rec (motive:=fun _=>Nat→TS→List V→Rs) (fun _ acc vs=>k acc vs) (fun b _ ih i acc vs=>match b with
    |true=>fV (getT t i) fun v=>setT 12 acc i v fun acc'=>natF (Nat.succ i) fun i'=>ih i' acc' (v::vs)
    |false=>natF (Nat.succ i) fun i'=>ih i' acc vs) kr i acc vs:Rs)=some x →
   ∃ t' vs,(∀ j,getT t' j=if keep.getD j false=true then ts.getD j .any else .any)∧(∀ p:V→Bool,p .any=true→(vs.all p=true↔∀ j,p (if keep.getD j false=true then ts.getD j .any else .any)=true))∧k t' vs=some x:=by
  intro kr
  induction kr with
  |nil=>
   intro i acc vs x hd hA hB h
   have hge:∀ j,¬j<i→keep.getD j false=false:=by
    intro j hj
    have:keep.length≤i:=by simpa using hd
    rw [List.getD_eq_getElem?_getD,List.getElem?_eq_none (by omega)];rfl
   refine ⟨acc,vs,fun j=>?_,fun p hp=>?_,h⟩
   ·rw [hA]
    by_cases hj:j<i
    ·rw [if_pos hj]
    ·rw [if_neg hj,hge j hj];rfl
   ·rw [hB p hp]
    constructor
    ·intro h j
     by_cases hj:j<i
     ·exact h j hj
     ·rw [hge j hj];exact hp
    ·exact fun h j _=>h j
  |cons b kr ih=>
   intro i acc vs x hd hA hB h
   have hlt:i<keep.length:=by
    rcases Nat.lt_or_ge i keep.length with h|h
    ·exact h
    ·rw [List.drop_eq_nil_of_le h] at hd;cases hd
   have hdc:=List.drop_eq_getElem_cons hlt
   rw [hd] at hdc
   simp only [List.cons.injEq] at hdc
   have hb:keep.getD i false=b:=by rw [List.getD_eq_getElem?_getD,List.getElem?_eq_getElem hlt];exact hdc.1.symm
   cases b with
   |true=>
    replace h:=(fV_eq _ _).symm.trans h
    obtain ⟨acc',h1,h2⟩:=setT_some h
    replace h2:=(natF_eq _ _).symm.trans h2
    refine ih (i+1) acc' _ hdc.2.symm (fun j=>?_) (fun p hp=>?_) h2
    ·rw [h1,hA]
     by_cases e:j=i
     ·rw [e,if_pos rfl,if_pos (show i<i+1 by omega),hb,if_pos rfl,hR.get]
     ·rw [if_neg e]
      by_cases hj:j<i
      ·rw [if_pos hj,if_pos (show j<i+1 by omega)]
      ·rw [if_neg hj,if_neg (show ¬j<i+1 by omega)]
    ·rw [List.all_cons,Bool.and_eq_true,hB p hp,hR.get]
     constructor
     ·rintro ⟨h1,h2⟩ j hj
      by_cases e:j=i
      ·rw [e,hb,if_pos rfl];exact h1
      ·exact h2 j (by omega)
     ·intro h
      refine ⟨?_,fun j hj=>h j (by omega)⟩
      have:=h i (by omega)
      rw [hb,if_pos rfl] at this;exact this
   |false=>
    replace h:=(natF_eq _ _).symm.trans h
    refine ih (i+1) acc _ hdc.2.symm (fun j=>?_) (fun p hp=>?_) h
    ·rw [hA]
     by_cases hj:j<i
     ·rw [if_pos hj,if_pos (show j<i+1 by omega)]
     ·rw [if_neg hj]
      by_cases e:j=i
      ·rw [e,if_pos (show i<i+1 by omega),hb];rfl
      ·rw [if_neg (show ¬j<i+1 by omega)]
    ·rw [hB p hp]
     constructor
     ·intro h j hj
      by_cases e:j=i
      ·rw [e,hb];exact hp
      ·exact h j (by omega)
     ·exact fun h j hj=>h j (by omega)
 obtain ⟨t',vs,h1,h2,h3⟩:=gen keep 0 .lf [] (List.drop_zero) (fun j=>by rw [getT_lf,if_neg (by omega)]) (fun p hp=>by simp) h
 refine ⟨t',vs,⟨by rw [fgt_len];exact hR.len,fun i=>by rw [h1,fgt_get]⟩,fun p hp=>?_,h3⟩
 rw [Bool.eq_iff_iff,all_getD hp,h2 p hp]
 simp only [fgt_get]
noncomputable def takeTF {α:Type} (l:List α) (n:Nat) (k:List α→Rs):Rs:=
 Nat.rec (motive:=fun _=>List α→(List α→Rs)→Rs) (fun _ k=>k []) (fun _ ih l k=>List.rec (motive:=fun _=>Rs) (k []) (fun a l' _=>ih l' fun r=>k (a::r)) l) n l k
theorem takeTF_eq {α:Type} (l:List α) (n:Nat) (k:List α→Rs):takeTF l n k=k (l.take n):=by
 unfold takeTF
 induction n generalizing l k with
 |zero=>rfl
 |succ n ih=>
  cases l with
  |nil=>rfl
  |cons a l=>exact ih l _
noncomputable def ltbF (n:Nat) (v:V):Bool:=match v with
 |.any=>true
 |.d _=>true
 |.agg cs=>match allD cs with
  |true=>true
  |false=>V.ltb n (.agg cs)
 |v=>V.ltb n v
theorem ltbF_eq (n:Nat):ltbF n=V.ltb n:=by
 funext v
 cases v with
 |agg cs=>
  simp only [ltbF]
  split
  ·rename_i h;simp only [V.ltb,allD_ltb h]
  ·rfl
 |_=>rfl
noncomputable def ltbLF (n:Nat) (cs:List V):Bool:=match allD cs with
 |true=>true
 |false=>V.ltbL n cs
theorem ltbLF_eq (n:Nat):ltbLF n=V.ltbL n:=by
 funext cs
 unfold ltbLF
 split
 ·rename_i h;rw [allD_ltb h]
 ·rfl
noncomputable def headF (keep:List Bool) (n:Nat) (t:TS) (s:St) (k:TS→St→Rs):Rs:=match s with
 |⟨_,bl,lv,gn,ba,de⟩=>fgT t keep fun t' vs=>match allK (ltbF n) vs with
  |true=>takeTF bl n fun bl'=>match allK (ltbLF n) bl' with
   |true=>k t' ⟨[],bl',lv,gn,ba,de⟩
   |false=>k t' ⟨[],bl,lv,gn,ba,de⟩
  |false=>k t' ⟨[],bl,lv,gn,ba,de⟩
theorem headF_some {N:Nat} {t:TS} {ts:List V} (hR:TrOf N t ts) {keep:List Bool} {n:Nat} {s:St} {k:TS→St→Rs} {x} (h:headF keep n t s k=some x) :
  ∃ t' ts' s',TrOf N t' ts'∧({ s with tmps:=ts }:St).head keep n=some { s' with tmps:=ts' }∧k t' s'=some x:=by
 obtain ⟨us,bl,lv,gn,ba,de⟩:=s
 obtain ⟨t',vs,h1,h2,h3⟩:=fgT_some hR h
 simp only [takeTF_eq,allK_eq,ltbF_eq,ltbLF_eq] at h3
 refine ⟨t',forget keep ts,?_⟩
 simp only [St.head,ltbL_all,h2 (V.ltb n) rfl]
 split at h3
 ·rename_i e1
  split at h3
  ·rename_i e2
   exact ⟨_,h1,by rw [e1,e2];rfl,h3⟩
  ·rename_i e2
   exact ⟨_,h1,by rw [e1,e2];rfl,h3⟩
 ·rename_i e1
  exact ⟨_,h1,by rw [e1];rfl,h3⟩
noncomputable def itF (b:TS→St→Fl→(VExit→TS→St→Fl→Rs)→Rs) (keep:List Bool) (n:Nat) (F:Nat) (t:TS) (s:St) (fl:Fl) (k:VExit→TS→St→Fl→Rs):Rs:=
 Nat.rec (motive:=fun _=>TS→St→Fl→Rs) (fun _ _ _=>none) (fun _ ih t s fl=>headF keep n t s fun t0 s0=>b t0 s0 fl fun e t1 s1 fl1=>match e with
  |.normal=>ih t1 s1 fl1
  |.exit i=>k (.exit i) t1 s1 fl1
  |.ret=>k .ret t1 s1 fl1) F t s fl
def ExOk (VP:VProg) (N:Nat) (b:VCode) (bF:TS→St→Fl→(VExit→TS→St→Fl→Rs)→Rs):Prop:=∀ (t:TS) (ts:List V),TrOf N t ts→∀ (s:St) (fl:Fl) (k:VExit→TS→St→Fl→Rs) (x:Ret×List (Bool×Bool)),bF t s fl k=some x →
 ∃ e ts' t' s' fl',TrOf N t' ts'∧fl.ob ⊆ fl'.ob∧(OKs fl'.ob→X VP b { s with tmps:=ts }=some (e,{ s' with tmps:=ts' }))∧k e t' s' fl'=some x
theorem itF_some {VP:VProg} {N:Nat} {b:VCode} {bF:TS→St→Fl→(VExit→TS→St→Fl→Rs)→Rs} (hb:ExOk VP N b bF) {keep:List Bool} {n:Nat} {k:VExit→TS→St→Fl→Rs} {x:Ret×List (Bool×Bool)}:∀ {F:Nat} {t:TS} {ts:List V},TrOf N t ts→∀ {s:St} {fl:Fl},
  itF bF keep n F t s fl k=some x→∃ e ts' t' s' fl',TrOf N t' ts'∧fl.ob ⊆ fl'.ob∧(OKs fl'.ob→XL VP keep b n { s with tmps:=ts }=some (e,{ s' with tmps:=ts' }))∧k e t' s' fl'=some x
 |0,t,ts,hR,s,fl,h=>by cases h
 |F+1,t,ts,hR,s,fl,h=>by
  have h':(headF keep n t s fun t0 s0=>bF t0 s0 fl fun e t1 s1 fl1=>match e with
   |.normal=>itF bF keep n F t1 s1 fl1 k
   |.exit i=>k (.exit i) t1 s1 fl1
   |.ret=>k .ret t1 s1 fl1)=some x:=h
  obtain ⟨t0,ts0,s0,g0,g1,g2⟩:=headF_some hR h'
  obtain ⟨e,ts1,t1,s1,f1,h0,h1,h2,h3⟩:=hb _ _ g0 _ _ _ _ g2
  cases e with
  |normal=>
   obtain ⟨e2,ts2,t2,s2,f2,j0,h4,h5,h6⟩:=itF_some hb (F:=F) h0 h3
   exact ⟨e2,ts2,t2,s2,f2,j0,fun _ h=>h4 (h1 h),fun hok=>XL_next g1 (h2 (hok.sub h4)) (h5 hok),h6⟩
  |exit i=>exact ⟨_,_,_,_,f1,h0,h1,fun hok=>XL_exit g1 (h2 hok),h3⟩
  |ret=>exact ⟨_,_,_,_,f1,h0,h1,fun hok=>XL_ret g1 (h2 hok),h3⟩
noncomputable def getsF (t:TS) (ks:List Nat) (k:List V→Rs):Rs:=
 List.rec (motive:=fun _=>(List V→Rs)→Rs) (fun k=>k []) (fun i _ ih k=>fV (getT t i) fun v=>ih fun l=>k (v::l)) ks k
theorem getsF_eq (t:TS) (ks:List Nat) (k:List V→Rs):getsF t ks k=k (ks.map (getT t)):=by
 unfold getsF
 induction ks generalizing k with
 |nil=>rfl
 |cons i ks ih=>exact (fV_eq _ _).trans (ih _)
def simpleB:VCode→Bool
 |.draw _ _=>true
 |.alt _ a b=>simpleB a&&simpleB b
 |.seq (.gfrz _) c=>simpleB c
 |_=>false
theorem vx_wr {C:Orc}:∀ n c st e st',simpleB c=true→vx C n c st=some (e,st')→e=.normal∧∀ i,(wr c).contains i=false→st'.tmps.getD i .any=st.tmps.getD i .any
 |0,c,st,e,st',_,h=>by simp [vx] at h
 |n+1,c,st,e,st',hs,h=>by
  unfold simpleB at hs
  split at hs
  ·rename_i ops chk
   simp only [vx] at h
   split at h
   case h_2=>cases h
   rename_i s1 hd
   simp only [Option.some.injEq,Prod.mk.injEq] at h
   obtain ⟨rfl,rfl⟩:=h
   obtain ⟨S,h0,h1,hT,_⟩:=vDraw_tr hd
   refine ⟨rfl,fun i hi=>?_⟩
   subst h0;subst h1
   have:∀ k,k≤ops.length→(S k).tmps.getD i .any=(S 0).tmps.getD i .any:=fun k=>by
    induction k with
    |zero=>intro _;rfl
    |succ k ih=>
     intro hk
     have hx:=List.getElem?_eq_getElem (show k<ops.length by omega)
     rw [hT.other hx (t:=i) (fun e=>?_),ih (by omega)]
     simp only [wr,List.contains_eq_mem,decide_eq_false_iff_not,List.mem_filterMap,not_exists,not_and] at hi
     exact hi _ (List.getElem_mem _) e
   exact this _ (Nat.le_refl _)
  ·rename_i dd a b
   simp only [Bool.and_eq_true] at hs
   simp only [vx] at h
   split at h
   case h_2=>cases h
   rename_i e1 s1 e2 s2 hr1 hr2
   split at h
   case isFalse=>cases h
   simp only [Option.some.injEq,Prod.mk.injEq] at h
   obtain ⟨rfl,rfl⟩:=h
   obtain ⟨rfl,k1⟩:=vx_wr n _ _ _ _ hs.1 hr1
   refine ⟨rfl,fun i hi=>?_⟩
   simp only [wr,List.contains_eq_mem,decide_eq_false_iff_not,List.mem_append,not_or] at hi
   rw [St.fgt,fgtL_getD,if_neg (by simpa using hi.1),k1 i (by simpa using hi.2.1)]
  ·rename_i k c
   simp only [vx] at h
   cases n with
   |zero=>simp [vx] at h
   |succ n=>
    simp only [vx] at h
    obtain ⟨rfl,k1⟩:=vx_wr (n+1) _ _ _ _ hs h
    refine ⟨rfl,fun i hi=>?_⟩
    simp only [wr,List.contains_eq_mem,decide_eq_false_iff_not,List.mem_append,not_or,List.mem_singleton] at hi
    rw [k1 i (by simpa using hi.2)]
    simp only [gfrzS,St.put,List.getD_eq_getElem?_getD,List.getElem?_set]
    rw [if_neg (fun e=>hi.1 e.symm)]
  ·cases hs
theorem X_wr {VP:VProg} {c:VCode} {st st':St} {e:VExit} (hs:simpleB c=true) (h:X VP c st=some (e,st')):e=.normal∧∀ i,(wr c).contains i=false→st'.tmps.getD i .any=st.tmps.getD i .any:=by
 obtain ⟨n,hn⟩:=X_iff.1 h
 exact vx_wr n _ _ _ _ hs hn
noncomputable def fgtT (N:Nat) (dd:List Nat) (t:TS) (k:TS→Rs):Rs:=
 List.rec (motive:=fun _=>TS→Rs) (fun t=>k t) (fun i _ ih t=>match Nat.ble (Nat.succ i) N with
  |true=>setT 12 t i .any ih
  |false=>none) dd t
theorem fgtT_some {N:Nat} {dd:List Nat} {k:TS→Rs} {x}:∀ {t:TS} {ts:List V},TrOf N t ts→fgtT N dd t k=some x→∃ t',TrOf N t' (fgtL dd ts)∧k t'=some x:=by
 unfold fgtT
 induction dd with
 |nil=>intro t ts hR h;exact ⟨t,hR,h⟩
 |cons i is ih=>
  intro t ts hR h
  simp only at h
  split at h
  case h_2=>cases h
  rename_i hi
  have hi':i<N:=Nat.le_of_ble_eq_true hi
  obtain ⟨t',h1,h2⟩:=setT_some h
  refine ih (ts:=ts.set i .any) ⟨by rw [List.length_set];exact hR.len,fun j=>?_⟩ h2
  rw [h1,hR.get,List.getD_eq_getElem?_getD,List.getD_eq_getElem?_getD,List.getElem?_set]
  by_cases e:j=i
  ·subst e;rw [if_pos rfl,if_pos rfl,if_pos (by rw [hR.len];exact hi')];rfl
  ·rw [if_neg e,if_neg (fun h=>e h.symm)]
def restL (ws dd:List Nat):List Nat:=uniL (ws.filter fun i=>!dd.contains i)
where
 uniL:List Nat→List Nat
  |[]=>[]
  |i::l=>if (uniL l).contains i then uniL l else i::uniL l
theorem mem_uniL {i:Nat}:∀ {l:List Nat},i∈l→i∈restL.uniL l
 |j::l,h=>by
  rw [restL.uniL]
  rcases List.mem_cons.1 h with rfl|h
  ·split
   ·simpa using ‹(restL.uniL l).contains i=true›
   ·exact List.mem_cons_self
  ·split
   ·exact mem_uniL h
   ·exact List.mem_cons_of_mem _ (mem_uniL h)
noncomputable def beqNL (a:List Nat):List Nat→Bool:=
 List.rec (motive:=fun _=>List Nat→Bool) (fun b=>match b with|[]=>true|_::_=>false) (fun x _ ih b=>match b with
  |[]=>false
  |y::ys=>match Nat.beq x y with
   |true=>ih ys
   |false=>false) a
theorem beqNL_eq:∀ {a b:List Nat},beqNL a b=true→a=b
 |[],[],_=>rfl
 |[],_::_,h=>by cases h
 |_::_,[],h=>by cases h
 |x::a,y::b,h=>by
  have h':(match Nat.beq x y with|true=>beqNL a b|false=>false)=true:=h
  split at h'
  ·rename_i he;rw [Nat.eq_of_beq_eq_true he,beqNL_eq h']
  ·cases h'
noncomputable def cmpB (a b:List (List V)) (fl:Fl) (k:Fl→Rs):Rs:=match a,b with
 |[],[]=>k fl
 |a,b=>askF fl (a=b) k
theorem cmpB_some {a b:List (List V)} {fl:Fl} {k:Fl→Rs} {x} (h:cmpB a b fl k=some x):∃ fl',fl.ob ⊆ fl'.ob∧(OKs fl'.ob→a=b)∧k fl'=some x:=by
 unfold cmpB at h
 split at h
 ·exact ⟨_,fun _ h=>h,fun _=>rfl,h⟩
 ·obtain ⟨l,ob,vs⟩:=fl
  exact ⟨_,fun m hm=>List.mem_cons_of_mem _ hm,fun hok=>of_prB (hok _ List.mem_cons_self),h⟩
noncomputable def cmpV (a b:List V) (fl:Fl) (k:Fl→Rs):Rs:=match a,b with
 |[],[]=>k fl
 |a,b=>askF fl (a=b) k
theorem cmpV_some {a b:List V} {fl:Fl} {k:Fl→Rs} {x} (h:cmpV a b fl k=some x):∃ fl',fl.ob ⊆ fl'.ob∧(OKs fl'.ob→a=b)∧k fl'=some x:=by
 unfold cmpV at h
 split at h
 ·exact ⟨_,fun _ h=>h,fun _=>rfl,h⟩
 ·obtain ⟨l,ob,vs⟩:=fl
  exact ⟨_,fun m hm=>List.mem_cons_of_mem _ hm,fun hok=>of_prB (hok _ List.mem_cons_self),h⟩
noncomputable def altF (N:Nat) (dd ws:List Nat) (t1 t2:TS) (s1 s2:St) (fl:Fl) (k:TS→St→Fl→Rs):Rs:=match s1,s2 with
 |⟨_,b1,l1,g1,a1,d1⟩,⟨_,b2,l2,g2,a2,d2⟩=>match beqNL l1 l2 with
  |true=>match beqNL [g1,a1,d1] [g2,a2,d2] with
   |true=>getsF t1 ws fun v1=>getsF t2 ws fun v2=>cmpV v1 v2 fl fun f1=>cmpB b1 b2 f1 fun f2=>fgtT N dd t1 fun t=>k t ⟨[],b1,l1,g1,a1,d1⟩ f2
   |false=>none
  |false=>none
theorem altF_some {N:Nat} {dd ws:List Nat} {t1 t2:TS} {ts1 ts2:List V} (h1:TrOf N t1 ts1) (h2:TrOf N t2 ts2) {s1 s2:St} {fl:Fl} {k:TS→St→Fl→Rs} {x} (h:altF N dd ws t1 t2 s1 s2 fl k=some x) :
  ∃ t' fl',TrOf N t' (fgtL dd ts1)∧fl.ob ⊆ fl'.ob∧(OKs fl'.ob→(∀ i∈ws,ts1.getD i .any=ts2.getD i .any)∧∀ l,({ s1 with tmps:=l }:St)={ s2 with tmps:=l })∧k t' { s1 with tmps:=[] } fl'=some x:=by
 obtain ⟨_,b1,l1,g1,a1,d1⟩:=s1
 obtain ⟨_,b2,l2,g2,a2,d2⟩:=s2
 simp only [altF] at h
 split at h
 case h_2=>cases h
 rename_i e1
 split at h
 case h_2=>cases h
 rename_i e2
 rw [getsF_eq,getsF_eq] at h
 obtain ⟨f1,o1,q1,h⟩:=cmpV_some h
 obtain ⟨f2,o2,q2,h⟩:=cmpB_some h
 obtain ⟨t',r1,r2⟩:=fgtT_some h1 h
 refine ⟨t',f2,r1,fun _ h=>o2 (o1 h),fun hok=>⟨fun i hi=>?_,fun l=>?_⟩,r2⟩
 ·have:=q1 (hok.sub o2)
  have:=List.map_inj_left.1 this i hi
  rw [h1.get,h2.get] at this
  exact this
 ·have e1:=beqNL_eq e1
  have e2:=beqNL_eq e2
  simp only [List.cons.injEq,and_true] at e2
  obtain ⟨rfl,rfl,rfl⟩:=e2
  rw [e1,q2 hok]
theorem ext_getD {a b:List V} (hl:a.length=b.length) (h:∀ i,a.getD i .any=b.getD i .any):a=b:=by
 apply List.ext_getElem?
 intro i
 rcases Nat.lt_or_ge i a.length with hlt|hge
 ·have:=h i
  rw [List.getD_eq_getElem?_getD,List.getD_eq_getElem?_getD,List.getElem?_eq_getElem hlt,List.getElem?_eq_getElem (by omega)] at this
  rw [List.getElem?_eq_getElem hlt,List.getElem?_eq_getElem (by omega)]
  simpa using this
 ·rw [List.getElem?_eq_none hge,List.getElem?_eq_none (by omega)]
noncomputable def exF (C:CF) (N F:Nat) (c:VCode):TS→St→Fl→(VExit→TS→St→Fl→Rs)→Rs:=
 VCode.rec (motive:=fun _=>TS→St→Fl→(VExit→TS→St→Fl→Rs)→Rs)
  (fun t s fl k=>k .normal t s fl)
  (fun ops t s fl k=>opsF C N ops t s fl (k .normal))
  (fun ops chk t s fl k=>drawF C N ops chk t s fl (k .normal))
  (fun _ _ ia ib t s fl k=>ia t s fl fun e t1 s1 fl1=>match e with
   |.normal=>ib t1 s1 fl1 k
   |.exit i=>k (.exit i) t1 s1 fl1
   |.ret=>k .ret t1 s1 fl1)
  (fun c _ _ ia ib t s fl k=>match (evT t c).bool with
   |some b=>dec b fl fun w fl1=>match w with
    |true=>ia t s fl1 k
    |false=>ib t s fl1 k
   |none=>none)
  (fun id _ ib t s fl k=>ib t s fl fun e t1 s1 fl1=>match e with
   |.normal=>k .normal t1 s1 fl1
   |.exit i=>match Nat.beq i id with
    |true=>k .normal t1 s1 fl1
    |false=>k (.exit i) t1 s1 fl1
   |.ret=>k .ret t1 s1 fl1)
  (fun keep _ ib t s fl k=>natF (lenK s.blocks) fun n=>itF ib keep n F t s fl k)
  (fun id t s fl k=>k (.exit id) t s fl)
  (fun t s fl k=>k .ret t s fl)
  (fun kk t s fl k=>match s with
   |⟨_,bl,lv,gn,ba,de⟩=>fV (getT t kk) fun v=>frzF bl ba v fun v'=>sp2F (gfrzB bl ba v) fun bl'=>putT N t (some kk) v' fun t'=>k .normal t' ⟨[],bl',lv,gn,ba,de⟩ fl)
  (fun dd a b ia ib t s fl k=>match simpleB a with
   |true=>match simpleB b with
    |true=>ia t s fl fun _ t1 s1 f1=>ib t s f1 fun _ t2 s2 f2=>altF N dd (restL (wr a++wr b) dd) t1 t2 s1 s2 f2 fun t' s' f3=>k .normal t' s' f3
    |false=>none
   |false=>none) c
theorem exF_ok {VP:VProg} {C:CF} (hC:CFok VP C) (N F:Nat) (c:VCode):ExOk VP N c (exF C N F c):=by
 unfold exF
 induction c with
 |skip=>exact fun t ts hR s fl k x h=>⟨_,_,_,_,fl,hR,fun _ h=>h,fun _=>X_skip,h⟩
 |reg ops=>
  intro t ts hR s fl k x h
  obtain ⟨ts',t',s',fl',h0,h1,h2,h3⟩:=opsF_some hC hR h
  exact ⟨_,_,_,_,fl',h0,h1,fun hok=>X_reg (h2 hok),h3⟩
 |draw ops chk=>
  intro t ts hR s fl k x h
  obtain ⟨ts',t',s',fl',h0,h1,h2,h3⟩:=drawF_some hC hR h
  exact ⟨_,_,_,_,fl',h0,h1,fun hok=>X_draw (h2 hok),h3⟩
 |seq a b ia ib=>
  intro t ts hR s fl k x h
  obtain ⟨e,ts1,t1,s1,f1,h0,h1,h2,h3⟩:=ia _ _ hR _ _ _ _ h
  cases e with
  |normal=>
   obtain ⟨e2,ts2,t2,s2,f2,j0,h4,h5,h6⟩:=ib _ _ h0 _ _ _ _ h3
   exact ⟨e2,ts2,t2,s2,f2,j0,fun _ h=>h4 (h1 h),fun hok=>X_seq (h2 (hok.sub h4)) (h5 hok),h6⟩
  |exit i=>exact ⟨_,_,_,_,f1,h0,h1,fun hok=>X_seqE (h2 hok),h3⟩
  |ret=>exact ⟨_,_,_,_,f1,h0,h1,fun hok=>X_seqR (h2 hok),h3⟩
 |cond c a b ia ib=>
  intro t ts hR s fl k x h
  simp only [hR.ev] at h
  split at h
  ·rename_i w hw
   obtain ⟨w',f1,h1,h2,h3⟩:=dec_some h
   cases w' with
   |true=>
    obtain ⟨e2,ts2,t2,s2,f2,j0,h4,h5,h6⟩:=ia _ _ hR _ _ _ _ h3
    exact ⟨e2,ts2,t2,s2,f2,j0,fun _ h=>h4 (h1 h),fun hok=>X_cond hw (by rw [h2 (hok.sub h4)];exact h5 hok),h6⟩
   |false=>
    obtain ⟨e2,ts2,t2,s2,f2,j0,h4,h5,h6⟩:=ib _ _ hR _ _ _ _ h3
    exact ⟨e2,ts2,t2,s2,f2,j0,fun _ h=>h4 (h1 h),fun hok=>X_cond hw (by rw [h2 (hok.sub h4)];exact h5 hok),h6⟩
  ·cases h
 |block id b ib=>
  intro t ts hR s fl k x h
  obtain ⟨e,ts1,t1,s1,f1,h0,h1,h2,h3⟩:=ib _ _ hR _ _ _ _ h
  cases e with
  |normal=>exact ⟨_,_,_,_,f1,h0,h1,fun hok=>X_block (h2 hok),h3⟩
  |ret=>exact ⟨_,_,_,_,f1,h0,h1,fun hok=>X_block (h2 hok),h3⟩
  |exit i=>
   simp only at h3
   split at h3
   ·rename_i hb
    refine ⟨_,_,_,_,f1,h0,h1,fun hok=>?_,h3⟩
    have:=X_block (id:=id) (h2 hok)
    rw [VExit.out,if_pos (Nat.eq_of_beq_eq_true hb)] at this
    exact this
   ·rename_i hb
    refine ⟨_,_,_,_,f1,h0,h1,fun hok=>?_,h3⟩
    have:=X_block (id:=id) (h2 hok)
    rw [VExit.out,if_neg (Nat.ne_of_beq_eq_false hb)] at this
    exact this
 |loop keep b ib=>
  intro t ts hR s fl k x h
  simp only at h
  rw [natF_eq,lenK_eq] at h
  obtain ⟨e,ts1,t1,s1,f1,h0,h1,h2,h3⟩:=itF_some ib hR h
  exact ⟨e,ts1,t1,s1,f1,h0,h1,fun hok=>X_loop (h2 hok),h3⟩
 |exit id=>exact fun t ts hR s fl k x h=>⟨_,_,_,_,fl,hR,fun _ h=>h,fun _=>X_exit,h⟩
 |ret=>exact fun t ts hR s fl k x h=>⟨_,_,_,_,fl,hR,fun _ h=>h,fun _=>X_ret,h⟩
 |gfrz kk=>
  intro t ts hR s fl k x h
  obtain ⟨us,bl,lv,gn,ba,de⟩:=s
  simp only at h
  rw [fV_eq,frzF_eq,sp2F_eq,hR.get] at h
  obtain ⟨t',ts',h1,h2,h3⟩:=putT_some hR h
  refine ⟨_,ts',t',_,fl,h1,fun _ h=>h,fun _=>?_,h3⟩
  rw [X_gfrz]
  have:=h2 ⟨ts,gfrzB bl ba (ts.getD kk .any),lv,gn,ba,de⟩ rfl
  simp only [gfrzS,this]
 |alt dd a b iha ihb=>
  intro t ts hR s fl k x h
  simp only at h
  split at h
  case h_2=>cases h
  rename_i hsa
  split at h
  case h_2=>cases h
  rename_i hsb
  obtain ⟨e1,ts1,t1,s1,f1,hR1,o1,x1,h⟩:=iha t ts hR s fl _ x h
  obtain ⟨e2,ts2,t2,s2,f2,hR2,o2,x2,h⟩:=ihb t ts hR s f1 _ x h
  obtain ⟨t',f3,hR3,o3,q,h⟩:=altF_some hR1 hR2 h
  refine ⟨.normal,_,t',_,f3,hR3,fun _ h=>o3 (o2 (o1 h)),fun hok=>?_,h⟩
  have y1:=x1 ((hok.sub o3).sub o2)
  have y2:=x2 (hok.sub o3)
  obtain ⟨rfl,w1⟩:=X_wr hsa y1
  obtain ⟨rfl,w2⟩:=X_wr hsb y2
  obtain ⟨q1,q2⟩:=q hok
  refine X_alt y1 y2 ?_
  have hl:fgtL dd ts2=fgtL dd ts1:=by
   refine ext_getD (by rw [fgtL_length,fgtL_length,hR1.len,hR2.len]) fun i=>?_
   rw [fgtL_getD,fgtL_getD]
   split
   ·rfl
   ·rename_i hd
    by_cases hw:i∈wr a++wr b
    ·exact (q1 i (mem_uniL (by simp only [List.mem_filter];exact ⟨hw,by simpa using hd⟩))).symm
    ·simp only [List.mem_append,not_or] at hw
     have:=w1 i (by simpa using hw.1)
     have h2:=w2 i (by simpa using hw.2)
     simp only at this h2
     rw [this,h2]
  show ({ s2 with tmps:=fgtL dd ts2 }:St)={ s1 with tmps:=fgtL dd ts1 }
  rw [hl,q2]
end Go.VM
namespace Go.VM
noncomputable def getResF (t:TS) (bl:List (List V)) (rs:List VRes) (k:List V→Rs):Rs:=
 List.rec (motive:=fun _=>(List V→Rs)→Rs) (fun k=>k []) (fun r _ ih k=>match r with
  |.tmp j=>fV (getT t j) fun v=>ih fun l=>k (v::l)
  |.cell a n ag=>loadF bl (getT t a) n fun cs=>shapeF ag cs fun v=>ih fun l=>k (v::l)) rs k
theorem getResF_some {N:Nat} {t:TS} {ts:List V} (hR:TrOf N t ts) {bl:List (List V)} {lv:List Nat} {gn ba de:Nat} {rs:List VRes} {k:List V→Rs} {x} (h:getResF t bl rs k=some x):∃ vs,getRes ⟨ts,bl,lv,gn,ba,de⟩ rs=some vs∧k vs=some x:=by
 unfold getResF at h
 induction rs generalizing k with
 |nil=>exact ⟨[],rfl,h⟩
 |cons r rs ih=>
  cases r with
  |tmp j=>
   replace h:=(fV_eq _ _).symm.trans h
   obtain ⟨vs,h1,h2⟩:=ih h
   refine ⟨_,?_,h2⟩
   simp only [getRes,VRes.get,h1,hR.get]
  |cell a n ag=>
   obtain ⟨cs,h3,h4⟩:=loadF_some h
   rw [hR.get] at h3
   obtain ⟨v,h5,h6⟩:=shapeF_some h4
   obtain ⟨vs,h1,h2⟩:=ih h6
   refine ⟨_,?_,h2⟩
   simp only [getRes,VRes.get,h1,h3,h5]
noncomputable def cutF (v:V) (n:Nat) (bl:List (List V)) (k:Ret→Rs):Rs:=takeTF bl n fun bl'=>match allK (ltbLF n) bl' with
 |true=>k ⟨v,bl',[],0⟩
 |false=>none
noncomputable def fVs' (v:V) (k:V→Rs):Rs:=match pl2 v with
 |true=>k v
 |false=>fVs v.er k
theorem fVs'_eq (v:V) (k:V→Rs):fVs' v k=k v.er:=by
 unfold fVs'
 split
 ·rename_i h;rw [pl2_er h]
 ·rw [fVs_eq]
noncomputable def keepF (v:V) (n:Nat) (bl:List (List V)) (lv:List Nat) (gn:Nat) (k:Ret→Rs):Rs:=match v with
 |.sl sz es (.own q j)=>match (q==0&&lv.contains j)&&(bl.take n).all (V.ltbL n) with
  |true=>fLL (bl.take n) fun bl'=>k ⟨.sl sz es (.own 0 0),bl',[0],1⟩
  |false=>k ⟨.sl sz es (.own q j),bl,lv,gn⟩
 |.sl sz es .full=>match (bl.take n).all (V.ltbL n) with
  |true=>fLL (bl.take n) fun bl'=>k ⟨.sl sz es .full,bl',[],0⟩
  |false=>k ⟨.sl sz es .full,bl,lv,gn⟩
 |.nil=>match (bl.take n).all (V.ltbL n) with
  |true=>fLL (bl.take n) fun bl'=>k ⟨.nil,bl',[],0⟩
  |false=>k ⟨.nil,bl,lv,gn⟩
 |v=>k ⟨v,bl,lv,gn⟩
theorem keepF_eq (v:V) (n:Nat) (bl:List (List V)) (lv:List Nat) (gn:Nat) (k:Ret→Rs) (ts:List V) (ba de:Nat):keepF v n bl lv gn k=k (keepRet v n ⟨ts,bl,lv,gn,ba,de⟩):=by
 unfold keepF keepRet
 split
 ·simp only
  split
  ·rename_i h;rw [if_pos h,fLL_eq]
  ·rename_i h;rw [if_neg (by rw [h];decide)]
 ·simp only
  split
  ·rename_i h;rw [if_pos h,fLL_eq]
  ·rename_i h;rw [if_neg (by rw [h];decide)]
 ·simp only
  split
  ·rename_i h;rw [if_pos h,fLL_eq]
  ·rename_i h;rw [if_neg (by rw [h];decide)]
 ·rename_i h1 h2 h3
  split
  ·exact absurd rfl (h1 _ _ _ _)
  ·exact absurd rfl (h2 _ _)
  ·exact absurd rfl h3
  ·rfl
noncomputable def retF (vf:VFunc) (n:Nat) (t:TS) (st:St) (k:Ret→Rs):Rs:=match st with
 |⟨_,bl,lv,gn,_,_⟩=>getResF t bl vf.res fun vs=>fV (vPack vs) fun v=>match vf.keep with
  |true=>keepF v n bl lv gn k
  |false=>match pl2 v with
   |true=>cutF v n bl k
   |false=>frzF bl n v fun v'=>fVs' v' fun r=>match r.ltb n with
    |true=>cutF r n bl k
    |false=>none
theorem cutF_some {v:V} {n:Nat} {bl:List (List V)} {k:Ret→Rs} {x} (h:cutF v n bl k=some x):(bl.take n).all (V.ltbL n)=true∧k ⟨v,bl.take n,[],0⟩=some x:=by
 unfold cutF at h
 rw [takeTF_eq,allK_eq,ltbLF_eq] at h
 split at h
 ·rename_i h1;exact ⟨h1,h⟩
 ·cases h
theorem retF_some {N:Nat} {t:TS} {ts:List V} (hR:TrOf N t ts) {vf:VFunc} {n:Nat} {st:St} {k:Ret→Rs} {x} (h:retF vf n t st k=some x):∃ ret,vRet vf n { st with tmps:=ts }=some ret∧k ret=some x:=by
 obtain ⟨us,bl,lv,gn,ba,de⟩:=st
 obtain ⟨vs,h1,h2⟩:=getResF_some hR (lv:=lv) (gn:=gn) (ba:=ba) (de:=de) h
 rw [fV_eq] at h2
 unfold vRet
 rw [h1]
 simp only
 split at h2
 ·rename_i hk
  rw [if_pos hk]
  rw [keepF_eq _ n bl lv gn k ts ba de] at h2
  exact ⟨_,rfl,h2⟩
 ·rename_i hk
  rw [if_neg (by rw [hk];decide)]
  split at h2
  ·rename_i hp
   obtain ⟨h3,h4⟩:=cutF_some h2
   refine ⟨_,?_,h4⟩
   rw [pl2_frz hp,pl2_er hp,pl2_ltb hp,h3]
   rfl
  ·rw [frzF_eq,fVs'_eq] at h2
   split at h2
   ·rename_i hl
    obtain ⟨h3,h4⟩:=cutF_some h2
    refine ⟨_,?_,h4⟩
    rw [hl,h3]
    rfl
   ·cases h2
noncomputable def inT (args:List V) (k:TS→Rs):Rs:=List.rec (motive:=fun _=>Nat→TS→Rs) (fun _ t=>k t) (fun a _ ih i t=>setT 12 t i a fun t'=>natF (Nat.succ i) fun i'=>ih i' t') args 0 .lf
theorem inT_some {args:List V} {k:TS→Rs} {x} (h:inT args k=some x):∃ t,(∀ i,getT t i=args.getD i .any)∧k t=some x:=by
 have gen:∀ (l:List V) (i:Nat) (t:TS) {x:Ret×List (Bool×Bool)},(List.rec (motive:=fun _=>Nat→TS→Rs) (fun _ t=>k t) (fun a _ ih i t=>setT 12 t i a fun t'=>natF (Nat.succ i) fun i'=>ih i' t') l i t:Rs)=some x →
   ∃ t',(∀ j,getT t' j=if j<i then getT t j else if j<i+l.length then l.getD (j-i) .any else getT t j)∧k t'=some x:=by
  intro l
  induction l with
  |nil=>exact fun i t x h=>⟨t,fun j=>by simp only [List.length_nil,Nat.add_zero];split<;>simp_all,h⟩
  |cons a l ih=>
   intro i t x h
   obtain ⟨t1,h1,h2⟩:=setT_some h
   replace h2:=(natF_eq _ _).symm.trans h2
   obtain ⟨t2,h3,h4⟩:=ih (i+1) t1 h2
   refine ⟨t2,fun j=>?_,h4⟩
   rw [h3,h1]
   by_cases e:j=i
   ·subst e
    rw [if_pos (show j<j+1 by omega),if_pos rfl,if_neg (show ¬j<j by omega),if_pos (show j<j+(a::l).length by simp),Nat.sub_self]
    rfl
   ·by_cases hj:j<i
    ·rw [if_pos (show j<i+1 by omega),if_neg e,if_pos hj]
    ·rw [if_neg (show ¬j<i+1 by omega),if_neg hj]
     by_cases h5:j<i+1+l.length
     ·rw [if_pos h5,if_pos (show j<i+(a::l).length by simp only [List.length_cons];omega),show j-i=(j-(i+1))+1 by omega,List.getD_cons_succ]
     ·rw [if_neg h5,if_neg (show ¬j<i+(a::l).length by simp only [List.length_cons];omega),if_neg e]
 obtain ⟨t,h1,h2⟩:=gen args 0 .lf h
 refine ⟨t,fun i=>?_,h2⟩
 rw [h1,if_neg (show ¬i<0 by omega),Nat.zero_add,Nat.sub_zero,getT_lf]
 split
 ·rfl
 ·rename_i hi
  rw [List.getD_eq_getElem?_getD,List.getElem?_eq_none (by omega)];rfl
noncomputable def runF (C:CF) (F:Nat) (vf:VFunc) (args:List V) (bl:List (List V)) (fl:Fl) (k:Ret→Fl→Rs):Rs:=
 match Nat.ble (lenK args) vf.ntmps with
 |true=>natF (lenK bl) fun n=>inT args fun t=>exF C vf.ntmps F vf.body t ⟨[],bl,[],0,n,0⟩ fl fun e t s fl'=>match e with
  |.exit _=>none
  |.normal=>retF vf n t s fun ret=>k ret fl'
  |.ret=>retF vf n t s fun ret=>k ret fl'
 |false=>none
theorem runF_some {VP:VProg} {C:CF} (hC:CFok VP C) (F:Nat) {vf:VFunc} {args:List V} {bl:List (List V)} {fl:Fl} {k:Ret→Fl→Rs} {x:Ret×List (Bool×Bool)} (h:runF C F vf args bl fl k=some x) :
  ∃ e st' ret fl',fl.ob ⊆ fl'.ob∧(OKs fl'.ob→X VP vf.body (vf.start args bl)=some (e,st'))∧(e=.normal∨e=.ret)∧vRet vf bl.length st'=some ret∧k ret fl'=some x:=by
 unfold runF at h
 split at h
 case h_2=>cases h
 rename_i hlen
 have hlen':=Nat.le_of_ble_eq_true hlen
 rw [lenK_eq] at hlen'
 rw [natF_eq,lenK_eq] at h
 obtain ⟨t,g1,g2⟩:=inT_some h
 have hR:TrOf vf.ntmps t (args++List.replicate (vf.ntmps-args.length) .any):=by
  refine ⟨by rw [List.length_append,List.length_replicate];omega,fun i=>?_⟩
  rw [g1]
  simp only [List.getD_eq_getElem?_getD]
  rw [List.getElem?_append]
  split
  ·rfl
  ·rename_i hi
   rw [List.getElem?_eq_none (by omega),List.getElem?_replicate]
   split<;>rfl
 have hst:vf.start args bl=⟨args++List.replicate (vf.ntmps-args.length) .any,bl,[],0,bl.length,0⟩:=rfl
 rw [hst]
 obtain ⟨e,ts',t',s',f1,h0,h1,h2,h3⟩:=exF_ok hC vf.ntmps F vf.body _ _ hR _ _ _ _ g2
 cases e with
 |exit i=>cases h3
 |normal=>
  obtain ⟨ret,h4,h5⟩:=retF_some h0 h3
  exact ⟨_,_,ret,f1,h1,h2,.inl rfl,h4,h5⟩
 |ret=>
  obtain ⟨ret,h4,h5⟩:=retF_some h0 h3
  exact ⟨_,_,ret,f1,h1,h2,.inr rfl,h4,h5⟩
noncomputable def retIF (vf:VFunc) (t:TS) (st:St) (k:Ret→Rs):Rs:=match st with
 |⟨_,bl,lv,gn,_,_⟩=>getResF t bl vf.res fun vs=>fV (vPack vs) fun v=>k ⟨v,bl,lv,gn⟩
noncomputable def runIF (C:CF) (F:Nat) (vf:VFunc) (as:List V) (bl:List (List V)) (gn ba:Nat) (lv:List Nat) (fl:Fl) (k:Ret→Fl→Rs):Rs:=
 match Nat.ble (lenK as) vf.ntmps with
 |true=>inT as fun t=>exF C vf.ntmps F vf.body t ⟨[],bl,lv,gn,ba,0⟩ fl fun e t s fl'=>match e with
  |.exit _=>none
  |.normal=>retIF vf t s fun ret=>k ret fl'
  |.ret=>retIF vf t s fun ret=>k ret fl'
 |false=>none
theorem retIF_some {N:Nat} {t:TS} {ts:List V} (hR:TrOf N t ts) {vf:VFunc} {st:St} {k:Ret→Rs} {x} (h:retIF vf t st k=some x):∃ ret,vRetI vf { st with tmps:=ts }=some ret∧k ret=some x:=by
 obtain ⟨us,bl,lv,gn,ba,de⟩:=st
 obtain ⟨vs,h1,h2⟩:=getResF_some hR (lv:=lv) (gn:=gn) (ba:=ba) (de:=de) h
 rw [fV_eq] at h2
 exact ⟨_,by simp only [vRetI,h1],h2⟩
theorem runIF_some {VP:VProg} {C:CF} (hC:CFok VP C) (F:Nat) {vf:VFunc} {as:List V} {bl:List (List V)} {gn ba:Nat} {lv:List Nat} {fl:Fl} {k:Ret→Fl→Rs} {x:Ret×List (Bool×Bool)} (h:runIF C F vf as bl gn ba lv fl k=some x) :
  ∃ e st' ret fl',fl.ob ⊆ fl'.ob∧(OKs fl'.ob→X VP vf.body (vf.startI as ⟨[],bl,lv,gn,ba,0⟩)=some (e,st'))∧(e=.normal∨e=.ret)∧vRetI vf st'=some ret∧k ret fl'=some x:=by
 unfold runIF at h
 split at h
 case h_2=>cases h
 rename_i hlen
 have hlen':=Nat.le_of_ble_eq_true hlen
 rw [lenK_eq] at hlen'
 obtain ⟨t,g1,g2⟩:=inT_some h
 have hR:TrOf vf.ntmps t (as++List.replicate (vf.ntmps-as.length) .any):=by
  refine ⟨by rw [List.length_append,List.length_replicate];omega,fun i=>?_⟩
  rw [g1]
  simp only [List.getD_eq_getElem?_getD]
  rw [List.getElem?_append]
  split
  ·rfl
  ·rename_i hi
   rw [List.getElem?_eq_none (by omega),List.getElem?_replicate]
   split<;>rfl
 have hst:vf.startI as ⟨[],bl,lv,gn,ba,0⟩=⟨as++List.replicate (vf.ntmps-as.length) .any,bl,lv,gn,ba,0⟩:=rfl
 rw [hst]
 obtain ⟨e,ts',t',s',f1,h0,h1,h2,h3⟩:=exF_ok hC vf.ntmps F vf.body _ _ hR _ _ _ _ g2
 cases e with
 |exit i=>cases h3
 |normal=>
  obtain ⟨ret,h4,h5⟩:=retIF_some h0 h3
  exact ⟨_,_,ret,f1,h1,h2,.inl rfl,h4,h5⟩
 |ret=>
  obtain ⟨ret,h4,h5⟩:=retIF_some h0 h3
  exact ⟨_,_,ret,f1,h1,h2,.inr rfl,h4,h5⟩
noncomputable def bigF (VP:VProg) (fn:FuncId→Option VFunc) (C:CF) (F:Nat) (f:FuncId) (a:List V) (b:List (List V)) (fl:Fl) (k:Ret→Fl→Rs):Rs:=match Nat.ble 1000000 f with
 |true=>match unIn a with
  |some (gn,ba,lv,as)=>match fn (f-1000000) with
   |some vf=>match VP.fn f with
    |some _=>none
    |none=>runIF C F vf as b gn ba lv fl k
   |none=>none
  |none=>none
 |false=>none
theorem bigF_some {VP:VProg} {fn:FuncId→Option VFunc} (hfn:∀ f vf,fn f=some vf→VP.fn f=some vf) {C:CF} (hC:CFok VP C) (F:Nat) {f:FuncId} {a:List V} {b:List (List V)} {fl:Fl} {k:Ret→Fl→Rs} {x:Ret×List (Bool×Bool)} (hn:VP.nat f a b=none)
  (h:bigF VP fn C F f a b fl k=some x):∃ ret f2,fl.ob ⊆ f2.ob∧(OKs f2.ob→CV VP f a b=some ret)∧k ret f2=some x:=by
 unfold bigF at h
 split at h
 case h_2=>cases h
 rename_i hge
 have hge:=Nat.le_of_ble_eq_true hge
 split at h
 case h_2=>cases h
 rename_i gn ba lv as hu
 split at h
 case h_2=>cases h
 rename_i vf hf
 split at h
 case h_1=>cases h
 rename_i hno
 obtain ⟨e,st',ret,f1,h1,h2,h3,h4,h5⟩:=runIF_some hC F h
 obtain ⟨g,rfl⟩:∃ g,f=g+1000000:=⟨f-1000000,(Nat.sub_add_cancel hge).symm⟩
 rw [Nat.add_sub_cancel] at hf
 have:=unIn_some hu
 subst this
 exact ⟨ret,f1,h1,fun hok=>CV_ofI (hfn _ _ hf) hn hno (h2 hok) h3 h4,h5⟩
inductive FT where
 |no
 |fn (k:Nat) (vf:VFunc)
 |nd (m:Nat) (l r:FT)
noncomputable def FT.get (t:FT) (f:Nat):Option VFunc:=
 FT.rec (motive:=fun _=>Option VFunc) none (fun k vf=>match Nat.beq f k with|true=>some vf|false=>none) (fun m _ _ il ir=>match Nat.ble f m with|true=>il|false=>ir) t
def FT.all (p:Nat→VFunc→Prop):FT→Prop
 |.no=>True
 |.fn k vf=>p k vf
 |.nd _ l r=>l.all p∧r.all p
theorem FT.get_ok {p:Nat→VFunc→Prop}:∀ {t:FT},t.all p→∀ {f vf},t.get f=some vf→p f vf
 |.no,_,f,vf,h=>by cases h
 |.fn k vf',hp,f,vf,h=>by
  simp only [FT.get] at h
  split at h
  ·rename_i hk
   rw [Nat.eq_of_beq_eq_true hk]
   simp only [Option.some.injEq] at h
   subst h
   exact hp
  ·cases h
 |.nd m l r,hp,f,vf,h=>by
  have hg:(FT.nd m l r).get f=match Nat.ble f m with|true=>l.get f|false=>r.get f:=rfl
  rw [hg] at h
  split at h
  ·exact FT.get_ok hp.1 h
  ·exact FT.get_ok hp.2 h
theorem FT.ok {P:Program} {t:FT} (h:t.all (fun k v=>CFunc P k v)):∀ f vf,t.get f=some vf→CFunc P f vf:=fun _ _ hg=>FT.get_ok (p:=fun k v=>CFunc P k v) h hg
theorem cprogT_of {P:Program} {t:FT} (h:t.all (fun k v=>CFunc P k v)):CProg P ⟨t.get,noNat⟩:=
 CProg0.up ⟨FT.ok h,(fun _ _ _ _ h=>by cases h),(fun _ _ _ _ h=>by cases h)⟩
theorem cprogT_clone {P:Program} {t:FT} (h:t.all (fun k v=>CFunc P k v)) {cl:List Nat} (hcl:∀ f∈cl,VC P f [.d (.sl [])] [] ⟨.d (.sl []),[],[],0⟩∧∃ vf,CFunc P f vf) :
  CProg0 P ⟨t.get,cloneNat cl⟩:=by
 have key:∀ f args blks ret,cloneNat cl f args blks=some ret→f∈cl∧args=[.d (.sl [])]∧blks=[]∧ret=⟨.d (.sl []),[],[],0⟩:=by
  intro f args blks ret h
  unfold cloneNat at h
  split at h
  ·cases h
  ·rename_i hf
   exact ⟨natMem_iff hf,cloneNat1_some h⟩
 refine ⟨FT.ok h,fun f args blks ret hr=>?_,fun f args blks ret hr=>?_⟩
 ·obtain ⟨hf,rfl,rfl,rfl⟩:=key f args blks ret hr
  exact (hcl f hf).1
 ·obtain ⟨hf,_⟩:=key f args blks ret hr
  obtain ⟨vf,hvf⟩:=(hcl f hf).2
  obtain ⟨fn,code,hfn,hbody,hname,_⟩:=hvf.ex
  exact ⟨fn,hfn,by rw [hbody];rfl,hname⟩
def lkN (m:List (Nat×Nat)) (f:Nat):Option Nat:=match m with
 |[]=>none
 |(k,sz)::r=>match Nat.beq f k with
  |true=>some sz
  |false=>lkN r f
theorem lkN_mem {f sz:Nat}:∀ {m:List (Nat×Nat)},lkN m f=some sz→(f,sz)∈m
 |(k,s)::r,h=>by
  simp only [lkN] at h
  split at h
  ·rename_i hk
   simp only [Option.some.injEq] at h;subst h
   rw [Nat.eq_of_beq_eq_true hk];exact List.mem_cons_self
  ·exact List.mem_cons_of_mem _ (lkN_mem h)
def cloneM (sz:Nat):List V→List (List V)→Option Ret
 |[.d (.sl [])],[]=>some ⟨.sl sz [] .full,[],[],0⟩
 |[.sl _ [] .full],[]=>some ⟨.sl sz [] .full,[],[],0⟩
 |_,_=>none
def cloneNat2 (l:List Nat) (m:List (Nat×Nat)):Orc:=fun f args blks=>match lkN m f with
 |some sz=>cloneM sz args blks
 |none=>cloneNat l f args blks
theorem VC_full {P:Program} {f:FuncId} {z:Nat} {ret:Ret} (h:VC P f [.d (.sl [])] [] ret):VC P f [.sl z [] .full] [] ret:=fun G w xs hx hR=>h G w xs ⟨hx.1,fun j c x hj hxj=>by
 match j with
 |0=>
  simp only [List.getElem?_cons_zero,Option.some.injEq] at hj
  subst hj
  have:=hx.2 0 _ x rfl hxj
  cases this with
  |full h _=>exact .d h
 |j+1=>simp at hj⟩ hR
theorem cprogT_clone2 {P:Program} {t:FT} (h:t.all (fun k v=>CFunc P k v)) {cl:List Nat} {cm:List (Nat×Nat)} (hcl:∀ f∈cl,VC P f [.d (.sl [])] [] ⟨.d (.sl []),[],[],0⟩∧∃ vf,CFunc P f vf)
  (hcm:∀ p∈cm,VC P p.1 [.d (.sl [])] [] ⟨.sl p.2 [] .full,[],[],0⟩∧∃ vf,CFunc P p.1 vf) :
  CProg P ⟨t.get,cloneNat2 cl cm⟩:=by
 have old:=cprogT_clone h hcl
 have key:∀ f args blks ret,cloneNat2 cl cm f args blks=some ret→cloneNat cl f args blks=some ret∨∃ sz,(f,sz)∈cm∧(args=[.d (.sl [])]∨∃ z,args=[.sl z [] .full])∧blks=[]∧ret=⟨.sl sz [] .full,[],[],0⟩:=by
  intro f args blks ret h
  unfold cloneNat2 at h
  split at h
  ·rename_i sz hf
   unfold cloneM at h
   split at h
   ·simp only [Option.some.injEq] at h
    exact .inr ⟨sz,lkN_mem hf,.inl rfl,rfl,h.symm⟩
   ·simp only [Option.some.injEq] at h
    exact .inr ⟨sz,lkN_mem hf,.inr ⟨_,rfl⟩,rfl,h.symm⟩
   ·cases h
  ·exact .inl h
 obtain ⟨o1,o2,o3⟩:=old
 refine CProg0.up ⟨FT.ok h,fun f args blks ret hr=>?_,fun f args blks ret hr=>?_⟩
 ·rcases key f args blks ret hr with hr|⟨sz,hf,rfl|⟨z,rfl⟩,rfl,rfl⟩
  ·exact o2 _ _ _ _ hr
  ·exact (hcm _ hf).1
  ·exact VC_full (hcm _ hf).1
 ·rcases key f args blks ret hr with hr|⟨sz,hf,_,rfl,rfl⟩
  ·exact o3 _ _ _ _ hr
  ·obtain ⟨vf,hvf⟩:=(hcm _ hf).2
   obtain ⟨fn,code,hfn,hbody,hname,_⟩:=hvf.ex
   exact ⟨fn,hfn,by rw [hbody];rfl,hname⟩
theorem full_of_nil {G:Gh} {v:Value} {sz:Nat} (h:RelV G .nil v):RelV G (.sl sz [] .full) v:=by
 cases h;exact .full (RelD.nil _) (by simp)
theorem OKs.nil:OKs []:=fun p h=>by cases h
theorem OKs.cons {a b:Bool} {l:List (Bool×Bool)} (h:a=b) (hl:OKs l):OKs ((a,b)::l):=fun p hp=>by
 rcases List.mem_cons.1 hp with rfl|hp
 ·exact h
 ·exact hl p hp
end Go.VM
namespace Go.VM
noncomputable def cA (VP:VProg) (fn:FuncId→Option VFunc) (A:Orc) (F:Nat) (d:Nat):CF:=
 Nat.rec (motive:=fun _=>CF) (fun _ _ _ _ _=>none) (fun _ ih f a b fl k=>match A f a b with
  |some ⟨v,rb,lv,g⟩=>fV v fun v=>fLL rb fun rb=>askF fl (CV VP f a b=some ⟨v,rb,lv,g⟩) fun fl'=>numF v fl' fun v' fl2=>k ⟨v',rb,lv,g⟩ fl2
  |none=>match VP.nat f a b with
   |some r=>k r fl
   |none=>match fn f with
    |some vf=>runF ih F vf a b fl k
    |none=>bigF VP fn ih F f a b fl k) d
theorem cA_ok {VP:VProg} {fn:FuncId→Option VFunc} (hfn:∀ f vf,fn f=some vf→VP.fn f=some vf) (A:Orc) (F:Nat):∀ d,CFok VP (cA VP fn A F d)
 |0=>fun f a b fl k x h=>by cases h
 |d+1=>fun f a b fl k x h=>by
  have ih:=cA_ok hfn A F d
  simp only [cA] at h
  split at h
  ·rename_i v rb lv g hr
   rw [fV_eq,fLL_eq] at h
   obtain ⟨l,ob,vs⟩:=fl
   obtain ⟨v',f2,h1,h2,h3⟩:=numF_some h
   exact ⟨_,f2,fun _ hm=>h1 (List.mem_cons_of_mem _ hm),fun hok=>by rw [← h2 hok];exact of_prB (hok _ (h1 List.mem_cons_self)),h3⟩
  ·split at h
   ·rename_i r hr
    exact ⟨r,fl,fun _ h=>h,fun _=>CV_nat hr,h⟩
   ·rename_i hn
    split at h
    ·rename_i vf hf
     obtain ⟨e,st',ret,f1,h1,h2,h3,h4,h5⟩:=runF_some ih F h
     exact ⟨ret,f1,h1,fun hok=>CV_of (hfn _ _ hf) hn (h2 hok) h3 h4,h5⟩
    ·exact bigF_some hfn ih F hn h
noncomputable def goR (C:CF) (F:Nat) (vf:VFunc) (fl:List (Nat×Bool)) (vs:List Int) (args:List V) (bl:List (List V)):Rs:=runF C F vf args bl ⟨fl,[],vs⟩ fun r f=>some (r,f.ob)
theorem CV_R {VP:VProg} {C:CF} (hC:CFok VP C) (F:Nat) {vf:VFunc} (fl:List (Nat×Bool)) (vs:List Int) {f:FuncId} {args:List V} {bl:List (List V)} {r:Ret} {ob:List (Bool×Bool)} (hf:VP.fn f=some vf) (hn:VP.nat f args bl=none)
  (h:goR C F vf fl vs args bl=some (r,ob)) (ho:OKs ob):CV VP f args bl=some r:=by
 obtain ⟨e,st',ret,f1,h1,h2,h3,h4,h5⟩:=runF_some hC F h
 simp only [Option.some.injEq,Prod.mk.injEq] at h5
 obtain ⟨rfl,rfl⟩:=h5
 exact CV_of hf hn (h2 ho) h3 h4
structure Seg (ks:List Nat) (n:Nat) (vs:List V) (bl:List (List V)) (lv:List Nat) (gn ba:Nat) (st:St):Prop where
 len:st.tmps.length=n
 get:ks.map (fun k=>st.tmps.getD k .any)=vs
 blocks:st.blocks=bl
 live:st.live=lv
 gn:st.gn=gn
 base:st.base=ba
 dep:st.dep=0
def keepK:List Bool→Nat→List Nat
 |[],_=>[]
 |true::r,i=>i::keepK r (i+1)
 |false::r,i=>keepK r (i+1)
def keepT:List Bool→List V→List V
 |[],_=>[]
 |true::r,v::vs=>v::keepT r vs
 |true::r,[]=>.any::keepT r []
 |false::r,vs=>.any::keepT r vs
theorem keepT_ok (l:List V):∀ (keep:List Bool) (i:Nat),keepT keep ((keepK keep i).map fun k=>l.getD k .any)=(List.range' i keep.length).map fun j=>if keep.getD (j-i) false=true then l.getD j .any else .any
 |[],i=>rfl
 |true::r,i=>by
  simp only [keepK,List.map_cons,keepT,keepT_ok l r (i+1),List.length_cons,List.range'_succ,Nat.sub_self,List.getD_cons_zero,if_true]
  congr 1
  refine List.map_congr_left fun j hj=>?_
  have:=(List.mem_range'.1 hj)
  obtain ⟨k,hk,rfl⟩:=this
  rw [show i+1+1*k-i=(i+1+1*k-(i+1))+1 by omega,List.getD_cons_succ]
 |false::r,i=>by
  simp only [keepK,keepT,keepT_ok l r (i+1),List.length_cons,List.range'_succ,List.map_cons,Nat.sub_self,List.getD_cons_zero,Bool.false_eq_true,if_false]
  congr 1
  refine List.map_congr_left fun j hj=>?_
  have:=(List.mem_range'.1 hj)
  obtain ⟨k,hk,rfl⟩:=this
  rw [show i+1+1*k-i=(i+1+1*k-(i+1))+1 by omega,List.getD_cons_succ]
theorem forget_keepT {keep:List Bool} {l:List V} (h:keep.length=l.length):forget keep l=keepT keep ((keepK keep 0).map fun k=>l.getD k .any):=by
 rw [keepT_ok]
 apply List.ext_getElem?
 intro i
 have h1:=fgt_get keep l i
 have h2:=fgt_len keep l
 rw [List.getElem?_map]
 rcases Nat.lt_or_ge i l.length with hlt|hge
 ·have hi:i<(forget keep l).length:=by rw [h2];exact hlt
  rw [List.getElem?_eq_getElem hi,List.getElem?_eq_getElem (by simp;omega)]
  rw [List.getD_eq_getElem?_getD,List.getElem?_eq_getElem hi] at h1
  simp only [Option.getD_some] at h1
  rw [h1]
  simp
 ·rw [List.getElem?_eq_none (by rw [h2];exact hge),List.getElem?_eq_none (by simp;omega)]
  rfl
theorem Seg.at {keep:List Bool} {n N:Nat} {vs:List V} {bl:List (List V)} {lv:List Nat} {gn ba:Nat} {st:St} (h:Seg (keepK keep 0) N vs bl lv gn ba st) (hk:keep.length=N):At keep n st (keepT keep vs) (bl.take n) lv gn ba:=
 ⟨by rw [forget_keepT (hk.trans h.len.symm),h.get],by rw [h.blocks],h.live,h.gn,h.base,h.dep⟩
theorem Seg.all {n:Nat} {vs:List V} {bl:List (List V)} {lv:List Nat} {gn ba:Nat} {st:St} (h:Seg (List.range n) n vs bl lv gn ba st):st=⟨vs,bl,lv,gn,ba,0⟩:=by
 obtain ⟨ts,bl',lv',gn',ba',de⟩:=st
 obtain ⟨h1,h2,h3,h4,h5,h6,h7⟩:=h
 simp only at h1 h2 h3 h4 h5 h6 h7
 subst h3 h4 h5 h6 h7
 congr 1
 rw [← h2]
 apply List.ext_getElem?
 intro i
 rw [List.getElem?_map]
 rcases Nat.lt_or_ge i ts.length with hlt|hge
 ·rw [List.getElem?_range (by omega)]
  simp [hlt]
 ·rw [List.getElem?_eq_none hge,List.getElem?_eq_none (by simp;omega)]
  rfl
noncomputable def endF (C:CF) (F:Nat) (fl:List (Nat×Bool)) (vs:List Int) (vf:VFunc) (n:Nat) (c:VCode) (ts:List V) (bl:List (List V)) (lv:List Nat) (gn ba:Nat):Rs:=
 inT ts fun t=>exF C (lenK ts) F c t ⟨[],bl,lv,gn,ba,0⟩ ⟨fl,[],vs⟩ fun e t s fl=>match e with
  |.exit _=>none
  |.normal=>retF vf n t s fun ret=>some (ret,fl.ob)
  |.ret=>retF vf n t s fun ret=>some (ret,fl.ob)
end Go.VM
namespace Go.VM
def flat:VCode→List VCode
 |.seq a b=>flat a++flat b
 |c=>[c]
section
variable {VP:VProg}
end
end Go.VM
namespace Go.VM
noncomputable def ansB (VP:VProg) (f:FuncId) (a:List V):Bool:=
 @dite Bool (∃ b,CV VP f a []=some ⟨.d (.lit (.bool b)),[],[],0⟩) (Classical.propDecidable _) (fun h=>Classical.choose h) (fun _=>false)
theorem ansB_spec {VP:VProg} {f:FuncId} {a:List V} (h:∃ b,CV VP f a []=some ⟨.d (.lit (.bool b)),[],[],0⟩):CV VP f a []=some ⟨.d (.lit (.bool (ansB VP f a))),[],[],0⟩:=by
 unfold ansB
 rw [dif_pos h]
 exact Classical.choose_spec h
theorem ansB_eq {VP:VProg} {f:FuncId} {a:List V} {b:Bool} (h:CV VP f a []=some ⟨.d (.lit (.bool b)),[],[],0⟩):ansB VP f a=b:=by
 have h1:=ansB_spec ⟨b,h⟩
 rw [h] at h1
 simp only [Option.some.injEq,Ret.mk.injEq,V.d.injEq,D.lit.injEq,Value.bool.injEq,and_true] at h1
 exact h1.symm
end Go.VM
namespace Go.VM
section
variable {H:Type} {enc:TypeId×Value→H} {P:Program} {W:World} {spare:Nat→Bool} {held:Bool}
end
section
variable {H:Type} {enc:TypeId×Value→H} {P:Program} {W:World} {spare:Nat→Bool} {held:Bool} {t:TypeId} {v:Value} {d:DataW H} {ps:List MemPlace} {r:Reach} {base:Nat}
end
end Go.VM
