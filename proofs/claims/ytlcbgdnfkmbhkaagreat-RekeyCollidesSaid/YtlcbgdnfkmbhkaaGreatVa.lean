/- The value level machine, first part: what values, states and operations are and that the operations are right. Conditions: none. -/
import Derived.WalkKit
import Derived.ChangeKeysEq
import Derived.Laws.StructEq
import Derived.Laws.Cover3
import Derived.Laws.IdiomStrings
set_option linter.unusedSimpArgs false
set_option linter.unusedVariables false
namespace Go.VM
inductive D where
 |lit (v:Value)
 |sl (es:List (List D))
 deriving Inhabited
inductive Tag where
 |full
 |own (dep g:Nat)
 deriving Inhabited,DecidableEq
inductive V where
 |any
 |nil
 |d (x:D)
 |sl (sz:Nat) (es:List (List D)) (t:Tag)
 |loc (id off len sz:Nat)
 |ptr (id off:Nat)
 |ep (cs:List D)
 |epv (v:V)
 |psl (vs:List V)
 |agg (cs:List V)
 |tup (vs:List V)
 |fn (f:FuncId) (cap:List V)
 deriving Inhabited
def sc:Value→Bool
 |.agg _|.tuple _=>false
 |_=>true
theorem sc_one {v:Value} (h:sc v=true):v.oneCell'=true:=by cases v<;>simp_all [sc,Value.oneCell']
theorem sc_cells {v:Value} (h:sc v=true):v.cells=#[v]:=by cases v<;>simp_all [sc,Value.cells]
abbrev Fz:=Nat→Nat→Option Value
def Fz.le (F F':Fz):Prop:=∀ b o u,F b o=some u→F' b o=some u
theorem Fz.le_refl (F:Fz):F.le F:=fun _ _ _ h=>h
theorem Fz.le_trans {F G H:Fz} (a:F.le G) (b:G.le H):F.le H:=fun _ _ _ h=>b _ _ _ (a _ _ _ h)
inductive RelD (F:Fz):D→Value→Prop
 |lit (v:Value) (h:sc v=true):RelD F (.lit v) v
 |sl (es:List (List D)) (a:Option Addr) (len cap sz:Nat) (u:Nat→Nat→Value)
   (hlen:len=es.length) (hcap:len≤cap) (hmax:cap≤maxLen)
   (hrow:∀ (i:Nat) row,es[i]?=some row→row.length=sz)
   (hb:es≠[]→∃ b o,a=some ⟨b,o,none⟩∧∀ (i j:Nat),i<es.length→j<sz→F b (o+(i*sz+j))=some (u i j))
   (hr:∀ (i j:Nat) row c,es[i]?=some row→row[j]?=some c→RelD F c (u i j)) :
   RelD F (.sl es) (.slice a len cap)
theorem RelD.sc {F:Fz} {x:D} {v:Value} (h:RelD F x v):sc v=true:=by
 cases h<;>simp_all [VM.sc]
theorem RelD.mono {F F':Fz} (hF:F.le F') {x:D} {v:Value} (h:RelD F x v):RelD F' x v:=by
 induction h with
 |lit v h=>exact .lit v h
 |sl es a len cap sz u hlen hcap hmax hrow hb hr ih=>
  refine .sl es a len cap sz u hlen hcap hmax hrow (fun h=>?_) ih
  obtain ⟨b,o,ha,hc⟩:=hb h
  exact ⟨b,o,ha,fun i j hi hj=>hF _ _ _ (hc i j hi hj)⟩
theorem RelD.nil (F:Fz):RelD F (.sl []) (.slice none 0 0):=
 .sl [] none 0 0 0 (fun _ _=>default) rfl (Nat.le_refl _) (Nat.zero_le _) (by simp) (fun h=>absurd rfl h) (by simp)
structure Gh where
 F:Fz
 ι:Nat→Option Nat
 τ:Nat→Nat→Option (Value×Nat)
 dep:Nat
 gn:Nat
 dd:Nat→Bool:=fun _=>false
 ζ:Nat→Nat:=fun _=>0
def Gh.old (G:Gh):Gh:={ G with gn:=0 }
def Gh.okTag (G:Gh) (d g:Nat):Prop:=d<G.dep∨(d=G.dep∧g<G.gn)
structure Gh.le (G G':Gh):Prop where
 F:G.F.le G'.F
 ι:∀ i b,G.ι i=some b→G'.ι i=some b
 τ:∀ d g v,G.okTag d g→G'.τ d g=some v→G.τ d g=some v
 tag:∀ d g,G.okTag d g→G'.okTag d g
 ζ:∀ i b,G.ι i=some b→G'.ζ i=G.ζ i
theorem Gh.le_refl (G:Gh):G.le G:=⟨Fz.le_refl G.F,fun _ _ h=>h,fun _ _ _ _ h=>h,fun _ _ h=>h,fun _ _ _=>rfl⟩
theorem Gh.le_trans {G H K:Gh} (a:G.le H) (b:H.le K):G.le K:=
 ⟨Fz.le_trans a.F b.F,fun i x h=>b.ι i x (a.ι i x h),fun d g v ht h=>a.τ d g v ht (b.τ d g v (a.tag d g ht) h),fun d g h=>b.tag d g (a.tag d g h),fun i x h=>(b.ζ i x (a.ι i x h)).trans (a.ζ i x h)⟩
theorem Gh.old_le (G:Gh):G.old.le G:=
 ⟨Fz.le_refl G.F,fun _ _ h=>h,fun _ _ _ _ h=>h,fun d g h=>by rcases h with h|⟨h,hg⟩;exact .inl h;exact absurd hg (Nat.not_lt_zero _),fun _ _ _=>rfl⟩
def Suf (v v0:Value) (sz:Nat):Prop:=v=v0∨∃ a0 a len cap k,v=.slice a len cap∧v0=.slice a0 (len+k) (cap+k)∧(a=a0.map (·.add (k*sz))∨cap=0)
inductive RelV (G:Gh):V→Value→Prop
 |any (v:Value):RelV G .any v
 |nil:RelV G .nil (.slice none 0 0)
 |d {x:D} {v:Value} (h:RelD G.F x v):RelV G (.d x) v
 |full {sz:Nat} {es:List (List D)} {a:Option Addr} {len:Nat} (h:RelD G.F (.sl es) (.slice a len len)) (hrow:∀ row∈es,row.length=sz) :
   RelV G (.sl sz es .full) (.slice a len len)
 |own {sz:Nat} {es:List (List D)} {dep g:Nat} {v:Value} (h:RelD G.F (.sl es) v) (hrow:∀ row∈es,row.length=sz) (hg:G.okTag dep g)
   (ht:∀ p,G.τ dep g=some p→p.2=sz∧Suf v p.1 sz):RelV G (.sl sz es (.own dep g)) v
 |loc {id off len sz b cap:Nat} (h:G.ι id=some b) (hc:len≤cap) (hm:cap≤maxLen) (hz:off+cap*sz≤G.ζ id):RelV G (.loc id off len sz) (.slice (some ⟨b,off,none⟩) len cap)
 |ptr {id off b:Nat} (h:G.ι id=some b):RelV G (.ptr id off) (.pointer (some ⟨b,off,none⟩))
 |ep {cs:List D} {b o:Nat} (u:Nat→Value) (hc:∀ j,j<cs.length→G.F b (o+j)=some (u j)) (hr:∀ (j:Nat) c,cs[j]?=some c→RelD G.F c (u j)) :
   RelV G (.ep cs) (.pointer (some ⟨b,o,none⟩))
 |epv {x:V} {b o:Nat} {u:Value} (hc:G.F b o=some u) (hs:VM.sc u=true) (hr:RelV G x u):RelV G (.epv x) (.pointer (some ⟨b,o,none⟩))
 |psl {vs:List V} {b o len cap:Nat} (u:Nat→Value) (hlen:len=vs.length) (hcap:len≤cap) (hmax:cap≤maxLen)
   (hc:∀ j,j<vs.length→G.F b (o+j)=some (u j)) (hs:∀ j,j<vs.length→VM.sc (u j)=true) (hr:∀ (j:Nat) c,vs[j]?=some c→RelV G c (u j)) :
   RelV G (.psl vs) (.slice (some ⟨b,o,none⟩) len cap)
 |agg {cs:List V} {xs:Array Value} (hl:xs.size=cs.length) (hs:∀ (j:Nat) x,xs[j]?=some x→VM.sc x=true)
   (hr:∀ (j:Nat) c x,cs[j]?=some c→xs[j]?=some x→RelV G c x):RelV G (.agg cs) (.agg xs)
 |tup {cs:List V} {xs:Array Value} (hl:xs.size=cs.length)
   (hr:∀ (j:Nat) c x,cs[j]?=some c→xs[j]?=some x→RelV G c x):RelV G (.tup cs) (.tuple xs)
 |fn {f:FuncId} {cap:List V} {xs:Array Value} (hl:xs.size=cap.length)
   (hr:∀ (j:Nat) c x,cap[j]?=some c→xs[j]?=some x→RelV G c x):RelV G (.fn f cap) (.func (.func f) #[] xs)
theorem RelV.mono {G G':Gh} (hG:G.le G') {x:V} {v:Value} (h:RelV G x v):RelV G' x v:=by
 induction h with
 |any v=>exact .any v
 |nil=>exact .nil
 |d h=>exact .d (h.mono hG.F)
 |full h hrow=>exact .full (h.mono hG.F) hrow
 |own h hrow hg ht=>exact .own (h.mono hG.F) hrow (hG.tag _ _ hg) (fun v' h'=>ht v' (hG.τ _ _ _ hg h'))
 |loc h hc hm hz=>exact .loc (hG.ι _ _ h) hc hm (by rw [hG.ζ _ _ h];exact hz)
 |ptr h=>exact .ptr (hG.ι _ _ h)
 |ep u hc hr=>exact .ep u (fun j hj=>hG.F _ _ _ (hc j hj)) (fun j c hj=>(hr j c hj).mono hG.F)
 |epv hc hs hr ih=>exact .epv (hG.F _ _ _ hc) hs ih
 |psl u hlen hcap hmax hc hs hr ih=>exact .psl u hlen hcap hmax (fun j hj=>hG.F _ _ _ (hc j hj)) hs ih
 |agg hl hs hr ih=>exact .agg hl hs ih
 |tup hl hr ih=>exact .tup hl ih
 |fn hl hr ih=>exact .fn hl ih
def V.isCell:V→Bool
 |.any|.agg _|.tup _=>false
 |_=>true
theorem RelV.cell_sc {G:Gh} {x:V} {v:Value} (h:RelV G x v) (hx:x.isCell=true):sc v=true:=by
 cases h<;>first|rfl|(simp [V.isCell] at hx;done)|skip
 case d h=>exact h.sc
 case own h _ _ _=>exact (by assumption:RelD _ _ _).sc
def erS (sz:Nat) (es:List (List D)) (t:Tag):V:=match t with
 |.own _ _=>.d (.sl es)
 |.full=>match es with
  |[]=>.sl sz [] .full
  |e::es=>.d (.sl (e::es))
mutual
def V.er:V→V
 |.nil=>.d (.sl [])
 |.sl sz es t=>erS sz es t
 |.epv v=>.epv v.er
 |.psl vs=>.psl (V.erL vs)
 |.agg vs=>.agg (V.erL vs)
 |.tup vs=>.tup (V.erL vs)
 |.fn f vs=>.fn f (V.erL vs)
 |v=>v
def V.erL:List V→List V
 |[]=>[]
 |v::vs=>v.er::V.erL vs
end
theorem V.erL_eq:∀ vs:List V,V.erL vs=vs.map V.er
 |[]=>rfl
 |v::vs=>by rw [V.erL,V.erL_eq vs];rfl
theorem erS_cons (sz:Nat) (e:List D) (es:List (List D)) (t:Tag):erS sz (e::es) t=.d (.sl (e::es)):=by cases t<;>rfl
theorem erS_own (sz:Nat) (es:List (List D)) (a b:Nat):erS sz es (.own a b)=.d (.sl es):=by cases es<;>rfl
theorem RelV.er {G:Gh} {x:V} {v:Value} (h:RelV G x v):RelV G.old x.er v:=by
 induction h with
 |any v=>exact .any v
 |nil=>exact .d (RelD.nil _)
 |d h=>exact .d h
 |@full sz es a len h hrow=>
  simp only [V.er]
  cases es with
  |nil=>exact .full h hrow
  |cons e es=>rw [erS_cons];exact .d h
 |own h hrow hg ht=>rw [V.er,erS_own];exact .d h
 |loc h hc hm hz=>exact .loc h hc hm hz
 |ptr h=>exact .ptr h
 |ep u hc hr=>exact .ep u hc hr
 |epv hc hs hr ih=>exact .epv hc hs ih
 |psl u hlen hcap hmax hc hs hr ih=>
  simp only [V.er,V.erL_eq]
  refine .psl u (by simpa using hlen) hcap hmax (fun j hj=>hc j (by simpa using hj)) (fun j hj=>hs j (by simpa using hj)) (fun j c hj=>?_)
  rw [List.getElem?_map] at hj
  obtain ⟨c0,h0,rfl⟩:=Option.map_eq_some_iff.1 hj
  exact ih j c0 h0
 |agg hl hs hr ih=>
  simp only [V.er,V.erL_eq]
  refine .agg (by simpa using hl) hs (fun j c x hj hx=>?_)
  rw [List.getElem?_map] at hj
  obtain ⟨c0,h0,rfl⟩:=Option.map_eq_some_iff.1 hj
  exact ih j c0 x h0 hx
 |tup hl hr ih=>
  simp only [V.er,V.erL_eq]
  refine .tup (by simpa using hl) (fun j c x hj hx=>?_)
  rw [List.getElem?_map] at hj
  obtain ⟨c0,h0,rfl⟩:=Option.map_eq_some_iff.1 hj
  exact ih j c0 x h0 hx
 |fn hl hr ih=>
  simp only [V.er,V.erL_eq]
  refine .fn (by simpa using hl) (fun j c x hj hx=>?_)
  rw [List.getElem?_map] at hj
  obtain ⟨c0,h0,rfl⟩:=Option.map_eq_some_iff.1 hj
  exact ih j c0 x h0 hx
mutual
def V.ltb (n:Nat):V→Bool
 |.loc id _ _ _=>decide (id<n)
 |.ptr id _=>decide (id<n)
 |.epv v=>v.ltb n
 |.psl vs=>V.ltbL n vs
 |.agg vs=>V.ltbL n vs
 |.tup vs=>V.ltbL n vs
 |.fn _ vs=>V.ltbL n vs
 |_=>true
def V.ltbL (n:Nat):List V→Bool
 |[]=>true
 |v::vs=>v.ltb n&&V.ltbL n vs
end
theorem V.ltbL_mem {n:Nat}:∀ {vs:List V},V.ltbL n vs=true→∀ (j:Nat) c,vs[j]?=some c→c.ltb n=true
 |[],_,j,c,h=>by simp at h
 |v::vs,h,0,c,hc=>by
  simp [V.ltbL] at h
  simp at hc
  subst hc
  exact h.1
 |v::vs,h,j+1,c,hc=>by
  simp [V.ltbL] at h
  exact V.ltbL_mem h.2 j c (by simpa using hc)
def Gh.cut (G:Gh) (n:Nat):Gh:={ G with ι:=fun i=>if i<n then G.ι i else none,dd:=fun i=>if i<n then G.dd i else false }
theorem RelV.cut {G:Gh} {n:Nat} {x:V} {v:Value} (h:RelV G x v) (hn:x.ltb n=true):RelV (G.cut n) x v:=by
 induction h with
 |any v=>exact .any v
 |nil=>exact .nil
 |d h=>exact .d h
 |full h hrow=>exact .full h hrow
 |own h hrow hg ht=>exact .own h hrow hg ht
 |loc h hc hm hz=>simp [V.ltb] at hn;exact .loc (by simp [Gh.cut,hn,h]) hc hm hz
 |ptr h=>simp [V.ltb] at hn;exact .ptr (by simp [Gh.cut,hn,h])
 |ep u hc hr=>exact .ep u hc hr
 |epv hc hs hr ih=>simp [V.ltb] at hn;exact .epv hc hs (ih hn)
 |psl u hlen hcap hmax hc hs hr ih=>simp [V.ltb] at hn;exact .psl u hlen hcap hmax hc hs (fun j c hj=>ih j c hj (V.ltbL_mem hn j c hj))
 |agg hl hs hr ih=>simp [V.ltb] at hn;exact .agg hl hs (fun j c x hj hx=>ih j c x hj hx (V.ltbL_mem hn j c hj))
 |tup hl hr ih=>simp [V.ltb] at hn;exact .tup hl (fun j c x hj hx=>ih j c x hj hx (V.ltbL_mem hn j c hj))
 |fn hl hr ih=>simp [V.ltb] at hn;exact .fn hl (fun j c x hj hx=>ih j c x hj hx (V.ltbL_mem hn j c hj))
end Go.VM
namespace Go.VM
inductive CK where
 |i
 |b
 |s
 deriving Inhabited,DecidableEq
inductive VArg where
 |t (n:Nat)
 |c (v:V)
 deriving Inhabited
def VArg.ev (ts:List V):VArg→V
 |.t n=>ts.getD n .any
 |.c v=>v
inductive VOp where
 |mov (x:VArg)
 |pick (c a b:VArg)
 |box (cells:List V)
 |boxv (n:Nat) (x:VArg)
 |build (zero:List V) (parts:List (Nat×Nat×VArg))
 |buildSl (len sz:Nat) (zero:List V) (parts:List (Nat×VArg)) (mt:Bool)
 |load (x:VArg) (n:Nat) (ag:Bool)
 |store (a x:VArg) (n:Nat)
 |nilChk (x:VArg)
 |bin (op:BinOp) (x y:VArg)
 |eqb (neg:Bool) (x y:VArg)
 |eqs (neg:Bool) (ks:List CK) (x y:VArg)
 |un (op:UnOp) (x:VArg)
 |convI (k:IntKind) (x:VArg)
 |bytesS (x:VArg)
 |sBytes (x:VArg)
 |mkfn (f:FuncId) (caps:List VArg)
 |mkSl (zero:List V) (len cap:VArg) (mt:Bool)
 |slice (sz:Nat) (x:VArg) (lo hi:Option VArg)
 |sliceS (x:VArg) (lo hi:Option VArg)
 |slice3 (sz:Nat) (x:VArg) (lo:Option VArg) (hi mx:VArg)
 |sliceA (n sz:Nat) (x:VArg) (lo hi:Option VArg)
 |fieldA (x:VArg) (off:Nat)
 |field (x:VArg) (off n:Nat) (ag:Bool)
 |idxA (sz:Nat) (x i:VArg)
 |idxAA (len sz:Nat) (x i:VArg)
 |idx (len sz:Nat) (ag:Bool) (x i:VArg)
 |idxS (x i:VArg)
 |len (x:VArg)
 |lenC (n:Nat)
 |lenS (x:VArg)
 |strId (x:VArg)
 |nilEq (neg:Bool) (x:VArg)
 |app (sz:Nat) (x y:VArg) (mt:Bool)
 |mm (isMax:Bool) (x y:VArg)
 |call (f:FuncId) (args:List VArg)
 |callv (x:VArg) (args:List VArg)
 |ext (x:VArg) (i:Nat)
 |frz (x:VArg) (ld:Option (Nat×Bool))
 |inl (f:FuncId) (args:List VArg)
 deriving Inhabited
def frzIn (x:VArg):Option (Nat×Bool)→VOp
 |none=>.mov x
 |some (n,ag)=>.load x n ag
def V.cells:V→Option (List V)
 |.agg cs=>some cs
 |.any|.tup _=>none
 |v=>some [v]
def V.int:V→Option (IntKind×Int)
 |.d (.lit (.int k n))=>some (k,n)
 |_=>none
def V.bool:V→Option Bool
 |.d (.lit (.bool b))=>some b
 |_=>none
def V.str:V→Option ByteArray
 |.d (.lit (.string b))=>some b
 |_=>none
def lit (v:Value):V:=.d (.lit v)
def strBound:Nat:=2 ^ 40
def vInt (op:BinOp) (k:IntKind) (a b:Int):Option V:=
 match op with
 |.add=>some (lit (.int k (k.wrap (a+b))))
 |.sub=>some (lit (.int k (k.wrap (a-b))))
 |.mul=>some (lit (.int k (k.wrap (a*b))))
 |.quo=>if b=0 then none else some (lit (.int k (k.wrap (a.tdiv b))))
 |.rem=>if b=0 then none else some (lit (.int k (a.tmod b)))
 |.and=>some (lit (.int k (k.wrap (BitVec.ofInt k.bits a &&& BitVec.ofInt k.bits b).toNat)))
 |.or=>some (lit (.int k (k.wrap (BitVec.ofInt k.bits a ||| BitVec.ofInt k.bits b).toNat)))
 |.xor=>some (lit (.int k (k.wrap (BitVec.ofInt k.bits a ^^^ BitVec.ofInt k.bits b).toNat)))
 |.andNot=>some (lit (.int k (k.wrap (BitVec.ofInt k.bits a &&& ~~~ BitVec.ofInt k.bits b).toNat)))
 |.eql=>some (lit (.bool (a==b)))
 |.neq=>some (lit (.bool (a != b)))
 |.lss=>some (lit (.bool (decide (a<b))))
 |.leq=>some (lit (.bool (decide (a≤b))))
 |.gtr=>some (lit (.bool (decide (a>b))))
 |.geq=>some (lit (.bool (decide (a≥b))))
 |_=>none
def vShift (op:BinOp) (k:IntKind) (a b:Int):Option V:=
 match op with
 |.shl=>if b<0 then none else some (lit (.int k (k.wrap (a*2 ^ (min b.toNat k.bits)))))
 |.shr=>if b<0 then none else some (lit (.int k (a.fdiv (2 ^ (min b.toNat k.bits)))))
 |_=>none
def isShift:BinOp→Bool
 |.shl|.shr=>true
 |_=>false
def vStr (op:BinOp) (a b:ByteArray):Option V:=
 match op with
 |.add=>if a.size+b.size≤strBound then some (lit (.string (a++b))) else none
 |.eql=>some (lit (.bool (a.toList==b.toList)))
 |.neq=>some (lit (.bool (!(a.toList==b.toList))))
 |.lss=>some (lit (.bool (Op.bytesLess a.toList b.toList)))
 |.leq=>some (lit (.bool (Op.bytesLess a.toList b.toList||a.toList==b.toList)))
 |.gtr=>some (lit (.bool (!(Op.bytesLess a.toList b.toList||a.toList==b.toList))))
 |.geq=>some (lit (.bool (!(Op.bytesLess a.toList b.toList))))
 |_=>none
def vBin (op:BinOp) (x y:V):Option V:=
 match x,y with
 |.d (.lit (.int k a)),.d (.lit (.int k' b))=>if isShift op then vShift op k a b else if k=k' then vInt op k a b else none
 |.d (.lit (.string a)),.d (.lit (.string b))=>vStr op a b
 |_,_=>none
def vCellEq:CK→V→V→Option Bool
 |.i,.d (.lit (.int k a)),.d (.lit (.int k' b))=>if k=k' then some (a==b) else none
 |.b,.d (.lit (.bool a)),.d (.lit (.bool b))=>some (a==b)
 |.s,.d (.lit (.string a)),.d (.lit (.string b))=>some (a.toList==b.toList)
 |_,_,_=>none
def vCellsEq:List CK→List V→List V→Option Bool
 |[],[],[]=>some true
 |k::ks,x::xs,y::ys=>
  match vCellEq k x y,vCellsEq ks xs ys with
  |some a,some b=>some (a&&b)
  |_,_=>none
 |_,_,_=>none
def vUn (op:UnOp) (x:V):Option V:=
 match op,x with
 |.neg,.d (.lit (.int k n))=>some (lit (.int k (k.wrap (0-n))))
 |.xor,.d (.lit (.int k n))=>some (lit (.int k (k.wrap (BitVec.ofInt k.bits (if k.signed then -1 else k.max) ^^^ BitVec.ofInt k.bits n).toNat)))
 |.not,.d (.lit (.bool b))=>some (lit (.bool !b))
 |_,_=>none
def vLoadCells (bl:Nat→Option (List V)) (x:V) (n:Nat):Option (List V):=
 match x with
 |.ptr id off=>
  match bl id with
  |some cs=>if off+n≤cs.length then some ((cs.drop off).take n) else none
  |none=>none
 |.ep cs=>if n≤cs.length then some ((cs.take n).map .d) else none
 |.epv v=>if n=1 then some [v] else none
 |_=>none
def vShape (ag:Bool) (cs:List V):Option V:=
 if ag then some (.agg cs) else match cs with|[v]=>some v|_=>none
def vFill:List V→List (Nat×Nat×V)→Option (List V)
 |zero,[]=>some zero
 |zero,(off,n,x)::ps=>
  match x.cells with
  |some cs=>if cs.length=n∧off+n≤zero.length∧cs.all V.isCell then vFill (zero.take off++cs++zero.drop (off+n)) ps else none
  |none=>none
def V.toD:V→Option D
 |.nil=>some (.sl [])
 |.d x=>some x
 |.sl _ es _=>some (.sl es)
 |_=>none
def toDs:List V→Option (List D)
 |[]=>some []
 |v::vs=>match v.toD,toDs vs with|some x,some xs=>some (x::xs)|_,_=>none
def chunk {α:Type} (sz:Nat):Nat→List α→List (List α)
 |0,_=>[]
 |k+1,l=>l.take sz::chunk sz k (l.drop sz)
def vBounds (len:Nat) (lo hi:Option V):Option (Nat×Nat):=
 let h:Option Nat:=match hi with
  |none=>some len
  |some v=>match v.int with
   |some (_,n)=>if 0≤n∧n≤(len:Int) then some n.toNat else none
   |none=>none
 match h with
 |none=>none
 |some h=>match lo with
  |none=>some (0,h)
  |some v=>match v.int with
   |some (_,n)=>if 0≤n∧n≤(h:Int) then some (n.toNat,h) else none
   |none=>none
def vSlice (sz:Nat) (x:V) (lo hi:Option V):Option V:=
 match x with
 |.nil=>(vBounds 0 lo hi).map fun _=>.d (.sl [])
 |.d (.sl es)=>if es.all (fun r=>r.length==sz) then (vBounds es.length lo hi).map fun (l,h)=>.d (.sl ((es.take h).drop l)) else none
 |.sl s es (.own d g)=>if s=sz then match hi with
  |none=>(vBounds es.length lo none).map fun (l,_)=>.sl s (es.drop l) (.own d g)
  |some u=>(vBounds es.length lo (some u)).map fun (l,h)=>.d (.sl ((es.take h).drop l)) else none
 |.sl s es _=>if s=sz then (vBounds es.length lo hi).map fun (l,h)=>.d (.sl ((es.take h).drop l)) else none
 |.loc id off len s=>if s=sz then (vBounds len lo hi).map fun (l,h)=>if h=l then .d (.sl []) else .loc id (off+l*sz) (h-l) sz else none
 |_=>none
def vSlice3 (sz:Nat) (x:V) (lo:Option V) (hi mx:V):Option V:=
 match hi.int,mx.int with
 |some (_,h),some (_,m)=>if h=m then match vSlice sz x lo (some hi) with
  |some (.d (.sl es))=>if es.all (fun r=>r.length==sz) then some (.sl sz es .full) else none
  |_=>none
  else none
 |_,_=>none
def vIdx (len:Nat) (i:V):Option Nat:=
 match i.int with
 |some (_,n)=>if 0≤n∧n<(len:Int) then some n.toNat else none
 |none=>none
def vIdxA (sz:Nat) (x i:V):Option V:=
 match x with
 |.d (.sl es)=>match vIdx es.length i with
  |some k=>match es[k]? with
   |some row=>if row.length=sz then some (.ep row) else none
   |none=>none
  |none=>none
 |.sl s es _=>match vIdx es.length i with
  |some k=>match es[k]? with
   |some row=>if s=sz then some (.ep row) else none
   |none=>none
  |none=>none
 |.loc id off len s=>if s=sz then (vIdx len i).map fun k=>.ptr id (off+k*sz) else none
 |.psl vs=>match vIdx vs.length i with
  |some k=>if sz=1 then (vs[k]?).map .epv else none
  |none=>none
 |_=>none
def vFieldA (x:V) (off:Nat):Option V:=
 match x with
 |.ptr id o=>some (.ptr id (o+off))
 |.ep cs=>if off≤cs.length then some (.ep (cs.drop off)) else none
 |.epv v=>if off=0 then some (.epv v) else none
 |_=>none
def vField (x:V) (off n:Nat) (ag:Bool):Option V:=
 match x with
 |.agg cs=>if off+n≤cs.length then vShape ag ((cs.drop off).take n) else none
 |_=>none
def vLen (x:V):Option V:=
 match x with
 |.nil=>some (lit (.int .i64 0))
 |.d (.sl es)=>some (lit (.int .i64 es.length))
 |.sl _ es _=>some (lit (.int .i64 es.length))
 |.loc _ _ len _=>some (lit (.int .i64 len))
 |.psl vs=>some (lit (.int .i64 vs.length))
 |_=>none
def vIsNil:V→Option Bool
 |.nil=>some true
 |.d (.sl (_::_))|.sl _ (_::_) _|.loc _ _ _ _|.psl _=>some false
 |_=>none
def bytesOf:List (List D)→Option (List UInt8)
 |[]=>some []
 |[.lit (.int .u8 n)]::rest=>match bytesOf rest with|some l=>some (UInt8.ofNat n.toNat::l)|none=>none
 |_=>none
def vRows (x:V):Option (List (List D)):=
 match x with
 |.nil=>some []
 |.d (.sl es)=>some es
 |.sl _ es _=>some es
 |_=>none
def vPure (bl:Nat→Option (List V)) (ρ:VArg→V):VOp→Option V
 |.mov x=>some (ρ x)
 |.pick c a b=>match (ρ c).bool with|some t=>some (if t then ρ a else ρ b)|none=>none
 |.build zero parts=>(vFill zero (parts.map fun (o,n,x)=>(o,n,ρ x))).map .agg
 |.load x n ag=>match vLoadCells bl (ρ x) n with|some cs=>vShape ag cs|none=>none
 |.nilChk x=>match ρ x with|.ptr id off=>some (.ptr id off)|.ep cs=>some (.ep cs)|.epv v=>some (.epv v)|.fn f c=>some (.fn f c)|_=>none
 |.bin op x y=>vBin op (ρ x) (ρ y)
 |.eqb neg x y=>match (ρ x).bool,(ρ y).bool with|some a,some b=>some (lit (.bool (if neg then !(a==b) else a==b)))|_,_=>none
 |.eqs neg ks x y=>match ρ x,ρ y with
  |.agg xs,.agg ys=>(vCellsEq ks xs ys).map fun b=>lit (.bool (if neg then !b else b))
  |_,_=>none
 |.un op x=>vUn op (ρ x)
 |.convI k x=>match (ρ x).int with|some (_,n)=>some (lit (.int k (k.wrap n)))|none=>none
 |.bytesS x=>match vRows (ρ x) with
  |some es=>match bytesOf es with|some l=>some (lit (.string ⟨l.toArray⟩))|none=>none
  |none=>none
 |.mkfn f caps=>some (.fn f (caps.map ρ))
 |.slice sz x lo hi=>vSlice sz (ρ x) (lo.map ρ) (hi.map ρ)
 |.slice3 sz x lo hi mx=>vSlice3 sz (ρ x) (lo.map ρ) (ρ hi) (ρ mx)
 |.sliceS x lo hi=>match (ρ x).str with
  |some s=>(vBounds s.size (lo.map ρ) (hi.map ρ)).map fun (l,h)=>lit (.string (s.extract l h))
  |none=>none
 |.fieldA x off=>vFieldA (ρ x) off
 |.field x off n ag=>vField (ρ x) off n ag
 |.idxA sz x i=>vIdxA sz (ρ x) (ρ i)
 |.idxAA len sz x i=>match vIdx len (ρ i) with|some k=>vFieldA (ρ x) (k*sz)|none=>none
 |.idx len sz ag x i=>match vIdx len (ρ i) with|some k=>vField (ρ x) (k*sz) sz ag|none=>none
 |.idxS x i=>match (ρ x).str with
  |some s=>match vIdx s.size (ρ i) with
   |some k=>match s[k]? with|some b=>some (lit (.int .u8 b.toNat))|none=>none
   |none=>none
  |none=>none
 |.len x=>vLen (ρ x)
 |.lenC n=>some (lit (.int .i64 n))
 |.lenS x=>match (ρ x).str with|some s=>some (lit (.int .i64 s.size))|none=>none
 |.nilEq neg x=>match vIsNil (ρ x) with|some b=>some (lit (.bool (if neg then !b else b)))|none=>none
 |.strId x=>match (ρ x).str with|some s=>some (lit (.string s))|none=>none
 |.mm mx x y=>match ρ x,ρ y with
  |.d (.lit (.int k a)),.d (.lit (.int _ b))=>some (lit (.int k (if mx then (if b>a then b else a) else (if b<a then b else a))))
  |_,_=>none
 |.ext x i=>match ρ x with|.tup vs=>vs[i]?|_=>none
 |_=>none
end Go.VM
namespace Go.VM
def aggD:TypeDesc→Bool
 |.struct _|.array _ _=>true
 |_=>false
section
variable {P:Program} {G:Gh} {w:World}
theorem run_isAgg' {t:TypeId} {d:TypeDesc} (h:P.underlying t=some d):(isAgg t).run P w=.ok (aggD d) w:=by
 simp only [isAgg,Sem.run_bind,run_underlying h,Result.andThen_ok]
 cases d<;>simp [aggD]
theorem run_sizeOf' {t:TypeId} {i:TypeInfo} (h:P.info? t=some i):(sizeOf t).run P w=.ok i.size w:=by
 simp [sizeOf,typeInfo,h]
theorem run_zero' {t:TypeId} {i:TypeInfo} {z:Value} (h:P.info? t=some i) (hz:i.zero=some z):(zeroValue t).run P w=.ok z w:=by
 simp [zeroValue,typeInfo,h,hz]
def Blk (G:Gh) (w:World) (id:Nat) (cs:List V):Prop:=
 ∃ b cur e,G.ι id=some b∧w.heap[b]?=some (.cells cur e (0,0))∧cs.length≤cur.size ∧
  ∀ (j:Nat) c x,cs[j]?=some c→cur[j]?=some x→sc x=true∧RelV G c x
def FzOk (F:Fz) (w:World):Prop:=∀ b o u,F b o=some u→w.cell? ⟨b,o,none⟩=some u
def RelT (G:Gh) (ts:List V) (xs:Array Value):Prop:=
 xs.size=ts.length∧∀ (t:Nat) v x,ts[t]?=some v→xs[t]?=some x→RelV G v x
theorem RelT.get {ts:List V} {xs:Array Value} (h:RelT G ts xs) (t:Nat):RelV G (ts.getD t .any) (xs.getD t undef):=by
 rcases Nat.lt_or_ge t ts.length with hl|hl
 ·have hx:t<xs.size:=by rw [h.1];exact hl
  have h1:ts[t]?=some ts[t]:=List.getElem?_eq_getElem hl
  have h2:xs[t]?=some xs[t]:=Array.getElem?_eq_getElem hx
  have:=h.2 t _ _ h1 h2
  simpa [List.getD,Array.getD,h1,hx] using this
 ·have:ts[t]?=none:=List.getElem?_eq_none hl
  simp only [List.getD,this,Option.getD_none]
  exact .any _
theorem RelT.set {ts:List V} {xs:Array Value} (h:RelT G ts xs) (t:Nat) {v:V} {x:Value} (hv:RelV G v x):RelT G (ts.set t v) (xs.setIfInBounds t x):=by
 refine ⟨by simp [h.1],fun k v' x' h1 h2=>?_⟩
 by_cases hk:t=k
 ·subst hk
  rw [List.getElem?_set] at h1
  rw [Array.getElem?_setIfInBounds] at h2
  simp only [if_true] at h1 h2
  split at h1<;>simp at h1
  split at h2<;>simp at h2
  subst h1;subst h2;exact hv
 ·rw [List.getElem?_set_ne hk] at h1
  rw [Array.getElem?_setIfInBounds_ne hk] at h2
  exact h.2 k v' x' h1 h2
theorem RelT.mono {G':Gh} {ts:List V} {xs:Array Value} (hG:G.le G') (h:RelT G ts xs):RelT G' ts xs:=
 ⟨h.1,fun t v x h1 h2=>(h.2 t v x h1 h2).mono hG⟩
inductive CArg:Operand→VArg→Prop
 |tmp (t:Nat):CArg (.tmp t) (.t t)
 |const {v:Value} {c:V} (h:∀ G,RelV G c v):CArg (.const v) (.c c)
 |func (f:FuncId):CArg (.func f) (.c (.fn f []))
theorem CArg.rel {x:Operand} {vx:VArg} (h:CArg x vx) {a:Act} {ts:List V} (ht:RelT G ts a.tmps):RelV G (vx.ev ts) (a.eval x):=by
 cases h with
 |tmp t=>exact ht.get t
 |const h=>exact h G
 |func f=>exact .fn rfl (by simp)
inductive COpt:Option Operand→Option VArg→Prop
 |none:COpt none none
 |some {x:Operand} {vx:VArg} (h:CArg x vx):COpt (some x) (some vx)
inductive CArgs:List Operand→List VArg→Prop
 |nil:CArgs [] []
 |cons {x:Operand} {vx:VArg} {xs:List Operand} {vxs:List VArg} (h:CArg x vx) (hs:CArgs xs vxs):CArgs (x::xs) (vx::vxs)
inductive CParts (place:Nat→Option (Nat×Nat)):List (Nat×Operand)→List (Nat×Nat×VArg)→Prop
 |nil:CParts place [] []
 |cons {i o n:Nat} {x:Operand} {vx:VArg} {xs:List (Nat×Operand)} {vxs:List (Nat×Nat×VArg)} (hp:place i=some (o,n)) (h:CArg x vx) (hs:CParts place xs vxs) :
   CParts place ((i,x)::xs) ((o,n,vx)::vxs)
theorem V.int_rel {v:V} {x:Value} (h:RelV G v x) {k:IntKind} {n:Int} (hi:v.int=some (k,n)):x=.int k n:=by
 unfold V.int at hi
 split at hi<;>simp at hi
 obtain ⟨rfl,rfl⟩:=hi
 cases h with|d h=>cases h;rfl
theorem V.bool_rel {v:V} {x:Value} (h:RelV G v x) {b:Bool} (hi:v.bool=some b):x=.bool b:=by
 unfold V.bool at hi
 split at hi<;>simp at hi
 subst hi
 cases h with|d h=>cases h;rfl
theorem V.str_rel {v:V} {x:Value} (h:RelV G v x) {b:ByteArray} (hi:v.str=some b):x=.string b:=by
 unfold V.str at hi
 split at hi<;>simp at hi
 subst hi
 cases h with|d h=>cases h;rfl
theorem rel_lit (v:Value) (h:sc v=true):RelV G (lit v) v:=.d (.lit v h)
theorem lit_rel {v x:Value} (h:RelV G (.d (.lit v)) x):x=v:=by
 cases h with|d h=>cases h;rfl
theorem cells_rel {v:V} {x:Value} (h:RelV G v x) {cs:List V} (hc:v.cells=some cs) :
  x.cells.size=cs.length∧∀ (j:Nat) c u,cs[j]?=some c→x.cells[j]?=some u→RelV G c u∧sc u=true:=by
 cases hv:v.isCell with
 |true=>
  have hs:=h.cell_sc hv
  have:cs=[v]:=by cases v<;>simp_all [V.cells,V.isCell]
  subst this
  rw [sc_cells hs]
  refine ⟨rfl,fun j c u h1 h2=>?_⟩
  match j with
  |0=>simp at h1 h2;subst h1;subst h2;exact ⟨h,hs⟩
  |j+1=>simp at h1
 |false=>
  cases h<;>simp [V.isCell] at hv<;>simp [V.cells] at hc
  subst hc
  rename_i hl hs hr
  exact ⟨by simpa [Value.cells] using hl,fun j c u h1 h2=>⟨hr j c u h1 h2,hs j u h2⟩⟩
theorem load_rel {bl:Nat→Option (List V)} (hb:∀ id cs,bl id=some cs→Blk G w id cs) (hf:FzOk G.F w) {v:V} {x:Value} (h:RelV G v x) {n:Nat} {cs:List V}
  (hc:vLoadCells bl v n=some cs):∃ b o,x=.pointer (some ⟨b,o,none⟩)∧cs.length=n∧∃ u:Nat→Value,∀ (j:Nat) c,cs[j]?=some c→w.cell? ⟨b,o+j,none⟩=some (u j)∧sc (u j)=true∧RelV G c (u j):=by
 cases h with
 |@ptr id off b h=>
  simp only [vLoadCells] at hc
  cases hbl:bl id with
  |none=>simp [hbl] at hc
  |some blk=>
   simp only [hbl] at hc
   split at hc<;>simp at hc
   rename_i hle
   obtain ⟨b',cur,e,hi,hh,hlen,hr⟩:=hb id blk hbl
   obtain rfl:b=b':=by rw [h] at hi;simpa using hi
   subst hc
   refine ⟨b,off,rfl,by simp;omega,fun j=>cur.getD (off+j) undef,fun j c hj=>?_⟩
   rw [List.getElem?_take] at hj
   split at hj<;>simp at hj
   have hlt:off+j<cur.size:=by have:=(List.getElem?_eq_some_iff.1 hj).1;omega
   have hcu:cur[off+j]?=some (cur.getD (off+j) undef):=by simp [Array.getD,hlt]
   have:=hr (off+j) c _ hj hcu
   refine ⟨?_,this⟩
   simp only [World.cell?,hh]
   simpa using hcu
 |@ep ds b o u hcell hr=>
  simp only [vLoadCells] at hc
  split at hc<;>simp at hc
  rename_i hle
  subst hc
  refine ⟨b,o,rfl,by simp;omega,u,fun j c hj=>?_⟩
  rw [← List.map_take,List.getElem?_map] at hj
  obtain ⟨d0,h0,rfl⟩:=Option.map_eq_some_iff.1 hj
  rw [List.getElem?_take] at h0
  split at h0
  case isFalse=>cases h0
  have hlt:=(List.getElem?_eq_some_iff.1 h0).1
  have:=hr j d0 h0
  exact ⟨hf _ _ _ (hcell j hlt),this.sc,.d this⟩
 |@epv y b o u hcell hs hr=>
  simp only [vLoadCells] at hc
  split at hc<;>simp at hc
  rename_i hn
  subst hn;subst hc
  refine ⟨b,o,rfl,rfl,fun _=>u,fun j c hj=>?_⟩
  match j with
  |0=>simp at hj;subst hj;exact ⟨hf _ _ _ hcell,hs,hr⟩
  |j+1=>simp at hj
 |_=>simp [vLoadCells] at hc
theorem rangeMap {n j:Nat} {u:Nat→Value} {x:Value} (h:(((List.range n).map u).toArray)[j]?=some x):j<n∧x=u j:=by
 simp only [List.getElem?_toArray,List.getElem?_map] at h
 obtain ⟨k,hk,rfl⟩:=Option.map_eq_some_iff.1 h
 obtain ⟨hlt,rfl⟩:=List.getElem?_eq_some_iff.1 hk
 simp at hlt
 exact ⟨hlt,by simp⟩
theorem run_loadVar' {t:TypeId} {d:TypeDesc} {i:TypeInfo} (hd:P.underlying t=some d) (hi:P.info? t=some i) (h1:aggD d=false→i.size=1)
  {b o:Nat} {cs:List V} {u:Nat→Value} (hl:cs.length=i.size) (hc:∀ (j:Nat) c,cs[j]?=some c→w.cell? ⟨b,o+j,none⟩=some (u j)∧sc (u j)=true∧RelV G c (u j))
  {r:V} (hs:vShape (aggD d) cs=some r):∃ x,(loadVar t ⟨b,o,none⟩).run P w=.ok x w∧RelV G r x:=by
 have hall:∀ j,j<cs.length→w.cell? ((⟨b,o,none⟩:Addr).add j)=some (u j):=fun j hj=>by
  have:=(hc j _ (List.getElem?_eq_getElem hj)).1
  unfold Addr.add
  split
  ·rename_i h0;subst h0;simpa using this
  ·exact this
 cases ha:aggD d with
 |true=>
  simp only [ha,vShape,if_true,Option.some.injEq] at hs
  subst hs
  refine ⟨.agg ((List.range cs.length).map u).toArray,?_,?_⟩
  ·simp only [loadVar,Sem.run_bind,run_isAgg' hd,Result.andThen_ok,ha,if_true,run_sizeOf' hi,← hl,run_loadCells w _ cs.length u hall,Sem.run_pure]
  ·refine .agg (by simp) (fun j x hj=>?_) (fun j c x hj hx=>?_)
   ·obtain ⟨hlt,rfl⟩:=rangeMap hj
    exact (hc j _ (List.getElem?_eq_getElem hlt)).2.1
   ·obtain ⟨hlt,rfl⟩:=rangeMap hx
    exact (hc j c hj).2.2
 |false=>
  simp only [ha,vShape,Bool.false_eq_true,if_false] at hs
  have h1':=h1 ha
  match cs,hs with
  |[v],hs=>
   simp at hs;subst hs
   have h0:=hc 0 v rfl
   refine ⟨u 0,?_,h0.2.2⟩
   have hcell:=hall 0 (by simp)
   simp only [Addr.add,if_true] at hcell
   simp [loadVar,run_isAgg' hd,ha,hcell]
def RelC (G:Gh) (vs:List V) (xs:Array Value):Prop:=
 xs.size=vs.length∧∀ (j:Nat) c x,vs[j]?=some c→xs[j]?=some x→sc x=true∧RelV G c x
theorem RelC.agg {vs:List V} {xs:Array Value} (h:RelC G vs xs):RelV G (.agg vs) (.agg xs):=
 .agg h.1 (fun j x hx=>by
  have hlt:j<vs.length:=by rw [← h.1];exact (Array.getElem?_eq_some_iff.1 hx).1
  exact (h.2 j _ x (List.getElem?_eq_getElem hlt) hx).1) (fun j c x h1 h2=>(h.2 j c x h1 h2).2)
theorem RelC.of_agg {vs:List V} {y:Value} (h:RelV G (.agg vs) y):∃ xs,y=.agg xs∧RelC G vs xs:=by
 cases h with
 |agg hl hs hr=>exact ⟨_,rfl,hl,fun j c x h1 h2=>⟨hs j x h2,hr j c x h1 h2⟩⟩
theorem RelC.mono {G':Gh} (hG:G.le G') {vs:List V} {xs:Array Value} (h:RelC G vs xs):RelC G' vs xs:=
 ⟨h.1,fun j c x h1 h2=>⟨(h.2 j c x h1 h2).1,(h.2 j c x h1 h2).2.mono hG⟩⟩
theorem foldSet_get (off:Nat):∀ (l:List Value) (s:Nat) (cs:Array Value) (k:Nat),
  ((l.zipIdx s).foldl (fun cs (c,j)=>cs.setIfInBounds (off+j) c) cs)[k]?=if off+s≤k∧k<off+s+l.length∧k<cs.size then l[k-(off+s)]? else cs[k]?
 |[],s,cs,k=>by simp;omega
 |v::l,s,cs,k=>by
  rw [List.zipIdx_cons,List.foldl_cons,foldSet_get off l (s+1)]
  simp only [Array.size_setIfInBounds,List.length_cons]
  by_cases h1:off+(s+1)≤k∧k<off+(s+1)+l.length∧k<cs.size
  ·rw [if_pos h1,if_pos (by omega)]
   obtain ⟨m,hm⟩:∃ m,k-(off+s)=m+1:=⟨k-(off+s)-1,by omega⟩
   rw [hm,List.getElem?_cons_succ]
   congr 1;omega
  ·rw [if_neg h1,Array.getElem?_setIfInBounds]
   by_cases h2:off+s=k
   ·subst h2
    by_cases h3:off+s<cs.size
    ·rw [if_pos rfl,if_pos h3,if_pos (by omega)];simp
    ·rw [if_pos rfl,if_neg h3,if_neg (by omega),Array.getElem?_eq_none (by omega)]
   ·rw [if_neg h2,if_neg (by omega)]
theorem foldSet_size (off:Nat):∀ (l:List (Value×Nat)) (cs:Array Value),(l.foldl (fun cs (c,j)=>cs.setIfInBounds (off+j) c) cs).size=cs.size
 |[],cs=>rfl
 |p::l,cs=>by rw [List.foldl_cons,foldSet_size off l];simp
theorem fill_rel {a:Act} {ts:List V} (ht:RelT G ts a.tmps) {place:Nat→Option (Nat×Nat)}:∀ {parts:List (Nat×Operand)} {vparts:List (Nat×Nat×VArg)} {zero:List V} {zs:Array Value} {r:List V},
  CParts place parts vparts→RelC G zero zs→vFill zero (vparts.map fun (o,n,x)=>(o,n,x.ev ts))=some r →
  ∃ cells,Instr.fill place zs (parts.map fun (i,x)=>(i,a.eval x))=some cells∧RelC G r cells
 |_,_,zero,zs,r,.nil,hz,h=>by
  simp [vFill] at h;subst h
  exact ⟨zs,rfl,hz⟩
 |_,_,zero,zs,r,@CParts.cons _ i o n x vx xs vxs hp hx hs,hz,h=>by
  simp only [List.map_cons,vFill] at h
  cases hc:(vx.ev ts).cells with
  |none=>simp [hc] at h
  |some cs=>
   simp only [hc] at h
   split at h
   case isFalse=>simp at h
   rename_i hcond
   obtain ⟨hn,hle,hall⟩:=hcond
   have hr:=cells_rel (hx.rel ht) hc
   have hz':RelC G (zero.take o++cs++zero.drop (o+n)) ((a.eval x).cells.toList.zipIdx.foldl (fun cs (c,j)=>cs.setIfInBounds (o+j) c) zs):=by
    refine ⟨?_,fun j c u h1 h2=>?_⟩
    ·rw [foldSet_size];simp [hz.1];omega
    ·rw [foldSet_get] at h2
     simp only [Nat.add_zero,Array.length_toList] at h2
     have hsz:=hr.1
     have hzs:=hz.1
     by_cases hk:o≤j∧j<o+n
     ·rw [if_pos (by omega)] at h2
      rw [List.append_assoc,List.getElem?_append_right (by simp;omega)] at h1
      simp only [List.length_take,Nat.min_eq_left (show o≤zero.length by omega)] at h1
      rw [List.getElem?_append_left (by omega)] at h1
      have:=hr.2 (j-o) c u h1 (by simpa using h2)
      exact ⟨this.2,this.1⟩
     ·rw [if_neg (by omega)] at h2
      refine hz.2 j c u ?_ h2
      by_cases hj:j<o
      ·rw [List.append_assoc,List.getElem?_append_left (by simp;omega),List.getElem?_take,if_pos hj] at h1;exact h1
      ·rw [List.getElem?_append_right (by simp;omega)] at h1
       simp only [List.length_append,List.length_take,Nat.min_eq_left (show o≤zero.length by omega),List.getElem?_drop] at h1
       rw [← h1];congr 1;omega
   obtain ⟨cells,hf,hrel⟩:=fill_rel ht hs hz' h
   refine ⟨cells,?_,hrel⟩
   simp only [List.map_cons,Instr.fill,hp]
   rw [if_neg (by have:=hr.1;have:=hz.1;simp;omega)]
   rw [← hf]
   congr 1
   rw [← Array.foldl_toList]
   simp
theorem RelD.form {F:Fz} {es:List (List D)} {x:Value} (h:RelD F (.sl es) x):∃ a len cap,x=.slice a len cap:=by
 cases h;exact ⟨_,_,_,rfl⟩
theorem RelD.len {F:Fz} {es:List (List D)} {a:Option Addr} {len cap:Nat} (h:RelD F (.sl es) (.slice a len cap)):len=es.length∧len≤cap∧cap≤maxLen:=by
 cases h;exact ⟨by assumption,by assumption,by assumption⟩
theorem add_mk (b o n:Nat):(⟨b,o,none⟩:Addr).add n=⟨b,o+n,none⟩:=by
 unfold Addr.add;split
 ·subst n;rfl
 ·rfl
theorem RelD.slice {F:Fz} {es:List (List D)} {a:Option Addr} {len cap:Nat} (h:RelD F (.sl es) (.slice a len cap)) {size l hi:Nat} (hs:∀ row∈es,row.length=size) (hl:l≤hi) (hh:hi≤es.length) :
  RelD F (.sl ((es.take hi).drop l)) (.slice (if cap=l then a else a.map (·.add (l*size))) (hi-l) (cap-l)):=by
 cases h with
 |sl es a len cap sz u hlen hcap hmax hrow hb hr=>
  have hget:∀ (i:Nat) row,((es.take hi).drop l)[i]?=some row→es[l+i]?=some row:=fun i row hi'=>by
   rw [List.getElem?_drop,List.getElem?_take] at hi'
   split at hi'
   ·exact hi'
   ·cases hi'
  refine .sl _ _ _ _ sz (fun i j=>u (l+i) j) (by simp;omega) (by omega) (by omega) (fun i row hi'=>hrow (l+i) row (hget i row hi')) (fun hne=>?_) (fun i j row c h1 h2=>hr (l+i) j row c (hget i row h1) h2)
  have hlt:l<hi:=by
   rcases Nat.lt_or_ge l hi with h'|h'
   ·exact h'
   ·exact absurd (List.drop_eq_nil_of_le (by simp;omega)) hne
  obtain ⟨b,o,rfl,hc⟩:=hb (by intro h0;subst h0;simp at hh;omega)
  have hsz:sz=size:=by
   have h0:=List.getElem?_eq_getElem (show l<es.length by omega)
   rw [← hrow l _ h0];exact hs _ (List.getElem_mem _)
  subst hsz
  rw [if_neg (by omega)]
  refine ⟨b,o+l*sz,by simp [add_mk],fun i j hi' hj=>?_⟩
  have:=hc (l+i) j (by simp at hi';omega) hj
  rw [← this]
  congr 1
  rw [Nat.add_mul];omega
theorem bounds_run {isS:Bool} {len0 cap:Nat} (hcap:len0≤cap) {lo hi:Option Operand} {vlo vhi:Option VArg} (hlo:COpt lo vlo) (hhi:COpt hi vhi) {a:Act} {ts:List V} (ht:RelT G ts a.tmps)
  {l h:Nat} (hb:vBounds len0 (vlo.map (VArg.ev ts)) (vhi.map (VArg.ev ts))=some (l,h)) :
  (Instr.sliceBounds isS len0 cap (lo.map a.eval) (hi.map a.eval) none).run P w=.ok (l,h,cap) w∧l≤h∧h≤len0:=by
 unfold vBounds at hb
 cases hhi with
 |none=>
  simp only [Option.map_none] at hb
  cases hlo with
  |none=>simp at hb;obtain ⟨rfl,rfl⟩:=hb;exact ⟨by simp [Instr.sliceBounds],Nat.zero_le _,Nat.le_refl _⟩
  |some hx=>
   simp only [Option.map_some] at hb
   split at hb
   case h_2=>cases hb
   rename_i k n hn
   split at hb<;>simp at hb
   rename_i hle
   obtain ⟨rfl,rfl⟩:=hb
   have hv:=V.int_rel (hx.rel ht) hn
   refine ⟨?_,by omega,Nat.le_refl _⟩
   simp [Instr.sliceBounds,Instr.sliceBound,hv,asIntOf,hle]
 |some hx=>
  simp only [Option.map_some] at hb
  cases hn:(VArg.ev ts ‹VArg›).int with
  |none=>rw [hn] at hb;simp at hb
  |some p=>
   obtain ⟨k,n⟩:=p
   rw [hn] at hb
   simp only at hb
   by_cases hle:0≤n∧n≤(len0:Int)
   ·rw [if_pos hle] at hb
    simp only at hb
    have hv:=V.int_rel (hx.rel ht) hn
    have hc:n≤(cap:Int):=by omega
    cases hlo with
    |none=>
     simp at hb
     obtain ⟨rfl,rfl⟩:=hb
     refine ⟨?_,Nat.zero_le _,by omega⟩
     simp [Instr.sliceBounds,Instr.sliceBound,hv,asIntOf,hle.1,hc]
    |some hy=>
     simp only [Option.map_some] at hb
     split at hb
     case h_2=>cases hb
     rename_i k2 n2 hn2
     split at hb<;>simp at hb
     rename_i hle2
     obtain ⟨rfl,rfl⟩:=hb
     have hv2:=V.int_rel (hy.rel ht) hn2
     have h3:n2≤(n.toNat:Int):=hle2.2
     refine ⟨?_,by omega,by omega⟩
     simp [Instr.sliceBounds,Instr.sliceBound,hv,hv2,asIntOf,hle.1,hc,hle2.1]
     omega
   ·rw [if_neg hle] at hb;simp at hb
theorem vBounds_none {n l h:Nat} {lo:Option V} (hb:vBounds n lo none=some (l,h)):h=n:=by
 unfold vBounds at hb
 simp only at hb
 split at hb
 ·simp only [Option.some.injEq,Prod.mk.injEq] at hb;exact hb.2.symm
 ·split at hb
  ·split at hb
   ·simp only [Option.some.injEq,Prod.mk.injEq] at hb;exact hb.2.symm
   ·cases hb
  ·cases hb
theorem slice_rel {t e:TypeId} {i:TypeInfo} (hu:P.underlying t=some (.slice e)) (hi:P.info? e=some i) {lo hi':Option Operand} {vlo vhi:Option VArg} (hlo:COpt lo vlo) (hhi:COpt hi' vhi)
  {a:Act} {ts:List V} (ht:RelT G ts a.tmps) {v r:V} {x:Value} (hv:RelV G v x) (h:vSlice i.size v (vlo.map (VArg.ev ts)) (vhi.map (VArg.ev ts))=some r) :
  ∃ y,(Instr.sliceAt t x (lo.map a.eval) (hi'.map a.eval) none).run P w=.ok y w∧RelV G r y:=by
 have key:∀ (ad:Option Addr) (len cap l h:Nat),len≤cap→vBounds len (vlo.map (VArg.ev ts)) (vhi.map (VArg.ev ts))=some (l,h) →
   (Instr.sliceAt t (.slice ad len cap) (lo.map a.eval) (hi'.map a.eval) none).run P w=.ok (.slice (if cap=l then ad else ad.map (·.add (l*i.size))) (h-l) (cap-l)) w∧l≤h∧h≤len:=by
  intro ad len cap l h hc hb
  have:=bounds_run (P:=P) (w:=w) (isS:=true) hc hlo hhi ht hb
  refine ⟨?_,this.2⟩
  simp [Instr.sliceAt,Instr.slice,run_underlying hu,this.1,run_sizeOf' hi]
 cases hv with
 |nil=>
  simp only [vSlice] at h
  obtain ⟨⟨l,h'⟩,hb,rfl⟩:=Option.map_eq_some_iff.1 h
  have:=key none 0 0 l h' (Nat.le_refl _) hb
  refine ⟨_,this.1,?_⟩
  obtain rfl:l=0:=by omega
  obtain rfl:h'=0:=by omega
  exact .d (RelD.nil _)
 |d hd=>
  cases hd with
  |lit _ hs=>simp [vSlice] at h
  |sl es a' len cap sz u hlen hcap hmax hrow hb hr=>
   simp only [vSlice] at h
   split at h
   case isFalse=>cases h
   rename_i hall
   obtain ⟨⟨l,h'⟩,hbd,rfl⟩:=Option.map_eq_some_iff.1 h
   rw [← hlen] at hbd
   have:=key a' len cap l h' hcap hbd
   refine ⟨_,this.1,.d ?_⟩
   exact RelD.slice (.sl es a' len cap sz u hlen hcap hmax hrow hb hr) (by simpa using hall) this.2.1 (by omega)
 |@full sz es ad len hd hrow=>
  simp only [vSlice] at h
  split at h
  case isFalse=>cases h
  rename_i hss
  obtain ⟨⟨l,h'⟩,hbd,rfl⟩:=Option.map_eq_some_iff.1 h
  have hlen:=hd.len
  rw [← hlen.1] at hbd
  have:=key ad len len l h' (Nat.le_refl _) hbd
  exact ⟨_,this.1,.d (RelD.slice hd (fun row hr=>(hrow row hr).trans hss) this.2.1 (by omega))⟩
 |@own sz es dd gg v0 hd hrow hg htk=>
  obtain ⟨ad,len,cap,rfl⟩:=hd.form
  have hlen:=hd.len
  simp only [vSlice] at h
  split at h
  case isFalse=>cases h
  rename_i hss
  split at h
  ·rename_i hn
   obtain ⟨⟨l,h'⟩,hbd,rfl⟩:=Option.map_eq_some_iff.1 h
   obtain rfl:h'=es.length:=vBounds_none hbd
   rw [← hn,← hlen.1] at hbd
   have:=key ad len cap l _ hlen.2.1 hbd
   refine ⟨_,this.1,?_⟩
   have hs:=RelD.slice hd (fun row hr=>(hrow row hr).trans hss) this.2.1 (by omega)
   rw [List.take_of_length_le (by omega)] at hs
   refine .own hs (fun row hr=>hrow row (List.mem_of_mem_drop hr)) hg (fun p hp=>?_)
   obtain ⟨hp1,hp2⟩:=htk p hp
   refine ⟨hp1,?_⟩
   have hll:l≤len:=by omega
   have hlc:l≤cap:=by have:=hlen.2.1;omega
   rcases hp2 with hp2|⟨a0,a1,len1,cap1,k,he1,he2,he3⟩
   ·refine .inr ⟨ad,_,_,_,l,rfl,?_,?_⟩
    ·rw [← hp2];congr 1<;>omega
    ·by_cases hcl:cap=l
     ·exact .inr (by omega)
     ·rw [if_neg hcl,← hss];exact .inl rfl
   ·simp only [Value.slice.injEq] at he1
    obtain ⟨rfl,rfl,rfl⟩:=he1
    refine .inr ⟨a0,_,_,_,k+l,rfl,?_,?_⟩
    ·rw [he2];congr 1<;>omega
    ·by_cases hcl:cap=l
     ·exact .inr (by omega)
     ·rw [if_neg hcl]
      rcases he3 with he3|he3
      ·left
       rw [he3,← hss]
       cases a0 with
       |none=>rfl
       |some x=>simp only [Option.map_some,Addr.add_add,Nat.add_mul]
      ·omega
  ·rename_i u hn
   obtain ⟨⟨l,h'⟩,hbd,rfl⟩:=Option.map_eq_some_iff.1 h
   rw [← hn,← hlen.1] at hbd
   have:=key ad len cap l h' hlen.2.1 hbd
   exact ⟨_,this.1,.d (RelD.slice hd (fun row hr=>(hrow row hr).trans hss) this.2.1 (by omega))⟩
 |@loc id off len sz b cap hi2 hc hm hz=>
  simp only [vSlice] at h
  split at h
  case isFalse=>cases h
  rename_i hss
  subst hss
  obtain ⟨⟨l,h'⟩,hbd,rfl⟩:=Option.map_eq_some_iff.1 h
  have:=key (some ⟨b,off,none⟩) len cap l h' hc hbd
  refine ⟨_,this.1,?_⟩
  split
  ·rename_i he
   have he':h'=l:=he
   subst he'
   simp only [Nat.sub_self]
   exact .d (.sl [] _ 0 _ 0 (fun _ _=>default) rfl (Nat.zero_le _) (by omega) (by simp) (fun h=>absurd rfl h) (by simp))
  ·rw [if_neg (by omega)]
   simp only [Option.map_some,add_mk]
   refine .loc hi2 (by omega) (by omega) ?_
   have hle:l≤cap:=by omega
   have:l*i.size+(cap-l)*i.size=cap*i.size:=by rw [← Nat.add_mul];congr 1;omega
   omega
 |_=>simp [vSlice] at h
theorem bounds3_run {len0 cap:Nat} (hcap:len0≤cap) {lo:Option Operand} {hi mx:Operand} {vlo:Option VArg} {vhi vmx:VArg} (hlo:COpt lo vlo) (hhi:CArg hi vhi) (hmx:CArg mx vmx) {a:Act} {ts:List V} (ht:RelT G ts a.tmps)
  {l h:Nat} {k1 k2:IntKind} {n:Int} (h1:(vhi.ev ts).int=some (k1,n)) (h2:(vmx.ev ts).int=some (k2,n)) (hb:vBounds len0 (vlo.map (VArg.ev ts)) (some (vhi.ev ts))=some (l,h)) :
  (Instr.sliceBounds true len0 cap (lo.map a.eval) (some (a.eval hi)) (some (a.eval mx))).run P w=.ok (l,h,h) w∧l≤h∧h≤len0:=by
 unfold vBounds at hb
 simp only [h1] at hb
 have v1:=V.int_rel (hhi.rel ht) h1
 have v2:=V.int_rel (hmx.rel ht) h2
 by_cases hle:0≤n∧n≤(len0:Int)
 ·rw [if_pos hle] at hb
  simp only at hb
  have hc:n≤(cap:Int):=by omega
  have hnn:max n 0=n:=by omega
  cases hlo with
  |none=>
   simp at hb
   obtain ⟨rfl,rfl⟩:=hb
   refine ⟨?_,Nat.zero_le _,by omega⟩
   simp [Instr.sliceBounds,Instr.sliceBound,v1,v2,asIntOf,hle.1,hc,hnn]
  |some hy=>
   simp only [Option.map_some] at hb
   split at hb
   case h_2=>cases hb
   rename_i k3 n2 hn2
   split at hb<;>simp at hb
   rename_i hle2
   obtain ⟨rfl,rfl⟩:=hb
   have v3:=V.int_rel (hy.rel ht) hn2
   have h3:n2≤n:=by omega
   refine ⟨?_,by omega,by omega⟩
   simp [Instr.sliceBounds,Instr.sliceBound,v1,v2,v3,asIntOf,hle.1,hc,hnn,hle2.1,h3]
 ·rw [if_neg hle] at hb;simp at hb
theorem RelD.slice3 {F:Fz} {es:List (List D)} {a:Option Addr} {len cap:Nat} (h:RelD F (.sl es) (.slice a len cap)) {size l hi:Nat} (hs:∀ row∈es,row.length=size) (hl:l≤hi) (hh:hi≤es.length) :
  RelD F (.sl ((es.take hi).drop l)) (.slice (if hi=l then a else a.map (·.add (l*size))) (hi-l) (hi-l)):=by
 have h1:=h.slice hs hl hh
 have hlen:=h.len
 by_cases he:hi=l
 ·subst he
  have h0:(es.take hi).drop hi=[]:=List.drop_eq_nil_of_le (by simp;omega)
  rw [h0,Nat.sub_self]
  exact .sl [] _ 0 0 0 (fun _ _=>default) rfl (Nat.le_refl _) (Nat.zero_le _) (by simp) (fun h=>absurd rfl h) (by simp)
 ·rw [if_neg he]
  rw [if_neg (by omega)] at h1
  cases h1 with
  |sl _ _ _ _ sz u hlen2 hcap hmax hrow hb hr=>exact .sl _ _ _ _ sz u hlen2 (Nat.le_refl _) (by omega) hrow hb hr
theorem slice3_rel {t e:TypeId} {i:TypeInfo} (hu:P.underlying t=some (.slice e)) (hi:P.info? e=some i) {lo:Option Operand} {ho mo:Operand} {vlo:Option VArg} {vh vm:VArg} (hlo:COpt lo vlo) (hhi:CArg ho vh) (hmx:CArg mo vm)
  {a:Act} {ts:List V} (ht:RelT G ts a.tmps) {v r:V} {x:Value} (hv:RelV G v x) (h:vSlice3 i.size v (vlo.map (VArg.ev ts)) (vh.ev ts) (vm.ev ts)=some r) :
  ∃ y,(Instr.sliceAt t x (lo.map a.eval) (some (a.eval ho)) (some (a.eval mo))).run P w=.ok y w∧RelV G r y:=by
 unfold vSlice3 at h
 split at h
 case h_2=>cases h
 rename_i k1 n k2 n2 h1 h2
 split at h
 case isFalse=>cases h
 rename_i hnn
 subst hnn
 split at h
 case h_2=>cases h
 rename_i es hes
 split at h
 case isFalse=>cases h
 rename_i hall
 simp only [Option.some.injEq] at h
 subst h
 have hrows:∀ row∈es,row.length=i.size:=by simpa using hall
 have key:∀ (ad:Option Addr) (len cap l h:Nat),len≤cap→vBounds len (vlo.map (VArg.ev ts)) (some (vh.ev ts))=some (l,h) →
   (Instr.sliceAt t (.slice ad len cap) (lo.map a.eval) (some (a.eval ho)) (some (a.eval mo))).run P w=.ok (.slice (if h=l then ad else ad.map (·.add (l*i.size))) (h-l) (h-l)) w∧l≤h∧h≤len:=by
  intro ad len cap l h hc hb
  have:=bounds3_run (P:=P) (w:=w) hc hlo hhi hmx ht h1 h2 hb
  refine ⟨?_,this.2⟩
  simp [Instr.sliceAt,Instr.slice,run_underlying hu,this.1,run_sizeOf' hi]
 have empty:∀ (ad:Option Addr),RelV G (.sl i.size [] .full) (.slice ad 0 0):=fun ad=>
  .full (.sl [] _ 0 0 0 (fun _ _=>default) rfl (Nat.le_refl _) (Nat.zero_le _) (by simp) (fun h=>absurd rfl h) (by simp)) (by simp)
 cases hv with
 |nil=>
  simp only [vSlice] at hes
  obtain ⟨⟨l,h'⟩,hb,he⟩:=Option.map_eq_some_iff.1 hes
  simp only [V.d.injEq,D.sl.injEq] at he
  subst he
  have:=key none 0 0 l h' (Nat.le_refl _) hb
  refine ⟨_,this.1,?_⟩
  obtain rfl:l=0:=by omega
  obtain rfl:h'=0:=by omega
  exact empty _
 |d hd=>
  cases hd with
  |lit _ hs=>simp [vSlice] at hes
  |sl es0 a' len cap sz u hlen hcap hmax hrow hb hr=>
   simp only [vSlice] at hes
   split at hes
   case isFalse=>cases hes
   rename_i hall0
   obtain ⟨⟨l,h'⟩,hbd,he⟩:=Option.map_eq_some_iff.1 hes
   simp only [V.d.injEq,D.sl.injEq] at he
   subst he
   rw [← hlen] at hbd
   have:=key a' len cap l h' hcap hbd
   exact ⟨_,this.1,.full (RelD.slice3 (.sl es0 a' len cap sz u hlen hcap hmax hrow hb hr) (by simpa using hall0) this.2.1 (by omega)) hrows⟩
 |@full sz es0 ad len hd hrow=>
  simp only [vSlice] at hes
  split at hes
  case isFalse=>cases hes
  rename_i hss
  obtain ⟨⟨l,h'⟩,hbd,he⟩:=Option.map_eq_some_iff.1 hes
  simp only [V.d.injEq,D.sl.injEq] at he
  subst he
  have hlen:=hd.len
  rw [← hlen.1] at hbd
  have:=key ad len len l h' (Nat.le_refl _) hbd
  exact ⟨_,this.1,.full (RelD.slice3 hd (fun row hr=>(hrow row hr).trans hss) this.2.1 (by omega)) hrows⟩
 |own hd hrow hg htk=>
  simp only [vSlice] at hes
  split at hes
  case isFalse=>cases hes
  rename_i hss
  obtain ⟨⟨l,h'⟩,hbd,he⟩:=Option.map_eq_some_iff.1 hes
  simp only [V.d.injEq,D.sl.injEq] at he
  subst he
  obtain ⟨ad,len,cap,rfl⟩:=hd.form
  have hlen:=hd.len
  rw [← hlen.1] at hbd
  have:=key ad len cap l h' hlen.2.1 hbd
  exact ⟨_,this.1,.full (RelD.slice3 hd (fun row hr=>(hrow row hr).trans hss) this.2.1 (by omega)) hrows⟩
 |@loc id off len sz b cap hi2 hc hm hz=>
  simp only [vSlice] at hes
  split at hes
  case isFalse=>cases hes
  rename_i hss
  subst hss
  obtain ⟨⟨l,h'⟩,hbd,he⟩:=Option.map_eq_some_iff.1 hes
  have:=key (some ⟨b,off,none⟩) len cap l h' hc hbd
  refine ⟨_,this.1,?_⟩
  simp only at he
  split at he
  ·rename_i hlh
   simp only [V.d.injEq,D.sl.injEq] at he
   subst he
   subst hlh
   simp only [Nat.sub_self]
   exact empty _
  ·cases he
 |_=>simp [vSlice] at hes
end
end Go.VM
namespace Go.VM
section
variable {P:Program} {G:Gh} {w:World}
theorem idx_rel {len:Nat} {v:V} {x:Value} (h:RelV G v x) {k:Nat} (hi:vIdx len v=some k):∃ kd n,x=.int kd n∧0≤n∧n<(len:Int)∧n.toNat=k:=by
 unfold vIdx at hi
 split at hi
 case h_2=>cases hi
 rename_i kd n hn
 split at hi<;>simp at hi
 rename_i hc
 exact ⟨kd,n,V.int_rel h hn,hc.1,hc.2,hi⟩
theorem RelD.row {F:Fz} {es:List (List D)} {a:Option Addr} {len cap:Nat} (h:RelD F (.sl es) (.slice a len cap)) {k:Nat} {row:List D} (hk:es[k]?=some row) :
  ∃ b o,a=some ⟨b,o,none⟩∧∃ u:Nat→Value,(∀ j,j<row.length→F b (o+k*row.length+j)=some (u j))∧∀ (j:Nat) c,row[j]?=some c→RelD F c (u j):=by
 cases h with
 |sl es a len cap sz u hlen hcap hmax hrow hb hr=>
  have hne:es≠[]:=by intro h0;subst h0;simp at hk
  obtain ⟨b,o,rfl,hc⟩:=hb hne
  have hsz:=hrow k row hk
  refine ⟨b,o,rfl,u k,fun j hj=>?_,fun j c hj=>hr k j row c hk hj⟩
  have:=hc k j (List.getElem?_eq_some_iff.1 hk).1 (by omega)
  rw [hsz,Nat.add_assoc];exact this
theorem run_idxA {t e:TypeId} {i:TypeInfo} (hu:P.underlying t=some (.slice e)) (hi:P.info? e=some i) (b o len cap:Nat) (kd:IntKind) (n:Int) (h0:0≤n) (h1:n<(len:Int)) :
  (Instr.indexAt t (.slice (some ⟨b,o,none⟩) len cap) (.int kd n)).run P w=.ok (.pointer (some ⟨b,o+n.toNat*i.size,none⟩)) w:=by
 simp [Instr.indexAt,run_underlying hu,asIntOf,h0,h1,run_sizeOf' hi,add_mk]
theorem idxA_rel {t e:TypeId} {i:TypeInfo} (hu:P.underlying t=some (.slice e)) (hi:P.info? e=some i) {v vi r:V} {x y:Value} (hv:RelV G v x) (hvi:RelV G vi y)
  (h:vIdxA i.size v vi=some r):∃ z,(Instr.indexAt t x y).run P w=.ok z w∧RelV G r z:=by
 have fromD:∀ (es:List (List D)) (ad:Option Addr) (len cap k:Nat) (row:List D),RelD G.F (.sl es) (.slice ad len cap)→vIdx es.length vi=some k→es[k]?=some row→row.length=i.size →
   ∃ z,(Instr.indexAt t (.slice ad len cap) y).run P w=.ok z w∧RelV G (.ep row) z:=by
  intro es ad len cap k row hd hk hrow hsz
  obtain ⟨kd,n,rfl,h0,h1,rfl⟩:=idx_rel hvi hk
  obtain ⟨b,o,rfl,u,hc,hr⟩:=hd.row hrow
  have hlen:=hd.len.1
  rw [← hlen] at h1
  refine ⟨_,run_idxA hu hi b o len cap kd n h0 h1,.ep u (fun j hj=>?_) hr⟩
  rw [← hsz];exact hc j hj
 cases hv with
 |d hd=>
  cases hd with
  |lit _ hs=>simp [vIdxA] at h
  |sl es ad len cap sz u hlen hcap hmax hrow hb hr=>
   simp only [vIdxA] at h
   split at h
   case h_2=>cases h
   rename_i k hk
   split at h
   case h_2=>cases h
   rename_i row hrw
   split at h<;>simp at h
   rename_i hsz
   subst h
   exact fromD es ad len cap k row (.sl es ad len cap sz u hlen hcap hmax hrow hb hr) hk hrw hsz
 |@full sz es ad len hd hrow=>
  simp only [vIdxA] at h
  split at h
  case h_2=>cases h
  rename_i k hk
  split at h
  case h_2=>cases h
  rename_i row hrw
  split at h<;>simp at h
  rename_i hsz
  subst h
  exact fromD es ad len len k row hd hk hrw ((hrow row (List.mem_of_getElem? hrw)).trans hsz)
 |own hd hrow hg htk=>
  simp only [vIdxA] at h
  split at h
  case h_2=>cases h
  rename_i k hk
  split at h
  case h_2=>cases h
  rename_i row hrw
  split at h<;>simp at h
  rename_i hsz
  subst h
  obtain ⟨ad,len,cap,rfl⟩:=hd.form
  exact fromD _ ad len cap k row hd hk hrw ((hrow row (List.mem_of_getElem? hrw)).trans hsz)
 |@loc id off len sz b cap hi2 hc hm=>
  simp only [vIdxA] at h
  split at h
  case isFalse=>cases h
  rename_i hss
  obtain ⟨k,hk,rfl⟩:=Option.map_eq_some_iff.1 h
  obtain ⟨kd,n,rfl,h0,h1,rfl⟩:=idx_rel hvi hk
  refine ⟨_,run_idxA hu hi b off len cap kd n h0 h1,?_⟩
  rw [← hss]
  exact .ptr hi2
 |@psl vs b o len cap u hlen hcap hmax hc hs hr=>
  simp only [vIdxA] at h
  split at h
  case h_2=>cases h
  rename_i k hk
  split at h
  case isFalse=>cases h
  rename_i hss
  obtain ⟨c,hc',rfl⟩:=Option.map_eq_some_iff.1 h
  obtain ⟨kd,n,rfl,h0,h1,rfl⟩:=idx_rel hvi hk
  rw [← hlen] at h1
  refine ⟨_,run_idxA hu hi b o len cap kd n h0 h1,?_⟩
  rw [hss,Nat.mul_one]
  have hlt:=(List.getElem?_eq_some_iff.1 hc').1
  exact .epv (hc _ hlt) (hs _ hlt) (hr _ _ hc')
 |_=>simp [vIdxA] at h
theorem fieldA_rel {v r:V} {x:Value} (hv:RelV G v x) {off:Nat} (h:vFieldA v off=some r):∃ b o,x=.pointer (some ⟨b,o,none⟩)∧RelV G r (.pointer (some ⟨b,o+off,none⟩)):=by
 cases hv with
 |ptr hi=>simp [vFieldA] at h;subst h;exact ⟨_,_,rfl,.ptr hi⟩
 |@ep cs b o u hc hr=>
  simp only [vFieldA] at h
  split at h<;>simp at h
  rename_i hle
  subst h
  refine ⟨b,o,rfl,.ep (fun j=>u (off+j)) (fun j hj=>?_) (fun j c hj=>?_)⟩
  ·simp at hj
   have:=hc (off+j) (by omega)
   rw [Nat.add_assoc];exact this
  ·rw [List.getElem?_drop] at hj;exact hr _ _ hj
 |@epv y b o u hc hs hr=>
  simp only [vFieldA] at h
  split at h<;>simp at h
  rename_i h0
  subst h0;subst h
  exact ⟨b,o,rfl,.epv hc hs hr⟩
 |_=>simp [vFieldA] at h
theorem part_rel {t:TypeId} {d:TypeDesc} {i:TypeInfo} (hd:P.underlying t=some d) (hi:P.info? t=some i) (h1:aggD d=false→i.size=1) {v r:V} {x:Value} (hv:RelV G v x) {off:Nat}
  (h:vField v off i.size (aggD d)=some r):∃ cs,x=.agg cs∧∃ y,(part t cs off).run P w=.ok y w∧RelV G r y:=by
 unfold vField at h
 split at h
 case h_2=>cases h
 rename_i vs
 split at h
 case isFalse=>cases h
 rename_i hle
 obtain ⟨xs,rfl,hc⟩:=RelC.of_agg hv
 refine ⟨xs,rfl,?_⟩
 have hsz:=hc.1
 cases ha:aggD d with
 |true=>
  simp only [vShape,ha,if_true,Option.some.injEq] at h
  subst h
  refine ⟨.agg (xs.extract off (off+i.size)),?_,RelC.agg ⟨by simp;omega,fun j c u h1 h2=>?_⟩⟩
  ·simp [part,run_isAgg' hd,ha,run_sizeOf' hi]
  ·rw [List.getElem?_take] at h1
   split at h1
   case isFalse=>cases h1
   rw [List.getElem?_drop] at h1
   rw [Array.getElem?_extract] at h2
   split at h2
   case isFalse=>cases h2
   exact hc.2 _ c u h1 h2
 |false=>
  simp only [vShape,ha,Bool.false_eq_true,if_false] at h
  have hs1:=h1 ha
  rw [hs1] at h hle
  have hlt:off<vs.length:=by omega
  have hv0:((vs.drop off).take 1)=[vs[off]]:=by
   rw [List.drop_eq_getElem_cons hlt];rfl
  rw [hv0] at h
  simp at h;subst h
  have hx:xs[off]?=some xs[off]:=Array.getElem?_eq_getElem (by omega)
  refine ⟨xs[off],?_,(hc.2 off _ _ (List.getElem?_eq_getElem hlt) hx).2⟩
  simp [part,run_isAgg' hd,ha,hx]
theorem len_rel {v r:V} {x:Value} (hv:RelV G v x) (h:vLen v=some r) :
  ∃ n:Nat,r=lit (.int .i64 n)∧(∃ a cap,x=.slice a n cap):=by
 cases hv with
 |nil=>simp [vLen] at h;exact ⟨0,h.symm,⟨_,_,rfl⟩⟩
 |d hd=>
  cases hd with
  |lit _ hs=>simp [vLen] at h
  |sl es ad len cap sz u hlen hcap hmax hrow hb hr=>simp [vLen] at h;subst hlen;exact ⟨_,h.symm,⟨_,_,rfl⟩⟩
 |full hd hrow=>simp [vLen] at h;have:=hd.len.1;subst this;exact ⟨_,h.symm,⟨_,_,rfl⟩⟩
 |own hd hrow hg htk=>obtain ⟨ad,len,cap,rfl⟩:=hd.form;simp [vLen] at h;have:=hd.len.1;subst this;exact ⟨_,h.symm,⟨_,_,rfl⟩⟩
 |loc hi hc hm=>simp [vLen] at h;exact ⟨_,h.symm,⟨_,_,rfl⟩⟩
 |psl u hlen hcap hmax hc hs hr=>simp [vLen] at h;subst hlen;exact ⟨_,h.symm,⟨_,_,rfl⟩⟩
 |_=>simp [vLen] at h
theorem eqGuard_int {op:BinOp} {t:TypeId} {x y:Operand} {k k':IntKind} {a b:Int}:(eqGuard op t x y (.int k a) (.int k' b)).run P w=.ok () w:=by
 cases op<;>simp [eqGuard]
theorem eqGuard_str {op:BinOp} {t:TypeId} {x y:Operand} {a b:ByteArray}:(eqGuard op t x y (.string a) (.string b)).run P w=.ok () w:=by
 cases op<;>simp [eqGuard]
theorem eqGuard_bool {op:BinOp} {t:TypeId} {x y:Operand} {a b:Bool}:(eqGuard op t x y (.bool a) (.bool b)).run P w=.ok () w:=by
 cases op<;>simp [eqGuard]
theorem vInt_run {op:BinOp} {t:TypeId} {k:IntKind} {a b:Int} {r:V} (h:vInt op k a b=some r) :
  ∃ y,(binOp op t (.int k a) (.int k b)).run P w=.ok y w∧RelV G r y:=by
 cases op<;>simp only [vInt] at h
 case quo=>
  split at h<;>simp at h
  rename_i hb;subst h
  exact ⟨_,by simp [binOp,Op.intDiv,hb],rel_lit _ rfl⟩
 case rem=>
  split at h<;>simp at h
  rename_i hb;subst h
  exact ⟨_,by simp [binOp,Op.intDiv,hb],rel_lit _ rfl⟩
 all_goals first
  |(cases h;done)
  |(simp at h;subst h;exact ⟨_,by simp [binOp,Op.intArith,Op.intBits,Op.intCmp];rfl,rel_lit _ rfl⟩)
  |(simp at h;subst h;exact ⟨_,by simp [binOp,Op.intArith,Op.intBits,Op.intCmp],rel_lit _ rfl⟩)
theorem vShift_run {op:BinOp} {t:TypeId} {k k':IntKind} {a b:Int} {r:V} (h:vShift op k a b=some r) :
  ∃ y,(binOp op t (.int k a) (.int k' b)).run P w=.ok y w∧RelV G r y:=by
 cases op<;>simp only [vShift] at h
 case shl=>
  split at h<;>simp at h
  rename_i hb;subst h
  exact ⟨_,by simp [binOp,Op.shift,hb],rel_lit _ rfl⟩
 case shr=>
  split at h<;>simp at h
  rename_i hb;subst h
  exact ⟨_,by simp [binOp,Op.shift,hb],rel_lit _ rfl⟩
 all_goals cases h
theorem bin_int {op:BinOp} {t:TypeId} {k k':IntKind} {a b:Int} {r:V} (h:(if isShift op then vShift op k a b else if k=k' then vInt op k a b else none)=some r) :
  ∃ y,(binOp op t (.int k a) (.int k' b)).run P w=.ok y w∧RelV G r y:=by
 split at h
 ·exact vShift_run h
 ·split at h
  ·rename_i hk;subst hk;exact vInt_run h
  ·cases h
theorem bin_str {op:BinOp} {t:TypeId} {a b:ByteArray} {r:V} (h:vStr op a b=some r) :
  ∃ y,(binOp op t (.string a) (.string b)).run P w=.ok y w∧RelV G r y:=by
 cases op<;>simp only [vStr] at h
 case add=>
  split at h<;>simp at h
  rename_i hb;subst h
  have h63:¬((IntKind.i64.max:Int)<((a.size:Int)+(b.size:Int))):=by
   have:(IntKind.i64.max:Int)=9223372036854775807:=by decide
   rw [this]
   simp only [strBound] at hb
   omega
  exact ⟨_,by simp only [binOp,Op.stringOp,Int.natCast_add];rw [if_neg h63];rfl,rel_lit _ rfl⟩
 all_goals first
  |(cases h;done)
  |(simp at h;subst h;exact ⟨_,by simp [binOp,Op.stringOp],rel_lit _ rfl⟩)
theorem vBin_rel {op:BinOp} {t:TypeId} {ox oy:Operand} {v u r:V} {x y:Value} (hv:RelV G v x) (hu:RelV G u y) (h:vBin op v u=some r) :
  ∃ z,(do eqGuard op t ox oy x y;binOp op t x y:Sem Value).run P w=.ok z w∧RelV G r z:=by
 unfold vBin at h
 split at h
 ·have hx:=lit_rel hv;have hy:=lit_rel hu
  subst hx;subst hy
  obtain ⟨z,hz,hr⟩:=bin_int (P:=P) (w:=w) (G:=G) (t:=t) h
  exact ⟨z,by simp [eqGuard_int,hz],hr⟩
 ·have hx:=lit_rel hv;have hy:=lit_rel hu
  subst hx;subst hy
  obtain ⟨z,hz,hr⟩:=bin_str (P:=P) (w:=w) (G:=G) (t:=t) h
  exact ⟨z,by simp [eqGuard_str,hz],hr⟩
 ·cases h
theorem equalIn_bool (d:Nat) {t:TypeId} (ht:P.underlying t=some .bool) {a b:Bool}:(Op.equalIn (d+1) t (.bool a) (.bool b)).run P w=.ok (a==b) w:=by
 simp [Op.equalIn,run_underlying ht]
theorem eqb_rel {op:BinOp} (neg:Bool) (hop:op=if neg then .neq else .eql) {t:TypeId} (ht:P.underlying t=some .bool) {ox oy:Operand} {a b:Bool} :
  (do eqGuard op t ox oy (.bool a) (.bool b);binOp op t (.bool a) (.bool b):Sem Value).run P w=.ok (.bool (if neg then !(a==b) else a==b)) w:=by
 have he:(Op.equal t (.bool a) (.bool b)).run P w=.ok (a==b) w:=equalIn_bool 9999 ht
 cases neg<;>subst hop<;>simp [eqGuard_bool,binOp,he]
theorem bytes_rel:∀ {es:List (List D)} {l:List UInt8},bytesOf es=some l→(∀ row∈es,row.length=1)∧es.length=l.length ∧
  ∀ (j:Nat) (row:List D) (b:UInt8),es[j]?=some row→l[j]?=some b→∃ n:Int,row=[.lit (.int .u8 n)]∧b=UInt8.ofNat n.toNat
 |[],l,h=>by simp [bytesOf] at h;subst h;simp
 |row::es,l,h=>by
  unfold bytesOf at h
  split at h
  ·simp at *
  ·rename_i n rest heq
   simp at heq
   obtain ⟨rfl,rfl⟩:=heq
   split at h<;>simp at h
   rename_i l' hl
   subst h
   obtain ⟨h1,h2,h3⟩:=bytes_rel hl
   refine ⟨fun r hr=>?_,by simp [h2],fun j r b hj hb=>?_⟩
   ·rcases List.mem_cons.1 hr with rfl|hr
    ·rfl
    ·exact h1 r hr
   ·match j with
    |0=>simp at hj hb;subst hj;subst hb;exact ⟨n,rfl,rfl⟩
    |j+1=>exact h3 j r b (by simpa using hj) (by simpa using hb)
  ·cases h
end
end Go.VM
namespace Go.VM
def cEq:CK→Value→Value→Option Bool
 |.i,.int k a,.int k' b=>if k=k' then some (a==b) else none
 |.b,.bool a,.bool b=>some (a==b)
 |.s,.string a,.string b=>some (a.toList==b.toList)
 |_,_,_=>none
def cEqs:List CK→List Value→List Value→Option Bool
 |[],[],[]=>some true
 |k::ks,x::xs,y::ys=>
  match cEq k x y,cEqs ks xs ys with
  |some a,some b=>some (a&&b)
  |_,_=>none
 |_,_,_=>none
theorem cEq_i {x y:Value} {r:Bool} (h:cEq .i x y=some r):∃ k a b,x=.int k a∧y=.int k b∧r=(a==b):=by
 cases x<;>cases y<;>simp [cEq] at h
 obtain ⟨rfl,rfl⟩:=h
 exact ⟨_,_,_,rfl,rfl,rfl⟩
theorem cEq_b {x y:Value} {r:Bool} (h:cEq .b x y=some r):∃ a b,x=.bool a∧y=.bool b∧r=(a==b):=by
 cases x<;>cases y<;>simp [cEq] at h
 exact ⟨_,_,rfl,rfl,h.symm⟩
theorem cEq_s {x y:Value} {r:Bool} (h:cEq .s x y=some r):∃ a b,x=.string a∧y=.string b∧r=(a.toList==b.toList):=by
 cases x<;>cases y<;>simp [cEq] at h
 exact ⟨_,_,rfl,rfl,h.symm⟩
theorem cEqs_len:∀ {ks:List CK} {xs ys:List Value} {r:Bool},cEqs ks xs ys=some r→xs.length=ks.length∧ys.length=ks.length
 |[],[],[],_,_=>⟨rfl,rfl⟩
 |k::ks,x::xs,y::ys,r,h=>by
  simp only [cEqs] at h
  split at h
  ·rename_i b h1 h2
   obtain ⟨e1,e2⟩:=cEqs_len h2
   exact ⟨by simp [e1],by simp [e2]⟩
  ·cases h
 |[],_::_,_,_,h=>by simp [cEqs] at h
 |[],[],_::_,_,h=>by simp [cEqs] at h
 |_::_,[],_,_,h=>by simp [cEqs] at h
 |_::_,_::_,[],_,h=>by simp [cEqs] at h
theorem cEqs_app:∀ {ks js:List CK} {xs ys:List Value} {r:Bool},cEqs (ks++js) xs ys=some r→∃ r1 r2,cEqs ks (xs.take ks.length) (ys.take ks.length)=some r1∧cEqs js (xs.drop ks.length) (ys.drop ks.length)=some r2∧r=(r1&&r2)
 |[],js,xs,ys,r,h=>⟨true,r,by simp [cEqs],by simpa using h,by simp⟩
 |k::ks,js,x::xs,y::ys,r,h=>by
  simp only [List.cons_append,cEqs] at h
  split at h
  ·rename_i a b h1 h2
   obtain ⟨r1,r2,e1,e2,e3⟩:=cEqs_app h2
   simp only [Option.some.injEq] at h
   refine ⟨a&&r1,r2,by simp [cEqs,h1,e1],by simpa using e2,by rw [← h,e3,Bool.and_assoc]⟩
  ·cases h
 |_::_,_,[],_,_,h=>by simp [cEqs] at h
 |_::_,_,_::_,[],_,h=>by simp [cEqs] at h
def flatFs (P:Program) (g:TypeId→Option (List CK)):Nat→List Field→Option (List CK)
 |_,[]=>some []
 | off, f :: fs => if f.name ≠ "_" ∧ f.offset = off then
   match g f.type with
   |some ks=>match flatFs P g (off+ks.length) fs with
    |some js=>some (ks++js)
    |none=>none
   |none=>none
  else none
def flatT (P:Program):Nat→TypeId→Option (List CK)
 |0,_=>none
 |d+1,t=>match P.underlying t with
  |some .bool=>some [.b]
  |some (.int _)=>some [.i]
  |some .string=>some [.s]
  |some (.struct fs)=>if P.stoodInHeld t=false then
    match flatFs P (flatT P d) 0 fs.toList with
    |some ks=>if P.cellsOf t=ks.length then some ks else none
    |none=>none
   else none
  |some (.array n e)=>match flatT P d e with
    |some ks=>if P.cellsOf e=ks.length∧P.cellsOf t=n*ks.length then some (List.replicate n ks).flatten else none
    |none=>none
  |_=>none
def shp (P:Program) (t:TypeId) (xs:List Value):Value:=match P.underlying t with
 |some d=>if aggD d then .agg xs.toArray else xs.headD undef
 |none=>undef
section
variable {P:Program}
theorem flat_cells {d:Nat} {t:TypeId} {ks:List CK} (h:flatT P d t=some ks):(∃ dd,P.underlying t=some dd∧aggD dd=true∧P.cellsOf t=ks.length)∨(∃ dd,P.underlying t=some dd∧aggD dd=false∧ks.length=1):=by
 cases d with
 |zero=>simp [flatT] at h
 |succ d=>
  unfold flatT at h
  split at h
  ·rename_i hu;simp only [Option.some.injEq] at h;subst h;exact .inr ⟨_,hu,rfl,rfl⟩
  ·rename_i k hu;simp only [Option.some.injEq] at h;subst h;exact .inr ⟨_,hu,rfl,rfl⟩
  ·rename_i hu;simp only [Option.some.injEq] at h;subst h;exact .inr ⟨_,hu,rfl,rfl⟩
  ·rename_i fs hu
   split at h
   ·split at h
    ·split at h
     ·rename_i hc;simp only [Option.some.injEq] at h;subst h;exact .inl ⟨_,hu,rfl,hc⟩
     ·cases h
    ·cases h
   ·cases h
  ·rename_i n e hu
   split at h
   ·split at h
    ·rename_i hc;simp only [Option.some.injEq] at h;subst h;exact .inl ⟨_,hu,rfl,by rw [hc.2];simp⟩
    ·cases h
   ·cases h
  ·cases h
theorem run_part_flat (w:World) {d:Nat} {t:TypeId} {ks:List CK} (h:flatT P d t=some ks) {xs:Array Value} {off:Nat} (hl:((xs.toList.drop off).take ks.length).length=ks.length) :
  (part t xs off).run P w=.ok (shp P t ((xs.toList.drop off).take ks.length)) w:=by
 rcases flat_cells h with ⟨dd,hu,ha,hc⟩|⟨dd,hu,ha,h1⟩
 ·obtain ⟨i,hi⟩:=info_of_underlying hu
  unfold part shp
  simp only [Sem.run_bind,run_isAgg' hu,ha,Result.andThen_ok,if_true,hu,run_sizeOf w hi,hc,Sem.run_pure]
  congr 2
  apply Array.ext'
  rw [Array.toList_extract]
  simp [List.extract]
 ·unfold part shp
  simp only [Sem.run_bind,run_isAgg' hu,ha,Result.andThen_ok,Bool.false_eq_true,if_false,hu,h1]
  rw [h1] at hl
  have hlt:off<xs.size:=by
   rcases Nat.lt_or_ge off xs.size with hlt|hge
   ·exact hlt
   ·rw [List.drop_eq_nil_of_le (by simpa using hge)] at hl;simp at hl
  rw [Array.getElem?_eq_getElem hlt]
  have:xs.toList.drop off=xs[off]::xs.toList.drop (off+1):=by
   rw [List.drop_eq_getElem_cons (by simpa using hlt)];simp
  rw [this]
  simp
theorem flat_eq (w:World):∀ (d:Nat) (t:TypeId) (ks:List CK),flatT P d t=some ks→∀ (D:Nat),d≤D→∀ (xs ys:List Value) (r:Bool),cEqs ks xs ys=some r →
  (Op.equalIn D t (shp P t xs) (shp P t ys)).run P w=.ok r w
 |0,t,ks,h,_,_,_,_,_,_=>by simp [flatT] at h
 |d+1,t,ks,h,D,hD,xs,ys,r,hr=>by
  obtain ⟨D,rfl⟩:∃ D',D=D'+1:=⟨D-1,by omega⟩
  have hD':d≤D:=by omega
  have ih:=flat_eq w d
  unfold flatT at h
  split at h
  ·rename_i hu
   simp only [Option.some.injEq] at h;subst h
   obtain ⟨l1,l2⟩:=cEqs_len hr
   match xs,ys,l1,l2 with
   |[x],[y],_,_=>
    simp only [shp,hu,aggD,Bool.false_eq_true,if_false,List.headD_cons]
    simp only [cEqs] at hr
    split at hr
    ·rename_i a b h1 h2
     simp only [Option.some.injEq] at h2 hr;subst h2;rw [Bool.and_true] at hr;subst hr
     obtain ⟨_,_,rfl,rfl,rfl⟩:=cEq_b h1
     exact run_equalIn_bool' w D t _ _ hu
    ·cases hr
  ·rename_i k hu
   simp only [Option.some.injEq] at h;subst h
   obtain ⟨l1,l2⟩:=cEqs_len hr
   match xs,ys,l1,l2 with
   |[x],[y],_,_=>
    simp only [shp,hu,aggD,Bool.false_eq_true,if_false,List.headD_cons]
    simp only [cEqs] at hr
    split at hr
    ·rename_i a b h1 h2
     simp only [Option.some.injEq] at h2 hr;subst h2;rw [Bool.and_true] at hr;subst hr
     obtain ⟨_,_,_,rfl,rfl,rfl⟩:=cEq_i h1
     exact run_equalIn_int w D t _ k _ _ hu
    ·cases hr
  ·rename_i hu
   simp only [Option.some.injEq] at h;subst h
   obtain ⟨l1,l2⟩:=cEqs_len hr
   match xs,ys,l1,l2 with
   |[x],[y],_,_=>
    simp only [shp,hu,aggD,Bool.false_eq_true,if_false,List.headD_cons]
    simp only [cEqs] at hr
    split at hr
    ·rename_i a b h1 h2
     simp only [Option.some.injEq] at h2 hr;subst h2;rw [Bool.and_true] at hr;subst hr
     obtain ⟨_,_,rfl,rfl,rfl⟩:=cEq_s h1
     exact run_equalIn_string w D t _ _ hu
    ·cases hr
  ·rename_i fs hu
   split at h
   case isFalse=>cases h
   rename_i hst
   split at h
   case h_2=>cases h
   rename_i ks' hks
   split at h
   case isFalse=>cases h
   simp only [Option.some.injEq] at h;subst h
   have hF:P.fieldsOf t=fs:=by simp [Program.fieldsOf,hu]
   simp only [shp,hu,aggD,if_true]
   rw [run_equalIn_struct w D t _ _ (by rw [hF];exact hu) hst,hF]
   have key:∀ (fs:List Field) (off:Nat) (ks:List CK) (r:Bool),flatFs P (flatT P d) off fs=some ks→cEqs ks (xs.drop off) (ys.drop off)=some r→(Op.eqFields D xs.toArray ys.toArray fs).run P w=.ok r w:=by
    intro fs
    induction fs with
    |nil=>
     intro off ks r h1 h2
     simp only [flatFs,Option.some.injEq] at h1;subst h1
     obtain ⟨e1,e2⟩:=cEqs_len h2
     rw [List.length_eq_zero_iff.1 e1,List.length_eq_zero_iff.1 e2] at h2
     simp only [cEqs,Option.some.injEq] at h2
     simp [Op.eqFields,← h2]
    |cons f fs ih2=>
     intro off ks r h1 h2
     simp only [flatFs] at h1
     split at h1
     case isFalse=>cases h1
     rename_i hf
     split at h1
     case h_2=>cases h1
     rename_i k1 hk1
     split at h1
     case h_2=>cases h1
     rename_i k2 hk2
     simp only [Option.some.injEq] at h1;subst h1
     obtain ⟨r1,r2,e1,e2,rfl⟩:=cEqs_app h2
     obtain ⟨l1,l2⟩:=cEqs_len e1
     have p1:=run_part_flat w hk1 (xs:=xs.toArray) (off:=off) l1
     have p2:=run_part_flat w hk1 (xs:=ys.toArray) (off:=off) l2
     simp only [Op.eqFields,hf.1,ne_eq,not_false_eq_true,if_true,hf.2,Sem.run_bind,p1,p2,Result.andThen_ok,ih f.type k1 hk1 D hD' _ _ _ e1]
     cases r1
     ·simp
     ·simp only [Bool.not_true,Bool.false_eq_true,if_false,Bool.true_and]
      rw [List.drop_drop,List.drop_drop] at e2
      exact ih2 _ _ _ hk2 e2
   exact key fs.toList 0 _ r hks (by simpa using hr)
  ·rename_i n e hu
   split at h
   case h_2=>cases h
   rename_i k1 hk1
   split at h
   case isFalse=>cases h
   rename_i hc
   simp only [Option.some.injEq] at h;subst h
   obtain ⟨i,hi⟩:∃ i,P.info? e=some i:=by
    rcases flat_cells hk1 with ⟨dd,hu,_⟩|⟨dd,hu,_⟩<;>exact info_of_underlying hu
   simp only [shp,hu,aggD,if_true]
   rw [run_equalIn_array w D _ _ hu hi,hc.1]
   have key:∀ (n s:Nat) (r:Bool),cEqs (List.replicate n k1).flatten (xs.drop (s*k1.length)) (ys.drop (s*k1.length))=some r→(Op.eqItems D e k1.length xs.toArray ys.toArray (List.range' s n)).run P w=.ok r w:=by
    intro n
    induction n with
    |zero=>
     intro s r h2
     obtain ⟨e1,e2⟩:=cEqs_len h2
     simp only [List.replicate_zero,List.flatten_nil,List.length_nil] at e1 e2 h2
     rw [List.length_eq_zero_iff.1 e1,List.length_eq_zero_iff.1 e2] at h2
     simp only [cEqs,Option.some.injEq] at h2
     simp [Op.eqItems,← h2]
    |succ n ih2=>
     intro s r h2
     rw [List.replicate_succ,List.flatten_cons] at h2
     obtain ⟨r1,r2,e1,e2,rfl⟩:=cEqs_app h2
     obtain ⟨l1,l2⟩:=cEqs_len e1
     have p1:=run_part_flat w hk1 (xs:=xs.toArray) (off:=s*k1.length) l1
     have p2:=run_part_flat w hk1 (xs:=ys.toArray) (off:=s*k1.length) l2
     rw [List.range'_succ]
     simp only [Op.eqItems,Sem.run_bind,p1,p2,Result.andThen_ok,ih e k1 hk1 D hD' _ _ _ e1]
     cases r1
     ·simp
     ·simp only [Bool.not_true,Bool.false_eq_true,if_false,Bool.true_and]
      rw [List.drop_drop,List.drop_drop] at e2
      refine ih2 (s+1) _ ?_
      rw [show (s+1)*k1.length=s*k1.length+k1.length by rw [Nat.add_mul,Nat.one_mul]]
      exact e2
   rw [List.range_eq_range']
   exact key n 0 r (by simpa using hr)
  ·cases h
end
end Go.VM
namespace Go.VM
section
variable {P:Program}
inductive Cop (P:Program):Op→VOp→Prop
 |move {x:Operand} {vx:VArg} (hx:CArg x vx):Cop P (.move x) (.mov vx)
 |assign {x:Operand} {vx:VArg} (hx:CArg x vx):Cop P (.assign x) (.mov vx)
 |pick {c a b:Operand} {vc va vb:VArg} (hc:CArg c vc) (ha:CArg a va) (hb:CArg b vb):Cop P (.pick c a b) (.pick vc va vb)
 |build {t:TypeId} {ps:Array (Nat×Operand)} {vps:List (Nat×Nat×VArg)} {zero:List V} {zs:Array Value} {place:Nat→Option (Nat×Nat)}
   (hz:∀ G,RelC G zero zs) (hp:CParts place ps.toList vps) (hb:∀ parts,P.built t parts=Instr.fill place zs parts):Cop P (.build t ps) (.build zero vps)
 |load {t:TypeId} {x:Operand} {vx:VArg} {d:TypeDesc} {i:TypeInfo} (hx:CArg x vx) (hd:P.underlying t=some d) (hi:P.info? t=some i) (h1:aggD d=false→i.size=1) :
   Cop P (.load t x) (.load vx i.size (aggD d))
 |nilCheck {x:Operand} {vx:VArg} (hx:CArg x vx):Cop P (.nilCheck x) (.nilChk vx)
 |bin {op:BinOp} {t t':TypeId} {x y:Operand} {vx vy:VArg} (hx:CArg x vx) (hy:CArg y vy):Cop P (.binOp op t x y t') (.bin op vx vy)
 |eqb {neg:Bool} {t t':TypeId} {x y:Operand} {vx vy:VArg} (ht:P.underlying t=some .bool) (hx:CArg x vx) (hy:CArg y vy) :
   Cop P (.binOp (if neg then .neq else .eql) t x y t') (.eqb neg vx vy)
 |eqs {neg:Bool} {op:BinOp} {t t':TypeId} {x y:Operand} {vx vy:VArg} {ks:List CK} {dd:TypeDesc} (hf:flatT P 100 t=some ks) (hu:P.underlying t=some dd) (ha:aggD dd=true) (hg:P.eqGuardType P.depth t=false) (hx:CArg x vx) (hy:CArg y vy) (hop:op=if neg then .neq else .eql):Cop P (.binOp op t x y t') (.eqs neg ks vx vy)
 |un {op:UnOp} {t:TypeId} {x:Operand} {vx:VArg} (hx:CArg x vx):Cop P (.unOp op t x) (.un op vx)
 |convI {s t:TypeId} {k:IntKind} {x:Operand} {vx:VArg} {d:TypeDesc} (hx:CArg x vx) (hs:P.underlying s=some d) (ht:P.underlying t=some (.int k)):Cop P (.convert s t x) (.convI k vx)
 |nilEq {neg:Bool} {op:BinOp} {t e t':TypeId} {x:Operand} {vx:VArg} (hx:CArg x vx) (hu:P.underlying t=some (.slice e)) (hop:op=if neg then .neq else .eql):Cop P (.binOp op t x (.const (.slice none 0 0)) t') (.nilEq neg vx)
 |convS {s t:TypeId} {x:Operand} {vx:VArg} (hx:CArg x vx) (hs:P.underlying s=some .string) (ht:P.underlying t=some .string):Cop P (.convert s t x) (.strId vx)
 |bytesS {s t e:TypeId} {x:Operand} {vx:VArg} (hx:CArg x vx) (hs:P.underlying s=some (.slice e)) (he:P.underlying e=some (.int .u8)) (ht:P.underlying t=some .string):Cop P (.convert s t x) (.bytesS vx)
 |mkfn {f:FuncId} {caps:Array Operand} {vcaps:List VArg} (hc:CArgs caps.toList vcaps):Cop P (.makeFunc (.func f) #[] caps) (.mkfn f vcaps)
 |slice {t e:TypeId} {i:TypeInfo} {x:Operand} {vx:VArg} {lo hi:Option Operand} {vlo vhi:Option VArg} (hu:P.underlying t=some (.slice e)) (hin:P.info? e=some i) (hx:CArg x vx)
   (hlo:COpt lo vlo) (hhi:COpt hi vhi):Cop P (.slice t x lo hi none) (.slice i.size vx vlo vhi)
 |slice3 {t e:TypeId} {i:TypeInfo} {x ho mo:Operand} {vx vh vm:VArg} {lo:Option Operand} {vlo:Option VArg} (hu:P.underlying t=some (.slice e)) (hin:P.info? e=some i) (hx:CArg x vx)
   (hlo:COpt lo vlo) (hhi:CArg ho vh) (hmx:CArg mo vm):Cop P (.slice t x lo (some ho) (some mo)) (.slice3 i.size vx vlo vh vm)
 |sliceS {t:TypeId} {x:Operand} {vx:VArg} {lo hi:Option Operand} {vlo vhi:Option VArg} (hu:P.underlying t=some .string) (hx:CArg x vx)
   (hlo:COpt lo vlo) (hhi:COpt hi vhi):Cop P (.slice t x lo hi none) (.sliceS vx vlo vhi)
 |fieldA {t:TypeId} {k:Nat} {x:Operand} {vx:VArg} {fs:Array Field} {f:Field} {i:TypeInfo} (hx:CArg x vx) (hu:P.underlying t=some (.struct fs)) (hf:fs[k]?=some f)
   (hi:P.info? f.type=some i) (h0:i.size≠0):Cop P (.fieldAddr t x k) (.fieldA vx f.offset)
 |field {t:TypeId} {k:Nat} {x:Operand} {vx:VArg} {fs:Array Field} {f:Field} {i:TypeInfo} {d:TypeDesc} (hx:CArg x vx) (hu:P.underlying t=some (.struct fs)) (hf:fs[k]?=some f)
   (hd:P.underlying f.type=some d) (hi:P.info? f.type=some i) (h1:aggD d=false→i.size=1):Cop P (.field t x k) (.field vx f.offset i.size (aggD d))
 |idxA {t e:TypeId} {i:TypeInfo} {x y:Operand} {vx vy:VArg} (hu:P.underlying t=some (.slice e)) (hi:P.info? e=some i) (hx:CArg x vx) (hy:CArg y vy):Cop P (.indexAddr t x y) (.idxA i.size vx vy)
 |idxAA {t e:TypeId} {n:Nat} {i:TypeInfo} {x y:Operand} {vx vy:VArg} (hu:P.underlying t=some (.array n e)) (hi:P.info? e=some i) (hx:CArg x vx) (hy:CArg y vy):Cop P (.indexAddr t x y) (.idxAA n i.size vx vy)
 |idx {t e:TypeId} {n:Nat} {i:TypeInfo} {d:TypeDesc} {x y:Operand} {vx vy:VArg} (hu:P.underlying t=some (.array n e)) (hd:P.underlying e=some d) (hi:P.info? e=some i) (h1:aggD d=false→i.size=1)
   (hx:CArg x vx) (hy:CArg y vy):Cop P (.index t x y) (.idx n i.size (aggD d) vx vy)
 |idxS {t:TypeId} {x y:Operand} {vx vy:VArg} (hu:P.underlying t=some .string) (hx:CArg x vx) (hy:CArg y vy):Cop P (.index t x y) (.idxS vx vy)
 |lenS {t e:TypeId} {x:Operand} {vx:VArg} (hu:P.underlying t=some (.slice e)) (hx:CArg x vx):Cop P (.call { callee:=.builtin .len,args:=#[x],argTypes:=#[t] }) (.len vx)
 |lenT {t:TypeId} {x:Operand} {vx:VArg} (hu:P.underlying t=some .string) (hx:CArg x vx):Cop P (.call { callee:=.builtin .len,args:=#[x],argTypes:=#[t] }) (.lenS vx)
 |lenA {t e:TypeId} {n:Nat} {x:Operand} (hu:P.underlying t=some (.array n e)):Cop P (.call { callee:=.builtin .len,args:=#[x],argTypes:=#[t] }) (.lenC n)
 |mm {mx:Bool} {ts:Array TypeId} {x y:Operand} {vx vy:VArg} (hx:CArg x vx) (hy:CArg y vy) :
   Cop P (.call { callee:=.builtin (if mx then .max else .min),args:=#[x,y],argTypes:=ts }) (.mm mx vx vy)
 |ext {x:Operand} {vx:VArg} {i:Nat} (hx:CArg x vx):Cop P (.extract x i) (.ext vx i)
theorem cargs_rel {G:Gh} {a:Act} {ts:List V} (ht:RelT G ts a.tmps):∀ {xs:List Operand} {vs:List VArg},CArgs xs vs →
  xs.length=vs.length∧∀ (j:Nat) c u,(vs.map (VArg.ev ts))[j]?=some c→(xs.map a.eval)[j]?=some u→RelV G c u
 |_,_,.nil=>⟨rfl,by simp⟩
 |_,_,.cons h hs=>by
  obtain ⟨h1,h2⟩:=cargs_rel ht hs
  refine ⟨by simp [h1],fun j c u hc hu=>?_⟩
  match j with
  |0=>simp at hc hu;subst hc;subst hu;exact h.rel ht
  |j+1=>exact h2 j c u (by simpa using hc) (by simpa using hu)
theorem rows_rel {G:Gh} {v:V} {x:Value} (h:RelV G v x) {es:List (List D)} (hr:vRows v=some es):RelD G.F (.sl es) x:=by
 cases h with
 |nil=>simp [vRows] at hr;subst hr;exact RelD.nil _
 |d hd=>
  cases hd with
  |lit _ hs=>simp [vRows] at hr
  |sl es' ad len cap sz u hlen hcap hmax hrow hb hr'=>simp [vRows] at hr;subst hr;exact .sl _ ad len cap sz u hlen hcap hmax hrow hb hr'
 |full hd hrow=>simp [vRows] at hr;subst hr;exact hd
 |own hd hrow hg htk=>simp [vRows] at hr;subst hr;exact hd
 |_=>simp [vRows] at hr
theorem cells_eq_rel {G:Gh}:∀ {ks:List CK} {xs ys:List V} {us vs:List Value} {b:Bool},vCellsEq ks xs ys=some b→us.length=xs.length→vs.length=ys.length →
  (∀ (j:Nat) c u,xs[j]?=some c→us[j]?=some u→RelV G c u)→(∀ (j:Nat) c u,ys[j]?=some c→vs[j]?=some u→RelV G c u)→cEqs ks us vs=some b
 |[],[],[],[],[],b,h,_,_,_,_=>by simp [vCellsEq] at h;simp [cEqs,h]
 |k::ks,x::xs,y::ys,u::us,v::vs,b,h,l1,l2,h1,h2=>by
  simp only [vCellsEq] at h
  split at h
  ·rename_i a b' e1 e2
   have r1:=h1 0 x u rfl rfl
   have r2:=h2 0 y v rfl rfl
   have ih:=cells_eq_rel e2 (by simpa using l1) (by simpa using l2) (fun j c w hc hw=>h1 (j+1) c w (by simpa using hc) (by simpa using hw)) (fun j c w hc hw=>h2 (j+1) c w (by simpa using hc) (by simpa using hw))
   have:cEq k u v=some a:=by
    unfold vCellEq at e1
    split at e1
    ·rw [lit_rel r1,lit_rel r2];exact e1
    ·rw [lit_rel r1,lit_rel r2];exact e1
    ·rw [lit_rel r1,lit_rel r2];exact e1
    ·cases e1
   simp only [cEqs,this,ih]
   exact h
  ·cases h
 |[],_::_,_,_,_,_,h,_,_,_,_=>by simp [vCellsEq] at h
 |[],[],_::_,_,_,_,h,_,_,_,_=>by simp [vCellsEq] at h
 |_::_,[],_,_,_,_,h,_,_,_,_=>by simp [vCellsEq] at h
 |_::_,_::_,[],_,_,_,h,_,_,_,_=>by simp [vCellsEq] at h
 |[],[],[],_::_,_,_,_,l1,_,_,_=>by simp at l1
 |[],[],[],[],_::_,_,_,_,l2,_,_=>by simp at l2
 |_::_,_::_,_::_,[],_,_,_,l1,_,_,_=>by simp at l1
 |_::_,_::_,_::_,_::_,[],_,_,_,l2,_,_=>by simp at l2
theorem run_eqs {w:World} {t:TypeId} {ks:List CK} {dd:TypeDesc} (hf:flatT P 100 t=some ks) (hu:P.underlying t=some dd) (ha:aggD dd=true) (hg:P.eqGuardType P.depth t=false) {us vs:Array Value} {b:Bool} (h:cEqs ks us.toList vs.toList=some b)
  {neg:Bool} {op:BinOp} (hop:op=if neg then .neq else .eql) {ox oy:Operand} :
  (do eqGuard op t ox oy (.agg us) (.agg vs);binOp op t (.agg us) (.agg vs):Sem Value).run P w=.ok (.bool (if neg then !b else b)) w:=by
 have he:=flat_eq (P:=P) w 100 t ks hf Op.maxDepth (by unfold Op.maxDepth;omega) us.toList vs.toList b h
 simp only [shp,hu,ha,if_true,Array.toArray_toList] at he
 have he2:(Op.equal t (.agg us) (.agg vs)).run P w=.ok b w:=he
 have h3:∀ op y,(eqGuard op t ox y (.agg us) (.agg vs)).run P w=.ok () w:=fun op y=>by
  cases op<;>simp [eqGuard,hg]
 cases neg<;>subst hop
 ·simp only [Sem.run_bind,h3,Result.andThen_ok,binOp,Bool.false_eq_true,if_false]
  simp [he2]
 ·simp only [Sem.run_bind,h3,Result.andThen_ok,binOp,if_true]
  simp [he2]
theorem vPure_sound {G:Gh} {w:World} {o:Oper} {vo:VOp} {a:Act} {ts:List V} {bl:Nat→Option (List V)} {r:V}
  (hc:Cop P o.op vo) (ht:RelT G ts a.tmps) (hb:∀ id cs,bl id=some cs→Blk G w id cs) (hf:FzOk G.F w) (h:vPure bl (VArg.ev ts) vo=some r) :
  ∃ x,(execOp a.eval o).run P w=.ok (.value x) w∧RelV G r x:=by
 generalize hop:o.op=op at hc
 cases hc with
 |move hx=>simp [vPure] at h;subst h;exact ⟨_,by simp [execOp,hop],hx.rel ht⟩
 |assign hx=>simp [vPure] at h;subst h;exact ⟨_,by simp [execOp,hop],hx.rel ht⟩
 |pick hc ha hb=>
  simp only [vPure] at h
  split at h<;>simp at h
  rename_i t hbo
  subst h
  have:=V.bool_rel (hc.rel ht) hbo
  refine ⟨_,by simp [execOp,hop,this,asBool];rfl,?_⟩
  cases t
  ·exact hb.rel ht
  ·exact ha.rel ht
 |build hz hp hbt=>
  simp only [vPure] at h
  obtain ⟨cs,hcs,rfl⟩:=Option.map_eq_some_iff.1 h
  obtain ⟨cells,hf',hr⟩:=fill_rel ht hp (hz G) hcs
  refine ⟨.agg cells,?_,hr.agg⟩
  have hb':=hbt (Array.map (fun (i,x)=>(i,a.eval x)) ‹Array (Nat×Operand)›).toList
  rw [Array.toList_map] at hb'
  rw [hf'] at hb'
  simp only [execOp,hop,Sem.run_bind]
  rw [run_build w _ _ cells (by rw [Array.toList_map];exact hb')]
  rfl
 |load hx hd hi h1=>
  simp only [vPure] at h
  split at h
  case h_2=>cases h
  rename_i cs hcs
  obtain ⟨b,o',hxv,hl,u,hu⟩:=load_rel hb hf (hx.rel ht) hcs
  obtain ⟨y,hy,hr⟩:=run_loadVar' (P:=P) (w:=w) hd hi h1 hl hu h
  exact ⟨y,by simp [execOp,hop,Instr.loadAt,Instr.sureAddr,hxv,hy],hr⟩
 |nilCheck hx=>
  simp only [vPure] at h
  have hrel:=hx.rel ht (G:=G)
  simp only [execOp,hop]
  generalize a.eval _=xv at hrel
  split at h<;>simp at h<;>subst h<;>rename_i heq<;>rw [heq] at hrel
  ·cases hrel with|ptr hi=>exact ⟨_,rfl,.ptr hi⟩
  ·cases hrel with|ep u hc hr=>exact ⟨_,rfl,.ep u hc hr⟩
  ·cases hrel with|epv hc hs hr=>exact ⟨_,rfl,.epv hc hs hr⟩
  ·cases hrel with|fn hl hr=>exact ⟨_,rfl,.fn hl hr⟩
 |bin hx hy=>
  simp only [vPure] at h
  obtain ⟨z,hz,hr⟩:=vBin_rel (P:=P) (w:=w) (hx.rel ht) (hy.rel ht) h
  exact ⟨z,by simp only [execOp,hop];rw [Sem.run_bind,hz];rfl,hr⟩
 |@eqb neg t t' x y vx vy htt hx hy=>
  simp only [vPure] at h
  split at h<;>simp at h
  rename_i b1 b2 h1 h2
  subst h
  have hv1:=V.bool_rel (hx.rel ht) h1
  have hv2:=V.bool_rel (hy.rel ht) h2
  refine ⟨_,?_,rel_lit _ rfl⟩
  simp only [execOp,hop]
  rw [Sem.run_bind,hv1,hv2,eqb_rel neg rfl htt]
  cases neg<;>simp
 |@eqs neg op t t' x y vx vy ks dd hf2 hu ha hg hx hy hop'=>
  simp only [vPure] at h
  have r1:=hx.rel ht (G:=G)
  have r2:=hy.rel ht (G:=G)
  split at h
  case h_2=>cases h
  rename_i xs ys e1 e2
  rw [e1] at r1
  rw [e2] at r2
  obtain ⟨b,hb,rfl⟩:=Option.map_eq_some_iff.1 h
  generalize hxv:a.eval x=xv at r1
  generalize hyv:a.eval y=yv at r2
  cases r1 with
  |@agg _ us l1 _ h1=>
  cases r2 with
  |@agg _ vs l2 _ h2=>
  have hc:=cells_eq_rel (G:=G) hb (us:=us.toList) (vs:=vs.toList) (by simpa using l1) (by simpa using l2) (fun j c u hc hu=>h1 j c u hc (by simpa using hu)) (fun j c u hc hu=>h2 j c u hc (by simpa using hu))
  refine ⟨_,?_,rel_lit _ rfl⟩
  simp only [execOp,hop]
  rw [Sem.run_bind,hxv,hyv,run_eqs hf2 hu ha hg hc hop']
  rfl
 |un hx=>
  simp only [vPure,vUn] at h
  have hrel:=hx.rel ht (G:=G)
  split at h<;>simp at h<;>subst h<;>rename_i heq<;>rw [heq] at hrel<;>have hv:=lit_rel hrel
  ·exact ⟨_,by simp [execOp,hop,hv,Op.unary,Op.intArith],rel_lit _ rfl⟩
  ·exact ⟨_,by simp [execOp,hop,hv,Op.unary,Op.intBits],rel_lit _ rfl⟩
  ·exact ⟨_,by simp [execOp,hop,hv,Op.unary],rel_lit _ rfl⟩
 |convI hx hs htd=>
  simp only [vPure] at h
  split at h<;>simp at h
  rename_i k n hn
  subst h
  have hv:=V.int_rel (hx.rel ht) hn
  exact ⟨_,by simp [execOp,hop,hv,convert,run_underlying hs,run_underlying htd,Conv.intToInt],rel_lit _ rfl⟩
 |@nilEq neg op t e t' x vx hx hu hop'=>
  simp only [vPure] at h
  split at h<;>simp at h
  rename_i b hb
  subst h
  have hrel:=hx.rel ht (G:=G)
  have hform:∃ a' n c,a.eval x=.slice a' n c∧a'.isNone=b:=by
   generalize VArg.ev ts vx=v at hrel hb
   generalize a.eval x=xv at hrel
   unfold vIsNil at hb
   split at hb<;>simp at hb<;>subst hb
   ·cases hrel;exact ⟨none,0,0,rfl,rfl⟩
   ·cases hrel with
    |d h=>
     cases h with
     |sl _ a' n c _ _ _ _ _ _ hb _=>obtain ⟨b,o,rfl,_⟩:=hb (by simp);exact ⟨_,_,_,rfl,rfl⟩
   ·cases hrel with
    |full h _=>
     cases h with
     |sl _ a' n c _ _ _ _ _ _ hb _=>obtain ⟨b,o,rfl,_⟩:=hb (by simp);exact ⟨_,_,_,rfl,rfl⟩
    |own h _ _ _=>
     cases h with
     |sl _ a' n c _ _ _ _ _ _ hb _=>obtain ⟨b,o,rfl,_⟩:=hb (by simp);exact ⟨_,_,_,rfl,rfl⟩
   ·cases hrel;exact ⟨_,_,_,rfl,rfl⟩
   ·cases hrel;exact ⟨_,_,_,rfl,rfl⟩
  obtain ⟨a',n,c,hxv,rfl⟩:=hform
  refine ⟨_,?_,rel_lit _ rfl⟩
  simp only [execOp,hop]
  rw [Sem.run_bind,hxv]
  have hev:a.eval (.const (.slice none 0 0))=.slice none 0 0:=rfl
  rw [hev]
  have heq:=run_equal_slice_nil (P:=P) w t e a' n c hu
  subst hop'
  have h1:(binOp .eql t (.slice a' n c) (.slice none 0 0)).run P w=.ok (.bool a'.isNone) w:=by
   simp only [binOp]
   simp [heq]
  have h2:(binOp .neq t (.slice a' n c) (.slice none 0 0)).run P w=.ok (.bool (!a'.isNone)) w:=by
   simp only [binOp]
   simp [heq]
  have h3:∀ op y,(eqGuard op t x y (.slice a' n c) (.slice none 0 0)).run P w=.ok () w:=fun op y=>by
   cases op<;>simp [eqGuard]
  cases neg
  ·simp [Sem.run_bind,h1,h3]
  ·simp [Sem.run_bind,h2,h3]
 |convS hx hs htd=>
  simp only [vPure] at h
  split at h<;>simp at h
  rename_i s hst
  subst h
  have hv:=V.str_rel (hx.rel ht) hst
  exact ⟨_,by simp [execOp,hop,hv,convert,run_underlying hs,run_underlying htd],rel_lit _ rfl⟩
 |bytesS hx hs he htd=>
  simp only [vPure] at h
  split at h
  case h_2=>cases h
  rename_i es hes
  split at h<;>simp at h
  rename_i l hl
  subst h
  obtain ⟨h1,h2,h3⟩:=bytes_rel hl
  have hrel:=hx.rel ht (G:=G)
  have hd:RelD G.F (.sl es) (a.eval _):=rows_rel hrel hes
  obtain ⟨ad,len,cap,hxv⟩:=hd.form
  rw [hxv] at hd
  simp only [execOp,hop,hxv,Sem.run_bind]
  have hlen:=hd.len.1
  by_cases hne:es=[]
  ·subst hne
   simp [bytesOf] at hl;subst hl
   simp only [List.length_nil] at hlen
   subst hlen
   refine ⟨.string ⟨#[]⟩,?_,rel_lit _ rfl⟩
   rw [run_convert_bytes_string w _ _ _ ad 0 cap hs he htd]
   cases ad with
   |none=>simp [Conv.bytesToString];rfl
   |some ad=>rw [run_bytesToString w ad 0 cap [] (by simp [loadCells,loadCellsFrom])];rfl
  ·cases hd with
   |sl _ _ _ _ sz u hlen' hcap hmax hrow hb' hr=>
    obtain ⟨b,o',rfl,hc⟩:=hb' hne
    have hsz:sz=1:=by
     cases es with
     |nil=>exact absurd rfl hne
     |cons r es=>rw [← hrow 0 r rfl];exact h1 r (List.mem_cons_self)
    subst hsz
    refine ⟨.string ⟨l.toArray⟩,?_,rel_lit _ rfl⟩
    have key:∀ i,i<es.length→∃ n,u i 0=.int .u8 n∧l[i]?=some (UInt8.ofNat n.toNat):=fun i hi=>by
     have he1:=List.getElem?_eq_getElem hi
     have hl1:=List.getElem?_eq_getElem (show i<l.length by omega)
     obtain ⟨n,hn1,hn2⟩:=h3 i _ _ he1 hl1
     have hd:=hr i 0 _ (D.lit (Value.int IntKind.u8 n)) he1 (by rw [hn1];rfl)
     refine ⟨n,?_,by rw [hl1,hn2]⟩
     generalize u i 0=x at hd
     cases hd;rfl
    rw [run_convert_bytes_arg w _ _ hs he b o' len cap ((List.range es.length).map fun i=>match u i 0 with|.int _ n=>n|_=>0) (by simp [hlen]) (fun i hi=>?_) _ htd]
    ·simp only [Result.andThen_ok,Sem.run_pure]
     congr 3
     unfold strOfNums
     congr 2
     apply List.ext_getElem?
     intro i
     rcases Nat.lt_or_ge i es.length with hi|hi
     ·obtain ⟨n,hu,hli⟩:=key i hi
      rw [hli]
      simp [List.getElem?_map,List.getElem?_range hi,hu]
     ·rw [List.getElem?_eq_none (by simp;exact hi),List.getElem?_eq_none (by omega)]
    ·obtain ⟨n,hu,hli⟩:=key i (by omega)
     have h5:=hf b (o'+i) (u i 0) (by have:=hc i 0 (by omega) (by omega);simpa using this)
     rw [h5,hu]
     simp [List.getD,List.getElem?_map,List.getElem?_range (show i<es.length by omega),hu]
 |mkfn hcs=>
  simp [vPure] at h;subst h
  obtain ⟨h1,h2⟩:=cargs_rel ht hcs (G:=G)
  refine ⟨_,by simp [execOp,hop,Instr.makeFunc];rfl,.fn (by simpa using h1) (fun j c x hj hx=>h2 j c x hj ?_)⟩
  simpa using hx
 |slice hu hin hx hlo hhi=>
  simp only [vPure] at h
  obtain ⟨y,hy,hr⟩:=slice_rel (P:=P) (w:=w) hu hin hlo hhi ht (hx.rel ht) h
  exact ⟨y,by simp [execOp,hop,hy],hr⟩
 |slice3 hu hin hx hlo hhi hmx=>
  simp only [vPure] at h
  obtain ⟨y,hy,hr⟩:=slice3_rel (P:=P) (w:=w) hu hin hlo hhi hmx ht (hx.rel ht) h
  exact ⟨y,by simp [execOp,hop,hy],hr⟩
 |sliceS hu hx hlo hhi=>
  simp only [vPure] at h
  split at h
  case h_2=>cases h
  rename_i s hs
  obtain ⟨⟨l,hi⟩,hbd,rfl⟩:=Option.map_eq_some_iff.1 h
  have hv:=V.str_rel (hx.rel ht) hs
  have:=bounds_run (P:=P) (w:=w) (isS:=false) (Nat.le_refl _) hlo hhi ht hbd
  exact ⟨_,by simp [execOp,hop,hv,Instr.sliceAt,Instr.slice,run_underlying hu,this.1],rel_lit _ rfl⟩
 |fieldA hx hu hfd hi h0=>
  simp only [vPure] at h
  obtain ⟨b,o',hxv,hr⟩:=fieldA_rel (hx.rel ht) h
  exact ⟨_,by simp [execOp,hop,hxv,Instr.fieldAt,run_underlying hu,hfd,Instr.sureAddr,fieldPlace,run_sizeOf' hi,h0,add_mk],hr⟩
 |field hx hu hfd hd hi h1=>
  simp only [vPure] at h
  obtain ⟨cs,hxv,y,hy,hr⟩:=part_rel (P:=P) (w:=w) hd hi h1 (hx.rel ht) h
  exact ⟨y,by simp [execOp,hop,hxv,Instr.field,run_underlying hu,hfd,asAgg,hy],hr⟩
 |idxA hu hi hx hy=>
  simp only [vPure] at h
  obtain ⟨z,hz,hr⟩:=idxA_rel (P:=P) (w:=w) hu hi (hx.rel ht) (hy.rel ht) h
  exact ⟨z,by simp [execOp,hop,hz],hr⟩
 |idxAA hu hi hx hy=>
  simp only [vPure] at h
  split at h
  case h_2=>cases h
  rename_i k hk
  obtain ⟨kd,n,hyv,h0,h1,rfl⟩:=idx_rel (hy.rel ht) hk
  obtain ⟨b,o',hxv,hr⟩:=fieldA_rel (hx.rel ht) h
  exact ⟨_,by simp [execOp,hop,hxv,hyv,Instr.indexAt,run_underlying hu,asIntOf,Instr.sureAddr,h0,h1,run_sizeOf' hi,add_mk],hr⟩
 |idx hu hd hi h1 hx hy=>
  simp only [vPure] at h
  split at h
  case h_2=>cases h
  rename_i k hk
  obtain ⟨kd,n,hyv,h0,h1',rfl⟩:=idx_rel (hy.rel ht) hk
  obtain ⟨cs,hxv,y,hy',hr⟩:=part_rel (P:=P) (w:=w) hd hi h1 (hx.rel ht) h
  exact ⟨y,by simp [execOp,hop,hxv,hyv,Instr.index,run_underlying hu,asIntOf,h0,h1',run_sizeOf' hi,hy'],hr⟩
 |idxS hu hx hy=>
  simp only [vPure] at h
  split at h
  case h_2=>cases h
  rename_i s hs
  split at h
  case h_2=>cases h
  rename_i k hk
  split at h<;>simp at h
  rename_i b hb
  subst h
  obtain ⟨kd,n,hyv,h0,h1,rfl⟩:=idx_rel (hy.rel ht) hk
  have hv:=V.str_rel (hx.rel ht) hs
  exact ⟨_,by simp [execOp,hop,hv,hyv,Instr.index,run_underlying hu,asIntOf,h0,hb],rel_lit _ rfl⟩
 |lenS hu hx=>
  simp only [vPure] at h
  obtain ⟨n,rfl,ad,cap,hxv⟩:=len_rel (hx.rel ht) h
  exact ⟨_,by simp [execOp,hop,resolve,invoke,builtin,hxv,Builtin.len_,run_underlying hu,goInt],rel_lit _ rfl⟩
 |lenT hu hx=>
  simp only [vPure] at h
  split at h<;>simp at h
  rename_i s hst
  subst h
  have hv:=V.str_rel (hx.rel ht) hst
  exact ⟨_,by simp [execOp,hop,resolve,invoke,builtin,hv,Builtin.len_,run_underlying hu,goInt],rel_lit _ rfl⟩
 |lenA hu=>
  simp [vPure] at h;subst h
  exact ⟨_,by simp [execOp,hop,resolve,invoke,builtin,Builtin.len_,run_underlying hu,goInt],rel_lit _ rfl⟩
 |@mm mx tys x y vx vy hx hy=>
  simp only [vPure] at h
  split at h<;>simp at h
  rename_i k a' k' b' hx' hy'
  subst h
  have h1:=hx.rel ht (G:=G);have h2:=hy.rel ht (G:=G)
  rw [hx'] at h1;rw [hy'] at h2
  have hv1:=lit_rel h1;have hv2:=lit_rel h2
  cases mx
  ·exact ⟨_,by simp [execOp,hop,resolve,invoke,builtin,hv1,hv2,Builtin.min_,Builtin.min2],rel_lit _ rfl⟩
  ·exact ⟨_,by simp [execOp,hop,resolve,invoke,builtin,hv1,hv2,Builtin.max_,Builtin.max2],rel_lit _ rfl⟩
 |ext hx=>
  simp only [vPure] at h
  have hrel:=hx.rel ht (G:=G)
  simp only [execOp,hop]
  generalize a.eval _=xv at hrel
  split at h
  case h_2=>cases h
  rename_i vs heq
  rw [heq] at hrel
  cases hrel with
  |tup hl hr=>
   have hlt:=(List.getElem?_eq_some_iff.1 h).1
   have hx':=Array.getElem?_eq_getElem (xs:=‹Array Value›) (i:=_) (by rw [hl];exact hlt)
   exact ⟨_,by simp [Instr.extract,hx'],hr _ _ _ h hx'⟩
end
end Go.VM
namespace Go.VM
structure St where
 tmps:List V
 blocks:List (List V)
 live:List Nat
 gn:Nat
 base:Nat
 dep:Nat
 deriving Inhabited
def Own (G:Gh) (w:World) (B sz:Nat) (a:Option Addr) (len cap:Nat):Prop:=
 len=cap∨∃ b e cur,0<len∧a=some ⟨b,0,none⟩∧B≤b∧w.heap[b]?=some (.cells cur e (0,0))∧len≤cap∧cur.size=cap*sz∧0<sz ∧
  (∀ o,len*sz≤o→G.F b o=none)∧∀ i,G.ι i≠some b
structure Wx (w0 w:World) (T:Nat→Prop):Prop where
 os:w.os=w0.os
 tape:w.tape=w0.tape
 output:w.output=w0.output
 size:w0.heap.size≤w.heap.size
 block:∀ b,b<w0.heap.size→¬T b→w.heap[b]?=w0.heap[b]?
structure Rl (w0:World) (G0:Gh) (st:St) (G:Gh) (w:World):Prop where
 dep:G.dep=st.dep
 dep0:G0.dep=st.dep
 gn:G.gn=st.gn
 F0:G0.F.le G.F
 Fnew:∀ b o,b<w0.heap.size→G.F b o=G0.F b o
 ι0:∀ i,i<st.base→G.ι i=G0.ι i
 τ0:∀ d g,d<st.dep→G.τ d g=G0.τ d g
 wx:Wx w0 w (fun b=>∃ i,i<st.base∧G0.ι i=some b)
 base:st.base≤st.blocks.length
 fz:FzOk G.F w
 inj:∀ i j b,G.dd i=false→G.dd j=false→G.ι i=some b→G.ι j=some b→i=j
 lt:∀ i b,G.ι i=some b→i<st.blocks.length
 sep:∀ i b o,G.dd i=false→G.ι i=some b→G.F b o=none
 ddb:∀ i,G.dd i=true→st.blocks[i]?=some []
 dd0:∀ i,i<st.base→G0.dd i=true→G.dd i=true
 ζ0:∀ i,i<st.base→G.ζ i=G0.ζ i
 zok:∀ i b,G.ι i=some b→∃ cur e,w.heap[b]?=some (.cells cur e (0,0))∧cur.size=G.ζ i
 old:∀ i b,i<st.base→G.ι i=some b→b<w0.heap.size
 new:∀ i b,st.base≤i→G.ι i=some b→w0.heap.size≤b
 blk:∀ id cs,st.blocks[id]?=some cs→Blk (if id<st.base then G.old else G) w id cs
 tok:∀ g,g∈st.live→g<st.gn∧∃ a len cap sz,G.τ st.dep g=some (.slice a len cap,sz)∧Own G w w0.heap.size sz a len cap
 tinj:∀ g g',g∈st.live→g'∈st.live→g≠g'→∀ b l c sz l' c' sz',G.τ st.dep g=some (.slice (some ⟨b,0,none⟩) l c,sz)→G.τ st.dep g'=some (.slice (some ⟨b,0,none⟩) l' c',sz')→l=c∨l'=c'
theorem Blk.mono {G G':Gh} {w:World} {id:Nat} {cs:List V} (hG:G.le G') (h:Blk G w id cs):Blk G' w id cs:=by
 obtain ⟨b,cur,e,hi,hh,hl,hr⟩:=h
 exact ⟨b,cur,e,hG.ι _ _ hi,hh,hl,fun j c x h1 h2=>⟨(hr j c x h1 h2).1,(hr j c x h1 h2).2.mono hG⟩⟩
theorem Blk.world {G:Gh} {w w':World} {id:Nat} {cs:List V} (h:Blk G w id cs) (hw:∀ b,G.ι id=some b→w'.heap[b]?=w.heap[b]?):Blk G w' id cs:=by
 obtain ⟨b,cur,e,hi,hh,hl,hr⟩:=h
 exact ⟨b,cur,e,hi,by rw [hw b hi];exact hh,hl,hr⟩
theorem Rl.blkG {w0:World} {G0:Gh} {st:St} {G:Gh} {w:World} (h:Rl w0 G0 st G w) (id:Nat) (cs:List V) (hb:st.blocks[id]?=some cs):Blk G w id cs:=by
 have:=h.blk id cs hb
 split at this
 ·exact this.mono G.old_le
 ·exact this
theorem Blk.lt {G:Gh} {w:World} {id:Nat} {cs:List V} (h:Blk G w id cs) {b:Nat} (hi:G.ι id=some b):b<w.heap.size:=by
 obtain ⟨b',cur,e,hi',hh,_⟩:=h
 rw [hi] at hi'
 obtain rfl:b=b':=by simpa using hi'
 exact (Array.getElem?_eq_some_iff.1 hh).1
theorem Blk.dead {G:Gh} {w:World} {id b:Nat} {cur:Array Value} {e:TypeId} (hi:G.ι id=some b) (h:w.heap[b]?=some (.cells cur e (0,0))):Blk G w id []:=
 ⟨b,cur,e,hi,h,Nat.zero_le _,fun j c x h1=>by simp at h1⟩
theorem Rl.ιlt {w0:World} {G0:Gh} {st:St} {G:Gh} {w:World} (h:Rl w0 G0 st G w) {i b:Nat} (hi:G.ι i=some b):b<w.heap.size:=
 (h.blkG i _ (List.getElem?_eq_getElem (h.lt i b hi))).lt hi
theorem FzOk.lt {F:Fz} {w:World} (h:FzOk F w) {b o:Nat} {u:Value} (hf:F b o=some u):b<w.heap.size:=
 World.block_lt_of_cell? w _ (h b o u hf)
theorem FzOk.none_new {F:Fz} {w:World} (h:FzOk F w) (o:Nat):F w.heap.size o=none:=by
 cases hf:F w.heap.size o with
 |none=>rfl
 |some u=>exact absurd (h.lt hf) (Nat.lt_irrefl _)
theorem Rl.world {w0:World} {G0:Gh} {st:St} {G:Gh} {w w':World} (h:Rl w0 G0 st G w) (hw:Wx w w' (fun _=>False)):Rl w0 G0 st G w':=
 {h with
  wx:=⟨hw.os.trans h.wx.os,hw.tape.trans h.wx.tape,hw.output.trans h.wx.output,Nat.le_trans h.wx.size hw.size,fun b hb hT=>(hw.block b (Nat.lt_of_lt_of_le hb h.wx.size) id).trans (h.wx.block b hb hT)⟩
  fz:=fun b o u hf=>by
   rw [World.cell?_of_block (w:=w) (hw.block b (h.fz.lt hf) id)];exact h.fz b o u hf
  blk:=fun k cs hb=>(h.blk k cs hb).world fun b hi=>hw.block b (by
   have h1:Blk G w k cs:=h.blkG k cs hb
   refine h1.lt ?_
   split at hi<;>exact hi) id
  zok:=fun i b hi=>by
   obtain ⟨cur,e,h1,h2⟩:=h.zok i b hi
   exact ⟨cur,e,by rw [hw.block b (Array.getElem?_eq_some_iff.1 h1).1 id];exact h1,h2⟩
  tok:=fun g hg=>by
   obtain ⟨h1,a,len,cap,sz,h2,h3⟩:=h.tok g hg
   refine ⟨h1,a,len,cap,sz,h2,?_⟩
   rcases h3 with h3|⟨b,e,cur,r1,r2,r3,r4,rest⟩
   ·exact .inl h3
   ·exact .inr ⟨b,e,cur,r1,r2,r3,by rw [hw.block b (Array.getElem?_eq_some_iff.1 r4).1 id];exact r4,rest⟩ }
theorem Wx.refl (w:World) (T:Nat→Prop):Wx w w T:=⟨rfl,rfl,rfl,Nat.le_refl _,fun _ _ _=>rfl⟩
theorem Wx.drew (w:World) (T:Nat→Prop):Wx w w.drew T:=⟨rfl,rfl,rfl,Nat.le_refl _,fun _ _ _=>rfl⟩
theorem Wx.alloc (w:World) (o:Obj) (T:Nat→Prop):Wx w (w.alloc o) T:=⟨rfl,rfl,rfl,by simp,fun b hb _=>heap_alloc_old w o hb⟩
theorem Wx.trans {a b c:World} {T:Nat→Prop} (h:Wx a b T) (k:Wx b c T):Wx a c T:=
 ⟨k.os.trans h.os,k.tape.trans h.tape,k.output.trans h.output,Nat.le_trans h.size k.size,fun i hi hT=>(k.block i (Nat.lt_of_lt_of_le hi h.size) hT).trans (h.block i hi hT)⟩
def Gh.fz (G:Gh) (b:Nat) (cur:Array Value):Gh:={ G with F:=fun c o=>if c=b then cur[o]? else G.F c o }
theorem Gh.le_fz {G:Gh} {b:Nat} {cur:Array Value} (h:∀ o,G.F b o=none):G.le (G.fz b cur):=
 ⟨fun c o u hf=>by
  show (if c=b then cur[o]? else G.F c o)=some u
  rw [if_neg (by rintro rfl;rw [h] at hf;cases hf)];exact hf,fun _ _ h=>h,fun _ _ _ _ h=>h,fun _ _ h=>h,fun _ _ _=>rfl⟩
theorem Rl.alloc_fz {w0:World} {G0:Gh} {st:St} {G:Gh} {w:World} (h:Rl w0 G0 st G w) (cur rest:Array Value) (e:TypeId) :
  Rl w0 G0 st (G.fz w.heap.size cur) (w.alloc (.cells (cur++rest) e))∧G.le (G.fz w.heap.size cur):=by
 have hle:G.le (G.fz w.heap.size cur):=Gh.le_fz fun o=>h.fz.none_new o
 have h':=h.world (Wx.alloc w (.cells (cur++rest) e) _)
 have hιne:∀ i,G.ι i≠some w.heap.size:=fun i hi=>Nat.lt_irrefl _ (h.ιlt hi)
 refine ⟨?_,hle⟩
 exact
  {h' with
   F0:=Fz.le_trans h.F0 hle.F
   Fnew:=fun b o hb=>by
    show (if b=w.heap.size then cur[o]? else G.F b o)=_
    rw [if_neg (by have:=h.wx.size;omega)];exact h.Fnew b o hb
   fz:=fun b o u hf=>by
    have hf':(if b=w.heap.size then cur[o]? else G.F b o)=some u:=hf
    split at hf'
    ·rename_i hb;subst hb
     rw [World.cell?_alloc_new,Array.getElem?_append_left (Array.getElem?_eq_some_iff.1 hf').1];exact hf'
    ·exact h'.fz b o u hf'
   sep:=fun i b o hd hi=>by
    show (if b=w.heap.size then cur[o]? else G.F b o)=none
    rw [if_neg (by rintro rfl;exact hιne i hi)];exact h.sep i b o hd hi
   blk:=fun k cs hb=>by
    have:=h'.blk k cs hb
    split
    ·rename_i hk;rw [if_pos hk] at this
     exact this.mono (show G.old.le (G.fz _ _).old from ⟨hle.F,fun _ _ h=>h,fun _ _ _ _ h=>h,fun _ _ h=>h,fun _ _ _=>rfl⟩)
    ·rename_i hk;rw [if_neg hk] at this
     exact this.mono hle
   tok:=fun g hg=>by
    obtain ⟨h1,a,len,cap,sz,h2,h3⟩:=h.tok g hg
    refine ⟨h1,a,len,cap,sz,h2,?_⟩
    rcases h3 with h3|⟨b,e',cur',r1,r2,r3,r4,r5,r6,r7,r8,r9⟩
    ·exact .inl h3
    ·have hb:=(Array.getElem?_eq_some_iff.1 r4).1
     refine .inr ⟨b,e',cur',r1,r2,r3,(heap_alloc_old w _ hb).trans r4,r5,r6,r7,fun o ho=>?_,r9⟩
     show (if b=w.heap.size then cur[o]? else G.F b o)=none
     rw [if_neg (by omega)];exact r8 o ho }
theorem cell_newO {w:World} (c:Array Value) (t:TypeId) (fr:Nat×Nat) (i:Nat):(w.alloc (.cells c t fr)).cell? ⟨w.heap.size,i,none⟩=c[i]?:=by
 show (match (w.heap.push (.cells c t fr))[w.heap.size]? with|some (.cells c _ _)=>if (none:Option Nat).isSome then none else c[i]?|_=>none)=_
 rw [Array.getElem?_push_size]
 rfl
theorem Rl.alloc_fzO {w0:World} {G0:Gh} {st:St} {G:Gh} {w:World} (h:Rl w0 G0 st G w) (cur rest:Array Value) (e:TypeId) (fr:Nat×Nat) :
  Rl w0 G0 st (G.fz w.heap.size cur) (w.alloc (.cells (cur++rest) e fr))∧G.le (G.fz w.heap.size cur):=by
 have hle:G.le (G.fz w.heap.size cur):=Gh.le_fz fun o=>h.fz.none_new o
 have h':=h.world (Wx.alloc w (.cells (cur++rest) e fr) _)
 have hιne:∀ i,G.ι i≠some w.heap.size:=fun i hi=>Nat.lt_irrefl _ (h.ιlt hi)
 refine ⟨?_,hle⟩
 exact
  {h' with
   F0:=Fz.le_trans h.F0 hle.F
   Fnew:=fun b o hb=>by
    show (if b=w.heap.size then cur[o]? else G.F b o)=_
    rw [if_neg (by have:=h.wx.size;omega)];exact h.Fnew b o hb
   fz:=fun b o u hf=>by
    have hf':(if b=w.heap.size then cur[o]? else G.F b o)=some u:=hf
    split at hf'
    ·rename_i hb;subst hb
     rw [cell_newO,Array.getElem?_append_left (Array.getElem?_eq_some_iff.1 hf').1];exact hf'
    ·exact h'.fz b o u hf'
   sep:=fun i b o hd hi=>by
    show (if b=w.heap.size then cur[o]? else G.F b o)=none
    rw [if_neg (by rintro rfl;exact hιne i hi)];exact h.sep i b o hd hi
   blk:=fun k cs hb=>by
    have:=h'.blk k cs hb
    split
    ·rename_i hk;rw [if_pos hk] at this
     exact this.mono (show G.old.le (G.fz _ _).old from ⟨hle.F,fun _ _ h=>h,fun _ _ _ _ h=>h,fun _ _ h=>h,fun _ _ _=>rfl⟩)
    ·rename_i hk;rw [if_neg hk] at this
     exact this.mono hle
   tok:=fun g hg=>by
    obtain ⟨h1,a,len,cap,sz,h2,h3⟩:=h.tok g hg
    refine ⟨h1,a,len,cap,sz,h2,?_⟩
    rcases h3 with h3|⟨b,e',cur',r1,r2,r3,r4,r5,r6,r7,r8,r9⟩
    ·exact .inl h3
    ·have hb:=(Array.getElem?_eq_some_iff.1 r4).1
     refine .inr ⟨b,e',cur',r1,r2,r3,(heap_alloc_old w _ hb).trans r4,r5,r6,r7,fun o ho=>?_,r9⟩
     show (if b=w.heap.size then cur[o]? else G.F b o)=none
     rw [if_neg (by omega)];exact r8 o ho }
def Gh.blk (G:Gh) (i b n:Nat):Gh:={ G with ι:=fun j=>if j=i then some b else G.ι j,ζ:=fun j=>if j=i then n else G.ζ j }
theorem Gh.le_blk {G:Gh} {i b n:Nat} (h:G.ι i=none):G.le (G.blk i b n):=
 ⟨G.F.le_refl,fun j c hj=>by show (if j=i then some b else G.ι j)=some c;rw [if_neg (by rintro rfl;rw [h] at hj;cases hj)];exact hj,fun _ _ _ _ h=>h,fun _ _ h=>h,fun j c hj=>by show (if j=i then n else G.ζ j)=G.ζ j;rw [if_neg (by rintro rfl;rw [h] at hj;cases hj)]⟩
theorem Rl.alloc_blkP {w0:World} {G0:Gh} {st:St} {G:Gh} {w:World} (h:Rl w0 G0 st G w) {cs:List V} {cur:Array Value} (e:TypeId) (hcl:cs.length≤cur.size) (hcr:∀ (j:Nat) c x,cs[j]?=some c→cur[j]?=some x→sc x=true∧RelV G c x) :
  Rl w0 G0 { st with blocks:=st.blocks++[cs] } (G.blk st.blocks.length w.heap.size cur.size) (w.alloc (.cells cur e))∧G.le (G.blk st.blocks.length w.heap.size cur.size):=by
 have hn:G.ι st.blocks.length=none:=by
  cases hi:G.ι st.blocks.length with
  |none=>rfl
  |some b=>exact absurd (h.lt _ _ hi) (Nat.lt_irrefl _)
 have hle:G.le (G.blk st.blocks.length w.heap.size cur.size):=Gh.le_blk hn
 have h':=h.world (Wx.alloc w (.cells cur e) _)
 have hιne:∀ i,G.ι i≠some w.heap.size:=fun i hi=>Nat.lt_irrefl _ (h.ιlt hi)
 have hι:∀ j c,(G.blk st.blocks.length w.heap.size cur.size).ι j=some c→(j=st.blocks.length∧c=w.heap.size)∨(j≠st.blocks.length∧G.ι j=some c):=fun j c hj=>by
  have hj':(if j=st.blocks.length then some w.heap.size else G.ι j)=some c:=hj
  split at hj'
  ·exact .inl ⟨by assumption,by simpa using hj'.symm⟩
  ·exact .inr ⟨by assumption,hj'⟩
 have hbase:=h.base
 refine ⟨?_,hle⟩
 exact
  {h' with
   ι0:=fun i hi=>by
    show (if i=st.blocks.length then _ else G.ι i)=_
    rw [if_neg (by have:i<st.base:=hi;omega)];exact h.ι0 i hi
   base:=by simp;omega
   inj:=fun i j b hdi hdj hi hj=>by
    rcases hι i b hi with ⟨rfl,rfl⟩|⟨h1,h2⟩<;>rcases hι j _ hj with ⟨rfl,h4⟩|⟨h3,h4⟩
    ·rfl
    ·exact absurd h4 (hιne j)
    ·subst h4;exact absurd h2 (hιne i)
    ·exact h.inj i j b hdi hdj h2 h4
   lt:=fun i b hi=>by
    simp
    rcases hι i b hi with ⟨rfl,rfl⟩|⟨h1,h2⟩
    ·omega
    ·have:=h.lt i b h2;omega
   sep:=fun i b o hd hi=>by
    rcases hι i b hi with ⟨rfl,rfl⟩|⟨h1,h2⟩
    ·exact h.fz.none_new o
    ·exact h.sep i b o hd h2
   ddb:=fun i hd=>by
    have:=h.ddb i hd
    rw [List.getElem?_append_left (List.getElem?_eq_some_iff.1 this).1];exact this
   ζ0:=fun i hi=>by
    show (if i=st.blocks.length then cur.size else G.ζ i)=_
    rw [if_neg (by have:i<st.base:=hi;omega)];exact h.ζ0 i hi
   zok:=fun i b hi=>by
    show ∃ (cur':Array Value) (e':TypeId),(w.alloc (.cells cur e)).heap[b]?=some (.cells cur' e' (0,0))∧cur'.size=(if i=st.blocks.length then cur.size else G.ζ i)
    rcases hι i b hi with ⟨rfl,rfl⟩|⟨h1,h2⟩
    ·rw [if_pos rfl];exact ⟨cur,e,heap_alloc_new w _,rfl⟩
    ·rw [if_neg h1];exact h'.zok i b h2
   old:=fun i b hi hb=>by
    rcases hι i b hb with ⟨rfl,rfl⟩|⟨h1,h2⟩
    ·have:st.blocks.length<st.base:=hi;omega
    ·exact h.old i b hi h2
   new:=fun i b hi hb=>by
    rcases hι i b hb with ⟨rfl,rfl⟩|⟨h1,h2⟩
    ·exact h.wx.size
    ·exact h.new i b hi h2
   blk:=fun k ks hk=>by
    have hk':(st.blocks++[cs])[k]?=some ks:=hk
    rw [List.getElem?_append] at hk'
    split at hk'
    ·have:=h'.blk k ks hk'
     split
     ·rename_i hb
      have hb:k<st.base:=hb
      rw [if_pos hb] at this
      exact this.mono (show G.old.le (G.blk _ _ _).old from ⟨G.F.le_refl,hle.ι,fun _ _ _ _ h=>h,fun _ _ h=>h,hle.ζ⟩)
     ·rename_i hb
      have hb:¬k<st.base:=hb
      rw [if_neg hb] at this
      exact this.mono hle
    ·rename_i hkl
     have hk0:k=st.blocks.length:=by
      rcases Nat.lt_or_ge 0 (k-st.blocks.length) with hp|hp
      ·rw [List.getElem?_eq_none (by simp;omega)] at hk';cases hk'
      ·omega
     subst hk0
     simp at hk';subst hk'
     rw [if_neg (show ¬st.blocks.length<st.base by omega)]
     refine ⟨w.heap.size,cur,e,by simp [Gh.blk],heap_alloc_new w _,hcl,fun j c x h1 h2=>?_⟩
     have:=hcr j c x h1 h2
     exact ⟨this.1,this.2.mono hle⟩
   tok:=fun g hg=>by
    obtain ⟨h1,a,len,cap,sz,h2,h3⟩:=h.tok g hg
    refine ⟨h1,a,len,cap,sz,h2,?_⟩
    rcases h3 with h3|⟨b,e',cur',r1,r2,r3,r4,r5,r6,r7,r8,r9⟩
    ·exact .inl h3
    ·have hb:=(Array.getElem?_eq_some_iff.1 r4).1
     refine .inr ⟨b,e',cur',r1,r2,r3,(heap_alloc_old w _ hb).trans r4,r5,r6,r7,r8,fun i hi=>?_⟩
     rcases hι i b hi with ⟨_,rfl⟩|⟨_,h2⟩
     ·omega
     ·exact r9 i h2 }
theorem Rl.alloc_blk {w0:World} {G0:Gh} {st:St} {G:Gh} {w:World} (h:Rl w0 G0 st G w) {cs:List V} {cur:Array Value} (e:TypeId) (hc:RelC G cs cur) :
  Rl w0 G0 { st with blocks:=st.blocks++[cs] } (G.blk st.blocks.length w.heap.size cur.size) (w.alloc (.cells cur e))∧G.le (G.blk st.blocks.length w.heap.size cur.size):=
 h.alloc_blkP e (by rw [hc.1];exact Nat.le_refl _) hc.2
def Gh.kill (G:Gh) (id:Nat):Gh:={ G with dd:=fun i=>if i=id then true else G.dd i }
theorem Gh.le_kill (G:Gh) (id:Nat):G.le (G.kill id):=⟨G.F.le_refl,fun _ _ h=>h,fun _ _ _ _ h=>h,fun _ _ h=>h,fun _ _ _=>rfl⟩
theorem Rl.kill {w0:World} {G0:Gh} {st:St} {G:Gh} {w:World} (h:Rl w0 G0 st G w) {id b:Nat} (hi:G.ι id=some b) :
  Rl w0 G0 { st with blocks:=st.blocks.set id [] } (G.kill id) w:=by
 have hid:=h.lt id b hi
 have hdd:∀ i,(G.kill id).dd i=false→i≠id∧G.dd i=false:=fun i hd=>by
  have hd':(if i=id then true else G.dd i)=false:=hd
  split at hd'
  ·cases hd'
  ·exact ⟨by assumption,hd'⟩
 exact
  {h with
   base:=by simpa using h.base
   lt:=fun i c hc=>by simpa using h.lt i c hc
   inj:=fun i j c hdi hdj=>h.inj i j c (hdd i hdi).2 (hdd j hdj).2
   sep:=fun i c o hd=>h.sep i c o (hdd i hd).2
   ddb:=fun i hd=>by
    have hd':(if i=id then true else G.dd i)=true:=hd
    show (st.blocks.set id [])[i]?=some []
    by_cases hii:id=i
    ·subst hii;rw [List.getElem?_set_self hid]
    ·rw [List.getElem?_set_ne hii]
     rw [if_neg (by omega)] at hd'
     exact h.ddb i hd'
   dd0:=fun i hi' hd=>by
    show (if i=id then true else G.dd i)=true
    split
    ·rfl
    ·exact h.dd0 i hi' hd
   blk:=fun k ks hk=>by
    have hk':(st.blocks.set id [])[k]?=some ks:=hk
    by_cases hkid:id=k
    ·subst hkid
     rw [List.getElem?_set_self hid] at hk'
     simp only [Option.some.injEq] at hk';subst hk'
     obtain ⟨cur,e,h1,_⟩:=h.zok id b hi
     split<;>exact Blk.dead (by exact hi) h1
    ·rw [List.getElem?_set_ne hkid] at hk'
     have:=h.blk k ks hk'
     split
     ·rename_i hb
      have hb:k<st.base:=hb
      rw [if_pos hb] at this
      exact this.mono (show G.old.le (G.kill id).old from ⟨G.F.le_refl,fun _ _ h=>h,fun _ _ _ _ h=>h,fun _ _ h=>h,fun _ _ _=>rfl⟩)
     ·rename_i hb
      have hb:¬k<st.base:=hb
      rw [if_neg hb] at this
      exact this.mono (G.le_kill id) }
def Gh.ren (G:Gh) (id j b:Nat):Gh:={ G with ι:=fun k=>if k=j then some b else G.ι k,ζ:=fun k=>if k=j then G.ζ id else G.ζ k,dd:=fun i=>if i=id then true else G.dd i }
theorem Rl.ren {w0:World} {G0:Gh} {st:St} {G:Gh} {w:World} (h:Rl w0 G0 st G w) {id b:Nat} {cs:List V} (hi:G.ι id=some b) (hd:G.dd id=false) (hbase:st.base≤id) (hcs:st.blocks[id]?=some cs) :
  Rl w0 G0 { st with blocks:=st.blocks.set id []++[cs] } (G.ren id st.blocks.length b) w∧G.le (G.ren id st.blocks.length b):=by
 have hid:=h.lt id b hi
 have hn:G.ι st.blocks.length=none:=by
  cases hi:G.ι st.blocks.length with
  |none=>rfl
  |some b=>exact absurd (h.lt _ _ hi) (Nat.lt_irrefl _)
 have hle:G.le (G.ren id st.blocks.length b):=⟨G.F.le_refl,fun j c hj=>by show (if j=st.blocks.length then some b else G.ι j)=some c;rw [if_neg (by rintro rfl;rw [hn] at hj;cases hj)];exact hj,fun _ _ _ _ h=>h,fun _ _ h=>h,
  fun j c hj=>by show (if j=st.blocks.length then _ else G.ζ j)=G.ζ j;rw [if_neg (by rintro rfl;rw [hn] at hj;cases hj)]⟩
 have hι:∀ j c,(G.ren id st.blocks.length b).ι j=some c→(j=st.blocks.length∧c=b)∨(j≠st.blocks.length∧G.ι j=some c):=fun j c hj=>by
  have hj':(if j=st.blocks.length then some b else G.ι j)=some c:=hj
  split at hj'
  ·exact .inl ⟨by assumption,by simpa using hj'.symm⟩
  ·exact .inr ⟨by assumption,hj'⟩
 have hdd:∀ i,(G.ren id st.blocks.length b).dd i=false→i≠id∧G.dd i=false:=fun i hd=>by
  have hd':(if i=id then true else G.dd i)=false:=hd
  split at hd'
  ·cases hd'
  ·exact ⟨by assumption,hd'⟩
 refine ⟨?_,hle⟩
 exact
  {h with
   ι0:=fun i hi=>by
    show (if i=st.blocks.length then _ else G.ι i)=_
    rw [if_neg (by have:i<st.base:=hi;omega)];exact h.ι0 i hi
   base:=by have:=h.base;simp;omega
   lt:=fun i c hc=>by
    simp
    rcases hι i c hc with ⟨rfl,rfl⟩|⟨h1,h2⟩
    ·omega
    ·have:=h.lt i c h2;omega
   inj:=fun i j c hdi hdj hi' hj'=>by
    obtain ⟨n1,d1⟩:=hdd i hdi
    obtain ⟨n2,d2⟩:=hdd j hdj
    rcases hι i c hi' with ⟨rfl,rfl⟩|⟨h1,h2⟩<;>rcases hι j _ hj' with ⟨rfl,h4⟩|⟨h3,h4⟩
    ·rfl
    ·exact absurd (h.inj j id _ d2 hd h4 hi) n2
    ·subst h4;exact absurd (h.inj i id _ d1 hd h2 hi) n1
    ·exact h.inj i j c d1 d2 h2 h4
   sep:=fun i c o hdi hi'=>by
    obtain ⟨n1,d1⟩:=hdd i hdi
    rcases hι i c hi' with ⟨rfl,rfl⟩|⟨h1,h2⟩
    ·exact h.sep id c o hd hi
    ·exact h.sep i c o d1 h2
   ddb:=fun i hdi=>by
    have hd':(if i=id then true else G.dd i)=true:=hdi
    show (st.blocks.set id []++[cs])[i]?=some []
    by_cases hii:id=i
    ·subst hii
     rw [List.getElem?_append_left (by simpa using hid),List.getElem?_set_self hid]
    ·rw [if_neg (by omega)] at hd'
     have h1:=h.ddb i hd'
     rw [List.getElem?_append_left (by simpa using (List.getElem?_eq_some_iff.1 h1).1),List.getElem?_set_ne hii];exact h1
   dd0:=fun i hi' hd=>by
    show (if i=id then true else G.dd i)=true
    split
    ·rfl
    ·exact h.dd0 i hi' hd
   ζ0:=fun i hi=>by
    show (if i=st.blocks.length then _ else G.ζ i)=_
    rw [if_neg (by have:i<st.base:=hi;have:=h.base;omega)];exact h.ζ0 i hi
   zok:=fun i c hc=>by
    show ∃ (cur':Array Value) (e':TypeId),w.heap[c]?=some (.cells cur' e' (0,0))∧cur'.size=(if i=st.blocks.length then G.ζ id else G.ζ i)
    rcases hι i c hc with ⟨rfl,rfl⟩|⟨h1,h2⟩
    ·rw [if_pos rfl];exact h.zok id c hi
    ·rw [if_neg h1];exact h.zok i c h2
   old:=fun i c hi' hc=>by
    rcases hι i c hc with ⟨rfl,rfl⟩|⟨h1,h2⟩
    ·have h5:st.blocks.length<st.base:=hi';have:=h.base;omega
    ·exact h.old i c hi' h2
   new:=fun i c hi' hc=>by
    rcases hι i c hc with ⟨rfl,rfl⟩|⟨h1,h2⟩
    ·exact h.new id c hbase hi
    ·exact h.new i c hi' h2
   blk:=fun k ks hk=>by
    have hk':(st.blocks.set id []++[cs])[k]?=some ks:=hk
    rw [List.getElem?_append] at hk'
    split at hk'
    ·by_cases hkid:id=k
     ·subst hkid
      rw [List.getElem?_set_self hid] at hk'
      simp only [Option.some.injEq] at hk';subst hk'
      obtain ⟨cur,e,h1,_⟩:=h.zok id b hi
      split<;>exact Blk.dead (hle.ι id b hi) h1
     ·rw [List.getElem?_set_ne hkid] at hk'
      have:=h.blk k ks hk'
      split
      ·rename_i hb
       have hb:k<st.base:=hb
       rw [if_pos hb] at this
       exact this.mono (show G.old.le (G.ren id st.blocks.length b).old from ⟨G.F.le_refl,hle.ι,fun _ _ _ _ h=>h,fun _ _ h=>h,hle.ζ⟩)
      ·rename_i hb
       have hb:¬k<st.base:=hb
       rw [if_neg hb] at this
       exact this.mono hle
    ·rename_i hkl
     have hkl:¬k<(st.blocks.set id []).length:=hkl
     rw [List.length_set] at hk' hkl
     have hk0:k=st.blocks.length:=by
      rcases Nat.lt_or_ge 0 (k-st.blocks.length) with hp|hp
      ·rw [List.getElem?_eq_none (by simp;omega)] at hk';cases hk'
      ·omega
     subst hk0
     simp at hk';subst hk'
     have hb2:=h.base
     rw [if_neg (show ¬st.blocks.length<st.base by omega)]
     have:=h.blk id cs hcs
     rw [if_neg (by omega)] at this
     obtain ⟨b',cur,e,hi2,hh,hl,hr⟩:=this
     obtain rfl:b=b':=by rw [hi] at hi2;simpa using hi2
     exact ⟨b,cur,e,by simp [Gh.ren],hh,hl,fun j c x h1 h2=>⟨(hr j c x h1 h2).1,(hr j c x h1 h2).2.mono hle⟩⟩
   tok:=fun g hg=>by
    obtain ⟨h1,a,len,cap,sz,h2,h3⟩:=h.tok g hg
    refine ⟨h1,a,len,cap,sz,h2,?_⟩
    rcases h3 with h3|⟨b2,e',cur',r1,r2,r3,r4,r5,r6,r7,r8,r9⟩
    ·exact .inl h3
    ·refine .inr ⟨b2,e',cur',r1,r2,r3,r4,r5,r6,r7,r8,fun i hi'=>?_⟩
     rcases hι i b2 hi' with ⟨_,rfl⟩|⟨_,h2⟩
     ·exact r9 id hi
     ·exact r9 i h2 }
structure Loose (st:St) (G:Gh) (w:World) (b:Nat) (o:Obj):Prop where
 heap:w.heap[b]?=some o
 ι:∀ i,G.ι i≠some b
 F:∀ k,G.F b k=none
 tok:∀ g∈st.live,∀ l c sz,G.τ st.dep g=some (.slice (some ⟨b,0,none⟩) l c,sz)→l=c
def Stay (st:St) (G:Gh) (w:World) (st':St) (G':Gh) (w':World):Prop:=∀ b o,Loose st G w b o→Loose st' G' w' b o
theorem Stay.refl (st:St) (G:Gh) (w:World):Stay st G w st G w:=fun _ _ h=>h
theorem Stay.trans {st st' st2:St} {G G' G2:Gh} {w w' w2:World} (h:Stay st G w st' G' w') (k:Stay st' G' w' st2 G2 w2):Stay st G w st2 G2 w2:=fun b o hl=>k b o (h b o hl)
theorem Loose.lt {st:St} {G:Gh} {w:World} {b:Nat} {o:Obj} (h:Loose st G w b o):b<w.heap.size:=(Array.getElem?_eq_some_iff.1 h.heap).1
theorem Loose.st {st st':St} {G:Gh} {w:World} {b:Nat} {o:Obj} (h:Loose st G w b o) (hl:∀ g∈st'.live,g∈st.live) (hd:st'.dep=st.dep):Loose st' G w b o:=
 ⟨h.heap,h.ι,h.F,fun g hg=>by rw [hd];exact h.tok g (hl g hg)⟩
theorem Stay.world {st:St} {G:Gh} {w w':World} (hw:Wx w w' (fun _=>False)):Stay st G w st G w':=fun b o h=>
 ⟨by rw [hw.block b h.lt id];exact h.heap,h.ι,h.F,h.tok⟩
theorem Stay.alloc_fz {st:St} {G:Gh} {w:World} (o:Obj) (cur:Array Value):Stay st G w st (G.fz w.heap.size cur) (w.alloc o):=fun b o' h=>
 ⟨by rw [heap_alloc_old w o h.lt];exact h.heap,h.ι,fun k=>by
  show (if b=w.heap.size then cur[k]? else G.F b k)=none
  rw [if_neg (Nat.ne_of_lt h.lt)];exact h.F k,h.tok⟩
theorem Stay.alloc_blk {st:St} {G:Gh} {w:World} (o:Obj) (i:Nat) (bl:List (List V)) (n:Nat):Stay st G w { st with blocks:=bl } (G.blk i w.heap.size n) (w.alloc o):=fun b o' h=>
 ⟨by rw [heap_alloc_old w o h.lt];exact h.heap,fun j hj=>by
  have hj':(if j=i then some w.heap.size else G.ι j)=some b:=hj
  split at hj'
  ·simp at hj';have:=h.lt;omega
  ·exact h.ι j hj',h.F,h.tok⟩
theorem Rl.alloc_loose {w0:World} {G0:Gh} {st:St} {G:Gh} {w:World} (h:Rl w0 G0 st G w) (o:Obj):Rl w0 G0 st G (w.alloc o)∧Loose st G (w.alloc o) w.heap.size o∧Stay st G w st G (w.alloc o):=by
 refine ⟨h.world (Wx.alloc w o _),⟨heap_alloc_new w o,fun i hi=>Nat.lt_irrefl _ (h.ιlt hi),fun k=>h.fz.none_new k,fun g hg l c sz hτ=>?_⟩,Stay.world (Wx.alloc w o _)⟩
 obtain ⟨_,a,len,cap,sz',h2,h3⟩:=h.tok g hg
 rw [hτ] at h2;simp at h2
 obtain ⟨⟨rfl,rfl,rfl⟩,rfl⟩:=h2
 rcases h3 with h3|⟨b,e,cur,_,r2,_,r4,_⟩
 ·exact h3
 ·simp at r2;subst r2
  exact absurd (Array.getElem?_eq_some_iff.1 r4).1 (Nat.lt_irrefl _)
theorem Rl.adopt {w0:World} {G0:Gh} {st:St} {G:Gh} {w:World} (h:Rl w0 G0 st G w) {b:Nat} {cs:List V} {cur:Array Value} {e:TypeId} (hL:Loose st G w b (.cells cur e (0,0))) (hB:w0.heap.size≤b) (hc:RelC G cs cur) :
  Rl w0 G0 { st with blocks:=st.blocks++[cs] } (G.blk st.blocks.length b cur.size) w∧G.le (G.blk st.blocks.length b cur.size) ∧
   ∀ c o,c≠b→Loose st G w c o→Loose { st with blocks:=st.blocks++[cs] } (G.blk st.blocks.length b cur.size) w c o:=by
 have hn:G.ι st.blocks.length=none:=by
  cases hi:G.ι st.blocks.length with
  |none=>rfl
  |some b=>exact absurd (h.lt _ _ hi) (Nat.lt_irrefl _)
 have hle:G.le (G.blk st.blocks.length b cur.size):=Gh.le_blk hn
 have hι:∀ j c,(G.blk st.blocks.length b cur.size).ι j=some c→(j=st.blocks.length∧c=b)∨(j≠st.blocks.length∧G.ι j=some c):=fun j c hj=>by
  have hj':(if j=st.blocks.length then some b else G.ι j)=some c:=hj
  split at hj'
  ·exact .inl ⟨by assumption,by simpa using hj'.symm⟩
  ·exact .inr ⟨by assumption,hj'⟩
 have hbase:=h.base
 refine ⟨?_,hle,fun c o hcb hl=>⟨hl.heap,fun j hj=>?_,hl.F,hl.tok⟩⟩
 ·exact
  {h with
   ι0:=fun i hi=>by
    show (if i=st.blocks.length then _ else G.ι i)=_
    rw [if_neg (by have:i<st.base:=hi;omega)];exact h.ι0 i hi
   base:=by simp;omega
   inj:=fun i j c hdi hdj hi hj=>by
    rcases hι i c hi with ⟨rfl,rfl⟩|⟨h1,h2⟩<;>rcases hι j _ hj with ⟨rfl,h4⟩|⟨h3,h4⟩
    ·rfl
    ·exact absurd h4 (hL.ι j)
    ·subst h4;exact absurd h2 (hL.ι i)
    ·exact h.inj i j c hdi hdj h2 h4
   lt:=fun i c hi=>by
    simp
    rcases hι i c hi with ⟨rfl,rfl⟩|⟨h1,h2⟩
    ·omega
    ·have:=h.lt i c h2;omega
   sep:=fun i c o hd hi=>by
    rcases hι i c hi with ⟨rfl,rfl⟩|⟨h1,h2⟩
    ·exact hL.F o
    ·exact h.sep i c o hd h2
   ddb:=fun i hd=>by
    have:=h.ddb i hd
    rw [List.getElem?_append_left (List.getElem?_eq_some_iff.1 this).1];exact this
   ζ0:=fun i hi=>by
    show (if i=st.blocks.length then cur.size else G.ζ i)=_
    rw [if_neg (by have:i<st.base:=hi;omega)];exact h.ζ0 i hi
   zok:=fun i c hi=>by
    show ∃ (cur':Array Value) (e':TypeId),w.heap[c]?=some (.cells cur' e' (0,0))∧cur'.size=(if i=st.blocks.length then cur.size else G.ζ i)
    rcases hι i c hi with ⟨rfl,rfl⟩|⟨h1,h2⟩
    ·rw [if_pos rfl];exact ⟨cur,e,hL.heap,rfl⟩
    ·rw [if_neg h1];exact h.zok i c h2
   old:=fun i c hi hb=>by
    rcases hι i c hb with ⟨rfl,rfl⟩|⟨h1,h2⟩
    ·have:st.blocks.length<st.base:=hi;omega
    ·exact h.old i c hi h2
   new:=fun i c hi hb=>by
    rcases hι i c hb with ⟨rfl,rfl⟩|⟨h1,h2⟩
    ·exact hB
    ·exact h.new i c hi h2
   blk:=fun k ks hk=>by
    have hk':(st.blocks++[cs])[k]?=some ks:=hk
    rw [List.getElem?_append] at hk'
    split at hk'
    ·have:=h.blk k ks hk'
     split
     ·rename_i hb
      have hb:k<st.base:=hb
      rw [if_pos hb] at this
      exact this.mono (show G.old.le (G.blk _ _ _).old from ⟨G.F.le_refl,hle.ι,fun _ _ _ _ h=>h,fun _ _ h=>h,hle.ζ⟩)
     ·rename_i hb
      have hb:¬k<st.base:=hb
      rw [if_neg hb] at this
      exact this.mono hle
    ·rename_i hkl
     have hk0:k=st.blocks.length:=by
      rcases Nat.lt_or_ge 0 (k-st.blocks.length) with hp|hp
      ·rw [List.getElem?_eq_none (by simp;omega)] at hk';cases hk'
      ·omega
     subst hk0
     simp at hk';subst hk'
     rw [if_neg (show ¬st.blocks.length<st.base by omega)]
     refine ⟨b,cur,e,by simp [Gh.blk],hL.heap,by rw [hc.1];exact Nat.le_refl _,fun j c x h1 h2=>?_⟩
     have:=hc.2 j c x h1 h2
     exact ⟨this.1,this.2.mono hle⟩
   tok:=fun g hg=>by
    obtain ⟨h1,a,len,cap,sz,h2,h3⟩:=h.tok g hg
    refine ⟨h1,a,len,cap,sz,h2,?_⟩
    rcases h3 with h3|⟨c,e',cur',r1,r2,r3,r4,r5,r6,r7,r8,r9⟩
    ·exact .inl h3
    ·by_cases hcb:c=b
     ·subst hcb;subst r2
      exact .inl (hL.tok g hg len cap sz h2)
     ·refine .inr ⟨c,e',cur',r1,r2,r3,r4,r5,r6,r7,r8,fun i hi=>?_⟩
      rcases hι i c hi with ⟨_,rfl⟩|⟨_,h2⟩
      ·exact hcb rfl
      ·exact r9 i h2 }
 ·rcases hι j c hj with ⟨_,rfl⟩|⟨_,h2⟩
  ·exact hcb rfl
  ·exact hl.ι j h2
end Go.VM
namespace Go.VM
section
variable {P:Program} {w0:World} {G0:Gh} {st:St} {G:Gh} {w:World}
theorem Rl.setBlk (h:Rl w0 G0 st G w) {id b:Nat} {e:TypeId} {cur cur':Array Value} {cs:List V} (hi:G.ι id=some b) (hd:G.dd id=false) (hcs:cur'.size=cur.size) (hh:w.heap[b]?=some (.cells cur e (0,0)))
  (hl:cs.length≤cur'.size) (hr:∀ (j:Nat) c x,cs[j]?=some c→cur'[j]?=some x→sc x=true∧RelV (if id<st.base then G.old else G) c x) :
  Rl w0 G0 { st with blocks:=st.blocks.set id cs } G (w.setRow b cur'):=by
 have hid:=h.lt id b hi
 have hother:∀ k,k≠b→(w.setRow b cur').heap[k]?=w.heap[k]?:=fun k hk=>setRow_other w b k cur' hk
 exact
  {h with
   base:=by simpa using h.base
   wx:=⟨h.wx.os,h.wx.tape,h.wx.output,by simpa using h.wx.size,fun k hk hT=>by
    rw [hother k ?_]
    ·exact h.wx.block k hk hT
    ·rintro rfl
     rcases Nat.lt_or_ge id st.base with hb|hb
     ·exact hT ⟨id,hb,by rw [← h.ι0 id hb];exact hi⟩
     ·have:=h.new id k hb hi;omega⟩
   fz:=fun k o u hf=>by
    have hne:k≠b:=by rintro rfl;rw [h.sep id k o hd hi] at hf;cases hf
    rw [World.cell?_of_block (w:=w) (hother k hne)];exact h.fz k o u hf
   lt:=fun i c hc=>by simpa using h.lt i c hc
   blk:=fun k ks hk=>by
    have hk':(st.blocks.set id cs)[k]?=some ks:=hk
    by_cases hkid:id=k
    ·subst hkid
     rw [List.getElem?_set] at hk'
     simp only [if_true] at hk'
     rw [if_pos hid] at hk'
     simp at hk';subst hk'
     refine ⟨b,cur',e,?_,setRow_heap w b cur cur' e (0,0) hh,hl,hr⟩
     split<;>exact hi
    ·rw [List.getElem?_set_ne hkid] at hk'
     by_cases hdk:G.dd k=true
     ·have hks:=h.ddb k hdk
      rw [hk'] at hks
      simp only [Option.some.injEq] at hks;subst hks
      obtain ⟨b2,cur2,e2,hi2,hh2,_⟩:=h.blk k [] hk'
      by_cases hb2:b2=b
      ·subst hb2;exact Blk.dead hi2 (setRow_heap w b2 cur cur' e (0,0) hh)
      ·exact Blk.dead hi2 ((hother b2 hb2).trans hh2)
     ·refine (h.blk k ks hk').world fun c hc=>hother c ?_
      have hc':G.ι k=some c:=by split at hc<;>exact hc
      rintro rfl
      exact hkid (h.inj id k c hd (by simpa using hdk) hi hc')
   ddb:=fun i hdi=>by
    show (st.blocks.set id cs)[i]?=some []
    have hne:id≠i:=by rintro rfl;rw [hd] at hdi;cases hdi
    rw [List.getElem?_set_ne hne];exact h.ddb i hdi
   zok:=fun i c hc=>by
    obtain ⟨cur2,e2,h1,h2⟩:=h.zok i c hc
    by_cases hcb:c=b
    ·subst hcb
     rw [hh] at h1;simp only [Option.some.injEq,Obj.cells.injEq] at h1
     obtain ⟨rfl,rfl,_⟩:=h1
     exact ⟨cur',e,setRow_heap w c cur cur' e (0,0) hh,hcs.trans h2⟩
    ·exact ⟨cur2,e2,(hother c hcb).trans h1,h2⟩
   tok:=fun g hg=>by
    obtain ⟨h1,a,len,cap,sz,h2,h3⟩:=h.tok g hg
    refine ⟨h1,a,len,cap,sz,h2,?_⟩
    rcases h3 with h3|⟨c,e',cur2,r1,r2,r3,r4,r5,r6,r7,r8,r9⟩
    ·exact .inl h3
    ·refine .inr ⟨c,e',cur2,r1,r2,r3,?_,r5,r6,r7,r8,r9⟩
     rw [hother c (by rintro rfl;exact r9 id hi)];exact r4 }
theorem Stay.setRow {id b:Nat} (hi:G.ι id=some b) (cur':Array Value) (bl:List (List V)):Stay st G w { st with blocks:=bl } G (w.setRow b cur'):=fun c o h=>
 ⟨by rw [setRow_other w b c cur' (by rintro rfl;exact h.ι id hi)];exact h.heap,h.ι,h.F,h.tok⟩
def St.setB (st:St) (id:Nat) (cs:List V):St:={ st with blocks:=st.blocks.set id cs }
def vStore (st:St) (a x:V) (n:Nat):Option St:=
 match a,x.cells with
 |.ptr id off,some cs=>
  match st.blocks[id]? with
  |some blk=>if cs.length=n∧0<n∧off+n≤blk.length∧cs.all V.isCell then
    some (st.setB id (blk.take off++(if id<st.base then V.erL cs else cs)++blk.drop (off+n))) else none
  |none=>none
 |_,_=>none
theorem store_rel {a x:V} {av xv:Value} (h:Rl w0 G0 st G w) (ha:RelV G a av) (hx:RelV G x xv) {t:TypeId} {i:TypeInfo} (hti:P.info? t=some i) {st':St} (hs:vStore st a x i.size=some st') :
  ∃ w',(Instr.storeAt t av xv).run P w=.ok () w'∧Rl w0 G0 st' G w'∧Stay st G w st' G w':=by
 unfold vStore at hs
 split at hs
 case h_2=>cases hs
 rename_i id off cs hcs
 split at hs
 case h_2=>cases hs
 rename_i blk hblk
 split at hs
 case isFalse=>cases hs
 rename_i hcond
 obtain ⟨hn,hpos,hle,hall⟩:=hcond
 simp only [Option.some.injEq] at hs
 subst hs
 cases ha with
 |@ptr _ _ b hi=>
  obtain ⟨b',cur,e,hi',hh,hlen,hr⟩:=h.blk id blk hblk
  have hi'':G.ι id=some b':=by split at hi'<;>exact hi'
  obtain rfl:b=b':=by rw [hi] at hi'';simpa using hi''
  have hdd:G.dd id=false:=by
   cases hdd:G.dd id with
   |false=>rfl
   |true=>
    have:=h.ddb id hdd
    rw [hblk] at this;simp only [Option.some.injEq] at this;subst this
    simp at hle;omega
  obtain ⟨hsz,hcr⟩:=cells_rel hx hcs
  have hone:∀ v∈xv.cells.toList,v.oneCell'=true:=fun v hv=>by
   obtain ⟨j,hj⟩:=List.getElem?_of_mem hv
   have hj':xv.cells[j]?=some v:=by simpa using hj
   have hjl:j<cs.length:=by rw [← hsz];exact (Array.getElem?_eq_some_iff.1 hj').1
   exact sc_one (hcr j _ v (List.getElem?_eq_getElem hjl) hj').2
  have hrun:=run_storeCells_at P b off e xv.cells.toList 0 cur w hh (by simp;omega) hone
  refine ⟨_,?_,h.setBlk (cs:=blk.take off++(if id<st.base then V.erL cs else cs)++blk.drop (off+i.size))
   (cur':=(cur.toList.take off++xv.cells.toList++cur.toList.drop (off+xv.cells.toList.length)).toArray) hi hdd (by simp;omega) hh ?_ ?_,Stay.setRow hi _ _⟩
  ·simp only [Instr.storeAt,Instr.sureAddr,Sem.run_bind,Sem.run_pure,Result.andThen_ok,storeVar,run_sizeOf' hti]
   rw [if_neg (by rw [hsz];simpa using hn)]
   simpa using hrun
  ·have:(if id<st.base then V.erL cs else cs).length=cs.length:=by split;rw [V.erL_eq];simp;rfl
   simp [this];omega
  ·intro j c u h1 h2
   have hL:(if id<st.base then V.erL cs else cs).length=cs.length:=by split;rw [V.erL_eq];simp;rfl
   simp only [List.getElem?_toArray] at h2
   by_cases hj:j<off
   ·rw [List.append_assoc,List.getElem?_append_left (by simp;omega),List.getElem?_take,if_pos hj] at h1
    rw [List.append_assoc,List.getElem?_append_left (by simp;omega),List.getElem?_take,if_pos hj] at h2
    exact hr j c u h1 (by simpa using h2)
   ·by_cases hj2:j<off+i.size
    ·rw [List.append_assoc,List.getElem?_append_right (by simp;omega),List.getElem?_append_left (by simp;omega)] at h1
     rw [List.append_assoc,List.getElem?_append_right (by simp;omega),List.getElem?_append_left (by simp;omega)] at h2
     simp only [List.length_take,Nat.min_eq_left (show off≤blk.length by omega)] at h1
     simp only [List.length_take,Array.length_toList,Nat.min_eq_left (show off≤cur.size by omega)] at h2
     by_cases hb:id<st.base
     ·rw [if_pos hb,V.erL_eq,List.getElem?_map] at h1
      obtain ⟨c0,hc0,rfl⟩:=Option.map_eq_some_iff.1 h1
      have:=hcr (j-off) c0 u hc0 (by simpa using h2)
      rw [if_pos hb]
      exact ⟨this.2,this.1.er⟩
     ·rw [if_neg hb] at h1
      have:=hcr (j-off) c u h1 (by simpa using h2)
      rw [if_neg hb]
      exact ⟨this.2,this.1⟩
    ·rw [List.getElem?_append_right (by simp;omega)] at h1
     rw [List.getElem?_append_right (by simp;omega)] at h2
     simp only [List.length_append,List.length_take,hL,Nat.min_eq_left (show off≤blk.length by omega),List.getElem?_drop] at h1
     simp only [List.length_append,List.length_take,Array.length_toList,hsz,Nat.min_eq_left (show off≤cur.size by omega),List.getElem?_drop] at h2
     rw [show off+i.size+(j-(off+cs.length))=j by omega] at h1
     rw [show off+cs.length+(j-(off+cs.length))=j by omega] at h2
     exact hr j c u h1 (by simpa using h2)
end
end Go.VM
namespace Go.VM
section
variable {P:Program}
theorem RelD.flat {F:Fz} {es:List (List D)} {a:Option Addr} {len cap sz:Nat} (h:RelD F (.sl es) (.slice a len cap)) (hs:∀ row∈es,row.length=sz) :
  ∃ L:List Value,L.length=len*sz∧(∀ v∈L,VM.sc v=true)∧(∀ (j:Nat) v,L[j]?=some v→∃ b o,a=some ⟨b,o,none⟩∧F b (o+j)=some v) ∧
   ∀ (i j:Nat) row c,es[i]?=some row→row[j]?=some c→∃ v,L[i*sz+j]?=some v∧RelD F c v:=by
 cases h with
 |sl _ _ _ _ sz' u hlen hcap hmax hrow hb hr=>
  by_cases hne:es=[]
  ·subst hne
   exact ⟨[],by simp [hlen],by simp,by simp,by simp⟩
  ·obtain ⟨b,o,rfl,hc⟩:=hb hne
   have hsz:sz'=sz:=by
    cases es with
    |nil=>exact absurd rfl hne
    |cons r es=>rw [← hrow 0 r rfl];exact hs r List.mem_cons_self
   subst hsz
   have key:∀ k,k<es.length*sz'→0<sz'∧k / sz'<es.length∧k%sz'<sz'∧k / sz'*sz'+k%sz'=k:=fun k hk=>by
    have hp:0<sz':=by
     rcases Nat.eq_zero_or_pos sz' with h0|h0
     ·subst h0;simp at hk
     ·exact h0
    refine ⟨hp,?_,Nat.mod_lt _ hp,?_⟩
    ·exact Nat.div_lt_of_lt_mul (by rw [Nat.mul_comm];exact hk)
    ·rw [Nat.mul_comm];exact Nat.div_add_mod k sz'
   refine ⟨(List.range (es.length*sz')).map fun k=>u (k / sz') (k%sz'),by simp [hlen],fun v hv=>?_,fun j v hj=>?_,fun i j row c h1 h2=>?_⟩
   ·simp only [List.mem_map,List.mem_range] at hv
    obtain ⟨k,hk,rfl⟩:=hv
    obtain ⟨hp,h1,h2,_⟩:=key k hk
    have hrw:=List.getElem?_eq_getElem h1
    have hl:=hrow _ _ hrw
    exact (hr (k / sz') (k%sz') _ _ hrw (List.getElem?_eq_getElem (show k%sz'<_ by omega))).sc
   ·simp only [List.getElem?_map] at hj
    obtain ⟨k,hk,rfl⟩:=Option.map_eq_some_iff.1 hj
    obtain ⟨hlt,rfl⟩:=List.getElem?_eq_some_iff.1 hk
    simp at hlt ⊢
    obtain ⟨hp,h1,h2,h3⟩:=key j hlt
    refine ⟨b,o,⟨rfl,rfl⟩,?_⟩
    have:=hc (j / sz') (j%sz') h1 h2
    rw [h3] at this;exact this
   ·have hi:=(List.getElem?_eq_some_iff.1 h1).1
    have hj:=(List.getElem?_eq_some_iff.1 h2).1
    have hl:=hrow i row h1
    have hlt:i*sz'+j<es.length*sz':=by
     have:(i+1)*sz'≤es.length*sz':=Nat.mul_le_mul_right _ hi
     rw [Nat.add_mul] at this;omega
    have hd:(i*sz'+j) / sz'=i:=by
     rw [Nat.mul_comm,Nat.mul_add_div (by omega)];simp [Nat.div_eq_of_lt (show j<sz' by omega)]
    have hm:(i*sz'+j)%sz'=j:=by
     rw [Nat.mul_comm,Nat.mul_add_mod];exact Nat.mod_eq_of_lt (by omega)
    refine ⟨u i j,?_,hr i j row c h1 h2⟩
    simp [List.getElem?_map,List.getElem?_range hlt,hd,hm]
theorem RelD.ofFlat {F:Fz} {es:List (List D)} {b o cap sz:Nat} {L:List Value} (hs:∀ row∈es,row.length=sz) (hcap:es.length≤cap) (hmax:cap≤maxLen)
  (hL:∀ j v,j<es.length*sz→L[j]?=some v→F b (o+j)=some v) (hr:∀ (i j:Nat) row c,es[i]?=some row→row[j]?=some c→∃ v,L[i*sz+j]?=some v∧RelD F c v) :
  RelD F (.sl es) (.slice (some ⟨b,o,none⟩) es.length cap):=by
 refine .sl es _ _ _ sz (fun i j=>L.getD (i*sz+j) undef) rfl hcap hmax (fun i row h=>hs row (List.mem_of_getElem? h)) (fun _=>⟨b,o,rfl,fun i j hi hj=>?_⟩) (fun i j row c h1 h2=>?_)
 ·have h1:=List.getElem?_eq_getElem hi
  have h2:=hs _ (List.getElem_mem hi)
  obtain ⟨v,hv,_⟩:=hr i j _ _ h1 (List.getElem?_eq_getElem (by omega))
  rw [List.getD_eq_getElem?_getD,hv]
  have hlt:i*sz+j<es.length*sz:=by
   have:(i+1)*sz≤es.length*sz:=Nat.mul_le_mul_right _ hi
   rw [Nat.add_mul] at this;omega
  exact hL _ v hlt hv
 ·obtain ⟨v,hv,hd⟩:=hr i j row c h1 h2
  rw [List.getD_eq_getElem?_getD,hv]
  exact hd
theorem flat_append {F:Fz} {es ms:List (List D)} {sz:Nat} {L M:List Value} (hl:L.length=es.length*sz)
  (h1:∀ (i j:Nat) row c,es[i]?=some row→row[j]?=some c→∃ v,L[i*sz+j]?=some v∧RelD F c v)
  (h2:∀ (i j:Nat) row c,ms[i]?=some row→row[j]?=some c→∃ v,M[i*sz+j]?=some v∧RelD F c v) :
  ∀ (i j:Nat) row c,(es++ms)[i]?=some row→row[j]?=some c→∃ v,(L++M)[i*sz+j]?=some v∧RelD F c v:=by
 intro i j row c hi hj
 rw [List.getElem?_append] at hi
 split at hi
 ·obtain ⟨v,hv,hd⟩:=h1 i j row c hi hj
  exact ⟨v,by rw [List.getElem?_append_left (List.getElem?_eq_some_iff.1 hv).1];exact hv,hd⟩
 ·rename_i hge
  obtain ⟨v,hv,hd⟩:=h2 _ j row c hi hj
  refine ⟨v,?_,hd⟩
  have he:i*sz=L.length+(i-es.length)*sz:=by
   rw [hl,← Nat.add_mul];congr 1;omega
  rw [he,Nat.add_assoc,List.getElem?_append_right (by omega),Nat.add_sub_cancel_left]
  exact hv
theorem run_append_zero {w:World} (t ty e:TypeId) (i:TypeInfo) (ht:P.underlying t=some (.slice e)) (hi:P.info? e=some i) (b:Option Addr) (sLen sCap:Nat) (hc:sLen≤sCap) (a:Option Addr) (c:Nat) :
  (Builtin.append_ #[t,t] ty #[.slice b sLen sCap,.slice a 0 c]).run P w=.ok (.slice b sLen sCap) w:=by
 have hf:(Builtin.firstCells i.size 0 (.slice a 0 c)).run P w=.ok #[] w:=by
  cases a<;>simp [Builtin.firstCells,loadCells,loadCellsFrom]
 cases b<;>simp [Builtin.append_,run_underlying ht,sizeOf,typeInfo,hi,Builtin.lenOf,hc,hf,storeCells]
def Gh.tk (G:Gh) (v:Value) (sz:Nat):Gh:={ G with τ:=fun d g=>if d=G.dep∧g=G.gn then some (v,sz) else G.τ d g,gn:=G.gn+1 }
theorem Gh.le_tk (G:Gh) (v:Value) (sz:Nat):G.le (G.tk v sz):=
 ⟨G.F.le_refl,fun _ _ h=>h,fun d g p ht hp=>by
  have hp':(if d=G.dep∧g=G.gn then some (v,sz) else G.τ d g)=some p:=hp
  rw [if_neg] at hp'
  ·exact hp'
  ·rintro ⟨rfl,rfl⟩
   rcases ht with h|⟨_,h⟩
   ·exact Nat.lt_irrefl _ h
   ·exact Nat.lt_irrefl _ h,fun d g h=>by
  rcases h with h|⟨h,h2⟩
  ·exact .inl h
  ·exact .inr ⟨h,Nat.lt_succ_of_lt h2⟩,fun _ _ _=>rfl⟩
def St.tk (st:St) (live:List Nat):St:={ st with live:=st.gn::live,gn:=st.gn+1 }
variable {w0:World} {G0:Gh} {st:St} {G:Gh} {w:World}
theorem Rl.tk (h:Rl w0 G0 st G w) {live:List Nat} (hl:∀ g∈live,g∈st.live) {a:Option Addr} {len cap sz:Nat} (ho:Own G w w0.heap.size sz a len cap)
  (hne:∀ g∈live,∀ b l c l' c' s',a=some ⟨b,0,none⟩→l=len→c=cap→G.τ st.dep g=some (.slice (some ⟨b,0,none⟩) l' c',s')→l=c∨l'=c') :
  Rl w0 G0 (st.tk live) (G.tk (.slice a len cap) sz) w:=by
 have hτ:∀ g,g∈live→(G.tk (.slice a len cap) sz).τ st.dep g=G.τ st.dep g:=fun g hg=>by
  show (if st.dep=G.dep∧g=G.gn then _ else G.τ st.dep g)=_
  rw [if_neg]
  rintro ⟨_,rfl⟩
  have:=(h.tok _ (hl _ hg)).1
  rw [h.gn] at this
  exact Nat.lt_irrefl _ this
 have hτn:(G.tk (.slice a len cap) sz).τ st.dep st.gn=some (.slice a len cap,sz):=by
  show (if st.dep=G.dep∧st.gn=G.gn then _ else _)=_
  rw [if_pos ⟨h.dep.symm,h.gn.symm⟩]
 exact
  {h with
   gn:=by show G.gn+1=st.gn+1;rw [h.gn]
   τ0:=fun d g hd=>by
    show (if d=G.dep∧g=G.gn then _ else G.τ d g)=_
    rw [if_neg (by rintro ⟨rfl,_⟩;rw [h.dep] at hd;exact Nat.lt_irrefl _ hd)]
    exact h.τ0 d g hd
   blk:=fun k cs hk=>by
    have:=h.blk k cs hk
    split
    ·rename_i hb
     have hb:k<st.base:=hb
     rw [if_pos hb] at this
     refine this.mono (show G.old.le (G.tk (.slice a len cap) sz).old from ⟨Fz.le_refl _,fun _ _ h=>h,fun d g p ht hp=>?_,fun _ _ h=>h,fun _ _ _=>rfl⟩)
     have hp':(if d=G.dep∧g=G.gn then some ((Value.slice a len cap),sz) else G.τ d g)=some p:=hp
     rw [if_neg] at hp'
     ·exact hp'
     ·rintro ⟨rfl,_⟩
      rcases ht with h|⟨_,h⟩
      ·exact Nat.lt_irrefl _ h
      ·exact Nat.not_lt_zero _ h
    ·rename_i hb
     have hb:¬k<st.base:=hb
     rw [if_neg hb] at this
     exact this.mono (G.le_tk _ _)
   tok:=fun g hg=>by
    rcases List.mem_cons.1 hg with rfl|hg
    ·exact ⟨Nat.lt_succ_self _,a,len,cap,sz,hτn,ho⟩
    ·obtain ⟨h1,a',len',cap',sz',h2,h3⟩:=h.tok g (hl g hg)
     exact ⟨Nat.lt_succ_of_lt h1,a',len',cap',sz',by rw [← h2];exact hτ g hg,h3⟩
   tinj:=fun g g' hg hg' hgg b l c s l' c' s' h1 h2=>by
    rcases List.mem_cons.1 hg with rfl|hg<;>rcases List.mem_cons.1 hg' with rfl|hg'
    ·exact absurd rfl hgg
    ·rw [show (G.tk (.slice a len cap) sz).τ (st.tk live).dep st.gn=_ from hτn] at h1
     simp at h1
     obtain ⟨⟨rfl,rfl,rfl⟩,_⟩:=h1
     exact hne g' hg' b _ _ l' c' s' rfl rfl rfl (by rw [← hτ g' hg'];exact h2)
    ·rw [show (G.tk (.slice a len cap) sz).τ (st.tk live).dep st.gn=_ from hτn] at h2
     simp at h2
     obtain ⟨⟨rfl,rfl,rfl⟩,_⟩:=h2
     exact (hne g hg b _ _ l c s rfl rfl rfl (by rw [← hτ g hg];exact h1)).symm
    ·exact h.tinj g g' (hl g hg) (hl g' hg') hgg b l c s l' c' s' (by rw [← hτ g hg];exact h1) (by rw [← hτ g' hg'];exact h2) }
theorem Stay.tk (h:Rl w0 G0 st G w) {live:List Nat} (hl:∀ g∈live,g∈st.live) {a:Option Addr} {len cap sz:Nat} (hn:∀ b o,Loose st G w b o→a=some ⟨b,0,none⟩→len=cap) :
  Stay st G w (st.tk live) (G.tk (.slice a len cap) sz) w:=fun b o hL=>by
 refine ⟨hL.heap,hL.ι,hL.F,fun g hg l c s hτ=>?_⟩
 have hτ':(if st.dep=G.dep∧g=G.gn then some (Value.slice a len cap,sz) else G.τ st.dep g)=some (.slice (some ⟨b,0,none⟩) l c,s):=hτ
 rcases List.mem_cons.1 hg with rfl|hg
 ·rw [if_pos ⟨h.dep.symm,h.gn.symm⟩] at hτ'
  simp at hτ'
  obtain ⟨⟨rfl,rfl,rfl⟩,_⟩:=hτ'
  exact hn b o hL rfl
 ·rw [if_neg] at hτ'
  ·exact hL.tok g (hl g hg) l c s hτ'
  ·rintro ⟨_,rfl⟩
   have:=(h.tok _ (hl _ hg)).1
   rw [h.gn] at this
   exact Nat.lt_irrefl _ this
end
end Go.VM
namespace Go.VM
section
variable {P:Program} {w0:World} {G0:Gh} {st:St} {G:Gh} {w:World}
def Gh.ext (G:Gh) (b k:Nat) (news:List Value):Gh:={ G with F:=fun c o=>if c=b∧k≤o then news[o-k]? else G.F c o }
theorem Gh.le_ext {b k:Nat} {news:List Value} (h:∀ o,k≤o→G.F b o=none):G.le (G.ext b k news):=
 ⟨fun c o u hf=>by
  show (if c=b∧k≤o then news[o-k]? else G.F c o)=some u
  rw [if_neg (by rintro ⟨rfl,ho⟩;rw [h o ho] at hf;cases hf)];exact hf,fun _ _ h=>h,fun _ _ _ _ h=>h,fun _ _ h=>h,fun _ _ _=>rfl⟩
theorem Rl.grow_in (h:Rl w0 G0 st G w) {g:Nat} (hg:g∈st.live) {b len cap sz m:Nat} {e:TypeId} {cur:Array Value} {news:List Value}
  (hτ:G.τ st.dep g=some (.slice (some ⟨b,0,none⟩) len cap,sz)) (hB:w0.heap.size≤b) (hh:w.heap[b]?=some (.cells cur e (0,0))) (hcs:cur.size=cap*sz)
  (hfn:∀ o,len*sz≤o→G.F b o=none) (hι:∀ i,G.ι i≠some b) (hlt:len<cap) (hm:len+m≤cap) (hn:news.length=m*sz) :
  Rl w0 G0 { st with live:=st.live.filter (fun k=>k != g) } (G.ext b (len*sz) news) (w.setRow b (cur.toList.take (len*sz)++news++cur.toList.drop (len*sz+news.length)).toArray) ∧
   G.le (G.ext b (len*sz) news):=by
 have hle:G.le (G.ext b (len*sz) news):=Gh.le_ext hfn
 have hother:∀ c (X:Array Value),c≠b→(w.setRow b X).heap[c]?=w.heap[c]?:=fun c X hc=>setRow_other w b c X hc
 have hsz:len*sz+news.length≤cur.size:=by rw [hn,hcs,← Nat.add_mul];exact Nat.mul_le_mul_right _ hm
 refine ⟨?_,hle⟩
 exact
  {h with
   F0:=Fz.le_trans h.F0 hle.F
   Fnew:=fun c o hc=>by
    show (if c=b∧len*sz≤o then news[o-len*sz]? else G.F c o)=_
    rw [if_neg (by rintro ⟨rfl,_⟩;omega)];exact h.Fnew c o hc
   wx:=⟨h.wx.os,h.wx.tape,h.wx.output,by simpa using h.wx.size,fun c hc hT=>by
    rw [hother c _ (by rintro rfl;omega)];exact h.wx.block c hc hT⟩
   fz:=fun c o u hf=>by
    have hf':(if c=b∧len*sz≤o then news[o-len*sz]? else G.F c o)=some u:=hf
    by_cases hc:c=b
    ·subst hc
     rw [cell_setRow_same w c o cur _ e (0,0) hh]
     simp only [List.getElem?_toArray]
     by_cases ho:len*sz≤o
     ·rw [if_pos ⟨rfl,ho⟩] at hf'
      have hlt':=(List.getElem?_eq_some_iff.1 hf').1
      have hmin:(cur.toList.take (len*sz)).length=len*sz:=by simp;omega
      rw [List.append_assoc,List.getElem?_append_right (by rw [hmin];exact ho),hmin,List.getElem?_append_left hlt']
      exact hf'
     ·rw [if_neg (by omega)] at hf'
      have hcell:=h.fz c o u hf'
      rw [List.append_assoc,List.getElem?_append_left (by simp;omega),List.getElem?_take,if_pos (by omega)]
      simpa [World.cell?,hh] using hcell
    ·rw [if_neg (by rintro ⟨h1,_⟩;exact hc h1)] at hf'
     rw [World.cell?_of_block (w:=w) (hother c _ hc)];exact h.fz c o u hf'
   sep:=fun i c o hd hi=>by
    show (if c=b∧len*sz≤o then news[o-len*sz]? else G.F c o)=none
    rw [if_neg (by rintro ⟨rfl,_⟩;exact hι i hi)];exact h.sep i c o hd hi
   zok:=fun i c hi=>by
    obtain ⟨cur2,e2,h1,h2⟩:=h.zok i c hi
    exact ⟨cur2,e2,(hother c _ (by rintro rfl;exact hι i hi)).trans h1,h2⟩
   blk:=fun k cs hk=>by
    have hw:=(h.blk k cs hk).world (w':=w.setRow b (cur.toList.take (len*sz)++news++cur.toList.drop (len*sz+news.length)).toArray) fun c hc=>hother c _ (by
     rintro rfl
     split at hc<;>exact hι k hc)
    split
    ·rename_i hb
     have hb:k<st.base:=hb
     rw [if_pos hb] at hw
     exact hw.mono (show G.old.le (G.ext b (len*sz) news).old from ⟨hle.F,fun _ _ h=>h,fun _ _ _ _ h=>h,fun _ _ h=>h,fun _ _ _=>rfl⟩)
    ·rename_i hb
     have hb:¬k<st.base:=hb
     rw [if_neg hb] at hw
     exact hw.mono hle
   tok:=fun g' hg'=>by
    obtain ⟨hg1,hg2⟩:=List.mem_filter.1 hg'
    have hgne:g≠g':=by rintro rfl;simp at hg2
    obtain ⟨h1,a,len',cap',sz',h2,h3⟩:=h.tok g' hg1
    refine ⟨h1,a,len',cap',sz',h2,?_⟩
    rcases h3 with h3|⟨c,e',cur',r1,r2,r3,r4,r5,r6,r7,r8,r9⟩
    ·exact .inl h3
    ·by_cases hcb:c=b
     ·subst hcb
      subst r2
      rcases h.tinj g g' hg hg1 hgne c len cap sz len' cap' sz' hτ h2 with h4|h4
      ·omega
      ·exact .inl h4
     ·refine .inr ⟨c,e',cur',r1,r2,r3,(hother c _ hcb).trans r4,r5,r6,r7,fun o ho=>?_,r9⟩
      show (if c=b∧len*sz≤o then news[o-len*sz]? else G.F c o)=none
      rw [if_neg (by rintro ⟨h5,_⟩;exact hcb h5)];exact r8 o ho
   tinj:=fun g1 g2 h1 h2=>h.tinj g1 g2 (List.mem_filter.1 h1).1 (List.mem_filter.1 h2).1 }
theorem Stay.grow_in {g:Nat} (hg:g∈st.live) {b len cap sz k:Nat} {news:List Value} (hτ:G.τ st.dep g=some (.slice (some ⟨b,0,none⟩) len cap,sz)) (hlt:len<cap) (cur':Array Value) {live:List Nat} (hl:∀ g∈live,g∈st.live) :
  Stay st G w { st with live:=live } (G.ext b k news) (w.setRow b cur'):=fun c o h=>by
 have hne:c≠b:=by
  rintro rfl
  have:=h.tok g hg len cap sz hτ
  omega
 refine ⟨by rw [setRow_other w b c cur' hne];exact h.heap,h.ι,fun j=>?_,fun g' hg'=>h.tok g' (hl g' hg')⟩
 show (if c=b∧k≤j then news[j-k]? else G.F c j)=none
 rw [if_neg (by rintro ⟨h1,_⟩;exact hne h1)];exact h.F j
def appBound:Nat:=4294967296
def vAppDst (st:St) (sz:Nat):V→Option (List (List D)×List Nat)
 |.nil=>some ([],st.live)
 |.sl s es .full=>if s=sz then some (es,st.live) else none
 |.sl s es (.own d g)=>if s=sz∧d=st.dep∧st.live.contains g then some (es,st.live.filter (fun k=>k != g)) else none
 |_=>none
def vApp0:V→List (List D)→Option V
 |.d (.sl es),[]=>some (.d (.sl es))
 |_,_=>none
def vApp (st:St) (sz:Nat) (x:V) (ms:List (List D)):Option (V×St):=
 match vAppDst st sz x with
 |some (es,live)=>if es.length+ms.length≤appBound∧ms.all (fun r=>r.length==sz) then
   some (.sl sz (es++ms) (.own st.dep st.gn),st.tk live) else none
 |none=>match vApp0 x ms with
  |some r=>some (r,st)
  |none=>none
theorem Own.le {G G':Gh} {B sz:Nat} {a:Option Addr} {len cap:Nat} (h:Own G w B sz a len cap) (hF:G'.F=G.F) (hι:G'.ι=G.ι):Own G' w B sz a len cap:=by
 rcases h with h|⟨b,e,cur,r1,r2,r3,r4,r5,r6,r7,r8,r9⟩
 ·exact .inl h
 ·exact .inr ⟨b,e,cur,r1,r2,r3,r4,r5,r6,r7,fun o ho=>by rw [hF];exact r8 o ho,fun i=>by rw [hι];exact r9 i⟩
theorem appDst_rel (h:Rl w0 G0 st G w) {x:V} {xv:Value} (hx:RelV G x xv) {sz:Nat} {es:List (List D)} {live:List Nat} (hd:vAppDst st sz x=some (es,live)) :
  ∃ a len cap,xv=.slice a len cap∧RelD G.F (.sl es) (.slice a len cap)∧(∀ row∈es,row.length=sz)∧(∀ g∈live,g∈st.live) ∧
   (len=cap∨∃ g k b,g∈st.live∧live=st.live.filter (fun k=>k != g)∧len<cap∧a=some ⟨b,k*sz,none⟩∧G.τ st.dep g=some (.slice (some ⟨b,0,none⟩) (len+k) (cap+k),sz)):=by
 cases hx with
 |nil=>simp [vAppDst] at hd;obtain ⟨rfl,rfl⟩:=hd;exact ⟨none,0,0,rfl,RelD.nil _,by simp,fun g hg=>hg,.inl rfl⟩
 |@full s es' a len hr hrow=>
  simp only [vAppDst] at hd
  split at hd<;>simp at hd
  rename_i hs
  obtain ⟨rfl,rfl⟩:=hd
  subst hs
  exact ⟨a,len,len,rfl,hr,hrow,fun g hg=>hg,.inl rfl⟩
 |@own s es' d g v hr hrow hg ht=>
  simp only [vAppDst] at hd
  split at hd
  case isFalse=>cases hd
  rename_i hs
  obtain ⟨hs1,hs2,hs3⟩:=hs
  simp at hd
  obtain ⟨rfl,rfl⟩:=hd
  subst hs1;subst hs2
  have hmem:g∈st.live:=by simpa using hs3
  obtain ⟨a,len,cap,rfl⟩:=hr.form
  obtain ⟨_,a',len',cap',sz',h2,h3⟩:=h.tok g hmem
  refine ⟨a,len,cap,rfl,hr,hrow,fun k hk=>(List.mem_filter.1 hk).1,?_⟩
  have hlc:=hr.len.2.1
  by_cases hfull:len=cap
  ·exact .inl hfull
  ·obtain ⟨p1,p2⟩:=ht _ h2
   simp only at p1 p2
   subst p1
   have room:∀ {a0:Option Addr} {l0 c0:Nat},Own G w w0.heap.size sz' a0 l0 c0→l0<c0→∃ b,a0=some ⟨b,0,none⟩:=fun h hlt=>by
    rcases h with h|⟨b,_,_,_,h,_⟩
    ·omega
    ·exact ⟨b,h⟩
   rcases p2 with p2|⟨a0,a1,len1,cap1,k,he1,he2,he3⟩
   ·simp only [Value.slice.injEq] at p2
    obtain ⟨rfl,rfl,rfl⟩:=p2
    obtain ⟨b,rfl⟩:=room h3 (by omega)
    exact .inr ⟨g,0,b,hmem,rfl,by omega,by rw [Nat.zero_mul],h2⟩
   ·simp only [Value.slice.injEq] at he1 he2
    obtain ⟨rfl,rfl,rfl⟩:=he1
    obtain ⟨rfl,rfl,rfl⟩:=he2
    obtain ⟨b,rfl⟩:=room h3 (by omega)
    rcases he3 with rfl|he3
    ·exact .inr ⟨g,k,b,hmem,rfl,by omega,by rw [Option.map_some,add_mk,Nat.zero_add],h2⟩
    ·omega
 |_=>simp [vAppDst] at hd
theorem run_append_room' (t ty e eb:TypeId) (i:TypeInfo) (ht:P.underlying t=some (.slice e)) (hi:P.info? e=some i)
  (g sLen sCap k:Nat) (cur:Array Value) (hg:w.heap[g]?=some (.cells cur eb (0,0)))
  (a:Addr) (m c:Nat) (news:List Value) (hl:news.length=m*i.size) (hnews:∀ j u,news[j]?=some u→w.cell? (a.add j)=some u) (h1:∀ u∈news,u.oneCell'=true)
  (hroom:sLen+m≤sCap) (hfit:(sLen+k)*i.size+news.length≤cur.size) :
  (Builtin.append_ #[t,t] ty #[.slice (some ⟨g,k*i.size,none⟩) sLen sCap,.slice (some a) m c]).run P w =
   .ok (.slice (some ⟨g,k*i.size,none⟩) (sLen+m) sCap) (w.setRow g (cur.toList.take ((sLen+k)*i.size)++news++cur.toList.drop ((sLen+k)*i.size+news.length)).toArray):=by
 have hf:=run_firstCells_some (P:=P) w i.size m a m c news hl hnews
 have hst:=run_storeCells_at P g ((sLen+k)*i.size) eb news 0 cur w hg (by simpa using hfit) h1
 simp only [Nat.add_zero] at hst
 have he:k*i.size+sLen*i.size=(sLen+k)*i.size:=by rw [← Nat.add_mul,Nat.add_comm]
 simp [Builtin.append_,run_underlying ht,sizeOf,typeInfo,hi,Builtin.lenOf,hroom,hf,Addr.add_lit,he,hst]
theorem RelV.tk {G:Gh} {es:List (List D)} {v:Value} {sz dep gn:Nat} (hd:G.dep=dep) (hg:G.gn=gn) (h:RelD G.F (.sl es) v) (hrow:∀ row∈es,row.length=sz) :
  RelV (G.tk v sz) (.sl sz es (.own dep gn)) v:=by
 subst hd;subst hg
 refine .own h hrow (.inr ⟨rfl,Nat.lt_succ_self _⟩) (fun p hp=>?_)
 have hp':(if G.dep=G.dep∧G.gn=G.gn then some (v,sz) else G.τ G.dep G.gn)=some p:=hp
 rw [if_pos ⟨rfl,rfl⟩] at hp'
 obtain rfl:(v,sz)=p:=by simpa using hp'
 exact ⟨rfl,.inl rfl⟩
theorem RelV.tkS {G:Gh} {es:List (List D)} {b len cap k sz dep gn:Nat} (hd:G.dep=dep) (hg:G.gn=gn) (h:RelD G.F (.sl es) (.slice (some ⟨b,k*sz,none⟩) len cap)) (hrow:∀ row∈es,row.length=sz) :
  RelV (G.tk (.slice (some ⟨b,0,none⟩) (len+k) (cap+k)) sz) (.sl sz es (.own dep gn)) (.slice (some ⟨b,k*sz,none⟩) len cap):=by
 subst hd;subst hg
 refine .own h hrow (.inr ⟨rfl,Nat.lt_succ_self _⟩) (fun p hp=>?_)
 have hp':(if G.dep=G.dep∧G.gn=G.gn then some ((Value.slice (some ⟨b,0,none⟩) (len+k) (cap+k)),sz) else G.τ G.dep G.gn)=some p:=hp
 rw [if_pos ⟨rfl,rfl⟩] at hp'
 simp only [Option.some.injEq] at hp'
 subst hp'
 exact ⟨rfl,.inr ⟨_,_,_,_,k,rfl,rfl,.inl (by rw [Option.map_some,add_mk,Nat.zero_add])⟩⟩
theorem app_rel (h:Rl w0 G0 st G w) {x r:V} {xv yv:Value} (hx:RelV G x xv) {t e ty:TypeId} {i:TypeInfo} {z:Value} (hu:P.underlying t=some (.slice e)) (hi:P.info? e=some i) (hz:i.zero=some z)
  (hzs:z.cells.size=i.size) (hpos:0<i.size) (hby:i.bytes≤32768) {ms:List (List D)} (hy:RelD G.F (.sl ms) yv) {st':St} (ha:vApp st i.size x ms=some (r,st')) :
  ∃ rv G' w',(Builtin.append_ #[t,t] ty #[xv,yv]).run P w=.ok rv w'∧RelV G' r rv∧Rl w0 G0 st' G' w'∧G.le G'∧Stay st G w st' G' w':=by
 unfold vApp at ha
 split at ha
 case h_2=>
  split at ha
  case h_2=>cases ha
  rename_i r' h0
  simp only [Option.some.injEq,Prod.mk.injEq] at ha
  obtain ⟨rfl,rfl⟩:=ha
  unfold vApp0 at h0
  split at h0
  ·rename_i es
   simp only [Option.some.injEq] at h0
   subst h0
   cases hx with
   |d hd=>
    obtain ⟨a,len,cap,rfl⟩:=hd.form
    obtain ⟨a',m,c',rfl⟩:=hy.form
    have hl2:=hy.len
    have hm:m=0:=hl2.1
    subst hm
    exact ⟨_,G,w,run_append_zero t ty e i hu hi a len cap hd.len.2.1 a' c',.d hd,h,G.le_refl,Stay.refl _ _ _⟩
  ·cases h0
 rename_i es live hd
 split at ha
 case isFalse=>cases ha
 rename_i hcond
 obtain ⟨hbound,hall⟩:=hcond
 simp only [Option.some.injEq,Prod.mk.injEq] at ha
 obtain ⟨rfl,rfl⟩:=ha
 obtain ⟨a,len,cap,rfl,hes,hrow,hlive,hown⟩:=appDst_rel h hx hd
 obtain ⟨a',m,c',rfl⟩:=hy.form
 have hl1:=hes.len;have hl2:=hy.len
 have hms:∀ row∈ms,row.length=i.size:=by simpa using hall
 have hrows:∀ row∈es++ms,row.length=i.size:=fun row hr=>by
  rcases List.mem_append.1 hr with hr|hr
  ·exact hrow row hr
  ·exact hms row hr
 have hokg:(G.tk (.slice a len cap) i.size).okTag st.dep st.gn:=.inr ⟨h.dep.symm,by show st.gn<G.gn+1;rw [h.gn];exact Nat.lt_succ_self _⟩
 by_cases hm0:m=0
 ·subst hm0
  have hnil:ms=[]:=List.eq_nil_of_length_eq_zero hl2.1.symm
  subst hnil
  rcases hown with hfull|⟨g,k,b,hg,rfl,hlt,rfl,hτ⟩
  ·have hne:∀ g∈live,∀ b l c l' c' s',a=some ⟨b,0,none⟩→l=len→c=cap→G.τ st.dep g=some (.slice (some ⟨b,0,none⟩) l' c',s')→l=c∨l'=c':=by
    intro g hg b l c l' c' s' hab hl hc hτ
    exact .inl (by omega)
   refine ⟨.slice a len cap,G.tk (.slice a len cap) i.size,w,run_append_zero t ty e i hu hi a len cap hl1.2.1 a' c',?_,h.tk hlive (.inl hfull) hne,G.le_tk _ _,Stay.tk h hlive (fun b o hL hab=>hfull)⟩
   rw [List.append_nil]
   exact RelV.tk h.dep h.gn hes hrow
  ·have ho:Own G w w0.heap.size i.size (some ⟨b,0,none⟩) (len+k) (cap+k):=by
    obtain ⟨_,a1,l1,c1,s1,h2,h3⟩:=h.tok g hg
    rw [hτ] at h2;simp only [Option.some.injEq,Prod.mk.injEq,Value.slice.injEq] at h2
    obtain ⟨⟨rfl,rfl,rfl⟩,rfl⟩:=h2
    exact h3
   have hne:∀ g'∈st.live.filter (fun k=>k != g),∀ b2 l c l' c' s',(some ⟨b,0,none⟩:Option Addr)=some ⟨b2,0,none⟩→l=len+k→c=cap+k→G.τ st.dep g'=some (.slice (some ⟨b2,0,none⟩) l' c',s')→l=c∨l'=c':=by
    intro g' hg' b2 l c l' c' s' hab hl hc hτ'
    subst hl;subst hc
    obtain ⟨hgm,hgn⟩:=List.mem_filter.1 hg'
    simp only [Option.some.injEq,Addr.mk.injEq] at hab
    obtain ⟨rfl,_⟩:=hab
    exact h.tinj g g' hg hgm (by rintro rfl;simp at hgn) b _ _ _ l' c' s' hτ hτ'
   refine ⟨.slice (some ⟨b,k*i.size,none⟩) len cap,G.tk (.slice (some ⟨b,0,none⟩) (len+k) (cap+k)) i.size,w,run_append_zero t ty e i hu hi _ len cap hl1.2.1 a' c',?_,h.tk hlive ho hne,G.le_tk _ _,Stay.tk h hlive (fun b' o hL hab=>?_)⟩
   ·rw [List.append_nil]
    exact RelV.tkS h.dep h.gn hes hrow
   ·simp only [Option.some.injEq,Addr.mk.injEq] at hab
    obtain ⟨rfl,_⟩:=hab
    exact hL.tok g hg _ _ _ hτ
 ·obtain ⟨news,hnl,hns,hnc,hnr⟩:=hy.flat hms
  obtain ⟨olds,hol,hos,hoc,hor⟩:=hes.flat hrow
  have hmne:ms≠[]:=by rintro rfl;simp at hl2;omega
  obtain ⟨b',o',ha'⟩:∃ b' o',a'=some ⟨b',o',none⟩:=by
   cases hy with
   |sl _ _ _ _ _ _ _ _ _ _ hb _=>obtain ⟨b,o,h,_⟩:=hb hmne;exact ⟨b,o,h⟩
  subst ha'
  have hnews:∀ j v,news[j]?=some v→w.cell? ((⟨b',o',none⟩:Addr).add j)=some v:=fun j v hj=>by
   obtain ⟨b,o,he,hF⟩:=hnc j v hj
   simp at he;obtain ⟨rfl,rfl⟩:=he
   rw [add_mk];exact h.fz _ _ _ hF
  have hone:∀ u∈news,u.oneCell'=true:=fun u hu=>sc_one (hns u hu)
  have hlm:(len+m)*i.bytes≤140737488355328:=by
   have h1:len+m≤appBound:=by omega
   calc (len+m)*i.bytes≤appBound*32768:=Nat.mul_le_mul h1 hby
    _=140737488355328:=by decide
  have h63:((len+m:Nat):Int)≤9223372036854775807:=by
   have h1:len+m≤appBound:=by omega
   simp only [appBound] at h1;omega
  have hflat:=flat_append (F:=G.F) (sz:=i.size) (L:=olds) (M:=news) (by rw [hol,hl1.1]) hor hnr
  by_cases hroom:len+m≤cap
  ·-- in place
   obtain ⟨g,k,b,hg,rfl,hlt,rfl,hτ⟩:∃ g k b,g∈st.live∧live=st.live.filter (fun k=>k != g)∧len<cap∧a=some ⟨b,k*i.size,none⟩∧G.τ st.dep g=some (.slice (some ⟨b,0,none⟩) (len+k) (cap+k),i.size):=by
    rcases hown with h1|h1
    ·omega
    ·exact h1
   obtain ⟨_,a1,l1,c1,s1,h2,h3⟩:=h.tok g hg
   rw [hτ] at h2;simp only [Option.some.injEq,Prod.mk.injEq,Value.slice.injEq] at h2
   obtain ⟨⟨rfl,rfl,rfl⟩,rfl⟩:=h2
   obtain ⟨eb,cur,r1,r3,r4,r5,r6,r7,r8,r9⟩:∃ e cur,0<len+k∧w0.heap.size≤b∧w.heap[b]?=some (.cells cur e (0,0))∧len+k≤cap+k∧cur.size=(cap+k)*i.size∧0<i.size ∧
     (∀ o,(len+k)*i.size≤o→G.F b o=none)∧∀ k,G.ι k≠some b:=by
    rcases h3 with h3|⟨b2,e,cur,q1,q2,q3,q4,q5,q6,q7,q8,q9⟩
    ·omega
    ·simp only [Option.some.injEq,Addr.mk.injEq] at q2
     obtain ⟨rfl,_⟩:=q2
     exact ⟨e,cur,q1,q3,q4,q5,q6,q7,q8,q9⟩
   have hfit:(len+k)*i.size+news.length≤cur.size:=by rw [hnl,r6,← Nat.add_mul];exact Nat.mul_le_mul_right _ (by omega)
   have hrun:=run_append_room' (P:=P) t ty e eb i hu hi b len cap k cur r4 ⟨b',o',none⟩ m c' news hnl hnews hone hroom hfit
   obtain ⟨hR,hle⟩:=h.grow_in hg hτ r3 r4 r6 r8 r9 (by omega) (by omega) hnl
   have hsplit:(len+k)*i.size=k*i.size+len*i.size:=by rw [Nat.add_mul,Nat.add_comm]
   have hD:RelD (G.ext b ((len+k)*i.size) news).F (.sl (es++ms)) (.slice (some ⟨b,k*i.size,none⟩) (len+m) cap):=by
    have hlen:len+m=(es++ms).length:=by simp;omega
    rw [hlen]
    refine RelD.ofFlat (L:=olds++news) hrows (by simp;omega) hl1.2.2 (fun j v hj hv=>?_) (fun i' j' row c h1 h2=>?_)
    ·show (if b=b∧(len+k)*i.size≤k*i.size+j then news[k*i.size+j-(len+k)*i.size]? else G.F b (k*i.size+j))=some v
     rw [List.getElem?_append] at hv
     by_cases hjo:j<olds.length
     ·rw [if_pos hjo] at hv
      rw [if_neg (by rw [hol] at hjo;omega)]
      obtain ⟨b2,o2,he,hF⟩:=hoc j v hv
      simp only [Option.some.injEq,Addr.mk.injEq] at he
      obtain ⟨rfl,rfl,_⟩:=he
      exact hF
     ·rw [if_neg hjo] at hv
      rw [hol] at hjo hv
      rw [if_pos ⟨rfl,by omega⟩,show k*i.size+j-(len+k)*i.size=j-len*i.size by omega];exact hv
    ·obtain ⟨v,hv,hd'⟩:=hflat i' j' row c h1 h2
     exact ⟨v,hv,hd'.mono hle.F⟩
   have hsub:∀ k∈st.live.filter (fun k=>k != g),k∈(st.live.filter (fun k=>k != g)):=fun _ h=>h
   have hOwn:Own (G.ext b ((len+k)*i.size) news) (w.setRow b (cur.toList.take ((len+k)*i.size)++news++cur.toList.drop ((len+k)*i.size+news.length)).toArray) w0.heap.size i.size (some ⟨b,0,none⟩) (len+m+k) (cap+k):=by
    refine .inr ⟨b,eb,_,by omega,rfl,r3,setRow_heap w b cur _ eb (0,0) r4,by omega,?_,r7,fun o ho=>?_,r9⟩
    ·simp only [List.size_toArray,List.length_append,List.length_take,List.length_drop,Array.length_toList]
     omega
    ·rw [show len+m+k=len+k+m by omega,Nat.add_mul] at ho
     show (if b=b∧(len+k)*i.size≤o then news[o-(len+k)*i.size]? else G.F b o)=none
     rw [if_pos ⟨rfl,by omega⟩]
     exact List.getElem?_eq_none (by omega)
   refine ⟨_,(G.ext b ((len+k)*i.size) news).tk (.slice (some ⟨b,0,none⟩) (len+m+k) (cap+k)) i.size,_,hrun,RelV.tkS h.dep h.gn hD hrows,
    Rl.tk (st:={ st with live:=st.live.filter (fun k=>k != g) }) hR hsub hOwn ?_,Gh.le_trans hle (Gh.le_tk _ _ _),
    (Stay.grow_in hg hτ (by omega) _ (fun k hk=>(List.mem_filter.1 hk).1)).trans (Stay.tk hR hsub (fun c o hL hab=>?_))⟩
   rotate_left
   ·simp only [Option.some.injEq,Addr.mk.injEq] at hab
    obtain ⟨rfl,_⟩:=hab
    have hF:=hL.F ((len+k)*i.size)
    have hF':(if b=b∧(len+k)*i.size≤(len+k)*i.size then news[(len+k)*i.size-(len+k)*i.size]? else G.F b ((len+k)*i.size))=none:=hF
    rw [if_pos ⟨rfl,Nat.le_refl _⟩,Nat.sub_self] at hF'
    have hnl0:0<news.length:=by rw [hnl];exact Nat.mul_pos (by omega) hpos
    rw [List.getElem?_eq_getElem hnl0] at hF'
    cases hF'
   intro k2 hk b2 l c l' c2 s' hb2 hl hc hτk
   simp only [Option.some.injEq,Addr.mk.injEq] at hb2
   obtain ⟨rfl,_⟩:=hb2
   obtain ⟨hkm,hkn⟩:=List.mem_filter.1 hk
   rcases h.tinj g k2 hg hkm (by rintro rfl;simp at hkn) b _ _ i.size l' c2 s' hτ hτk with h4|h4
   ·omega
   ·exact .inr h4
  ·-- a new block
   obtain ⟨rest,cap2,hcap2,hmax2,hsz2,hrun⟩:∃ (rest:Array Value) (cap2:Nat),len+m≤cap2∧cap2≤maxLen∧(olds.toArray++news.toArray++rest).size=cap2*i.size ∧
     (Builtin.append_ #[t,t] ty #[.slice a len cap,.slice (some ⟨b',o',none⟩) m c']).run P w =
      .ok (.slice (some ⟨w.heap.size,0,none⟩) (len+m) cap2) (w.drew.alloc (.cells (olds.toArray++news.toArray++rest) e)):=by
    have hsize:∀ c2,len+m≤c2→(olds.toArray++news.toArray++Builtin.zeroCells z.cells (c2-(len+m))).size=c2*i.size:=fun c2 hc2=>by
     simp only [Array.size_append,List.size_toArray,size_zeroCells,hzs,hol,hnl,← Nat.add_mul]
     congr 1;omega
    have hml:len+m≤maxLen:=by simp only [maxLen];omega
    cases a with
    |none=>
     have hz0:len=0∧cap=0:=by
      have hl0:len=0:=by
       by_cases he:es=[]
       ·subst he;simpa using hl1.1
       ·cases hes with
        |sl _ _ _ _ _ _ _ _ _ _ hb _=>obtain ⟨b,o,h,_⟩:=hb he;cases h
      rcases hown with h1|⟨g,k,b,hg,_,_,hab,_⟩
      ·exact ⟨hl0,by omega⟩
      ·cases hab
     obtain ⟨rfl,rfl⟩:=hz0
     have ho:olds=[]:=List.eq_nil_of_length_eq_zero (by rw [hol];simp)
     subst ho
     have hge:=grownCap_ge w (0+m) 0 e
     refine ⟨_,grownCap w (0+m) 0 e,hge,grownCap_le_maxLen w _ _ e hml,hsize _ hge,?_⟩
     have hr:=run_append_nil (P:=P) w t ty e i z hu hi hz ⟨b',o',none⟩ m c' news hnl hnews (by omega) (by omega) (by have hb:=hlm;simp only [Nat.zero_add] at hb;omega)
     simpa using hr
    |some ad=>
     have hge:=grownCap_ge w (len+m) cap e
     refine ⟨_,grownCap w (len+m) cap e,hge,grownCap_le_maxLen w _ _ e hml,hsize _ hge,?_⟩
     exact run_append_grow (P:=P) w t ty e i z hu hi hz ad len cap olds hol (fun j v hj=>by
      obtain ⟨b,o,he,hF⟩:=hoc j v hj
      simp at he;subst he
      rw [add_mk];exact h.fz _ _ _ hF) ⟨b',o',none⟩ m c' news hnl hnews (by omega) h63 (growslice_fits (by omega) hlm)
   have hdr:=h.world (Wx.drew w _)
   obtain ⟨hR,hle⟩:=hdr.alloc_fz (olds.toArray++news.toArray) rest e
   have hD:RelD (G.fz w.heap.size (olds.toArray++news.toArray)).F (.sl (es++ms)) (.slice (some ⟨w.heap.size,0,none⟩) (len+m) cap2):=by
    have hlen:len+m=(es++ms).length:=by simp;omega
    rw [hlen]
    refine RelD.ofFlat (L:=olds++news) hrows (by simp;omega) hmax2 (fun j v hj hv=>?_) (fun i' j' row c h1 h2=>?_)
    ·rw [Nat.zero_add]
     show (if w.heap.size=w.heap.size then (olds.toArray++news.toArray)[j]? else G.F _ j)=some v
     rw [if_pos rfl];simpa using hv
    ·obtain ⟨v,hv,hd'⟩:=hflat i' j' row c h1 h2
     exact ⟨v,hv,hd'.mono hle.F⟩
   have hOwn:Own (G.fz w.heap.size (olds.toArray++news.toArray)) (w.drew.alloc (.cells (olds.toArray++news.toArray++rest) e)) w0.heap.size i.size (some ⟨w.heap.size,0,none⟩) (len+m) cap2:=by
    refine .inr ⟨w.heap.size,e,_,by omega,rfl,h.wx.size,heap_alloc_new w.drew _,hcap2,hsz2,hpos,fun o ho=>?_,fun k hk=>Nat.lt_irrefl _ (h.ιlt hk)⟩
    show (if w.heap.size=w.heap.size then (olds.toArray++news.toArray)[o]? else G.F _ o)=none
    rw [if_pos rfl]
    exact Array.getElem?_eq_none (by simp;rw [Nat.add_mul] at ho;omega)
   refine ⟨_,(G.fz w.heap.size (olds.toArray++news.toArray)).tk (.slice (some ⟨w.heap.size,0,none⟩) (len+m) cap2) i.size,_,hrun,RelV.tk h.dep h.gn hD hrows,
    hR.tk hlive hOwn ?_,Gh.le_trans hle (Gh.le_tk _ _ _),((Stay.world (Wx.drew w _)).trans (Stay.alloc_fz _ _)).trans (Stay.tk hR hlive (fun c o hL hab=>?_))⟩
   rotate_left
   ·simp at hab;subst hab
    have hF:=hL.F 0
    have hF':(if w.heap.size=w.heap.size then (olds.toArray++news.toArray)[0]? else G.F w.heap.size 0)=none:=hF
    rw [if_pos rfl] at hF'
    have hnl0:0<news.length:=by rw [hnl];exact Nat.mul_pos (by omega) hpos
    have h9:=Array.getElem?_eq_none_iff.1 hF'
    simp only [Array.size_append,List.size_toArray] at h9;omega
   intro k hk b2 l c l' c2 s' hb2 hl hc hτk
   simp at hb2;subst hb2
   obtain ⟨_,a1,l1,c1,s1,h2,h3⟩:=h.tok k (hlive k hk)
   have hτk':G.τ st.dep k=some (.slice (some ⟨w.heap.size,0,none⟩) l' c2,s'):=hτk
   rw [hτk'] at h2;simp at h2
   obtain ⟨⟨rfl,rfl,rfl⟩,rfl⟩:=h2
   rcases h3 with h3|⟨b3,e3,cur3,p1,p2,p3,p4,_⟩
   ·exact .inr h3
   ·simp at p2;subst p2
    exact absurd (Array.getElem?_eq_some_iff.1 p4).1 (Nat.lt_irrefl _)
end
end Go.VM
namespace Go.VM
section
variable {P:Program} {w0:World} {G0:Gh} {st:St} {G:Gh} {w:World}
theorem toD_rel {v:V} {x:D} {u:Value} (h:RelV G v u) (hd:v.toD=some x):RelD G.F x u:=by
 cases h with
 |nil=>simp [V.toD] at hd;subst hd;exact RelD.nil _
 |d h=>simp [V.toD] at hd;subst hd;exact h
 |full h hrow=>simp [V.toD] at hd;subst hd;exact h
 |own h hrow hg ht=>simp [V.toD] at hd;subst hd;exact h
 |_=>simp [V.toD] at hd
theorem toDs_get:∀ {vs:List V} {xs:List D},toDs vs=some xs→xs.length=vs.length∧∀ (j:Nat) x,xs[j]?=some x→∃ v,vs[j]?=some v∧v.toD=some x
 |[],xs,h=>by simp [toDs] at h;subst h;simp
 |v::vs,xs,h=>by
  simp only [toDs] at h
  split at h<;>simp at h
  rename_i x xs' hx hxs
  subst h
  obtain ⟨h1,h2⟩:=toDs_get hxs
  refine ⟨by simp [h1],fun j y hj=>?_⟩
  match j with
  |0=>simp at hj;subst hj;exact ⟨v,rfl,hx⟩
  |j+1=>exact h2 j y (by simpa using hj)
theorem chunk_length {α:Type} (sz:Nat):∀ (k:Nat) (l:List α),(chunk sz k l).length=k
 |0,_=>rfl
 |k+1,l=>by simp [chunk,chunk_length sz k]
theorem chunk_get {α:Type} (sz:Nat):∀ (k:Nat) (l:List α),l.length=k*sz→∀ (i:Nat) row,(chunk sz k l)[i]?=some row→row.length=sz∧∀ (j:Nat) c,row[j]?=some c→l[i*sz+j]?=some c
 |0,l,hl,i,row,h=>by simp [chunk] at h
 |k+1,l,hl,0,row,h=>by
  simp [chunk] at h;subst h
  rw [Nat.add_mul] at hl
  refine ⟨by simp;omega,fun j c hj=>?_⟩
  rw [List.getElem?_take] at hj
  split at hj
  ·simpa using hj
  ·cases hj
 |k+1,l,hl,i+1,row,h=>by
  rw [Nat.add_mul] at hl
  have:=chunk_get sz k (l.drop sz) (by simp;omega) i row (by simpa [chunk] using h)
  refine ⟨this.1,fun j c hj=>?_⟩
  have h2:=this.2 j c hj
  rw [List.getElem?_drop] at h2
  rw [← h2];congr 1;rw [Nat.add_mul];omega
theorem newSl_rel (h:Rl w0 G0 st G w) {cs:List V} {cells:Array Value} (hc:RelC G cs cells) {ds:List D} (hds:toDs cs=some ds) {len sz:Nat} (hl:cs.length=len*sz) (hmax:len≤maxLen) (e:TypeId) :
  ∃ G',Rl w0 G0 st G' (w.alloc (.cells cells e))∧G.le G'∧RelV G' (.sl sz (chunk sz len ds) .full) (.slice (some ⟨w.heap.size,0,none⟩) len len)∧Stay st G w st G' (w.alloc (.cells cells e)):=by
 obtain ⟨hR,hle⟩:=h.alloc_fz cells #[] e
 rw [Array.append_empty] at hR
 obtain ⟨h1,h2⟩:=toDs_get hds
 have hdl:ds.length=len*sz:=by omega
 have hlen:=chunk_length sz len ds
 refine ⟨_,hR,hle,.full ?_ (fun row hr=>?_),Stay.alloc_fz _ _⟩
 ·have hle':(chunk sz len ds).length=len:=hlen
  have key:=RelD.ofFlat (F:=(G.fz w.heap.size cells).F) (es:=chunk sz len ds) (b:=w.heap.size) (o:=0) (cap:=len) (sz:=sz) (L:=cells.toList) (fun row hr=>?_) (by omega) hmax (fun j v hj hv=>?_) (fun i j row c hi hj=>?_)
  ·rw [hlen] at key;exact key
  ·obtain ⟨i,hi⟩:=List.getElem?_of_mem hr
   exact (chunk_get sz len ds hdl i row hi).1
  ·show (if w.heap.size=w.heap.size then cells[0+j]? else _)=some v
   rw [if_pos rfl,Nat.zero_add];simpa using hv
  ·obtain ⟨_,hg⟩:=chunk_get sz len ds hdl i row hi
   obtain ⟨v,hv,hvd⟩:=h2 _ c (hg j c hj)
   have hlt:i*sz+j<cells.size:=by rw [hc.1];exact (List.getElem?_eq_some_iff.1 hv).1
   have hx:cells[i*sz+j]?=some cells[i*sz+j]:=Array.getElem?_eq_getElem hlt
   refine ⟨cells[i*sz+j],by simp,?_⟩
   exact (toD_rel (hc.2 _ v _ hv hx).2 hvd).mono hle.F
 ·obtain ⟨i,hi⟩:=List.getElem?_of_mem hr
  exact (chunk_get sz len ds hdl i row hi).1
def repl (len:Nat) (zero:List V):List V:=(List.replicate len zero).flatten
theorem repl_length (len:Nat) (zero:List V):(repl len zero).length=len*zero.length:=by
 simp [repl]
def vBuildSl (ts:List V) (len sz:Nat) (zero:List V) (parts:List (Nat×VArg)):Option V:=
 match vFill (repl len zero) (parts.map fun (i,x)=>(i*sz,sz,x.ev ts)) with
 |some cs=>match toDs cs with
  |some ds=>if cs.length=len*sz then some (.sl sz (chunk sz len ds) .full) else none
  |none=>if sz=1∧cs.length=len then some (.psl (cs.map V.er)) else none
 |none=>none
theorem replZero_rel {zero:List V} {zs:Array Value} (hz:RelC G zero zs) (hpos:0<zs.size) (len:Nat) :
  RelC G (repl len zero) ((Array.range (len*zs.size)).map (zs[·%zs.size]!)):=by
 have hzl:=hz.1
 refine ⟨by simp [repl_length,hzl],fun j c x h1 h2=>?_⟩
 have hj:j<len*zero.length:=by
  have:=(List.getElem?_eq_some_iff.1 h1).1
  rw [repl_length] at this;exact this
 have h3:(repl len zero)[j]?=zero[j%zero.length]?:=by
  clear h1 h2
  unfold repl
  induction len generalizing j with
  |zero=>simp at hj
  |succ len ih=>
   rw [List.replicate_succ,List.flatten_cons,List.getElem?_append]
   split
   ·rename_i hlt;rw [Nat.mod_eq_of_lt hlt]
   ·rename_i hge
    have hj':j<len*zero.length+zero.length:=by rw [Nat.succ_mul] at hj;exact hj
    rw [ih (j-zero.length) (by omega)]
    congr 1
    exact (Nat.mod_eq_sub_mod (by omega)).symm
 rw [h3] at h1
 have hm:j%zs.size<zs.size:=Nat.mod_lt _ hpos
 have h4:x=zs[j%zs.size]:=by
  rw [Array.getElem?_map] at h2
  obtain ⟨k,hk,rfl⟩:=Option.map_eq_some_iff.1 h2
  rw [Array.getElem?_range] at hk
  split at hk<;>simp at hk
  subst hk
  rw [getElem!_pos zs _ hm]
 rw [← hzl] at h1
 exact hz.2 (j%zs.size) c x h1 (by rw [h4];exact Array.getElem?_eq_getElem hm)
inductive CParts1:List (Nat×Operand)→List (Nat×VArg)→Prop
 |nil:CParts1 [] []
 |cons {i:Nat} {x:Operand} {vx:VArg} {xs:List (Nat×Operand)} {vxs:List (Nat×VArg)} (h:CArg x vx) (hs:CParts1 xs vxs):CParts1 ((i,x)::xs) ((i,vx)::vxs)
theorem CParts1.parts {sz:Nat} {ts:List V}:∀ {xs:List (Nat×Operand)} {vxs:List (Nat×VArg)},CParts1 xs vxs →
  ∃ vps:List (Nat×Nat×VArg),CParts (fun i=>some (i*sz,sz)) xs vps∧vps.map (fun (o,n,x)=>(o,n,x.ev ts))=vxs.map fun (i,x)=>(i*sz,sz,x.ev ts)
 |_,_,.nil=>⟨[],.nil,rfl⟩
 |_,_,.cons (i:=i) (vx:=vx) h hs=>by
  obtain ⟨vps,h1,h2⟩:=CParts1.parts (sz:=sz) (ts:=ts) hs
  exact ⟨(i*sz,sz,vx)::vps,.cons rfl h h1,by simp [h2]⟩
theorem buildSl_rel (h:Rl w0 G0 st G w) {a:Act} {ts:List V} (ht:RelT G ts a.tmps) {t e:TypeId} {i:TypeInfo} {z:Value} (hu:P.underlying t=some (.slice e)) (hi:P.info? e=some i) (hz:i.zero=some z)
  (hzs:z.cells.size=i.size) (hpos:0<i.size) {zero:List V} (hz0:∀ G,RelC G zero z.cells) {len:Nat} (hlen:len*i.size≤16777216) {ps:Array (Nat×Operand)} {vps:List (Nat×VArg)}
  (hp:CParts1 ps.toList vps) {r:V} (hr:vBuildSl ts len i.size zero vps=some r) :
  ∃ rv G' w',(Instr.buildSlice t len (ps.map fun (i,x)=>(i,a.eval x))).run P w=.ok rv w'∧RelV G' r rv∧Rl w0 G0 st G' w'∧G.le G'∧Stay st G w st G' w':=by
 unfold vBuildSl at hr
 split at hr
 case h_2=>cases hr
 rename_i cs hcs
 obtain ⟨vps',hvp,hvm⟩:=hp.parts (sz:=i.size) (ts:=ts)
 rw [← hvm] at hcs
 have hrz:=replZero_rel (hz0 G) (by rw [hzs];exact hpos) len
 rw [hzs] at hrz
 obtain ⟨cells,hf,hrel⟩:=fill_rel ht hvp hrz hcs
 have hrun:(Instr.buildSlice t len (ps.map fun (i,x)=>(i,a.eval x))).run P w=.ok (.slice (some ⟨w.heap.size,0,none⟩) len len) (w.alloc (.cells cells e)):=by
  have h24:¬(2 ^ 24<len*i.size):=by omega
  have hf':Instr.fill (fun k=>some (k*i.size,i.size)) (Array.map (fun x=>z.cells[x%i.size]!) (Array.range (len*i.size))) (List.map (fun x=>(x.fst,a.eval x.snd)) ps.toList)=some cells:=hf
  rcases Nat.eq_zero_or_pos len with h0|h0
  ·subst h0
   have:(Array.map (fun x=>z.cells[x%i.size]!) (Array.range (0*i.size)))=#[]:=by simp
   rw [this] at hf'
   have h0':(Array.map (fun _:Nat=>(default:Value)) (Array.range 0))=#[]:=by simp
   simp only [Instr.buildSlice,Sem.run_bind,run_underlying hu,Result.andThen_ok,run_sizeOf' hi,Nat.zero_mul]
   simp [h0',hf',newRow]
  ·have hne:len*i.size≠0:=Nat.mul_ne_zero (by omega) (by omega)
   simp [Instr.buildSlice,run_underlying hu,run_sizeOf' hi,h24,run_zero' hi hz,hzs,hf',newRow]
   intro h;exact absurd h hne
 have hml:len≤maxLen:=by
  have:len*1≤len*i.size:=Nat.mul_le_mul_left _ hpos
  simp only [maxLen];omega
 split at hr
 ·rename_i ds hds
  split at hr
  case isFalse=>cases hr
  rename_i hl
  simp only [Option.some.injEq] at hr
  subst hr
  obtain ⟨G',hR,hle,hv,hst⟩:=newSl_rel h hrel hds hl hml e
  exact ⟨_,G',_,hrun,hv,hR,hle,hst⟩
 ·split at hr
  case isFalse=>cases hr
  rename_i hl
  simp only [Option.some.injEq] at hr
  subst hr
  obtain ⟨hR,hle⟩:=h.alloc_fz cells #[] e
  rw [Array.append_empty] at hR
  refine ⟨_,_,_,hrun,?_,hR,hle,Stay.alloc_fz _ _⟩
  have hcl:=hrel.1
  refine .psl (fun j=>cells.getD j undef) (by simp [hl.2]) (Nat.le_refl _) hml (fun j hj=>?_) (fun j hj=>?_) (fun j c hj=>?_)
  ·show (if w.heap.size=w.heap.size then cells[0+j]? else _)=_
   rw [if_pos rfl,Nat.zero_add]
   have:j<cells.size:=by simp at hj;omega
   simp [Array.getD,this]
  ·have:j<cells.size:=by simp at hj;omega
   have h1:=List.getElem?_eq_getElem (show j<cs.length by omega)
   have h2:cells[j]?=some (cells.getD j undef):=by simp [Array.getD,this]
   exact (hrel.2 j _ _ h1 h2).1
  ·rw [List.getElem?_map] at hj
   obtain ⟨c0,hc0,rfl⟩:=Option.map_eq_some_iff.1 hj
   have hlt:j<cells.size:=by have:=(List.getElem?_eq_some_iff.1 hc0).1;omega
   have h2:cells[j]?=some (cells.getD j undef):=by simp [Array.getD,hlt]
   exact ((hrel.2 j c0 _ hc0 h2).2.er.mono (Gh.old_le G)).mono hle
def strRows (s:ByteArray):List (List D):=s.data.toList.map fun b=>[.lit (.int .u8 b.toNat)]
theorem sBytes_rel (h:Rl w0 G0 st G w) {s t e:TypeId} (hs:P.underlying s=some .string) (ht:P.underlying t=some (.slice e)) (he:P.underlying e=some (.int .u8)) {x:ByteArray} (hx:x.size≤maxLen) :
  ∃ rv G' w',(convert s t (.string x)).run P w=.ok rv w'∧RelV G' (.d (.sl (strRows x))) rv∧Rl w0 G0 st G' w'∧G.le G'∧Stay st G w st G' w':=by
 have hrun:=run_bytes_of_string (P:=P) w s t e x hs ht he
 have hdr:=h.world (Wx.drew w _)
 obtain ⟨hR,hle⟩:=hdr.alloc_fzO (x.data.map (fun b=>Value.int .u8 b.toNat)) (Array.replicate (grownCap w x.size 0 e-x.size) (.int .u8 0)) e ((bytesRow x (grownCap w x.size 0 e)).size,(bytesRow x (grownCap w x.size 0 e)).size+1)
 have hlen:x.size=(strRows x).length:=by rw [strRows,List.length_map,Array.length_toList];rfl
 refine ⟨_,_,_,hrun,.d ?_,hR,hle,(Stay.world (Wx.drew w _)).trans (Stay.alloc_fz _ _)⟩
 have hc1:=grownCap_ge w x.size 0 e
 have hc2:=grownCap_le_maxLen w x.size 0 e hx
 generalize grownCap w x.size 0 e=cap at *
 rw [hlen] at hc1 ⊢
 refine RelD.ofFlat (sz:=1) (L:=x.data.toList.map fun b=>Value.int .u8 b.toNat) (fun row hr=>?_) hc1 hc2 (fun j v hj hv=>?_) (fun i j row c hi hj=>?_)
 ·obtain ⟨b,_,rfl⟩:=List.mem_map.1 hr;rfl
 ·rw [Nat.zero_add]
  show (if w.heap.size=w.heap.size then (x.data.map (fun b=>Value.int .u8 b.toNat))[j]? else G.F _ j)=some v
  rw [if_pos rfl,Array.getElem?_map]
  rw [List.getElem?_map,Array.getElem?_toList] at hv
  exact hv
 ·rw [strRows,List.getElem?_map] at hi
  obtain ⟨b,hb,rfl⟩:=Option.map_eq_some_iff.1 hi
  have h0:j=0:=by have:=(List.getElem?_eq_some_iff.1 hj).1;simpa using this
  subst h0
  simp at hj
  subst hj
  refine ⟨.int .u8 b.toNat,?_,.lit _ rfl⟩
  rw [Nat.mul_one,Nat.add_zero,List.getElem?_map,hb];rfl
def vBuildSlM (st:St) (ts:List V) (len sz:Nat) (zero:List V) (parts:List (Nat×VArg)):Option (V×St):=
 match vFill (repl len zero) (parts.map fun (i,x)=>(i*sz,sz,x.ev ts)) with
 |some cs=>if cs.length=len*sz then some (.loc st.blocks.length 0 len sz,{ st with blocks:=st.blocks++[cs] }) else none
 |none=>none
theorem buildSlM_rel (h:Rl w0 G0 st G w) {a:Act} {ts:List V} (ht:RelT G ts a.tmps) {t e:TypeId} {i:TypeInfo} {z:Value} (hu:P.underlying t=some (.slice e)) (hi:P.info? e=some i) (hz:i.zero=some z)
  (hzs:z.cells.size=i.size) (hpos:0<i.size) {zero:List V} (hz0:∀ G,RelC G zero z.cells) {len:Nat} (hlen:len*i.size≤16777216) {ps:Array (Nat×Operand)} {vps:List (Nat×VArg)}
  (hp:CParts1 ps.toList vps) {r:V} {st':St} (hr:vBuildSlM st ts len i.size zero vps=some (r,st')) :
  ∃ rv G' w',(Instr.buildSlice t len (ps.map fun (i,x)=>(i,a.eval x))).run P w=.ok rv w'∧RelV G' r rv∧Rl w0 G0 st' G' w'∧G.le G'∧Stay st G w st' G' w':=by
 unfold vBuildSlM at hr
 split at hr
 case h_2=>cases hr
 rename_i cs hcs
 obtain ⟨vps',hvp,hvm⟩:=hp.parts (sz:=i.size) (ts:=ts)
 rw [← hvm] at hcs
 have hrz:=replZero_rel (hz0 G) (by rw [hzs];exact hpos) len
 rw [hzs] at hrz
 obtain ⟨cells,hf,hrel⟩:=fill_rel ht hvp hrz hcs
 have hrun:(Instr.buildSlice t len (ps.map fun (i,x)=>(i,a.eval x))).run P w=.ok (.slice (some ⟨w.heap.size,0,none⟩) len len) (w.alloc (.cells cells e)):=by
  have h24:¬(2 ^ 24<len*i.size):=by omega
  have hf':Instr.fill (fun k=>some (k*i.size,i.size)) (Array.map (fun x=>z.cells[x%i.size]!) (Array.range (len*i.size))) (List.map (fun x=>(x.fst,a.eval x.snd)) ps.toList)=some cells:=hf
  rcases Nat.eq_zero_or_pos len with h0|h0
  ·subst h0
   have:(Array.map (fun x=>z.cells[x%i.size]!) (Array.range (0*i.size)))=#[]:=by simp
   rw [this] at hf'
   have h0':(Array.map (fun _:Nat=>(default:Value)) (Array.range 0))=#[]:=by simp
   simp only [Instr.buildSlice,Sem.run_bind,run_underlying hu,Result.andThen_ok,run_sizeOf' hi,Nat.zero_mul]
   simp [h0',hf',newRow]
  ·have hne:len*i.size≠0:=Nat.mul_ne_zero (by omega) (by omega)
   simp [Instr.buildSlice,run_underlying hu,run_sizeOf' hi,h24,run_zero' hi hz,hzs,hf',newRow]
   intro h;exact absurd h hne
 have hml:len≤maxLen:=by
  have:len*1≤len*i.size:=Nat.mul_le_mul_left _ hpos
  simp only [maxLen];omega
 split at hr
 case isFalse=>cases hr
 rename_i hl
 simp only [Option.some.injEq,Prod.mk.injEq] at hr
 obtain ⟨rfl,rfl⟩:=hr
 have hcl:=hrel.1
 obtain ⟨hR,hle⟩:=h.alloc_blk e hrel
 refine ⟨_,_,_,hrun,.loc (by simp [Gh.blk]) (Nat.le_refl _) hml ?_,hR,hle,Stay.alloc_blk _ _ _ _⟩
 show 0+len*i.size≤(if st.blocks.length=st.blocks.length then _ else _)
 rw [if_pos rfl];omega
theorem makeSlice_eq {t e:TypeId} {i:TypeInfo} {z:Value} (hu:P.underlying t=some (.slice e)) (hi:P.info? e=some i) (hz:i.zero=some z) (hzs:z.cells.size=i.size) (hpos:0<i.size) (hby:i.bytes≤32768)
  {n:Nat} (hn:n≤1024) (hlen:n*i.size≤16777216) (w:World):(Instr.makeSlice t (.int .i64 (n:Int)) (.int .i64 (n:Int))).run P w=(Instr.buildSlice t n #[]).run P w:=by
 have hw:IntKind.i64.wrap (n:Int)=(n:Int):=IntWalk.i64_in _ ⟨by omega,by omega⟩
 have hb:i.bytes*n≤32768*1024:=Nat.mul_le_mul hby hn
 have h48:¬((i.bytes:Int)*(n:Int)>2 ^ 48):=by
  have:((i.bytes*n:Nat):Int)≤((32768*1024:Nat):Int):=by exact_mod_cast hb
  rw [Int.natCast_mul] at this
  omega
 have hroom:¬(n*i.bytes>roomBytes):=by
  rw [Nat.mul_comm];simp only [roomBytes];omega
 have h24:¬(2 ^ 24<n*i.size):=by omega
 have hn0:¬((n:Int)<0):=by omega
 have h48':¬((2:Int) ^ 48<(i.bytes:Int)*(n:Int)):=h48
 have hroom':¬(roomBytes<n*i.bytes):=hroom
 have h48'':¬((281474976710656:Int)<(i.bytes:Int)*(n:Int)):=by
  have:(281474976710656:Int)=2 ^ 48:=by decide
  rw [this];exact h48'
 by_cases h0:n*i.size=0
 ·simp [Instr.makeSlice,Instr.buildSlice,run_underlying hu,run_sizeOf' hi,asInt,asIntOf,typeInfo,hi,hw,h48'',hroom',askRoom,hn0,Instr.fill,h0]
 ·simp [Instr.makeSlice,Instr.buildSlice,run_underlying hu,run_sizeOf' hi,asInt,asIntOf,typeInfo,hi,hw,h48'',hroom',askRoom,h24,hn0,Instr.fill,h0,run_zero' hi hz]
def vMkSl (zero:List V) (len cap:V):Option V:=match len.int,cap.int with
 |some (.i64,.ofNat n),some (.i64,.ofNat m)=>if n=m∧n≤1024∧n*zero.length≤16777216 then vBuildSl [] n zero.length zero [] else none
 |_,_=>none
theorem box_rel (h:Rl w0 G0 st G w) {e:TypeId} {cs:List V} {v:Value} (hc:RelC G cs v.cells) :
  ∃ G',(newVar e v).run P w=.ok ⟨w.heap.size,0,none⟩ (w.alloc (.cells v.cells e))∧Rl w0 G0 { st with blocks:=st.blocks++[cs] } G' (w.alloc (.cells v.cells e))∧G.le G' ∧
   RelV G' (.ptr st.blocks.length 0) (.pointer (some ⟨w.heap.size,0,none⟩))∧Stay st G w { st with blocks:=st.blocks++[cs] } G' (w.alloc (.cells v.cells e)):=by
 obtain ⟨hR,hle⟩:=h.alloc_blk e hc
 exact ⟨_,by simp [newVar,newRow],hR,hle,.ptr (by simp [Gh.blk]),Stay.alloc_blk _ _ _ _⟩
def rowCells (ms:List (List D)):List V:=ms.flatten.map .d
theorem flatten_len {sz:Nat}:∀ {ms:List (List D)},(∀ row∈ms,row.length=sz)→ms.flatten.length=ms.length*sz
 |[],_=>by simp
 |r::ms,h=>by
  rw [List.flatten_cons,List.length_append,h r List.mem_cons_self,flatten_len fun r hr=>h r (List.mem_cons_of_mem _ hr),List.length_cons,Nat.succ_mul,Nat.add_comm]
theorem flatten_get {sz:Nat}:∀ {ms:List (List D)},(∀ row∈ms,row.length=sz)→∀ (k:Nat) c,ms.flatten[k]?=some c→∃ (i j:Nat) (row:List D),k=i*sz+j∧ms[i]?=some row∧row[j]?=some c
 |[],_,k,c,hk=>by simp at hk
 |r::ms,h,k,c,hk=>by
  have hr:=h r List.mem_cons_self
  rw [List.flatten_cons,List.getElem?_append] at hk
  split at hk
  ·exact ⟨0,k,r,by simp,rfl,hk⟩
  ·rename_i hge
   obtain ⟨i,j,row,h1,h2,h3⟩:=flatten_get (fun r hr=>h r (List.mem_cons_of_mem _ hr)) _ _ hk
   exact ⟨i+1,j,row,by rw [Nat.succ_mul];omega,by simpa using h2,h3⟩
def vAppM (st:St) (sz:Nat) (x:V) (ms:List (List D)):Option (V×St):=
 if ms.length≤1073741824∧ms.all (fun r=>r.length==sz) then
  match x with
  |.nil=>match ms with
   |[]=>some (.sl sz [] .full,st)
   |_=>some (.loc st.blocks.length 0 ms.length sz,{ st with blocks:=st.blocks++[rowCells ms] })
  |.sl s [] .full=>if s=sz then match ms with
   |[]=>some (.sl s [] .full,st)
   |_=>some (.loc st.blocks.length 0 ms.length sz,{ st with blocks:=st.blocks++[rowCells ms] }) else none
  |.loc id off len s=>match st.blocks[id]? with
   |some cs=>if s=sz∧off=0∧0<len∧len≤1073741824∧st.base≤id∧cs.length=len*sz then match ms with
    |[]=>some (.loc id off len s,st)
    |_=>some (.loc st.blocks.length 0 (len+ms.length) sz,{ st with blocks:=st.blocks.set id []++[cs++rowCells ms] }) else none
   |none=>none
  |_=>none
 else none
theorem rowCells_rel {F:Fz} {ms:List (List D)} {sz:Nat} {news:List Value} (hms:∀ row∈ms,row.length=sz) (hns:∀ v∈news,VM.sc v=true)
  (hnr:∀ (i j:Nat) row c,ms[i]?=some row→row[j]?=some c→∃ v,news[i*sz+j]?=some v∧RelD F c v) {G:Gh} (hF:G.F=F) (k:Nat) (c:V) (x:Value) (h1:(rowCells ms)[k]?=some c) (h2:news[k]?=some x):VM.sc x=true∧RelV G c x:=by
 subst hF
 unfold rowCells at h1
 rw [List.getElem?_map] at h1
 obtain ⟨d,hd,rfl⟩:=Option.map_eq_some_iff.1 h1
 obtain ⟨i,j,row,rfl,hi,hj⟩:=flatten_get hms k d hd
 obtain ⟨v,hv,hr⟩:=hnr i j row d hi hj
 rw [h2] at hv;simp only [Option.some.injEq] at hv;subst hv
 exact ⟨hns _ (List.mem_of_getElem? h2),.d hr⟩
theorem rowCells_len {ms:List (List D)} {sz:Nat} (hms:∀ row∈ms,row.length=sz):(rowCells ms).length=ms.length*sz:=by
 unfold rowCells;rw [List.length_map,flatten_len hms]
theorem appM_new (h:Rl w0 G0 st G w) {sz:Nat} {cs:List V} {olds news:List Value} {rest:Array Value} {e:TypeId} {cap len:Nat} (hcap:len≤cap) (hmax:cap≤maxLen) (hsz:(olds.toArray++news.toArray++rest).size=cap*sz)
  (hcs:cs.length=(olds++news).length) (hr:∀ (j:Nat) c x,cs[j]?=some c→(olds++news)[j]?=some x→VM.sc x=true∧RelV G c x) :
  ∃ G',RelV G' (.loc st.blocks.length 0 len sz) (.slice (some ⟨w.heap.size,0,none⟩) len cap)∧Rl w0 G0 { st with blocks:=st.blocks++[cs] } G' (w.drew.alloc (.cells (olds.toArray++news.toArray++rest) e))∧G.le G' ∧
   Stay st G w { st with blocks:=st.blocks++[cs] } G' (w.drew.alloc (.cells (olds.toArray++news.toArray++rest) e)):=by
 have hdr:=h.world (Wx.drew w _)
 obtain ⟨hR,hle⟩:=hdr.alloc_blkP (cs:=cs) (cur:=olds.toArray++news.toArray++rest) e (by rw [hcs];simp) (fun j c x h1 h2=>by
  refine hr j c x h1 ?_
  have hj:j<(olds++news).length:=by rw [← hcs];exact (List.getElem?_eq_some_iff.1 h1).1
  rw [Array.getElem?_append_left (by simpa using hj)] at h2
  simpa using h2)
 refine ⟨_,.loc (by simp [Gh.blk]) hcap hmax ?_,hR,hle,(Stay.world (Wx.drew w _)).trans (Stay.alloc_blk _ _ _ _)⟩
 show 0+cap*sz≤(if st.blocks.length=st.blocks.length then _ else _)
 rw [if_pos rfl,hsz];omega
theorem appM_rel (h:Rl w0 G0 st G w) {x r:V} {xv yv:Value} (hx:RelV G x xv) {t e ty:TypeId} {i:TypeInfo} {z:Value} (hu:P.underlying t=some (.slice e)) (hi:P.info? e=some i) (hz:i.zero=some z)
  (hzs:z.cells.size=i.size) (hpos:0<i.size) (hby:i.bytes≤32768) {ms:List (List D)} (hy:RelD G.F (.sl ms) yv) {st':St} (ha:vAppM st i.size x ms=some (r,st')) :
  ∃ rv G' w',(Builtin.append_ #[t,t] ty #[xv,yv]).run P w=.ok rv w'∧RelV G' r rv∧Rl w0 G0 st' G' w'∧G.le G'∧Stay st G w st' G' w':=by
 unfold vAppM at ha
 split at ha
 case isFalse=>cases ha
 rename_i hcond
 obtain ⟨hbound,hall⟩:=hcond
 have hms:∀ row∈ms,row.length=i.size:=by simpa using hall
 obtain ⟨a',m,c',rfl⟩:=hy.form
 have hl2:=hy.len
 obtain ⟨news,hnl,hns,hnc,hnr⟩:=hy.flat hms
 have hml:m=ms.length:=hl2.1
 have hb2:∀ len,len≤1073741824→(len+m)*i.bytes≤281474976710656∧len+m≤maxLen∧((len+m:Nat):Int)≤9223372036854775807:=fun len hlen=>by
  refine ⟨?_,by simp only [maxLen];omega,by omega⟩
  calc (len+m)*i.bytes≤2147483648*32768:=Nat.mul_le_mul (by omega) hby
   _≤281474976710656:=by decide
 have hb3:∀ len,len≤1073741824→(len+m)*i.bytes≤140737488355328:=fun len hlen=>by
  calc (len+m)*i.bytes≤2147483648*32768:=Nat.mul_le_mul (by omega) hby
   _≤140737488355328:=by decide
 have hone:∀ u∈news,u.oneCell'=true:=fun u hu=>sc_one (hns u hu)
 have hsrc:ms≠[]→∃ b' o',a'=some ⟨b',o',none⟩∧∀ j v,news[j]?=some v→w.cell? ((⟨b',o',none⟩:Addr).add j)=some v:=fun hne=>by
  obtain ⟨b',o',ha'⟩:∃ b' o',a'=some ⟨b',o',none⟩:=by
   cases hy with
   |sl _ _ _ _ _ _ _ _ _ _ hb _=>obtain ⟨b,o,h,_⟩:=hb hne;exact ⟨b,o,h⟩
  subst ha'
  refine ⟨b',o',rfl,fun j v hj=>?_⟩
  obtain ⟨b,o,he,hF⟩:=hnc j v hj
  simp at he;obtain ⟨rfl,rfl⟩:=he
  rw [add_mk];exact h.fz _ _ _ hF
 have fresh:∀ (a:Option Addr) (len cap:Nat) (olds:List Value) (cs:List V) (st1:St) (G1:Gh),ms≠[]→len≤1073741824→(a=none→len=0∧cap=0)→cap<len+m→olds.length=len*i.size →
   (∀ ad,a=some ad→∀ j v,olds[j]?=some v→w.cell? (ad.add j)=some v)→Rl w0 G0 st1 G1 w→cs.length=olds.length→(∀ (j:Nat) c x,cs[j]?=some c→olds[j]?=some x→VM.sc x=true∧RelV G1 c x)→G1.F=G.F →
   ∃ rv G' w',(Builtin.append_ #[t,t] ty #[.slice a len cap,.slice a' m c']).run P w=.ok rv w'∧RelV G' (.loc st1.blocks.length 0 (len+m) i.size) rv∧Rl w0 G0 { st1 with blocks:=st1.blocks++[cs++rowCells ms] } G' w'∧G1.le G' ∧
    Stay st1 G1 w { st1 with blocks:=st1.blocks++[cs++rowCells ms] } G' w':=by
  intro a len cap olds cs st1 G1 hne hlen hnone hgrow hol hoc hR1 hcl hcr hF1
  obtain ⟨b',o',rfl,hnews⟩:=hsrc hne
  obtain ⟨hb4,hb5,hb6⟩:=hb2 len hlen
  have hm0:0<m:=by rw [hml];cases ms with|nil=>exact absurd rfl hne|cons _ _=>simp
  have hsize:∀ c2,len+m≤c2→(olds.toArray++news.toArray++Builtin.zeroCells z.cells (c2-(len+m))).size=c2*i.size:=fun c2 hc2=>by
   simp only [Array.size_append,List.size_toArray,size_zeroCells,hzs,hol,hnl,← Nat.add_mul]
   congr 1;omega
  obtain ⟨rest,cap2,hcap2,hmax2,hsz2,hrun⟩:∃ (rest:Array Value) (cap2:Nat),len+m≤cap2∧cap2≤maxLen∧(olds.toArray++news.toArray++rest).size=cap2*i.size ∧
    (Builtin.append_ #[t,t] ty #[.slice a len cap,.slice (some ⟨b',o',none⟩) m c']).run P w =
     .ok (.slice (some ⟨w.heap.size,0,none⟩) (len+m) cap2) (w.drew.alloc (.cells (olds.toArray++news.toArray++rest) e)):=by
   cases a with
   |none=>
    obtain ⟨rfl,rfl⟩:=hnone rfl
    have ho:olds=[]:=List.eq_nil_of_length_eq_zero (by rw [hol];simp)
    subst ho
    have hge:=grownCap_ge w (0+m) 0 e
    refine ⟨_,grownCap w (0+m) 0 e,hge,grownCap_le_maxLen w _ _ e hb5,hsize _ hge,?_⟩
    have hr:=run_append_nil (P:=P) w t ty e i z hu hi hz ⟨b',o',none⟩ m c' news hnl hnews hm0 (by omega) (by have:=hb4;simp only [Nat.zero_add] at this;exact this)
    simpa using hr
   |some ad=>
    have hge:=grownCap_ge w (len+m) cap e
    refine ⟨_,grownCap w (len+m) cap e,hge,grownCap_le_maxLen w _ _ e hb5,hsize _ hge,?_⟩
    exact run_append_grow (P:=P) w t ty e i z hu hi hz ad len cap olds hol (hoc ad rfl) ⟨b',o',none⟩ m c' news hnl hnews hgrow hb6 (growslice_fits (by omega) (hb3 len hlen))
  obtain ⟨G',h1,h2,h3,h4⟩:=appM_new (sz:=i.size) hR1 (cs:=cs++rowCells ms) (olds:=olds) (news:=news) (rest:=rest) (e:=e) hcap2 hmax2 hsz2
   (by rw [List.length_append,List.length_append,rowCells_len hms,hcl,hnl,hml]) (fun j c x hc hx=>by
    rw [List.getElem?_append] at hc hx
    rw [hcl] at hc
    split at hc
    ·rename_i hlt;rw [if_pos hlt] at hx
     exact hcr j c x hc hx
    ·rename_i hlt;rw [if_neg hlt] at hx
     exact rowCells_rel hms hns hnr hF1 _ c x hc hx)
  exact ⟨_,G',_,hrun,h1,h2,h3,h4⟩
 have hz0:ms=[]→m=0:=fun hn=>by rw [hml,hn];rfl
 cases hx with
 |nil=>
  cases ms with
  |nil=>
   simp only [Option.some.injEq,Prod.mk.injEq] at ha
   obtain ⟨rfl,rfl⟩:=ha
   obtain rfl:=hz0 rfl
   exact ⟨_,G,w,run_append_zero t ty e i hu hi none 0 0 (Nat.le_refl _) a' c',.full (RelD.nil _) (by simp),h,G.le_refl,Stay.refl _ _ _⟩
  |cons r0 rs=>
   simp only [Option.some.injEq,Prod.mk.injEq] at ha
   obtain ⟨rfl,rfl⟩:=ha
   obtain ⟨rv,G',w',h1,h2,h3,h4,h5⟩:=fresh none 0 0 [] [] st G (by simp) (by omega) (fun _=>⟨rfl,rfl⟩) (by rw [hml];simp) (by simp) (fun ad h=>by cases h) h rfl (fun j c x hc=>by simp at hc) rfl
   rw [Nat.zero_add,hml] at h2
   exact ⟨rv,G',w',h1,h2,h3,h4,h5⟩
 |@full s es a len hr hrow=>
  cases es with
  |cons _ _=>simp at ha
  |nil=>
   simp only at ha
   split at ha
   case isFalse=>cases ha
   rename_i hs
   subst hs
   have hlen0:len=0:=by have:=hr.len;simpa using this.1
   subst hlen0
   cases ms with
   |nil=>
    simp only [Option.some.injEq,Prod.mk.injEq] at ha
    obtain ⟨rfl,rfl⟩:=ha
    obtain rfl:=hz0 rfl
    exact ⟨_,G,w,run_append_zero t ty e i hu hi a 0 0 (Nat.le_refl _) a' c',.full hr hrow,h,G.le_refl,Stay.refl _ _ _⟩
   |cons r0 rs=>
    simp only [Option.some.injEq,Prod.mk.injEq] at ha
    obtain ⟨rfl,rfl⟩:=ha
    obtain ⟨rv,G',w',h1,h2,h3,h4,h5⟩:=fresh a 0 0 [] [] st G (by simp) (by omega) (fun _=>⟨rfl,rfl⟩) (by rw [hml];simp) (by simp) (fun ad _ j v hj=>by simp at hj) h rfl (fun j c x hc=>by simp at hc) rfl
    rw [Nat.zero_add,hml] at h2
    exact ⟨rv,G',w',h1,h2,h3,h4,h5⟩
 |@loc id off len s b cap hib hc hm hzz=>
  simp only at ha
  split at ha
  case h_2=>cases ha
  rename_i cs hcs
  split at ha
  case isFalse=>cases ha
  rename_i hcnd
  obtain ⟨rfl,rfl,hl0,hl1,hbase,hcsl⟩:=hcnd
  cases ms with
  |nil=>
   simp only [Option.some.injEq,Prod.mk.injEq] at ha
   obtain ⟨rfl,rfl⟩:=ha
   obtain rfl:=hz0 rfl
   exact ⟨_,G,w,run_append_zero t ty e i hu hi _ len cap hc a' c',.loc hib hc hm hzz,h,G.le_refl,Stay.refl _ _ _⟩
  |cons r0 rs=>
   simp only [Option.some.injEq,Prod.mk.injEq] at ha
   obtain ⟨rfl,rfl⟩:=ha
   have hdd:G.dd id=false:=by
    cases hdd:G.dd id with
    |false=>rfl
    |true=>
     have:=h.ddb id hdd
     rw [hcs] at this;simp only [Option.some.injEq] at this;subst this
     have:=Nat.mul_pos hl0 hpos
     simp at hcsl;omega
   obtain ⟨b2,cur,eb,hib2,hh,hlcs,hrcs⟩:=h.blkG id cs hcs
   obtain rfl:b=b2:=by rw [hib] at hib2;simpa using hib2
   obtain ⟨cur2,e2,hh2,hsz2⟩:=h.zok id b hib
   rw [hh] at hh2;simp only [Option.some.injEq,Obj.cells.injEq] at hh2
   obtain ⟨rfl,rfl,_⟩:=hh2
   have hrcs2:=h.blk id cs hcs
   by_cases hroom:len+m≤cap
   ·-- in place
    obtain ⟨b',o',rfl,hnews⟩:=hsrc (by simp)
    have hfit:len*i.size+news.length≤cur.size:=by
     rw [hnl,← Nat.add_mul,hsz2]
     have:=Nat.mul_le_mul_right i.size hroom
     omega
    have hrun:=run_append_room' (P:=P) t ty e eb i hu hi b len cap 0 cur hh ⟨b',o',none⟩ m c' news hnl hnews hone hroom (by rw [Nat.add_zero];exact hfit)
    simp only [Nat.zero_mul,Nat.add_zero] at hrun
    rw [if_neg (by omega)] at hrcs2
    obtain ⟨b3,cur3,e3,hi3,hh3,hl3,hr3⟩:=hrcs2
    obtain rfl:b=b3:=by rw [hib] at hi3;simpa using hi3
    rw [hh] at hh3;simp only [Option.some.injEq,Obj.cells.injEq] at hh3
    obtain ⟨rfl,rfl,_⟩:=hh3
    have hS:=h.setBlk (cs:=cs++rowCells (r0::rs)) (cur':=(cur.toList.take (len*i.size)++news++cur.toList.drop (len*i.size+news.length)).toArray) hib hdd (by simp only [List.size_toArray,List.length_append,List.length_take,List.length_drop,Array.length_toList];omega) hh
     (by rw [List.length_append,rowCells_len hms,hcsl,← hml,← hnl];simp only [List.size_toArray,List.length_append,List.length_take,List.length_drop,Array.length_toList];omega) (fun j c x hc hx=>by
      rw [if_neg (by omega)]
      simp only [List.getElem?_toArray] at hx
      rw [List.getElem?_append] at hc
      have htl:(cur.toList.take (len*i.size)).length=len*i.size:=by simp;omega
      split at hc
      ·rename_i hlt
       rw [List.append_assoc,List.getElem?_append_left (by rw [htl];omega),List.getElem?_take,if_pos (by omega)] at hx
       exact hr3 j c x hc (by simpa using hx)
      ·rename_i hlt
       have hlt2:j-cs.length<news.length:=by
        have:=(List.getElem?_eq_some_iff.1 hc).1
        rw [rowCells_len hms] at this;rw [hnl,hml];exact this
       rw [List.append_assoc,List.getElem?_append_right (by rw [htl];omega),htl,List.getElem?_append_left (by omega),← hcsl] at hx
       exact rowCells_rel hms hns hnr rfl _ c x hc hx)
    have hgetid:(st.blocks.set id (cs++rowCells (r0::rs)))[id]?=some (cs++rowCells (r0::rs)):=by
     rw [List.getElem?_set_self (h.lt id b hib)]
    obtain ⟨hR,hle⟩:=hS.ren (id:=id) (b:=b) (cs:=cs++rowCells (r0::rs)) hib hdd hbase hgetid
    simp only [List.length_set,List.set_set] at hR hle
    refine ⟨_,_,_,hrun,by rw [← hml];exact RelV.loc (b:=b) (cap:=cap) (by show (if _=_ then _ else _)=_;rw [if_pos rfl]) hroom hm (by show 0+cap*i.size≤(if _=_ then _ else _);rw [if_pos rfl];exact hzz),hR,hle,?_⟩
    ·intro c o hL
     have h1:=(Stay.setRow (st:=st) (w:=w) hib (cur.toList.take (len*i.size)++news++cur.toList.drop (len*i.size+news.length)).toArray (st.blocks.set id []++[cs++rowCells (r0::rs)])) c o hL
     exact ⟨h1.heap,fun k hk=>by
      have hk':(if k=st.blocks.length then some b else G.ι k)=some c:=hk
      split at hk'
      ·simp only [Option.some.injEq] at hk';subst hk';exact hL.ι id hib
      ·exact hL.ι k hk',h1.F,h1.tok⟩
   ·-- a new block
    have hK:=h.kill (id:=id) hib
    obtain ⟨rv,G',w',h1,h2,h3,h4,h5⟩:=fresh (some ⟨b,0,none⟩) len cap (cur.toList.take (len*i.size)) cs _ _ (by simp) hl1 (fun h=>by cases h) (by omega)
     (by simp;rw [hcsl] at hlcs;omega) (fun ad had j v hj=>by
      simp only [Option.some.injEq] at had;subst had
      rw [add_mk,Nat.zero_add]
      rw [List.getElem?_take] at hj
      split at hj
      ·simpa [World.cell?,hh] using hj
      ·cases hj) hK (by simp;rw [hcsl] at hlcs ⊢;omega) (fun j c x hc hx=>by
      rw [List.getElem?_take] at hx
      split at hx
      ·have:=hrcs j c x hc (by simpa using hx)
       exact ⟨this.1,this.2.mono (G.le_kill id)⟩
      ·cases hx) rfl
    simp only [List.length_set] at h2
    rw [hml] at h2
    refine ⟨rv,G',w',h1,h2,h3,Gh.le_trans (G.le_kill id) h4,fun c o hL=>h5 c o ⟨hL.heap,hL.ι,hL.F,hL.tok⟩⟩
 |any v=>simp at ha
 |d hd=>simp at ha
 |own hd _ _ _=>simp at ha
 |ptr _=>simp at ha
 |ep _ _ _=>simp at ha
 |epv _ _ _=>simp at ha
 |psl _ _ _ _ _ _ _=>simp at ha
 |agg _ _ _=>simp at ha
 |tup _ _=>simp at ha
 |fn _ _=>simp at ha
theorem vAppM_base {st st':St} {sz:Nat} {x r:V} {ms:List (List D)} (h:vAppM st sz x ms=some (r,st')):st'.base=st.base∧st'.dep=st.dep∧st'.tmps=st.tmps∧st.blocks.length≤st'.blocks.length:=by
 unfold vAppM at h
 split at h
 case isFalse=>cases h
 split at h
 ·split at h
  ·simp only [Option.some.injEq,Prod.mk.injEq] at h;obtain ⟨_,rfl⟩:=h;exact ⟨rfl,rfl,rfl,Nat.le_refl _⟩
  ·simp only [Option.some.injEq,Prod.mk.injEq] at h;obtain ⟨_,rfl⟩:=h;exact ⟨rfl,rfl,rfl,by simp⟩
 ·split at h
  ·split at h
   ·simp only [Option.some.injEq,Prod.mk.injEq] at h;obtain ⟨_,rfl⟩:=h;exact ⟨rfl,rfl,rfl,Nat.le_refl _⟩
   ·simp only [Option.some.injEq,Prod.mk.injEq] at h;obtain ⟨_,rfl⟩:=h;exact ⟨rfl,rfl,rfl,by simp⟩
  ·cases h
 ·split at h
  ·split at h
   ·split at h
    ·simp only [Option.some.injEq,Prod.mk.injEq] at h;obtain ⟨_,rfl⟩:=h;exact ⟨rfl,rfl,rfl,Nat.le_refl _⟩
    ·simp only [Option.some.injEq,Prod.mk.injEq] at h;obtain ⟨_,rfl⟩:=h;exact ⟨rfl,rfl,rfl,by simp⟩
   ·cases h
  ·cases h
 ·cases h
theorem vAppM_tmps {st st':St} {us:List V} {sz:Nat} {x r:V} {ms:List (List D)} (h:vAppM st sz x ms=some (r,st')):vAppM { st with tmps:=us } sz x ms=some (r,{ st' with tmps:=us }):=by
 unfold vAppM at h ⊢
 split at h
 case isFalse=>cases h
 rename_i hc
 rw [if_pos hc]
 split at h
 ·split at h<;>(simp only [Option.some.injEq,Prod.mk.injEq] at h;obtain ⟨rfl,rfl⟩:=h;rfl)
 ·split at h
  ·rename_i hs
   simp only [if_pos hs]
   split at h<;>(simp only [Option.some.injEq,Prod.mk.injEq] at h;obtain ⟨rfl,rfl⟩:=h;rfl)
  ·cases h
 ·split at h
  ·rename_i cs hcs
   simp only [hcs]
   split at h
   ·rename_i hs
    rw [if_pos hs]
    split at h<;>(simp only [Option.some.injEq,Prod.mk.injEq] at h;obtain ⟨rfl,rfl⟩:=h;rfl)
   ·cases h
  ·cases h
 ·cases h
end
def frzLoc:Option (List V)→Nat→Nat→Nat→V
 |some cs,off,len,sz=>if off+len*sz≤cs.length then (match toDs ((cs.drop off).take (len*sz)) with|some ds=>.d (.sl (chunk sz len ds))|none=>.any) else .any
 |none,_,_,_=>.any
mutual
def V.frz (bl:List (List V)) (n:Nat):V→V
 |.loc id off len sz=>if id<n then .loc id off len sz else frzLoc bl[id]? off len sz
 |.agg vs=>.agg (V.frzL bl n vs)
 |.tup vs=>.tup (V.frzL bl n vs)
 |v=>v
def V.frzL (bl:List (List V)) (n:Nat):List V→List V
 |[]=>[]
 |v::vs=>v.frz bl n::V.frzL bl n vs
end
theorem V.frzL_eq (bl:List (List V)) (n:Nat):∀ vs:List V,V.frzL bl n vs=vs.map (V.frz bl n)
 |[]=>rfl
 |v::vs=>by rw [V.frzL,V.frzL_eq bl n vs];rfl
mutual
def V.locs (n:Nat):V→List Nat
 |.loc id _ _ _=>if id<n then [] else [id]
 |.agg vs=>V.locsL n vs
 |.tup vs=>V.locsL n vs
 |_=>[]
def V.locsL (n:Nat):List V→List Nat
 |[]=>[]
 |v::vs=>v.locs n++V.locsL n vs
end
theorem V.locsL_mem {n:Nat}:∀ {vs:List V} {j:Nat} {c:V} {id:Nat},vs[j]?=some c→id∈c.locs n→id∈V.locsL n vs
 |v::vs,0,c,id,h,hid=>by
  simp at h;subst h
  simp only [V.locsL,List.mem_append];exact .inl hid
 |v::vs,j+1,c,id,h,hid=>by
  simp only [V.locsL,List.mem_append];exact .inr (V.locsL_mem (j:=j) (by simpa using h) hid)
 |[],j,c,id,h,_=>by simp at h
theorem V.locsL_get {n:Nat}:∀ {vs:List V} {id:Nat},id∈V.locsL n vs→∃ (j:Nat) (c:V),vs[j]?=some c∧id∈c.locs n
 |v::vs,id,h=>by
  simp only [V.locsL,List.mem_append] at h
  rcases h with h|h
  ·exact ⟨0,v,rfl,h⟩
  ·obtain ⟨j,c,h1,h2⟩:=V.locsL_get h
   exact ⟨j+1,c,by simpa using h1,h2⟩
 |[],id,h=>by simp [V.locsL] at h
open Classical in
noncomputable def Gh.frz (G:Gh) (w:World) (S:Nat→Prop):Gh:=
 {G with F:=fun b o=>match G.F b o with
   |some u=>some u
   |none=>if ∃ id,S id∧G.dd id=false∧G.ι id=some b then w.cell? ⟨b,o,none⟩ else none }
theorem Gh.le_frz (G:Gh) (w:World) (S:Nat→Prop):G.le (G.frz w S):=
 ⟨fun b o u h=>by simp only [Gh.frz,h],fun _ _ h=>h,fun _ _ _ _ h=>h,fun _ _ h=>h,fun _ _ _=>rfl⟩
theorem Gh.frz_ok {G:Gh} {w:World} {S:Nat→Prop} (h:FzOk G.F w):FzOk (G.frz w S).F w:=by
 intro b o u hu
 simp only [Gh.frz] at hu
 split at hu
 ·rename_i u' hu'
  simp only [Option.some.injEq] at hu;subst hu
  exact h b o _ hu'
 ·split at hu
  ·exact hu
  ·cases hu
theorem Gh.frz_cell {G:Gh} {w:World} {S:Nat→Prop} {id b o:Nat} {u:Value} (h:FzOk G.F w) (hn:S id) (hd:G.dd id=false) (hi:G.ι id=some b) (hu:w.cell? ⟨b,o,none⟩=some u):(G.frz w S).F b o=some u:=by
 simp only [Gh.frz]
 cases hf:G.F b o with
 |some u'=>simp only;rw [h b o u' hf] at hu;exact hu
 |none=>simp only;rw [if_pos ⟨id,hn,hd,hi⟩];exact hu
theorem frz_rel {G:Gh} {w:World} {n:Nat} {S:Nat→Prop} {bl:List (List V)} (hf:FzOk G.F w) (hb:∀ id cs,bl[id]?=some cs→Blk G w id cs) (hdd:∀ id cs,bl[id]?=some cs→cs≠[]→G.dd id=false) {v:V} {x:Value} (h:RelV G v x) (hS:∀ id∈v.locs n,S id) :
  RelV (G.frz w S) (v.frz bl n) x:=by
 induction h with
 |@loc id off len sz b cap hi hc hm hz=>
  simp only [V.frz]
  split
  ·exact .loc hi hc hm hz
  ·rename_i hn
   cases hcs:bl[id]? with
   |none=>exact .any _
   |some cs=>
    simp only [frzLoc]
    split
    case isFalse=>exact .any _
    rename_i hle
    split
    case h_2=>exact .any _
    rename_i ds hds
    obtain ⟨b2,cur,e,hi2,hh,hl,hr⟩:=hb id cs hcs
    obtain rfl:b=b2:=by rw [hi] at hi2;simpa using hi2
    obtain ⟨h1,h2⟩:=toDs_get hds
    have hdl:ds.length=len*sz:=by rw [h1];simp;omega
    by_cases hne:cs=[]
    ·subst hne
     have h0:len*sz=0:=by simp at hle;omega
     refine .d (.sl _ _ len cap sz (fun _ _=>default) (chunk_length sz len ds).symm hc hm (fun i row hrow=>(chunk_get sz len ds hdl i row hrow).1) (fun _=>⟨b,off,rfl,fun i j hi' hj'=>?_⟩) (fun i j row c hrow hj=>?_))
     ·rw [chunk_length] at hi'
      have:len*sz≠0:=by
       have:=Nat.mul_pos (show 0<len by omega) (show 0<sz by omega);omega
      omega
     ·have:=(chunk_get sz len ds hdl i row hrow).2 j c hj
      have hds0:ds=[]:=List.eq_nil_of_length_eq_zero (by rw [hdl];exact h0)
      subst hds0;simp at this
    ·have hd:=hdd id cs hcs hne
     refine .d (.sl _ _ len cap sz (fun i j=>(cur[off+(i*sz+j)]?).getD undef) (chunk_length sz len ds).symm hc hm (fun i row hrow=>(chunk_get sz len ds hdl i row hrow).1) (fun _=>⟨b,off,rfl,fun i j hi' hj'=>?_⟩) (fun i j row c hrow hj=>?_))
     ·rw [chunk_length] at hi'
      have hlt:off+(i*sz+j)<cur.size:=by
       have:(i+1)*sz≤len*sz:=Nat.mul_le_mul_right _ hi'
       rw [Nat.add_mul] at this;omega
      refine Gh.frz_cell hf (hS id (by simp [V.locs,hn])) hd hi ?_
      rw [Array.getElem?_eq_getElem hlt]
      simp [World.cell?,hh]
     ·obtain ⟨v0,hv0,hvd⟩:=h2 _ c ((chunk_get sz len ds hdl i row hrow).2 j c hj)
      rw [List.getElem?_take] at hv0
      split at hv0
      case isFalse=>cases hv0
      rename_i hlt2
      rw [List.getElem?_drop] at hv0
      have hlt:off+(i*sz+j)<cur.size:=by have:=(List.getElem?_eq_some_iff.1 hv0).1;omega
      rw [Array.getElem?_eq_getElem hlt]
      exact (toD_rel (hr _ v0 _ hv0 (Array.getElem?_eq_getElem hlt)).2 hvd).mono (G.le_frz w S).F
 |agg hl hs hr ih=>
  simp only [V.frz,V.frzL_eq]
  refine .agg (by simpa using hl) hs (fun j c x hj hx=>?_)
  rw [List.getElem?_map] at hj
  obtain ⟨c0,h0,rfl⟩:=Option.map_eq_some_iff.1 hj
  exact ih j c0 x h0 hx (fun id hid=>hS id (by simp only [V.locs];exact V.locsL_mem h0 hid))
 |tup hl hr ih=>
  simp only [V.frz,V.frzL_eq]
  refine .tup (by simpa using hl) (fun j c x hj hx=>?_)
  rw [List.getElem?_map] at hj
  obtain ⟨c0,h0,rfl⟩:=Option.map_eq_some_iff.1 hj
  exact ih j c0 x h0 hx (fun id hid=>hS id (by simp only [V.locs];exact V.locsL_mem h0 hid))
 |any v=>exact .any v
 |nil=>exact .nil
 |d h=>exact .d (h.mono (G.le_frz w S).F)
 |full h hrow=>exact .full (h.mono (G.le_frz w S).F) hrow
 |own h hrow hg ht=>exact .own (h.mono (G.le_frz w S).F) hrow hg ht
 |ptr h=>exact .ptr h
 |ep u hc hr=>exact (RelV.ep u hc hr).mono (G.le_frz w S)
 |epv hc hs hr _=>exact (RelV.epv hc hs hr).mono (G.le_frz w S)
 |psl u hlen hcap hmax hc hs hr _=>exact (RelV.psl u hlen hcap hmax hc hs hr).mono (G.le_frz w S)
 |fn hl hr _=>exact (RelV.fn hl hr).mono (G.le_frz w S)
theorem locs_rel {G:Gh} {n:Nat} {v:V} {x:Value} (h:RelV G v x):∀ id∈v.locs n,n≤id∧∃ b,G.ι id=some b:=by
 induction h with
 |@loc id off len sz b cap hi hc hm hz=>
  intro k hk
  simp only [V.locs] at hk
  split at hk
  ·simp at hk
  ·simp at hk;subst hk
   exact ⟨by omega,b,hi⟩
 |@agg cs xs hl hs hr ih=>
  intro k hk
  simp only [V.locs] at hk
  obtain ⟨j,c,hj,hc⟩:=V.locsL_get hk
  have hlt:=(List.getElem?_eq_some_iff.1 hj).1
  exact ih j c _ hj (Array.getElem?_eq_getElem (by omega)) k hc
 |@tup cs xs hl hr ih=>
  intro k hk
  simp only [V.locs] at hk
  obtain ⟨j,c,hj,hc⟩:=V.locsL_get hk
  have hlt:=(List.getElem?_eq_some_iff.1 hj).1
  exact ih j c _ hj (Array.getElem?_eq_getElem (by omega)) k hc
 |_=>intro k hk;simp [V.locs] at hk
def killL (bl:List (List V)):List Nat→List (List V)
 |[]=>bl
 |id::ids=>killL (bl.set id []) ids
theorem killL_length:∀ (ids:List Nat) (bl:List (List V)),(killL bl ids).length=bl.length
 |[],bl=>rfl
 |id::ids,bl=>by rw [killL,killL_length ids];simp
theorem killL_get:∀ (ids:List Nat) (bl:List (List V)) (k:Nat),(∀ id∈ids,id<bl.length)→(killL bl ids)[k]?=if k∈ids then some [] else bl[k]?
 |[],bl,k,_=>by simp [killL]
 |id::ids,bl,k,h=>by
  rw [killL,killL_get ids _ k (fun i hi=>by simpa using h i (List.mem_cons_of_mem _ hi))]
  by_cases hk:k∈ids
  ·simp [hk]
  ·by_cases hk2:k=id
   ·subst hk2
    simp [hk,List.getElem?_set_self (h k List.mem_cons_self)]
   ·have:id≠k:=fun e=>hk2 e.symm
    simp [hk,hk2,List.getElem?_set_ne this]
noncomputable def Gh.frzK (G:Gh) (w:World) (ids:List Nat):Gh:={ G.frz w (fun i=>i∈ids) with dd:=fun i=>G.dd i||ids.contains i }
theorem Gh.le_frzK (G:Gh) (w:World) (ids:List Nat):G.le (G.frzK w ids):=
 ⟨(G.le_frz w _).F,fun _ _ h=>h,fun _ _ _ _ h=>h,fun _ _ h=>h,fun _ _ _=>rfl⟩
theorem RelV.frzK {G:Gh} {w:World} {ids:List Nat} {v:V} {x:Value} (h:RelV (G.frz w (fun i=>i∈ids)) v x):RelV (G.frzK w ids) v x:=
 h.mono (show (G.frz w (fun i=>i∈ids)).le (G.frzK w ids) from ⟨Fz.le_refl _,fun _ _ h=>h,fun _ _ _ _ h=>h,fun _ _ h=>h,fun _ _ _=>rfl⟩)
theorem Rl.freeze {w0:World} {G0:Gh} {st:St} {G:Gh} {w:World} (h:Rl w0 G0 st G w) {ids:List Nat} (hids:∀ id∈ids,st.base≤id∧∃ b,G.ι id=some b) :
  Rl w0 G0 { st with blocks:=killL st.blocks ids } (G.frzK w ids) w∧Stay st G w { st with blocks:=killL st.blocks ids } (G.frzK w ids) w:=by
 have hlt:∀ id∈ids,id<st.blocks.length:=fun id hid=>by
  obtain ⟨_,b,hb⟩:=hids id hid
  exact h.lt id b hb
 have hdd:∀ i,(G.frzK w ids).dd i=false→G.dd i=false∧i ∉ ids:=fun i hd=>by
  have hd':(G.dd i||ids.contains i)=false:=hd
  simp only [Bool.or_eq_false_iff] at hd'
  exact ⟨hd'.1,by simpa using hd'.2⟩
 have hFn:∀ b o,(∀ i,i∈ids→G.dd i=false→G.ι i≠some b)→(G.frzK w ids).F b o=G.F b o:=fun b o hn=>by
  show (match G.F b o with|some u=>some u|none=>_)=_
  cases hf:G.F b o with
  |some u=>rfl
  |none=>
   simp only
   rw [if_neg]
   rintro ⟨id,h3,h4,h5⟩
   exact hn id h3 h4 h5
 have hle:=G.le_frzK w ids
 refine ⟨?_,fun b o hL=>⟨hL.heap,hL.ι,fun k=>by rw [hFn b k (fun i _ _=>hL.ι i)];exact hL.F k,hL.tok⟩⟩
 exact
  {h with
   F0:=Fz.le_trans h.F0 hle.F
   Fnew:=fun b o hb=>by
    rw [hFn b o (fun i hi _ he=>by have:=h.new i b (hids i hi).1 he;omega)];exact h.Fnew b o hb
   base:=by rw [killL_length];exact h.base
   fz:=Gh.frz_ok h.fz
   lt:=fun i b hi=>by rw [killL_length];exact h.lt i b hi
   inj:=fun i j b hdi hdj=>h.inj i j b (hdd i hdi).1 (hdd j hdj).1
   sep:=fun i b o hdi hi=>by
    obtain ⟨d1,d2⟩:=hdd i hdi
    rw [hFn b o (fun k hk hkd hke=>d2 (by rw [h.inj i k b d1 hkd hi hke];exact hk))]
    exact h.sep i b o d1 hi
   ddb:=fun i hd=>by
    have hd':(G.dd i||ids.contains i)=true:=hd
    show (killL st.blocks ids)[i]?=some []
    rw [killL_get ids _ i hlt]
    split
    ·rfl
    ·rename_i hni
     have:G.dd i=true:=by
      simp only [Bool.or_eq_true] at hd'
      rcases hd' with h1|h1
      ·exact h1
      ·exact absurd (by simpa using h1) hni
     exact h.ddb i this
   dd0:=fun i hi hd=>by
    show (G.dd i||ids.contains i)=true
    rw [h.dd0 i hi hd];rfl
   blk:=fun k ks hk=>by
    have hk':(killL st.blocks ids)[k]?=some ks:=hk
    rw [killL_get ids _ k hlt] at hk'
    split at hk'
    ·rename_i hki
     simp only [Option.some.injEq] at hk';subst hk'
     obtain ⟨_,b,hb⟩:=hids k hki
     obtain ⟨cur,e,h1,_⟩:=h.zok k b hb
     split<;>exact Blk.dead (by exact hb) h1
    ·have:=h.blk k ks hk'
     split
     ·rename_i hb
      have hb:k<st.base:=hb
      rw [if_pos hb] at this
      exact this.mono (show G.old.le (G.frzK w ids).old from ⟨hle.F,fun _ _ h=>h,fun _ _ _ _ h=>h,fun _ _ h=>h,fun _ _ _=>rfl⟩)
     ·rename_i hb
      have hb:¬k<st.base:=hb
      rw [if_neg hb] at this
      exact this.mono hle
   tok:=fun g hg=>by
    obtain ⟨h1,a,len,cap,sz,h2,h3⟩:=h.tok g hg
    refine ⟨h1,a,len,cap,sz,h2,?_⟩
    rcases h3 with h3|⟨b2,e',cur',r1,r2,r3,r4,r5,r6,r7,r8,r9⟩
    ·exact .inl h3
    ·exact .inr ⟨b2,e',cur',r1,r2,r3,r4,r5,r6,r7,fun o ho=>by rw [hFn b2 o (fun i _ _=>r9 i)];exact r8 o ho,r9⟩ }
end Go.VM
