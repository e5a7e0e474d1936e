/- The value level machine, second part: calls, drawn regions, code, functions and the compile step, proved right. Conditions: none. -/
import Derived.Test.YtlcbgdnfkmbhkaaGreatVa
import Derived.Orders
import Derived.LoopN
set_option linter.unusedSimpArgs false
set_option linter.unusedVariables false
namespace Go.VM
structure Ret where
 r:V
 blocks:List (List V)
 live:List Nat
 gn:Nat
 deriving Inhabited
def St.entry (blks:List (List V)):St:={ tmps:=[],blocks:=blks,live:=[],gn:=0,base:=blks.length,dep:=0 }
def Ret.st (n:Nat) (ret:Ret):St:={ tmps:=[],blocks:=ret.blocks,live:=ret.live,gn:=ret.gn,base:=n,dep:=0 }
def RelL (G:Gh) (vs:List V) (xs:Array Value):Prop:=
 xs.size=vs.length∧∀ (j:Nat) c x,vs[j]?=some c→xs[j]?=some x→RelV G c x
def VC (P:Program) (f:FuncId) (args:List V) (blks:List (List V)) (ret:Ret):Prop:=
 ∀ (G:Gh) (w:World) (xs:Array Value),RelL G args xs→Rl w G (.entry blks) G w →
  Calls P f xs w fun e w'=>∃ v G',e=.returned v∧RelV G' ret.r v∧Rl w G (ret.st blks.length) G' w'
abbrev Orc:=FuncId→List V→List (List V)→Option Ret
mutual
def V.imp (g n:Nat):V→V
 |.sl sz es (.own q k)=>.sl sz es (.own q (g+k))
 |.loc id off len sz=>.loc (n+id) off len sz
 |.ptr id off=>.ptr (n+id) off
 |.epv v=>.epv (v.imp g n)
 |.psl vs=>.psl (V.impL g n vs)
 |.agg vs=>.agg (V.impL g n vs)
 |.tup vs=>.tup (V.impL g n vs)
 |.fn f vs=>.fn f (V.impL g n vs)
 |v=>v
def V.impL (g n:Nat):List V→List V
 |[]=>[]
 |v::vs=>v.imp g n::V.impL g n vs
end
theorem V.impL_eq (g n:Nat):∀ vs:List V,V.impL g n vs=vs.map (V.imp g n)
 |[]=>rfl
 |v::vs=>by rw [V.impL,V.impL_eq g n vs];rfl
mutual
def V.top:V→Nat
 |.loc id _ _ _=>id+1
 |.ptr id _=>id+1
 |.epv v=>v.top
 |.psl vs=>V.topL vs
 |.agg vs=>V.topL vs
 |.tup vs=>V.topL vs
 |.fn _ vs=>V.topL vs
 |_=>0
def V.topL:List V→Nat
 |[]=>0
 |v::vs=>max v.top (V.topL vs)
end
def preOk (m:Nat) (as:List V) (pb:List (List V)):Bool:=pb.length==m&&(as.all (V.ltb m)&&pb.all (fun b=>!b.isEmpty&&V.ltbL m b))
def vPre (st:St) (as:List V):Option (List (List V)):=
 if st.base=0 then
  if preOk (V.topL as) as ((st.blocks.take (V.topL as)).map V.erL) then some ((st.blocks.take (V.topL as)).map V.erL) else none
 else none
theorem vPre_no {st:St} {as:List V} (h:st.base≠0):vPre st as=none:=by unfold vPre;rw [if_neg h]
def vCall (C:Orc) (st:St) (f:FuncId) (args:List V):Option (V×St):=
 if (args.map V.er).all (V.ltb 0) then
  match C f (args.map V.er) [] with
  |some ret=>some (ret.r.imp st.gn st.blocks.length,{ st with blocks:=st.blocks++ret.blocks.map (V.impL st.gn st.blocks.length),live:=ret.live.map (st.gn+·)++st.live,gn:=st.gn+ret.gn })
  |none=>none
 else
  match vPre st (args.map V.er) with
  |some pb=>match C f (args.map V.er) pb with
   |some ret=>if ret.live=[]∧ret.gn=0∧ret.blocks.length=pb.length then some (ret.r,{ st with blocks:=ret.blocks++st.blocks.drop pb.length })
    else if ret.blocks.length=pb.length then some (ret.r.imp st.gn 0,{ st with blocks:=ret.blocks++st.blocks.drop pb.length,live:=ret.live.map (st.gn+·)++st.live,gn:=st.gn+ret.gn }) else none
   |none=>none
  |none=>match C f (args.map V.er) (st.blocks.map V.erL) with
   |some ret=>if ret.live=[]∧ret.gn=0∧ret.blocks.length=st.blocks.length then some (ret.r,{ st with blocks:=ret.blocks }) else none
   |none=>none
def Gh.imp (G H:Gh) (n gn:Nat):Gh:=
 {F:=H.F,ι:=fun i=>if i<n then G.ι i else H.ι (i-n),τ:=fun d k=>if d=0∧G.gn≤k then H.τ 0 (k-G.gn) else G.τ d k,dep:=0,gn:=G.gn+gn,dd:=fun i=>if i<n then G.dd i else H.dd (i-n),ζ:=fun i=>if i<n then G.ζ i else H.ζ (i-n) }
def Gh.bck (G H:Gh):Gh:={ G with F:=H.F,τ:=fun d k=>if d=0∧G.gn≤k then H.τ 0 (k-G.gn) else G.τ d k,gn:=G.gn+H.gn }
theorem RelV.imp {G H:Gh} {n:Nat} {v:V} {x:Value} (h:RelV H v x) (hd:H.dep=0):RelV (G.imp H n H.gn) (v.imp G.gn n) x:=by
 induction h with
 |any v=>exact .any v
 |nil=>exact .nil
 |d h=>exact .d h
 |full h hrow=>exact .full h hrow
 |@own sz es d k v h hrow hg ht=>
  rcases hg with hg|⟨hg,hk⟩
  ·rw [hd] at hg;exact absurd hg (Nat.not_lt_zero _)
  ·rw [hd] at hg;subst hg
   refine .own h hrow (.inr ⟨rfl,Nat.add_lt_add_left hk _⟩) (fun p hp=>ht p ?_)
   have hp':(if 0=0∧G.gn≤G.gn+k then H.τ 0 (G.gn+k-G.gn) else G.τ 0 (G.gn+k))=some p:=hp
   rw [if_pos ⟨rfl,Nat.le_add_right _ _⟩,Nat.add_sub_cancel_left] at hp'
   exact hp'
 |@loc id off len sz b cap h hc hm hz=>exact .loc (by show (if n+id<n then _ else H.ι (n+id-n))=_;rw [if_neg (by omega),Nat.add_sub_cancel_left];exact h) hc hm (by show _≤(if n+id<n then _ else H.ζ (n+id-n));rw [if_neg (by omega),Nat.add_sub_cancel_left];exact hz)
 |@ptr id off b h=>exact .ptr (by show (if n+id<n then _ else H.ι (n+id-n))=_;rw [if_neg (by omega),Nat.add_sub_cancel_left];exact h)
 |ep u hc hr=>exact .ep u hc hr
 |epv hc hs hr ih=>exact .epv hc hs ih
 |psl u hlen hcap hmax hc hs hr ih=>
  simp only [V.imp,V.impL_eq]
  refine .psl u (by simpa using hlen) hcap hmax (fun j hj=>hc j (by simpa using hj)) (fun j hj=>hs j (by simpa using hj)) (fun j c hj=>?_)
  rw [List.getElem?_map] at hj
  obtain ⟨c0,h0,rfl⟩:=Option.map_eq_some_iff.1 hj
  exact ih j c0 h0
 |agg hl hs hr ih=>
  simp only [V.imp,V.impL_eq]
  refine .agg (by simpa using hl) hs (fun j c x hj hx=>?_)
  rw [List.getElem?_map] at hj
  obtain ⟨c0,h0,rfl⟩:=Option.map_eq_some_iff.1 hj
  exact ih j c0 x h0 hx
 |tup hl hr ih=>
  simp only [V.imp,V.impL_eq]
  refine .tup (by simpa using hl) (fun j c x hj hx=>?_)
  rw [List.getElem?_map] at hj
  obtain ⟨c0,h0,rfl⟩:=Option.map_eq_some_iff.1 hj
  exact ih j c0 x h0 hx
 |fn hl hr ih=>
  simp only [V.imp,V.impL_eq]
  refine .fn (by simpa using hl) (fun j c x hj hx=>?_)
  rw [List.getElem?_map] at hj
  obtain ⟨c0,h0,rfl⟩:=Option.map_eq_some_iff.1 hj
  exact ih j c0 x h0 hx
theorem okTag_false {G:Gh} (hd:G.dep=0) (hg:G.gn=0) (d k:Nat):¬G.okTag d k:=by
 rintro (h|⟨_,h⟩)
 ·rw [hd] at h;exact Nat.not_lt_zero _ h
 ·rw [hg] at h;exact Nat.not_lt_zero _ h
section
variable {P:Program} {w0:World} {G0:Gh} {st:St} {G:Gh} {w:World}
theorem Rl.call0 (h:Rl w0 G0 st G w) (hdep:st.dep=0) {ret:Ret} {H:Gh} {w':World}
  (hc:Rl w { F:=G.F,ι:=fun _=>none,τ:=fun _ _=>none,dep:=0,gn:=0 } (ret.st 0) H w') :
  Rl w0 G0 { st with blocks:=st.blocks++ret.blocks.map (V.impL st.gn st.blocks.length),live:=ret.live.map (st.gn+·)++st.live,gn:=st.gn+ret.gn } (G.imp H st.blocks.length H.gn) w'∧G.le (G.imp H st.blocks.length H.gn):=by
 have hHg:H.gn=ret.gn:=hc.gn
 have hHd:H.dep=0:=hc.dep
 have hGd:G.dep=0:=h.dep.trans hdep
 have hold:∀ b o,b<w.heap.size→H.F b o=G.F b o:=fun b o hb=>hc.Fnew b o hb
 have hheap:∀ b,b<w.heap.size→w'.heap[b]?=w.heap[b]?:=fun b hb=>hc.wx.block b hb (by rintro ⟨i,hi,_⟩;exact Nat.not_lt_zero _ hi)
 have hnewb:∀ i b,H.ι i=some b→w.heap.size≤b:=fun i b hi=>hc.new i b (Nat.zero_le _) hi
 have hle:G.le (G.imp H st.blocks.length H.gn):=
  ⟨hc.F0,fun i b hi=>by show (if i<st.blocks.length then G.ι i else _)=_;rw [if_pos (h.lt i b hi)];exact hi,
   fun d k v ht hv=>by
   have hv':(if d=0∧G.gn≤k then H.τ 0 (k-G.gn) else G.τ d k)=some v:=hv
   rw [if_neg] at hv'
   ·exact hv'
   ·rintro ⟨rfl,hk⟩
    rcases ht with ht|⟨_,ht⟩
    ·rw [hGd] at ht;exact Nat.not_lt_zero _ ht
    ·omega,
   fun d k ht=>by
   rcases ht with ht|⟨h1,ht⟩
   ·rw [hGd] at ht;exact absurd ht (Nat.not_lt_zero _)
   ·exact .inr ⟨h1.trans hGd,Nat.lt_add_right _ ht⟩,
   fun i b hi=>by show (if i<st.blocks.length then G.ζ i else _)=_;rw [if_pos (h.lt i b hi)]⟩
 have hι:∀ i b,(G.imp H st.blocks.length H.gn).ι i=some b→(i<st.blocks.length∧G.ι i=some b)∨(st.blocks.length≤i∧H.ι (i-st.blocks.length)=some b):=fun i b hi=>by
  have hi':(if i<st.blocks.length then G.ι i else H.ι (i-st.blocks.length))=some b:=hi
  split at hi'
  ·exact .inl ⟨by assumption,hi'⟩
  ·exact .inr ⟨by omega,hi'⟩
 have hbase:=h.base
 have hτold:∀ g,g∈st.live→(G.imp H st.blocks.length H.gn).τ st.dep g=G.τ st.dep g:=fun g hg=>by
  show (if st.dep=0∧G.gn≤g then _ else G.τ st.dep g)=_
  rw [if_neg (by rintro ⟨_,hk⟩;have:=(h.tok g hg).1;rw [h.gn] at hk;omega)]
 have hτnew:∀ g,(G.imp H st.blocks.length H.gn).τ st.dep (st.gn+g)=H.τ 0 g:=fun g=>by
  show (if st.dep=0∧G.gn≤st.gn+g then H.τ 0 (st.gn+g-G.gn) else _)=_
  rw [if_pos ⟨hdep,by rw [h.gn];omega⟩,h.gn,Nat.add_sub_cancel_left]
 refine ⟨?_,hle⟩
 exact
  {dep:=by show 0=st.dep;exact hdep.symm
   dep0:=h.dep0
   gn:=by show G.gn+H.gn=st.gn+ret.gn;rw [h.gn,hHg]
   F0:=Fz.le_trans h.F0 hle.F
   Fnew:=fun b o hb=>(hold b o (Nat.lt_of_lt_of_le hb h.wx.size)).trans (h.Fnew b o hb)
   ι0:=fun i hi=>by
    have hi:i<st.base:=hi
    show (if i<st.blocks.length then G.ι i else _)=_
    rw [if_pos (by omega)];exact h.ι0 i hi
   τ0:=fun d g hd=>by have hd:d<st.dep:=hd;rw [hdep] at hd;exact absurd hd (Nat.not_lt_zero _)
   wx:=⟨hc.wx.os.trans h.wx.os,hc.wx.tape.trans h.wx.tape,hc.wx.output.trans h.wx.output,Nat.le_trans h.wx.size hc.wx.size,fun b hb hT=>
    (hheap b (Nat.lt_of_lt_of_le hb h.wx.size)).trans (h.wx.block b hb hT)⟩
   base:=by simp;omega
   fz:=hc.fz
   inj:=fun i j b hdi hdj hi hj=>by
    have hdi:(if i<st.blocks.length then G.dd i else H.dd (i-st.blocks.length))=false:=hdi
    have hdj:(if j<st.blocks.length then G.dd j else H.dd (j-st.blocks.length))=false:=hdj
    rcases hι i b hi with ⟨h1,h2⟩|⟨h1,h2⟩<;>rcases hι j b hj with ⟨h3,h4⟩|⟨h3,h4⟩
    ·rw [if_pos h1] at hdi;rw [if_pos h3] at hdj
     exact h.inj i j b hdi hdj h2 h4
    ·have:=h.ιlt h2;have:=hnewb _ b h4;omega
    ·have:=h.ιlt h4;have:=hnewb _ b h2;omega
    ·rw [if_neg (by omega)] at hdi;rw [if_neg (by omega)] at hdj
     have:=hc.inj _ _ b hdi hdj h2 h4;omega
   lt:=fun i b hi=>by
    simp
    rcases hι i b hi with ⟨h1,h2⟩|⟨h1,h2⟩
    ·omega
    ·have:i-st.blocks.length<ret.blocks.length:=hc.lt _ b h2
     omega
   sep:=fun i b o hdi hi=>by
    have hdi:(if i<st.blocks.length then G.dd i else H.dd (i-st.blocks.length))=false:=hdi
    rcases hι i b hi with ⟨h1,h2⟩|⟨h1,h2⟩
    ·rw [if_pos h1] at hdi
     exact (hold b o (h.ιlt h2)).trans (h.sep i b o hdi h2)
    ·rw [if_neg (by omega)] at hdi
     exact hc.sep _ b o hdi h2
   ddb:=fun i hdi=>by
    have hdi:(if i<st.blocks.length then G.dd i else H.dd (i-st.blocks.length))=true:=hdi
    show (st.blocks++ret.blocks.map (V.impL st.gn st.blocks.length))[i]?=some []
    by_cases hlt:i<st.blocks.length
    ·rw [if_pos hlt] at hdi
     rw [List.getElem?_append_left hlt];exact h.ddb i hdi
    ·rw [if_neg hlt] at hdi
     have:ret.blocks[i-st.blocks.length]?=some []:=hc.ddb _ hdi
     rw [List.getElem?_append_right (by omega),List.getElem?_map,this];rfl
   dd0:=fun i hi hd=>by
    have hi:i<st.base:=hi
    show (if i<st.blocks.length then G.dd i else _)=true
    rw [if_pos (by omega)];exact h.dd0 i hi hd
   ζ0:=fun i hi=>by
    have hi:i<st.base:=hi
    show (if i<st.blocks.length then G.ζ i else _)=_
    rw [if_pos (by omega)];exact h.ζ0 i hi
   zok:=fun i b hi=>by
    show ∃ (cur:Array Value) (e:TypeId),w'.heap[b]?=some (.cells cur e (0,0))∧cur.size=(if i<st.blocks.length then G.ζ i else H.ζ (i-st.blocks.length))
    rcases hι i b hi with ⟨h1,h2⟩|⟨h1,h2⟩
    ·rw [if_pos h1]
     obtain ⟨cur,e,h3,h4⟩:=h.zok i b h2
     exact ⟨cur,e,(hheap b (h.ιlt h2)).trans h3,h4⟩
    ·rw [if_neg (by omega)]
     exact hc.zok _ b h2
   old:=fun i b hi hb=>by
    have hi:i<st.base:=hi
    rcases hι i b hb with ⟨h1,h2⟩|⟨h1,h2⟩
    ·exact h.old i b hi h2
    ·omega
   new:=fun i b hi hb=>by
    rcases hι i b hb with ⟨h1,h2⟩|⟨h1,h2⟩
    ·exact h.new i b hi h2
    ·exact Nat.le_trans h.wx.size (hnewb _ b h2)
   blk:=fun k cs hk=>by
    have hk':(st.blocks++ret.blocks.map (V.impL st.gn st.blocks.length))[k]?=some cs:=hk
    rw [List.getElem?_append] at hk'
    split at hk'
    ·have hw:=(h.blk k cs hk').world (w':=w') fun b hb=>hheap b (h.ιlt (i:=k) (by split at hb<;>exact hb))
     split
     ·rename_i hb
      have hb:k<st.base:=hb
      rw [if_pos hb] at hw
      exact hw.mono (show G.old.le (G.imp H st.blocks.length H.gn).old from ⟨hle.F,hle.ι,fun d k _ ht=>absurd ht (okTag_false (G:=G.old) hGd rfl d k),fun d k ht=>absurd ht (okTag_false (G:=G.old) hGd rfl d k),hle.ζ⟩)
     ·rename_i hb
      have hb:¬k<st.base:=hb
      rw [if_neg hb] at hw
      exact hw.mono hle
    ·rename_i hge
     rw [List.getElem?_map] at hk'
     obtain ⟨c0,hc0,rfl⟩:=Option.map_eq_some_iff.1 hk'
     rw [if_neg (show ¬k<st.base by omega)]
     have hb:=hc.blk (k-st.blocks.length) c0 hc0
     rw [if_neg (show ¬k-st.blocks.length<(Ret.st 0 ret).base from Nat.not_lt_zero _)] at hb
     obtain ⟨b,cur,e,hi,hh,hl,hr⟩:=hb
     refine ⟨b,cur,e,?_,hh,by rw [V.impL_eq];simpa using hl,fun j c x h1 h2=>?_⟩
     ·show (if k<st.blocks.length then _ else H.ι (k-st.blocks.length))=_
      rw [if_neg hge];exact hi
     ·rw [V.impL_eq,List.getElem?_map] at h1
      obtain ⟨c1,hc1,rfl⟩:=Option.map_eq_some_iff.1 h1
      have:=hr j c1 x hc1 h2
      refine ⟨this.1,?_⟩
      rw [← h.gn]
      exact this.2.imp hHd
   tok:=fun g hg=>by
    rcases List.mem_append.1 hg with hg|hg
    ·obtain ⟨g',hg',rfl⟩:=List.mem_map.1 hg
     obtain ⟨h1,a,len,cap,sz,h2,h3⟩:=hc.tok g' hg'
     refine ⟨Nat.add_lt_add_left h1 _,a,len,cap,sz,(hτnew g').trans h2,?_⟩
     rcases h3 with h3|⟨b,e,cur,r1,r2,r3,r4,r5,r6,r7,r8,r9⟩
     ·exact .inl h3
     ·refine .inr ⟨b,e,cur,r1,r2,Nat.le_trans h.wx.size r3,r4,r5,r6,r7,r8,fun i hi=>?_⟩
      rcases hι i b hi with ⟨_,h5⟩|⟨_,h5⟩
      ·have:=h.ιlt h5;omega
      ·exact r9 _ h5
    ·obtain ⟨h1,a,len,cap,sz,h2,h3⟩:=h.tok g hg
     refine ⟨Nat.lt_add_right _ h1,a,len,cap,sz,(hτold g hg).trans h2,?_⟩
     rcases h3 with h3|⟨b,e,cur,r1,r2,r3,r4,r5,r6,r7,r8,r9⟩
     ·exact .inl h3
     ·have hb:=(Array.getElem?_eq_some_iff.1 r4).1
      refine .inr ⟨b,e,cur,r1,r2,r3,(hheap b hb).trans r4,r5,r6,r7,fun o ho=>(hold b o hb).trans (r8 o ho),fun i hi=>?_⟩
      rcases hι i b hi with ⟨_,h5⟩|⟨_,h5⟩
      ·exact r9 i h5
      ·have:=hnewb _ b h5;omega
   tinj:=fun g g' hg hg' hgg b l c s l' c' s' h1 h2=>by
    have mixed:∀ k k',k∈ret.live→k'∈st.live→∀ l c s l' c' s',H.τ 0 k=some (.slice (some ⟨b,0,none⟩) l c,s)→G.τ st.dep k'=some (.slice (some ⟨b,0,none⟩) l' c',s')→l=c∨l'=c':=by
     intro k k' hk hk' l c s l' c' s' h1 h2
     obtain ⟨_,a,len,cap,sz,h3,h4⟩:=hc.tok k hk
     have h3':H.τ 0 k=_:=h3
     rw [h1] at h3';simp at h3'
     obtain ⟨⟨rfl,rfl,rfl⟩,rfl⟩:=h3'
     obtain ⟨_,a,len,cap,sz,h5,h6⟩:=h.tok k' hk'
     rw [h2] at h5;simp at h5
     obtain ⟨⟨rfl,rfl,rfl⟩,rfl⟩:=h5
     rcases h4 with h4|⟨b1,e,cur,r1,r2,r3,r4,_⟩
     ·exact .inl h4
     ·rcases h6 with h6|⟨b2,e2,cur2,q1,q2,q3,q4,_⟩
      ·exact .inr h6
      ·simp at r2 q2;subst r2;subst q2
       have:=(Array.getElem?_eq_some_iff.1 q4).1;omega
    rcases List.mem_append.1 hg with hg|hg<;>rcases List.mem_append.1 hg' with hg'|hg'
    ·obtain ⟨k,hk,rfl⟩:=List.mem_map.1 hg
     obtain ⟨k',hk',rfl⟩:=List.mem_map.1 hg'
     exact hc.tinj k k' hk hk' (by rintro rfl;exact hgg rfl) b l c s l' c' s' ((hτnew k).symm.trans h1) ((hτnew k').symm.trans h2)
    ·obtain ⟨k,hk,rfl⟩:=List.mem_map.1 hg
     exact mixed k g' hk hg' l c s l' c' s' ((hτnew k).symm.trans h1) ((hτold g' hg').symm.trans h2)
    ·obtain ⟨k',hk',rfl⟩:=List.mem_map.1 hg'
     exact (mixed k' g hk' hg l' c' s' l c s ((hτnew k').symm.trans h2) ((hτold g hg).symm.trans h1)).symm
    ·exact h.tinj g g' hg hg' hgg b l c s l' c' s' ((hτold g hg).symm.trans h1) ((hτold g' hg').symm.trans h2) }
theorem Stay.call0 (h:Rl w0 G0 st G w) (hdep:st.dep=0) {ret:Ret} {H:Gh} {w':World}
  (hc:Rl w { F:=G.F,ι:=fun _=>none,τ:=fun _ _=>none,dep:=0,gn:=0 } (ret.st 0) H w') (bl:List (List V)) :
  Stay st G w { st with blocks:=bl,live:=ret.live.map (st.gn+·)++st.live,gn:=st.gn+ret.gn } (G.imp H st.blocks.length H.gn) w':=fun b o hL=>by
 refine ⟨?_,fun i hi=>?_,fun k=>(hc.Fnew b k hL.lt).trans (hL.F k),fun g hg l c s hτ=>?_⟩
 ·rw [hc.wx.block b hL.lt (by rintro ⟨i,hi,_⟩;exact Nat.not_lt_zero _ hi)];exact hL.heap
 ·have hi':(if i<st.blocks.length then G.ι i else H.ι (i-st.blocks.length))=some b:=hi
  split at hi'
  ·exact hL.ι i hi'
  ·have:=hc.new _ b (Nat.zero_le _) hi'
   have:=hL.lt;omega
 ·rcases List.mem_append.1 hg with hg|hg
  ·obtain ⟨g',hg',rfl⟩:=List.mem_map.1 hg
   have hτ':(if st.dep=0∧G.gn≤st.gn+g' then H.τ 0 (st.gn+g'-G.gn) else G.τ st.dep (st.gn+g'))=some (.slice (some ⟨b,0,none⟩) l c,s):=hτ
   rw [if_pos ⟨hdep,by rw [h.gn];omega⟩,h.gn,Nat.add_sub_cancel_left] at hτ'
   obtain ⟨_,a,len,cap,sz,h2,h3⟩:=hc.tok g' hg'
   have h2':H.τ 0 g'=_:=h2
   rw [hτ'] at h2';simp at h2'
   obtain ⟨⟨rfl,rfl,rfl⟩,rfl⟩:=h2'
   rcases h3 with h3|⟨b2,e,cur,r1,r2,r3,_⟩
   ·exact h3
   ·simp at r2;subst r2
    have:=hL.lt;omega
  ·have hτ':(if st.dep=0∧G.gn≤g then H.τ 0 (g-G.gn) else G.τ st.dep g)=some (.slice (some ⟨b,0,none⟩) l c,s):=hτ
   rw [if_neg (by rintro ⟨_,hk⟩;have:=(h.tok g hg).1;rw [h.gn] at hk;omega)] at hτ'
   exact hL.tok g hg l c s hτ'
theorem Rl.entry0 (h:Rl w0 G0 st G w):Rl w { F:=G.F,ι:=fun _=>none,τ:=fun _ _=>none,dep:=0,gn:=0 } (.entry []) { F:=G.F,ι:=fun _=>none,τ:=fun _ _=>none,dep:=0,gn:=0 } w:=
 {dep:=rfl,dep0:=rfl,gn:=rfl,F0:=Fz.le_refl _,Fnew:=fun _ _ _=>rfl,ι0:=fun _ _=>rfl,τ0:=fun _ _ _=>rfl,wx:=Wx.refl _ _,base:=Nat.le_refl _,fz:=h.fz
  inj:=fun i j b _ _ hi=>by cases hi
  lt:=fun i b hi=>by cases hi
  sep:=fun i b o _ hi=>by cases hi
  ddb:=fun i hd=>by cases hd
  dd0:=fun i _ hd=>hd
  ζ0:=fun _ _=>rfl
  zok:=fun i b hi=>by cases hi
  old:=fun i b _ hi=>by cases hi
  new:=fun i b _ hi=>by cases hi
  blk:=fun k cs hk=>by simp [St.entry] at hk
  tok:=fun g hg=>by simp [St.entry] at hg
  tinj:=fun g g' hg=>by simp [St.entry] at hg }
def Gh.bare (G:Gh):Gh:={ G with τ:=fun _ _=>none,gn:=0 }
theorem Rl.entryB (h:Rl w0 G0 st G w) (hdep:st.dep=0):Rl w G.bare (.entry (st.blocks.map V.erL)) G.bare w:=
 {dep:=h.dep.trans hdep,dep0:=h.dep.trans hdep,gn:=rfl,F0:=Fz.le_refl _,Fnew:=fun _ _ _=>rfl,ι0:=fun _ _=>rfl,τ0:=fun _ _ _=>rfl,wx:=Wx.refl _ _,base:=Nat.le_refl _,fz:=h.fz
  inj:=h.inj
  lt:=fun i b hi=>by simpa [St.entry] using h.lt i b hi
  sep:=h.sep
  ddb:=fun i hd=>by
   have:=h.ddb i hd
   simp only [St.entry,List.getElem?_map,this];rfl
  dd0:=fun i _ hd=>hd
  ζ0:=fun _ _=>rfl
  zok:=h.zok
  old:=fun i b _ hi=>h.ιlt hi
  new:=fun i b hi hb=>by
   have:=h.lt i b hb
   simp [St.entry] at hi;omega
  blk:=fun k cs hk=>by
   simp only [St.entry,List.getElem?_map] at hk
   obtain ⟨c0,hc0,rfl⟩:=Option.map_eq_some_iff.1 hk
   have hlt:=(List.getElem?_eq_some_iff.1 hc0).1
   rw [if_pos (by simpa [St.entry] using hlt)]
   obtain ⟨b,cur,e,hi,hh,hl,hr⟩:=h.blkG k c0 hc0
   refine ⟨b,cur,e,hi,hh,by rw [V.erL_eq];simpa using hl,fun j c x h1 h2=>?_⟩
   rw [V.erL_eq,List.getElem?_map] at h1
   obtain ⟨c1,hc1,rfl⟩:=Option.map_eq_some_iff.1 h1
   have:=hr j c1 x hc1 h2
   refine ⟨this.1,this.2.er.mono (show G.old.le G.bare.old from ⟨Fz.le_refl _,fun _ _ h=>h,fun d k _ ht=>absurd ht (okTag_false (G:=G.old) (h.dep.trans hdep) rfl d k),fun d k ht=>absurd ht (okTag_false (G:=G.old) (h.dep.trans hdep) rfl d k),fun _ _ _=>rfl⟩)⟩
  tok:=fun g hg=>by simp [St.entry] at hg
  tinj:=fun g g' hg=>by simp [St.entry] at hg }
theorem Rl.callB (h:Rl w0 G0 st G w) (hdep:st.dep=0) {ret:Ret} {H:Gh} {w':World} (hc:Rl w G.bare (ret.st st.blocks.length) H w') (hgn:ret.gn=0) (hlen:ret.blocks.length=st.blocks.length) :
  Rl w0 G0 { st with blocks:=ret.blocks } { G with F:=H.F } w'∧G.le { G with F:=H.F }∧H.le { G with F:=H.F }:=by
 have hGd:G.dep=0:=h.dep.trans hdep
 have hHd:H.dep=0:=hc.dep
 have hHg:H.gn=0:=hc.gn.trans hgn
 have hold:∀ b o,b<w.heap.size→H.F b o=G.F b o:=fun b o hb=>hc.Fnew b o hb
 have hι:∀ i b,H.ι i=some b→G.ι i=some b:=fun i b hi=>by
  have hlt:i<st.blocks.length:=by rw [← hlen];exact hc.lt i b hi
  rw [hc.ι0 i hlt] at hi;exact hi
 have hheap:∀ b,b<w.heap.size→(∀ i,G.ι i≠some b)→w'.heap[b]?=w.heap[b]?:=fun b hb hn=>hc.wx.block b hb (by rintro ⟨i,_,hi⟩;exact hn i hi)
 have hζ:∀ i b,H.ι i=some b→G.ζ i=H.ζ i:=fun i b hi=>by
  have hlt:i<st.blocks.length:=by rw [← hlen];exact hc.lt i b hi
  exact (hc.ζ0 i hlt).symm
 have hle:G.le { G with F:=H.F }:=⟨hc.F0,fun _ _ h=>h,fun _ _ _ _ h=>h,fun _ _ h=>h,fun _ _ _=>rfl⟩
 refine ⟨?_,hle,⟨Fz.le_refl _,hι,fun d k _ ht=>absurd ht (okTag_false hHd hHg d k),fun d k ht=>absurd ht (okTag_false hHd hHg d k),hζ⟩⟩
 exact
  {dep:=h.dep,dep0:=h.dep0,gn:=h.gn
   F0:=Fz.le_trans h.F0 hc.F0
   Fnew:=fun b o hb=>(hold b o (Nat.lt_of_lt_of_le hb h.wx.size)).trans (h.Fnew b o hb)
   ι0:=h.ι0
   τ0:=h.τ0
   wx:=⟨hc.wx.os.trans h.wx.os,hc.wx.tape.trans h.wx.tape,hc.wx.output.trans h.wx.output,Nat.le_trans h.wx.size hc.wx.size,fun b hb hT=>by
    rw [hheap b (Nat.lt_of_lt_of_le hb h.wx.size) (fun i hi=>?_)]
    ·exact h.wx.block b hb hT
    ·rcases Nat.lt_or_ge i st.base with hl|hl
     ·exact hT ⟨i,hl,by rw [← h.ι0 i hl];exact hi⟩
     ·have:=h.new i b hl hi;omega⟩
   base:=by rw [hlen];exact h.base
   fz:=hc.fz
   inj:=h.inj
   lt:=fun i b hi=>by rw [hlen];exact h.lt i b hi
   sep:=fun i b o hd hi=>(hold b o (h.ιlt (i:=i) hi)).trans (h.sep i b o hd hi)
   ddb:=fun i hd=>by
    have h1:=h.ddb i hd
    exact hc.ddb i (hc.dd0 i (List.getElem?_eq_some_iff.1 h1).1 hd)
   dd0:=h.dd0
   ζ0:=h.ζ0
   zok:=fun i b hi=>by
    have hlt:=h.lt i b hi
    obtain ⟨cur,e,h1,h2⟩:=hc.zok i b ((hc.ι0 i hlt).trans hi)
    exact ⟨cur,e,h1,h2.trans (hc.ζ0 i hlt)⟩
   old:=h.old
   new:=h.new
   blk:=fun k cs hk=>by
    have hk:ret.blocks[k]?=some cs:=hk
    have hlt:k<st.blocks.length:=by rw [← hlen];exact (List.getElem?_eq_some_iff.1 hk).1
    have hb:=hc.blk k cs hk
    rw [if_pos (show k<(Ret.st st.blocks.length ret).base from hlt)] at hb
    have h1:Blk ({ G with F:=H.F }:Gh).old w' k cs:=hb.mono (show H.old.le ({ G with F:=H.F }:Gh).old from ⟨Fz.le_refl _,hι,fun d k _ ht=>absurd ht (okTag_false (G:=H.old) hHd rfl d k),fun d k ht=>absurd ht (okTag_false (G:=H.old) hHd rfl d k),hζ⟩)
    split
    ·exact h1
    ·exact h1.mono (Gh.old_le _)
   tok:=fun g hg=>by
    obtain ⟨h1,a,len,cap,sz,h2,h3⟩:=h.tok g hg
    refine ⟨h1,a,len,cap,sz,h2,?_⟩
    rcases h3 with h3|⟨b,e,cur,r1,r2,r3,r4,r5,r6,r7,r8,r9⟩
    ·exact .inl h3
    ·have hb:=(Array.getElem?_eq_some_iff.1 r4).1
     exact .inr ⟨b,e,cur,r1,r2,r3,(hheap b hb r9).trans r4,r5,r6,r7,fun o ho=>(hold b o hb).trans (r8 o ho),r9⟩
   tinj:=h.tinj }
theorem Stay.callB {n:Nat} {ret:Ret} {H:Gh} {w':World} (hc:Rl w G.bare (ret.st n) H w') (bl:List (List V)) :
  Stay st G w { st with blocks:=bl } { G with F:=H.F } w':=fun b o hL=>
 ⟨by rw [hc.wx.block b hL.lt (by rintro ⟨i,_,hi⟩;exact hL.ι i hi)];exact hL.heap,hL.ι,fun k=>(hc.Fnew b k hL.lt).trans (hL.F k),hL.tok⟩
theorem Rl.entryP (h:Rl w0 G0 st G w) (hdep:st.dep=0) {m:Nat} (hm:m≤st.blocks.length) (hcl:∀ b∈(st.blocks.take m).map V.erL,V.ltbL m b=true) :
  Rl w (G.bare.cut m) (.entry ((st.blocks.take m).map V.erL)) (G.bare.cut m) w:=
 have hι:∀ i b,(G.bare.cut m).ι i=some b→i<m∧G.ι i=some b:=fun i b hi=>by
  have hi':(if i<m then G.ι i else none)=some b:=hi
  split at hi'
  ·exact ⟨by assumption,hi'⟩
  ·cases hi'
 have hdd:∀ i,i<m→(G.bare.cut m).dd i=G.dd i:=fun i hi=>by show (if i<m then G.dd i else false)=_;rw [if_pos hi]
 {dep:=h.dep.trans hdep,dep0:=h.dep.trans hdep,gn:=rfl,F0:=Fz.le_refl _,Fnew:=fun _ _ _=>rfl,ι0:=fun _ _=>rfl,τ0:=fun _ _ _=>rfl,wx:=Wx.refl _ _,base:=Nat.le_refl _,fz:=h.fz
  inj:=fun i j b hdi hdj hi hj=>by
   obtain ⟨h1,h2⟩:=hι i b hi
   obtain ⟨h3,h4⟩:=hι j b hj
   rw [hdd i h1] at hdi;rw [hdd j h3] at hdj
   exact h.inj i j b hdi hdj h2 h4
  lt:=fun i b hi=>by have:=(hι i b hi).1;simp [St.entry];omega
  sep:=fun i b o hd hi=>by
   obtain ⟨h1,h2⟩:=hι i b hi
   rw [hdd i h1] at hd
   exact h.sep i b o hd h2
  ddb:=fun i hd=>by
   have hd':(if i<m then G.dd i else false)=true:=hd
   split at hd'
   ·rename_i hlt
    have:=h.ddb i hd'
    simp only [St.entry,List.getElem?_map,List.getElem?_take,if_pos hlt,this];rfl
   ·cases hd'
  dd0:=fun i _ hd=>hd
  ζ0:=fun _ _=>rfl
  zok:=fun i b hi=>h.zok i b (hι i b hi).2
  old:=fun i b _ hi=>h.ιlt (hι i b hi).2
  new:=fun i b hi hb=>by
   have:=(hι i b hb).1
   simp [St.entry] at hi;omega
  blk:=fun k cs hk=>by
   have hk2:=hk
   simp only [St.entry,List.getElem?_map] at hk
   obtain ⟨c0,hc0,rfl⟩:=Option.map_eq_some_iff.1 hk
   have hlt:=(List.getElem?_eq_some_iff.1 hc0).1
   rw [List.length_take] at hlt
   have hkm:k<m:=by omega
   rw [if_pos (show k<(St.entry ((st.blocks.take m).map V.erL)).base by show k<((st.blocks.take m).map V.erL).length;rw [List.length_map,List.length_take];omega)]
   rw [List.getElem?_take,if_pos hkm] at hc0
   have hcm:V.ltbL m (V.erL c0)=true:=hcl _ (List.mem_of_getElem? (by simpa [St.entry] using hk2))
   obtain ⟨b,cur,e,hi,hh,hl,hr⟩:=h.blkG k c0 hc0
   refine ⟨b,cur,e,by show (if k<m then G.ι k else none)=some b;rw [if_pos hkm];exact hi,hh,by rw [V.erL_eq];simpa using hl,fun j c x h1 h2=>?_⟩
   have hcj:=V.ltbL_mem hcm j c h1
   rw [V.erL_eq,List.getElem?_map] at h1
   obtain ⟨c1,hc1,rfl⟩:=Option.map_eq_some_iff.1 h1
   have:=hr j c1 x hc1 h2
   refine ⟨this.1,(this.2.er.cut hcj).mono (show (G.old.cut m).le (G.bare.cut m).old from ⟨Fz.le_refl _,fun _ _ h=>h,fun d k _ ht=>absurd ht (okTag_false (G:=G.old.cut m) (h.dep.trans hdep) rfl d k),fun d k ht=>absurd ht (okTag_false (G:=G.old.cut m) (h.dep.trans hdep) rfl d k),fun _ _ _=>rfl⟩)⟩
  tok:=fun g hg=>by simp [St.entry] at hg
  tinj:=fun g g' hg=>by simp [St.entry] at hg }
theorem Rl.callP (h:Rl w0 G0 st G w) (hdep:st.dep=0) {m:Nat} (hm:m≤st.blocks.length) (hb0:st.base=0) (hne:∀ i,i<m→st.blocks[i]?≠some []) {ret:Ret} {H:Gh} {w':World} (hc:Rl w (G.bare.cut m) (ret.st m) H w') (hgn:ret.gn=0) (hlen:ret.blocks.length=m) :
  Rl w0 G0 { st with blocks:=ret.blocks++st.blocks.drop m } { G with F:=H.F } w'∧G.le { G with F:=H.F }∧H.le { G with F:=H.F }:=by
 have hGd:G.dep=0:=h.dep.trans hdep
 have hHd:H.dep=0:=hc.dep
 have hHg:H.gn=0:=hc.gn.trans hgn
 have hold:∀ b o,b<w.heap.size→H.F b o=G.F b o:=fun b o hb=>hc.Fnew b o hb
 have hιm:∀ i,i<m→H.ι i=G.ι i:=fun i hi=>by
  have:=hc.ι0 i (show i<(ret.st m).base from hi)
  rw [this]
  show (if i<m then G.ι i else none)=_
  rw [if_pos hi]
 have hι:∀ i b,H.ι i=some b→G.ι i=some b:=fun i b hi=>by
  have hlt:i<m:=by rw [← hlen];exact hc.lt i b hi
  rw [← hιm i hlt];exact hi
 have hdm:∀ i,i<m→G.dd i=false:=fun i hi=>by
  cases hd:G.dd i with
  |false=>rfl
  |true=>exact absurd (h.ddb i hd) (hne i hi)
 have hheap:∀ b,b<w.heap.size→(∀ i,i<m→G.ι i≠some b)→w'.heap[b]?=w.heap[b]?:=fun b hb hn=>hc.wx.block b hb (by
  rintro ⟨i,hi,hi2⟩
  have hi:i<m:=hi
  have hi2:(if i<m then G.ι i else none)=some b:=hi2
  rw [if_pos hi] at hi2
  exact hn i hi hi2)
 have hζm:∀ i,i<m→H.ζ i=G.ζ i:=fun i hi=>hc.ζ0 i (show i<(ret.st m).base from hi)
 have hζ:∀ i b,H.ι i=some b→G.ζ i=H.ζ i:=fun i b hi=>by
  have hlt:i<m:=by rw [← hlen];exact hc.lt i b hi
  exact (hζm i hlt).symm
 have hle:G.le { G with F:=H.F }:=⟨hc.F0,fun _ _ h=>h,fun _ _ _ _ h=>h,fun _ _ h=>h,fun _ _ _=>rfl⟩
 refine ⟨?_,hle,⟨Fz.le_refl _,hι,fun d k _ ht=>absurd ht (okTag_false hHd hHg d k),fun d k ht=>absurd ht (okTag_false hHd hHg d k),hζ⟩⟩
 have hbl:(ret.blocks++st.blocks.drop m).length=st.blocks.length:=by rw [List.length_append,hlen,List.length_drop];omega
 exact
  {dep:=h.dep,dep0:=h.dep0,gn:=h.gn
   F0:=Fz.le_trans h.F0 hc.F0
   Fnew:=fun b o hb=>(hold b o (Nat.lt_of_lt_of_le hb h.wx.size)).trans (h.Fnew b o hb)
   ι0:=h.ι0
   τ0:=h.τ0
   wx:=⟨hc.wx.os.trans h.wx.os,hc.wx.tape.trans h.wx.tape,hc.wx.output.trans h.wx.output,Nat.le_trans h.wx.size hc.wx.size,fun b hb hT=>by
    rw [hheap b (Nat.lt_of_lt_of_le hb h.wx.size) (fun i _ hi=>?_)]
    ·exact h.wx.block b hb hT
    ·have:=h.new i b (by omega) hi;omega⟩
   base:=by show st.base≤_;omega
   fz:=hc.fz
   inj:=h.inj
   lt:=fun i b hi=>by show i<(ret.blocks++st.blocks.drop m).length;rw [hbl];exact h.lt i b hi
   sep:=fun i b o hd hi=>(hold b o (h.ιlt (i:=i) hi)).trans (h.sep i b o hd hi)
   ddb:=fun i hd=>by
    have h1:=h.ddb i hd
    have hi:¬i<m:=fun hi=>by rw [hdm i hi] at hd;cases hd
    show (ret.blocks++st.blocks.drop m)[i]?=some []
    rw [List.getElem?_append_right (by omega),List.getElem?_drop,hlen,show m+(i-m)=i by omega]
    exact h1
   dd0:=h.dd0
   ζ0:=h.ζ0
   zok:=fun i b hi=>by
    by_cases him:i<m
    ·obtain ⟨cur,e,h1,h2⟩:=hc.zok i b ((hιm i him).trans hi)
     exact ⟨cur,e,h1,h2.trans (hζm i him)⟩
    ·by_cases hex:∃ j,j<m∧G.ι j=some b
     ·obtain ⟨j,hj,hjb⟩:=hex
      obtain ⟨cur,e,h1,h2⟩:=hc.zok j b ((hιm j hj).trans hjb)
      obtain ⟨c1,e1,h3,h4⟩:=h.zok i b hi
      obtain ⟨c2,e2,h5,h6⟩:=h.zok j b hjb
      rw [h3] at h5
      simp only [Option.some.injEq,Obj.cells.injEq] at h5
      refine ⟨cur,e,h1,?_⟩
      show cur.size=G.ζ i
      rw [h2,hζm j hj,← h6,← h5.1,h4]
     ·obtain ⟨c1,e1,h3,h4⟩:=h.zok i b hi
      exact ⟨c1,e1,(hheap b (h.ιlt hi) (fun j hj hjb=>hex ⟨j,hj,hjb⟩)).trans h3,h4⟩
   old:=h.old
   new:=h.new
   blk:=fun k cs hk=>by
    have hk:(ret.blocks++st.blocks.drop m)[k]?=some cs:=hk
    rw [if_neg (show ¬k<st.base by omega)]
    rw [List.getElem?_append,hlen] at hk
    split at hk
    ·rename_i hlt
     have hb:=hc.blk k cs hk
     rw [if_pos (show k<(ret.st m).base from hlt)] at hb
     have h1:Blk ({ G with F:=H.F }:Gh).old w' k cs:=hb.mono (show H.old.le ({ G with F:=H.F }:Gh).old from ⟨Fz.le_refl _,hι,fun d k _ ht=>absurd ht (okTag_false (G:=H.old) hHd rfl d k),fun d k ht=>absurd ht (okTag_false (G:=H.old) hHd rfl d k),hζ⟩)
     exact h1.mono (Gh.old_le _)
    ·rename_i hge
     rw [List.getElem?_drop,show m+(k-m)=k by omega] at hk
     have hb:=h.blk k cs hk
     rw [if_neg (show ¬k<st.base by omega)] at hb
     cases hd:G.dd k with
     |false=>
      refine (hb.world (w':=w') fun b hb=>hheap b (h.ιlt hb) (fun j hj hjb=>?_)).mono hle
      have:=h.inj j k b (hdm j hj) hd hjb hb
      omega
     |true=>
      have:=h.ddb k hd
      rw [hk] at this
      simp only [Option.some.injEq] at this;subst this
      obtain ⟨b,cur,e,hi,_⟩:=hb
      by_cases hex:∃ j,j<m∧G.ι j=some b
      ·obtain ⟨j,hj,hjb⟩:=hex
       obtain ⟨c2,e2,h1,h2⟩:=hc.zok j b ((hιm j hj).trans hjb)
       exact Blk.dead (by exact hi) h1
      ·obtain ⟨c1,e1,h3,h4⟩:=h.zok k b hi
       exact Blk.dead (by exact hi) ((hheap b (h.ιlt hi) (fun j hj hjb=>hex ⟨j,hj,hjb⟩)).trans h3)
   tok:=fun g hg=>by
    obtain ⟨h1,a,len,cap,sz,h2,h3⟩:=h.tok g hg
    refine ⟨h1,a,len,cap,sz,h2,?_⟩
    rcases h3 with h3|⟨b,e,cur,r1,r2,r3,r4,r5,r6,r7,r8,r9⟩
    ·exact .inl h3
    ·have hb:=(Array.getElem?_eq_some_iff.1 r4).1
     exact .inr ⟨b,e,cur,r1,r2,r3,(hheap b hb (fun i _=>r9 i)).trans r4,r5,r6,r7,fun o ho=>(hold b o hb).trans (r8 o ho),r9⟩
   tinj:=h.tinj }
theorem Rl.callT (h:Rl w0 G0 st G w) (hdep:st.dep=0) {m:Nat} (hm:m≤st.blocks.length) (hb0:st.base=0) (hne:∀ i,i<m→st.blocks[i]?≠some []) {ret:Ret} {H:Gh} {w':World} (hc:Rl w (G.bare.cut m) (ret.st m) H w') (hlen:ret.blocks.length=m) :
  Rl w0 G0 { st with blocks:=ret.blocks++st.blocks.drop m,live:=ret.live.map (st.gn+·)++st.live,gn:=st.gn+ret.gn } (G.bck H) w'∧G.le (G.bck H)∧(G.imp H 0 H.gn).le (G.bck H):=by
 have hGd:G.dep=0:=h.dep.trans hdep
 have hHd:H.dep=0:=hc.dep
 have hHg:H.gn=ret.gn:=hc.gn
 have hold:∀ b o,b<w.heap.size→H.F b o=G.F b o:=fun b o hb=>hc.Fnew b o hb
 have hιm:∀ i,i<m→H.ι i=G.ι i:=fun i hi=>by
  have:=hc.ι0 i (show i<(ret.st m).base from hi)
  rw [this]
  show (if i<m then G.ι i else none)=_
  rw [if_pos hi]
 have hι:∀ i b,H.ι i=some b→G.ι i=some b:=fun i b hi=>by
  have hlt:i<m:=by rw [← hlen];exact hc.lt i b hi
  rw [← hιm i hlt];exact hi
 have hdm:∀ i,i<m→G.dd i=false:=fun i hi=>by
  cases hd:G.dd i with
  |false=>rfl
  |true=>exact absurd (h.ddb i hd) (hne i hi)
 have hheap:∀ b,b<w.heap.size→(∀ i,i<m→G.ι i≠some b)→w'.heap[b]?=w.heap[b]?:=fun b hb hn=>hc.wx.block b hb (by
  rintro ⟨i,hi,hi2⟩
  have hi:i<m:=hi
  have hi2:(if i<m then G.ι i else none)=some b:=hi2
  rw [if_pos hi] at hi2
  exact hn i hi hi2)
 have hζm:∀ i,i<m→H.ζ i=G.ζ i:=fun i hi=>hc.ζ0 i (show i<(ret.st m).base from hi)
 have hζ:∀ i b,H.ι i=some b→G.ζ i=H.ζ i:=fun i b hi=>by
  have hlt:i<m:=by rw [← hlen];exact hc.lt i b hi
  exact (hζm i hlt).symm
 have hle:G.le (G.bck H):=
  ⟨hc.F0,fun _ _ h=>h,
   fun d k v ht hv=>by
   have hv':(if d=0∧G.gn≤k then H.τ 0 (k-G.gn) else G.τ d k)=some v:=hv
   rw [if_neg] at hv'
   ·exact hv'
   ·rintro ⟨rfl,hk⟩
    rcases ht with ht|⟨_,ht⟩
    ·rw [hGd] at ht;exact Nat.not_lt_zero _ ht
    ·omega,
   fun d k ht=>by
   rcases ht with ht|⟨h1,ht⟩
   ·rw [hGd] at ht;exact absurd ht (Nat.not_lt_zero _)
   ·exact .inr ⟨h1,Nat.lt_add_right _ ht⟩,
   fun _ _ _=>rfl⟩
 have hτold:∀ g,g∈st.live→(G.bck H).τ st.dep g=G.τ st.dep g:=fun g hg=>by
  show (if st.dep=0∧G.gn≤g then _ else G.τ st.dep g)=_
  rw [if_neg (by rintro ⟨_,hk⟩;have:=(h.tok g hg).1;rw [h.gn] at hk;omega)]
 have hτnew:∀ g,(G.bck H).τ st.dep (st.gn+g)=H.τ 0 g:=fun g=>by
  show (if st.dep=0∧G.gn≤st.gn+g then H.τ 0 (st.gn+g-G.gn) else _)=_
  rw [if_pos ⟨hdep,by rw [h.gn];omega⟩,h.gn,Nat.add_sub_cancel_left]
 refine ⟨?_,hle,⟨Fz.le_refl _,fun i b hi=>hι i b hi,fun d k v ht hv=>hv,fun d k ht=>by
  rcases ht with ht|⟨h1,ht⟩
  ·exact absurd ht (Nat.not_lt_zero _)
  ·exact .inr ⟨by show d=G.dep;rw [hGd];exact h1,ht⟩,fun i b hi=>hζ i b hi⟩⟩
 have hbl:(ret.blocks++st.blocks.drop m).length=st.blocks.length:=by rw [List.length_append,hlen,List.length_drop];omega
 exact
  {dep:=h.dep,dep0:=h.dep0,gn:=by show G.gn+H.gn=st.gn+ret.gn;rw [h.gn,hHg]
   F0:=Fz.le_trans h.F0 hc.F0
   Fnew:=fun b o hb=>(hold b o (Nat.lt_of_lt_of_le hb h.wx.size)).trans (h.Fnew b o hb)
   ι0:=h.ι0
   τ0:=fun d g hd=>by have hd:d<st.dep:=hd;rw [hdep] at hd;exact absurd hd (Nat.not_lt_zero _)
   wx:=⟨hc.wx.os.trans h.wx.os,hc.wx.tape.trans h.wx.tape,hc.wx.output.trans h.wx.output,Nat.le_trans h.wx.size hc.wx.size,fun b hb hT=>by
    rw [hheap b (Nat.lt_of_lt_of_le hb h.wx.size) (fun i _ hi=>?_)]
    ·exact h.wx.block b hb hT
    ·have:=h.new i b (by omega) hi;omega⟩
   base:=by show st.base≤_;omega
   fz:=hc.fz
   inj:=h.inj
   lt:=fun i b hi=>by show i<(ret.blocks++st.blocks.drop m).length;rw [hbl];exact h.lt i b hi
   sep:=fun i b o hd hi=>(hold b o (h.ιlt (i:=i) hi)).trans (h.sep i b o hd hi)
   ddb:=fun i hd=>by
    have h1:=h.ddb i hd
    have hi:¬i<m:=fun hi=>by have hd:G.dd i=true:=hd;rw [hdm i hi] at hd;cases hd
    show (ret.blocks++st.blocks.drop m)[i]?=some []
    rw [List.getElem?_append_right (by omega),List.getElem?_drop,hlen,show m+(i-m)=i by omega]
    exact h1
   dd0:=h.dd0
   ζ0:=h.ζ0
   zok:=fun i b hi=>by
    by_cases him:i<m
    ·obtain ⟨cur,e,h1,h2⟩:=hc.zok i b ((hιm i him).trans hi)
     exact ⟨cur,e,h1,h2.trans (hζm i him)⟩
    ·by_cases hex:∃ j,j<m∧G.ι j=some b
     ·obtain ⟨j,hj,hjb⟩:=hex
      obtain ⟨cur,e,h1,h2⟩:=hc.zok j b ((hιm j hj).trans hjb)
      obtain ⟨c1,e1,h3,h4⟩:=h.zok i b hi
      obtain ⟨c2,e2,h5,h6⟩:=h.zok j b hjb
      rw [h3] at h5
      simp only [Option.some.injEq,Obj.cells.injEq] at h5
      refine ⟨cur,e,h1,?_⟩
      show cur.size=G.ζ i
      rw [h2,hζm j hj,← h6,← h5.1,h4]
     ·obtain ⟨c1,e1,h3,h4⟩:=h.zok i b hi
      exact ⟨c1,e1,(hheap b (h.ιlt hi) (fun j hj hjb=>hex ⟨j,hj,hjb⟩)).trans h3,h4⟩
   old:=h.old
   new:=h.new
   blk:=fun k cs hk=>by
    have hk:(ret.blocks++st.blocks.drop m)[k]?=some cs:=hk
    rw [if_neg (show ¬k<st.base by omega)]
    rw [List.getElem?_append,hlen] at hk
    split at hk
    ·rename_i hlt
     have hb:=hc.blk k cs hk
     rw [if_pos (show k<(ret.st m).base from hlt)] at hb
     have h1:Blk (G.bck H).old w' k cs:=hb.mono (show H.old.le (G.bck H).old from ⟨Fz.le_refl _,hι,fun d k _ ht=>absurd ht (okTag_false (G:=H.old) hHd rfl d k),fun d k ht=>absurd ht (okTag_false (G:=H.old) hHd rfl d k),hζ⟩)
     exact h1.mono (Gh.old_le _)
    ·rename_i hge
     rw [List.getElem?_drop,show m+(k-m)=k by omega] at hk
     have hb:=h.blk k cs hk
     rw [if_neg (show ¬k<st.base by omega)] at hb
     cases hd:G.dd k with
     |false=>
      refine (hb.world (w':=w') fun b hb=>hheap b (h.ιlt hb) (fun j hj hjb=>?_)).mono hle
      have:=h.inj j k b (hdm j hj) hd hjb hb
      omega
     |true=>
      have:=h.ddb k hd
      rw [hk] at this
      simp only [Option.some.injEq] at this;subst this
      obtain ⟨b,cur,e,hi,_⟩:=hb
      by_cases hex:∃ j,j<m∧G.ι j=some b
      ·obtain ⟨j,hj,hjb⟩:=hex
       obtain ⟨c2,e2,h1,h2⟩:=hc.zok j b ((hιm j hj).trans hjb)
       exact Blk.dead (by exact hi) h1
      ·obtain ⟨c1,e1,h3,h4⟩:=h.zok k b hi
       exact Blk.dead (by exact hi) ((hheap b (h.ιlt hi) (fun j hj hjb=>hex ⟨j,hj,hjb⟩)).trans h3)
   tok:=fun g hg=>by
    rcases List.mem_append.1 hg with hg|hg
    ·obtain ⟨g',hg',rfl⟩:=List.mem_map.1 hg
     obtain ⟨h1,a,len,cap,sz,h2,h3⟩:=hc.tok g' hg'
     refine ⟨Nat.add_lt_add_left h1 _,a,len,cap,sz,(hτnew g').trans h2,?_⟩
     rcases h3 with h3|⟨b,e,cur,r1,r2,r3,r4,r5,r6,r7,r8,r9⟩
     ·exact .inl h3
     ·refine .inr ⟨b,e,cur,r1,r2,Nat.le_trans h.wx.size r3,r4,r5,r6,r7,r8,fun i hi=>?_⟩
      have:=h.ιlt (i:=i) hi;omega
    ·obtain ⟨h1,a,len,cap,sz,h2,h3⟩:=h.tok g hg
     refine ⟨Nat.lt_add_right _ h1,a,len,cap,sz,(hτold g hg).trans h2,?_⟩
     rcases h3 with h3|⟨b,e,cur,r1,r2,r3,r4,r5,r6,r7,r8,r9⟩
     ·exact .inl h3
     ·have hb:=(Array.getElem?_eq_some_iff.1 r4).1
      exact .inr ⟨b,e,cur,r1,r2,r3,(hheap b hb (fun i _=>r9 i)).trans r4,r5,r6,r7,fun o ho=>(hold b o hb).trans (r8 o ho),r9⟩
   tinj:=fun g g' hg hg' hgg b l c s l' c' s' h1 h2=>by
    have mixed:∀ k k',k∈ret.live→k'∈st.live→∀ l c s l' c' s',H.τ 0 k=some (.slice (some ⟨b,0,none⟩) l c,s)→G.τ st.dep k'=some (.slice (some ⟨b,0,none⟩) l' c',s')→l=c∨l'=c':=by
     intro k k' hk hk' l c s l' c' s' h1 h2
     obtain ⟨_,a,len,cap,sz,h3,h4⟩:=hc.tok k hk
     have h3':H.τ 0 k=_:=h3
     rw [h1] at h3';simp at h3'
     obtain ⟨⟨rfl,rfl,rfl⟩,rfl⟩:=h3'
     obtain ⟨_,a,len,cap,sz,h5,h6⟩:=h.tok k' hk'
     rw [h2] at h5;simp at h5
     obtain ⟨⟨rfl,rfl,rfl⟩,rfl⟩:=h5
     rcases h4 with h4|⟨b1,e,cur,r1,r2,r3,r4,_⟩
     ·exact .inl h4
     ·rcases h6 with h6|⟨b2,e2,cur2,q1,q2,q3,q4,_⟩
      ·exact .inr h6
      ·simp at r2 q2;subst r2;subst q2
       have:=(Array.getElem?_eq_some_iff.1 q4).1;omega
    rcases List.mem_append.1 hg with hg|hg<;>rcases List.mem_append.1 hg' with hg'|hg'
    ·obtain ⟨k,hk,rfl⟩:=List.mem_map.1 hg
     obtain ⟨k',hk',rfl⟩:=List.mem_map.1 hg'
     exact hc.tinj k k' hk hk' (by rintro rfl;exact hgg rfl) b l c s l' c' s' ((hτnew k).symm.trans h1) ((hτnew k').symm.trans h2)
    ·obtain ⟨k,hk,rfl⟩:=List.mem_map.1 hg
     exact mixed k g' hk hg' l c s l' c' s' ((hτnew k).symm.trans h1) ((hτold g' hg').symm.trans h2)
    ·obtain ⟨k',hk',rfl⟩:=List.mem_map.1 hg'
     exact (mixed k' g hk' hg l' c' s' l c s ((hτnew k').symm.trans h2) ((hτold g hg).symm.trans h1)).symm
    ·exact h.tinj g g' hg hg' hgg b l c s l' c' s' ((hτold g hg).symm.trans h1) ((hτold g' hg').symm.trans h2) }
theorem Stay.callP {m n:Nat} {ret:Ret} {H:Gh} {w':World} (hc:Rl w (G.bare.cut m) (ret.st n) H w') (bl:List (List V)) :
  Stay st G w { st with blocks:=bl } { G with F:=H.F } w':=fun b o hL=>
 ⟨by
  rw [hc.wx.block b hL.lt (by
   rintro ⟨i,_,hi⟩
   have hi:(if i<m then G.ι i else none)=some b:=hi
   split at hi
   ·exact hL.ι i hi
   ·cases hi)]
  exact hL.heap,hL.ι,fun k=>(hc.Fnew b k hL.lt).trans (hL.F k),hL.tok⟩
theorem Stay.callT (h:Rl w0 G0 st G w) (hdep:st.dep=0) {m n:Nat} {ret:Ret} {H:Gh} {w':World} (hc:Rl w (G.bare.cut m) (ret.st n) H w') (bl:List (List V)) :
  Stay st G w { st with blocks:=bl,live:=ret.live.map (st.gn+·)++st.live,gn:=st.gn+ret.gn } (G.bck H) w':=fun b o hL=>by
 refine ⟨?_,hL.ι,fun k=>(hc.Fnew b k hL.lt).trans (hL.F k),fun g hg l c s hτ=>?_⟩
 ·rw [hc.wx.block b hL.lt (by
   rintro ⟨i,_,hi⟩
   have hi:(if i<m then G.ι i else none)=some b:=hi
   split at hi
   ·exact hL.ι i hi
   ·cases hi)]
  exact hL.heap
 ·rcases List.mem_append.1 hg with hg|hg
  ·obtain ⟨g',hg',rfl⟩:=List.mem_map.1 hg
   have hτ':(if st.dep=0∧G.gn≤st.gn+g' then H.τ 0 (st.gn+g'-G.gn) else G.τ st.dep (st.gn+g'))=some (.slice (some ⟨b,0,none⟩) l c,s):=hτ
   rw [if_pos ⟨hdep,by rw [h.gn];omega⟩,h.gn,Nat.add_sub_cancel_left] at hτ'
   obtain ⟨_,a,len,cap,sz,h2,h3⟩:=hc.tok g' hg'
   have h2':H.τ 0 g'=_:=h2
   rw [hτ'] at h2';simp at h2'
   obtain ⟨⟨rfl,rfl,rfl⟩,rfl⟩:=h2'
   rcases h3 with h3|⟨b2,e,cur,r1,r2,r3,_⟩
   ·exact h3
   ·simp at r2;subst r2
    have:=hL.lt;omega
  ·have hτ':(if st.dep=0∧G.gn≤g then H.τ 0 (g-G.gn) else G.τ st.dep g)=some (.slice (some ⟨b,0,none⟩) l c,s):=hτ
   rw [if_neg (by rintro ⟨_,hk⟩;have:=(h.tok g hg).1;rw [h.gn] at hk;omega)] at hτ'
   exact hL.tok g hg l c s hτ'
theorem vPre_some {st:St} {as:List V} {pb:List (List V)} (h:vPre st as=some pb):st.base=0∧pb.length≤st.blocks.length∧pb=(st.blocks.take pb.length).map V.erL∧(∀ v∈as,v.ltb pb.length=true)∧(∀ b∈pb,V.ltbL pb.length b=true)∧∀ i,i<pb.length→st.blocks[i]?≠some []:=by
 unfold vPre at h
 split at h
 case isFalse=>cases h
 rename_i hb
 split at h
 case isFalse=>cases h
 rename_i hp
 simp only [Option.some.injEq] at h
 rw [h] at hp
 unfold preOk at hp
 simp only [Bool.and_eq_true,beq_iff_eq] at hp
 obtain ⟨h1,h2,h3⟩:=hp
 rw [← h1] at h h2 h3
 refine ⟨hb,?_,h.symm,fun v hv=>List.all_eq_true.1 h2 v hv,fun b hb=>?_,fun i hi he=>?_⟩
 ·have:=congrArg List.length h
  rw [List.length_map,List.length_take] at this
  omega
 ·have:=List.all_eq_true.1 h3 b hb
  simp only [Bool.and_eq_true] at this
  exact this.2
 ·have hmem:([]:List V)∈pb:=by
   rw [← h]
   refine List.mem_map.2 ⟨[],?_,rfl⟩
   exact List.mem_of_getElem? (i:=i) (by rw [List.getElem?_take,if_pos hi];exact he)
  have:=List.all_eq_true.1 h3 [] hmem
  simp at this
def OrcOk (P:Program) (C:Orc):Prop:=∀ f args blks ret,C f args blks=some ret→VC P f args blks ret
def inArgs (gn base:Nat) (lv:List Nat) (as:List V):List V:=.tup (.fn gn []::.fn base []::lv.map (fun g=>.fn g []))::as
def unIds:List V→Option (List Nat)
 |[]=>some []
 |.fn g []::l=>match unIds l with
  |some r=>some (g::r)
  |none=>none
 |_::_=>none
def unIn:List V→Option (Nat×Nat×List Nat×List V)
 |.tup (.fn gn []::.fn base []::l)::as=>match unIds l with
  |some lv=>some (gn,base,lv,as)
  |none=>none
 |_=>none
theorem unIds_map:∀ lv:List Nat,unIds (lv.map (fun g=>.fn g []))=some lv
 |[]=>rfl
 |g::lv=>by simp only [List.map_cons,unIds,unIds_map lv]
theorem unIds_some:∀ {l:List V} {lv:List Nat},unIds l=some lv→l=lv.map (fun g=>.fn g [])
 |[],lv,h=>by simp [unIds] at h;subst h;rfl
 |v::l,lv,h=>by
  unfold unIds at h
  split at h
  ·rename_i hn;cases hn
  ·rename_i g l' he
   split at h
   ·rename_i r hr
    simp only [Option.some.injEq] at h;subst h
    simp only [List.cons.injEq] at he
    obtain ⟨rfl,rfl⟩:=he
    rw [unIds_some hr];rfl
   ·cases h
  ·cases h
theorem unIn_in (gn base:Nat) (lv:List Nat) (as:List V):unIn (inArgs gn base lv as)=some (gn,base,lv,as):=by
 simp only [inArgs,unIn,unIds_map]
theorem unIn_some {l:List V} {gn base:Nat} {lv:List Nat} {as:List V} (h:unIn l=some (gn,base,lv,as)):l=inArgs gn base lv as:=by
 unfold unIn at h
 split at h
 ·split at h
  ·rename_i r hr
   simp only [Option.some.injEq,Prod.mk.injEq] at h
   obtain ⟨rfl,rfl,rfl,rfl⟩:=h
   rw [unIds_some hr];rfl
  ·cases h
 ·cases h
def VI (P:Program) (f:FuncId) (as:List V) (st:St) (ret:Ret):Prop:=
 ∀ (w0:World) (G0 G:Gh) (w:World) (xs:Array Value),G0.dep=0→RelL G as xs→Rl w0 G0 st G w →
  Calls P f xs w fun e w'=>∃ v G',e=.returned v∧RelV G' ret.r v∧Rl w0 G0 { st with blocks:=ret.blocks,live:=ret.live,gn:=ret.gn } G' w'∧G.le G'∧Stay st G w { st with blocks:=ret.blocks,live:=ret.live,gn:=ret.gn } G' w'
def OrcAt (P:Program) (f:FuncId) (args:List V) (blks:List (List V)) (ret:Ret):Prop:=
 (f<1000000→VC P f args blks ret)∧(1000000≤f→∀ gn base lv as,args=inArgs gn base lv as→VI P (f-1000000) as ⟨[],blks,lv,gn,base,0⟩ ret)
def OrcOk2 (P:Program) (C:Orc):Prop:=∀ f args blks ret,C f args blks=some ret→OrcAt P f args blks ret
theorem ltb0_rel {v:V} {x:Value} (h:RelV G v x) (hd:G.dep=0) (hg:G.gn=0) (hl:v.ltb 0=true):RelV { F:=G.F,ι:=fun _=>none,τ:=fun _ _=>none,dep:=0,gn:=0 } v x:=by
 have h1:=h.cut hl
 exact h1.mono (show (G.cut 0).le { F:=G.F,ι:=fun _=>none,τ:=fun _ _=>none,dep:=0,gn:=0 } from ⟨Fz.le_refl _,fun i b hi=>by simp [Gh.cut] at hi,fun d k _ ht=>absurd ht (okTag_false (G:=G.cut 0) hd hg d k),fun d k ht=>absurd ht (okTag_false (G:=G.cut 0) hd hg d k),fun i b hi=>by simp [Gh.cut] at hi⟩)
theorem vCall_sound {C:Orc} (hC:OrcOk2 P C) (h:Rl w0 G0 st G w) (hdep:st.dep=0) {f:FuncId} (hlt:f<1000000) {args:List V} {xs:Array Value} (ha:RelL G args xs) {r:V} {st':St} (hr:vCall C st f args=some (r,st')) :
  Calls P f xs w fun e w'=>∃ v G',e=.returned v∧RelV G' r v∧Rl w0 G0 st' G' w'∧G.le G'∧Stay st G w st' G' w':=by
 have hGd:G.dep=0:=h.dep.trans hdep
 have her:RelL G.old (args.map V.er) xs:=⟨by simpa using ha.1,fun j c x hj hx=>by
  rw [List.getElem?_map] at hj
  obtain ⟨c0,hc0,rfl⟩:=Option.map_eq_some_iff.1 hj
  exact (ha.2 j c0 x hc0 hx).er⟩
 unfold vCall at hr
 split at hr
 ·rename_i hall
  split at hr
  case h_2=>cases hr
  rename_i ret hret
  simp only [Option.some.injEq,Prod.mk.injEq] at hr
  obtain ⟨rfl,rfl⟩:=hr
  refine Calls.mono ((hC f _ [] ret hret).1 hlt _ w xs ⟨her.1,fun j c x hj hx=>?_⟩ h.entry0) ?_
  ·have hl:c.ltb 0=true:=List.all_eq_true.1 hall c (List.mem_of_getElem? hj)
   exact ltb0_rel (G:=G.old) (her.2 j c x hj hx) hGd rfl hl
  ·rintro e w' ⟨v,H,rfl,hv,hc⟩
   obtain ⟨hR,hle⟩:=h.call0 hdep hc
   refine ⟨v,_,rfl,?_,hR,hle,Stay.call0 h hdep hc _⟩
   rw [← h.gn]
   exact hv.imp hc.dep
 ·split at hr
  case h_1=>
   rename_i pb hpb
   obtain ⟨p1,p2,p3,p4,p5,p6⟩:=vPre_some hpb
   split at hr
   case h_2=>cases hr
   rename_i ret hret
   have he:=h.entryP hdep p2 (by rw [← p3];exact p5)
   rw [← p3] at he
   have harg:RelL (G.bare.cut pb.length) (args.map V.er) xs:=⟨her.1,fun j c x hj hx=>((her.2 j c x hj hx).cut (p4 c (List.mem_of_getElem? hj))).mono
    (show (G.old.cut pb.length).le (G.bare.cut pb.length) from ⟨Fz.le_refl _,fun _ _ h=>h,fun d k _ ht=>absurd ht (okTag_false (G:=G.old.cut pb.length) hGd rfl d k),fun d k ht=>absurd ht (okTag_false (G:=G.old.cut pb.length) hGd rfl d k),fun _ _ _=>rfl⟩)⟩
   split at hr
   ·rename_i hcond
    obtain ⟨hlive,hgn,hlen⟩:=hcond
    simp only [Option.some.injEq,Prod.mk.injEq] at hr
    obtain ⟨rfl,rfl⟩:=hr
    refine Calls.mono ((hC f _ _ ret hret).1 hlt (G.bare.cut pb.length) w xs harg he) ?_
    rintro e w' ⟨v,H,rfl,hv,hc⟩
    obtain ⟨hR,hle,hle2⟩:=h.callP hdep p2 p1 p6 hc hgn hlen
    exact ⟨v,_,rfl,hv.mono hle2,hR,hle,Stay.callP hc _⟩
   ·split at hr
    case isFalse=>cases hr
    rename_i hlen
    simp only [Option.some.injEq,Prod.mk.injEq] at hr
    obtain ⟨rfl,rfl⟩:=hr
    refine Calls.mono ((hC f _ _ ret hret).1 hlt (G.bare.cut pb.length) w xs harg he) ?_
    rintro e w' ⟨v,H,rfl,hv,hc⟩
    obtain ⟨hR,hle,hle2⟩:=h.callT hdep p2 p1 p6 hc hlen
    refine ⟨v,_,rfl,?_,hR,hle,Stay.callT h hdep hc _⟩
    rw [← h.gn]
    exact (hv.imp (n:=0) hc.dep).mono hle2
  split at hr
  case h_2=>cases hr
  rename_i ret hret
  split at hr
  case isFalse=>cases hr
  rename_i hcond
  obtain ⟨hlive,hgn,hlen⟩:=hcond
  simp only [Option.some.injEq,Prod.mk.injEq] at hr
  obtain ⟨rfl,rfl⟩:=hr
  refine Calls.mono ((hC f _ _ ret hret).1 hlt G.bare w xs ⟨her.1,fun j c x hj hx=>(her.2 j c x hj hx).mono ?_⟩ (h.entryB hdep)) ?_
  ·exact ⟨Fz.le_refl _,fun _ _ h=>h,fun d k _ ht=>absurd ht (okTag_false (G:=G.old) hGd rfl d k),fun d k ht=>absurd ht (okTag_false (G:=G.old) hGd rfl d k),fun _ _ _=>rfl⟩
  ·rintro e w' ⟨v,H,rfl,hv,hc⟩
   rw [List.length_map] at hc
   obtain ⟨hR,hle,hle2⟩:=h.callB hdep hc hgn hlen
   exact ⟨v,_,rfl,hv.mono hle2,hR,hle,Stay.callB hc _⟩
end
end Go.VM
namespace Go.VM
structure VOper where
 dst:Option Nat
 op:VOp
 guard:Option (Nat×Bool)
 deriving Inhabited
def vInl (C:Orc) (st:St) (f:FuncId) (as:List V):Option (V×St):=
 match C (f+1000000) (inArgs st.gn st.base st.live as) st.blocks with
 |some ret=>if st.blocks.length≤ret.blocks.length then some (ret.r,{ st with blocks:=ret.blocks,live:=ret.live,gn:=ret.gn }) else none
 |none=>none
def vStep (C:Orc) (st:St) (vo:VOp):Option (V×St):=
 match vo with
 |.box cells=>some (.ptr st.blocks.length 0,{ st with blocks:=st.blocks++[cells] })
 |.boxv n x=>match (x.ev st.tmps).cells with
  |some cs=>if cs.length=n∧cs.all V.isCell then some (.ptr st.blocks.length 0,{ st with blocks:=st.blocks++[cs] }) else none
  |none=>none
 |.buildSl len sz zero parts false=>(vBuildSl st.tmps len sz zero parts).map (·,st)
 |.buildSl len sz zero parts true=>vBuildSlM st st.tmps len sz zero parts
 |.mkSl zero len cap _=>(vMkSl zero (len.ev st.tmps) (cap.ev st.tmps)).map (·,st)
 |.sBytes x=>match (x.ev st.tmps).str with
  |some s=>if s.size≤16777216 then some (.d (.sl (strRows s)),st) else none
  |none=>none
 |.store a x n=>(vStore st (a.ev st.tmps) (x.ev st.tmps) n).map (.any,·)
 |.app sz x y false=>match vRows (y.ev st.tmps) with
  |some ms=>vApp st sz (x.ev st.tmps) ms
  |none=>none
 |.app sz x y true=>match vRows (y.ev st.tmps) with
  |some ms=>vAppM st sz (x.ev st.tmps) ms
  |none=>none
 |.frz x ld=>match vPure (fun id=>st.blocks[id]?) (VArg.ev st.tmps) (frzIn x ld) with
  |some v=>some (v.frz st.blocks st.base,{ st with blocks:=killL st.blocks (v.locs st.base) })
  |none=>none
 |.call f args=>if f<1000000 then vCall C st f (args.map (VArg.ev st.tmps)) else none
 |.callv x args=>match x.ev st.tmps with
  |.fn f caps=>if f<1000000 then vCall C st f (args.map (VArg.ev st.tmps)++caps) else none
  |_=>none
 |.inl f args=>vInl C st f (args.map (VArg.ev st.tmps))
 |vo=>(vPure (fun id=>st.blocks[id]?) (VArg.ev st.tmps) vo).map (·,st)
section
variable {P:Program}
inductive Ceff (P:Program):Op→VOp→Prop
 |alloc {e:TypeId} {i:TypeInfo} {z:Value} {cells:List V} (hi:P.info? e=some i) (hz:i.zero=some z) (hc:∀ G,RelC G cells z.cells):Ceff P (.alloc e) (.box cells)
 |box {e:TypeId} {n:Nat} {x:Operand} {vx:VArg} (hx:CArg x vx):Ceff P (.box e x) (.boxv n vx)
 |buildSl {t e:TypeId} {i:TypeInfo} {z:Value} {len:Nat} {zero:List V} {ps:Array (Nat×Operand)} {vps:List (Nat×VArg)} (hu:P.underlying t=some (.slice e)) (hi:P.info? e=some i) (hz:i.zero=some z)
   (hzs:z.cells.size=i.size) (hpos:0<i.size) (hz0:∀ G,RelC G zero z.cells) (hlen:len*i.size≤16777216) (hp:CParts1 ps.toList vps):Ceff P (.buildSlice t len ps) (.buildSl len i.size zero vps false)
 |buildSlM {t e:TypeId} {i:TypeInfo} {z:Value} {len:Nat} {zero:List V} {ps:Array (Nat×Operand)} {vps:List (Nat×VArg)} (hu:P.underlying t=some (.slice e)) (hi:P.info? e=some i) (hz:i.zero=some z)
   (hzs:z.cells.size=i.size) (hpos:0<i.size) (hz0:∀ G,RelC G zero z.cells) (hlen:len*i.size≤16777216) (hp:CParts1 ps.toList vps):Ceff P (.buildSlice t len ps) (.buildSl len i.size zero vps true)
 |mkC {t e:TypeId} {i:TypeInfo} {z:Value} {n:Nat} {zero:List V} {mt:Bool} (hu:P.underlying t=some (.slice e)) (hi:P.info? e=some i) (hz:i.zero=some z)
   (hzs:z.cells.size=i.size) (hpos:0<i.size) (hby:i.bytes≤32768) (hz0:∀ G,RelC G zero z.cells) (hn:n≤1024) (hlen:n*i.size≤16777216):Ceff P (.makeSlice t (.const (.int .i64 (n:Int))) (.const (.int .i64 (n:Int)))) (.buildSl n i.size zero [] mt)
 |mk {t e:TypeId} {i:TypeInfo} {z:Value} {l c:Operand} {vl vc:VArg} {zero:List V} (hu:P.underlying t=some (.slice e)) (hi:P.info? e=some i) (hz:i.zero=some z)
   (hzs:z.cells.size=i.size) (hpos:0<i.size) (hby:i.bytes≤32768) (hz0:∀ G,RelC G zero z.cells) (hl:CArg l vl) (hc:CArg c vc):Ceff P (.makeSlice t l c) (.mkSl zero vl vc false)
 |sBytes {s t e:TypeId} {x:Operand} {vx:VArg} (hx:CArg x vx) (hs:P.underlying s=some .string) (ht:P.underlying t=some (.slice e)) (he:P.underlying e=some (.int .u8)):Ceff P (.convert s t x) (.sBytes vx)
 |store {t:TypeId} {i:TypeInfo} {a x:Operand} {va vx:VArg} (hi:P.info? t=some i) (ha:CArg a va) (hx:CArg x vx):Ceff P (.store t a x) (.store va vx i.size)
 |app {t e:TypeId} {i:TypeInfo} {z:Value} {x y:Operand} {vx vy:VArg} (hu:P.underlying t=some (.slice e)) (hi:P.info? e=some i) (hz:i.zero=some z) (hzs:z.cells.size=i.size) (hpos:0<i.size)
   (hby:i.bytes≤32768) (hx:CArg x vx) (hy:CArg y vy):Ceff P (.call { callee:=.builtin .append,args:=#[x,y],argTypes:=#[t,t] }) (.app i.size vx vy false)
 |appM {t e:TypeId} {i:TypeInfo} {z:Value} {x y:Operand} {vx vy:VArg} (hu:P.underlying t=some (.slice e)) (hi:P.info? e=some i) (hz:i.zero=some z) (hzs:z.cells.size=i.size) (hpos:0<i.size)
   (hby:i.bytes≤32768) (hx:CArg x vx) (hy:CArg y vy):Ceff P (.call { callee:=.builtin .append,args:=#[x,y],argTypes:=#[t,t] }) (.app i.size vx vy true)
 |frz {o:Op} {x:VArg} {ld:Option (Nat×Bool)} (h:Cop P o (frzIn x ld)):Ceff P o (.frz x ld)
 | call {f : FuncId} {fn : Func} {args : Array Operand} {ts : Array TypeId} {vargs : List VArg} (hf : P.funcs[f]? = some fn) (hb : fn.body.isNone = false) (hn : (fn.name == "runtime.NumGoroutine") = false)
   (ha:CArgs args.toList vargs):Ceff P (.call { callee:=.value (.func f),args:=args,argTypes:=ts }) (.call f vargs)
 | inl {f : FuncId} {fn : Func} {args : Array Operand} {ts : Array TypeId} {vargs : List VArg} (hf : P.funcs[f]? = some fn) (hb : fn.body.isNone = false) (hn : (fn.name == "runtime.NumGoroutine") = false)
   (ha:CArgs args.toList vargs):Ceff P (.call { callee:=.value (.func f),args:=args,argTypes:=ts }) (.inl f vargs)
 |callv {x:Operand} {vx:VArg} {args:Array Operand} {ts:Array TypeId} {vargs:List VArg} (hx:CArg x vx) (ha:CArgs args.toList vargs) :
   Ceff P (.call { callee:=.value x,args:=args,argTypes:=ts }) (.callv vx vargs)
inductive Cstep (P:Program):Op→VOp→Prop
 |pure {o:Op} {vo:VOp} (h:Cop P o vo):Cstep P o vo
 |eff {o:Op} {vo:VOp} (h:Ceff P o vo):Cstep P o vo
def OrcFn (P : Program) (C : Orc) : Prop := ∀ f args blks ret, C f args blks = some ret → ∃ fn, P.funcs[f]? = some fn ∧ fn.body.isNone = false ∧ (fn.name == "runtime.NumGoroutine") = false
def OrcFn2 (P : Program) (C : Orc) : Prop := P.funcs.size ≤ 1000000 ∧ ∀ f args blks ret, C f args blks = some ret → f < 1000000 → ∃ fn, P.funcs[f]? = some fn ∧ fn.body.isNone = false ∧ (fn.name == "runtime.NumGoroutine") = false
variable {w0:World} {G0:Gh} {st:St} {G:Gh} {w:World}
theorem run_callFunc {f : FuncId} {fn : Func} {xs : Array Value} (hf : P.funcs[f]? = some fn) (hb : fn.body.isNone = false) (hn : (fn.name == "runtime.NumGoroutine") = false) :
  (callFunc f xs).run P w=.ok (.enter f xs) w:=by
 unfold callFunc
 simp only [Sem.run_bind,run_program,Result.andThen_ok,hf,hn,hb,Bool.false_eq_true,if_false,Sem.run_pure]
theorem vStep_pure {C:Orc} {op:Op} {vo:VOp} (h:Cop P op vo):vStep C st vo=(vPure (fun id=>st.blocks[id]?) (VArg.ev st.tmps) vo).map (·,st):=by
 cases h<;>rfl
theorem step_sound {C:Orc} (hC:OrcOk2 P C) (hFn:OrcFn2 P C) (h:Rl w0 G0 st G w) (hdep:st.dep=0) {a:Act} (ht:RelT G st.tmps a.tmps) {o:Oper} {vo:VOp} (hc:Cstep P o.op vo) {r:V} {st':St}
  (hs:vStep C st vo=some (r,st')) {K:Act→World→Prop} {Q:Exit→Act→World→Prop}
  (hK:∀ x G' w',RelV G' r x→Rl w0 G0 st' G' w'→G.le G'→Stay st G w st' G' w'→K (a.put o.dst x) w'):o.wp P a w K Q:=by
 unfold Oper.wp
 cases hc with
 |pure hp=>
  rw [vStep_pure hp] at hs
  obtain ⟨r',hr',he⟩:=Option.map_eq_some_iff.1 hs
  simp only [Prod.mk.injEq] at he
  obtain ⟨rfl,rfl⟩:=he
  obtain ⟨x,hx,hv⟩:=vPure_sound (w:=w) hp ht (fun id cs hb=>h.blkG id cs hb) h.fz hr'
  rw [hx,Oper.upon_value]
  exact hK x G w hv h G.le_refl (Stay.refl _ _ _)
 |eff he=>
  generalize hop:o.op=op at he
  cases he with
  |alloc hi hz hcs=>
   simp only [vStep,Option.some.injEq,Prod.mk.injEq] at hs
   obtain ⟨rfl,rfl⟩:=hs
   obtain ⟨G',hrun,hR,hle,hv,hst⟩:=box_rel (P:=P) h (hcs G)
   simp only [execOp,hop,Instr.alloc,Sem.run_bind,run_zero' hi hz,Result.andThen_ok,hrun,Sem.run_pure,Oper.upon_value]
   exact hK _ G' _ hv hR hle hst
  |box hx=>
   simp only [vStep] at hs
   split at hs
   case h_2=>cases hs
   rename_i cs hcs
   split at hs
   case isFalse=>cases hs
   rename_i hcond
   simp only [Option.some.injEq,Prod.mk.injEq] at hs
   obtain ⟨rfl,rfl⟩:=hs
   have hcr:=cells_rel (hx.rel ht) hcs
   obtain ⟨G',hrun,hR,hle,hv,hst⟩:=box_rel (P:=P) (v:=a.eval _) h ⟨hcr.1,fun j c x h1 h2=>⟨(hcr.2 j c x h1 h2).2,(hcr.2 j c x h1 h2).1⟩⟩
   simp only [execOp,hop,Instr.box,Sem.run_bind,hrun,Result.andThen_ok,Sem.run_pure,Oper.upon_value]
   exact hK _ G' _ hv hR hle hst
  |sBytes hx hs' htd he=>
   simp only [vStep] at hs
   split at hs
   case h_2=>cases hs
   rename_i s hst
   split at hs
   case isFalse=>cases hs
   rename_i hsz
   simp only [Option.some.injEq,Prod.mk.injEq] at hs
   obtain ⟨rfl,rfl⟩:=hs
   have hv:=V.str_rel (hx.rel ht) hst
   obtain ⟨rv,G',w',hrun,hv',hR,hle,hst'⟩:=sBytes_rel h hs' htd he (x:=s) (Nat.le_trans hsz (by decide))
   simp only [execOp,hop,hv,Sem.run_bind,hrun,Result.andThen_ok,Sem.run_pure,Oper.upon_value]
   exact hK _ G' _ hv' hR hle hst'
  |buildSl hu hi hz hzs hpos hz0 hlen hp=>
   simp only [vStep] at hs
   obtain ⟨r',hr',he⟩:=Option.map_eq_some_iff.1 hs
   simp only [Prod.mk.injEq] at he
   obtain ⟨rfl,rfl⟩:=he
   obtain ⟨rv,G',w',hrun,hv,hR,hle,hst⟩:=buildSl_rel h ht hu hi hz hzs hpos hz0 hlen hp hr'
   simp only [execOp,hop,Sem.run_bind,hrun,Result.andThen_ok,Sem.run_pure,Oper.upon_value]
   exact hK _ G' _ hv hR hle hst
  |buildSlM hu hi hz hzs hpos hz0 hlen hp=>
   simp only [vStep] at hs
   obtain ⟨rv,G',w',hrun,hv,hR,hle,hst⟩:=buildSlM_rel h ht hu hi hz hzs hpos hz0 hlen hp hs
   simp only [execOp,hop,Sem.run_bind,hrun,Result.andThen_ok,Sem.run_pure,Oper.upon_value]
   exact hK _ G' _ hv hR hle hst
  |@mkC t e i z n zero mt hu hi hz hzs hpos hby hz0 hn hlen=>
   have hrun0:∀ a:Act,(execOp a.eval o).run P w=((Instr.buildSlice t n ((#[]:Array (Nat×Operand)).map fun (i,x)=>(i,a.eval x))).run P w).andThen fun v w'=>.ok (.value v) w':=by
    intro a
    simp only [execOp,hop,Sem.run_bind]
    have he:∀ k:Int,a.eval (.const (.int .i64 k))=.int .i64 k:=fun _=>rfl
    rw [he,makeSlice_eq hu hi hz hzs hpos hby hn hlen]
    simp only [Array.map_empty,Sem.run_pure]
   cases mt with
   |false=>
    simp only [vStep] at hs
    obtain ⟨r',hr',he⟩:=Option.map_eq_some_iff.1 hs
    simp only [Prod.mk.injEq] at he
    obtain ⟨rfl,rfl⟩:=he
    obtain ⟨rv,G',w',hrun,hv,hR,hle,hst⟩:=buildSl_rel (ps:=#[]) h ht hu hi hz hzs hpos hz0 hlen .nil hr'
    rw [hrun0,hrun]
    simp only [Result.andThen_ok,Oper.upon_value]
    exact hK _ G' _ hv hR hle hst
   |true=>
    simp only [vStep] at hs
    obtain ⟨rv,G',w',hrun,hv,hR,hle,hst⟩:=buildSlM_rel (ps:=#[]) h ht hu hi hz hzs hpos hz0 hlen .nil hs
    rw [hrun0,hrun]
    simp only [Result.andThen_ok,Oper.upon_value]
    exact hK _ G' _ hv hR hle hst
  |@mk t e i z l c vl vc zero hu hi hz hzs hpos hby hz0 hl hc=>
   simp only [vStep] at hs
   obtain ⟨r',hr',he⟩:=Option.map_eq_some_iff.1 hs
   simp only [Prod.mk.injEq] at he
   obtain ⟨rfl,rfl⟩:=he
   unfold vMkSl at hr'
   split at hr'
   case h_2=>cases hr'
   rename_i n m h1 h2
   split at hr'
   case isFalse=>cases hr'
   rename_i hcond
   obtain ⟨rfl,hn,hlen⟩:=hcond
   have hzl:zero.length=i.size:=by rw [← hzs];exact (hz0 G).1.symm
   rw [hzl] at hr' hlen
   have e1:=V.int_rel (hl.rel ht) h1
   have e2:=V.int_rel (hc.rel ht) h2
   have hr2:vBuildSl st.tmps n i.size zero []=some r':=hr'
   obtain ⟨rv,G',w',hrun,hv,hR,hle,hst⟩:=buildSl_rel (ps:=#[]) h ht hu hi hz hzs hpos hz0 hlen .nil hr2
   have hrun0:(execOp a.eval o).run P w=((Instr.buildSlice t n ((#[]:Array (Nat×Operand)).map fun (i,x)=>(i,a.eval x))).run P w).andThen fun v w'=>.ok (.value v) w':=by
    simp only [execOp,hop,Sem.run_bind]
    rw [e1,e2]
    rw [show Value.int .i64 (Int.ofNat n)=Value.int .i64 (n:Int) from rfl,makeSlice_eq hu hi hz hzs hpos hby hn hlen]
    simp only [Array.map_empty,Sem.run_pure]
   rw [hrun0,hrun]
   simp only [Result.andThen_ok,Oper.upon_value]
   exact hK _ G' _ hv hR hle hst
  |store hi ha hx=>
   simp only [vStep] at hs
   obtain ⟨st1,hr',he⟩:=Option.map_eq_some_iff.1 hs
   simp only [Prod.mk.injEq] at he
   obtain ⟨rfl,rfl⟩:=he
   obtain ⟨w',hrun,hR,hst⟩:=store_rel (P:=P) h (ha.rel ht) (hx.rel ht) hi hr'
   simp only [execOp,hop,Sem.run_bind,hrun,Result.andThen_ok,Sem.run_pure,Oper.upon_skip]
   exact hK _ G _ (.any _) hR G.le_refl hst
  |app hu hi hz hzs hpos hby hx hy=>
   simp only [vStep] at hs
   split at hs
   case h_2=>cases hs
   rename_i ms hms
   obtain ⟨rv,G',w',hrun,hv,hR,hle,hst⟩:=app_rel (P:=P) (ty:=o.type) h (hx.rel ht) hu hi hz hzs hpos hby (rows_rel (hy.rel ht) hms) hs
   simp only [execOp,hop,resolve,invoke,builtin,Sem.run_bind,Sem.run_pure,Result.andThen_ok,List.map_toArray,List.map_cons,List.map_nil,hrun,Oper.upon_value]
   exact hK _ G' _ hv hR hle hst
  |appM hu hi hz hzs hpos hby hx hy=>
   simp only [vStep] at hs
   split at hs
   case h_2=>cases hs
   rename_i ms hms
   obtain ⟨rv,G',w',hrun,hv,hR,hle,hst⟩:=appM_rel (P:=P) (ty:=o.type) h (hx.rel ht) hu hi hz hzs hpos hby (rows_rel (hy.rel ht) hms) hs
   simp only [execOp,hop,resolve,invoke,builtin,Sem.run_bind,Sem.run_pure,Result.andThen_ok,List.map_toArray,List.map_cons,List.map_nil,hrun,Oper.upon_value]
   exact hK _ G' _ hv hR hle hst
  |frz hp=>
   simp only [vStep] at hs
   split at hs
   case h_2=>cases hs
   rename_i v hv
   simp only [Option.some.injEq,Prod.mk.injEq] at hs
   obtain ⟨rfl,rfl⟩:=hs
   subst hop
   obtain ⟨x,hx,hrel⟩:=vPure_sound (w:=w) hp ht (fun id cs hb=>h.blkG id cs hb) h.fz hv
   have hids:=locs_rel (n:=st.base) hrel
   obtain ⟨hR,hst⟩:=h.freeze hids
   have hdd:∀ id cs,st.blocks[id]?=some cs→cs≠[]→G.dd id=false:=fun id cs hcs hne=>by
    cases hd:G.dd id with
    |false=>rfl
    |true=>have:=h.ddb id hd;rw [hcs] at this;simp only [Option.some.injEq] at this;exact absurd this hne
   have hr:=frz_rel (n:=st.base) (S:=fun i=>i∈v.locs st.base) h.fz (fun id cs hb=>h.blkG id cs hb) hdd hrel (fun _ hid=>hid)
   rw [hx,Oper.upon_value]
   exact hK x _ w hr.frzK hR (G.le_frzK w _) hst
  |@call f fn args tys vargs hf hb hn ha=>
   simp only [vStep] at hs
   split at hs
   case isFalse=>cases hs
   rename_i hlt
   obtain ⟨hl,hr⟩:=cargs_rel ht ha (G:=G)
   have:=vCall_sound hC h hdep hlt (xs:=args.map a.eval) ⟨by simpa using hl,fun j c x hj hx=>hr j c x hj (by simpa using hx)⟩ hs
   have hrun:(execOp a.eval o).run P w=.ok (.enter f (args.map a.eval)) w:=by
    simp only [execOp,hop,resolve,Act.eval,Deferred.ofValue,Sem.run_bind,Sem.run_pure,Result.andThen_ok,invoke,Array.empty_append,Array.append_empty]
    exact run_callFunc hf hb hn
   rw [hrun,Oper.upon_enter]
   refine this.mono ?_
   rintro e w' ⟨v,G',rfl,hv,hR,hle,hst⟩
   exact hK _ G' _ hv hR hle hst
  |@inl f fn args tys vargs hf hb hn ha=>
   simp only [vStep,vInl] at hs
   split at hs
   case h_2=>cases hs
   rename_i ret hret
   split at hs
   case isFalse=>cases hs
   simp only [Option.some.injEq,Prod.mk.injEq] at hs
   obtain ⟨rfl,rfl⟩:=hs
   obtain ⟨hl,hr⟩:=cargs_rel ht ha (G:=G)
   have h0:Rl w0 G0 ⟨[],st.blocks,st.live,st.gn,st.base,0⟩ G w:=by
    have h1:Rl w0 G0 { st with tmps:=[] } G w:={ h with }
    rw [← hdep];exact h1
   have:=(hC _ _ _ _ hret).2 (Nat.le_add_left _ _) _ _ _ _ rfl w0 G0 G w (args.map a.eval) (h.dep0.trans hdep) ⟨by simpa using hl,fun j c x hj hx=>hr j c x hj (by simpa using hx)⟩ h0
   rw [Nat.add_sub_cancel] at this
   have hrun:(execOp a.eval o).run P w=.ok (.enter f (args.map a.eval)) w:=by
    simp only [execOp,hop,resolve,Act.eval,Deferred.ofValue,Sem.run_bind,Sem.run_pure,Result.andThen_ok,invoke,Array.empty_append,Array.append_empty]
    exact run_callFunc hf hb hn
   rw [hrun,Oper.upon_enter]
   refine this.mono ?_
   rintro e w' ⟨v,G',rfl,hv,hR,hle,hst⟩
   refine hK _ G' _ hv ?_ hle (fun b o hL=>(hst b o (hL.st (fun _ h=>h) hdep.symm)).st (fun _ h=>h) hdep)
   have h1:Rl w0 G0 ⟨st.tmps,ret.blocks,ret.live,ret.gn,st.base,0⟩ G' w':={ hR with }
   rw [← hdep] at h1;exact h1
  |@callv x vx args tys vargs hx ha=>
   simp only [vStep] at hs
   split at hs
   case h_2=>cases hs
   rename_i f caps hfn
   split at hs
   case isFalse=>cases hs
   rename_i hlt
   have hrel:=hx.rel ht (G:=G)
   rw [hfn] at hrel
   cases hxv:a.eval x<;>rw [hxv] at hrel<;>cases hrel
   rename_i xs hlx hrx
   obtain ⟨hl,hr⟩:=cargs_rel ht ha (G:=G)
   have hsz:args.size=vargs.length:=by simpa using hl
   have hL:RelL G (vargs.map (VArg.ev st.tmps)++caps) (args.map a.eval++xs):=by
    refine ⟨by simp [hsz,hlx],fun j c x hj hx=>?_⟩
    rw [List.getElem?_append] at hj
    rw [Array.getElem?_append] at hx
    simp only [List.length_map,Array.size_map,hsz] at hj hx
    split at hj
    ·rename_i hlt;rw [if_pos hlt] at hx
     exact hr j c x hj (by simpa using hx)
    ·rename_i hlt;rw [if_neg hlt] at hx
     exact hrx _ c x hj hx
   have:=vCall_sound hC h hdep hlt hL hs
   have hcall:∃ ret args' blks',C f args' blks'=some ret:=by
    unfold vCall at hs
    split at hs
    ·split at hs
     ·exact ⟨_,_,_,by assumption⟩
     ·cases hs
    ·split at hs
     ·split at hs
      ·exact ⟨_,_,_,by assumption⟩
      ·cases hs
     ·split at hs
      ·exact ⟨_,_,_,by assumption⟩
      ·cases hs
   obtain ⟨ret,args',blks',hret⟩:=hcall
   obtain ⟨fn,hf,hb,hn⟩:=hFn.2 _ _ _ _ hret hlt
   have hrun:(execOp a.eval o).run P w=.ok (.enter f (args.map a.eval++xs)) w:=by
    simp only [execOp,hop,resolve,hxv,Deferred.ofValue,Sem.run_bind,Sem.run_pure,Result.andThen_ok,invoke,Array.empty_append]
    exact run_callFunc hf hb hn
   rw [hrun,Oper.upon_enter]
   refine this.mono ?_
   rintro e w' ⟨v,G',rfl,hv,hR,hle,hst⟩
   exact hK _ G' _ hv hR hle hst
theorem alloc_early {a:Act} {o:Oper} {cells:List V} (hc:Cstep P o.op (.box cells)) {K:Act→World→Prop} {Q:Exit→Act→World→Prop}
  (hK:∀ (z:Array Value) (e:TypeId),(∀ G,RelC G cells z)→K (a.put o.dst (.pointer (some ⟨w.heap.size,0,none⟩))) (w.alloc (.cells z e))):o.wp P a w K Q:=by
 unfold Oper.wp
 generalize hop:o.op=op at hc
 cases hc with
 |pure hp=>cases hp
 |eff he=>
  cases he with
  |@alloc e i z _ hi hz hcs=>
   have hrun:(newVar e z).run P w=.ok ⟨w.heap.size,0,none⟩ (w.alloc (.cells z.cells e)):=by simp [newVar,newRow]
   simp only [execOp,hop,Instr.alloc,Sem.run_bind,run_zero' hi hz,Result.andThen_ok,hrun,Sem.run_pure,Oper.upon_value]
   exact hK _ _ hcs
end
end Go.VM
namespace Go.VM
def St.put (st:St) (dst:Option Nat) (v:V):St:=
 match dst with
 |some d=>{ st with tmps:=st.tmps.set d v }
 |none=>st
def V.gd:V→Option (Option Bool)
 |.d (.lit (.bool b))=>some (some b)
 |.tup []=>some none
 |_=>none
theorem V.gd_some {v:V} {b:Bool} (h:v.gd=some (some b)):v.bool=some b:=by
 unfold V.gd at h
 split at h
 ·simp only [Option.some.injEq] at h;subst h;rfl
 ·simp at h
 ·cases h
theorem V.gd_none {v:V} (h:v.gd=some none):v=.tup []:=by
 unfold V.gd at h
 split at h
 ·simp at h
 ·rfl
 ·cases h
theorem V.gd_bool (b:Bool):(V.d (.lit (.bool b))).gd=some (some b):=rfl
theorem V.gd_un:(V.tup []).gd=some none:=rfl
theorem rel_undef (G:Gh):RelV G (.tup []) undef:=.tup rfl (by simp)
def gdW (want:Bool):Option (Option Bool)→Option Bool
 |some (some b)=>some (b==want)
 |some none=>some false
 |none=>none
theorem gdW_some {want b:Bool}:gdW want (some (some b))=some (b==want):=rfl
theorem gdW_un {want:Bool}:gdW want (some none)=some false:=rfl
def vWanted (ts:List V):Option (Nat×Bool)→Option Bool
 |none=>some true
 |some (t,want)=>gdW want (ts.getD t .any).gd
def vOps (C:Orc):List VOper→St→Option St
 |[],st=>some st
 |o::os,st=>
  match vWanted st.tmps o.guard with
  |some true=>match vStep C st o.op with
   |some (r,st')=>vOps C os (st'.put o.dst r)
   |none=>none
  |some false=>vOps C os (st.put o.dst (.tup []))
  |none=>none
section
variable {P:Program}
inductive CGuard (ops:Array Oper):Option (Nat×Bool)→Option (Nat×Bool)→Prop
 |none:CGuard ops none none
 |some {j t:Nat} {want:Bool} (h:(ops[j]?).bind (·.dst)=some t):CGuard ops (some (j,want)) (some (t,want))
structure COper (P:Program) (ops:Array Oper) (o:Oper) (vo:VOper):Prop where
 dst:o.dst=vo.dst
 op:Cstep P o.op vo.op
 guard:CGuard ops o.guard vo.guard
inductive COpers (P:Program) (ops:Array Oper):List Oper→List VOper→Prop
 |nil:COpers P ops [] []
 |cons {o:Oper} {vo:VOper} {os:List Oper} {vos:List VOper} (h:COper P ops o vo) (hs:COpers P ops os vos):COpers P ops (o::os) (vo::vos)
theorem vStep_base {C:Orc} {st st':St} {vo:VOp} {r:V} (h:vStep C st vo=some (r,st')):st'.base=st.base∧st'.dep=st.dep∧st'.tmps=st.tmps∧st.blocks.length≤st'.blocks.length:=by
 have call:∀ f args,vCall C st f args=some (r,st')→st'.base=st.base∧st'.dep=st.dep∧st'.tmps=st.tmps∧st.blocks.length≤st'.blocks.length:=by
  intro f args h
  unfold vCall at h
  split at h
  ·split at h
   ·simp only [Option.some.injEq,Prod.mk.injEq] at h;obtain ⟨_,rfl⟩:=h;exact ⟨rfl,rfl,rfl,by simp⟩
   ·cases h
  ·split at h
   ·rename_i pb hpb
    split at h
    ·split at h
     ·rename_i hc
      simp only [Option.some.injEq,Prod.mk.injEq] at h;obtain ⟨_,rfl⟩:=h
      refine ⟨rfl,rfl,rfl,?_⟩
      have:=(vPre_some hpb).2.1
      simp only [List.length_append,List.length_drop,hc.2.2];omega
     ·split at h
      ·rename_i hc
       simp only [Option.some.injEq,Prod.mk.injEq] at h;obtain ⟨_,rfl⟩:=h
       refine ⟨rfl,rfl,rfl,?_⟩
       have:=(vPre_some hpb).2.1
       simp only [List.length_append,List.length_drop,hc];omega
      ·cases h
    ·cases h
   ·split at h
    ·split at h
     ·rename_i hc
      simp only [Option.some.injEq,Prod.mk.injEq] at h;obtain ⟨_,rfl⟩:=h;exact ⟨rfl,rfl,rfl,by simp [hc.2.2]⟩
     ·cases h
    ·cases h
 have pure:∀ (x:Option V),x.map (·,st)=some (r,st')→st'.base=st.base∧st'.dep=st.dep∧st'.tmps=st.tmps∧st.blocks.length≤st'.blocks.length:=by
  intro x h
  obtain ⟨_,_,he⟩:=Option.map_eq_some_iff.1 h
  simp only [Prod.mk.injEq] at he;obtain ⟨_,rfl⟩:=he;exact ⟨rfl,rfl,rfl,Nat.le_refl _⟩
 unfold vStep at h
 split at h
 ·simp only [Option.some.injEq,Prod.mk.injEq] at h;obtain ⟨_,rfl⟩:=h;exact ⟨rfl,rfl,rfl,by simp⟩
 ·split at h
  ·split at h
   ·simp only [Option.some.injEq,Prod.mk.injEq] at h;obtain ⟨_,rfl⟩:=h;exact ⟨rfl,rfl,rfl,by simp⟩
   ·cases h
  ·cases h
 ·exact pure _ h
 ·unfold vBuildSlM at h
  split at h
  ·split at h
   ·simp only [Option.some.injEq,Prod.mk.injEq] at h;obtain ⟨_,rfl⟩:=h;exact ⟨rfl,rfl,rfl,by simp⟩
   ·cases h
  ·cases h
 ·exact pure _ h
 ·split at h
  ·split at h
   ·simp only [Option.some.injEq,Prod.mk.injEq] at h;obtain ⟨_,rfl⟩:=h;exact ⟨rfl,rfl,rfl,Nat.le_refl _⟩
   ·cases h
  ·cases h
 ·obtain ⟨st1,h1,he⟩:=Option.map_eq_some_iff.1 h
  simp only [Prod.mk.injEq] at he;obtain ⟨_,rfl⟩:=he
  unfold vStore at h1
  split at h1
  ·split at h1
   ·split at h1
    ·simp only [Option.some.injEq] at h1;subst h1;exact ⟨rfl,rfl,rfl,by simp [St.setB]⟩
    ·cases h1
   ·cases h1
  ·cases h1
 ·split at h
  ·unfold vApp at h
   split at h
   ·split at h
    ·simp only [Option.some.injEq,Prod.mk.injEq] at h;obtain ⟨_,rfl⟩:=h;exact ⟨rfl,rfl,rfl,Nat.le_refl _⟩
    ·cases h
   ·split at h
    ·simp only [Option.some.injEq,Prod.mk.injEq] at h;obtain ⟨_,rfl⟩:=h;exact ⟨rfl,rfl,rfl,Nat.le_refl _⟩
    ·cases h
  ·cases h
 ·split at h
  ·exact vAppM_base h
  ·cases h
 ·split at h
  ·simp only [Option.some.injEq,Prod.mk.injEq] at h;obtain ⟨_,rfl⟩:=h;exact ⟨rfl,rfl,rfl,by rw [killL_length];exact Nat.le_refl _⟩
  ·cases h
 ·split at h
  ·exact call _ _ h
  ·cases h
 ·split at h
  ·split at h
   ·exact call _ _ h
   ·cases h
  ·cases h
 ·unfold vInl at h
  split at h
  ·split at h
   ·rename_i hl
    simp only [Option.some.injEq,Prod.mk.injEq] at h;obtain ⟨_,rfl⟩:=h;exact ⟨rfl,rfl,rfl,hl⟩
   ·cases h
  ·cases h
 ·exact pure _ h
theorem St.put_base (st:St) (dst:Option Nat) (v:V):(st.put dst v).base=st.base∧(st.put dst v).dep=st.dep∧(st.put dst v).blocks=st.blocks:=by
 cases dst<;>exact ⟨rfl,rfl,rfl⟩
variable {w0:World} {G0:Gh} {st:St} {G:Gh} {w:World}
theorem Rl.tmps (h:Rl w0 G0 st G w) (ts:List V):Rl w0 G0 { st with tmps:=ts } G w:={ h with }
theorem Rl.put (h:Rl w0 G0 st G w) (dst:Option Nat) (v:V):Rl w0 G0 (st.put dst v) G w:=by
 cases dst
 ·exact h
 ·exact h.tmps _
theorem RelT.put {G:Gh} {st:St} {a:Act} (h:RelT G st.tmps a.tmps) (dst:Option Nat) {v:V} {x:Value} (hv:RelV G v x):RelT G (st.put dst v).tmps (a.put dst x).tmps:=by
 cases dst
 ·exact h
 ·exact h.set _ hv
theorem wanted_rel {ops:Array Oper} {ts:List V} {xs:Array Value} (ht:RelT G ts xs) {o:Oper} {g:Option (Nat×Bool)} (hg:CGuard ops o.guard g) {b:Bool} (h:vWanted ts g=some b) :
  Region.wanted o (yielded ops xs)=b:=by
 unfold Region.wanted
 generalize o.guard=og at hg
 cases hg with
 |none=>simp [vWanted] at h;subst h;rfl
 |@some j t want hj=>
  simp only [vWanted] at h
  cases hgd:(ts.getD t .any).gd with
  |none=>rw [hgd] at h;cases h
  |some ob=>
  rw [hgd] at h
  cases ob with
  |none=>
   simp only [gdW_un,Option.some.injEq] at h;subst h
   have hx:=ht.get t
   rw [V.gd_none hgd] at hx
   simp only [yielded,hj,Option.bind_some]
   cases hx2:xs[t]? with
   |none=>rfl
   |some y=>
    have:xs.getD t undef=y:=by
     have hlt:t<xs.size:=(Array.getElem?_eq_some_iff.1 hx2).1
     have:=(Array.getElem?_eq_some_iff.1 hx2).2
     simp [Array.getD,hlt,this]
    rw [this] at hx
    cases hx with
    |tup _ _=>rfl
  |some b'=>
  simp only [gdW_some,Option.some.injEq] at h
  have hx:=V.bool_rel (ht.get t) (V.gd_some hgd)
  simp only [yielded,hj,Option.bind_some]
  have hlt:t<xs.size:=by
   rcases Nat.lt_or_ge t xs.size with hl|hl
   ·exact hl
   ·simp [Array.getD,Nat.not_lt.2 hl,undef] at hx
  have hg:xs[t]?=some (.bool b'):=by
   rw [Array.getElem?_eq_getElem hlt]
   simpa [Array.getD,hlt] using hx
  rw [hg]
  simp [← h]
theorem Stay.put (st:St) (G:Gh) (w:World) (dst:Option Nat) (v:V):Stay st G w (st.put dst v) G w:=fun b o h=>h.st (fun g hg=>by cases dst<;>exact hg) (by cases dst<;>rfl)
theorem vOps_sound {C:Orc} (hC:OrcOk2 P C) (hFn:OrcFn2 P C) (hd0:G0.dep=0) {ops:Array Oper} {Q:Exit→Act→World→Prop} :
  ∀ {l:List Oper} {vl:List VOper},COpers P ops l vl→∀ {st st':St} {G:Gh} {w:World} {a:Act},vOps C vl st=some st'→Rl w0 G0 st G w→RelT G st.tmps a.tmps→a.defers=[] →
   (∀ a' G' w',RelT G' st'.tmps a'.tmps→a'.defers=[]→Rl w0 G0 st' G' w'→G.le G'→Stay st G w st' G' w'→Q .normal a' w')→wpList P ops Q l a w
 |_,_,.nil,st,st',G,w,a,h,hR,ht,hdf,hQ=>by
  simp [vOps] at h;subst h
  exact hQ a G w ht hdf hR G.le_refl (Stay.refl _ _ _)
 |_,_,@COpers.cons _ _ o vo os vos ho hs,st,st',G,w,a,h,hR,ht,hdf,hQ=>by
  simp only [vOps] at h
  unfold wpList
  split at h
  ·rename_i hw
   split at h
   case h_2=>cases h
   rename_i r st1 hst
   rw [wanted_rel ht ho.guard hw,if_pos rfl]
   refine .inl (step_sound hC hFn hR (hR.dep0.symm.trans hd0) ht ho.op hst ?_)
   intro x G' w' hv hR' hle hstay
   have htm:=(vStep_base hst).2.2.1
   refine vOps_sound hC hFn hd0 hs h (hR'.put _ _) ?_ ?_ (fun a2 G2 w2 h1 h2 h3 h4 h5=>hQ a2 G2 w2 h1 h2 h3 (G.le_trans hle h4) ((hstay.trans (Stay.put _ _ _ _ _)).trans h5))
   ·rw [ho.dst]
    exact RelT.put (st:=st1) (by rw [htm];exact ht.mono hle) _ hv
   ·cases o.dst<;>exact hdf
  ·rename_i hw
   rw [wanted_rel ht ho.guard hw,if_neg (by simp)]
   refine vOps_sound hC hFn hd0 hs h (hR.put _ _) ?_ ?_ (fun a2 G2 w2 h1 h2 h3 h4 h5=>hQ a2 G2 w2 h1 h2 h3 h4 ((Stay.put _ _ _ _ _).trans h5))
   ·rw [ho.dst];exact RelT.put ht _ (rel_undef _)
   ·cases o.dst<;>exact hdf
  ·cases h
end
end Go.VM
namespace Go.VM
def VOp.isE:VOp→Bool
 |.box _|.boxv _ _|.store _ _ _|.app _ _ _ _|.call _ _|.callv _ _|.frz _ _|.inl _ _|.buildSl _ _ _ _ true=>true
 |_=>false
def VArg.tmp:VArg→List Nat
 |.t n=>[n]
 |.c _=>[]
def argTmps (xs:List VArg):List Nat:=xs.flatMap VArg.tmp
def optTmps:Option VArg→List Nat
 |some x=>x.tmp
 |none=>[]
def VOp.reads:VOp→List Nat
 |.mov x|.boxv _ x|.load x _ _|.nilChk x|.un _ x|.convI _ x|.bytesS x|.sBytes x|.fieldA x _|.field x _ _ _|.len x|.lenS x|.strId x|.nilEq _ x|.ext x _=>x.tmp
 |.pick c a b=>c.tmp++a.tmp++b.tmp
 |.box _|.lenC _=>[]
 |.build _ ps=>ps.flatMap fun (_,_,x)=>x.tmp
 |.buildSl _ _ _ ps _=>ps.flatMap fun (_,x)=>x.tmp
 |.store a x _|.bin _ a x|.eqb _ a x|.eqs _ _ a x|.mkSl _ a x _|.idxA _ a x|.idxAA _ _ a x|.idx _ _ _ a x|.idxS a x|.app _ a x _|.mm _ a x=>a.tmp++x.tmp
 |.mkfn _ xs|.call _ xs|.inl _ xs=>argTmps xs
 |.callv x xs=>x.tmp++argTmps xs
 |.slice _ x lo hi|.sliceS x lo hi|.sliceA _ _ x lo hi=>x.tmp++optTmps lo++optTmps hi
 |.slice3 _ x lo hi mx=>x.tmp++optTmps lo++hi.tmp++mx.tmp
 |.frz x _=>x.tmp
theorem ev_congr {ts us:List V} {x:VArg} (h:∀ t∈x.tmp,ts.getD t .any=us.getD t .any):x.ev ts=x.ev us:=by
 cases x with
 |t n=>exact h n (by simp [VArg.tmp])
 |c v=>rfl
theorem evs_congr {ts us:List V} {xs:List VArg} (h:∀ t∈argTmps xs,ts.getD t .any=us.getD t .any):xs.map (VArg.ev ts)=xs.map (VArg.ev us):=
 List.map_congr_left fun x hx=>ev_congr fun t ht=>h t (List.mem_flatMap.2 ⟨x,hx,ht⟩)
theorem evo_congr {ts us:List V} {x:Option VArg} (h:∀ t∈optTmps x,ts.getD t .any=us.getD t .any):x.map (VArg.ev ts)=x.map (VArg.ev us):=by
 cases x with
 |none=>rfl
 |some x=>simp only [Option.map_some];rw [ev_congr h]
def VOp.blk (ts:List V):VOp→Option Nat
 |.load x _ _=>match x.ev ts with|.ptr id _=>some id|_=>none
 |_=>none
theorem vPure_congr {bl bl':Nat→Option (List V)} {ts us:List V} {vo:VOp} (h:∀ t∈vo.reads,ts.getD t .any=us.getD t .any) (hb:∀ id,vo.blk ts=some id→bl id=bl' id) :
  vPure bl (VArg.ev ts) vo=vPure bl' (VArg.ev us) vo:=by
 cases vo<;>simp only [VOp.reads,List.mem_append] at h<;>simp only [vPure]
 case load x n ag=>
  have hx:=ev_congr h
  rw [← hx]
  congr 1
  cases hv:x.ev ts<;>simp only [vLoadCells]
  rw [hb _ (by simp [VOp.blk,hv])]
 case pick c a b=>
  have e1:=ev_congr fun t ht=>h t (Or.inl (Or.inl ht))
  have e2:=ev_congr fun t ht=>h t (Or.inl (Or.inr ht))
  have e3:=ev_congr fun t ht=>h t (Or.inr ht)
  simp only [e1,e2,e3]
 case build zero ps=>
  have e:ps.map (fun (o,n,x)=>(o,n,VArg.ev ts x))=ps.map (fun (o,n,x)=>(o,n,VArg.ev us x)):=
   List.map_congr_left fun ⟨o,n,x⟩ hm=>by
    show (o,n,VArg.ev ts x)=(o,n,VArg.ev us x)
    rw [ev_congr fun t ht=>h t (List.mem_flatMap.2 ⟨(o,n,x),hm,ht⟩)]
  exact congrArg (fun l=>Option.map V.agg (vFill zero l)) e
 case mkfn f xs=>
  have e:=evs_congr h
  simp only [e]
 case slice sz x lo hi=>
  have e1:=ev_congr fun t ht=>h t (Or.inl (Or.inl ht))
  have e2:=evo_congr fun t ht=>h t (Or.inl (Or.inr ht))
  have e3:=evo_congr fun t ht=>h t (Or.inr ht)
  simp only [e1,e2,e3]
 case slice3 sz x lo hi mx=>
  have e1:=ev_congr fun t ht=>h t (Or.inl (Or.inl (Or.inl ht)))
  have e2:=evo_congr fun t ht=>h t (Or.inl (Or.inl (Or.inr ht)))
  have e3:=ev_congr fun t ht=>h t (Or.inl (Or.inr ht))
  have e4:=ev_congr fun t ht=>h t (Or.inr ht)
  simp only [e1,e2,e3,e4]
 case sliceS x lo hi=>
  have e1:=ev_congr fun t ht=>h t (Or.inl (Or.inl ht))
  have e2:=evo_congr fun t ht=>h t (Or.inl (Or.inr ht))
  have e3:=evo_congr fun t ht=>h t (Or.inr ht)
  simp only [e1,e2,e3]
 all_goals first
  |rfl
  |(have e:=ev_congr h;simp only [e];done)
  |(have e1:=ev_congr (fun t ht=>h t (Or.inl ht));have e2:=ev_congr (fun t ht=>h t (Or.inr ht));simp only [e1,e2];done)
theorem vStep_congrP {C:Orc} {st st2:St} {vo:VOp} (hE:vo.isE=false) (h:∀ t∈vo.reads,st.tmps.getD t .any=st2.tmps.getD t .any)
  (hb:∀ id,vo.blk st.tmps=some id→st.blocks[id]?=st2.blocks[id]?) {r:V} {st':St} (hs:vStep C st vo=some (r,st')):vStep C st2 vo=some (r,st2)∧st'=st:=by
 have pure:vStep C st vo=(vPure (fun id=>st.blocks[id]?) (VArg.ev st.tmps) vo).map (·,st)→vStep C st2 vo=(vPure (fun id=>st2.blocks[id]?) (VArg.ev st2.tmps) vo).map (·,st2)→vStep C st2 vo=some (r,st2)∧st'=st:=by
  intro h1 h2
  rw [h1] at hs
  obtain ⟨r',hr',he⟩:=Option.map_eq_some_iff.1 hs
  simp only [Prod.mk.injEq] at he
  obtain ⟨rfl,rfl⟩:=he
  rw [h2,← vPure_congr h hb,hr']
  exact ⟨rfl,rfl⟩
 cases vo<;>first|(simp [VOp.isE] at hE;done)|exact pure rfl rfl|skip
 case sBytes x=>
  simp only [VOp.reads] at h
  simp only [vStep] at hs ⊢
  rw [← ev_congr h]
  split at hs
  case h_2=>cases hs
  rename_i s hst
  split at hs
  case isFalse=>cases hs
  rename_i hsz
  simp only [Option.some.injEq,Prod.mk.injEq] at hs
  obtain ⟨rfl,rfl⟩:=hs
  exact ⟨if_pos hsz,rfl⟩
 case mkSl zero len cap mt=>
  simp only [VOp.reads,List.mem_append] at h
  simp only [vStep] at hs ⊢
  rw [← ev_congr fun t ht=>h t (Or.inl ht),← ev_congr fun t ht=>h t (Or.inr ht)]
  obtain ⟨r',hr',he⟩:=Option.map_eq_some_iff.1 hs
  simp only [Prod.mk.injEq] at he
  obtain ⟨rfl,rfl⟩:=he
  rw [hr']
  exact ⟨rfl,rfl⟩
 case buildSl len sz zero ps mt=>
  cases mt
  case true=>simp [VOp.isE] at hE
  simp only [vStep] at hs ⊢
  obtain ⟨r',hr',he⟩:=Option.map_eq_some_iff.1 hs
  simp only [Prod.mk.injEq] at he
  obtain ⟨rfl,rfl⟩:=he
  have:vBuildSl st2.tmps len sz zero ps=vBuildSl st.tmps len sz zero ps:=by
   unfold vBuildSl
   have e:ps.map (fun (i,x)=>(i*sz,sz,VArg.ev st2.tmps x))=ps.map (fun (i,x)=>(i*sz,sz,VArg.ev st.tmps x)):=
    List.map_congr_left fun ⟨i,x⟩ hm=>by
     show (i*sz,sz,VArg.ev st2.tmps x)=(i*sz,sz,VArg.ev st.tmps x)
     rw [ev_congr fun t ht=>(h t (by simp only [VOp.reads];exact List.mem_flatMap.2 ⟨(i,x),hm,ht⟩)).symm]
   rw [e]
  rw [this,hr']
  exact ⟨rfl,rfl⟩
theorem vStep_congrE {C:Orc} {st:St} {us:List V} {vo:VOp} (h:∀ t∈vo.reads,st.tmps.getD t .any=us.getD t .any) {r:V} {st':St} (hE:vo.isE=true) (hs:vStep C st vo=some (r,st')) :
  vStep C { st with tmps:=us } vo=some (r,{ st' with tmps:=us }):=by
 have call:∀ f args args',args=args'→vCall C st f args=some (r,st')→vCall C { st with tmps:=us } f args'=some (r,{ st' with tmps:=us }):=by
  rintro f args _ rfl h
  unfold vCall at h ⊢
  split at h
  ·rename_i hc;rw [if_pos hc]
   split at h
   ·rename_i ret hr
    simp only [Option.some.injEq,Prod.mk.injEq] at h;obtain ⟨rfl,rfl⟩:=h
    simp only [hr]
   ·cases h
  ·rename_i hc;rw [if_neg hc]
   split at h
   ·rename_i pb hpb
    have hpb':vPre { st with tmps:=us } (args.map V.er)=some pb:=hpb
    rw [hpb']
    dsimp only
    split at h
    ·rename_i ret hr
     split at h
     ·rename_i hcc
      simp only [Option.some.injEq,Prod.mk.injEq] at h;obtain ⟨rfl,rfl⟩:=h
      rw [if_pos hcc]
     ·rename_i hcc
      rw [if_neg hcc]
      split at h
      ·rename_i hcc
       simp only [Option.some.injEq,Prod.mk.injEq] at h;obtain ⟨rfl,rfl⟩:=h
       rw [if_pos hcc]
      ·cases h
    ·cases h
   ·rename_i hpb
    have hpb':vPre { st with tmps:=us } (args.map V.er)=none:=hpb
    rw [hpb']
    dsimp only
    split at h
    ·rename_i ret hr
     split at h
     ·rename_i hcc
      simp only [Option.some.injEq,Prod.mk.injEq] at h;obtain ⟨rfl,rfl⟩:=h
      rw [if_pos hcc]
     ·cases h
    ·cases h
 cases vo<;>first|(simp [VOp.isE] at hE;done)|skip
 all_goals simp only [VOp.reads,List.mem_append] at h
 case box cells=>
  simp only [vStep,Option.some.injEq,Prod.mk.injEq] at hs ⊢
  obtain ⟨rfl,rfl⟩:=hs
  exact ⟨rfl,rfl⟩
 case boxv n x=>
  simp only [vStep] at hs ⊢
  rw [← ev_congr h]
  split at hs
  ·rename_i cs hcs
   try rw [hcs]
   try simp only
   split at hs
   ·rename_i hc
    simp only [Option.some.injEq,Prod.mk.injEq] at hs;obtain ⟨rfl,rfl⟩:=hs
    rw [if_pos hc]
   ·cases hs
  ·cases hs
 case buildSl len sz zero ps mt=>
  cases mt
  case false=>simp [VOp.isE] at hE
  simp only [vStep] at hs ⊢
  have e:ps.map (fun (i,x)=>(i*sz,sz,VArg.ev us x))=ps.map (fun (i,x)=>(i*sz,sz,VArg.ev st.tmps x)):=
   List.map_congr_left fun ⟨i,x⟩ hm=>by
    show (i*sz,sz,VArg.ev us x)=(i*sz,sz,VArg.ev st.tmps x)
    rw [ev_congr fun t ht=>(h t (List.mem_flatMap.2 ⟨(i,x),hm,ht⟩)).symm]
  unfold vBuildSlM at hs ⊢
  rw [e]
  split at hs
  ·rename_i cs hcs
   try rw [hcs]
   try simp only
   split at hs
   ·rename_i hc
    simp only [Option.some.injEq,Prod.mk.injEq] at hs;obtain ⟨rfl,rfl⟩:=hs
    rw [if_pos hc]
   ·cases hs
  ·cases hs
 case store a x n=>
  simp only [vStep] at hs ⊢
  rw [← ev_congr fun t ht=>h t (Or.inl ht),← ev_congr fun t ht=>h t (Or.inr ht)]
  obtain ⟨st1,h1,he⟩:=Option.map_eq_some_iff.1 hs
  simp only [Prod.mk.injEq] at he;obtain ⟨rfl,rfl⟩:=he
  refine Option.map_eq_some_iff.2 ⟨{ st1 with tmps:=us },?_,rfl⟩
  unfold vStore at h1 ⊢
  split at h1
  ·rename_i id off cs h2 h3
   try rw [h2,h3]
   try simp only
   split at h1
   ·rename_i blk hb
    try rw [hb]
    try simp only
    split at h1
    ·rename_i hc
     simp only [Option.some.injEq] at h1;subst h1
     rw [if_pos hc];rfl
    ·cases h1
   ·cases h1
  ·cases h1
 case app sz x y mt=>
  cases mt
  case true=>
   simp only [vStep] at hs ⊢
   rw [← ev_congr fun t ht=>h t (Or.inl ht),← ev_congr fun t ht=>h t (Or.inr ht)]
   split at hs
   ·rename_i ms hms
    try rw [hms]
    try simp only
    exact vAppM_tmps hs
   ·cases hs
  simp only [vStep] at hs ⊢
  rw [← ev_congr fun t ht=>h t (Or.inl ht),← ev_congr fun t ht=>h t (Or.inr ht)]
  split at hs
  ·rename_i ms hms
   try rw [hms]
   try simp only
   unfold vApp at hs ⊢
   have hd:vAppDst { st with tmps:=us } sz (x.ev st.tmps)=vAppDst st sz (x.ev st.tmps):=by unfold vAppDst;rfl
   rw [hd]
   split at hs
   ·rename_i es live hdd
    try rw [hdd]
    try simp only
    split at hs
    ·rename_i hc
     simp only [Option.some.injEq,Prod.mk.injEq] at hs;obtain ⟨rfl,rfl⟩:=hs
     rw [if_pos hc];rfl
    ·cases hs
   ·rename_i hdd
    skip
    split at hs
    ·rename_i r' h0
     simp only [Option.some.injEq,Prod.mk.injEq] at hs;obtain ⟨rfl,rfl⟩:=hs
     first|rw [h0]|simp only
    ·cases hs
  ·cases hs
 case frz x ld=>
  have hrd:∀ t∈(frzIn x ld).reads,st.tmps.getD t .any=us.getD t .any:=fun t ht=>h t (by
   unfold frzIn at ht
   split at ht<;>exact ht)
  simp only [vStep] at hs ⊢
  rw [← vPure_congr (bl:=fun id=>st.blocks[id]?) (bl':=fun id=>st.blocks[id]?) (ts:=st.tmps) (us:=us) hrd (fun _ _=>rfl)]
  split at hs
  ·rename_i v hv
   simp only [Option.some.injEq,Prod.mk.injEq] at hs;obtain ⟨rfl,rfl⟩:=hs
   rfl
  ·cases hs
 case call f args=>
  simp only [vStep] at hs ⊢
  split at hs
  ·rename_i hlt;rw [if_pos hlt];exact call f _ _ (evs_congr h) hs
  ·cases hs
 case inl f args=>
  simp only [vStep,vInl] at hs ⊢
  rw [← evs_congr h]
  split at hs
  ·rename_i ret hr
   split at hs
   ·rename_i hl
    simp only [Option.some.injEq,Prod.mk.injEq] at hs;obtain ⟨rfl,rfl⟩:=hs
    simp only [hr];rw [if_pos hl]
   ·cases hs
  ·cases hs
 case callv x args=>
  simp only [vStep] at hs ⊢
  rw [← ev_congr fun t ht=>h t (Or.inl ht)]
  split at hs
  ·rename_i f caps hf
   try rw [hf]
   try simp only
   split at hs
   ·rename_i hlt;rw [if_pos hlt];exact call f _ _ (by rw [evs_congr fun t ht=>h t (Or.inr ht)]) hs
   ·cases hs
  ·cases hs
end Go.VM
namespace Go.VM
def VOper.looks (o:VOper):List Nat:=o.op.reads++(match o.guard with|some (t,_)=>[t]|none=>[])
def clash (x y:VOper):Bool:=
 (match x.dst with|some t=>y.looks.contains t||y.dst==some t|none=>false) ||
 (match y.dst with|some t=>x.looks.contains t|none=>false)
def St.same (a b:St):Prop:=a.blocks=b.blocks∧a.live=b.live∧a.gn=b.gn∧a.base=b.base∧a.dep=b.dep
theorem St.same.refl (a:St):a.same a:=⟨rfl,rfl,rfl,rfl,rfl⟩
theorem St.same.trans {a b c:St} (h:a.same b) (k:b.same c):a.same c:=⟨h.1.trans k.1,h.2.1.trans k.2.1,h.2.2.1.trans k.2.2.1,h.2.2.2.1.trans k.2.2.2.1,h.2.2.2.2.trans k.2.2.2.2⟩
theorem St.same.symm {a b:St} (h:a.same b):b.same a:=⟨h.1.symm,h.2.1.symm,h.2.2.1.symm,h.2.2.2.1.symm,h.2.2.2.2.symm⟩
theorem St.same.eq {a b:St} (h:a.same b) (ts:List V):({ a with tmps:=ts }:St)={ b with tmps:=ts }:=by
 obtain ⟨h1,h2,h3,h4,h5⟩:=h
 simp only [h1,h2,h3,h4,h5]
theorem St.put_same (st:St) (dst:Option Nat) (v:V):(st.put dst v).same st:=by cases dst<;>exact St.same.refl _
structure Tr (C:Orc) (vops:List VOper) (S:Nat→St):Prop where
 step:∀ k o,vops[k]?=some o →
  (vWanted (S k).tmps o.guard=some true∧∃ r s,vStep C (S k) o.op=some (r,s)∧S (k+1)=s.put o.dst r) ∨
  (vWanted (S k).tmps o.guard=some false∧S (k+1)=(S k).put o.dst (.tup []))
section
variable {C:Orc} {vops:List VOper} {S:Nat→St}
theorem Tr.len (h:Tr C vops S):∀ k,k≤vops.length→(S k).tmps.length=(S 0).tmps.length
 |0,_=>rfl
 |k+1,hk=>by
  have ih:=h.len k (by omega)
  rcases h.step k _ (List.getElem?_eq_getElem (by omega)) with ⟨_,r,s,hs,he⟩|⟨_,he⟩
  ·rw [he,← ih,← (vStep_base hs).2.2.1]
   cases (vops[k]).dst<;>simp [St.put]
  ·rw [he,← ih]
   cases (vops[k]).dst<;>simp [St.put]
theorem Tr.other (h:Tr C vops S) {k:Nat} {o:VOper} (hk:vops[k]?=some o) {t:Nat} (ht:o.dst≠some t):(S (k+1)).tmps.getD t .any=(S k).tmps.getD t .any:=by
 have put:∀ (s:St) v,(s.put o.dst v).tmps.getD t .any=s.tmps.getD t .any:=fun s v=>by
  cases hd:o.dst with
  |none=>rfl
  |some d=>
   have hne:d≠t:=by rintro rfl;exact ht hd
   simp [St.put,List.getD,List.getElem?_set_ne hne]
 rcases h.step k o hk with ⟨_,r,s,hs,he⟩|⟨_,he⟩
 ·rw [he,put,(vStep_base hs).2.2.1]
 ·rw [he,put]
theorem Tr.same_step (h:Tr C vops S) {k:Nat} {o:VOper} (hk:vops[k]?=some o) (hE:o.op.isE=false):(S (k+1)).same (S k):=by
 rcases h.step k o hk with ⟨_,r,s,hs,he⟩|⟨_,he⟩
 ·have:=(vStep_congrP (st2:=S k) hE (fun _ _=>rfl) (fun _ _=>rfl) hs).2
  subst this
  rw [he];exact St.put_same _ _ _
 ·rw [he];exact St.put_same _ _ _
theorem Tr.same_range (h:Tr C vops S) {p:Nat}:∀ {q:Nat},p≤q→q≤vops.length→(∀ k o,p≤k→k<q→vops[k]?=some o→o.op.isE=false)→(S q).same (S p)
 |0,hpq,_,_=>by obtain rfl:p=0:=by omega
                exact St.same.refl _
 |q+1,hpq,hq,hE=>by
  rcases Nat.lt_or_ge q p with hlt|hge
  ·obtain rfl:p=q+1:=by omega
   exact St.same.refl _
  ·have ih:=h.same_range hge (by omega) (fun k o h1 h2=>hE k o h1 (by omega))
   exact (h.same_step (List.getElem?_eq_getElem (by omega)) (hE q _ hge (by omega) (List.getElem?_eq_getElem (by omega)))).trans ih
def valS (vops:List VOper) (S:Nat→St) (inS:Nat→Bool) (t:Nat):Nat→V
 |0=>(S 0).tmps.getD t .any
 |k+1=>if inS k=true∧(vops[k]?).bind (·.dst)=some t then (S (k+1)).tmps.getD t .any else valS vops S inS t k
theorem valS_lo (h:Tr C vops S) {inS:Nat→Bool} {t:Nat}:∀ {j:Nat},j≤vops.length→(∀ k,k<j→(vops[k]?).bind (·.dst)=some t→inS k=true)→valS vops S inS t j=(S j).tmps.getD t .any
 |0,_,_=>rfl
 |j+1,hj,hw=>by
  unfold valS
  by_cases hd:(vops[j]?).bind (·.dst)=some t
  ·rw [if_pos ⟨hw j (by omega) hd,hd⟩]
  ·rw [if_neg (by rintro ⟨_,h2⟩;exact hd h2),valS_lo h (by omega) (fun k hk=>hw k (by omega))]
   have hjs:=List.getElem?_eq_getElem (show j<vops.length by omega)
   rw [hjs] at hd
   exact (h.other hjs (by simpa using hd)).symm
theorem valS_hi {inS:Nat→Bool} {t j:Nat}:∀ {m:Nat},j≤m→(∀ k,j≤k→k<m→(vops[k]?).bind (·.dst)=some t→inS k=false)→valS vops S inS t m=valS vops S inS t j
 |0,hj,_=>by obtain rfl:j=0:=by omega
             rfl
 |m+1,hj,hw=>by
  rcases Nat.lt_or_ge m j with hlt|hge
  ·obtain rfl:j=m+1:=by omega
   rfl
  ·show (if inS m=true∧(vops[m]?).bind (·.dst)=some t then _ else valS vops S inS t m)=_
   rw [if_neg,valS_hi hge (fun k h1 h2=>hw k h1 (by omega))]
   rintro ⟨h1,h2⟩
   rw [hw m hge (by omega) h2] at h1
   cases h1
theorem valS_congr {inS inS':Nat→Bool} {t:Nat}:∀ {m:Nat},(∀ k,k<m→(vops[k]?).bind (·.dst)=some t→inS k=inS' k)→valS vops S inS t m=valS vops S inS' t m
 |0,_=>rfl
 |m+1,h=>by
  unfold valS
  rw [valS_congr (m:=m) (fun k hk=>h k (by omega))]
  by_cases hd:(vops[m]?).bind (·.dst)=some t
  ·rw [h m (by omega) hd]
  ·rw [if_neg (by rintro ⟨_,h2⟩;exact hd h2),if_neg (by rintro ⟨_,h2⟩;exact hd h2)]
end
def Floats (vops:List VOper) (bef:Nat→List Nat) (j:Nat) (y:VOper):Prop:=
 ∃ d cells,y=⟨some d,.box cells,none⟩∧∀ (r:Nat) z,vops[r]?=some z→j<r→(d∈z.looks∨z.dst=some d)→∀ (i:Nat) x,i<j→vops[i]?=some x→x.op.isE=true→i∈bef r
structure Ord (ops:Array Oper) (vops:List VOper) (bef:Nat→List Nat):Prop where
 edge:∀ (j:Nat) o,ops[j]?=some o→∀ e∈o.after,Region.binds .any e=true→e.on<j
 befE:∀ (j:Nat) o,ops[j]?=some o→∀ i∈bef j,∃ e∈o.after,Region.binds .any e=true∧(e.on=i∨i∈bef e.on)
 clash:∀ (i j:Nat) x y,i<j→vops[i]?=some x→vops[j]?=some y→VM.clash x y=true→i∈bef j
 ee:∀ (i j:Nat) x y,i<j→vops[i]?=some x→vops[j]?=some y→x.op.isE=true→y.op.isE=true→i∈bef j∨Floats vops bef j y
def Need (vops:List VOper) (bef:Nat→List Nat) (k e:Nat):Prop:=
 (e<k∧e ∉ bef k)∨(k<e∧k ∉ bef e)∨(e<k∧∃ i z,i<e∧vops[i]?=some z∧z.op.isE=true∧i ∉ bef k)
def LoadOk (vops:List VOper) (S:Nat→St) (bef:Nat→List Nat):Prop:=
 ∀ (k e:Nat) x y,vops[k]?=some x→vops[e]?=some y→y.op.isE=true→Need vops bef k e→vWanted (S k).tmps x.guard=some true→∀ id,x.op.blk (S k).tmps=some id →
  (S e).blocks[id]?=(S (e+1)).blocks[id]?
end Go.VM
namespace Go.VM
section
variable {P:Program} {w0:World} {G0:Gh} {C:Orc} {ops:Array Oper} {vops:List VOper} {S:Nat→St} {bef:Nat→List Nat} {Gs:Gh} {ws:World}
def inS (listed:Array Bool) (k:Nat):Bool:=listed.getD k false
def Closed (ops:Array Oper) (listed:Array Bool):Prop:=∀ (j:Nat) o,ops[j]?=some o→inS listed j=true→∀ e∈o.after,Region.binds .any e=true→inS listed e.on=true
theorem Ord.down (h:Ord ops vops bef) {listed:Array Bool} (hc:Closed ops listed):∀ (n j:Nat),j≤n→j<ops.size→inS listed j=true→∀ i∈bef j,inS listed i=true
 |n,j,hn,hj,hs,i,hi=>by
  have ho:=Array.getElem?_eq_getElem hj
  obtain ⟨e,he,hb,hor⟩:=h.befE j _ ho i hi
  have hlt:=h.edge j _ ho e he hb
  have hin:=hc j _ ho hs e he hb
  rcases hor with rfl|hi'
  ·exact hin
  ·cases n with
   |zero=>omega
   |succ n=>exact h.down hc n e.on (by omega) (by omega) hin i hi'
structure COpsAll (P:Program) (ops:Array Oper) (vops:List VOper):Prop where
 len:ops.size=vops.length
 op:∀ (k:Nat) o vo,ops[k]?=some o→vops[k]?=some vo→COper P ops o vo
def slotsS (vops:List VOper) (S:Nat→St) (listed:Array Bool):List V:=
 (List.range (S 0).tmps.length).map fun t=>valS vops S (inS listed) t vops.length
theorem slotsS_getD (vops:List VOper) (S:Nat→St) (listed:Array Bool) (t:Nat) (ht:t<(S 0).tmps.length):(slotsS vops S listed).getD t .any=valS vops S (inS listed) t vops.length:=by
 simp [slotsS,List.getD,List.getElem?_map,List.getElem?_range ht]
def mask (pd:Nat→Bool) (l:List V):List V:=(List.range l.length).map fun t=>if pd t=true then .any else l.getD t .any
theorem mask_getD {pd:Nat→Bool} {l:List V} {t:Nat} (h:pd t=false):(mask pd l).getD t .any=l.getD t .any:=by
 rcases Nat.lt_or_ge t l.length with hlt|hge
 ·simp [mask,List.getD,List.getElem?_map,List.getElem?_range hlt,h]
 ·rw [List.getD,List.getD,List.getElem?_eq_none (by simp [mask];exact hge),List.getElem?_eq_none hge]
theorem mask_get {pd:Nat→Bool} {l:List V} {t:Nat} {v:V} (h:(mask pd l)[t]?=some v):(pd t=true∧v=.any)∨(pd t=false∧l[t]?=some v):=by
 have hlt:t<l.length:=by have:=(List.getElem?_eq_some_iff.1 h).1;simpa [mask] using this
 simp only [mask,List.getElem?_map,List.getElem?_range hlt,Option.map_some,Option.some.injEq] at h
 cases hp:pd t with
 |true=>rw [hp] at h;exact .inl ⟨rfl,by simpa using h.symm⟩
 |false=>rw [hp] at h;exact .inr ⟨rfl,by rw [← h];simp [List.getD,hlt]⟩
theorem mask_length (pd:Nat→Bool) (l:List V):(mask pd l).length=l.length:=by simp [mask]
open Classical in
noncomputable def pdOf (vops:List VOper) (pend:Nat→Option Nat) (t:Nat):Bool:=decide (∃ k,pend k≠none∧(vops[k]?).bind (·.dst)=some t)
theorem pdOf_true {vops:List VOper} {pend:Nat→Option Nat} {t:Nat}:pdOf vops pend t=true↔∃ k,pend k≠none∧(vops[k]?).bind (·.dst)=some t:=by simp [pdOf]
theorem pdOf_false {vops:List VOper} {pend:Nat→Option Nat} {t:Nat}:pdOf vops pend t=false↔¬ ∃ k,pend k≠none∧(vops[k]?).bind (·.dst)=some t:=by simp [pdOf]
structure PendOk (w0:World) (Gs:Gh) (ws:World) (vops:List VOper) (S:Nat→St) (bef:Nat→List Nat) (listed:Array Bool) (G:Gh) (p:Nat) (pend:Nat→Option Nat) (xs:Array Value) (w:World) (k b:Nat):Prop where
 ge:p≤k
 li:inS listed k=true
 old:w0.heap.size≤b
 inj:∀ k',pend k'=some b→k'=k
 nl:∀ o,¬Loose (S 0) Gs ws b o
 ex:∃ d cells z e,vops[k]?=some ⟨some d,.box cells,none⟩∧Floats vops bef k ⟨some d,.box cells,none⟩∧Loose (S p) G w b (.cells z e (0,0))∧(∀ G,RelC G cells z) ∧
  (d<(S 0).tmps.length→xs[d]?=some (.pointer (some ⟨b,0,none⟩)))∧∀ (r:Nat) y,vops[r]?=some y→k<r→y.dst=some d→inS listed r=false
structure J0 (P:Program) (w0:World) (G0 Gs:Gh) (ws:World) (ops:Array Oper) (vops:List VOper) (S:Nat→St) (bef:Nat→List Nat) (listed:Array Bool) (a:Act) (w:World) (G:Gh) (p:Nat) (pend:Nat→Option Nat):Prop where
 le:p≤vops.length
 eff:∀ (k:Nat) o,vops[k]?=some o→o.op.isE=true→(inS listed k=true↔(k<p∨pend k≠none))
 ok:∀ k b,pend k=some b→PendOk w0 Gs ws vops S bef listed G p pend a.tmps w k b
 rl:Rl w0 G0 { S p with tmps:=mask (pdOf vops pend) (slotsS vops S listed) } G w
 rt:RelT G (mask (pdOf vops pend) (slotsS vops S listed)) a.tmps
 df:a.defers=[]
 gle:Gs.le G
 stay:Stay (S 0) Gs ws (S p) G w
structure J (P:Program) (w0:World) (G0 Gs:Gh) (ws:World) (ops:Array Oper) (vops:List VOper) (S:Nat→St) (bef:Nat→List Nat) (listed:Array Bool) (a:Act) (w:World):Prop where
 closed:Closed ops listed
 size:listed.size=ops.size
 ex:∃ G p pend,J0 P w0 G0 Gs ws ops vops S bef listed a w G p pend∧∀ k,pend k≠none→∃ i x,i<k∧vops[i]?=some x∧x.op.isE=true∧inS listed i=false
theorem inS_set {listed:Array Bool} {j k:Nat} (hj:j<listed.size):inS (listed.setIfInBounds j true) k=(if j=k then true else inS listed k):=by
 unfold inS
 by_cases h:j=k
 ·subst h;simp [Array.getD,hj]
 ·rw [if_neg h,getD_set_ne false h]
theorem getD_of_out {l:List V} {t:Nat} (h:l.length≤t):l.getD t .any=.any:=by
 simp [List.getD,List.getElem?_eq_none h]
theorem slots_at (hT:Tr C vops S) (hO:Ord ops vops bef) (hA:COpsAll P ops vops) {listed:Array Bool} (hc:Closed ops listed) {j:Nat} {x:VOper} (hx:vops[j]?=some x) (hbef:∀ i∈bef j,inS listed i=true)
  (hnot:inS listed j=false) {t:Nat} (ht:t∈x.looks):(slotsS vops S listed).getD t .any=(S j).tmps.getD t .any:=by
 have hj:j<vops.length:=(List.getElem?_eq_some_iff.1 hx).1
 rcases Nat.lt_or_ge t (S 0).tmps.length with hlt|hge
 ·rw [slotsS_getD vops S listed t hlt]
  rw [valS_hi (j:=j) (by omega) (fun k h1 h2 hd=>?_)]
  ·refine valS_lo hT (by omega) (fun k hk hd=>?_)
   have hks:=List.getElem?_eq_getElem (show k<vops.length by omega)
   rw [hks] at hd
   have hd:(vops[k]).dst=some t:=by simpa using hd
   have hcl:clash vops[k] x=true:=by simp [clash,hd,ht]
   exact hbef k (hO.clash k j vops[k] x hk hks hx hcl)
  ·rcases Nat.lt_or_ge j k with hjk|hjk
   ·have hks:=List.getElem?_eq_getElem (show k<vops.length by omega)
    rw [hks] at hd
    have hd:(vops[k]).dst=some t:=by simpa using hd
    have hcl:clash x vops[k]=true:=by simp [clash,hd,ht]
    have hb:=hO.clash j k _ _ hjk hx hks hcl
    cases hs:inS listed k with
    |false=>rfl
    |true=>
     have:=hO.down hc k k (Nat.le_refl _) (by rw [hA.len];exact h2) hs j hb
     rw [hnot] at this;cases this
   ·obtain rfl:k=j:=by omega
    exact hnot
 ·rw [getD_of_out (by simp [slotsS];exact hge),getD_of_out (by rw [hT.len j (by omega)];exact hge)]
theorem slots_after (hO:Ord ops vops bef) (hA:COpsAll P ops vops) {listed:Array Bool} (hsz:listed.size=ops.size) (hc:Closed ops listed) {j:Nat} {x:VOper} (hx:vops[j]?=some x) (hnot:inS listed j=false) :
  slotsS vops S (listed.setIfInBounds j true)=(match x.dst with|some d=>(slotsS vops S listed).set d ((S (j+1)).tmps.getD d .any)|none=>slotsS vops S listed):=by
 have hj:j<vops.length:=(List.getElem?_eq_some_iff.1 hx).1
 have hjl:j<listed.size:=by rw [hsz,hA.len];exact hj
 have hset:∀ k,inS (listed.setIfInBounds j true) k=(if j=k then true else inS listed k):=fun k=>inS_set hjl
 have hsame:∀ t,x.dst≠some t→valS vops S (inS (listed.setIfInBounds j true)) t vops.length=valS vops S (inS listed) t vops.length:=fun t ht=>by
  refine valS_congr fun k hk hd=>?_
  rw [hset k,if_neg]
  rintro rfl
  rw [hx] at hd
  exact ht (by simpa using hd)
 cases hd:x.dst with
 |none=>
  simp only [slotsS]
  exact List.map_congr_left fun t _=>hsame t (by rw [hd];simp)
 |some d=>
  simp only
  apply List.ext_getElem?
  intro t
  rw [List.getElem?_set]
  simp only [slotsS,List.length_map,List.length_range,List.getElem?_map]
  by_cases hdt:d=t
  ·subst hdt
   rw [if_pos rfl]
   by_cases hlt:d<(S 0).tmps.length
   ·rw [if_pos hlt,List.getElem?_range hlt]
    simp only [Option.map_some]
    rw [valS_hi (j:=j+1) (by omega) (fun k h1 h2 hdk=>?_)]
    ·show some (if inS (listed.setIfInBounds j true) j=true∧(vops[j]?).bind (·.dst)=some d then _ else _)=_
     rw [if_pos ⟨by rw [hset j,if_pos rfl],by rw [hx];simpa using hd⟩]
    ·rw [hset k,if_neg (by omega)]
     have hks:=List.getElem?_eq_getElem h2
     rw [hks] at hdk
     have hdk:(vops[k]).dst=some d:=by simpa using hdk
     have hb:=hO.clash j k _ _ (by omega) hx hks (by simp [clash,hd,hdk])
     cases hs:inS listed k with
     |false=>rfl
     |true=>
      have:=hO.down hc k k (Nat.le_refl _) (by rw [hA.len];exact h2) hs j hb
      rw [hnot] at this;cases this
   ·rw [if_neg hlt,List.getElem?_eq_none (by simp;omega)]
    rfl
  ·rw [if_neg hdt]
   by_cases hlt:t<(S 0).tmps.length
   ·rw [List.getElem?_range hlt]
    simp only [Option.map_some]
    rw [hsame t (by rw [hd];simpa using hdt)]
   ·rw [List.getElem?_eq_none (by simp;omega)]
    rfl
theorem St.same.trans' {a b c:St} (h:b.same c) (k:a.same b):a.same c:=k.trans h
theorem exists_least {p:Nat→Prop}:∀ (n:Nat),p n→∃ k,p k∧∀ i,i<k→¬p i:=by
 intro n
 induction n using Nat.strongRecOn with
 |_ n ih=>
  intro hn
  by_cases h:∃ i,i<n∧p i
  ·obtain ⟨i,hi,hpi⟩:=h
   exact ih i hi hpi
  ·exact ⟨n,hn,fun i hi hpi=>h ⟨i,hi,hpi⟩⟩
theorem mask_set {pd:Nat→Bool} {l:List V} {d:Nat} {v:V} (h:pd d=false):mask pd (l.set d v)=(mask pd l).set d v:=by
 apply List.ext_getElem?
 intro t
 rw [List.getElem?_set]
 simp only [mask,List.length_set,List.length_map,List.length_range,List.getElem?_map]
 rcases Nat.lt_or_ge t l.length with hlt|hge
 ·rw [List.getElem?_range hlt]
  simp only [Option.map_some]
  by_cases hdt:d=t
  ·subst hdt
   rw [if_pos rfl,if_pos hlt]
   simp [h,List.getD,List.getElem?_set,hlt]
  ·rw [if_neg hdt]
   simp [List.getD,List.getElem?_set,hdt]
 ·rw [List.getElem?_eq_none (by simp;exact hge)]
  split
  ·rename_i hdt;subst hdt;rw [if_neg (by omega)];rfl
  ·rfl
theorem J0.adopt (hT:Tr C vops S) (hA:COpsAll P ops vops) {listed:Array Bool} {a:Act} {w:World}:∀ (n:Nat) {G:Gh} {p:Nat} {pend:Nat→Option Nat},vops.length-p≤n→J0 P w0 G0 Gs ws ops vops S bef listed a w G p pend →
  ∃ G p pend,J0 P w0 G0 Gs ws ops vops S bef listed a w G p pend∧∀ k,pend k≠none→∃ i x,i<k∧vops[i]?=some x∧x.op.isE=true∧inS listed i=false:=by
 intro n
 induction n with
 |zero=>
  intro G p pend hn h
  refine ⟨G,p,pend,h,fun k hk=>?_⟩
  obtain ⟨b,hb⟩:=Option.ne_none_iff_exists'.1 hk
  have hp:=h.ok k b hb
  obtain ⟨d,cells,z,e,hv,_⟩:=hp.ex
  have:=(List.getElem?_eq_some_iff.1 hv).1
  have:=hp.ge
  omega
 |succ n ih=>
  intro G p pend hn h
  by_cases hex:∃ k,pend k≠none∧¬ ∃ i x,i<k∧vops[i]?=some x∧x.op.isE=true∧inS listed i=false
  case neg=>
   refine ⟨G,p,pend,h,fun k hk=>?_⟩
   by_cases hc:∃ i x,i<k∧vops[i]?=some x∧x.op.isE=true∧inS listed i=false
   ·exact hc
   ·exact absurd ⟨k,hk,hc⟩ hex
  case pos=>
  obtain ⟨k1,hk1,hno1⟩:=hex
  obtain ⟨k,hk,hmin⟩:=exists_least (p:=fun k=>pend k≠none) k1 hk1
  have hkk1:k≤k1:=by
   rcases Nat.lt_or_ge k1 k with hlt|hge
   ·exact absurd hk1 (hmin k1 hlt)
   ·exact hge
  have hall:∀ i x,i<k→vops[i]?=some x→x.op.isE=true→inS listed i=true:=fun i x hi hx hE=>by
   cases hs:inS listed i with
   |true=>rfl
   |false=>exact absurd ⟨i,x,by omega,hx,hE,hs⟩ hno1
  obtain ⟨b,hb⟩:=Option.ne_none_iff_exists'.1 hk
  have hp:=h.ok k b hb
  obtain ⟨d,cells,z,e,hv,hfl,hL,hrc,htm,hNL⟩:=hp.ex
  have hklt:=(List.getElem?_eq_some_iff.1 hv).1
  have hsame:(S k).same (S p):=hT.same_range hp.ge (by omega) (fun i x h1 h2 hx=>by
   cases hE:x.op.isE with
   |false=>rfl
   |true=>
    rcases (h.eff i x hx hE).1 (hall i x h2 hx hE) with h3|h3
    ·omega
    ·exact absurd h3 (hmin i h2))
  have hS1:S (k+1)=({ S k with blocks:=(S k).blocks++[cells] }:St).put (some d) (.ptr (S k).blocks.length 0):=by
   rcases hT.step k _ hv with ⟨_,r,s,hs,he⟩|⟨hw,_⟩
   ·simp only [vStep,Option.some.injEq,Prod.mk.injEq] at hs
    obtain ⟨rfl,rfl⟩:=hs
    exact he
   ·simp [vWanted] at hw
  have hL':Loose { S p with tmps:=mask (pdOf vops pend) (slotsS vops S listed) } G w b (.cells z e (0,0)):=hL.st (fun _ h=>h) rfl
  obtain ⟨hR',hle,hlo⟩:=h.rl.adopt hL' hp.old (hrc G)
  have hs2:(S (k+1)).same { S p with blocks:=(S p).blocks++[cells] }:=by
   obtain ⟨h1,h2,h3,h4,h5⟩:=hsame
   rw [hS1]
   exact ⟨by simp [St.put,h1],h2,h3,h4,h5⟩
  have hpk:=hp.ge
  refine ih (G:=G.blk (S p).blocks.length b z.size) (p:=k+1) (pend:=fun i=>if i=k then none else pend i) (by omega) ⟨by omega,fun i x hx hE=>?_,fun i c hi=>?_,?_,?_,h.df,Gh.le_trans h.gle hle,fun c o hc=>?_⟩
  ·constructor
   ·intro hin
    rcases (h.eff i x hx hE).1 hin with h3|h3
    ·have:=hp.ge;exact .inl (by omega)
    ·by_cases hik:i=k
     ·exact .inl (by omega)
     ·right;rw [if_neg hik];exact h3
   ·rintro (h3|h3)
    ·by_cases hik:i=k
     ·subst hik;exact hp.li
     ·exact hall i x (by omega) hx hE
    ·by_cases hik:i=k
     ·rw [if_pos hik] at h3;exact absurd rfl h3
     ·rw [if_neg hik] at h3
      exact (h.eff i x hx hE).2 (.inr h3)
  ·have hik:i≠k:=by rintro rfl;simp at hi
   rw [if_neg hik] at hi
   have hp2:=h.ok i c hi
   have hcb:c≠b:=by rintro rfl;exact hik (hp.inj i hi)
   have hki:k<i:=by
    rcases Nat.lt_trichotomy i k with h3|h3|h3
    ·exact absurd (by rw [hi];simp) (hmin i h3)
    ·exact absurd h3 hik
    ·exact h3
   obtain ⟨d2,cells2,z2,e2,hv2,hfl2,hL2,hrc2,htm2,hNL2⟩:=hp2.ex
   refine ⟨hki,hp2.li,hp2.old,fun k' hk'=>?_,hp2.nl,d2,cells2,z2,e2,hv2,hfl2,?_,hrc2,htm2,hNL2⟩
   ·by_cases hkk:k'=k
    ·rw [if_pos hkk] at hk';cases hk'
    ·rw [if_neg hkk] at hk';exact hp2.inj k' hk'
   ·have h4:=hlo c _ hcb (hL2.st (st':={ S p with tmps:=mask (pdOf vops pend) (slotsS vops S listed) }) (fun _ h=>h) rfl)
    exact h4.st (fun g hg=>by rw [hs2.2.1] at hg;exact hg) hs2.2.2.2.2
  ·have h5:=hR'.tmps (mask (pdOf vops fun i=>if i=k then none else pend i) (slotsS vops S listed))
   rw [hs2.eq];exact h5
  ·refine ⟨h.rt.1.trans (by rw [mask_length,mask_length]),fun t v x h1 h2=>?_⟩
   rcases mask_get h1 with ⟨_,rfl⟩|⟨hpd,h1⟩
   ·exact .any _
   ·by_cases htd:t=d
    ·subst htd
     have hlt:t<(S 0).tmps.length:=by have:=(List.getElem?_eq_some_iff.1 h1).1;simpa [slotsS] using this
     rw [htm hlt] at h2
     have hvx:v=.ptr (S k).blocks.length 0:=by
      have h6:(slotsS vops S listed).getD t .any=v:=by rw [List.getD,h1];rfl
      rw [slotsS_getD vops S listed t hlt,valS_hi (j:=k+1) (by omega) (fun r hr1 hr2 hrd=>?_)] at h6
      ·rw [← h6]
       show (if inS listed k=true∧(vops[k]?).bind (·.dst)=some t then (S (k+1)).tmps.getD t .any else _)=_
       rw [if_pos ⟨hp.li,by rw [hv];rfl⟩,hS1]
       simp [St.put,List.getD,List.getElem?_set,hT.len k (by omega),hlt]
      ·have hrs:=List.getElem?_eq_getElem hr2
       rw [hrs] at hrd
       exact hNL r _ hrs (by omega) (by simpa using hrd)
     subst hvx
     simp only [Option.some.injEq] at h2;subst h2
     rw [hsame.1]
     exact .ptr (by simp [Gh.blk])
    ·refine (h.rt.2 t v x ?_ h2).mono hle
     have hpd2:pdOf vops pend t=false:=by
      rw [pdOf_false] at hpd ⊢
      rintro ⟨k',hk',hd'⟩
      by_cases hkk:k'=k
      ·subst hkk
       rw [hv] at hd'
       exact htd (by simpa using hd'.symm)
      ·exact hpd ⟨k',by rw [if_neg hkk];exact hk',hd'⟩
     have hlt:=(List.getElem?_eq_some_iff.1 h1).1
     rw [mask,List.getElem?_map,List.getElem?_range hlt]
     simp [hpd2,List.getD,h1]
  ·have h1:=h.stay c o hc
   have hcb:c≠b:=by rintro rfl;exact hp.nl o hc
   have h4:=hlo c _ hcb (h1.st (st':={ S p with tmps:=mask (pdOf vops pend) (slotsS vops S listed) }) (fun _ h=>h) rfl)
   exact h4.st (fun g hg=>by rw [hs2.2.1] at hg;exact hg) hs2.2.2.2.2
theorem draw_step (hC:OrcOk2 P C) (hFn:OrcFn2 P C) (hd0:G0.dep=0) (hT:Tr C vops S) (hO:Ord ops vops bef) (hA:COpsAll P ops vops) (hL:LoadOk vops S bef) {Q:Exit→Act→World→Prop}
  {listed:Array Bool} {a:Act} {w:World} (hJ:J P w0 G0 Gs ws ops vops S bef listed a w) {j:Nat} (hr:j∈Region.ready .any ops listed) {K:Act→World→Prop}
  (hK:∀ a' w',J P w0 G0 Gs ws ops vops S bef (listed.setIfInBounds j true) a' w'→K a' w'):wpOp P ops Q j K a w:=by
 obtain ⟨hcl,hsz,G,p,pend,h0,hun0⟩:=hJ
 obtain ⟨hp,hpE,hok,hR,ht,hdf,hgle,hgst⟩:=h0
 obtain ⟨hun,o,ho,hall⟩:=mem_ready.1 hr
 have hjo:j<ops.size:=(Array.getElem?_eq_some_iff.1 ho).1
 have hj:j<vops.length:=by rw [← hA.len];exact hjo
 have hx:=List.getElem?_eq_getElem hj
 have hco:=hA.op j o _ ho hx
 have hnot:inS listed j=false:=by
  unfold inS
  simpa [Array.getD,show j<listed.size by omega] using hun
 have hbef:∀ i∈bef j,inS listed i=true:=fun i hi=>by
  obtain ⟨e,he,hb,hor⟩:=hO.befE j o ho i hi
  have hin:inS listed e.on=true:=hall e he hb
  have hlt:=hO.edge j o ho e he hb
  rcases hor with rfl|hi'
  ·exact hin
  ·exact hO.down hcl e.on e.on (Nat.le_refl _) (by omega) hin i hi'
 have hat:∀ t∈(vops[j]).looks,(slotsS vops S listed).getD t .any=(S j).tmps.getD t .any:=fun t=>slots_at hT hO hA hcl hx hbef hnot
 have hcl':Closed ops (listed.setIfInBounds j true):=by
  intro k ok hok hk e he hb
  rw [inS_set (by omega)] at hk ⊢
  by_cases hjk:j=k
  ·subst hjk
   rw [ho] at hok;simp at hok;subst hok
   split
   ·rfl
   ·exact hall e he hb
  ·rw [if_neg hjk] at hk
   split
   ·rfl
   ·exact hcl k ok hok hk e he hb
 have hpdj:∀ t,(t∈(vops[j]).looks∨(vops[j]).dst=some t)→pdOf vops pend t=false:=fun t htl=>by
  rw [pdOf_false]
  rintro ⟨k,hk,hkd⟩
  obtain ⟨b,hb⟩:=Option.ne_none_iff_exists'.1 hk
  obtain ⟨d,cells,z,e,hv,hfl,_⟩:=(hok k b hb).ex
  rw [hv] at hkd
  obtain rfl:d=t:=by simpa using hkd
  rcases Nat.lt_trichotomy k j with h1|h1|h1
  ·obtain ⟨i,x,hi,hxi,hxE,hxs⟩:=hun0 k hk
   obtain ⟨d2,cells2,he2,hfl2⟩:=hfl
   simp only [VOper.mk.injEq,Option.some.injEq,VOp.box.injEq] at he2
   obtain ⟨rfl,_,_⟩:=he2
   have:=hbef i (hfl2 j _ hx h1 htl i x hi hxi hxE)
   rw [hxs] at this;cases this
  ·subst h1
   have:=(hok k b hb).li
   rw [hnot] at this;cases this
  ·have hc:clash vops[j] ⟨some d,.box cells,none⟩=true:=by
    rcases htl with h2|h2
    ·simp [clash,h2]
    ·simp [clash,h2]
   have hbk:=hO.clash j k _ _ h1 hx hv hc
   have:=hO.down hcl k k (Nat.le_refl _) (by rw [hA.len];exact (List.getElem?_eq_some_iff.1 hv).1) (hok k b hb).li j hbk
   rw [hnot] at this;cases this
 have hatm:∀ t∈(vops[j]).looks,(mask (pdOf vops pend) (slotsS vops S listed)).getD t .any=(S j).tmps.getD t .any:=fun t htl=>by
  rw [mask_getD (hpdj t (.inl htl))];exact hat t htl
 have hreads:∀ t∈(vops[j]).op.reads,(S j).tmps.getD t .any=(mask (pdOf vops pend) (slotsS vops S listed)).getD t .any:=fun t htr=>(hatm t (List.mem_append_left _ htr)).symm
 have hW:vWanted (mask (pdOf vops pend) (slotsS vops S listed)) (vops[j]).guard=vWanted (S j).tmps (vops[j]).guard:=by
  cases hg:(vops[j]).guard with
  |none=>rfl
  |some g=>
   obtain ⟨t,want⟩:=g
   simp only [vWanted]
   rw [hatm t (by simp [VOper.looks,hg])]
 have hdepS:(S p).dep=0:=hR.dep0.symm.trans hd0
 have hlS:=hT.len j (by omega)
 have hdd:∀ k b,pend k=some b→∀ d cells,vops[k]?=some ⟨some d,.box cells,none⟩→(vops[j]).dst≠some d:=fun k b hb d cells hv hd=>by
  have:=hpdj d (.inr hd)
  rw [pdOf_false] at this
  exact this ⟨k,by rw [hb];simp,by rw [hv];rfl⟩
 have finish:∀ (r:V) (x:Value) (G':Gh) (w':World) (q:Nat) (st2:St),RelV G' r x→Rl w0 G0 st2 G' w'→G.le G'→Stay { S p with tmps:=mask (pdOf vops pend) (slotsS vops S listed) } G w st2 G' w'→st2.same (S q)→q≤vops.length →
   (∀ (k:Nat) ok,vops[k]?=some ok→ok.op.isE=true→(inS (listed.setIfInBounds j true) k=true↔(k<q∨pend k≠none)))→(∀ k,pend k≠none→q≤k) →
   (S (j+1)).tmps.getD ((vops[j]).dst.getD 0) .any=r∨(vops[j]).dst=none∨(S 0).tmps.length≤(vops[j]).dst.getD 0→K (a.put o.dst x) w':=by
  intro r x G' w' q st2 hv hR' hle hstay hst hq hqE hge hval
  have hJ0:J0 P w0 G0 Gs ws ops vops S bef (listed.setIfInBounds j true) (a.put o.dst x) w' G' q pend:=by
   refine ⟨hq,hqE,fun k b hb=>?_,?_,?_,?_,Gh.le_trans hgle hle,fun c oo hc=>?_⟩
   ·have hpk:=hok k b hb
    obtain ⟨d,cells,z,e,hvk,hfl,hL,hrc,htm,hNL⟩:=hpk.ex
    refine ⟨hge k (by rw [hb];simp),?_,hpk.old,hpk.inj,hpk.nl,d,cells,z,e,hvk,hfl,?_,hrc,fun hd=>?_,fun r' y hy hr' hd'=>?_⟩
    ·rw [inS_set (by omega)]
     split
     ·rfl
     ·exact hpk.li
    ·have h4:=hstay b _ (hL.st (st':={ S p with tmps:=mask (pdOf vops pend) (slotsS vops S listed) }) (fun _ h=>h) rfl)
     exact h4.st (fun g hg=>by rw [hst.2.1];exact hg) hst.2.2.2.2.symm
    ·have hne:=hdd k b hb d cells hvk
     rw [hco.dst]
     cases hdj:(vops[j]).dst with
     |none=>exact htm hd
     |some d'=>
      have hne':d'≠d:=by rintro rfl;exact hne hdj
      show (a.tmps.setIfInBounds d' x)[d]?=_
      rw [Array.getElem?_setIfInBounds_ne hne'];exact htm hd
    ·rw [inS_set (by omega),if_neg]
     ·exact hNL r' y hy hr' hd'
     ·rintro rfl
      rw [hx] at hy;simp at hy;subst hy
      exact hdd k b hb d cells hvk hd'
   ·rw [← hst.eq];exact hR'.tmps _
   ·rw [slots_after hO hA hsz hcl hx hnot,hco.dst]
    cases hd:(vops[j]).dst with
    |none=>exact ht.mono hle
    |some d=>
     simp only
     rw [mask_set (hpdj d (.inr hd))]
     rw [hd] at hval
     rcases hval with hval|hval|hval
     ·simp only [Option.getD_some] at hval
      rw [hval]
      exact (ht.mono hle).set d hv
     ·cases hval
     ·simp only [Option.getD_some] at hval
      have h1:∀ v:V,(mask (pdOf vops pend) (slotsS vops S listed)).set d v=(mask (pdOf vops pend) (slotsS vops S listed)).set d r:=fun v=>by
       rw [List.set_eq_of_length_le (by simp [mask,slotsS];exact hval),List.set_eq_of_length_le (by simp [mask,slotsS];exact hval)]
      rw [h1]
      exact (ht.mono hle).set d hv
   ·cases o.dst<;>exact hdf
   ·have h4:=hstay c oo ((hgst c oo hc).st (st':={ S p with tmps:=mask (pdOf vops pend) (slotsS vops S listed) }) (fun _ h=>h) rfl)
    exact h4.st (fun g hg=>by rw [hst.2.1];exact hg) hst.2.2.2.2.symm
  obtain ⟨G2,p2,pend2,h1,h2⟩:=J0.adopt hT hA (vops.length-q) (Nat.le_refl _) hJ0
  exact hK _ _ ⟨hcl',by simpa using hsz,G2,p2,pend2,h1,h2⟩
 have hval:∀ (s:St) (r:V),s.tmps.length=(S 0).tmps.length→S (j+1)=s.put (vops[j]).dst r→(S (j+1)).tmps.getD ((vops[j]).dst.getD 0) .any=r∨(vops[j]).dst=none∨(S 0).tmps.length≤(vops[j]).dst.getD 0:=by
  intro s r hl he
  cases hd:(vops[j]).dst with
  |none=>exact .inr (.inl rfl)
  |some d=>
   rw [hd] at he
   rcases Nat.lt_or_ge d (S 0).tmps.length with hlt|hge
   ·left
    rw [he]
    simp [St.put,List.getD,List.getElem?_set,hl,hlt]
   ·exact .inr (.inr hge)
 have hpge:∀ k,pend k≠none→p≤k:=fun k hk=>by
  obtain ⟨b,hb⟩:=Option.ne_none_iff_exists'.1 hk
  exact (hok k b hb).ge
 have hqQ:(vops[j]).op.isE=false→∀ (k:Nat) ok,vops[k]?=some ok→ok.op.isE=true→(inS (listed.setIfInBounds j true) k=true↔(k<p∨pend k≠none)):=fun hE k ok hk hkE=>by
  rw [inS_set (by omega),if_neg]
  ·exact hpE k ok hk hkE
  ·rintro rfl
   rw [hx] at hk;simp at hk;subst hk
   rw [hE] at hkE;cases hkE
 have hpj:(vops[j]).op.isE=true→p≤j:=fun hE=>by
  rcases Nat.lt_or_ge j p with h1|h1
  ·have:=(hpE j _ hx hE).2 (.inl h1)
   rw [hnot] at this;cases this
  ·exact h1
 have hturn:(vops[j]).op.isE=true→(¬ ∃ i x,i<j∧vops[i]?=some x∧x.op.isE=true∧inS listed i=false)→(S j).same (S p) ∧
   (∀ (k:Nat) ok,vops[k]?=some ok→ok.op.isE=true→(inS (listed.setIfInBounds j true) k=true↔(k<j+1∨pend k≠none)))∧∀ k,pend k≠none→j+1≤k:=fun hE hU=>by
  have hlist:∀ i x,i<j→vops[i]?=some x→x.op.isE=true→inS listed i=true:=fun i x hi hxi hxE=>by
   cases hs:inS listed i with
   |true=>rfl
   |false=>exact absurd ⟨i,x,hi,hxi,hxE,hs⟩ hU
  have hpend:∀ k,pend k≠none→j+1≤k:=fun k hk=>by
   rcases Nat.lt_trichotomy k j with h1|h1|h1
   ·obtain ⟨i,x,hi,hxi,hxE,hxs⟩:=hun0 k hk
    exact absurd ⟨i,x,by omega,hxi,hxE,hxs⟩ hU
   ·subst h1
    obtain ⟨b,hb⟩:=Option.ne_none_iff_exists'.1 hk
    have:=(hok k b hb).li
    rw [hnot] at this;cases this
   ·exact h1
  refine ⟨hT.same_range (hpj hE) (by omega) (fun k ok h1 h2 hk=>?_),fun k ok hk hkE=>?_,hpend⟩
  ·cases hkE:ok.op.isE with
   |false=>rfl
   |true=>
    rcases (hpE k _ hk hkE).1 (hlist k ok h2 hk hkE) with h3|h3
    ·omega
    ·have:=hpend k h3;omega
  ·rw [inS_set (by omega)]
   by_cases hjk:j=k
   ·subst hjk;simp
   ·rw [if_neg hjk]
    constructor
    ·intro hin
     rcases (hpE k ok hk hkE).1 hin with h3|h3
     ·have:=hpj hE;left;omega
     ·exact .inr h3
    ·rintro (h3|h3)
     ·exact hlist k ok (by omega) hk hkE
     ·exact (hpE k ok hk hkE).2 (.inr h3)
 unfold wpOp
 simp only [ho]
 by_cases hearly:(vops[j]).op.isE=true∧∃ i x,i<j∧vops[i]?=some x∧x.op.isE=true∧inS listed i=false
 case pos=>
  obtain ⟨hE,i,xi,hij,hxi,hxiE,hxis⟩:=hearly
  have hfl:Floats vops bef j vops[j]:=by
   rcases hO.ee i j xi _ hij hxi hx hxiE hE with h1|h1
   ·have:=hbef i h1
    rw [hxis] at this;cases this
   ·exact h1
  obtain ⟨d,cells,hbox,hfl2⟩:=hfl
  have hd:(vops[j]).dst=some d:=by rw [hbox]
  have hg:(vops[j]).guard=none:=by rw [hbox]
  have hW2:vWanted (mask (pdOf vops pend) (slotsS vops S listed)) (vops[j]).guard=some true:=by rw [hg];rfl
  rw [wanted_rel ht hco.guard hW2,if_pos rfl]
  left
  have hcs:Cstep P o.op (.box cells):=by have:=hco.op;rw [hbox] at this;exact this
  refine alloc_early hcs (fun z e hz=>?_)
  obtain ⟨hR2,hLnew,hstay⟩:=hR.alloc_loose (.cells z e)
  have hbx:vops[j]?=some ⟨some d,.box cells,none⟩:=by rw [hx,hbox]
  have hpdd:pdOf vops pend d=false:=hpdj d (.inr hd)
  have hsub:∀ t,pdOf vops pend t=true→pdOf vops (fun k=>if k=j then some w.heap.size else pend k) t=true:=fun t htp=>by
   rw [pdOf_true] at htp ⊢
   obtain ⟨k,hk,hkd⟩:=htp
   refine ⟨k,?_,hkd⟩
   show (if k=j then some w.heap.size else pend k)≠none
   split
   ·simp
   ·exact hk
  have hpd':pdOf vops (fun k=>if k=j then some w.heap.size else pend k) d=true:=pdOf_true.2 ⟨j,by simp,by rw [hbx];rfl⟩
  have hod:o.dst=some d:=by rw [hco.dst,hd]
  rw [hod]
  have hsz2:(slotsS vops S (listed.setIfInBounds j true)).length=(slotsS vops S listed).length:=by simp [slotsS]
  refine hK _ _ ⟨hcl',by simpa using hsz,G,p,fun k=>if k=j then some w.heap.size else pend k,⟨hp,fun k ok hk hkE=>?_,fun k b hb=>?_,hR2.tmps _,?_,hdf,hgle,fun c oo hc=>(hstay c oo ((hgst c oo hc).st (fun _ h=>h) rfl)).st (fun _ h=>h) rfl⟩,fun k hk=>?_⟩
  ·rw [inS_set (by omega)]
   by_cases hjk:j=k
   ·subst hjk;simp
   ·rw [if_neg hjk,if_neg (Ne.symm hjk)]
    exact hpE k ok hk hkE
  ·by_cases hkj:k=j
   ·subst hkj
    rw [if_pos rfl] at hb
    simp only [Option.some.injEq] at hb;subst hb
    refine ⟨hpj hE,by rw [inS_set (by omega),if_pos rfl],hR.wx.size,fun k' hk'=>?_,fun oo hc=>absurd (hgst _ oo hc).lt (Nat.lt_irrefl _),d,cells,z,e,hbx,⟨d,cells,rfl,hfl2⟩,hLnew.st (fun _ h=>h) rfl,hz,fun hdl=>?_,fun r y hy hr' hd'=>?_⟩
    ·by_cases h2:k'=k
     ·exact h2
     ·rw [if_neg h2] at hk'
      obtain ⟨d2,cells2,z2,e2,hv2,hfl3,hL2,_⟩:=(hok k' _ hk').ex
      exact absurd hL2.lt (Nat.lt_irrefl _)
    ·show (a.tmps.setIfInBounds d _)[d]?=_
     rw [Array.getElem?_setIfInBounds,if_pos rfl,if_pos]
     rw [ht.1,mask_length];simpa [slotsS] using hdl
    ·rw [inS_set (by omega),if_neg (by omega)]
     cases hs:inS listed r with
     |false=>rfl
     |true=>
      have hb2:=hfl2 r y hy hr' (.inr hd') i xi hij hxi hxiE
      have:=hO.down hcl r r (Nat.le_refl _) (by rw [hA.len];exact (List.getElem?_eq_some_iff.1 hy).1) hs i hb2
      rw [hxis] at this;cases this
   ·rw [if_neg hkj] at hb
    have hpk:=hok k b hb
    obtain ⟨d2,cells2,z2,e2,hv2,hfl3,hL2,hrc2,htm2,hNL2⟩:=hpk.ex
    have hne:=hdd k b hb d2 cells2 hv2
    have hne':d≠d2:=by rintro rfl;exact hne hd
    refine ⟨hpk.ge,?_,hpk.old,fun k' hk'=>?_,hpk.nl,d2,cells2,z2,e2,hv2,hfl3,?_,hrc2,fun hdl=>?_,fun r y hy hr' hd'=>?_⟩
    ·rw [inS_set (by omega)]
     split
     ·rfl
     ·exact hpk.li
    ·by_cases h2:k'=j
     ·subst h2
      rw [if_pos rfl] at hk'
      simp only [Option.some.injEq] at hk'
      have:=hL2.lt;omega
     ·rw [if_neg h2] at hk';exact hpk.inj k' hk'
    ·exact (hstay b _ (hL2.st (fun _ h=>h) rfl)).st (fun _ h=>h) rfl
    ·show (a.tmps.setIfInBounds d _)[d2]?=_
     rw [Array.getElem?_setIfInBounds_ne hne'];exact htm2 hdl
    ·rw [inS_set (by omega),if_neg]
     ·exact hNL2 r y hy hr' hd'
     ·rintro rfl
      rw [hx] at hy;simp at hy;subst hy
      exact hne hd'
  ·refine ⟨?_,fun t v x h1 h2=>?_⟩
   ·show (a.tmps.setIfInBounds d _).size=_
    rw [Array.size_setIfInBounds,ht.1,mask_length,mask_length,hsz2]
   ·rcases mask_get h1 with ⟨_,rfl⟩|⟨hpd,h1⟩
    ·exact .any _
    ·have htd:d≠t:=by rintro rfl;rw [hpd'] at hpd;cases hpd
     have h2':(a.tmps.setIfInBounds d (.pointer (some ⟨w.heap.size,0,none⟩)))[t]?=some x:=h2
     rw [Array.getElem?_setIfInBounds_ne htd] at h2'
     rw [slots_after hO hA hsz hcl hx hnot,hd] at h1
     simp only at h1
     rw [List.getElem?_set_ne htd] at h1
     refine ht.2 t v x ?_ h2'
     have hpd2:pdOf vops pend t=false:=by
      cases hq:pdOf vops pend t with
      |false=>rfl
      |true=>rw [hsub t hq] at hpd;cases hpd
     have hlt:=(List.getElem?_eq_some_iff.1 h1).1
     rw [mask,List.getElem?_map,List.getElem?_range hlt]
     simp [hpd2,List.getD,h1]
  ·by_cases hkj:k=j
   ·subst hkj
    exact ⟨i,xi,hij,hxi,hxiE,by rw [inS_set (by omega),if_neg (by omega)];exact hxis⟩
   ·have hk':(if k=j then some w.heap.size else pend k)≠none:=hk
    rw [if_neg hkj] at hk'
    obtain ⟨i2,x2,hi2,hx2,hx2E,hx2s⟩:=hun0 k hk'
    by_cases h3:i2=j
    ·subst h3
     exact ⟨i,xi,by omega,hxi,hxiE,by rw [inS_set (by omega),if_neg (by omega)];exact hxis⟩
    ·exact ⟨i2,x2,hi2,hx2,hx2E,by rw [inS_set (by omega),if_neg (Ne.symm h3)];exact hx2s⟩
 case neg=>
 have hnoU:(vops[j]).op.isE=true→¬ ∃ i x,i<j∧vops[i]?=some x∧x.op.isE=true∧inS listed i=false:=fun hE hU=>hearly ⟨hE,hU⟩
 rcases hT.step j _ hx with ⟨hw,r,s,hs,he⟩|⟨hw,he⟩
 ·rw [wanted_rel ht hco.guard (hW.trans hw),if_pos rfl]
  left
  have hsl:=(vStep_base hs).2.2.1
  cases hE:(vops[j]).op.isE with
  |false=>
   have hblk:∀ id,(vops[j]).op.blk (S j).tmps=some id→(S j).blocks[id]?=(S p).blocks[id]?:=by
    intro id hid
    have chain:∀ (n lo:Nat),lo+n≤vops.length→(∀ k,lo≤k→k<lo+n→(∃ y,vops[k]?=some y∧y.op.isE=true∧Need vops bef j k)∨(∃ y,vops[k]?=some y∧y.op.isE=false)) →
      (S lo).blocks[id]?=(S (lo+n)).blocks[id]?:=by
     intro n
     induction n with
     |zero=>intro lo _ _;rfl
     |succ n ih=>
      intro lo hlo hk
      rw [ih lo (by omega) (fun k h1 h2=>hk k h1 (by omega))]
      rcases hk (lo+n) (by omega) (by omega) with ⟨y,hy,hyE,hor⟩|⟨y,hy,hyE⟩
      ·exact hL j (lo+n) _ y hx hy hyE hor hw id hid
      ·rw [show lo+(n+1)=lo+n+1 by omega,(hT.same_step hy hyE).1]
    rcases Nat.lt_or_ge p j with hpj|hpj
    ·have:=chain (j-p) p (by omega) (fun k h1 h2=>by
      have hks:=List.getElem?_eq_getElem (show k<vops.length by omega)
      cases hkE:(vops[k]).op.isE with
      |false=>exact .inr ⟨_,hks,hkE⟩
      |true=>
       refine .inl ⟨_,hks,hkE,?_⟩
       by_cases hb:k∈bef j
       ·rcases (hpE k _ hks hkE).1 (hbef k hb) with h3|h3
        ·omega
        ·obtain ⟨i,x,hi,hxi,hxE,hxs⟩:=hun0 k h3
         refine .inr (.inr ⟨by omega,i,x,hi,hxi,hxE,fun hb2=>?_⟩)
         have:=hbef i hb2
         rw [hxs] at this;cases this
       ·exact .inl ⟨by omega,hb⟩)
     rw [show p+(j-p)=j by omega] at this
     exact this.symm
    ·have:=chain (p-j) j (by omega) (fun k h1 h2=>by
      have hks:=List.getElem?_eq_getElem (show k<vops.length by omega)
      cases hkE:(vops[k]).op.isE with
      |false=>exact .inr ⟨_,hks,hkE⟩
      |true=>
       refine .inl ⟨_,hks,hkE,.inr (.inl ⟨?_,fun hb=>?_⟩)⟩
       ·rcases Nat.lt_or_ge j k with h3|h3
        ·exact h3
        ·obtain rfl:j=k:=by omega
         rw [hE] at hkE;cases hkE
       ·have hkp:k<p:=by have:=hpj;omega
        have hin:=(hpE k _ hks hkE).2 (.inl hkp)
        have:=hO.down hcl k k (Nat.le_refl _) (by rw [hA.len];omega) hin j hb
        rw [hnot] at this;cases this)
     rw [show j+(p-j)=p by omega] at this
     exact this
   obtain ⟨hs2,hs3⟩:=vStep_congrP (st2:={ S p with tmps:=mask (pdOf vops pend) (slotsS vops S listed) }) hE hreads hblk hs
   subst hs3
   refine step_sound hC hFn hR hdepS ht hco.op hs2 (fun x G' w' hv hR' hle hst=>?_)
   exact finish r x G' w' p _ hv hR' hle hst ⟨rfl,rfl,rfl,rfl,rfl⟩ hp (hqQ hE) hpge (hval (S j) r hlS he)
  |true=>
   obtain ⟨hsame,hq1,hq2⟩:=hturn hE (hnoU hE)
   have hs2:=vStep_congrE (us:=mask (pdOf vops pend) (slotsS vops S listed)) hreads hE hs
   rw [hsame.eq] at hs2
   refine step_sound hC hFn hR hdepS ht hco.op hs2 (fun x G' w' hv hR' hle hst=>?_)
   refine finish r x G' w' (j+1) _ hv hR' hle hst ?_ (by omega) hq1 hq2 (hval s r (by rw [hsl];exact hlS) he)
   rw [he];exact (St.put_same _ _ _).symm.trans' ⟨rfl,rfl,rfl,rfl,rfl⟩
 ·rw [wanted_rel ht hco.guard (hW.trans hw),if_neg (by simp)]
  cases hE:(vops[j]).op.isE with
  |false=>
   exact finish (.tup []) undef G w p _ (rel_undef _) hR G.le_refl (Stay.refl _ _ _) ⟨rfl,rfl,rfl,rfl,rfl⟩ hp (hqQ hE) hpge (hval (S j) (.tup []) (hT.len j (by omega)) he)
  |true=>
   obtain ⟨hsame,hq1,hq2⟩:=hturn hE (hnoU hE)
   refine finish (.tup []) undef G w (j+1) { S p with tmps:=mask (pdOf vops pend) (slotsS vops S listed) } (rel_undef _) hR G.le_refl (Stay.refl _ _ _) ?_ (by omega) hq1 hq2 (hval (S j) (.tup []) (hT.len j (by omega)) he)
   rw [he]
   have h1:({ S p with tmps:=mask (pdOf vops pend) (slotsS vops S listed) }:St).same (S p):=⟨rfl,rfl,rfl,rfl,rfl⟩
   exact (h1.trans hsame.symm).trans (St.put_same _ _ _).symm
def cntS (f:Nat→Bool):Nat→Nat
 |0=>0
 |n+1=>cntS f n+(if f n=true then 1 else 0)
theorem cntS_le (f:Nat→Bool):∀ n,cntS f n≤n
 |0=>Nat.le_refl _
 |n+1=>by have:=cntS_le f n;unfold cntS;split<;>omega
theorem cntS_full {f:Nat→Bool}:∀ {n:Nat},n≤cntS f n→∀ k,k<n→f k=true
 |0,_,k,hk=>by omega
 |n+1,h,k,hk=>by
  have hle:=cntS_le f n
  unfold cntS at h
  by_cases hf:f n=true
  ·rw [if_pos hf] at h
   rcases Nat.lt_or_ge k n with h1|h1
   ·exact cntS_full (n:=n) (by omega) k h1
   ·obtain rfl:k=n:=by omega
    exact hf
  ·rw [if_neg hf] at h;omega
theorem cntS_congr {f g:Nat→Bool}:∀ {n:Nat},(∀ k,k<n→f k=g k)→cntS f n=cntS g n
 |0,_=>rfl
 |n+1,h=>by unfold cntS;rw [cntS_congr (n:=n) (fun k hk=>h k (by omega)),h n (by omega)]
theorem cntS_set {f g:Nat→Bool} {j:Nat} (hg:∀ k,g k=if j=k then true else f k) (hj:f j=false):∀ {n:Nat},j<n→cntS g n=cntS f n+1
 |0,h=>by omega
 |n+1,h=>by
  unfold cntS
  by_cases hjn:j=n
  ·subst hjn
   rw [cntS_congr (f:=g) (g:=f) (fun k hk=>by rw [hg k,if_neg (by omega)]),hg j,if_pos rfl,hj]
   simp
  ·rw [cntS_set hg hj (n:=n) (by omega),hg n,if_neg hjn]
   omega
theorem draw_any (hC:OrcOk2 P C) (hFn:OrcFn2 P C) (hd0:G0.dep=0) (hT:Tr C vops S) (hO:Ord ops vops bef) (hA:COpsAll P ops vops) (hL:LoadOk vops S bef) {Q:Exit→Act→World→Prop}
  (hQ:∀ a G w,RelT G (S vops.length).tmps a.tmps→a.defers=[]→Rl w0 G0 (S vops.length) G w→Gs.le G→Stay (S 0) Gs ws (S vops.length) G w→Q .normal a w) :
  ∀ (fuel:Nat) (listed:Array Bool) (a:Act) (w:World),J P w0 G0 Gs ws ops vops S bef listed a w→ops.size≤fuel+cntS (inS listed) ops.size→wpAny P .any ops Q fuel listed a w:=by
 have hdone:∀ (listed:Array Bool) (a:Act) (w:World),J P w0 G0 Gs ws ops vops S bef listed a w→Region.ready .any ops listed=[]→Q .normal a w:=by
  intro listed a w ⟨hcl,hsz,G,p,pend,⟨hp,hpE,hok,hR,ht,hdf,hgle,hgst⟩,hun0⟩ hnil
  have hallS:∀ n k,k≤n→k<ops.size→inS listed k=true:=by
   intro n
   induction n with
   |zero=>
    intro k hk hks
    obtain rfl:k=0:=by omega
    cases hin:inS listed 0 with
    |true=>rfl
    |false=>
     have:0∈Region.ready .any ops listed:=mem_ready.2 ⟨by unfold inS at hin;simpa [Array.getD,show 0<listed.size by omega] using hin,_,Array.getElem?_eq_getElem hks,fun e he hb=>by
      have:=hO.edge 0 _ (Array.getElem?_eq_getElem hks) e he hb;omega⟩
     rw [hnil] at this;cases this
   |succ n ih=>
    intro k hk hks
    cases hin:inS listed k with
    |true=>rfl
    |false=>
     have:k∈Region.ready .any ops listed:=mem_ready.2 ⟨by unfold inS at hin;simpa [Array.getD,show k<listed.size by omega] using hin,_,Array.getElem?_eq_getElem hks,fun e he hb=>by
      have:=hO.edge k _ (Array.getElem?_eq_getElem hks) e he hb
      exact ih e.on (by omega) (by omega)⟩
     rw [hnil] at this;cases this
  have hall:∀ k,k<vops.length→inS listed k=true:=fun k hk=>hallS k k (Nat.le_refl _) (by rw [hA.len];exact hk)
  have hnp:∀ k,pend k=none:=fun k=>by
   cases hk:pend k with
   |none=>rfl
   |some b=>
    obtain ⟨i,x,hi,hxi,hxE,hxs⟩:=hun0 k (by rw [hk];simp)
    rw [hall i (List.getElem?_eq_some_iff.1 hxi).1] at hxs;cases hxs
  have hmk:mask (pdOf vops pend) (slotsS vops S listed)=slotsS vops S listed:=by
   apply List.ext_getElem?
   intro t
   rcases Nat.lt_or_ge t (slotsS vops S listed).length with hlt|hge
   ·have hpd:pdOf vops pend t=false:=by
     rw [pdOf_false]
     rintro ⟨k,hk,_⟩
     exact hk (hnp k)
    rw [mask,List.getElem?_map,List.getElem?_range hlt]
    simp [hpd,List.getD,hlt]
   ·rw [List.getElem?_eq_none (by rw [mask_length];exact hge),List.getElem?_eq_none hge]
  rw [hmk] at hR ht
  have hslots:slotsS vops S listed=(S vops.length).tmps:=by
   apply List.ext_getElem?
   intro t
   have hl:=hT.len vops.length (Nat.le_refl _)
   rcases Nat.lt_or_ge t (S 0).tmps.length with hlt|hge
   ·have h1:(slotsS vops S listed)[t]?=some ((slotsS vops S listed).getD t .any):=by
     rw [List.getElem?_eq_getElem (by simp [slotsS];exact hlt)];simp [List.getD,show t<(slotsS vops S listed).length by simp [slotsS];exact hlt]
    have h2:(S vops.length).tmps[t]?=some ((S vops.length).tmps.getD t .any):=by
     rw [List.getElem?_eq_getElem (by rw [hl];exact hlt)];simp [List.getD,show t<(S vops.length).tmps.length by rw [hl];exact hlt]
    rw [h1,h2,slotsS_getD _ _ _ _ hlt,valS_lo hT (Nat.le_refl _) (fun k hk _=>hall k hk)]
   ·rw [List.getElem?_eq_none (by simp [slotsS];exact hge),List.getElem?_eq_none (by rw [hl];exact hge)]
  have hsame:(S vops.length).same (S p):=hT.same_range hp (Nat.le_refl _) (fun k ok h1 h2 hok=>by
   cases hkE:ok.op.isE with
   |false=>rfl
   |true=>exact ((hpE k ok hok hkE).1 (hall k h2)).elim (fun h3=>by omega) (fun h3=>absurd (hnp k) h3))
  refine hQ a G w (by rw [← hslots];exact ht) hdf ?_ hgle (fun c o hc=>(hgst c o hc).st (fun g hg=>by rw [← hsame.2.1];exact hg) hsame.2.2.2.2)
  have:S vops.length={ S p with tmps:=slotsS vops S listed }:=by
   rw [hslots,← hsame.eq]
  rw [this];exact hR
 intro fuel
 induction fuel with
 |zero=>
  intro listed a w hJ hl
  have hnil:Region.ready .any ops listed=[]:=by
   cases hr:Region.ready .any ops listed with
   |nil=>rfl
   |cons j js=>
    exfalso
    have hj:j∈Region.ready .any ops listed:=by rw [hr];exact List.mem_cons_self
    obtain ⟨hun,o,ho,_⟩:=mem_ready.1 hj
    have hjo:j<ops.size:=(Array.getElem?_eq_some_iff.1 ho).1
    have h1:=cntS_full (f:=inS listed) (n:=ops.size) (by omega) j hjo
    have hsz:=hJ.size
    unfold inS at h1
    simp [Array.getD,show j<listed.size by omega] at h1 hun
    rw [h1] at hun;cases hun
  exact ⟨hnil,hdone listed a w hJ hnil⟩
 |succ fuel ih=>
  intro listed a w hJ hl
  refine ⟨hdone listed a w hJ,fun j hj=>?_⟩
  refine draw_step hC hFn hd0 hT hO hA hL hJ hj (fun a' w' hJ'=>ih _ a' w' hJ' ?_)
  obtain ⟨hun,o,ho,_⟩:=mem_ready.1 hj
  have hjo:j<ops.size:=(Array.getElem?_eq_some_iff.1 ho).1
  have hsz:=hJ.size
  have hnj:inS listed j=false:=by
   unfold inS
   simpa [Array.getD,show j<listed.size by omega] using hun
  rw [cntS_set (f:=inS listed) (fun k=>inS_set (by omega)) hnj hjo]
  omega
theorem draw_soundA (hC:OrcOk2 P C) (hFn:OrcFn2 P C) (hd0:G0.dep=0) (hT:Tr C vops S) (hO:Ord ops vops bef) (hA:COpsAll P ops vops) (hL:LoadOk vops S bef) {Q:Exit→Act→World→Prop}
  {G:Gh} {a:Act} {w:World} (hR:Rl w0 G0 (S 0) G w) (ht:RelT G (S 0).tmps a.tmps) (hdf:a.defers=[])
  (hQ:∀ a G' w',RelT G' (S vops.length).tmps a.tmps→a.defers=[]→Rl w0 G0 (S vops.length) G' w'→G.le G'→Stay (S 0) G w (S vops.length) G' w'→Q .normal a w'):wpAny P .any ops Q ops.size (Array.replicate ops.size false) a { w with drawn:=w.drawn+1 }:=by
 refine (draw_any (Gs:=G) (ws:=w) hC hFn hd0 hT hO hA hL hQ ops.size _ a _ ⟨fun j o ho hin=>?_,by simp,G,0,fun _=>none,⟨Nat.zero_le _,fun k o _ _=>?_,(fun k b hb=>by cases hb),?_,?_,hdf,G.le_refl,Stay.world (Wx.drew w _)⟩,fun k hk=>absurd rfl hk⟩ (Nat.le_add_right _ _))
 ·exfalso
  unfold inS at hin
  simp [Array.getD] at hin
 ·constructor
  ·intro hin
   unfold inS at hin
   simp [Array.getD] at hin
  ·rintro (h|h)
   ·omega
   ·exact absurd rfl h
 ·exact (hR.world (Wx.drew w _)).tmps _
 ·have hmk:mask (pdOf vops fun _=>none) (slotsS vops S (Array.replicate ops.size false))=slotsS vops S (Array.replicate ops.size false):=by
   apply List.ext_getElem?
   intro t
   rcases Nat.lt_or_ge t (slotsS vops S (Array.replicate ops.size false)).length with hlt|hge
   ·have hpd:pdOf vops (fun _=>none) t=false:=by
     rw [pdOf_false]
     rintro ⟨k,hk,_⟩
     exact hk rfl
    rw [mask,List.getElem?_map,List.getElem?_range hlt]
    simp [hpd,List.getD,hlt]
   ·rw [List.getElem?_eq_none (by rw [mask_length];exact hge),List.getElem?_eq_none hge]
  rw [hmk]
  have:slotsS vops S (Array.replicate ops.size false)=(S 0).tmps:=by
   apply List.ext_getElem?
   intro t
   rcases Nat.lt_or_ge t (S 0).tmps.length with hlt|hge
   ·have h1:(slotsS vops S (Array.replicate ops.size false))[t]?=some ((slotsS vops S (Array.replicate ops.size false)).getD t .any):=by
     rw [List.getElem?_eq_getElem (by simp [slotsS];exact hlt)];simp [List.getD,show t<(slotsS vops S (Array.replicate ops.size false)).length by simp [slotsS];exact hlt]
    have h2:(S 0).tmps[t]?=some ((S 0).tmps.getD t .any):=by
     rw [List.getElem?_eq_getElem hlt];simp [List.getD,hlt]
    rw [h1,h2,slotsS_getD _ _ _ _ hlt,valS_hi (j:=0) (Nat.zero_le _) (fun k _ _ _=>by unfold inS;simp [Array.getD])]
    rfl
   ·rw [List.getElem?_eq_none (by simp [slotsS];exact hge),List.getElem?_eq_none hge]
  rw [this];exact ht
end
end Go.VM
namespace Go.VM
section
variable {P:Program}
inductive Ords (ops:Array Oper):Array Bool→List Nat→Prop
 |nil {listed:Array Bool} (h:Region.ready .any ops listed=[]):Ords ops listed []
 |cons {listed:Array Bool} {i:Nat} {l:List Nat} (h:i∈Region.ready .any ops listed) (hl:Ords ops (listed.setIfInBounds i true) l):Ords ops listed (i::l)
theorem ords_any {ops:Array Oper} {Q:Exit→Act→World→Prop} {l:List Nat} {listed:Array Bool} (h:Ords ops listed l):∀ (fuel:Nat) (a:Act) (w:World),l.length≤fuel→wpAny P .any ops Q fuel listed a w→wpOps P ops Q l a w:=by
 induction h with
 |nil h=>
  intro fuel a w _ hw
  cases fuel with
  |zero=>simpa [wpOps] using hw.2
  |succ n=>simpa [wpOps] using hw.1 h
 |cons h hl ih=>
  intro fuel a w hf hw
  cases fuel with
  |zero=>simp at hf
  |succ n=>
   rw [wpOps_cons]
   exact wpOp_mono (fun a w k=>ih n a w (by simp at hf;omega) k) (hw.2 _ h)
theorem ready_lt {ops:Array Oper} {listed:Array Bool} {i:Nat} (h:i∈Region.ready .any ops listed):i<ops.size∧listed.getD i true=false:=by
 obtain ⟨h1,o,ho,_⟩:=mem_ready.1 h
 exact ⟨(Array.getElem?_eq_some_iff.1 ho).1,h1⟩
theorem inS_ready {ops:Array Oper} {listed:Array Bool} {i:Nat} (hs:listed.size=ops.size) (h:i∈Region.ready .any ops listed):inS listed i=false:=by
 obtain ⟨h1,h2⟩:=ready_lt h
 unfold inS
 simpa [Array.getD,show i<listed.size by omega] using h2
theorem cnt_ready {ops:Array Oper} {listed:Array Bool} {i:Nat} (hs:listed.size=ops.size) (h:i∈Region.ready .any ops listed) :
  cntS (inS (listed.setIfInBounds i true)) ops.size=cntS (inS listed) ops.size+1:=by
 obtain ⟨h1,_⟩:=ready_lt h
 exact cntS_set (f:=inS listed) (fun k=>inS_set (by omega)) (inS_ready hs h) h1
theorem ords_len {ops:Array Oper} {l:List Nat} {listed:Array Bool} (h:Ords ops listed l) (hs:listed.size=ops.size):l.length+cntS (inS listed) ops.size≤ops.size:=by
 induction h with
 |nil _=>simpa using cntS_le _ _
 |cons h hl ih=>
  have:=ih (by simpa using hs)
  rw [cnt_ready hs h] at this
  simp only [List.length_cons];omega
theorem ords_mem {ops:Array Oper} {l:List Nat} {listed:Array Bool} (h:Ords ops listed l):∀ i∈l,i<ops.size:=by
 induction h with
 |nil _=>intro i hi;cases hi
 |cons h hl ih=>
  intro i hi
  rcases List.mem_cons.1 hi with rfl|hi
  ·exact (ready_lt h).1
  ·exact ih i hi
theorem ords_lin {ops:Array Oper}:∀ (fuel t:Nat) (listed:Array Bool),listed.size=ops.size→ops.size≤fuel+cntS (inS listed) ops.size→Ords ops listed (Region.linearise.go .any ops fuel t listed [])
 |0,t,listed,hs,hc=>by
  simp only [Region.linearise.go,List.reverse_nil]
  refine .nil ?_
  cases hr:Region.ready .any ops listed with
  |nil=>rfl
  |cons j js=>
   exfalso
   have hj:j∈Region.ready .any ops listed:=by rw [hr];exact List.mem_cons_self
   have h1:=cntS_full (f:=inS listed) (n:=ops.size) (by omega) j (ready_lt hj).1
   rw [inS_ready hs hj] at h1;cases h1
 |fuel+1,t,listed,hs,hc=>by
  simp only [Region.linearise.go]
  change Ords ops listed (match (Region.ready .any ops listed)[t%(Region.ready .any ops listed).length]? with
   |some i=>Region.linearise.go .any ops fuel (t / (Region.ready .any ops listed).length) (listed.setIfInBounds i true) [i]
   |none=>[].reverse)
  cases hi:(Region.ready .any ops listed)[t%(Region.ready .any ops listed).length]? with
  |none=>
   refine .nil ?_
   cases hr:Region.ready .any ops listed with
   |nil=>rfl
   |cons x xs=>
    rw [hr] at hi
    have hlt:t%(x::xs).length<(x::xs).length:=Nat.mod_lt _ (by simp)
    simp at hi
    simp at hlt
    omega
  |some i=>
   have hm:=List.mem_of_getElem? hi
   simp only []
   rw [linearise_go_acc,List.reverse_singleton,List.singleton_append]
   refine .cons hm (ords_lin fuel _ _ (by simpa using hs) ?_)
   rw [cnt_ready hs hm];omega
def Draws (P:Program) (ops:Array Oper) (Q:Exit→Act→World→Prop) (a:Act) (w:World):Prop:=∀ l,Ords ops (Array.replicate ops.size false) l→wpOps P ops Q l a { w with drawn:=w.drawn+1 }
theorem draws_wp (hm:P.follows .mixedOrders=true) {ops:Array Oper} {Q:Exit→Act→World→Prop} {id:Nat} {a:Act} {w:World} (h:Draws P ops Q a w):(Code.region id ops true).wp P Q a w:=
 wp_region_draw fun t=>by
  simp only [Region.schedule,hm,Bool.true_or,if_true]
  exact h _ (ords_lin ops.size t _ (by simp) (Nat.le_add_right _ _))
theorem draws_any {ops:Array Oper} {Q:Exit→Act→World→Prop} {a:Act} {w:World} (h:wpAny P .any ops Q ops.size (Array.replicate ops.size false) a { w with drawn:=w.drawn+1 }):Draws P ops Q a w:=fun l hl=>by
 refine ords_any hl ops.size a _ ?_ h
 have:=ords_len hl (by simp)
 omega
structure Perm (ops opsB:Array Oper) (σ:Nat→Nat) (p q:Nat):Prop where
 size:opsB.size=ops.size
 lt:∀ i,i<ops.size→σ i<ops.size
 onto:∀ k,k<ops.size→∃ i,i<ops.size∧σ i=k
 inj:∀ i j,i<ops.size→j<ops.size→σ i=σ j→i=j
 op:∀ (i:Nat) o,ops[i]?=some o→∃ aft,opsB[σ i]?=some { o with guard:=o.guard.map (fun g=>(σ g.1,g.2)),after:=aft } ∧
  (∀ e∈aft,Region.binds .any e=true→(∃ e0∈o.after,Region.binds .any e0=true∧e.on=σ e0.on)∨(i=q∧e.on=σ p)) ∧
  (∀ e0∈o.after,Region.binds .any e0=true→∃ e∈aft,Region.binds .any e=true∧e.on=σ e0.on)
 edge:∀ (i:Nat) o,ops[i]?=some o→∀ e0∈o.after,e0.on<ops.size
 guard:∀ (i:Nat) o,ops[i]?=some o→∀ g,o.guard=some g→g.1<ops.size
 p:p<ops.size
def Bef (p q:Nat):Array Bool→List Nat→Prop
 |_,[]=>True
 |listed,i::l=>(i=q→listed.getD p false=true)∧Bef p q (listed.setIfInBounds i true) l
theorem getD_set {listed:Array Bool} {i k:Nat} (h:listed.getD k false=true):(listed.setIfInBounds i true).getD k false=true:=by
 simp only [Array.getD_eq_getD_getElem?,Array.getElem?_setIfInBounds] at h ⊢
 split
 ·split
  ·rfl
  ·rename_i h1 h2;subst h1;rw [Array.getElem?_eq_none (by omega)] at h;cases h
 ·exact h
theorem bef_of {p q:Nat}:∀ {l:List Nat} {listed:Array Bool},listed.getD p false=true→Bef p q listed l
 |[],_,_=>trivial
 |_::_,_,h=>⟨fun _=>h,bef_of (getD_set h)⟩
theorem bef_or {ops:Array Oper} {p q:Nat} (hpq:p≠q) {l:List Nat} {listed:Array Bool} (h:Ords ops listed l) (hs:listed.size=ops.size):Bef p q listed l∨Bef q p listed l:=by
 induction h with
 |nil _=>exact .inl trivial
 |@cons listed i l h hl ih=>
  have hlt:=(ready_lt h).1
  have hset:(listed.setIfInBounds i true).getD i false=true:=by
   simp [Array.getD_eq_getD_getElem?,Array.getElem?_setIfInBounds,show i<listed.size by omega]
  by_cases hip:i=p
  ·subst hip
   exact .inl ⟨fun e=>absurd e hpq,bef_of hset⟩
  ·by_cases hiq:i=q
   ·subst hiq
    exact .inr ⟨fun e=>absurd e hip,bef_of hset⟩
   ·rcases ih (by simpa using hs) with h1|h1
    ·exact .inl ⟨fun e=>absurd e hiq,h1⟩
    ·exact .inr ⟨fun e=>absurd e hip,h1⟩
theorem Ords.perm {ops opsB:Array Oper} {σ:Nat→Nat} {p q:Nat} (hP:Perm ops opsB σ p q) {l:List Nat} {listed:Array Bool} (h:Ords ops listed l) :
  ∀ listedB:Array Bool,listedB.size=ops.size→listed.size=ops.size→(∀ i,i<ops.size→listedB.getD (σ i) false=listed.getD i false)→Bef p q listed l→Ords opsB listedB (l.map σ):=by
 induction h with
 |@nil listed h=>
  intro listedB hsB hs hl _
  refine .nil ?_
  cases hr:Region.ready .any opsB listedB with
  |nil=>rfl
  |cons j js=>
   exfalso
   have hj:j∈Region.ready .any opsB listedB:=by rw [hr];exact List.mem_cons_self
   obtain ⟨h1,oB,hoB,h2⟩:=mem_ready.1 hj
   have hjl:j<ops.size:=by rw [← hP.size];exact (Array.getElem?_eq_some_iff.1 hoB).1
   obtain ⟨i,hi,rfl⟩:=hP.onto j hjl
   obtain ⟨aft,ha,_,hc⟩:=hP.op i _ (Array.getElem?_eq_getElem hi)
   rw [ha] at hoB;simp only [Option.some.injEq] at hoB;subst hoB
   have:i∈Region.ready .any ops listed:=by
    refine mem_ready.2 ⟨?_,_,Array.getElem?_eq_getElem hi,fun e0 he0 hb=>?_⟩
    ·have:=hl i hi
     simp only [Array.getD,show i<listed.size by omega,show σ i<listedB.size by rw [hsB];exact hP.lt i hi] at this h1 ⊢
     simp at this h1 ⊢
     rw [← this];exact h1
    ·obtain ⟨e,he,hbe,hon⟩:=hc e0 he0 hb
     have:=h2 e he hbe
     rw [hon,hl _ (hP.edge i _ (Array.getElem?_eq_getElem hi) e0 he0)] at this
     exact this
   rw [h] at this;cases this
 |@cons listed i l h hl ih=>
  intro listedB hsB hs hlB hb
  obtain ⟨hlt,hun⟩:=ready_lt h
  obtain ⟨_,o,ho,hall⟩:=mem_ready.1 h
  obtain ⟨aft,ha,hc,_⟩:=hP.op i o ho
  refine .cons (mem_ready.2 ⟨?_,_,ha,fun e he hbe=>?_⟩) (ih _ (by simpa using hsB) (by simpa using hs) (fun j hj=>?_) hb.2)
  ·have:=hlB i hlt
   simp only [Array.getD,show i<listed.size by omega,show σ i<listedB.size by rw [hsB];exact hP.lt i hlt] at this hun ⊢
   simp at this hun ⊢
   rw [this];exact hun
  ·rcases hc e he hbe with ⟨e0,he0,hb0,hon⟩|⟨rfl,hon⟩
   ·rw [hon,hlB _ (hP.edge i o ho e0 he0)]
    exact hall e0 he0 hb0
   ·rw [hon,hlB _ hP.p]
    exact hb.1 rfl
  ·have hσ:σ i<listedB.size:=by rw [hsB];exact hP.lt i hlt
   simp only [Array.getD_eq_getD_getElem?,Array.getElem?_setIfInBounds]
   by_cases hij:i=j
   ·subst hij
    rw [if_pos rfl,if_pos rfl,if_pos hσ,if_pos (by omega)]
   ·rw [if_neg hij,if_neg (fun e=>hij (hP.inj i j hlt hj e))]
    have:=hlB j hj
    simpa only [Array.getD_eq_getD_getElem?] using this
theorem wpOps_perm {ops opsB:Array Oper} {σ:Nat→Nat} {p q:Nat} (hP:Perm ops opsB σ p q) {Q:Exit→Act→World→Prop}:∀ {l:List Nat} {a:Act} {w:World},(∀ i∈l,i<ops.size)→wpOps P opsB Q (l.map σ) a w→wpOps P ops Q l a w
 |[],a,w,_,h=>by simpa [wpOps] using h
 |i::l,a,w,hl,h=>by
  rw [List.map_cons,wpOps_cons] at h
  rw [wpOps_cons]
  have hi:=hl i List.mem_cons_self
  have ho:=Array.getElem?_eq_getElem hi
  obtain ⟨aft,ha,_,_⟩:=hP.op i _ ho
  have hy:∀ g,(ops[i]).guard=some g→yielded opsB a.tmps (σ g.1)=yielded ops a.tmps g.1:=fun g hg=>by
   have hgl:=hP.guard i _ ho g hg
   have hog:=Array.getElem?_eq_getElem hgl
   obtain ⟨aft',ha',_,_⟩:=hP.op g.1 _ hog
   simp only [yielded,ha',hog];rfl
  have hw:Region.wanted { (ops[i]) with guard:=(ops[i]).guard.map (fun g=>(σ g.1,g.2)),after:=aft } (yielded opsB a.tmps)=Region.wanted (ops[i]) (yielded ops a.tmps):=by
   unfold Region.wanted
   cases hg:(ops[i]).guard with
   |none=>rfl
   |some g=>
    obtain ⟨j,b⟩:=g
    simp only [Option.map_some]
    rw [hy (j,b) hg]
  have hK:∀ a w,wpOps P opsB Q (l.map σ) a w→wpOps P ops Q l a w:=fun a w h=>wpOps_perm hP (fun j hj=>hl j (List.mem_cons_of_mem _ hj)) h
  have h2:=wpOp_mono hK h
  unfold wpOp at h2 ⊢
  rw [ha] at h2
  rw [ho]
  simp only at h2 ⊢
  rw [hw] at h2
  exact h2
theorem draws_split {ops opsA opsB:Array Oper} {σ τ:Nat→Nat} {p q:Nat} (hpq:p≠q) (hA:Perm ops opsA σ p q) (hB:Perm ops opsB τ q p) {Q:Exit→Act→World→Prop} {a:Act} {w:World} (dA:Draws P opsA Q a w) (dB:Draws P opsB Q a w):Draws P ops Q a w:=fun l hl=>by
 have rep:∀ (σ:Nat→Nat) (n:Nat),(∀ i,i<n→σ i<n)→∀ i,i<n→(Array.replicate n false).getD (σ i) false=(Array.replicate n false).getD i false:=fun σ n h i hi=>by
  simp [Array.getD,hi,h i hi]
 rcases bef_or hpq hl (by simp) with h|h
 ·refine wpOps_perm hA (ords_mem hl) (dA _ ?_)
  rw [hA.size]
  exact hl.perm hA _ (by simp) (by simp) (rep σ _ hA.lt) h
 ·refine wpOps_perm hB (ords_mem hl) (dB _ ?_)
  rw [hB.size]
  exact hl.perm hB _ (by simp) (by simp) (rep τ _ hB.lt) h
def renO (ord:List Nat) (p q:Nat) (i:Nat) (o:Oper):Oper:=
 {o with guard:=o.guard.map (fun g=>(ord.idxOf g.1,g.2)),after:=((o.after.toList.map fun (e:Edge)=>({ e with on:=ord.idxOf e.on }:Edge))++(if i=q then [(⟨ord.idxOf p,.data⟩:Edge)] else [])).toArray }
def permO (ord:List Nat) (p q:Nat) (ops:Array Oper):Array Oper:=(ord.map fun i=>renO ord p q i (ops.getD i default)).toArray
def ndB:List Nat→Bool
 |[]=>true
 |i::l=>!l.contains i&&ndB l
def opB (n:Nat) (o:Oper):Bool:=(o.after.all fun e=>decide (e.on<n))&&(match o.guard with|some g=>decide (g.1<n)|none=>true)
def permB (ord:List Nat) (p:Nat) (ops:Array Oper):Bool:=
 ord.length==ops.size&&((List.range ops.size).all (fun i=>ord.contains i)&&(ndB ord&&(ord.all (fun i=>decide (i<ops.size))&&(decide (p<ops.size)&&ops.all (opB ops.size)))))
theorem allOk_nodup:∀ {l:List Nat},ndB l=true→l.Nodup
 |[],_=>List.nodup_nil
 |i::l,h=>by
  simp only [ndB,Bool.and_eq_true,Bool.not_eq_true',List.contains_eq_mem,decide_eq_false_iff_not] at h
  exact List.nodup_cons.2 ⟨h.1,allOk_nodup h.2⟩
theorem perm_ok {ord:List Nat} {p q:Nat} {ops:Array Oper} (h:permB ord p ops=true):Perm ops (permO ord p q ops) (fun i=>ord.idxOf i) p q:=by
 simp only [permB,opB,Bool.and_eq_true,beq_iff_eq,List.all_eq_true,decide_eq_true_eq,Array.all_eq_true_iff_forall_mem,List.mem_range,List.contains_eq_mem] at h
 obtain ⟨hlen,hmem,hnd,hlt,hp,hops⟩:=h
 have hnd:=allOk_nodup hnd
 have hidx:∀ i,i<ops.size→ord.idxOf i<ops.size:=fun i hi=>by rw [← hlen];exact List.idxOf_lt_length_of_mem (hmem i hi)
 have hget:∀ i,i<ops.size→ord[ord.idxOf i]?=some i:=fun i hi=>by
  rw [List.getElem?_eq_getElem (List.idxOf_lt_length_of_mem (hmem i hi)),List.getElem_idxOf]
 refine ⟨by simp [permO,hlen],hidx,fun k hk=>?_,fun i j hi hj e=>?_,fun i o ho=>?_,fun i o ho e0 he0=>?_,fun i o ho g hg=>?_,hp⟩
 ·have hk':k<ord.length:=by omega
  refine ⟨ord[k],hlt _ (List.getElem_mem hk'),?_⟩
  exact hnd.idxOf_getElem k hk'
 ·have h1:=hget i hi
  have h2:=hget j hj
  rw [show ord.idxOf i=ord.idxOf j from e,h2] at h1
  exact (Option.some.inj h1).symm
 ·have hi:=(Array.getElem?_eq_some_iff.1 ho).1
  have ho':ops.getD i default=o:=by simp [Array.getD,hi,(Array.getElem?_eq_some_iff.1 ho).2]
  refine ⟨((o.after.toList.map fun (e:Edge)=>({ e with on:=ord.idxOf e.on }:Edge))++(if i=q then [(⟨ord.idxOf p,.data⟩:Edge)] else [])).toArray,?_,fun e he hb=>?_,fun e0 he0 hb=>?_⟩
  ·simp only [permO,List.getElem?_toArray,List.getElem?_map,hget i hi,Option.map_some]
   rw [ho']
   rfl
  ·simp only [List.mem_toArray,List.mem_append,List.mem_map,Array.mem_toList_iff] at he
   rcases he with ⟨e0,he0,rfl⟩|he
   ·exact .inl ⟨e0,he0,hb,rfl⟩
   ·split at he
    ·simp at he;subst he;rename_i hq;exact .inr ⟨hq,rfl⟩
    ·cases he
  ·refine ⟨{ e0 with on:=ord.idxOf e0.on },?_,hb,rfl⟩
   simp only [List.mem_toArray,List.mem_append,List.mem_map,Array.mem_toList_iff]
   exact .inl ⟨e0,he0,rfl⟩
 ·exact (hops o (Array.mem_of_getElem? ho)).1 e0 he0
 ·have:=(hops o (Array.mem_of_getElem? ho)).2
  rw [hg] at this
  simpa using this
end
end Go.VM
namespace Go.VM
inductive VExit where
 |normal
 |exit (id:Nat)
 |ret
 deriving Inhabited,DecidableEq
def VExit.to:VExit→Exit
 |.normal=>.normal
 |.exit id=>.exit id
 |.ret=>.ret
inductive VCode where
 |skip
 |reg (ops:List VOper)
 |draw (ops:List VOper) (chk:List (Nat×Nat))
 |seq (a b:VCode)
 |cond (c:VArg) (a b:VCode)
 |block (id:Nat) (b:VCode)
 |loop (keep:List Bool) (b:VCode)
 |exit (id:Nat)
 |ret
 |gfrz (k:Nat)
 |alt (dd:List Nat) (a b:VCode)
 deriving Inhabited
def gfrzB (bl:List (List V)) (ba:Nat) (v:V):List (List V):=match v with
 |.ptr id _=>match bl[id]? with
  |some cs=>if id<ba∨cs.isEmpty=true∨(V.locsL ba cs).contains id=true then bl else killL (bl.set id (V.frzL bl ba cs)) (V.locsL ba cs)
  |none=>bl
 |v=>killL bl (v.locs ba)
theorem gfrzB_length (bl:List (List V)) (ba:Nat) (v:V):(gfrzB bl ba v).length=bl.length:=by
 unfold gfrzB
 split
 ·split
  ·split
   ·rfl
   ·rw [killL_length,List.length_set]
  ·rfl
 ·rw [killL_length]
def gfrzS (st:St) (k:Nat):St:=({ st with blocks:=gfrzB st.blocks st.base (st.tmps.getD k .any) }:St).put (some k) ((st.tmps.getD k .any).frz st.blocks st.base)
def fgtL:List Nat→List V→List V
 |[],l=>l
 |i::is,l=>fgtL is (l.set i .any)
def St.fgt (dd:List Nat) (st:St):St:={ st with tmps:=fgtL dd st.tmps }
def vTr (C:Orc):List VOper→St→Option (List St)
 |[],st=>some [st]
 |o::os,st=>
  match vWanted st.tmps o.guard with
  |some true=>match vStep C st o.op with
   |some (r,st')=>match vTr C os (st'.put o.dst r) with|some l=>some (st::l)|none=>none
   |none=>none
  |some false=>match vTr C os (st.put o.dst (.tup [])) with|some l=>some (st::l)|none=>none
  |none=>none
def pairOk (vops:List VOper) (sts:List St) (k e:Nat):Prop:=
 match vops[k]? with
 |some x=>vWanted (sts.getD k default).tmps x.guard=some true→match x.op.blk (sts.getD k default).tmps with
  |some id=>(sts.getD e default).blocks[id]?=(sts.getD (e+1) default).blocks[id]?
  |none=>True
 |none=>True
def allPairs (vops:List VOper) (sts:List St):List (Nat×Nat)→Prop
 |[]=>True
 |p::ps=>pairOk vops sts p.1 p.2∧allPairs vops sts ps
open Classical in
noncomputable def vDraw (C:Orc) (vops:List VOper) (chk:List (Nat×Nat)) (st:St):Option St:=
 match chk with
 |[]=>vOps C vops st
 |_=>match vTr C vops st with
  |some sts=>if allPairs vops sts chk then sts.getLast? else none
  |none=>none
def forget:List Bool→List V→List V
 |_,[]=>[]
 |[],_::vs=>.any::forget [] vs
 |k::ks,v::vs=>(if k then v else .any)::forget ks vs
def St.head (keep:List Bool) (n:Nat) (st:St):Option St:=
 if V.ltbL n (forget keep st.tmps)&&(st.blocks.take n).all (V.ltbL n) then some { st with tmps:=forget keep st.tmps,blocks:=st.blocks.take n } else some { st with tmps:=forget keep st.tmps }
open Classical in
mutual
noncomputable def vx (C:Orc):Nat→VCode→St→Option (VExit×St)
 |0,_,_=>none
 |_+1,.skip,st=>some (.normal,st)
 |_+1,.reg ops,st=>match vOps C ops st with|some st'=>some (.normal,st')|none=>none
 |_+1,.draw ops chk,st=>match vDraw C ops chk st with|some st'=>some (.normal,st')|none=>none
 |n+1,.seq a b,st=>match vx C n a st with
  |some (.normal,st')=>vx C n b st'
  |r=>r
 |n+1,.cond c a b,st=>match (c.ev st.tmps).bool with
  |some t=>if t then vx C n a st else vx C n b st
  |none=>none
 |n+1,.block id b,st=>match vx C n b st with
  |some (.exit i,st')=>if i=id then some (.normal,st') else some (.exit i,st')
  |r=>r
 |n+1,.loop keep b,st=>vloop C n keep b st.blocks.length st
 |_+1,.exit id,st=>some (.exit id,st)
 |_+1,.ret,st=>some (.ret,st)
 |_+1,.gfrz k,st=>some (.normal,gfrzS st k)
 |n+1,.alt dd a b,st=>match vx C n a st,vx C n b st with
  |some (e,s1),some (e2,s2)=>if e2=e∧s2.fgt dd=s1.fgt dd then some (e,s1.fgt dd) else none
  |_,_=>none
noncomputable def vloop (C:Orc):Nat→List Bool→VCode→Nat→St→Option (VExit×St)
 |0,_,_,_,_=>none
 |n+1,keep,b,k,st=>match st.head keep k with
  |some st0=>match vx C n b st0 with
   |some (.normal,st1)=>vloop C n keep b k st1
   |r=>r
  |none=>none
end
section
variable {P:Program}
inductive CCode (P:Program):Code→VCode→Prop
 |skip:CCode P .skip .skip
 |reg {id:Nat} {ops:Array Oper} {vops:List VOper} (h:COpers P ops ops.toList vops):CCode P (.region id ops false) (.reg vops)
 |draw {id:Nat} {ops:Array Oper} {vops:List VOper} {chk:List (Nat×Nat)} {bef:Nat→List Nat} (hA:COpsAll P ops vops) (hO:Ord ops vops bef)
   (hc:∀ (k e:Nat) x y,vops[k]?=some x→vops[e]?=some y→y.op.isE=true→Need vops bef k e→(∃ (a:VArg) (n:Nat) (ag:Bool),x.op=.load a n ag)→(k,e)∈chk):CCode P (.region id ops true) (.draw vops chk)
 |seq {a b:Code} {va vb:VCode} (ha:CCode P a va) (hb:CCode P b vb):CCode P (.seq a b) (.seq va vb)
 |cond {c:Operand} {vc:VArg} {a b:Code} {va vb:VCode} (hc:CArg c vc) (ha:CCode P a va) (hb:CCode P b vb):CCode P (.cond c a b) (.cond vc va vb)
 |block {id:Nat} {b:Code} {vb:VCode} (hb:CCode P b vb):CCode P (.block id b) (.block id vb)
 |loop {keep:List Bool} {b:Code} {vb:VCode} (hb:CCode P b vb):CCode P (.loop b) (.loop keep vb)
 |exit {id:Nat}:CCode P (.exit id) (.exit id)
 |ret:CCode P .ret .ret
 |ghost {c:Code} {k:Nat} {vc:VCode} (h:CCode P c vc):CCode P c (.seq (.gfrz k) vc)
 |alt {id:Nat} {ops opsA opsB:Array Oper} {dd:List Nat} {va vb:VCode} {σ τ:Nat→Nat} {p q:Nat} (hpq:p≠q) (hA:Perm ops opsA σ p q) (hB:Perm ops opsB τ q p) (ha:CCode P (.region id opsA true) va) (hb:CCode P (.region id opsB true) vb) :
   CCode P (.region id ops true) (.alt dd va vb)
theorem fgtL_length:∀ (dd:List Nat) (l:List V),(fgtL dd l).length=l.length
 |[],_=>rfl
 |i::is,l=>by rw [fgtL,fgtL_length is];simp
theorem fgtL_get:∀ (dd:List Nat) (l:List V) (t:Nat) v,(fgtL dd l)[t]?=some v→v=.any∨l[t]?=some v
 |[],l,t,v,h=>.inr h
 |i::is,l,t,v,h=>by
  rcases fgtL_get is _ t v h with h1|h1
  ·exact .inl h1
  ·rw [List.getElem?_set] at h1
   split at h1
   ·split at h1
    ·simp at h1;exact .inl h1.symm
    ·cases h1
   ·exact .inr h1
theorem fgtL_getD:∀ (dd:List Nat) (l:List V) (t:Nat),(fgtL dd l).getD t .any=if dd.contains t=true then .any else l.getD t .any
 |[],l,t=>by simp [fgtL]
 |i::is,l,t=>by
  rw [fgtL,fgtL_getD is]
  by_cases h:t=i
  ·subst h
   simp only [List.contains_cons,BEq.rfl,Bool.true_or,if_true]
   split
   ·rfl
   ·simp only [List.getD_eq_getElem?_getD,List.getElem?_set]
    simp only [if_true];split<;>rfl
  ·have:(i::is).contains t=is.contains t:=by simp [List.contains_cons,h]
   rw [this]
   split
   ·rfl
   ·simp only [List.getD_eq_getElem?_getD,List.getElem?_set]
    rw [if_neg (fun e=>h e.symm)]
theorem vTr_tr {C:Orc}:∀ {vops:List VOper} {st:St} {sts:List St},vTr C vops st=some sts →
  sts.length=vops.length+1∧sts.getD 0 default=st∧Tr C vops (fun k=>sts.getD k default)
 |[],st,sts,h=>by
  simp [vTr] at h;subst h
  exact ⟨rfl,rfl,⟨fun k o hk=>by simp at hk⟩⟩
 |o::os,st,sts,h=>by
  simp only [vTr] at h
  split at h
  ·rename_i hw
   split at h
   case h_2=>cases h
   rename_i r st' hs
   split at h
   case h_2=>cases h
   rename_i l hl
   simp only [Option.some.injEq] at h;subst h
   obtain ⟨h1,h2,h3⟩:=vTr_tr hl
   refine ⟨by simp [h1],rfl,⟨fun k x hk=>?_⟩⟩
   match k with
   |0=>
    simp at hk;subst hk
    exact .inl ⟨hw,r,st',hs,h2⟩
   |k+1=>exact h3.step k x (by simpa using hk)
  ·rename_i hw
   split at h
   case h_2=>cases h
   rename_i l hl
   simp only [Option.some.injEq] at h;subst h
   obtain ⟨h1,h2,h3⟩:=vTr_tr hl
   refine ⟨by simp [h1],rfl,⟨fun k x hk=>?_⟩⟩
   match k with
   |0=>
    simp at hk;subst hk
    exact .inr ⟨hw,h2⟩
   |k+1=>exact h3.step k x (by simpa using hk)
  ·cases h
theorem vOps_tr {C:Orc}:∀ {vops:List VOper} {st st':St},vOps C vops st=some st'→∃ sts,vTr C vops st=some sts∧sts.getLast?=some st'
 |[],st,st',h=>by simp [vOps] at h;subst h;exact ⟨[st],rfl,rfl⟩
 |o::os,st,st',h=>by
  simp only [vOps] at h
  split at h
  ·rename_i hw
   split at h
   case h_2=>cases h
   rename_i r st1 hs
   obtain ⟨l,hl,hlast⟩:=vOps_tr h
   refine ⟨st::l,by simp only [vTr,hw,hs,hl],?_⟩
   cases l with
   |nil=>simp at hlast
   |cons x l=>rw [List.getLast?_cons_cons];exact hlast
  ·rename_i hw
   obtain ⟨l,hl,hlast⟩:=vOps_tr h
   refine ⟨st::l,by simp only [vTr,hw,hl],?_⟩
   cases l with
   |nil=>simp at hlast
   |cons x l=>rw [List.getLast?_cons_cons];exact hlast
  ·cases h
theorem allPairs_mem {vops:List VOper} {sts:List St}:∀ {chk:List (Nat×Nat)},allPairs vops sts chk→∀ p∈chk,pairOk vops sts p.1 p.2
 |[],_,p,hp=>by cases hp
 |q::chk,h,p,hp=>by
  rcases List.mem_cons.1 hp with rfl|hp
  ·exact h.1
  ·exact allPairs_mem h.2 p hp
theorem blk_load {ts:List V} {vo:VOp} {id:Nat} (h:vo.blk ts=some id):∃ (a:VArg) (n:Nat) (ag:Bool),vo=.load a n ag:=by
 cases vo<;>simp [VOp.blk] at h
 exact ⟨_,_,_,rfl⟩
theorem vDraw_tr {C:Orc} {vops:List VOper} {chk:List (Nat×Nat)} {st st':St} (h:vDraw C vops chk st=some st'):∃ S:Nat→St,S 0=st∧S vops.length=st'∧Tr C vops S ∧
  ∀ p∈chk,∀ x,vops[p.1]?=some x→vWanted (S p.1).tmps x.guard=some true→∀ id,x.op.blk (S p.1).tmps=some id→(S p.2).blocks[id]?=(S (p.2+1)).blocks[id]?:=by
 have last:∀ sts:List St,vTr C vops st=some sts→sts.getLast?=some st'→(∀ p∈chk,pairOk vops sts p.1 p.2)→∃ S:Nat→St,S 0=st∧S vops.length=st'∧Tr C vops S ∧
  ∀ p∈chk,∀ x,vops[p.1]?=some x→vWanted (S p.1).tmps x.guard=some true→∀ id,x.op.blk (S p.1).tmps=some id→(S p.2).blocks[id]?=(S (p.2+1)).blocks[id]?:=by
  intro sts hsts hl hp
  obtain ⟨h1,h2,h3⟩:=vTr_tr hsts
  refine ⟨fun k=>sts.getD k default,h2,?_,h3,fun p hpm x hx hw id hid=>?_⟩
  ·rw [List.getLast?_eq_getElem?,h1,Nat.add_sub_cancel] at hl
   simp [List.getD,hl]
  ·have:=hp p hpm
   unfold pairOk at this
   simp only [hx] at this
   have:=this hw
   rw [hid] at this
   exact this
 unfold vDraw at h
 split at h
 ·obtain ⟨sts,h1,h2⟩:=vOps_tr h
  exact last sts h1 h2 (fun p hp=>by cases hp)
 ·split at h
  case h_2=>cases h
  rename_i sts hsts
  split at h
  case isFalse=>cases h
  rename_i hall
  exact last sts hsts h (allPairs_mem hall)
end
end Go.VM
namespace Go.VM
section
variable {P:Program} {w0:World} {G0:Gh} {st:St} {G:Gh} {w:World}
theorem forget_get:∀ (keep:List Bool) (vs:List V) (t:Nat) v,(forget keep vs)[t]?=some v→v=.any∨vs[t]?=some v
 |_,[],t,v,h=>by simp [forget] at h
 |[],x::vs,0,v,h=>by simp [forget] at h;exact .inl h.symm
 |[],x::vs,t+1,v,h=>by
  have:=forget_get [] vs t v (by simpa [forget] using h)
  simpa using this
 |k::ks,x::vs,0,v,h=>by
  simp [forget] at h;subst h
  split
  ·exact .inr rfl
  ·exact .inl rfl
 |k::ks,x::vs,t+1,v,h=>by
  have:=forget_get ks vs t v (by simpa [forget] using h)
  simpa using this
theorem forget_length:∀ (keep:List Bool) (vs:List V),(forget keep vs).length=vs.length
 |_,[]=>rfl
 |[],x::vs=>by simp [forget,forget_length [] vs]
 |k::ks,x::vs=>by simp [forget,forget_length ks vs]
theorem Rl.cut (h:Rl w0 G0 st G w) {n:Nat} (hn:st.base≤n) (hb:(st.blocks.take n).all (V.ltbL n)=true):Rl w0 G0 { st with blocks:=st.blocks.take n } (G.cut n) w:=by
 have hι:∀ i b,(G.cut n).ι i=some b→i<n∧G.ι i=some b:=fun i b hi=>by
  have hi':(if i<n then G.ι i else none)=some b:=hi
  split at hi'
  ·exact ⟨by assumption,hi'⟩
  ·cases hi'
 exact
  {h with
   ι0:=fun i hi=>by
    have hi:i<st.base:=hi
    show (if i<n then G.ι i else none)=_
    rw [if_pos (by omega)];exact h.ι0 i hi
   base:=by have:=h.base;simp;omega
   inj:=fun i j b hdi hdj hi hj=>by
    have hdi:(if i<n then G.dd i else false)=false:=hdi
    have hdj:(if j<n then G.dd j else false)=false:=hdj
    rw [if_pos (hι i b hi).1] at hdi
    rw [if_pos (hι j b hj).1] at hdj
    exact h.inj i j b hdi hdj (hι i b hi).2 (hι j b hj).2
   lt:=fun i b hi=>by
    have h1:=hι i b hi
    have:=h.lt i b h1.2
    simp;omega
   sep:=fun i b o hdi hi=>by
    have hdi:(if i<n then G.dd i else false)=false:=hdi
    rw [if_pos (hι i b hi).1] at hdi
    exact h.sep i b o hdi (hι i b hi).2
   ddb:=fun i hdi=>by
    have hdi:(if i<n then G.dd i else false)=true:=hdi
    split at hdi
    ·rename_i hin
     show (st.blocks.take n)[i]?=some []
     rw [List.getElem?_take,if_pos hin];exact h.ddb i hdi
    ·cases hdi
   dd0:=fun i hi hd=>by
    have hi:i<st.base:=hi
    show (if i<n then G.dd i else false)=true
    rw [if_pos (by omega)];exact h.dd0 i hi hd
   zok:=fun i b hi=>h.zok i b (hι i b hi).2
   old:=fun i b hi hb=>h.old i b hi (hι i b hb).2
   new:=fun i b hi hb=>h.new i b hi (hι i b hb).2
   blk:=fun k cs hk=>by
    have hk:(st.blocks.take n)[k]?=some cs:=hk
    have hall:=List.all_eq_true.1 hb cs (List.mem_of_getElem? hk)
    rw [List.getElem?_take] at hk
    split at hk
    case isFalse=>cases hk
    rename_i hkn
    have hbk:=h.blk k cs hk
    have conv:∀ H:Gh,Blk H w k cs→(H.cut n).ι k=H.ι k→Blk (H.cut n) w k cs:=by
     rintro H ⟨b,cur,e,hi,hh,hl,hr⟩ he
     exact ⟨b,cur,e,he.trans hi,hh,hl,fun j c x h1 h2=>⟨(hr j c x h1 h2).1,(hr j c x h1 h2).2.cut (V.ltbL_mem hall j c h1)⟩⟩
    split
    ·rename_i hkb
     have hkb:k<st.base:=hkb
     rw [if_pos hkb] at hbk
     exact conv G.old hbk (by show (if k<n then _ else none)=_;rw [if_pos hkn])
    ·rename_i hkb
     have hkb:¬k<st.base:=hkb
     rw [if_neg hkb] at hbk
     exact conv G hbk (by show (if k<n then _ else none)=_;rw [if_pos hkn])
   tok:=fun g hg=>by
    obtain ⟨h1,a,len,cap,sz,h2,h3⟩:=h.tok g hg
    refine ⟨h1,a,len,cap,sz,h2,?_⟩
    rcases h3 with h3|⟨b,e,cur,r1,r2,r3,r4,r5,r6,r7,r8,r9⟩
    ·exact .inl h3
    ·exact .inr ⟨b,e,cur,r1,r2,r3,r4,r5,r6,r7,r8,fun i hi=>r9 i (hι i b hi).2⟩ }
theorem Gh.le_cut {G G':Gh} (h:G.le G') (L:Nat):(G.cut L).le (G'.cut L) where
 F:=h.F
 ι i b hi:=by
  have hi:(if i<L then G.ι i else none)=some b:=hi
  show (if i<L then G'.ι i else none)=some b
  split at hi
  ·rename_i hl;rw [if_pos hl];exact h.ι i b hi
  ·cases hi
 τ:=h.τ
 tag:=h.tag
 ζ i b hi:=by
  have hi:(if i<L then G.ι i else none)=some b:=hi
  split at hi
  ·exact h.ζ i b hi
  ·cases hi
theorem Gh.cut_cut_le (G:Gh) {L n:Nat} (hL:L≤n):(G.cut L).le ((G.cut n).cut L) where
 F:=Fz.le_refl _
 ι i b hi:=by
  have hi:(if i<L then G.ι i else none)=some b:=hi
  show (if i<L then (if i<n then G.ι i else none) else none)=some b
  split at hi
  ·rename_i hl;rw [if_pos hl,if_pos (by omega)];exact hi
  ·cases hi
 τ _ _ _ _ h:=h
 tag _ _ h:=h
 ζ _ _ _:=rfl
structure Via (L:Nat) (st:St) (G:Gh) (w:World) (st':St) (G':Gh) (w':World):Prop where
 le:(G.cut L).le (G'.cut L)
 stay:Stay st G w st' G' w'
 len:L≤st'.blocks.length
theorem Via.refl {L:Nat} {st:St} {G:Gh} {w:World} (h:L≤st.blocks.length):Via L st G w st G w:=⟨Gh.le_refl _,Stay.refl _ _ _,h⟩
theorem Via.trans {L:Nat} {st st' st2:St} {G G' G2:Gh} {w w' w2:World} (h:Via L st G w st' G' w') (k:Via L st' G' w' st2 G2 w2):Via L st G w st2 G2 w2:=⟨Gh.le_trans h.le k.le,h.stay.trans k.stay,k.len⟩
theorem Via.of {L:Nat} {st st':St} {G G':Gh} {w w':World} (h:G.le G') (k:Stay st G w st' G' w') (hl:L≤st.blocks.length) (hl2:st.blocks.length≤st'.blocks.length):Via L st G w st' G' w':=⟨Gh.le_cut h L,k,by omega⟩
theorem head_sound {keep:List Bool} {n:Nat} {st':St} (hh:st.head keep n=some st') (hn:st.base≤n) (h:Rl w0 G0 st G w) {xs:Array Value} (ht:RelT G st.tmps xs) :
  ∃ G',Rl w0 G0 st' G' w∧RelT G' st'.tmps xs∧st'.base=st.base∧∀ L,L≤n→L≤st.blocks.length→Via L st G w st' G' w:=by
 unfold St.head at hh
 split at hh
 ·rename_i hc
  simp only [Bool.and_eq_true] at hc
  simp only [Option.some.injEq] at hh;subst hh
  refine ⟨G.cut n,(h.cut hn hc.2).tmps _,⟨by simp [forget_length,ht.1],fun t v x h1 h2=>?_⟩,rfl,fun L hLn hLb=>⟨Gh.cut_cut_le G hLn,fun b o hL=>⟨hL.heap,fun i hi=>?_,hL.F,hL.tok⟩,by simp;omega⟩⟩
  have hl:=V.ltbL_mem hc.1 t v h1
  rcases forget_get keep st.tmps t v h1 with rfl|h3
  ·exact .any _
  ·exact (ht.2 t v x h3 h2).cut hl
  ·have hi':(if i<n then G.ι i else none)=some b:=hi
   split at hi'
   ·exact hL.ι i hi'
   ·cases hi'
 ·simp only [Option.some.injEq] at hh;subst hh
  refine ⟨G,h.tmps _,⟨by simp [forget_length,ht.1],fun t v x h1 h2=>?_⟩,rfl,fun L _ hLb=>⟨Gh.le_refl _,fun b o hL=>hL.st (fun _ h=>h) rfl,hLb⟩⟩
  rcases forget_get keep st.tmps t v h1 with rfl|h3
  ·exact .any _
  ·exact ht.2 t v x h3 h2
def Pst (L:Nat) (sS:St) (Gs:Gh) (ws:World) (w0:World) (G0:Gh) (e:VExit) (st:St):Exit→Act→World→Prop:=
 fun e' a w=>e'=e.to∧∃ G,Rl w0 G0 st G w∧RelT G st.tmps a.tmps∧a.defers=[]∧Via L sS Gs ws st G w
theorem vDraw_base {C:Orc} {vops:List VOper} {S:Nat→St} (h:Tr C vops S):∀ k,k≤vops.length→(S k).base=(S 0).base
 |0,_=>rfl
 |k+1,hk=>by
  rcases h.step k _ (List.getElem?_eq_getElem (by omega)) with ⟨_,r,s,hs,he⟩|⟨_,he⟩
  ·rw [he,(St.put_base _ _ _).1,(vStep_base hs).1,vDraw_base h k (by omega)]
  ·rw [he,(St.put_base _ _ _).1,vDraw_base h k (by omega)]
theorem vDraw_len {C:Orc} {vops:List VOper} {S:Nat→St} (h:Tr C vops S):∀ k,k≤vops.length→(S 0).blocks.length≤(S k).blocks.length
 |0,_=>Nat.le_refl _
 |k+1,hk=>by
  refine Nat.le_trans (vDraw_len h k (by omega)) ?_
  rcases h.step k _ (List.getElem?_eq_getElem (by omega)) with ⟨_,r,s,hs,he⟩|⟨_,he⟩
  ·rw [he,(St.put_base _ _ _).2.2];exact (vStep_base hs).2.2.2
  ·rw [he,(St.put_base _ _ _).2.2];exact Nat.le_refl _
theorem vOps_len {C:Orc} {vops:List VOper} {st st':St} (h:vOps C vops st=some st'):st.blocks.length≤st'.blocks.length:=by
 obtain ⟨S,h0,h1,hT,_⟩:=vDraw_tr (chk:=[]) (show vDraw C vops [] st=some st' by unfold vDraw;exact h)
 rw [← h1,← h0];exact vDraw_len hT _ (Nat.le_refl _)
theorem vDraw_base' {C:Orc} {vops:List VOper} {chk:List (Nat×Nat)} {st st':St} (h:vDraw C vops chk st=some st'):st'.base=st.base:=by
 obtain ⟨S,h0,h1,hT,_⟩:=vDraw_tr h
 rw [← h1,← h0];exact vDraw_base hT _ (Nat.le_refl _)
theorem vOps_base {C:Orc} {vops:List VOper} {st st':St} (h:vOps C vops st=some st'):st'.base=st.base:=
 vDraw_base' (chk:=[]) (by unfold vDraw;exact h)
theorem vx_base {C:Orc}:∀ n,(∀ c st e st',vx C n c st=some (e,st')→st'.base=st.base)∧(∀ keep b k st e st',vloop C n keep b k st=some (e,st')→st'.base=st.base)
 |0=>⟨fun c st e st' h=>by simp [vx] at h,fun keep b k st e st' h=>by simp [vloop] at h⟩
 |n+1=>by
  obtain ⟨ih1,ih2⟩:=vx_base (C:=C) n
  refine ⟨fun c st e st' h=>?_,fun keep b k st e st' h=>?_⟩
  ·cases c<;>simp only [vx] at h
   case skip=>simp at h;rw [h.2]
   case reg ops=>
    split at h
    ·rename_i s hs;simp at h;rw [← h.2];exact vOps_base hs
    ·cases h
   case draw ops chk=>
    split at h
    ·rename_i s hs;simp at h;rw [← h.2];exact vDraw_base' hs
    ·cases h
   case seq a b=>
    split at h
    ·rename_i s hs;rw [ih1 _ _ _ _ h,ih1 _ _ _ _ hs]
    ·exact ih1 _ _ _ _ h
   case cond c a b=>
    split at h
    ·split at h
     ·exact ih1 _ _ _ _ h
     ·exact ih1 _ _ _ _ h
    ·cases h
   case block id b=>
    split at h
    ·rename_i s hs
     split at h<;>simp at h<;>(rw [← h.2];exact ih1 _ _ _ _ hs)
    ·exact ih1 _ _ _ _ h
   case loop keep b=>exact ih2 _ _ _ _ _ _ h
   case exit id=>simp at h;rw [h.2]
   case ret=>simp at h;rw [h.2]
   case gfrz k=>simp at h;rw [← h.2];rfl
   case alt dd a b=>
    split at h
    ·rename_i e1 s1 e2 s2 hr1 hr2
     split at h
     ·simp only [Option.some.injEq,Prod.mk.injEq] at h;rw [← h.2];show s1.base=_;exact ih1 _ _ _ _ hr1
     ·cases h
    ·cases h
  ·simp only [vloop] at h
   split at h
   ·rename_i s hs
    have hb:s.base=st.base:=by
     unfold St.head at hs
     split at hs
     ·simp only [Option.some.injEq] at hs;subst hs;rfl
     ·simp only [Option.some.injEq] at hs;subst hs;rfl
    split at h
    ·rename_i s1 hs1;rw [ih2 _ _ _ _ _ _ h,ih1 _ _ _ _ hs1,hb]
    ·rw [ih1 _ _ _ _ h,hb]
   ·cases h
theorem vx_len {C:Orc} {L:Nat}:∀ n,(∀ c st e st',vx C n c st=some (e,st')→L≤st.blocks.length→L≤st'.blocks.length)∧(∀ keep b k st e st',vloop C n keep b k st=some (e,st')→L≤k→L≤st.blocks.length→L≤st'.blocks.length)
 |0=>⟨fun c st e st' h=>by simp [vx] at h,fun keep b k st e st' h=>by simp [vloop] at h⟩
 |n+1=>by
  obtain ⟨ih1,ih2⟩:=vx_len (C:=C) (L:=L) n
  refine ⟨fun c st e st' h hL=>?_,fun keep b k st e st' h hk hL=>?_⟩
  ·cases c<;>simp only [vx] at h
   case skip=>simp at h;rw [← h.2];exact hL
   case reg ops=>
    split at h
    ·rename_i s hs;simp at h;rw [← h.2];exact Nat.le_trans hL (vOps_len hs)
    ·cases h
   case draw ops chk=>
    split at h
    ·rename_i s hs
     simp at h;rw [← h.2]
     obtain ⟨S,h0,h1,hT,_⟩:=vDraw_tr hs
     rw [← h1];rw [← h0] at hL
     exact Nat.le_trans hL (vDraw_len hT _ (Nat.le_refl _))
    ·cases h
   case seq a b=>
    split at h
    ·rename_i s hs;exact ih1 _ _ _ _ h (ih1 _ _ _ _ hs hL)
    ·exact ih1 _ _ _ _ h hL
   case cond c a b=>
    split at h
    ·split at h
     ·exact ih1 _ _ _ _ h hL
     ·exact ih1 _ _ _ _ h hL
    ·cases h
   case block id b=>
    split at h
    ·rename_i s hs
     split at h<;>simp at h<;>(rw [← h.2];exact ih1 _ _ _ _ hs hL)
    ·exact ih1 _ _ _ _ h hL
   case loop keep b=>exact ih2 _ _ _ _ _ _ h hL hL
   case exit id=>simp at h;rw [← h.2];exact hL
   case ret=>simp at h;rw [← h.2];exact hL
   case gfrz k=>simp at h;rw [← h.2];simp [gfrzS,St.put,gfrzB_length];exact hL
   case alt dd a b=>
    split at h
    ·rename_i e1 s1 e2 s2 hr1 hr2
     split at h
     ·simp only [Option.some.injEq,Prod.mk.injEq] at h;rw [← h.2];show L≤s1.blocks.length;exact ih1 _ _ _ _ hr1 hL
     ·cases h
    ·cases h
  ·simp only [vloop] at h
   split at h
   ·rename_i s hs
    have hb:L≤s.blocks.length:=by
     unfold St.head at hs
     split at hs
     ·simp only [Option.some.injEq] at hs;subst hs;simp;omega
     ·simp only [Option.some.injEq] at hs;subst hs;exact hL
    split at h
    ·rename_i s1 hs1;exact ih2 _ _ _ _ _ _ h hk (ih1 _ _ _ _ hs1 hb)
    ·exact ih1 _ _ _ _ h hb
   ·cases h
theorem rounds_mono {c:Code} {Q R:Exit→Act→World→Prop} (hQ:∀ e a w,Q e a w→R e a w):∀ (m:Nat) {a:Act} {w:World},Code.rounds P c Q m a w→Code.rounds P c R m a w
 |0,a,w,h=>h
 |m+1,a,w,h=>by
  rw [rounds_succ] at h ⊢
  refine wp_mono h fun e a w k=>?_
  cases e<;>first|exact rounds_mono hQ m k|exact hQ _ _ _ k
theorem Rl.reblk (h:Rl w0 G0 st G w) {id:Nat} {cs cs':List V} (hcs:st.blocks[id]?=some cs) (hd:G.dd id=false) (hid:st.base≤id) (hb:Blk G w id cs'):Rl w0 G0 { st with blocks:=st.blocks.set id cs' } G w:=
 {h with
  base:=by simpa using h.base
  lt:=fun i c hc=>by simpa using h.lt i c hc
  blk:=fun k ks hk=>by
   have hk':(st.blocks.set id cs')[k]?=some ks:=hk
   by_cases hkid:id=k
   ·subst hkid
    rw [List.getElem?_set] at hk'
    simp only [if_true] at hk'
    rw [if_pos (List.getElem?_eq_some_iff.1 hcs).1] at hk'
    simp only [Option.some.injEq] at hk';subst hk'
    show Blk (if id<st.base then G.old else G) w id cs'
    rw [if_neg (Nat.not_lt.2 hid)]
    exact hb
   ·rw [List.getElem?_set_ne hkid] at hk'
    exact h.blk k ks hk'
  ddb:=fun i hdi=>by
   show (st.blocks.set id cs')[i]?=some []
   have hne:id≠i:=by rintro rfl;rw [hd] at hdi;cases hdi
   rw [List.getElem?_set_ne hne];exact h.ddb i hdi }
theorem killL_set {id:Nat} {cs:List V}:∀ (ids:List Nat) (bl:List (List V)),id ∉ ids→killL (bl.set id cs) ids=(killL bl ids).set id cs
 |[],bl,_=>rfl
 |i::ids,bl,h=>by
  simp only [List.mem_cons,not_or] at h
  rw [killL,killL,List.set_comm _ _ h.1,killL_set ids _ h.2]
theorem gfrzB_sound (h:Rl w0 G0 st G w) {v:V} {x:Value} (hrel:RelV G v x) :
  ∃ G',Rl w0 G0 { st with blocks:=gfrzB st.blocks st.base v } G' w∧G.le G'∧RelV G' (v.frz st.blocks st.base) x∧Stay st G w { st with blocks:=gfrzB st.blocks st.base v } G' w:=by
 have hdd:∀ id cs,st.blocks[id]?=some cs→cs≠[]→G.dd id=false:=fun id cs hcs hne=>by
  cases hd:G.dd id with
  |false=>rfl
  |true=>have:=h.ddb id hd;rw [hcs] at this;simp only [Option.some.injEq] at this;exact absurd this hne
 have old:gfrzB st.blocks st.base v=killL st.blocks (v.locs st.base)→∃ G',Rl w0 G0 { st with blocks:=gfrzB st.blocks st.base v } G' w∧G.le G'∧RelV G' (v.frz st.blocks st.base) x∧Stay st G w { st with blocks:=gfrzB st.blocks st.base v } G' w:=fun he=>by
  obtain ⟨hR,hst⟩:=h.freeze (locs_rel (n:=st.base) hrel)
  have hr:=frz_rel (n:=st.base) (S:=fun i=>i∈v.locs st.base) h.fz (fun id cs hb=>h.blkG id cs hb) hdd hrel (fun _ hid=>hid)
  rw [he]
  exact ⟨_,hR,G.le_frzK w _,hr.frzK,hst⟩
 cases v with
 |ptr id off=>
  have triv:gfrzB st.blocks st.base (.ptr id off)=st.blocks→∃ G',Rl w0 G0 { st with blocks:=gfrzB st.blocks st.base (.ptr id off) } G' w∧G.le G'∧RelV G' ((V.ptr id off).frz st.blocks st.base) x∧Stay st G w { st with blocks:=gfrzB st.blocks st.base (.ptr id off) } G' w:=fun he=>by
   rw [he];exact ⟨G,h,G.le_refl,hrel,Stay.refl _ _ _⟩
  cases hcs:st.blocks[id]? with
  |none=>exact triv (by simp only [gfrzB,hcs])
  |some cs=>
   by_cases hc:id<st.base∨cs.isEmpty=true∨(V.locsL st.base cs).contains id=true
   ·exact triv (by simp only [gfrzB,hcs,if_pos hc])
   ·have he:gfrzB st.blocks st.base (.ptr id off)=(killL st.blocks (V.locsL st.base cs)).set id (V.frzL st.blocks st.base cs):=by
     simp only [gfrzB,hcs,if_neg hc]
     exact killL_set _ _ (fun hm=>hc (.inr (.inr (by simpa using hm))))
    simp only [not_or,Nat.not_lt] at hc
    obtain ⟨c1,c2,c3⟩:=hc
    have hne:cs≠[]:=by rintro rfl;exact c2 rfl
    have hnm:id ∉ V.locsL st.base cs:=by simpa using c3
    have hd:=hdd id cs hcs hne
    have hbk:=h.blkG id cs hcs
    obtain ⟨b,cur,e,k1,k2,k3,k4⟩:=hbk
    have hids:∀ i∈V.locsL st.base cs,st.base≤i∧∃ b,G.ι i=some b:=fun i hi=>by
     obtain ⟨j,c,hj,hm⟩:=V.locsL_get hi
     have hlt:=(List.getElem?_eq_some_iff.1 hj).1
     have hx:=Array.getElem?_eq_getElem (show j<cur.size by omega)
     exact locs_rel (k4 j c _ hj hx).2 i hm
    obtain ⟨hR,hst⟩:=h.freeze hids
    have hle:=G.le_frzK w (V.locsL st.base cs)
    rw [he]
    have hget:(killL st.blocks (V.locsL st.base cs))[id]?=some cs:=by
     rw [killL_get _ _ _ (fun i hi=>by obtain ⟨_,b,hb⟩:=hids i hi;exact h.lt i b hb),if_neg hnm];exact hcs
    have hR2:=hR.reblk (id:=id) (cs:=cs) (cs':=V.frzL st.blocks st.base cs) hget (by
     show (G.dd id||(V.locsL st.base cs).contains id)=false
     rw [hd,Bool.false_or];simpa using hnm) c1 ⟨b,cur,e,k1,k2,by rw [V.frzL_eq,List.length_map];exact k3,fun j c' y hj hy=>by
      rw [V.frzL_eq,List.getElem?_map] at hj
      obtain ⟨c,hc0,rfl⟩:=Option.map_eq_some_iff.1 hj
      have k5:=k4 j c y hc0 hy
      exact ⟨k5.1,(frz_rel (n:=st.base) (S:=fun i=>i∈V.locsL st.base cs) h.fz (fun id cs hb=>h.blkG id cs hb) hdd k5.2 (fun _ hid=>V.locsL_mem hc0 hid)).frzK⟩⟩
    exact ⟨_,hR2,hle,hrel.mono hle,hst.trans (fun b o hl=>hl.st (fun _ h=>h) rfl)⟩
 |_=>exact old rfl
theorem gfrz_sound (h:Rl w0 G0 st G w) {xs:Array Value} (ht:RelT G st.tmps xs) (k:Nat):∃ G',Rl w0 G0 (gfrzS st k) G' w∧RelT G' (gfrzS st k).tmps xs∧∀ L,L≤st.blocks.length→Via L st G w (gfrzS st k) G' w:=by
 obtain ⟨G',hR,hle,hr2,hst⟩:=gfrzB_sound h (ht.get k)
 refine ⟨G',hR.put _ _,?_,fun L hL=>Via.of hle (hst.trans (Stay.put _ _ _ _ _)) hL (by simp [gfrzS,St.put,gfrzB_length])⟩
 refine ⟨by simp [gfrzS,St.put,ht.1],fun t v x h1 h2=>?_⟩
 simp only [gfrzS,St.put] at h1
 rw [List.getElem?_set] at h1
 split at h1
 ·rename_i hk
  subst hk
  split at h1
  ·simp only [Option.some.injEq] at h1
   subst h1
   have:xs.getD k undef=x:=by simp [Array.getD,(Array.getElem?_eq_some_iff.1 h2).1,(Array.getElem?_eq_some_iff.1 h2).2]
   rw [← this];exact hr2
  ·cases h1
 ·exact (ht.2 t v x h1 h2).mono hle
theorem Pst.fgt {L:Nat} {sS:St} {Gs:Gh} {ws:World} {e:VExit} {st:St} (dd:List Nat) {e':Exit} {a:Act} {w:World} (h:Pst L sS Gs ws w0 G0 e st e' a w):Pst L sS Gs ws w0 G0 e (st.fgt dd) e' a w:=by
 obtain ⟨h1,G,h2,h3,h4,h5⟩:=h
 refine ⟨h1,G,h2.tmps _,⟨by simp [St.fgt,fgtL_length,h3.1],fun t v x k1 k2=>?_⟩,h4,⟨h5.le,fun b o hL=>(h5.stay b o hL).st (fun _ h=>h) rfl,h5.len⟩⟩
 rcases fgtL_get dd st.tmps t v k1 with rfl|k3
 ·exact .any _
 ·exact h3.2 t v x k3 k2
theorem vx_draws {C:Orc} (hC:OrcOk2 P C) (hFn:OrcFn2 P C) (hd0:G0.dep=0) {id L:Nat}:∀ n (ops:Array Oper) vc st e st',vx C n vc st=some (e,st')→CCode P (.region id ops true) vc→L≤st.blocks.length →
  ∀ G a w,Rl w0 G0 st G w→RelT G st.tmps a.tmps→a.defers=[]→∀ {Q:Exit→Act→World→Prop},(∀ e' a' w',Pst L st G w w0 G0 e st' e' a' w'→Q e' a' w')→Draws P ops Q a w
 |0,_,vc,st,e,st',h,_,_=>by simp [vx] at h
 |n+1,ops,vc,st,e,st',h,hc,hL=>by
  intro G a w hR ht hdf Q hQ
  cases hc with
  |@draw _ _ vops chk bef hA hO hck=>
   simp only [vx] at h
   split at h
   case h_2=>cases h
   rename_i s hs
   simp at h;obtain ⟨rfl,rfl⟩:=h
   obtain ⟨S,h0,h1,hT,hp⟩:=vDraw_tr hs
   subst h0;subst h1
   refine draws_any (draw_soundA hC hFn hd0 hT hO hA (fun k e x y hx hy hyE hor hw id hid=>?_) hR ht hdf (fun a G' w' h1 h2 h3 h4 h5=>hQ _ _ _ ⟨rfl,G',h3,h1,h2,Via.of h4 h5 hL (vDraw_len hT _ (Nat.le_refl _))⟩))
   exact hp (k,e) (hck k e x y hx hy hyE hor (blk_load hid)) x hx hw id hid
  |@ghost _ k vc hb=>
   simp only [vx] at h
   cases n with
   |zero=>simp [vx] at h
   |succ n=>
    simp only [vx] at h
    obtain ⟨G',h1,h2,h3⟩:=gfrz_sound hR ht k
    exact vx_draws hC hFn hd0 (n+1) _ _ _ _ _ h hb (h3 L hL).len G' a w h1 h2 hdf (fun e' a' w' ⟨k1,G2,k2,k3,k4,k5⟩=>hQ _ _ _ ⟨k1,G2,k2,k3,k4,(h3 L hL).trans k5⟩)
  |@alt _ _ _ _ dd va vb σ τ p q hpq hA hB ha hb=>
   simp only [vx] at h
   split at h
   case h_2=>cases h
   rename_i e1 s1 e2 s2 hr1 hr2
   split at h
   case isFalse=>cases h
   rename_i heq
   simp only [Option.some.injEq,Prod.mk.injEq] at h
   obtain ⟨rfl,rfl⟩:=h
   obtain ⟨rfl,heq⟩:=heq
   exact draws_split hpq hA hB (vx_draws hC hFn hd0 n _ _ _ _ _ hr1 ha hL G a w hR ht hdf (fun _ _ _ h=>hQ _ _ _ (h.fgt dd))) (vx_draws hC hFn hd0 n _ _ _ _ _ hr2 hb hL G a w hR ht hdf (fun _ _ _ h=>hQ _ _ _ (by rw [← heq];exact h.fgt dd)))
theorem vx_sound {C:Orc} (hC:OrcOk2 P C) (hFn:OrcFn2 P C) (hd0:G0.dep=0) (hm:P.follows .mixedOrders=true) {L:Nat}:∀ n,
  (∀ c vc st e st',vx C n vc st=some (e,st')→CCode P c vc→L≤st.blocks.length→∀ G a w,Rl w0 G0 st G w→RelT G st.tmps a.tmps→a.defers=[]→c.wp P (Pst L st G w w0 G0 e st') a w) ∧
  (∀ c keep vb k st e st',vloop C n keep vb k st=some (e,st')→CCode P c vb→st.base≤k→L≤k→L≤st.blocks.length→∃ m,∀ G a w,Rl w0 G0 st G w→RelT G st.tmps a.tmps→a.defers=[]→Code.rounds P c (Pst L st G w w0 G0 e st') m a w)
 |0=>⟨fun c vc st e st' h=>by simp [vx] at h,fun c keep b k st e st' h=>by simp [vloop] at h⟩
 |n+1=>by
  obtain ⟨ih1,ih2⟩:=vx_sound hC hFn hd0 hm (L:=L) n
  refine ⟨fun c vc st e st' h hc hL G a w hR ht hdf=>?_,fun c keep vb k st e st' h hc hk hLk hL=>?_⟩
  ·cases hc with
   |skip=>simp [vx] at h;obtain ⟨rfl,rfl⟩:=h;exact wp_skip ⟨rfl,G,hR,ht,hdf,Via.refl hL⟩
   |reg hop=>
    simp only [vx] at h
    split at h
    case h_2=>cases h
    rename_i s hs
    simp at h;obtain ⟨rfl,rfl⟩:=h
    exact wp_region_list (vOps_sound hC hFn hd0 hop hs hR ht hdf fun a' G' w' h1 h2 h3 h4 h5=>⟨rfl,G',h3,h1,h2,Via.of h4 h5 hL (vOps_len hs)⟩)
   |@draw id ops vops chk bef hA hO hck=>exact draws_wp hm (vx_draws (id:=id) hC hFn hd0 (n+1) _ _ _ _ _ h (.draw hA hO hck) hL G a w hR ht hdf (fun _ _ _ h=>h))
   |@alt id ops opsA opsB dd va vb σ τ p q hpq hA hB ha hb=>exact draws_wp hm (vx_draws (id:=id) hC hFn hd0 (n+1) _ _ _ _ _ h (.alt hpq hA hB ha hb) hL G a w hR ht hdf (fun _ _ _ h=>h))
   |@seq ca cb va vb ha hb=>
    simp only [vx] at h
    split at h
    ·rename_i s hs
     refine wp_seq (wp_mono (ih1 _ _ _ _ _ hs ha hL G a w hR ht hdf) ?_)
     rintro e' a' w' ⟨rfl,G',h1,h2,h3,h4⟩
     refine wp_mono (ih1 _ _ _ _ _ h hb h4.len G' a' w' h1 h2 h3) ?_
     rintro e' a' w' ⟨k1,G2,k2,k3,k4,k5⟩
     exact ⟨k1,G2,k2,k3,k4,h4.trans k5⟩
    ·rename_i hne
     refine wp_seq (wp_mono (ih1 _ _ _ _ _ h ha hL G a w hR ht hdf) ?_)
     rintro e' a' w' ⟨rfl,G',h1,h2,h3,h4⟩
     cases e with
     |normal=>exact absurd h (hne _)
     |exit id=>exact ⟨rfl,G',h1,h2,h3,h4⟩
     |ret=>exact ⟨rfl,G',h1,h2,h3,h4⟩
   |cond hcx ha hb=>
    simp only [vx] at h
    split at h
    case h_2=>cases h
    rename_i t hbo
    have hv:=V.bool_rel (hcx.rel ht) hbo
    refine wp_cond hv ?_
    cases t
    ·exact ih1 _ _ _ _ _ h hb hL G a w hR ht hdf
    ·exact ih1 _ _ _ _ _ h ha hL G a w hR ht hdf
   |@block id b vb hb=>
    simp only [vx] at h
    refine wp_block ?_
    split at h
    ·rename_i i s hs
     refine wp_mono (ih1 _ _ _ _ _ hs hb hL G a w hR ht hdf) ?_
     rintro e' a' w' ⟨rfl,G',h1,h2,h3,h4⟩
     simp only [VExit.to,Exit.inBlock]
     split at h
     ·rename_i hi;simp at h;obtain ⟨rfl,rfl⟩:=h;rw [if_pos hi];exact ⟨rfl,G',h1,h2,h3,h4⟩
     ·rename_i hi;simp at h;obtain ⟨rfl,rfl⟩:=h;rw [if_neg hi];exact ⟨rfl,G',h1,h2,h3,h4⟩
    ·rename_i hne
     refine wp_mono (ih1 _ _ _ _ _ h hb hL G a w hR ht hdf) ?_
     rintro e' a' w' ⟨rfl,G',h1,h2,h3,h4⟩
     cases e with
     |normal=>exact ⟨rfl,G',h1,h2,h3,h4⟩
     |exit id=>exact absurd h (hne _ _)
     |ret=>exact ⟨rfl,G',h1,h2,h3,h4⟩
   |loop hb=>
    simp only [vx] at h
    obtain ⟨m,hm'⟩:=ih2 _ _ _ _ _ _ _ h hb hR.base hL hL
    exact wp_loop_rounds m (hm' G a w hR ht hdf)
   |exit=>simp [vx] at h;obtain ⟨rfl,rfl⟩:=h;exact wp_exit ⟨rfl,G,hR,ht,hdf,Via.refl hL⟩
   |ret=>simp [vx] at h;obtain ⟨rfl,rfl⟩:=h;exact wp_ret ⟨rfl,G,hR,ht,hdf,Via.refl hL⟩
   |@ghost c k vc hb=>
    simp only [vx] at h
    cases n with
    |zero=>simp [vx] at h
    |succ n=>
     simp only [vx] at h
     obtain ⟨G',h1,h2,h3⟩:=gfrz_sound hR ht k
     refine wp_mono (ih1 _ _ _ _ _ h hb (h3 L hL).len G' a w h1 h2 hdf) ?_
     rintro e' a' w' ⟨k1,G2,k2,k3,k4,k5⟩
     exact ⟨k1,G2,k2,k3,k4,(h3 L hL).trans k5⟩
  ·simp only [vloop] at h
   split at h
   case h_2=>cases h
   rename_i s hs
   have hls':L≤s.blocks.length:=by
    unfold St.head at hs
    split at hs
    ·simp only [Option.some.injEq] at hs;subst hs;simp;omega
    ·simp only [Option.some.injEq] at hs;subst hs;exact hL
   split at h
   ·rename_i s1 hs1
    have hb1:=(vx_base n).1 _ _ _ _ hs1
    have hb0:s.base=st.base:=by
     unfold St.head at hs
     split at hs
     ·simp only [Option.some.injEq] at hs;subst hs;rfl
     ·simp only [Option.some.injEq] at hs;subst hs;rfl
    have hl1:L≤s1.blocks.length:=(vx_len n).1 _ _ _ _ hs1 hls'
    obtain ⟨m,hm'⟩:=ih2 _ _ _ _ _ _ _ h hc (by rw [hb1,hb0];exact hk) hLk hl1
    refine ⟨m+1,fun G a w hR ht hdf=>?_⟩
    obtain ⟨_,hR',ht',_,hv⟩:=head_sound hs hk hR ht
    rw [rounds_succ]
    refine wp_mono (ih1 _ _ _ _ _ hs1 hc hls' _ a w hR' ht' hdf) ?_
    rintro e' a' w' ⟨rfl,G',h1,h2,h3,h4⟩
    have:=hm' G' a' w' h1 h2 h3
    refine rounds_mono ?_ _ this
    rintro e' a' w' ⟨k1,G2,k2,k3,k4,k5⟩
    exact ⟨k1,G2,k2,k3,k4,(hv L hLk hL).trans (h4.trans k5)⟩
   ·rename_i hne
    refine ⟨1,fun G a w hR ht hdf=>?_⟩
    obtain ⟨_,hR',ht',_,hv⟩:=head_sound hs hk hR ht
    rw [rounds_succ]
    refine wp_mono (ih1 _ _ _ _ _ h hc hls' _ a w hR' ht' hdf) ?_
    rintro e' a' w' ⟨rfl,G',h1,h2,h3,h4⟩
    cases e with
    |normal=>exact absurd h (hne _)
    |exit id=>exact ⟨rfl,G',h1,h2,h3,(hv L hLk hL).trans h4⟩
    |ret=>exact ⟨rfl,G',h1,h2,h3,(hv L hLk hL).trans h4⟩
end
end Go.VM
namespace Go.VM
inductive VRes where
 |tmp (t:Nat)
 |cell (a n:Nat) (ag:Bool)
 deriving Inhabited
structure VFunc where
 ntmps:Nat
 body:VCode
 res:List VRes
 keep:Bool
 deriving Inhabited
def VRes.get (st:St):VRes→Option V
 |.tmp t=>some (st.tmps.getD t .any)
 |.cell a n ag=>match vLoadCells (fun id=>st.blocks[id]?) (st.tmps.getD a .any) n with
  |some cs=>vShape ag cs
  |none=>none
def getRes (st:St):List VRes→Option (List V)
 |[]=>some []
 |r::rs=>match r.get st,getRes st rs with|some v,some vs=>some (v::vs)|_,_=>none
def vPack:List V→V
 |[v]=>v
 |vs=>.tup vs
def keepRet (v:V) (n:Nat) (st:St):Ret:=
 match v with
 |.sl sz es (.own q k)=>if (q==0&&st.live.contains k)&&(st.blocks.take n).all (V.ltbL n) then { r:=.sl sz es (.own 0 0),blocks:=st.blocks.take n,live:=[0],gn:=1 } else { r:=.sl sz es (.own q k),blocks:=st.blocks,live:=st.live,gn:=st.gn }
 |.sl sz es .full=>if (st.blocks.take n).all (V.ltbL n) then { r:=.sl sz es .full,blocks:=st.blocks.take n,live:=[],gn:=0 } else { r:=.sl sz es .full,blocks:=st.blocks,live:=st.live,gn:=st.gn }
 |.nil=>if (st.blocks.take n).all (V.ltbL n) then { r:=.nil,blocks:=st.blocks.take n,live:=[],gn:=0 } else { r:=.nil,blocks:=st.blocks,live:=st.live,gn:=st.gn }
 |v=>{ r:=v,blocks:=st.blocks,live:=st.live,gn:=st.gn }
def vRet (vf:VFunc) (n:Nat) (st:St):Option Ret:=
 match getRes st vf.res with
 |some vs=>
  if vf.keep then some (keepRet (vPack vs) n st)
  else if ((vPack vs).frz st.blocks n).er.ltb n&&(st.blocks.take n).all (V.ltbL n) then some { r:=((vPack vs).frz st.blocks n).er,blocks:=st.blocks.take n,live:=[],gn:=0 }
  else none
 |none=>none
def VFunc.start (vf:VFunc) (args:List V) (blks:List (List V)):St:=
 {tmps:=args++List.replicate (vf.ntmps-args.length) .any,blocks:=blks,live:=[],gn:=0,base:=blks.length,dep:=0 }
noncomputable def vRun (C:Orc) (n:Nat) (vf:VFunc) (args:List V) (blks:List (List V)):Option Ret:=
 match vx C n vf.body (vf.start args blks) with
 |some (.normal,st)=>vRet vf blks.length st
 |some (.ret,st)=>vRet vf blks.length st
 |_=>none
def vRetI (vf:VFunc) (st:St):Option Ret:=match getRes st vf.res with
 |some vs=>some ⟨vPack vs,st.blocks,st.live,st.gn⟩
 |none=>none
def VFunc.startI (vf:VFunc) (as:List V) (st:St):St:={ st with tmps:=as++List.replicate (vf.ntmps-as.length) .any }
noncomputable def vRunI (C:Orc) (n:Nat) (vf:VFunc) (as:List V) (st:St):Option Ret:=
 match vx C n vf.body (vf.startI as st) with
 |some (.normal,st')=>vRetI vf st'
 |some (.ret,st')=>vRetI vf st'
 |_=>none
structure VProg where
 fn:FuncId→Option VFunc
 nat:Orc
noncomputable def vcall (VP:VProg):Nat→Orc
 |0,_,_,_=>none
 |n+1,f,args,blks=>match VP.nat f args blks with
  |some r=>some r
  |none=>match VP.fn f with
   |some vf=>vRun (vcall VP n) n vf args blks
   |none=>if 1000000≤f then match unIn args,VP.fn (f-1000000) with
    |some (gn,base,lv,as),some vf=>vRunI (vcall VP n) n vf as ⟨[],blks,lv,gn,base,0⟩
    |_,_=>none
    else none
section
variable {P:Program}
inductive CRes (P:Program):List ResultVar→List VRes→Prop
 |nil:CRes P [] []
 |tmp {t:Nat} {rs:List ResultVar} {vs:List VRes} (h:CRes P rs vs):CRes P (.tmp t::rs) (.tmp t::vs)
 |cell {a:Nat} {t:TypeId} {d:TypeDesc} {i:TypeInfo} {rs:List ResultVar} {vs:List VRes} (hd:P.underlying t=some d) (hi:P.info? t=some i) (h1:aggD d=false→i.size=1)
   (h:CRes P rs vs):CRes P (.cell a t::rs) (.cell a i.size (aggD d)::vs)
structure CFunc (P:Program) (f:FuncId) (vf:VFunc):Prop where
 ex : ∃ fn code, P.funcs[f]? = some fn ∧ fn.body = some code ∧ (fn.name == "runtime.NumGoroutine") = false ∧ fn.ntmps = vf.ntmps ∧ CCode P code vf.body ∧ CRes P fn.results.toList vf.res
structure CProg0 (P:Program) (VP:VProg):Prop where
 fn:∀ f vf,VP.fn f=some vf→CFunc P f vf
 ok:OrcOk P VP.nat
 call:OrcFn P VP.nat
structure CProg (P:Program) (VP:VProg):Prop where
 fn:∀ f vf,VP.fn f=some vf→CFunc P f vf
 ok:∀ f args blks ret,VP.nat f args blks=some ret→f<1000000→VC P f args blks ret
 okI:∀ f args blks ret,VP.nat f args blks=some ret→1000000≤f→P.funcs[f]?=none→∀ gn base lv as,args=inArgs gn base lv as→VI P (f-1000000) as ⟨[],blks,lv,gn,base,0⟩ ret
 call : ∀ f args blks ret, VP.nat f args blks = some ret → f < 1000000 → ∃ fn, P.funcs[f]? = some fn ∧ fn.body.isNone = false ∧ (fn.name == "runtime.NumGoroutine") = false
theorem CProg0.up {P:Program} {VP:VProg} (h:CProg0 P VP):CProg P VP:=
 ⟨h.fn,fun f a b r hr _=>h.ok f a b r hr,fun f a b r hr _ hn=>(by obtain ⟨fn,hf,_⟩:=h.call f a b r hr;rw [hn] at hf;cases hf),fun f a b r hr _=>h.call f a b r hr⟩
variable {w0:World} {G0:Gh} {st:St} {G:Gh} {w:World}
def resSem (xs:Array Value):ResultVar→Sem Value
 |.tmp t=>pure (xs.getD t undef)
 |.cell a t=>do loadVar t (← asAddr (xs.getD a undef))
theorem results_eq (fn:Func) (xs:Array Value):results fn xs=(do let vs ← fn.results.mapM (resSem xs);pure (if h:vs.size=1 then vs[0] else .tuple vs)):=rfl
theorem results_rel (hb:∀ id cs,st.blocks[id]?=some cs→Blk G w id cs) (hf:FzOk G.F w) {xs:Array Value} (ht:RelT G st.tmps xs):∀ {rs:List ResultVar} {vrs:List VRes} {vs:List V},CRes P rs vrs→getRes st vrs=some vs →
  ∃ ys:List Value,(rs.mapM (resSem xs)).run P w=.ok ys w ∧
   ys.length=vs.length∧∀ (j:Nat) v y,vs[j]?=some v→ys[j]?=some y→RelV G v y
 |_,_,vs,.nil,h=>by simp [getRes] at h;subst h;exact ⟨[],by simp,rfl,by simp⟩
 |_,_,vs,@CRes.tmp _ t rs vrs hr,h=>by
  simp only [getRes,VRes.get] at h
  split at h
  case h_2=>cases h
  rename_i v vs' hv hvs
  simp at hv h;subst hv;subst h
  obtain ⟨ys,h1,h2,h3⟩:=results_rel hb hf ht hr hvs
  refine ⟨xs.getD t undef::ys,by rw [List.mapM_cons,Sem.run_bind];simp only [resSem,Sem.run_pure,Result.andThen_ok,Sem.run_bind,h1],by simp [h2],fun j v y hj hy=>?_⟩
  match j with
  |0=>simp only [List.getElem?_cons_zero,Option.some.injEq] at hj hy;subst hj;subst hy;exact ht.get t
  |j+1=>exact h3 j v y (by simpa using hj) (by simpa using hy)
 |_,_,vs,@CRes.cell _ a t d i rs vrs hd hi h1' hr,h=>by
  simp only [getRes] at h
  split at h
  case h_2=>cases h
  rename_i v vs' hv hvs
  simp at h;subst h
  simp only [VRes.get] at hv
  split at hv
  case h_2=>cases hv
  rename_i cs hcs
  obtain ⟨ys,h1,h2,h3⟩:=results_rel hb hf ht hr hvs
  obtain ⟨b,o,hxv,hl,u,hu⟩:=load_rel (w:=w) hb hf (ht.get a) hcs
  obtain ⟨y,hy,hrel⟩:=run_loadVar' (P:=P) (w:=w) hd hi h1' hl hu hv
  refine ⟨y::ys,?_,by simp [h2],fun j v' y' hj hy'=>?_⟩
  ·rw [List.mapM_cons,Sem.run_bind]
   simp only [resSem,hxv,asAddr,Sem.run_bind,Sem.run_pure,Result.andThen_ok,hy,h1]
  ·match j with
   |0=>simp only [List.getElem?_cons_zero,Option.some.injEq] at hj hy';subst hj;subst hy';exact hrel
   |j+1=>exact h3 j v' y' (by simpa using hj) (by simpa using hy')
theorem pack_rel {vs:List V} {ys:List Value} (hl:ys.length=vs.length) (h:∀ (j:Nat) v y,vs[j]?=some v→ys[j]?=some y→RelV G v y) :
  RelV G (vPack vs) (if h:ys.toArray.size=1 then ys.toArray[0] else .tuple ys.toArray):=by
 match vs,ys,hl with
 |[v],[y],_=>simpa [vPack] using h 0 v y rfl rfl
 |[],[],_=>exact .tup (by simp) (by simp)
 |v::v'::vs,y::y'::ys,hl=>
  rw [dif_neg (by simp)]
  exact .tup (by simpa using hl) (fun j c x hj hx=>h j c x hj (by simpa using hx))
theorem Rl.own1 {w0:World} {G0:Gh} {st:St} {G:Gh} {w:World} {n:Nat} (h:Rl w0 G0 st (G.cut n) w) (hdep:st.dep=0) (hb:st.blocks.length≤st.base) {k:Nat} (hk:k∈st.live) :
  ∃ G'',Rl w0 G0 { tmps:=st.tmps,blocks:=st.blocks,live:=[0],gn:=1,base:=st.base,dep:=0 } G'' w∧∀ sz es v,RelV G (.sl sz es (.own 0 k)) v→RelV G'' (.sl sz es (.own 0 0)) v:=by
 have hGd:G.dep=0:=h.dep.trans hdep
 refine ⟨{ G.cut n with τ:=fun d j=>if d=0∧j=0 then G.τ 0 k else none,gn:=1 },?_,fun sz es v hv=>?_⟩
 ·exact
   {h with
    dep:=hGd
    dep0:=h.dep0.trans hdep
    gn:=rfl
    τ0:=fun d g hd=>absurd hd (Nat.not_lt_zero _)
    blk:=fun i cs hi=>by
     have hbk:=h.blk i cs hi
     split
     ·rename_i hlt
      rw [if_pos (show i<st.base from hlt)] at hbk
      exact hbk.mono (show (G.cut n).old.le (Gh.old { G.cut n with τ:=fun d j=>if d=0∧j=0 then G.τ 0 k else none,gn:=1 }) from ⟨Fz.le_refl _,fun _ _ h=>h,fun d j _ ht=>absurd ht (okTag_false (G:=(G.cut n).old) hGd rfl d j),fun d j ht=>absurd ht (okTag_false (G:=(G.cut n).old) hGd rfl d j),fun _ _ _=>rfl⟩)
     ·rename_i hlt
      have:=(List.getElem?_eq_some_iff.1 hi).1
      exact absurd (Nat.lt_of_lt_of_le this hb) hlt
    tok:=fun g hg=>by
     simp only [List.mem_singleton] at hg
     subst hg
     obtain ⟨h1,a,len,cap,sz,h2,h3⟩:=h.tok k hk
     refine ⟨Nat.zero_lt_one,a,len,cap,sz,?_,h3⟩
     rw [hdep] at h2
     exact h2
    tinj:=fun g g' hg hg' hgg=>by
     simp only [List.mem_singleton] at hg hg'
     subst hg hg';exact absurd rfl hgg }
 ·cases hv with
  |own h1 h2 h3 h4=>
   refine .own h1 h2 (.inr ⟨hGd.symm,Nat.zero_lt_one⟩) (fun p hp=>h4 p ?_)
   exact hp
theorem Rl.own0 {w0:World} {G0:Gh} {st:St} {G:Gh} {w:World} {n:Nat} (h:Rl w0 G0 st (G.cut n) w) (hdep:st.dep=0) (hb:st.blocks.length≤st.base) :
  ∃ G'',G''.F=G.F∧Rl w0 G0 { tmps:=st.tmps,blocks:=st.blocks,live:=[],gn:=0,base:=st.base,dep:=0 } G'' w:=by
 have hGd:G.dep=0:=h.dep.trans hdep
 refine ⟨{ G.cut n with gn:=0 },rfl,?_⟩
 exact
  {h with
   dep:=hGd
   dep0:=h.dep0.trans hdep
   gn:=rfl
   τ0:=fun d g hd=>absurd hd (Nat.not_lt_zero _)
   blk:=fun i cs hi=>by
    have hbk:=h.blk i cs hi
    split
    ·rename_i hlt
     rw [if_pos (show i<st.base from hlt)] at hbk
     exact hbk.mono ⟨Fz.le_refl _,fun _ _ h=>h,fun d j _ ht=>absurd ht (okTag_false (G:=(G.cut n).old) hGd rfl d j),fun d j ht=>absurd ht (okTag_false (G:=(G.cut n).old) hGd rfl d j),fun _ _ _=>rfl⟩
    ·rename_i hlt
     have:=(List.getElem?_eq_some_iff.1 hi).1
     exact absurd (Nat.lt_of_lt_of_le this hb) hlt
   tok:=fun g hg=>by cases hg
   tinj:=fun g g' hg=>by cases hg }
theorem vRet_sound {vf:VFunc} {fn:Func} {n:Nat} {st:St} {ret:Ret} {w w':World} {G G':Gh} {a':Act} (hres:CRes P fn.results.toList vf.res) (hret:vRet vf n st=some ret) (hR':Rl w G st G' w') (ht':RelT G' st.tmps a'.tmps)
  (hbase:st.base=n) (hd0:G.dep=0):∃ v G'',(results fn a'.tmps).run P w'=.ok v w'∧RelV G'' ret.r v∧Rl w G (ret.st n) G'' w':=by
 unfold vRet at hret
 split at hret
 case h_2=>cases hret
 rename_i vs hvs
 obtain ⟨ys,hrun,hl,hrel⟩:=results_rel (P:=P) (w:=w') (fun id cs hb=>hR'.blkG id cs hb) hR'.fz ht' hres hvs
 have hp:=pack_rel hl hrel
 have hresrun:(results fn a'.tmps).run P w'=.ok (if h:ys.toArray.size=1 then ys.toArray[0] else .tuple ys.toArray) w':=by
  rw [results_eq,Array.mapM_eq_mapM_toList]
  simp only [Sem.run_bind,Sem.run_map,hrun,Result.andThen_ok,Sem.run_pure]
 have hdep:st.dep=0:=hR'.dep0.symm.trans hd0
 refine ⟨if h:ys.toArray.size=1 then ys.toArray[0] else .tuple ys.toArray,?_⟩
 split at hret
 ·simp only [Option.some.injEq] at hret;subst hret
  have old:∃ G'',(results fn a'.tmps).run P w'=.ok (if h:ys.toArray.size=1 then ys.toArray[0] else .tuple ys.toArray) w'∧RelV G'' (vPack vs) (if h:ys.toArray.size=1 then ys.toArray[0] else .tuple ys.toArray)∧Rl w G (Ret.st n { r:=vPack vs,blocks:=st.blocks,live:=st.live,gn:=st.gn }) G'' w':=by
   refine ⟨G',hresrun,hp,?_⟩
   have h2:Rl w G { tmps:=[],blocks:=st.blocks,live:=st.live,gn:=st.gn,base:=st.base,dep:=st.dep } G' w':=hR'.tmps []
   rw [hbase,hdep] at h2
   exact h2
  generalize vPack vs=pv at *
  generalize (if h:ys.toArray.size=1 then ys.toArray[0] else .tuple ys.toArray)=yv at *
  unfold keepRet
  split
  ·rename_i sz es q k
   split
   ·rename_i hc
    simp only [Bool.and_eq_true,beq_iff_eq,List.contains_iff_mem] at hc
    obtain ⟨⟨rfl,hk⟩,hall⟩:=hc
    have h1:=(hR'.cut (n:=n) (by rw [hbase];exact Nat.le_refl _) hall).own1 hdep (by show (st.blocks.take n).length≤st.base;rw [hbase,List.length_take];exact Nat.min_le_left _ _) hk
    obtain ⟨G'',h2,h3⟩:=h1
    refine ⟨G'',hresrun,h3 _ _ _ hp,?_⟩
    have h4:=h2.tmps []
    simp only [hbase] at h4
    exact h4
   ·exact old
  ·split
   ·rename_i hall
    have h1:=(hR'.cut (n:=n) (by rw [hbase];exact Nat.le_refl _) hall).own0 hdep (by show (st.blocks.take n).length≤st.base;rw [hbase,List.length_take];exact Nat.min_le_left _ _)
    obtain ⟨G'',hGF,h2⟩:=h1
    refine ⟨G'',hresrun,?_,?_⟩
    ·cases hp with|full h hrow=>exact .full (hGF▸h) hrow
    ·have h4:=h2.tmps []
     simp only [hbase] at h4
     exact h4
   ·exact old
  ·split
   ·rename_i hall
    have h1:=(hR'.cut (n:=n) (by rw [hbase];exact Nat.le_refl _) hall).own0 hdep (by show (st.blocks.take n).length≤st.base;rw [hbase,List.length_take];exact Nat.min_le_left _ _)
    obtain ⟨G'',hGF,h2⟩:=h1
    refine ⟨G'',hresrun,?_,?_⟩
    ·cases hp with|nil=>exact .nil
    ·have h4:=h2.tmps []
     simp only [hbase] at h4
     exact h4
   ·exact old
  ·exact old
 ·split at hret
  case isFalse=>cases hret
  rename_i hc
  simp only [Bool.and_eq_true] at hc
  simp only [Option.some.injEq] at hret;subst hret
  have hdd:∀ id cs,st.blocks[id]?=some cs→cs≠[]→G'.dd id=false:=fun id cs hcs hne=>by
   cases hd:G'.dd id with
   |false=>rfl
   |true=>have:=hR'.ddb id hd;rw [hcs] at this;simp only [Option.some.injEq] at this;exact absurd this hne
  have hp2:=frz_rel (n:=n) (S:=fun id=>n≤id) (bl:=st.blocks) hR'.fz (fun id cs hb=>hR'.blkG id cs hb) hdd hp (fun id hid=>(locs_rel hp id hid).1)
  refine ⟨(G'.frz w' (fun id=>n≤id)).old.cut n,hresrun,(RelV.er hp2).cut hc.1,?_⟩
  have h1:=hR'.cut (n:=n) (by rw [hbase];exact Nat.le_refl _) hc.2
  have hdepG:G'.dep=0:=hR'.dep.trans hdep
  have hle:=G'.le_frz w' (fun id=>n≤id)
  exact
   {dep:=hdepG,dep0:=hd0,gn:=rfl,F0:=Fz.le_trans h1.F0 hle.F
    Fnew:=fun b o hb=>by
     have h2:=h1.Fnew b o hb
     have h2:G'.F b o=G.F b o:=h2
     show (match G'.F b o with|some u=>some u|none=>_)=_
     rw [← h2]
     cases hf:G'.F b o with
     |some u=>rfl
     |none=>
      simp only
      rw [if_neg]
      rintro ⟨id,h3,h4,h5⟩
      have:=hR'.new id b (by rw [hbase];exact h3) h5
      omega
    ι0:=fun i hi=>h1.ι0 i (by show i<st.base;rw [hbase];exact hi)
    τ0:=fun d g hd=>by exact absurd hd (Nat.not_lt_zero _)
    wx:=by
     have:=h1.wx
     simp only [hbase] at this
     exact this
    base:=by have:=hR'.base;rw [hbase] at this;simp [Ret.st];omega
    fz:=Gh.frz_ok hR'.fz
    inj:=h1.inj,lt:=h1.lt
    sep:=fun i b o hdi hi=>by
     have hdi:(if i<n then G'.dd i else false)=false:=hdi
     have hi:(if i<n then G'.ι i else none)=some b:=hi
     split at hi
     case isFalse=>cases hi
     rename_i hin
     rw [if_pos hin] at hdi
     show (match G'.F b o with|some u=>some u|none=>_)=none
     rw [hR'.sep i b o hdi hi]
     simp only
     rw [if_neg]
     rintro ⟨id,h3,h4,h5⟩
     have:=hR'.inj i id b hdi h4 hi h5
     omega
    ddb:=h1.ddb
    dd0:=fun i hi hd=>h1.dd0 i (by show i<st.base;rw [hbase];exact hi) hd
    ζ0:=fun i hi=>h1.ζ0 i (by show i<st.base;rw [hbase];exact hi)
    zok:=h1.zok
    old:=fun i b hi hb=>h1.old i b (by show i<st.base;rw [hbase];exact hi) hb
    new:=fun i b hi hb=>h1.new i b (by show st.base≤i;rw [hbase];exact hi) hb
    blk:=fun k cs hk=>by
     have hk':(st.blocks.take n)[k]?=some cs:=hk
     have hlt:k<n:=by
      rw [List.getElem?_take] at hk'
      split at hk'
      ·assumption
      ·cases hk'
     have:=h1.blk k cs hk
     rw [if_pos (show k<st.base by rw [hbase];exact hlt)] at this
     rw [if_pos (show k<(Ret.st n _).base from hlt)]
     exact this.mono (show (G'.cut n).old.le ((G'.frz w' (fun id=>n≤id)).old.cut n).old from ⟨hle.F,fun _ _ h=>h,fun _ _ _ _ h=>h,fun _ _ h=>h,fun _ _ _=>rfl⟩)
    tok:=fun g hg=>by cases hg
    tinj:=fun g g' hg=>by cases hg }
theorem run_sound {VP:VProg} {C:Orc} (hC:OrcOk2 P C) (hFn:OrcFn2 P C) (hm:P.follows .mixedOrders=true) {n:Nat} {f:FuncId} {vf:VFunc} (hf:CFunc P f vf) {args:List V} {blks:List (List V)} {ret:Ret} (hr:vRun C n vf args blks=some ret) :
  VC P f args blks ret:=by
 intro G w xs hargs hR
 obtain ⟨fn,code,hfn,hbody,hname,hnt,hcode,hres⟩:=hf.ex
 have hd0:G.dep=0:=hR.dep
 have main:∀ e st,vx C n vf.body (vf.start args blks)=some (e,st)→(e=.normal∨e=.ret)→vRet vf blks.length st=some ret →
   Calls P f xs w fun e w'=>∃ v G',e=.returned v∧RelV G' ret.r v∧Rl w G (ret.st blks.length) G' w':=by
  intro e st hx he hret
  refine calls_of_wp hfn hbody (wp_mono ((vx_sound (w0:=w) (G0:=G) hC hFn hd0 hm (L:=0) n).1 _ _ _ _ _ hx hcode (Nat.zero_le _) G { tmps:=xs++Array.replicate (fn.ntmps-xs.size) undef,defers:=[] } w ?_ ?_ rfl) ?_)
  ·exact hR.tmps (args++List.replicate (vf.ntmps-args.length) .any)
  ·refine ⟨by simp [VFunc.start,hargs.1,hnt],fun t v x h1 h2=>?_⟩
   simp only [VFunc.start] at h1
   rw [List.getElem?_append] at h1
   rw [Array.getElem?_append,hargs.1] at h2
   split at h1
   ·rename_i hlt;rw [if_pos hlt] at h2
    exact hargs.2 t v x h1 h2
   ·have:=List.mem_of_getElem? h1
    rw [List.mem_replicate] at this
    rw [this.2];exact .any _
  ·rintro e' a' w' ⟨rfl,G',hR',ht',hdf',_⟩
   have hbase:st.base=blks.length:=(vx_base n).1 _ _ _ _ hx
   obtain ⟨v,G'',h1,h2,h3⟩:=vRet_sound hres hret hR' ht' hbase hd0
   rcases he with rfl|rfl
   ·exact ⟨hdf',v,h1,v,G'',rfl,h2,h3⟩
   ·exact ⟨hdf',v,h1,v,G'',rfl,h2,h3⟩
 unfold vRun at hr
 split at hr
 ·rename_i st hx;exact main _ _ hx (.inl rfl) hr
 ·rename_i st hx;exact main _ _ hx (.inr rfl) hr
 ·cases hr
theorem Gh.le_of_cut {G G':Gh} {L:Nat} (h:(G.cut L).le (G'.cut L)) (hl:∀ i b,G.ι i=some b→i<L):G.le G' where
 F:=h.F
 ι i b hi:=by
  have:=h.ι i b (show (if i<L then G.ι i else none)=some b by rw [if_pos (hl i b hi)];exact hi)
  have this:(if i<L then G'.ι i else none)=some b:=this
  rw [if_pos (hl i b hi)] at this
  exact this
 τ:=h.τ
 tag:=h.tag
 ζ i b hi:=h.ζ i b (show (if i<L then G.ι i else none)=some b by rw [if_pos (hl i b hi)];exact hi)
theorem runI_sound {VP:VProg} {C:Orc} (hC:OrcOk2 P C) (hFn:OrcFn2 P C) (hm:P.follows .mixedOrders=true) {n:Nat} {f:FuncId} {vf:VFunc} (hf:CFunc P f vf) {as:List V} {st0:St} {ret:Ret} (hr:vRunI C n vf as st0=some ret) :
  VI P f as st0 ret:=by
 intro w0 G0 G w xs hd0 hargs hR
 obtain ⟨fn,code,hfn,hbody,hname,hnt,hcode,hres⟩:=hf.ex
 have main:∀ e st,vx C n vf.body (vf.startI as st0)=some (e,st)→(e=.normal∨e=.ret)→vRetI vf st=some ret →
   Calls P f xs w fun e w'=>∃ v G',e=.returned v∧RelV G' ret.r v∧Rl w0 G0 { st0 with blocks:=ret.blocks,live:=ret.live,gn:=ret.gn } G' w'∧G.le G'∧Stay st0 G w { st0 with blocks:=ret.blocks,live:=ret.live,gn:=ret.gn } G' w':=by
  intro e st hx he hret
  refine calls_of_wp hfn hbody (wp_mono ((vx_sound (w0:=w0) (G0:=G0) hC hFn hd0 hm (L:=st0.blocks.length) n).1 _ _ _ _ _ hx hcode (Nat.le_refl _) G { tmps:=xs++Array.replicate (fn.ntmps-xs.size) undef,defers:=[] } w ?_ ?_ rfl) ?_)
  ·exact hR.tmps (as++List.replicate (vf.ntmps-as.length) .any)
  ·refine ⟨by simp [VFunc.startI,hargs.1,hnt],fun t v x h1 h2=>?_⟩
   simp only [VFunc.startI] at h1
   rw [List.getElem?_append] at h1
   rw [Array.getElem?_append,hargs.1] at h2
   split at h1
   ·rename_i hlt;rw [if_pos hlt] at h2
    exact hargs.2 t v x h1 h2
   ·have:=List.mem_of_getElem? h1
    rw [List.mem_replicate] at this
    rw [this.2];exact .any _
  ·rintro e' a' w' ⟨rfl,G',hR',ht',hdf',hvia⟩
   have hbase:st.base=(vf.startI as st0).base:=(vx_base n).1 _ _ _ _ hx
   have hbase:st.base=st0.base:=hbase
   have hdep:st.dep=st0.dep:=hR'.dep0.symm.trans hR.dep0
   unfold vRetI at hret
   split at hret
   case h_2=>cases hret
   rename_i vs hvs
   simp only [Option.some.injEq] at hret;subst hret
   have hle:G.le G':=Gh.le_of_cut hvia.le (fun i b hi=>hR.lt i b hi)
   have hst:({ st0 with blocks:=st.blocks,live:=st.live,gn:=st.gn }:St)={ st with tmps:=st0.tmps }:=by rw [← hbase,← hdep]
   obtain ⟨ys,hrun,hl,hrel⟩:=results_rel (P:=P) (w:=w') (fun id cs hb=>hR'.blkG id cs hb) hR'.fz ht' hres hvs
   have hp:=pack_rel hl hrel
   have hresrun:(results fn a'.tmps).run P w'=.ok (if h:ys.toArray.size=1 then ys.toArray[0] else .tuple ys.toArray) w':=by
    rw [results_eq,Array.mapM_eq_mapM_toList]
    simp only [Sem.run_bind,Sem.run_map,hrun,Result.andThen_ok,Sem.run_pure]
   refine (he.elim (fun h=>?_) (fun h=>?_))
   all_goals
    subst h
    refine ⟨hdf',_,hresrun,_,G',rfl,hp,?_,hle,?_⟩
    ·show Rl w0 G0 { st0 with blocks:=st.blocks,live:=st.live,gn:=st.gn } G' w'
     rw [hst];exact hR'.tmps _
    ·show Stay st0 G w { st0 with blocks:=st.blocks,live:=st.live,gn:=st.gn } G' w'
     rw [hst]
     exact fun b o hL=>(hvia.stay b o (hL.st (fun _ h=>h) rfl)).st (fun _ h=>h) rfl
 unfold vRunI at hr
 split at hr
 ·rename_i st hx;exact main _ _ hx (.inl rfl) hr
 ·rename_i st hx;exact main _ _ hx (.inr rfl) hr
 ·cases hr
def Fits (P:Program):Bool:=P.follows .mixedOrders&&decide (P.funcs.size≤1000000)
theorem fits_of {P:Program} (h:Fits P=true):P.follows .mixedOrders=true∧P.funcs.size≤1000000:=by
 simpa [Fits] using h
theorem vcall_sound {VP:VProg} (hP:CProg P VP) (hm:Fits P=true):∀ n,OrcOk2 P (vcall VP n)∧OrcFn2 P (vcall VP n)
 |0=>⟨fun f args blks ret h=>by simp [vcall] at h,(fits_of hm).2,fun f args blks ret h=>by simp [vcall] at h⟩
 |n+1=>by
  obtain ⟨h1,h2⟩:=vcall_sound hP hm n
  have small:∀ {f:FuncId} {fn:Func},P.funcs[f]?=some fn→f<1000000:=fun h=>Nat.lt_of_lt_of_le (Array.getElem?_eq_some_iff.1 h).1 (fits_of hm).2
  refine ⟨fun f args blks ret h=>?_,(fits_of hm).2,fun f args blks ret h hlt=>?_⟩
  ·simp only [vcall] at h
   split at h
   ·rename_i r hr
    simp only [Option.some.injEq] at h;subst h
    exact ⟨fun hlt=>hP.ok f args blks _ hr hlt,fun hge=>hP.okI f args blks _ hr hge (by
     cases hn:P.funcs[f]? with
     |none=>rfl
     |some fn=>exact absurd (small hn) (Nat.not_lt.2 hge))⟩
   ·split at h
    ·rename_i vf hvf
     obtain ⟨fn,code,hfn,_⟩:=(hP.fn f vf hvf).ex
     exact ⟨fun _=>run_sound (VP:=VP) h1 h2 (fits_of hm).1 (hP.fn f vf hvf) h,fun hge=>absurd (small hfn) (Nat.not_lt.2 hge)⟩
    ·split at h
     ·rename_i hge
      refine ⟨fun hlt=>absurd hge (Nat.not_le.2 hlt),fun _ gn base lv as ha=>?_⟩
      split at h
      ·rename_i gn' base' lv' as' vf hun hvf
       rw [ha,unIn_in] at hun
       simp only [Option.some.injEq,Prod.mk.injEq] at hun
       obtain ⟨rfl,rfl,rfl,rfl⟩:=hun
       exact runI_sound (VP:=VP) h1 h2 (fits_of hm).1 (hP.fn _ vf hvf) h
      ·cases h
     ·cases h
  ·simp only [vcall] at h
   split at h
   ·rename_i r hr
    exact hP.call f args blks _ hr hlt
   ·split at h
    ·rename_i vf hvf
     obtain ⟨fn,code,hfn,hbody,hname,_⟩:=(hP.fn f vf hvf).ex
     exact ⟨fn,hfn,by rw [hbody];rfl,hname⟩
    ·rw [if_neg (Nat.not_le.2 hlt)] at h;cases h
end
end Go.VM
namespace Go.VM
def ofCell (v:Value):V:=
 match v with
 |.slice none 0 0=>.nil
 |v=>.d (.lit v)
def ofVal (v:Value):Option V:=
 match v with
 |.agg cs=>if cs.all sc then some (.agg (cs.toList.map ofCell)) else none
 |.tuple _=>none
 |v=>some (ofCell v)
theorem ofCell_rel {G:Gh} {v:Value} (h:sc v=true):RelV G (ofCell v) v:=by
 unfold ofCell
 split
 ·exact .nil
 ·exact .d (.lit _ h)
theorem ofCells_rel {cs:Array Value} (h:cs.all sc=true) (G:Gh):RelC G (cs.toList.map ofCell) cs:=by
 refine ⟨by simp,fun j c x h1 h2=>?_⟩
 have hx:sc x=true:=by
  rw [Array.all_eq_true_iff_forall_mem] at h
  exact h x (Array.mem_of_getElem? h2)
 rw [List.getElem?_map] at h1
 have h3:cs.toList[j]?=some x:=by simpa using h2
 rw [h3] at h1
 simp at h1;subst h1
 exact ⟨hx,ofCell_rel hx⟩
theorem ofVal_rel {v:Value} {c:V} (h:ofVal v=some c) (G:Gh):RelV G c v:=by
 unfold ofVal at h
 split at h
 ·split at h
  ·rename_i hc;simp at h;subst h;exact (ofCells_rel hc G).agg
  ·cases h
 ·cases h
 ·rename_i h1 h2
  simp at h;subst h
  exact ofCell_rel (by cases v<;>simp_all [sc])
def cArg:Operand→Option VArg
 |.tmp t=>some (.t t)
 |.const v=>(ofVal v).map .c
 |.func f=>some (.c (.fn f []))
 |.global _=>none
theorem cArg_ok {x:Operand} {vx:VArg} (h:cArg x=some vx):CArg x vx:=by
 cases x<;>simp only [cArg] at h
 ·simp at h;subst h;exact .tmp _
 ·obtain ⟨c,hc,rfl⟩:=Option.map_eq_some_iff.1 h
  exact .const (ofVal_rel hc)
 ·cases h
 ·simp at h;subst h;exact .func _
def cOpt:Option Operand→Option (Option VArg)
 |none=>some none
 |some x=>(cArg x).map some
theorem cOpt_ok {x:Option Operand} {vx:Option VArg} (h:cOpt x=some vx):COpt x vx:=by
 cases x<;>simp only [cOpt] at h
 ·simp at h;subst h;exact .none
 ·obtain ⟨c,hc,rfl⟩:=Option.map_eq_some_iff.1 h
  exact .some (cArg_ok hc)
def cArgs:List Operand→Option (List VArg)
 |[]=>some []
 |x::xs=>match cArg x,cArgs xs with|some v,some vs=>some (v::vs)|_,_=>none
theorem cArgs_ok:∀ {xs:List Operand} {vs:List VArg},cArgs xs=some vs→CArgs xs vs
 |[],vs,h=>by simp [cArgs] at h;subst h;exact .nil
 |x::xs,vs,h=>by
  simp only [cArgs] at h
  split at h
  ·rename_i v vs' h1 h2;simp at h;subst h;exact .cons (cArg_ok h1) (cArgs_ok h2)
  ·cases h
def cParts1:List (Nat×Operand)→Option (List (Nat×VArg))
 |[]=>some []
 |(i,x)::xs=>match cArg x,cParts1 xs with|some v,some vs=>some ((i,v)::vs)|_,_=>none
theorem cParts1_ok:∀ {xs:List (Nat×Operand)} {vs:List (Nat×VArg)},cParts1 xs=some vs→CParts1 xs vs
 |[],vs,h=>by simp [cParts1] at h;subst h;exact .nil
 |(i,x)::xs,vs,h=>by
  simp only [cParts1] at h
  split at h
  ·rename_i v vs' h1 h2;simp at h;subst h;exact .cons (cArg_ok h1) (cParts1_ok h2)
  ·cases h
def cParts (place:Nat→Option (Nat×Nat)):List (Nat×Operand)→Option (List (Nat×Nat×VArg))
 |[]=>some []
 |(i,x)::xs=>match place i,cArg x,cParts place xs with|some (o,n),some v,some vs=>some ((o,n,v)::vs)|_,_,_=>none
theorem cParts_ok {place:Nat→Option (Nat×Nat)}:∀ {xs:List (Nat×Operand)} {vs:List (Nat×Nat×VArg)},cParts place xs=some vs→CParts place xs vs
 |[],vs,h=>by simp [cParts] at h;subst h;exact .nil
 |(i,x)::xs,vs,h=>by
  simp only [cParts] at h
  split at h
  ·rename_i o n v vs' h0 h1 h2;simp at h;subst h;exact .cons h0 (cArg_ok h1) (cParts_ok h2)
  ·cases h
def places (P:Program) (t:TypeId):Option (Nat→Option (Nat×Nat)):=
 match P.underlying t with
 |some (.struct fields)=>match fields.toList.mapM (fun f=>(P.info? f.type).map fun i=>(f.offset,i.size)) with
  |some l=>some fun i=>l[i]?
  |none=>none
 |some (.array _ e)=>match P.info? e with
  |some ie=>some fun i=>some (i*ie.size,ie.size)
  |none=>none
 |_=>none
theorem places_ok {P:Program} {t:TypeId} {place:Nat→Option (Nat×Nat)} {it:TypeInfo} {z:Value} (h:places P t=some place) (hi:P.info? t=some it) (hz:it.zero=some z) (parts:List (Nat×Value)) :
  P.built t parts=Instr.fill place z.cells parts:=by
 unfold places at h
 split at h
 ·rename_i fields hu
  split at h
  ·rename_i l hl
   simp at h;subst h
   simp only [Program.built,hi,hu,hz,hl,List.getElem?_toArray]
  ·cases h
 ·rename_i n e hu
  split at h
  ·rename_i ie hie
   simp at h;subst h
   simp only [Program.built,hi,hu,hz,hie]
  ·cases h
 ·cases h
def oneOk (d:TypeDesc) (i:TypeInfo):Bool:=aggD d||i.size==1
theorem oneOk_ok {d:TypeDesc} {i:TypeInfo} (h:oneOk d i=true):aggD d=false→i.size=1:=by
 intro ha;simpa [oneOk,ha] using h
def elemOf (P:Program) (t:TypeId):Option (TypeId×TypeInfo×Value):=
 match P.underlying t with
 |some (.slice e)=>match P.info? e with
  |some i=>match i.zero with
   |some z=>if z.cells.size=i.size∧0<i.size∧i.bytes≤32768∧z.cells.all sc=true then some (e,i,z) else none
   |none=>none
  |none=>none
 |_=>none
theorem elemOf_ok {P:Program} {t e:TypeId} {i:TypeInfo} {z:Value} (h:elemOf P t=some (e,i,z)) :
  P.underlying t=some (.slice e)∧P.info? e=some i∧i.zero=some z∧z.cells.size=i.size∧0<i.size∧i.bytes≤32768∧z.cells.all sc=true:=by
 unfold elemOf at h
 split at h
 ·rename_i e' hu
  split at h
  ·rename_i i' hi
   split at h
   ·rename_i z' hz
    split at h
    ·rename_i hc
     simp at h;obtain ⟨rfl,rfl,rfl⟩:=h
     exact ⟨hu,hi,hz,hc⟩
    ·cases h
   ·cases h
  ·cases h
 ·cases h
def isBoolT (P:Program) (t:TypeId):Bool:=match P.underlying t with|some .bool=>true|_=>false
theorem isBoolT_ok {P:Program} {t:TypeId} (h:isBoolT P t=true):P.underlying t=some .bool:=by
 unfold isBoolT at h;split at h
 ·assumption
 ·cases h
def cEqS (P:Program) (neg:Bool) (t:TypeId) (x y:VArg) (e:VOp):VOp:=
 match P.underlying t with
 |some dd=>if aggD dd then
   match flatT P 100 t with
   |some ks=>if P.eqGuardType P.depth t=false then .eqs neg ks x y else e
   |none=>e
  else e
 |none=>e
def cBin (P:Program) (op:BinOp) (t:TypeId) (x y:VArg):VOp:=
 if isBoolT P t&&op==.eql then .eqb false x y
 else if isBoolT P t&&op==.neq then .eqb true x y
 else if op==.eql then cEqS P false t x y (.bin op x y)
 else if op==.neq then cEqS P true t x y (.bin op x y)
 else .bin op x y
def cNil (P:Program) (op:BinOp) (t:TypeId) (x:VArg) (y:Operand):Option VOp:=
 match y,P.underlying t with
 |.const (.slice none 0 0),some (.slice _)=>match op with
  |.eql=>some (.nilEq false x)
  |.neq=>some (.nilEq true x)
  |_=>none
 |_,_=>none
def cConv (P:Program) (s t:TypeId) (x:VArg):Option VOp:=
 match P.underlying s,P.underlying t with
 |some _,some (.int k)=>some (.convI k x)
 |some .string,some .string=>some (.strId x)
 |some (.slice e),some .string=>match P.underlying e with|some (.int .u8)=>some (.bytesS x)|_=>none
 |_,_=>none
def cBytes (P:Program) (s t:TypeId) (x:VArg):Option VOp:=
 match P.underlying s,P.underlying t with
 |some .string,some (.slice e)=>match P.underlying e with|some (.int .u8)=>some (.sBytes x)|_=>none
 |_,_=>none
def cCall (P:Program) (c:Call):Option VOp:=
 match c.callee,c.args.toList,c.argTypes.toList with
 |.builtin .len,[x],[t]=>match P.underlying t with
  |some (.slice _)=>(cArg x).map .len
  |some .string=>(cArg x).map .lenS
  |some (.array n _)=>some (.lenC n)
  |_=>none
 |.builtin .append,[x,y],[t,u]=>if t=u then match elemOf P t,cArg x,cArg y with
  |some (_,i,_),some vx,some vy=>some (.app i.size vx vy false)
  |_,_,_=>none else none
 |.builtin .min,[x,y],_=>match cArg x,cArg y with|some vx,some vy=>some (.mm false vx vy)|_,_=>none
 |.builtin .max,[x,y],_=>match cArg x,cArg y with|some vx,some vy=>some (.mm true vx vy)|_,_=>none
 |.value (.func f),args,_=>match P.funcs[f]?,cArgs args with
  | some fn, some vs => if fn.body.isNone = false ∧ (fn.name == "runtime.NumGoroutine") = false then some (.call f vs) else none
  |_,_=>none
 |.value x,args,_=>match cArg x,cArgs args with|some vx,some vs=>some (.callv vx vs)|_,_=>none
 |_,_,_=>none
def cMk (P:Program) (t:TypeId) (x y:Operand):Option VOp:=match x,y with
 |.const (.int .i64 (.ofNat n)),.const (.int .i64 (.ofNat m))=>match elemOf P t with
  |some (_,i,z)=>if n=m∧n≤1024∧n*i.size≤16777216 then some (.buildSl n i.size (z.cells.toList.map ofCell) [] false) else none
  |none=>none
 |x,y=>match elemOf P t,cArg x,cArg y with
  |some (_,_,z),some vx,some vy=>some (.mkSl (z.cells.toList.map ofCell) vx vy false)
  |_,_,_=>none
def cOp (P:Program):Op→Option VOp
 |.move x|.assign x=>(cArg x).map .mov
 |.pick c a b=>match cArg c,cArg a,cArg b with|some vc,some va,some vb=>some (.pick vc va vb)|_,_,_=>none
 |.alloc e=>match P.info? e with
  |some i=>match i.zero with
   |some z=>if z.cells.all sc=true then some (.box (z.cells.toList.map ofCell)) else none
   |none=>none
  |none=>none
 |.box e x=>(cArg x).map (.boxv (P.cellsOf e))
 |.build t ps=>match P.info? t,places P t with
  |some it,some place=>match it.zero,cParts place ps.toList with
   |some z,some vps=>if z.cells.all sc=true then some (.build (z.cells.toList.map ofCell) vps) else none
   |_,_=>none
  |_,_=>none
 |.buildSlice t len ps=>match elemOf P t,cParts1 ps.toList with
  |some (_,i,z),some vps=>if len*i.size≤16777216 then some (.buildSl len i.size (z.cells.toList.map ofCell) vps false) else none
  |_,_=>none
 |.makeSlice t x y=>cMk P t x y
 |.load t x=>match P.underlying t,P.info? t,cArg x with
  |some d,some i,some vx=>if oneOk d i then some (.load vx i.size (aggD d)) else none
  |_,_,_=>none
 |.store t a x=>match P.info? t,cArg a,cArg x with|some i,some va,some vx=>some (.store va vx i.size)|_,_,_=>none
 |.nilCheck x=>(cArg x).map .nilChk
 |.binOp op t x y _=>match cArg x,cArg y with
  |some vx,some vy=>match cNil P op t vx y with
   |some vo=>some vo
   |none=>some (cBin P op t vx vy)
  |_,_=>none
 |.unOp op _ x=>(cArg x).map (.un op)
 |.convert s t x=>match cArg x with|some vx=>(match cBytes P s t vx with|some vo=>some vo|none=>cConv P s t vx)|none=>none
 |.makeFunc (.func f) first caps=>if first=#[] then (cArgs caps.toList).map (.mkfn f) else none
 |.slice t x lo (some ho) (some mo)=>match cArg x,cOpt lo,cArg ho,cArg mo with
  |some vx,some vlo,some vh,some vm=>match P.underlying t with
   |some (.slice e)=>match P.info? e with|some i=>some (.slice3 i.size vx vlo vh vm)|none=>none
   |_=>none
  |_,_,_,_=>none
 |.slice t x lo hi none=>match cArg x,cOpt lo,cOpt hi with
  |some vx,some vlo,some vhi=>match P.underlying t with
   |some .string=>some (.sliceS vx vlo vhi)
   |some (.slice e)=>match P.info? e with|some i=>some (.slice i.size vx vlo vhi)|none=>none
   |_=>none
  |_,_,_=>none
 |.fieldAddr t x k=>match cArg x,P.underlying t with
  |some vx,some (.struct fs)=>match fs[k]? with
   |some f=>match P.info? f.type with|some i=>if i.size≠0 then some (.fieldA vx f.offset) else none|none=>none
   |none=>none
  |_,_=>none
 |.field t x k=>match cArg x,P.underlying t with
  |some vx,some (.struct fs)=>match fs[k]? with
   |some f=>match P.underlying f.type,P.info? f.type with|some d,some i=>if oneOk d i then some (.field vx f.offset i.size (aggD d)) else none|_,_=>none
   |none=>none
  |_,_=>none
 |.indexAddr t x y=>match cArg x,cArg y with
  |some vx,some vy=>match P.underlying t with
   |some (.slice e)=>match P.info? e with|some i=>some (.idxA i.size vx vy)|none=>none
   |some (.array n e)=>match P.info? e with|some i=>some (.idxAA n i.size vx vy)|none=>none
   |_=>none
  |_,_=>none
 |.index t x y=>match cArg x,cArg y with
  |some vx,some vy=>match P.underlying t with
   |some .string=>some (.idxS vx vy)
   |some (.array n e)=>match P.underlying e,P.info? e with|some d,some i=>if oneOk d i then some (.idx n i.size (aggD d) vx vy) else none|_,_=>none
   |_=>none
  |_,_=>none
 |.extract x i=>(cArg x).map (.ext · i)
 |.call c=>cCall P c
 |_=>none
section
variable {P:Program}
theorem map1 {α β:Type} {x:Option α} {f:α→β} {y:β} (h:x.map f=some y):∃ a,x=some a∧f a=y:=Option.map_eq_some_iff.1 h
theorem cEqS_ok {neg:Bool} {op:BinOp} {t t':TypeId} {x y:Operand} {vx vy:VArg} {e:VOp} (hx:CArg x vx) (hy:CArg y vy) (hop:op=if neg then .neq else .eql) (he:Cop P (.binOp op t x y t') e) :
  Cop P (.binOp op t x y t') (cEqS P neg t vx vy e):=by
 unfold cEqS
 split
 ·rename_i dd hu
  split
  ·rename_i ha
   split
   ·rename_i ks hf
    split
    ·rename_i hg;exact .eqs hf hu ha hg hx hy hop
    ·exact he
   ·exact he
  ·exact he
 ·exact he
theorem cBin_ok {op:BinOp} {t t':TypeId} {x y:Operand} {vx vy:VArg} (hx:CArg x vx) (hy:CArg y vy):Cop P (.binOp op t x y t') (cBin P op t vx vy):=by
 unfold cBin
 split
 ·rename_i h
  simp only [Bool.and_eq_true,beq_iff_eq] at h
  obtain ⟨h1,rfl⟩:=h
  exact Cop.eqb (neg:=false) (isBoolT_ok h1) hx hy
 ·split
  ·rename_i h
   simp only [Bool.and_eq_true,beq_iff_eq] at h
   obtain ⟨h1,rfl⟩:=h
   exact Cop.eqb (neg:=true) (isBoolT_ok h1) hx hy
  ·split
   ·rename_i h;obtain rfl:op=.eql:=by simpa using h
    exact cEqS_ok hx hy (neg:=false) rfl (.bin hx hy)
   ·split
    ·rename_i h;obtain rfl:op=.neq:=by simpa using h
     exact cEqS_ok hx hy (neg:=true) rfl (.bin hx hy)
    ·exact .bin hx hy
theorem cNil_ok {op:BinOp} {t t':TypeId} {x y:Operand} {vx:VArg} {vo:VOp} (hx:CArg x vx) (h:cNil P op t vx y=some vo):Cop P (.binOp op t x y t') vo:=by
 unfold cNil at h
 split at h
 ·rename_i e hu
  split at h
  ·simp at h;subst h;exact .nilEq (neg:=false) hx hu rfl
  ·simp at h;subst h;exact .nilEq (neg:=true) hx hu rfl
  ·cases h
 ·cases h
theorem cBytes_ok {s t:TypeId} {x:Operand} {vx:VArg} {vo:VOp} (hx:CArg x vx) (h:cBytes P s t vx=some vo):Ceff P (.convert s t x) vo:=by
 unfold cBytes at h
 split at h
 ·rename_i e hs ht
  split at h
  ·rename_i he;simp at h;subst h;exact .sBytes hx hs ht he
  ·cases h
 ·cases h
theorem cConv_ok {s t:TypeId} {x:Operand} {vx:VArg} {vo:VOp} (hx:CArg x vx) (h:cConv P s t vx=some vo):Cop P (.convert s t x) vo:=by
 unfold cConv at h
 split at h
 ·rename_i d k hs ht;simp at h;subst h;exact .convI hx hs ht
 ·rename_i hs ht;simp at h;subst h;exact .convS hx hs ht
 ·rename_i e hs ht
  split at h
  ·rename_i he;simp at h;subst h;exact .bytesS hx hs he ht
  ·cases h
 ·cases h
theorem arr1 {α:Type} {a:Array α} {x:α} (h:a.toList=[x]):a=#[x]:=by
 apply Array.ext';simpa using h
theorem arr2 {α:Type} {a:Array α} {x y:α} (h:a.toList=[x,y]):a=#[x,y]:=by
 apply Array.ext';simpa using h
theorem cCall_ok {c:Call} {vo:VOp} (h:cCall P c=some vo):Cstep P (.call c) vo:=by
 obtain ⟨callee,args,tys⟩:=c
 unfold cCall at h
 simp only at h
 split at h
 ·rename_i x t ha ht
  rw [arr1 ha,arr1 ht]
  split at h
  ·rename_i e hu;obtain ⟨v,hv,rfl⟩:=map1 h;exact .pure (.lenS hu (cArg_ok hv))
  ·rename_i hu;obtain ⟨v,hv,rfl⟩:=map1 h;exact .pure (.lenT hu (cArg_ok hv))
  ·rename_i n e hu;simp at h;subst h;exact .pure (.lenA hu)
  ·cases h
 ·rename_i x y t u ha ht
  split at h
  case isFalse=>cases h
  rename_i htu
  subst htu
  rw [arr2 ha,arr2 ht]
  split at h
  ·rename_i e i z vx vy he hx hy
   simp at h;subst h
   obtain ⟨h1,h2,h3,h4,h5,h6,h7⟩:=elemOf_ok he
   exact .eff (.app h1 h2 h3 h4 h5 h6 (cArg_ok hx) (cArg_ok hy))
  ·cases h
 ·rename_i x y ha
  rw [arr2 ha]
  split at h
  ·rename_i vx vy hx hy;simp at h;subst h;exact .pure (Cop.mm (mx:=false) (cArg_ok hx) (cArg_ok hy))
  ·cases h
 ·rename_i x y ha
  rw [arr2 ha]
  split at h
  ·rename_i vx vy hx hy;simp at h;subst h;exact .pure (Cop.mm (mx:=true) (cArg_ok hx) (cArg_ok hy))
  ·cases h
 ·split at h
  ·rename_i fn vs hf hvs
   split at h
   ·rename_i hc;simp at h;subst h;exact .eff (.call hf hc.1 hc.2 (cArgs_ok (by assumption)))
   ·cases h
  ·cases h
 ·split at h
  ·rename_i vx vs hx hvs;simp at h;subst h;exact .eff (.callv (cArg_ok hx) (cArgs_ok (by assumption)))
  ·cases h
 ·cases h
theorem cOp_ok {o:Op} {vo:VOp} (h:cOp P o=some vo):Cstep P o vo:=by
 cases o<;>simp only [cOp] at h
 case move x=>obtain ⟨v,hv,rfl⟩:=map1 h;exact .pure (.move (cArg_ok hv))
 case assign x=>obtain ⟨v,hv,rfl⟩:=map1 h;exact .pure (.assign (cArg_ok hv))
 case pick c a b=>
  split at h
  ·rename_i hc ha hb;simp at h;subst h;exact .pure (.pick (cArg_ok hc) (cArg_ok ha) (cArg_ok hb))
  ·cases h
 case alloc e=>
  split at h
  ·rename_i i hi
   split at h
   ·rename_i z hz
    split at h
    ·rename_i hc;simp at h;subst h;exact .eff (.alloc hi hz (ofCells_rel hc))
    ·cases h
   ·cases h
  ·cases h
 case box e x=>obtain ⟨v,hv,rfl⟩:=map1 h;exact .eff (.box (cArg_ok hv))
 case build t ps=>
  split at h
  ·rename_i it place hi hp
   split at h
   ·rename_i z vps hz hvps
    split at h
    ·rename_i hc;simp at h;subst h;exact .pure (.build (ofCells_rel hc) (cParts_ok hvps) (places_ok hp hi hz))
    ·cases h
   ·cases h
  ·cases h
 case buildSlice t len ps=>
  split at h
  ·rename_i e i z vps he hvps
   split at h
   ·rename_i hc
    simp at h;subst h
    obtain ⟨h1,h2,h3,h4,h5,h6,h7⟩:=elemOf_ok he
    exact .eff (.buildSl h1 h2 h3 h4 h5 (ofCells_rel h7) hc (cParts1_ok hvps))
   ·cases h
  ·cases h
 case makeSlice t x y=>
  unfold cMk at h
  split at h
  ·rename_i n m
   split at h
   ·rename_i e i z he
    split at h
    ·rename_i hc
     obtain ⟨rfl,hn,hl⟩:=hc
     simp at h;subst h
     obtain ⟨h1,h2,h3,h4,h5,h6,h7⟩:=elemOf_ok he
     exact .eff (.mkC h1 h2 h3 h4 h5 h6 (ofCells_rel h7) hn hl)
    ·cases h
   ·cases h
  ·split at h
   ·rename_i e i z vx vy he hx hy
    simp at h;subst h
    obtain ⟨h1,h2,h3,h4,h5,h6,h7⟩:=elemOf_ok he
    exact .eff (.mk h1 h2 h3 h4 h5 h6 (ofCells_rel h7) (cArg_ok hx) (cArg_ok hy))
   ·cases h
 case load t x=>
  split at h
  ·rename_i d i vx hd hi hx
   split at h
   ·rename_i hc;simp at h;subst h;exact .pure (.load (cArg_ok hx) hd hi (oneOk_ok hc))
   ·cases h
  ·cases h
 case store t a x=>
  split at h
  ·rename_i i va vx hi ha hx;simp at h;subst h;exact .eff (.store hi (cArg_ok ha) (cArg_ok hx))
  ·cases h
 case nilCheck x=>obtain ⟨v,hv,rfl⟩:=map1 h;exact .pure (.nilCheck (cArg_ok hv))
 case binOp op t x y t'=>
  split at h
  ·rename_i vx vy hx hy
   split at h
   ·rename_i vo' hn;simp at h;subst h;exact .pure (cNil_ok (cArg_ok hx) hn)
   ·simp at h;subst h;exact .pure (cBin_ok (cArg_ok hx) (cArg_ok hy))
  ·cases h
 case unOp op t x=>obtain ⟨v,hv,rfl⟩:=map1 h;exact .pure (.un (cArg_ok hv))
 case convert s t x=>
  split at h
  ·rename_i vx hx
   split at h
   ·rename_i vo' hb;simp only [Option.some.injEq] at h;subst h;exact .eff (cBytes_ok (cArg_ok hx) hb)
   ·exact .pure (cConv_ok (cArg_ok hx) h)
  ·cases h
 case makeFunc fn first caps=>
  cases fn<;>simp only at h<;>try (cases h;done)
  split at h
  ·rename_i hf
   subst hf
   obtain ⟨v,hv,rfl⟩:=map1 h
   exact .pure (.mkfn (cArgs_ok hv))
  ·cases h
 case slice t x lo hi mx=>
  cases mx with
  |some mo=>
   cases hi with
   |none=>cases h
   |some ho=>
    simp only at h
    split at h
    ·rename_i vx vlo vh vm hx hlo hhi hmx
     split at h
     ·rename_i e hu
      split at h
      ·rename_i i hi;simp at h;subst h;exact .pure (.slice3 hu hi (cArg_ok hx) (cOpt_ok hlo) (cArg_ok hhi) (cArg_ok hmx))
      ·cases h
     ·cases h
    ·cases h
  |none=>
  simp only at h
  split at h
  ·rename_i vx vlo vhi hx hlo hhi
   split at h
   ·rename_i hu;simp at h;subst h;exact .pure (.sliceS hu (cArg_ok hx) (cOpt_ok hlo) (cOpt_ok hhi))
   ·rename_i e hu
    split at h
    ·rename_i i hi;simp at h;subst h;exact .pure (.slice hu hi (cArg_ok hx) (cOpt_ok hlo) (cOpt_ok hhi))
    ·cases h
   ·cases h
  ·cases h
 case fieldAddr t x k=>
  split at h
  ·rename_i vx fs hx hu
   split at h
   ·rename_i f hf
    split at h
    ·rename_i i hi
     split at h
     ·rename_i h0;simp at h;subst h;exact .pure (.fieldA (cArg_ok hx) hu hf hi h0)
     ·cases h
    ·cases h
   ·cases h
  ·cases h
 case field t x k=>
  split at h
  ·rename_i vx fs hx hu
   split at h
   ·rename_i f hf
    split at h
    ·rename_i d i hd hi
     split at h
     ·rename_i h0;simp at h;subst h;exact .pure (.field (cArg_ok hx) hu hf hd hi (oneOk_ok h0))
     ·cases h
    ·cases h
   ·cases h
  ·cases h
 case indexAddr t x y=>
  split at h
  ·rename_i vx vy hx hy
   split at h
   ·rename_i e hu
    split at h
    ·rename_i i hi;simp at h;subst h;exact .pure (.idxA hu hi (cArg_ok hx) (cArg_ok hy))
    ·cases h
   ·rename_i n e hu
    split at h
    ·rename_i i hi;simp at h;subst h;exact .pure (.idxAA hu hi (cArg_ok hx) (cArg_ok hy))
    ·cases h
   ·cases h
  ·cases h
 case index t x y=>
  split at h
  ·rename_i vx vy hx hy
   split at h
   ·rename_i hu;simp at h;subst h;exact .pure (.idxS hu (cArg_ok hx) (cArg_ok hy))
   ·rename_i n e hu
    split at h
    ·rename_i d i hd hi
     split at h
     ·rename_i h0;simp at h;subst h;exact .pure (.idx hu hd hi (oneOk_ok h0) (cArg_ok hx) (cArg_ok hy))
     ·cases h
    ·cases h
   ·cases h
  ·cases h
 case extract x i=>obtain ⟨v,hv,rfl⟩:=map1 h;exact .pure (.ext (cArg_ok hv))
 case call c=>exact cCall_ok h
 all_goals cases h
end
end Go.VM
namespace Go.VM
def cGuard (ops:Array Oper):Option (Nat×Bool)→Option (Option (Nat×Bool))
 |none=>some none
 |some (j,want)=>match (ops[j]?).bind (·.dst) with|some t=>some (some (t,want))|none=>none
def markMt (mts:List Nat) (d:Option Nat):VOp→VOp
 |.app sz x y false=>match d with
  |some k=>if mts.contains k then .app sz x y true else .app sz x y false
  |none=>.app sz x y false
 |.mov x=>match d with
  |some k=>if mts.contains k then .frz x none else .mov x
  |none=>.mov x
 |.load x n ag=>match d with
  |some k=>if mts.contains k then .frz x (some (n,ag)) else .load x n ag
  |none=>.load x n ag
 |.buildSl n sz z ps false=>match d with
  |some k=>if mts.contains k then .buildSl n sz z ps true else .buildSl n sz z ps false
  |none=>.buildSl n sz z ps false
 |.call f xs=>match d with
  |some k=>if mts.contains k then .inl f xs else .call f xs
  |none=>.call f xs
 |vo=>vo
theorem markMt_ok {P:Program} {mts:List Nat} {d:Option Nat} {op:Op} {vo:VOp} (h:Cstep P op vo):Cstep P op (markMt mts d vo):=by
 unfold markMt
 split
 ·split
  ·split
   ·cases h with
    |pure h=>cases h
    |eff h=>
     cases h with
     |app hu hi hz hzs hpos hby hx hy=>exact .eff (.appM hu hi hz hzs hpos hby hx hy)
   ·exact h
  ·exact h
 ·split
  ·split
   ·cases h with
    |pure h=>exact .eff (.frz (ld:=none) h)
    |eff h=>cases h
   ·exact h
  ·exact h
 ·rename_i x n ag
  split
  ·split
   ·cases h with
    |pure h=>exact .eff (.frz (ld:=some (n,ag)) h)
    |eff h=>cases h
   ·exact h
  ·exact h
 ·split
  ·split
   ·cases h with
    |pure h=>cases h
    |eff h=>
     cases h with
     |buildSl hu hi hz hzs hpos hz0 hlen hp=>exact .eff (.buildSlM hu hi hz hzs hpos hz0 hlen hp)
     |mkC hu hi hz hzs hpos hby hz0 hn hlen=>exact .eff (.mkC hu hi hz hzs hpos hby hz0 hn hlen)
   ·exact h
  ·exact h
 ·split
  ·split
   ·cases h with
    |pure h=>cases h
    |eff h=>
     cases h with
     |call hf hb hn ha=>exact .eff (.inl hf hb hn ha)
   ·exact h
  ·exact h
 ·exact h
def cOper (P:Program) (mts:List Nat) (ops:Array Oper) (o:Oper):Option VOper:=
 match cOp P o.op,cGuard ops o.guard with
 |some vo,some g=>some { dst:=o.dst,op:=markMt mts o.dst vo,guard:=g }
 |_,_=>none
def cOpers (P:Program) (mts:List Nat) (ops:Array Oper):List Oper→Option (List VOper)
 |[]=>some []
 |o::os=>match cOper P mts ops o,cOpers P mts ops os with|some v,some vs=>some (v::vs)|_,_=>none
def befs:List Oper→List (List Nat)→List (List Nat)
 |[],acc=>acc
 |o::os,acc=>befs os (acc++[((o.after.toList.filter (Region.binds .any)).flatMap fun e=>e.on::acc.getD e.on []).eraseDups])
def allB (n:Nat) (p:Nat→Bool):Bool:=(List.range n).all p
theorem allB_ok {n:Nat} {p:Nat→Bool} (h:allB n p=true) (k:Nat) (hk:k<n):p k=true:=
 List.all_eq_true.1 h k (List.mem_range.2 hk)
def isBox:VOper→Option Nat
 |⟨some d,.box _,none⟩=>some d
 |_=>none
def floatB (vops:List VOper) (bef:List (List Nat)) (j:Nat):Bool:=
 match vops[j]? with
 |some y=>match isBox y with
  |some d=>allB vops.length fun r=>match vops[r]? with
   |some z=>!(decide (j<r)&&(z.looks.contains d||z.dst==some d))||allB j fun i=>match vops[i]? with
    |some x=>!x.op.isE||(bef.getD r []).contains i
    |none=>true
   |none=>true
  |none=>false
 |none=>false
def ordB (ops:Array Oper) (vops:List VOper) (bef:List (List Nat)):Bool:=
 (allB ops.size fun j=>match ops[j]? with
  |some o=>(o.after.all fun e=>!Region.binds .any e||decide (e.on<j)) &&
   (bef.getD j []).all fun i=>o.after.any fun e=>Region.binds .any e&&(e.on==i||(bef.getD e.on []).contains i)
  |none=>true) &&
 allB vops.length fun j=>allB j fun i=>match vops[i]?,vops[j]? with
  |some x,some y=>(!clash x y||(bef.getD j []).contains i)&&(!(x.op.isE&&y.op.isE)||(bef.getD j []).contains i||floatB vops bef j)
  |_,_=>true
def needB (vops:List VOper) (bef:List (List Nat)) (k e:Nat):Bool:=
 (decide (e<k)&&!(bef.getD k []).contains e)||(decide (k<e)&&!(bef.getD e []).contains k)||(decide (e<k)&&!(allB e fun i=>match vops[i]? with
  |some z=>!z.op.isE||(bef.getD k []).contains i
  |none=>true))
def isLoad:VOp→Bool
 |.load _ _ _=>true
 |_=>false
def chks (vops:List VOper) (bef:List (List Nat)):List (Nat×Nat):=
 (List.range vops.length).flatMap fun k=>match vops[k]? with
  |some x=>if isLoad x.op then (List.range vops.length).filterMap fun e=>match vops[e]? with
    |some y=>if y.op.isE&&needB vops bef k e then some (k,e) else none
    |none=>none
   else []
  |none=>[]
def chkB (vops:List VOper) (bef:List (List Nat)) (chk:List (Nat×Nat)):Bool:=
 allB vops.length fun k=>allB vops.length fun e=>match vops[k]?,vops[e]? with
  |some x,some y=>!(isLoad x.op&&y.op.isE&&needB vops bef k e)||chk.contains (k,e)
  |_,_=>true
def wr:VCode→List Nat
 |.reg ops|.draw ops _=>ops.filterMap (·.dst)
 |.seq a b|.cond _ a b=>wr a++wr b
 |.alt dd a b=>dd++(wr a++wr b)
 |.block _ b|.loop _ b=>wr b
 |.gfrz k=>[k]
 |_=>[]
def exOps:List VOper→List Nat→List Nat→List Nat×List Nat
 |[],d,e=>(d,e)
 |o::os,d,e=>exOps os (match o.dst with|some t=>t::d|none=>d) (((o.op.reads++(match o.guard with|some (t,_)=>[t]|none=>[])).filter fun t=>!d.contains t)++e)
def exC:VCode→List Nat→List Nat→List Nat×List Nat
 |.reg ops,d,e|.draw ops _,d,e=>exOps ops d e
 |.seq a b,d,e=>let (d1,e1):=exC a d e;exC b d1 e1
 |.cond c a b,d,e=>let e:=(c.tmp.filter fun t=>!d.contains t)++e;let (d1,e1):=exC a d e;let (d2,e2):=exC b d e1;(d1.filter d2.contains,e2)
 |.block _ b,d,e=>(d,(exC b d e).2)
 |.loop _ b,d,e=>(d,(exC b d e).2)
 |.gfrz k,d,e=>(d,(if d.contains k then [] else [k])++e)
 |.alt _ a b,d,e=>let (d1,e1):=exC a d e;let (d2,e2):=exC b d e1;(d1.filter d2.contains,e2)
 |_,d,e=>(d,e)
def keepOf (n:Nat) (b:VCode):List Bool:=
 let w:=wr b
 let e:=(exC b [] []).2
 (List.range n).map fun t=>!w.contains t||e.contains t
def ghosts (mts:List Nat) (id:Nat):List Nat:=mts.filterMap fun m=>if 1000000≤m∧(m-1000000) / 1000=id then some ((m-1000000)%1000) else none
def wrapG:List Nat→VCode→VCode
 |[],c=>c
 |k::ks,c=>.seq (.gfrz k) (wrapG ks c)
def firstBad (vops:List VOper) (bef:List (List Nat)):Option (Nat×Nat):=
 ((List.range vops.length).flatMap fun j=>(List.range j).filterMap fun i=>match vops[i]?,vops[j]? with
  |some x,some y=>if x.op.isE&&y.op.isE&&!(bef.getD j []).contains i&&!floatB vops bef j then some (i,j) else none
  |_,_=>none).head?
def topoL (ops:Array Oper) (p q:Nat):Nat→List Nat→List Nat
 |0,acc=>acc
 |n+1,acc=>match ((List.range ops.size).filter fun i=>!acc.contains i&&(match ops[i]? with
   |some o=>o.after.all fun e=>!Region.binds .any e||acc.contains e.on
   |none=>false)&&(!(i==p)||acc.contains q)).head? with
  |some i=>topoL ops p q n (acc++[i])
  |none=>acc
def compD (P:Program) (mts:List Nat) (id:Nat):Nat→Array Oper→Option VCode
 |fuel,ops=>match cOpers P mts ops ops.toList with
  |some vops=>
   let bef:=befs ops.toList []
   let chk:=chks vops bef
   if ordB ops vops bef&&chkB vops bef chk then some (wrapG (ghosts mts id) (.draw vops chk)) else
    match fuel with
    |0=>none
    |f+1=>match firstBad vops bef with
     |some (p,q)=>
      if (p != q)&&(permB (List.range ops.size) p ops&&permB (topoL ops p q ops.size []) q ops) then
       match compD P mts id f (permO (List.range ops.size) p q ops),compD P mts id f (permO (topoL ops p q ops.size []) q p ops) with
       |some a,some b=>some (.alt [] a b)
       |_,_=>none
      else none
     |none=>none
  |none=>none
def comp (P:Program) (mts:List Nat) (n:Nat):Code→Option VCode
 |.skip=>some .skip
 |.region id ops draw=>if draw then compD P mts id 4 ops else match cOpers P mts ops ops.toList with
  |some vops=>some (wrapG (ghosts mts id) (.reg vops))
  |none=>none
 |.seq a b=>match comp P mts n a,comp P mts n b with|some va,some vb=>some (.seq va vb)|_,_=>none
 |.cond c a b=>match cArg c,comp P mts n a,comp P mts n b with|some vc,some va,some vb=>some (.cond vc va vb)|_,_,_=>none
 |.block id b=>match comp P mts n b with|some vb=>some (.block id vb)|none=>none
 |.loop b=>match comp P mts n b with|some vb=>some (.loop (keepOf n vb) vb)|none=>none
 |.exit id=>some (.exit id)
 |.ret=>some .ret
 |_=>none
def cRes (P:Program):List ResultVar→Option (List VRes)
 |[]=>some []
 |.tmp t::rs=>match cRes P rs with|some vs=>some (.tmp t::vs)|none=>none
 |.cell a t::rs=>match P.underlying t,P.info? t,cRes P rs with
  |some d,some i,some vs=>if oneOk d i then some (.cell a i.size (aggD d)::vs) else none
  |_,_,_=>none
def compFn (P:Program) (mts:List Nat) (f:FuncId) (keep:Bool):Option VFunc:=
 match P.funcs[f]? with
 |some fn=>match fn.body with
  |some code=>match comp P mts fn.ntmps code,cRes P fn.results.toList with
   | some vc, some rs => if (fn.name == "runtime.NumGoroutine") = false then some { ntmps := fn.ntmps, body := vc, res := rs, keep := keep } else none
   |_,_=>none
  |none=>none
 |none=>none
section
variable {P:Program}
theorem cGuard_ok {ops:Array Oper} {g:Option (Nat×Bool)} {v:Option (Nat×Bool)} (h:cGuard ops g=some v):CGuard ops g v:=by
 unfold cGuard at h
 split at h
 ·simp at h;subst h;exact .none
 ·split at h
  ·rename_i t ht;simp at h;subst h;exact .some ht
  ·cases h
theorem cOper_ok {mts:List Nat} {ops:Array Oper} {o:Oper} {v:VOper} (h:cOper P mts ops o=some v):COper P ops o v:=by
 unfold cOper at h
 split at h
 ·rename_i vo g h1 h2;simp at h;subst h;exact ⟨rfl,markMt_ok (cOp_ok h1),cGuard_ok h2⟩
 ·cases h
theorem cOpers_ok {mts:List Nat} {ops:Array Oper}:∀ {os:List Oper} {vs:List VOper},cOpers P mts ops os=some vs→COpers P ops os vs
 |[],vs,h=>by simp [cOpers] at h;subst h;exact .nil
 |o::os,vs,h=>by
  simp only [cOpers] at h
  split at h
  ·rename_i v vs' h1 h2;simp at h;subst h;exact .cons (cOper_ok h1) (cOpers_ok h2)
  ·cases h
theorem COpers.all {ops:Array Oper}:∀ {os:List Oper} {vs:List VOper},COpers P ops os vs→os.length=vs.length∧∀ (k:Nat) o vo,os[k]?=some o→vs[k]?=some vo→COper P ops o vo
 |_,_,.nil=>⟨rfl,by simp⟩
 |_,_,.cons h hs=>by
  obtain ⟨h1,h2⟩:=COpers.all hs
  refine ⟨by simp [h1],fun k o vo ho hv=>?_⟩
  match k with
  |0=>simp at ho hv;subst ho;subst hv;exact h
  |k+1=>exact h2 k o vo (by simpa using ho) (by simpa using hv)
theorem isBox_some {y:VOper} {d:Nat} (h:isBox y=some d):∃ cells,y=⟨some d,.box cells,none⟩:=by
 unfold isBox at h
 split at h
 ·simp only [Option.some.injEq] at h;subst h;exact ⟨_,rfl⟩
 ·cases h
theorem floatB_ok {vops:List VOper} {bef:List (List Nat)} {j:Nat} {y:VOper} (hy:vops[j]?=some y) (h:floatB vops bef j=true):Floats vops (fun j=>bef.getD j []) j y:=by
 unfold floatB at h
 simp only [hy] at h
 split at h
 case h_2=>cases h
 rename_i d hd
 obtain ⟨cells,rfl⟩:=isBox_some hd
 refine ⟨d,cells,rfl,fun r z hz hjr hdz i x hij hx hE=>?_⟩
 have h1:=allB_ok h r (List.getElem?_eq_some_iff.1 hz).1
 simp only [hz,Bool.or_eq_true,Bool.not_eq_true',Bool.and_eq_false_iff,decide_eq_false_iff_not] at h1
 rcases h1 with (h1|h1)|h1
 ·exact absurd hjr h1
 ·simp only [Bool.or_eq_false_iff] at h1
  rcases hdz with h2|h2
  ·have:=h1.1;simp [h2] at this
  ·have:=h1.2;simp [h2] at this
 ·have h2:=allB_ok h1 i hij
  simp only [hx,hE,Bool.not_true,Bool.false_or] at h2
  simpa using h2
theorem needB_ok {vops:List VOper} {bef:List (List Nat)} {k e:Nat} (h:Need vops (fun j=>bef.getD j []) k e):needB vops bef k e=true:=by
 unfold needB
 simp only [Bool.or_eq_true,Bool.and_eq_true,decide_eq_true_eq,Bool.not_eq_true']
 rcases h with ⟨h1,h2⟩|⟨h1,h2⟩|⟨h1,i,z,h2,h3,h4,h5⟩
 ·exact .inl (.inl ⟨h1,by simpa using h2⟩)
 ·exact .inl (.inr ⟨h1,by simpa using h2⟩)
 ·refine .inr ⟨h1,?_⟩
  cases ha:(allB e fun i=>match vops[i]? with
    |some z=>!z.op.isE||(bef.getD k []).contains i
    |none=>true) with
  |false=>rfl
  |true=>
   have h6:=allB_ok ha i h2
   simp only [h3,h4,Bool.not_true,Bool.false_or] at h6
   exact absurd (by simpa using h6) h5
theorem ordB_ok {ops:Array Oper} {vops:List VOper} {bef:List (List Nat)} (h:ordB ops vops bef=true):Ord ops vops (fun j=>bef.getD j []):=by
 unfold ordB at h
 simp only [Bool.and_eq_true] at h
 obtain ⟨h1,h2⟩:=h
 have pair:∀ i j x y,i<j→vops[i]?=some x→vops[j]?=some y→((!clash x y||(bef.getD j []).contains i)=true)∧(!(x.op.isE&&y.op.isE)||(bef.getD j []).contains i||floatB vops bef j)=true:=fun i j x y hij hx hy=>by
  have:=allB_ok (allB_ok h2 j (List.getElem?_eq_some_iff.1 hy).1) i hij
  simp only [hx,hy,Bool.and_eq_true] at this
  exact this
 refine ⟨fun j o ho e he hb=>?_,fun j o ho i hi=>?_,fun i j x y hij hx hy hc=>?_,fun i j x y hij hx hy hxE hyE=>?_⟩
 ·have:=allB_ok h1 j (Array.getElem?_eq_some_iff.1 ho).1
  simp only [ho,Bool.and_eq_true] at this
  have h3:=(Array.all_eq_true_iff_forall_mem.1 this.1) e he
  simpa [hb] using h3
 ·have:=allB_ok h1 j (Array.getElem?_eq_some_iff.1 ho).1
  simp only [ho,Bool.and_eq_true] at this
  have h3:=List.all_eq_true.1 this.2 i hi
  obtain ⟨e,he,hc⟩:=Array.any_eq_true'.1 h3
  simp only [Bool.and_eq_true,Bool.or_eq_true,beq_iff_eq,List.contains_eq_mem,decide_eq_true_eq] at hc
  exact ⟨e,he,hc.1,hc.2⟩
 ·have:=(pair i j x y hij hx hy).1
  simp only [hc,Bool.not_true,Bool.false_or] at this
  simpa using this
 ·have:=(pair i j x y hij hx hy).2
  simp only [hxE,hyE,Bool.and_self,Bool.not_true,Bool.false_or,Bool.or_eq_true] at this
  rcases this with h3|h3
  ·exact .inl (by simpa using h3)
  ·exact .inr (floatB_ok hy h3)
theorem wrapG_ok {c:Code} {vc:VCode} (h:CCode P c vc):∀ ks,CCode P c (wrapG ks vc)
 |[]=>h
 |_::ks=>.ghost (wrapG_ok h ks)
theorem compD_ok {mts:List Nat} {id:Nat}:∀ {fuel:Nat} {ops:Array Oper} {vc:VCode},compD P mts id fuel ops=some vc→CCode P (.region id ops true) vc
 |fuel,ops,vc,h=>by
  rw [compD] at h
  split at h
  case h_2=>cases h
  rename_i vops hv
  have hops:=cOpers_ok hv
  simp only at h
  split at h
  ·rename_i hc
   simp only [Bool.and_eq_true] at hc
   simp at h;subst h
   obtain ⟨hl,hall⟩:=hops.all
   refine wrapG_ok ?_ _
   refine .draw (bef:=fun j=>(befs ops.toList []).getD j []) ⟨by simpa using hl,fun k o vo ho hvo=>hall k o vo (by simpa using ho) hvo⟩ (ordB_ok hc.1) (fun k e x y hx hy hyE hor hld=>?_)
   have h3:=allB_ok (allB_ok hc.2 k (List.getElem?_eq_some_iff.1 hx).1) e (List.getElem?_eq_some_iff.1 hy).1
   simp only [hx,hy] at h3
   have hil:isLoad x.op=true:=by obtain ⟨a,m,ag,he⟩:=hld;rw [he];rfl
   simp only [hx,hy,hil,hyE,needB_ok hor,Bool.and_self,Bool.not_true,Bool.false_or] at h3
   simpa using h3
  ·split at h
   case h_1=>cases h
   rename_i f hne
   split at h
   case h_2=>cases h
   rename_i p q hb
   split at h
   case isFalse=>cases h
   rename_i hp
   simp only [Bool.and_eq_true,bne_iff_ne,ne_eq] at hp
   split at h
   case h_2=>cases h
   rename_i va vb ha hb
   simp only [Option.some.injEq] at h;subst h
   exact .alt hp.1 (perm_ok hp.2.1) (perm_ok hp.2.2) (compD_ok ha) (compD_ok hb)
theorem comp_ok {mts:List Nat} {n:Nat}:∀ {c:Code} {vc:VCode},comp P mts n c=some vc→CCode P c vc
 |.skip,vc,h=>by simp [comp] at h;subst h;exact .skip
 |.region id ops draw,vc,h=>by
  simp only [comp] at h
  cases draw with
  |false=>
   simp only [Bool.false_eq_true,if_false] at h
   split at h
   case h_2=>cases h
   rename_i vops hv
   simp at h;subst h;exact wrapG_ok (.reg (cOpers_ok hv)) _
  |true=>simp only [if_true] at h;exact compD_ok h
 |.seq a b,vc,h=>by
  simp only [comp] at h
  split at h
  ·rename_i va vb ha hb;simp at h;subst h;exact .seq (comp_ok ha) (comp_ok hb)
  ·cases h
 |.cond c a b,vc,h=>by
  simp only [comp] at h
  split at h
  ·rename_i v va vb hc ha hb;simp at h;subst h;exact .cond (cArg_ok hc) (comp_ok ha) (comp_ok hb)
  ·cases h
 |.block id b,vc,h=>by
  simp only [comp] at h
  split at h
  ·rename_i vb hb;simp at h;subst h;exact .block (comp_ok hb)
  ·cases h
 |.loop b,vc,h=>by
  simp only [comp] at h
  split at h
  ·rename_i vb hb;simp at h;subst h;exact .loop (comp_ok hb)
  ·cases h
 |.exit id,vc,h=>by simp [comp] at h;subst h;exact .exit
 |.ret,vc,h=>by simp [comp] at h;subst h;exact .ret
 |.rangeFunc ..,vc,h=>by simp [comp] at h
 |.scope ..,vc,h=>by simp [comp] at h
 |.label ..,vc,h=>by simp [comp] at h
 |.goto ..,vc,h=>by simp [comp] at h
 |.refuse ..,vc,h=>by simp [comp] at h
theorem cRes_ok:∀ {rs:List ResultVar} {vs:List VRes},cRes P rs=some vs→CRes P rs vs
 |[],vs,h=>by simp [cRes] at h;subst h;exact .nil
 |.tmp t::rs,vs,h=>by
  simp only [cRes] at h
  split at h
  ·rename_i vs' hv;simp at h;subst h;exact .tmp (cRes_ok hv)
  ·cases h
 |.cell a t::rs,vs,h=>by
  simp only [cRes] at h
  split at h
  ·rename_i d i vs' hd hi hv
   split at h
   ·rename_i hc;simp at h;subst h;exact .cell hd hi (oneOk_ok hc) (cRes_ok hv)
   ·cases h
  ·cases h
theorem compFn_ok {mts:List Nat} {f:FuncId} {keep:Bool} {vf:VFunc} (h:compFn P mts f keep=some vf):CFunc P f vf:=by
 unfold compFn at h
 split at h
 case h_2=>cases h
 rename_i fn hfn
 split at h
 case h_2=>cases h
 rename_i code hc
 split at h
 case h_2=>cases h
 rename_i vc rs hvc hrs
 split at h
 case isFalse=>cases h
 rename_i hn
 simp at h;subst h
 exact ⟨fn,code,hfn,hc,hn,rfl,comp_ok hvc,cRes_ok hrs⟩
end
end Go.VM
