/- Drawn gateways on the machine. Conditions: none. -/
import Derived.Test.YtlcbgdnfkmbhkaaGreatVd
import Derived.Test.YtlcbgdnfkmbhkaaGreatRcb
set_option linter.unusedSimpArgs false
namespace Go.Proofs.YtlcbgdnfkmbhkaaGreat
open Go.VM
theorem e29b {l:List Int} (hB:Bytes l) (id k:Nat) {n:Int} (hn:0<n) (hn2:n≤256):∀ bl,CtxOk bl id →
  CV VP 18 [.ptr id 0,.d (I n)] (cx bl id l (k:Nat) [])=some ⟨.d (I (nxV l k n)),cx bl id l (nxA l k:Nat) [],[],0⟩:=by
 intro bl h
 refine CV_run (vf:=vf18) rfl rfl ?_
 rw [vf18_start]
 by_cases hk:k<l.length
 ·have hk2:¬((k:Int)≥(l.length:Int)):=by omega
  have hz:=List.getElem?_eq_getElem hk
  have hzb:=hB.mem _ (List.getElem_mem hk)
  have hv:nxV l k n=l[k]*n / 256:=by rw [nxV,dif_pos hk]
  have ha:nxA l k=k+1:=by rw [nxA,if_pos hk]
  rw [hv,ha]
  generalize l[k]=z at hz hzb
  have hzn:0≤z*n∧z*n≤65280:=⟨Int.mul_nonneg hzb.1 (by omega),by
   calc z*n≤255*256:=Int.mul_le_mul hzb.2 hn2 (by omega) (by decide)
    _=65280:=by decide⟩
  have w1:=w_nat (Nat.lt_trans hk hB.len)
  have w2:IntKind.i64.wrap (((k+1:Nat):Int)-1)=(k:Int):=by rw [w_in (by omega) (by have:=hB.len;omega)];omega
  have w3:IntKind.i64.wrap z=z:=w_in (by omega) (by omega)
  have w4:IntKind.i64.wrap (z*n)=z*n:=w_in (by omega) (by omega)
  have w5:IntKind.i64.wrap ((z*n).tdiv 256)=z*n / 256:=by
   rw [Int.tdiv_eq_ediv_of_nonneg hzn.1,w_in (by omega) (by omega)]
  (repeat (first|refine RX_seq ?_|((first|refine sG rfl ?_|refine RX_draw rfl ?_);try (simp only [go_sem,simprocAttr,frzLoc,rowCells,vAppM,beq_iff_eq,bne_iff_ne,cx_len,cx_app,cx_own0,cx_own,cx_setOwn0,cx_setOwn,cx_take,cx_takeN,Nat.add_right_cancel_iff,Nat.lt_irrefl,cx_nlt,Nat.not_lt_zero,cx_get' h,cx_setId' h,cx_er h,cx_all0 h,cx_all h,CtxOk.lt h,CtxOk.ne0 h,hk2,hk,hz,w1,w2,w3,w4,w5,List.length_map,List.getElem?_map,byteRow,vf18_res,vf18_keep]))))
 ·have hk2:(k:Int)≥(l.length:Int):=by omega
  have hv:nxV l k n=0:=by rw [nxV,dif_neg hk]
  have ha:nxA l k=k:=by rw [nxA,if_neg hk]
  rw [hv,ha]
  (repeat (first|refine RX_seq ?_|((first|refine sG rfl ?_|refine RX_draw rfl ?_);try (simp only [go_sem,simprocAttr,frzLoc,rowCells,vAppM,beq_iff_eq,bne_iff_ne,cx_len,cx_app,cx_own0,cx_own,cx_setOwn0,cx_setOwn,cx_take,cx_takeN,Nat.add_right_cancel_iff,Nat.lt_irrefl,cx_nlt,Nat.not_lt_zero,cx_get' h,cx_setId' h,cx_er h,cx_all0 h,cx_all h,CtxOk.lt h,CtxOk.ne0 h,hk2,hk,List.length_map,vf18_res,vf18_keep]))))
theorem e29 {l:List Int} (hB:Bytes l) {bl:List (List V)} {id k:Nat} {own:List (List V)} {n:Int} (h:CtxOk bl id) (hn:0<n) (hn2:n≤256) (he:own.map V.erL=own) (hl:own.all (V.ltbL (bl.length+own.length))=true) :
  CV VP 18 [.ptr id 0,.d (I n)] (cx bl id l (k:Nat) own)=some ⟨.d (I (nxV l k n)),cx bl id l (nxA l k:Nat) own,[],0⟩:=
 cx_lift (e29b hB id k hn hn2) h he hl
theorem e21 {l:List Int} (n:Nat) (hn:n<1000):CV VP 9 [.d (byteD l),.d (I n)] []=some ⟨.ptr 0 0,[[.sl 1 ((l.take n).map byteRow) (.own 0 0),.d (I 0)]],[0],1⟩:=by
 have hall:(l.map byteRow).all (fun r=>r.length==1)=true:=by
  rw [List.all_eq_true]
  intro r hr
  obtain ⟨z,_,rfl⟩:=List.mem_map.1 hr
  rfl
 have hall2:((l.take n).map byteRow).all (fun r=>r.length==1)=true:=by
  rw [List.all_eq_true]
  intro r hr
  obtain ⟨z,_,rfl⟩:=List.mem_map.1 hr
  rfl
 refine CV_run (vf:=vf9) rfl rfl ?_
 rw [vf9_start]
 have hall3:(List.take n (l.map byteRow)).all (fun r=>r.length==1)=true:=by rw [← List.map_take];exact hall2
 by_cases h:(n:Int)<l.length
 ·have h1:((n:Int)≤(l.length:Int)):=by omega
  have h2:min n l.length≤4294967296:=by omega
  (repeat (first|refine RX_seq ?_|((first|refine sG rfl ?_|refine RX_draw rfl ?_);try (simp only [go_sem,simprocAttr,frzLoc,rowCells,vAppM,beq_iff_eq,bne_iff_ne,vf9_res,vf9_keep,byteD,h,h1,h2,hall,hall3,vSlice,vBounds,List.length_map,List.map_take,List.length_take]))))
 ·have h3:l.take n=l:=List.take_of_length_le (by omega)
  have h2:l.length≤4294967296∨True:=.inr trivial
  have h4:l.length≤4294967296:=by omega
  have h5:List.take l.length (l.map byteRow)=l.map byteRow:=List.take_of_length_le (by simp)
  rw [h3]
  (repeat (first|refine RX_seq ?_|((first|refine sG rfl ?_|refine RX_draw rfl ?_);try (simp only [go_sem,simprocAttr,frzLoc,rowCells,vAppM,beq_iff_eq,bne_iff_ne,vf9_res,vf9_keep,byteD,h,h4,h5,hall,vSlice,vBounds,List.length_map,Int.le_refl]))))
abbrev qT (a:Int):Bool×Bool:=(eqF a a,true)
theorem eqF_self (a:Int):eqF a a=true:=by rw [eqF_eq];simp
theorem okT {a:Int} {l:List (Bool×Bool)} (h:OKs l):OKs (qT a::l):=.cons (eqF_self a) h
def Rows3 (rows:List (List D)):Prop:=rows.length≤4294967296∧rows.all (fun r=>r.length==3)=true
theorem e76 (n:Int):CV VP 73 [.d (I n)] []=some ⟨.agg [.d (I 1),.d (I n),.d (.sl [])],[],[],0⟩:=by
 refine CV_run (vf:=vf73) rfl rfl ?_
 rw [vf73_start]
 (repeat (first|refine RX_seq ?_|((first|refine sG rfl ?_|refine RX_draw rfl ?_);try (simp only [go_sem,simprocAttr,frzLoc,rowCells,vAppM,beq_iff_eq,bne_iff_ne,vf73_res,vf73_keep]))))
theorem e70 (a b:Int):CV VP 35 [.d (I a),.d (I b)] []=some ⟨.agg [.d (I 2),.d (I (w (w (a*1048576)+b))),.d (.sl [])],[],[],0⟩:=by
 refine CV_run (vf:=vf35) rfl rfl ?_
 rw [vf35_start]
 (repeat (first|refine RX_seq ?_|((first|refine sG rfl ?_|refine RX_draw rfl ?_);try (simp only [go_sem,simprocAttr,frzLoc,rowCells,vAppM,beq_iff_eq,bne_iff_ne,vf35_res,vf35_keep]))))
theorem e33 {rows:List (List D)} (h:Rows3 rows):CV VP 80 [.d (.sl rows)] []=some ⟨.agg [.d (I 3),.d (I 0),.d (.sl rows)],[],[],0⟩:=by
 refine CV_run (vf:=vf80) rfl rfl ?_
 rw [vf80_start]
 (repeat (first|refine RX_seq ?_|((first|refine sG rfl ?_|refine RX_draw rfl ?_);try (simp only [go_sem,simprocAttr,frzLoc,rowCells,vAppM,beq_iff_eq,bne_iff_ne,vf80_res,vf80_keep,h.1,h.2]))))
end Go.Proofs.YtlcbgdnfkmbhkaaGreat
namespace Go.Proofs.YtlcbgdnfkmbhkaaGreat
open Go.VM
end Go.Proofs.YtlcbgdnfkmbhkaaGreat
namespace Go.Proofs.YtlcbgdnfkmbhkaaGreat
open Go.VM
inductive Tm where
 |mk (op v:Int) (args:List Tm)
mutual
def Tm.row:Tm→List D
 |.mk op v args=>[I op,I v,.sl (Tm.rows args)]
def Tm.rows:List Tm→List (List D)
 |[]=>[]
 |t::ts=>t.row::Tm.rows ts
end
mutual
def Tm.eqb:Tm→Tm→Bool
 |.mk a b c,.mk x y z=>a==x&&(b==y&&Tm.eqbs c z)
def Tm.eqbs:List Tm→List Tm→Bool
 |[],[]=>true
 |t::ts,u::us=>t.eqb u&&Tm.eqbs ts us
 |_,_=>false
end
mutual
def Tm.small:Tm→Prop
 |.mk _ _ args=>args.length<1099511627776∧Tm.smalls args
def Tm.smalls:List Tm→Prop
 |[]=>True
 |t::ts=>t.small∧Tm.smalls ts
end
theorem Tm.rows_eq:∀ ts:List Tm,Tm.rows ts=ts.map Tm.row
 |[]=>rfl
 |t::ts=>by rw [Tm.rows,Tm.rows_eq ts];rfl
theorem Tm.smalls_mem:∀ {ts:List Tm} {t:Tm},Tm.smalls ts→t∈ts→t.small
 |t::ts,u,h,hu=>by
  rcases List.mem_cons.1 hu with rfl|hu
  ·exact h.1
  ·exact Tm.smalls_mem h.2 hu
end Go.Proofs.YtlcbgdnfkmbhkaaGreat
namespace Go.Proofs.YtlcbgdnfkmbhkaaGreat
open Go.VM
def Tm.op:Tm→Int|.mk a _ _=>a
def Tm.val:Tm→Int|.mk _ b _=>b
def Tm.args:Tm→List Tm|.mk _ _ c=>c
theorem Tm.op_mk (a b:Int) (c:List Tm):(Tm.mk a b c).op=a:=rfl
theorem Tm.val_mk (a b:Int) (c:List Tm):(Tm.mk a b c).val=b:=rfl
theorem Tm.args_mk (a b:Int) (c:List Tm):(Tm.mk a b c).args=c:=rfl
theorem Tm.row_eq (t:Tm):t.row=[I t.op,I t.val,.sl (t.args.map Tm.row)]:=by cases t;rw [Tm.row,Tm.rows_eq];rfl
theorem Tm.row_mk (a b:Int) (c:List Tm):(Tm.mk a b c).row=[I a,I b,.sl (c.map Tm.row)]:=by rw [Tm.row,Tm.rows_eq]
abbrev Tm.ag (t:Tm):V:=.agg [.d (I t.op),.d (I t.val),.d (.sl (t.args.map Tm.row))]
theorem Tm.rows3 (ts:List Tm) (h:ts.length≤4294967296):Rows3 (ts.map Tm.row):=
 ⟨by simpa using h,by rw [List.all_eq_true];intro r hr;obtain ⟨t,_,rfl⟩:=List.mem_map.1 hr;rw [Tm.row_eq];rfl⟩
end Go.Proofs.YtlcbgdnfkmbhkaaGreat
namespace Go.Proofs.YtlcbgdnfkmbhkaaGreat
open Go.VM
end Go.Proofs.YtlcbgdnfkmbhkaaGreat
namespace Go.Proofs.YtlcbgdnfkmbhkaaGreat
open Go.VM
end Go.Proofs.YtlcbgdnfkmbhkaaGreat
namespace Go.Proofs.YtlcbgdnfkmbhkaaGreat
open Go.VM
def Tm.one:List Tm→Int×Bool
 |[u]=>if u.op=1 then (u.val,true) else (0,false)
 |_=>(0,false)
mutual
theorem Tm.eqb_refl:∀ t:Tm,t.eqb t=true
 |.mk a b c=>by rw [Tm.eqb,Tm.eqbs_refl c];simp
theorem Tm.eqbs_refl:∀ ts:List Tm,Tm.eqbs ts ts=true
 |[]=>rfl
 |t::ts=>by rw [Tm.eqbs,Tm.eqb_refl t,Tm.eqbs_refl ts];rfl
end
mutual
def Tm.cmp:Tm→Tm→Int
 |.mk a b ts,.mk x y us=>if a<x then -1 else if x<a then 1 else if b<y then -1 else if y<b then 1 else
   if (ts.length:Int)<us.length then -1 else if (us.length:Int)<ts.length then 1 else Tm.cmps ts us
def Tm.cmps:List Tm→List Tm→Int
 |t::ts,u::us=>if t.cmp u=0 then Tm.cmps ts us else t.cmp u
 |_,_=>0
end
theorem Tm.cmps_drop {ts us:List Tm} {i:Nat} {t u:Tm} (h:ts[i]?=some t) (k:us[i]?=some u):Tm.cmps (ts.drop i) (us.drop i)=if t.cmp u=0 then Tm.cmps (ts.drop (i+1)) (us.drop (i+1)) else t.cmp u:=by
 obtain ⟨h1,h2⟩:=List.getElem?_eq_some_iff.1 h
 obtain ⟨k1,k2⟩:=List.getElem?_eq_some_iff.1 k
 rw [List.drop_eq_getElem_cons h1,List.drop_eq_getElem_cons k1,h2,k2,Tm.cmps]
set_option maxHeartbeats 4000000 in
theorem e119:∀ (n:Nat) (t u:Tm),SizeOf.sizeOf t<n→t.small→CV VP 201 [t.ag,u.ag] []=some ⟨.d (I (t.cmp u)),[],[],0⟩
 |0,t,u,h,_=>absurd h (Nat.not_lt_zero _)
 |n+1,.mk a b ts,.mk x y us,hn,hs=>by
  have w0:IntKind.i64.wrap (0+1)=1:=rfl
  have w1:IntKind.i64.wrap (1+1)=2:=rfl
  have w2:IntKind.i64.wrap (2+1)=3:=rfl
  simp only [Tm.ag,Tm.op_mk,Tm.val_mk,Tm.args_mk,Tm.cmp]
  obtain ⟨hs1,hs2⟩:=hs
  refine CV_run (vf:=vf201) rfl rfl ?_
  rw [vf201_start]
  have fin:∀ st0,ts.length=us.length→At vf201K1 2 st0 ((.any::.any::.any::.ptr 1 0::.any::.any::.any::.any::.any::.any::.any::.any::.any::.any::.any::.any::.any::.any::.any::.any::.any::.any::.any::.any::.any::.any::.any::.any::.any::.any::.any::.any::.any::.any::.any::.any::.any::.any::.any::.any::.any::.any::.any::.d (.sl (ts.map Tm.row))::.d (I (ts.length:Nat))::.d (I ((0:Nat):Int))::.any::.any::.any::.any::.any::.any::.any::.any::.any::.any::.any::.any::.any::.any::.any::[])) [[.d (I a),.d (I b),.d (.sl (ts.map Tm.row))],[.d (I x),.d (I y),.d (.sl (us.map Tm.row))]] [] 0 0 →
    RL VP vf201K1 vf201L1 2 st0 (outQ 2 (thn VP ((VCode.reg [⟨some 4,.mov (.c (.d (.lit (.int .i64 0)))),none⟩]).seq .ret) (retQ vf201 0 ⟨.d (I (Tm.cmps ts us)),[],[],0⟩))):=by
   intro st0 hl hat0
   refine RL_ind (fun m st=>∃ i:Nat,i+m=ts.length∧Tm.cmps (ts.drop i) (us.drop i)=Tm.cmps ts us∧At vf201K1 2 st ((.any::.any::.any::.ptr 1 0::.any::.any::.any::.any::.any::.any::.any::.any::.any::.any::.any::.any::.any::.any::.any::.any::.any::.any::.any::.any::.any::.any::.any::.any::.any::.any::.any::.any::.any::.any::.any::.any::.any::.any::.any::.any::.any::.any::.any::.d (.sl (ts.map Tm.row))::.d (I (ts.length:Nat))::.d (I (i:Nat))::.any::.any::.any::.any::.any::.any::.any::.any::.any::.any::.any::.any::.any::.any::.any::[])) [[.d (I a),.d (I b),.d (.sl (ts.map Tm.row))],[.d (I x),.d (I y),.d (.sl (us.map Tm.row))]] [] 0 0) ?_ ts.length _ ⟨0,Nat.zero_add _,rfl,hat0⟩
   rintro m st ⟨i,hi,hc,hat⟩ ih
   refine RL_at hat rfl rfl (vf201L1_go ?_)
   clear hat hat0
   cases m with
   |zero=>
    have h1:¬i<ts.length:=by omega
    rw [List.drop_eq_nil_of_le (by omega),List.drop_eq_nil_of_le (by omega),Tm.cmps] at hc
    rw [← hc]
    (repeat (first|refine RX_seq ?_|((first|refine sG rfl ?_|refine RX_draw rfl ?_);try (simp only [go_sem,simprocAttr,frzLoc,rowCells,vAppM,beq_iff_eq,bne_iff_ne,vf201_res,vf201_keep,h1]))))
    all_goals simp
   |succ m=>
    have h1:i<ts.length:=by omega
    have h2:i<us.length:=by omega
    obtain ⟨t,ht⟩:∃ t,ts[i]?=some t:=⟨_,List.getElem?_eq_getElem h1⟩
    obtain ⟨u,hu⟩:∃ u,us[i]?=some u:=⟨_,List.getElem?_eq_getElem h2⟩
    have hrt:(ts.map Tm.row)[i]?=some t.row:=by rw [List.getElem?_map,ht];rfl
    have hru:(us.map Tm.row)[i]?=some u.row:=by rw [List.getElem?_map,hu];rfl
    have h119:=e119 n t u (by
     have:=List.sizeOf_lt_of_mem (List.mem_of_getElem? ht)
     simp only [Tm.mk.sizeOf_spec] at hn
     omega) (Tm.smalls_mem hs2 (List.mem_of_getElem? ht))
    rw [Tm.cmps_drop ht hu] at hc
    have hwi:=w_nat (i:=i) (by omega)
    simp only [Tm.row_eq] at hrt hru
    simp only [Tm.ag] at h119
    by_cases h0:t.cmp u=0
    ·rw [if_pos h0] at hc
     (repeat (first|refine RX_seq ?_|((first|refine sG rfl ?_|refine RX_draw rfl ?_);try (simp only [go_sem,simprocAttr,frzLoc,rowCells,vAppM,beq_iff_eq,bne_iff_ne,vf201_res,vf201_keep,List.length_map,h1,h2,hrt,hru,h119,h0,hwi]))))
     exact ih m _ (Nat.lt_succ_self m) ⟨i+1,by omega,hc,rfl,rfl,rfl,rfl,rfl,rfl⟩
    ·rw [if_neg h0] at hc
     rw [← hc]
     (repeat (first|refine RX_seq ?_|((first|refine sG rfl ?_|refine RX_draw rfl ?_);try (simp only [go_sem,simprocAttr,frzLoc,rowCells,vAppM,beq_iff_eq,bne_iff_ne,vf201_res,vf201_keep,List.length_map,h1,h2,hrt,hru,h119,ibne,h0,hwi]))))
  (repeat' (first
  |refine RX_seq ?_
  |((first|refine sG rfl ?_|refine RX_draw rfl ?_|refine ite_ngo (fun _=>?_) (fun _=>?_)|refine ite_go (fun _=>?_) (fun _=>?_))<;>try (simp only [go_sem,Int.reduceToNat,Nat.reducePow,Int.reduceEq,Int.reduceNe,Int.reduceLT,Int.reduceLE,Nat.reduceAdd,Nat.reduceLeDiff,↓reduceIte,Nat.reduceLT,Nat.reduceMul,Nat.reduceSub,reduceCtorEq,frzLoc,rowCells,vAppM,ibeq,ibne,bbeq,decide_eq_false_iff_not,decide_not,Bool.not_not,Decidable.not_not,Bool.not_eq_eq_eq_not,gt_iff_lt,ge_iff_le,and_false,false_and,or_self,and_self,vf201_res,vf201_keep,List.length_map, *]))
  |(refine RL_head ?_;simp only [go_sem,Int.reduceToNat,Nat.reducePow,Int.reduceEq,Int.reduceNe,Int.reduceLT,Int.reduceLE,Nat.reduceAdd,Nat.reduceLeDiff,↓reduceIte,Nat.reduceLT,Nat.reduceMul,Nat.reduceSub,reduceCtorEq,frzLoc,rowCells,vAppM,ibeq,ibne,bbeq,decide_eq_false_iff_not,decide_not,Bool.not_not,Decidable.not_not,Bool.not_eq_eq_eq_not,gt_iff_lt,ge_iff_le,and_false,false_and,or_self,and_self,vf201_res,vf201_keep,List.length_map, *,St.head,forget,vf201K0,RLK_some];refine vf201L0_go ?_)
  |refine RX_loop ?_))
  exact fin _ (by omega) ⟨rfl,rfl,rfl,rfl,rfl,rfl⟩
theorem eqN {a b:Int} (h:a≠b):eqF a b=false:=by rw [eqF_eq];simpa using h
theorem leT {a b:Int} (h:a≤b):leF a b=true:=by rw [leF_eq];simpa using h
theorem leN {a b:Int} (h:b<a):leF a b=false:=by rw [leF_eq];simpa using h
theorem wF_in {n:Int} (h1:-9223372036854775808≤n) (h2:n≤9223372036854775807):wF n=n:=by rw [wF_eq];exact w_in h1 h2
def IsS (r:List D):Prop:=∃ t:Tm,t.small∧r=t.row
def IsSs (rows:List (List D)):Prop:=∃ ts:List Tm,Tm.smalls ts∧rows=ts.map Tm.row
theorem IsSs.nil:IsSs []:=⟨[],trivial,rfl⟩
theorem IsSs.cons {r:List D} {rs:List (List D)} (h:IsS r) (hs:IsSs rs):IsSs (r::rs):=by
 obtain ⟨t,h1,rfl⟩:=h
 obtain ⟨ts,h2,rfl⟩:=hs
 exact ⟨t::ts,⟨h1,h2⟩,rfl⟩
theorem IsS.mk {a b:Int} {rows:List (List D)} (h:IsSs rows) (hl:rows.length<1000):IsS [I a,I b,.sl rows]:=by
 obtain ⟨ts,h1,rfl⟩:=h
 rw [List.length_map] at hl
 exact ⟨.mk a b ts,⟨by omega,h1⟩,(Tm.row_mk a b ts).symm⟩
abbrev U (n:Int):D:=.lit (.int .u64 n)
def fam (six:Bool):Int:=if six then 6 else 4
def famH (six:Bool):Int:=if six then 2305843009213693952 else 0
def adr (six:Bool) (side low:Int):Int:=(if six then 0 else 167772160)+side*256+low
theorem e91 (side low:Int) (six:Bool) (h1:0≤side) (h2:side≤7) (h3:0≤low) (h4:low≤65535) :
  CV VP 160 [.d (I side),.d (I low),.d (B six)] []=some ⟨.agg [.d (I (fam six)),.d (U (famH six)),.d (U (adr six side low))],[],[],0⟩:=by
 have w1:IntKind.i64.wrap (side*256)=side*256:=w_in (by omega) (by omega)
 have w2:IntKind.i64.wrap (side*256+low)=side*256+low:=w_in (by omega) (by omega)
 have w3:IntKind.i64.wrap (167772160+side*256)=167772160+side*256:=w_in (by omega) (by omega)
 have w4:IntKind.i64.wrap (167772160+side*256+low)=167772160+side*256+low:=w_in (by omega) (by omega)
 have u1:IntKind.u64.wrap (side*256+low)=side*256+low:=by simp [IntKind.wrap,IntKind.signed,IntKind.bits];omega
 have u2:IntKind.u64.wrap (167772160+side*256+low)=167772160+side*256+low:=by simp [IntKind.wrap,IntKind.signed,IntKind.bits];omega
 have p8:(2:Int) ^ (min 8 64)=256:=rfl
 have h8:¬((8:Int)<0):=by decide
 refine CV_run (vf:=vf160) rfl rfl ?_
 rw [vf160_start]
 cases six with
 |true=>
  have a1:adr true side low=side*256+low:=by unfold adr;simp
  rw [a1]
  simp only [fam,famH]
  (repeat (first|refine RX_seq ?_|((first|refine sG rfl ?_|refine RX_draw rfl ?_);try (simp only [go_sem,simprocAttr,frzLoc,rowCells,vAppM,beq_iff_eq,bne_iff_ne,vf160_res,vf160_keep,vShift,p8,h8,w1,w2,u1]))))
 |false=>
  have a1:adr false side low=167772160+side*256+low:=by unfold adr;simp
  rw [a1]
  simp only [fam,famH]
  (repeat (first|refine RX_seq ?_|((first|refine sG rfl ?_|refine RX_draw rfl ?_);try (simp only [go_sem,simprocAttr,frzLoc,rowCells,vAppM,beq_iff_eq,bne_iff_ne,vf160_res,vf160_keep,vShift,p8,h8,w1,w3,w4,u2]))))
structure Pk where
 (f h a f' h' a' pr sp tp id:Int)
def Pk.ds (p:Pk):List D:=[I p.f,U p.h,U p.a,I p.f',U p.h',U p.a',I p.pr,I p.sp,I p.tp,I p.id]
def Pk.ns (p:Pk):List Int:=[p.f,w p.h,w p.a,p.f',w p.h',w p.a',p.pr,p.sp,p.tp,p.id]
def nT (n:Int):Tm:=.mk 1 n []
def Pk.tm (p:Pk):Tm:=.mk 3 0 (p.ns.map nT)
theorem e75 (n:Int):CV VP 20 [.d (I n)] []=some ⟨.agg [.d (I 1),.d (I n),.d (.sl [])],[],[],0⟩:=by
 refine CV_run (vf:=vf20) rfl rfl ?_
 rw [vf20_start]
 (repeat (first|refine RX_seq ?_|((first|refine sG rfl ?_|refine RX_draw rfl ?_);try (simp only [go_sem,simprocAttr,frzLoc,rowCells,vAppM,beq_iff_eq,bne_iff_ne,e76,vf20_res,vf20_keep]))))
theorem wI (i:Nat) (h:i<100):IntKind.i64.wrap ((i:Int)+1)=(i:Int)+1:=w_in (by omega) (by omega)
def validP (f h a:Int):Prop:=f=6∨f=4∧h=0∧a<4294967296
instance (f h a:Int):Decidable (validP f h a):=by unfold validP;infer_instance
theorem e83 (f h a:Int):CV VP 237 [.agg [.d (I f),.d (U h),.d (U a)]] []=some ⟨.d (B (decide (validP f h a))),[],[],0⟩:=by
 refine CV_run (vf:=vf237) rfl rfl ?_
 rw [vf237_start]
 (repeat' (first
  |refine RX_seq ?_
  |((first|refine sG rfl ?_|refine RX_draw rfl ?_|refine ite_ngo (fun _=>?_) (fun _=>?_)|refine ite_go (fun _=>?_) (fun _=>?_))<;>try (simp only [go_sem,Int.reduceToNat,Nat.reducePow,Int.reduceEq,Int.reduceNe,Int.reduceLT,Int.reduceLE,Nat.reduceAdd,Nat.reduceLeDiff,↓reduceIte,Nat.reduceLT,Nat.reduceMul,Nat.reduceSub,reduceCtorEq,frzLoc,rowCells,vAppM,ibeq,ibne,bbeq,decide_eq_false_iff_not,decide_not,Bool.not_not,Decidable.not_not,Bool.not_eq_eq_eq_not,gt_iff_lt,ge_iff_le,and_false,false_and,or_self,and_self,vf237_res,vf237_keep,validP, *]))))
def portP (n:Int):Prop:=-1≤n∧n≤65535
instance (n:Int):Decidable (portP n):=by unfold portP;infer_instance
structure Bx where
 f:Int
 h:Int
 a0:Int
 b0:Int
 a1:Int
 b1:Int
 p0:Int
 p1:Int
 l0:Int
 l1:Int
 r0:Int
 r1:Int
abbrev bxL (f h a0 b0 a1 b1 p0 p1 l0 l1 r0 r1:Int):List D:=[I f,U h,U a0,I f,U h,U b0,I f,U h,U a1,I f,U h,U b1,I p0,I p1,I l0,I l1,I r0,I r1]
abbrev bxV (f h a0 b0 a1 b1 p0 p1 l0 l1 r0 r1:Int):V:=.agg [.d (I f),.d (U h),.d (U a0),.d (I f),.d (U h),.d (U b0),.d (I f),.d (U h),.d (U a1),.d (I f),.d (U h),.d (U b1),.d (I p0),.d (I p1),.d (I l0),.d (I l1),.d (I r0),.d (I r1)]
abbrev Bx.row (x:Bx):List D:=bxL x.f x.h x.a0 x.b0 x.a1 x.b1 x.p0 x.p1 x.l0 x.l1 x.r0 x.r1
abbrev Bx.ag (x:Bx):V:=bxV x.f x.h x.a0 x.b0 x.a1 x.b1 x.p0 x.p1 x.l0 x.l1 x.r0 x.r1
def num (n:Int):Prop:=-1≤n∧n≤65535
structure Bx.ok (x:Bx):Prop where
 fam:x.f=4∧x.h=0∨x.f=6∧x.h=2305843009213693952
 p0:num x.p0
 p1:num x.p1
 l0:num x.l0
 l1:num x.l1
 r0:num x.r0
 r1:num x.r1
abbrev Bx.zero:Bx:=⟨0,0,0,0,0,0,0,0,0,0,0,0⟩
def Bx.swap (x:Bx):Bx:=⟨x.f,x.h,x.a1,x.b1,x.a0,x.b0,x.p0,x.p1,x.r0,x.r1,x.l0,x.l1⟩
def Bx.meet (x y:Bx):Bx:=⟨x.f,x.h,max x.a0 y.a0,min x.b0 y.b0,max x.a1 y.a1,min x.b1 y.b1,max x.p0 y.p0,min x.p1 y.p1,max x.l0 y.l0,min x.l1 y.l1,max x.r0 y.r0,min x.r1 y.r1⟩
def Bx.over (x y:Bx):Prop:=max x.a0 y.a0≤min x.b0 y.b0∧max x.a1 y.a1≤min x.b1 y.b1∧max x.p0 y.p0≤min x.p1 y.p1∧max x.l0 y.l0≤min x.l1 y.l1∧max x.r0 y.r0≤min x.r1 y.r1
structure Bx.fine (x:Bx):Prop where
 a0:0≤x.a0
 b0:x.b0<4294967296
 a1:0≤x.a1
 b1:x.b1<4294967296
 ab0:x.a0≤x.b0
 ab1:x.a1≤x.b1
 p0:0≤x.p0
 p01:x.p0≤x.p1
 p1:x.p1≤255
 l01:x.l0≤x.l1
 r01:x.r0≤x.r1
structure Ru where
 act:Int
 tm:ByteArray
 bs:List Bx
abbrev Ru.row (r:Ru):List D:=[I r.act,.lit (.string r.tm),.sl (r.bs.map Bx.row)]
structure Ru.ok (r:Ru):Prop where
 len:r.bs.length<1000
 bs:∀ b∈r.bs,b.ok
theorem e51 (x:Bx):CV VP 33 [x.ag] []=some ⟨x.swap.ag,[],[],0⟩:=by
 refine CV_run (vf:=vf33) rfl rfl ?_
 rw [vf33_start]
 simp only [Bx.swap]
 (repeat (first|refine RX_seq ?_|((first|refine sG rfl ?_|refine RX_draw rfl ?_);try (simp only [go_sem,simprocAttr,frzLoc,rowCells,vAppM,beq_iff_eq,bne_iff_ne,vf33_res,vf33_keep]))))
def bx0 (six:Bool) (s:Int):Bx:=⟨fam six,famH six,adr six s 0,adr six s 255,adr six (1-s) 0,adr six (1-s) 255,0,255,-1,65535,-1,65535⟩
def bxF (l:List Int) (s:Int) (k:Nat):Bx×Nat:=
 let six:=decide (nxV l k 8=7)
 let k1:=nxA l k
 let k2:=nxA l k1
 let k3:=nxA l k2
 let k4:=nxA l k3
 let k5:=nxA l k4
 let lo:=nxV l k1 8*16
 let up:=255-nxV l k2 8*8
 let x:=nxV l k3 5
 let b:=bx0 six s
 if x=1 then ({ b with a0:=adr six s lo,b0:=adr six s up },k4)
 else if x=2 then ({ b with a1:=adr six (1-s) lo,b1:=adr six (1-s) up },k4)
 else if x=3 then ({ b with p0:=6,p1:=6+nxV l k4 12,r0:=nxV l k5 4*20,r1:=100 },nxA l k5)
 else if x=4 then ({ b with p0:=6,p1:=17,l0:=-1,l1:=80 },k4)
 else (b,k4)
def BxP (l:List Int) (s:Int) (k:Nat) (p:Bx×Nat):Prop:=p.1.ok∧∀ (id:Nat) bl,CtxOk bl id →
  CV VP 76 [.ptr id 0,.d (I s)] (cx bl id l (k:Nat) [])=some ⟨p.1.ag,cx bl id l (p.2:Nat) [],[],0⟩
theorem bxF_both {l:List Int} (hB:Bytes l) {s:Int} (hs0:0≤s) (hs1:s≤1) (k:Nat):(bxF l s k).1.ok∧(bxF l s k).1.fine:=by
 have q1:=nxV_range hB (k:=nxA l k) (n:=8) (by decide)
 have q2:=nxV_range hB (k:=nxA l (nxA l k)) (n:=8) (by decide)
 have q12:=nxV_range hB (k:=nxA l (nxA l (nxA l (nxA l k)))) (n:=12) (by decide)
 have q4:=nxV_range hB (k:=nxA l (nxA l (nxA l (nxA l (nxA l k))))) (n:=4) (by decide)
 unfold bxF
 generalize decide (nxV l k 8=7)=six at *
 simp only
 cases six
 all_goals
  repeat' split
 all_goals
  refine ⟨⟨?_,?_,?_,?_,?_,?_,?_⟩,⟨?_,?_,?_,?_,?_,?_,?_,?_,?_,?_,?_⟩⟩<;>simp only [bx0,fam,famH,adr,num,if_true,if_false,Bool.false_eq_true]<;>first|omega|simp
set_option maxHeartbeats 4000000 in
theorem bxF_ok {l:List Int} (hB:Bytes l) (s:Int) (hs0:0≤s) (hs1:s≤1) (k:Nat):BxP l s k (bxF l s k):=by
 refine ⟨(bxF_both hB hs0 hs1 k).1,fun id bl h=>?_⟩
 have q1:=nxV_range hB (k:=nxA l k) (n:=8) (by decide)
 have q2:=nxV_range hB (k:=nxA l (nxA l k)) (n:=8) (by decide)
 have q12:=nxV_range hB (k:=nxA l (nxA l (nxA l (nxA l k)))) (n:=12) (by decide)
 have q4:=nxV_range hB (k:=nxA l (nxA l (nxA l (nxA l (nxA l k))))) (n:=4) (by decide)
 have cN:∀ (n:Int),0<n→n≤256→∀ (k:Nat) (own:List (List V)),own.map V.erL=own→own.all (V.ltbL (bl.length+own.length))=true→CV VP 18 [.ptr id 0,.d (I n)] (cx bl id l (k:Nat) own)=some ⟨.d (I (nxV l k n)),cx bl id l (nxA l k:Nat) own,[],0⟩:=fun n h1 h2 k own=>e29 hB h h1 h2
 have c8:=cN 8 (by decide) (by decide)
 have c5:=cN 5 (by decide) (by decide)
 have c12:=cN 12 (by decide) (by decide)
 have c4:=cN 4 (by decide) (by decide)
 have hid:=h.lt
 clear cN
 simp only [bxF]
 generalize hk1:nxA l k=k1 at *
 generalize hk2:nxA l k1=k2 at *
 generalize hk3:nxA l k2=k3 at *
 generalize hk4:nxA l k3=k4 at *
 generalize hk5:nxA l k4=k5 at *
 have m1:IntKind.i64.wrap (nxV l k1 8*16)=nxV l k1 8*16:=w_in (by omega) (by omega)
 have m2:IntKind.i64.wrap (nxV l k2 8*8)=nxV l k2 8*8:=w_in (by omega) (by omega)
 have m3:IntKind.i64.wrap (255-nxV l k2 8*8)=255-nxV l k2 8*8:=w_in (by omega) (by omega)
 have m4:IntKind.i64.wrap (1-s)=1-s:=w_in (by omega) (by omega)
 have m5:IntKind.i64.wrap (6+nxV l k4 12)=6+nxV l k4 12:=w_in (by omega) (by omega)
 have m6:IntKind.i64.wrap (nxV l k5 4*20)=nxV l k5 4*20:=w_in (by omega) (by omega)
 generalize hsix:decide (nxV l k 8=7)=six at *
 have r1:=e91 s 0 six hs0 (by omega) (by decide) (by decide)
 have r2:=e91 s 255 six hs0 (by omega) (by decide) (by decide)
 have r3:=e91 (1-s) 0 six (by omega) (by omega) (by decide) (by decide)
 have r4:=e91 (1-s) 255 six (by omega) (by omega) (by decide) (by decide)
 have r5:=e91 s (nxV l k1 8*16) six hs0 (by omega) (by omega) (by omega)
 have r6:=e91 s (255-nxV l k2 8*8) six hs0 (by omega) (by omega) (by omega)
 have r7:=e91 (1-s) (nxV l k1 8*16) six (by omega) (by omega) (by omega) (by omega)
 have r8:=e91 (1-s) (255-nxV l k2 8*8) six (by omega) (by omega) (by omega) (by omega)
 clear q1 q2 q12 q4 hs0 hs1 hB
 refine CV_run (vf:=vf76) rfl rfl ?_
 rw [vf76_start]
 simp only [bx0]
 (repeat' (first
  |refine RX_seq ?_
  |((first|refine sG rfl ?_|refine RX_draw rfl ?_|refine ite_ngo (fun _=>?_) (fun _=>?_)|refine ite_go (fun _=>?_) (fun _=>?_))<;>try (simp only [go_sem,Int.reduceToNat,Nat.reducePow,Int.reduceEq,Int.reduceNe,Int.reduceLT,Int.reduceLE,Nat.reduceAdd,Nat.reduceLeDiff,↓reduceIte,Nat.reduceLT,Nat.reduceMul,Nat.reduceSub,reduceCtorEq,frzLoc,rowCells,vAppM,ibeq,ibne,bbeq,decide_eq_false_iff_not,decide_not,Bool.not_not,Decidable.not_not,Bool.not_eq_eq_eq_not,gt_iff_lt,ge_iff_le,and_false,false_and,or_self,and_self,vf76_res,vf76_keep,cx_len,cx_app,cx_own0,cx_own,cx_setOwn0,cx_setOwn,cx_take,cx_takeN,Nat.add_right_cancel_iff,Nat.lt_irrefl,cx_nlt,Nat.not_lt_zero,cx_get' h,cx_setId' h,cx_er h,cx_all0 h,cx_all h,CtxOk.lt h,CtxOk.ne0 h, *]))))
def silver:ByteArray:=⟨#[115,105,108,118,101,114]⟩
def gold:ByteArray:=⟨#[103,111,108,100]⟩
noncomputable def ruF (l:List Int) (s:Int) (k:Nat):Ru×Nat:=
 if nxV l (bxF l s (nxA l k)).2 2=1 then (⟨2,silver,[(bxF l s (nxA l k)).1]⟩,nxA l (bxF l s (nxA l k)).2)
 else (⟨nxV l k 2,⟨#[]⟩,[(bxF l s (nxA l k)).1]⟩,nxA l (bxF l s (nxA l k)).2)
section
variable {o1 xs:List (List V)} {j:Nat} {y:List V}
theorem gA:(o1++xs)[o1.length+j]?=xs[j]?:=by rw [List.getElem?_append_right (by omega),Nat.add_sub_cancel_left]
theorem gA0:(o1++xs)[o1.length]?=xs[0]?:=gA (j:=0)
theorem sA:(o1++xs).set (o1.length+j) y=o1++xs.set j y:=by rw [List.set_append_right _ _ (by omega),Nat.add_sub_cancel_left]
theorem sA0:(o1++xs).set o1.length y=o1++xs.set 0 y:=sA (j:=0)
end
def DB (own:List (List V)):Prop:=∀ b∈own,∃ ds:List D,b=ds.map .d
theorem DB.er {own:List (List V)} (h:DB own):own.map V.erL=own:=by
 have:∀ b∈own,V.erL b=b:=fun b hb=>by obtain ⟨ds,rfl⟩:=h b hb;exact erL_d ds
 rw [List.map_congr_left this,List.map_id']
theorem DB.ltb {own:List (List V)} (h:DB own) (n:Nat):own.all (V.ltbL n)=true:=by
 rw [List.all_eq_true]
 intro b hb
 obtain ⟨ds,rfl⟩:=h b hb
 exact ltbL_d n ds
def RuA (bl:List (List V)) (v:V) (own:List (List V)) (rs:List Ru):Prop:=
 (v=.nil∧own=[]∧rs=[])∨∃ o1,DB o1∧own=o1++[rowCells (rs.map Ru.row)]∧v=.loc (bl.length+o1.length) 0 rs.length 3∧0<rs.length
theorem RuA.db {bl:List (List V)} {v:V} {own:List (List V)} {rs:List Ru} (h:RuA bl v own rs):DB own:=by
 rcases h with ⟨_,rfl,_⟩|⟨o1,h1,rfl,_⟩
 ·intro b hb;cases hb
 ·intro b hb
  rcases List.mem_append.1 hb with hb|hb
  ·exact h1 b hb
  ·simp at hb;subst hb;exact ⟨_,rfl⟩
theorem rowCells_len3 (rs:List Ru):(rowCells (rs.map Ru.row)).length=rs.length*3:=by
 rw [rowCells_len (sz:=3)]
 ·simp
 ·intro r hr;obtain ⟨t,_,rfl⟩:=List.mem_map.1 hr;rfl
theorem rowCells_snoc (rs:List Ru) (r:Ru):rowCells ((rs++[r]).map Ru.row)=rowCells (rs.map Ru.row)++r.row.map .d:=by
 simp [rowCells]
theorem RuA_grow {bl:List (List V)} {o1:List (List V)} {R:List V} {rs:List Ru} {r:Ru} (hdb:DB o1) (hRs:rowCells ((rs++[r]).map Ru.row)=R++r.row.map .d) (c:List V) (hc:∃ ds:List D,c=ds.map .d) :
  RuA bl (.loc (bl.length+(o1.length+2)) 0 (rs.length+1) 3) (o1++[[],c,R++r.row.map .d]) (rs++[r]):=by
 refine .inr ⟨o1++[[],c],fun b hb=>?_,?_,?_,by simp⟩
 ·rcases List.mem_append.1 hb with hb|hb
  ·exact hdb b hb
  ·simp only [List.mem_cons,List.not_mem_nil,or_false] at hb
   rcases hb with rfl|rfl
   ·exact ⟨[],rfl⟩
   ·exact hc
 ·rw [hRs,List.append_assoc];rfl
 ·simp
set_option maxHeartbeats 2000000 in
theorem L46 {l:List Int} (hB:Bytes l) {s:Int} (hs0:0≤s) (hs1:s≤1) {id:Nat} {bl:List (List V)} {Q:VExit→St→Prop} (h:CtxOk bl id) :
  ∀ (m k:Nat) (rs:List Ru) (v:V) (own:List (List V)) (st:St),RuA bl v own rs→rs.length+m<100 →
   (∀ v own st,RuA bl v own (rs++(drL (ruF l s) m k).1)→st=⟨(.ptr id 0::.d (I s)::.any::.any::.any::v::.d (I 0)::.any::.any::.any::.any::.d (I 0)::.d (B false)::.any::.any::.any::.any::.any::.any::.any::.any::.any::.any::.any::.any::.any::.any::.any::.any::.any::.any::.any::.any::.any::.any::.any::.any::.any::.any::.any::.any::.any::.any::.any::.any::.any::.any::.any::.any::.any::.any::.any::.any::.any::.any::.any::.any::.any::.any::.any::.any::.any::.any::.any::.any::.any::.any::.any::.any::.any::.any::.any::[]),cx bl id l ((drL (ruF l s) m k).2:Nat) own,[],0,bl.length,0⟩→Q (.exit 0) st) →
   forget vf121K0 st.tmps=((.ptr id 0::.d (I s)::.any::.any::.any::v::.d (I (m:Nat))::.any::.any::.any::.any::.any::.any::.any::.any::.any::.any::.any::.any::.any::.any::.any::.any::.any::.any::.any::.any::.any::.any::.any::.any::.any::.any::.any::.any::.any::.any::.any::.any::.any::.any::.any::.any::.any::.any::.any::.any::.any::.any::.any::.any::.any::.any::.any::.any::.any::.any::.any::.any::.any::.any::.any::.any::.any::.any::.any::.any::.any::.any::.any::.any::.any::[]))→st.blocks=cx bl id l (k:Nat) own→st.live=[]→st.gn=0→st.base=bl.length→st.dep=0 →
   RL VP vf121K0 vf121L0 bl.length st Q:=by
 have hid:=h.lt
 intro m
 induction m with
 |zero=>
  intro k rs v own st hv hl hQ ht hb hlv hgn hba hde
  obtain ⟨ts,bs,lv,gn,ba,de⟩:=st
  simp only at ht hb hlv hgn hba hde
  subst hb hlv hgn hba hde
  simp only [drL,List.append_nil] at hQ
  rcases hv with ⟨rfl,rfl,rfl⟩|⟨o1,hdb,rfl,rfl,h0⟩
  ·refine RL_at (T:=((.ptr id 0::.d (I s)::.any::.any::.any::.nil::.d (I (0:Nat))::.any::.any::.any::.any::.any::.any::.any::.any::.any::.any::.any::.any::.any::.any::.any::.any::.any::.any::.any::.any::.any::.any::.any::.any::.any::.any::.any::.any::.any::.any::.any::.any::.any::.any::.any::.any::.any::.any::.any::.any::.any::.any::.any::.any::.any::.any::.any::.any::.any::.any::.any::.any::.any::.any::.any::.any::.any::.any::.any::.any::.any::.any::.any::.any::.any::[]))) (bl:=cx bl id l (k:Nat) []) ⟨ht,cx_take,rfl,rfl,rfl,rfl⟩ (by (simp only [go_sem,simprocAttr,frzLoc,rowCells,vAppM,beq_iff_eq,bne_iff_ne,cx_len,cx_app,cx_own0,cx_own,cx_setOwn0,cx_setOwn,cx_take,cx_takeN,Nat.add_right_cancel_iff,Nat.lt_irrefl,cx_nlt,Nat.not_lt_zero,cx_get' h,cx_setId' h,cx_er h,cx_all0 h,cx_all h,CtxOk.lt h,CtxOk.ne0 h])) (by (simp only [go_sem,simprocAttr,frzLoc,rowCells,vAppM,beq_iff_eq,bne_iff_ne,cx_len,cx_app,cx_own0,cx_own,cx_setOwn0,cx_setOwn,cx_take,cx_takeN,Nat.add_right_cancel_iff,Nat.lt_irrefl,cx_nlt,Nat.not_lt_zero,cx_get' h,cx_setId' h,cx_er h,cx_all0 h,cx_all h,CtxOk.lt h,CtxOk.ne0 h])) (vf121L0_go ?_)
   (repeat (first|refine RX_seq ?_|((first|refine sG rfl ?_|refine RX_draw rfl ?_);try (simp only [go_sem,simprocAttr,frzLoc,rowCells,vAppM,beq_iff_eq,bne_iff_ne,vf121_res,vf121_keep,gt_iff_lt]))))
   exact hQ _ _ _ (.inl ⟨rfl,rfl,rfl⟩) rfl
  ·have hng:¬(bl.length+o1.length<bl.length):=by omega
   refine RL_atN ht (by (simp only [go_sem,simprocAttr,frzLoc,rowCells,vAppM,beq_iff_eq,bne_iff_ne,hng,Bool.and_false])) (vf121L0_go ?_)
   (repeat (first|refine RX_seq ?_|((first|refine sG rfl ?_|refine RX_draw rfl ?_);try (simp only [go_sem,simprocAttr,frzLoc,rowCells,vAppM,beq_iff_eq,bne_iff_ne,vf121_res,vf121_keep,gt_iff_lt]))))
   exact hQ _ _ _ (.inr ⟨o1,hdb,rfl,rfl,h0⟩) rfl
 |succ m ih=>
  intro k rs v own st hv hl hQ ht hb hlv hgn hba hde
  obtain ⟨ts,bs,lv,gn,ba,de⟩:=st
  simp only at ht hb hlv hgn hba hde
  subst hb hlv hgn hba hde
  have hm:(0:Int)<((m+1:Nat):Int):=by omega
  have hwm:IntKind.i64.wrap (((m+1:Nat):Int)-1)=(m:Int):=by rw [w_in (by omega) (by omega)];omega
  have c2:∀ (k:Nat) (own:List (List V)),own.map V.erL=own→own.all (V.ltbL (bl.length+own.length))=true→CV VP 18 [.ptr id 0,.d (I 2)] (cx bl id l (k:Nat) own)=some ⟨.d (I (nxV l k 2)),cx bl id l (nxA l k:Nat) own,[],0⟩:=fun k own=>e29 hB h (by decide) (by decide)
  have cB:∀ (k:Nat) (own:List (List V)),own.map V.erL=own→own.all (V.ltbL (bl.length+own.length))=true→CV VP 76 [.ptr id 0,.d (I s)] (cx bl id l (k:Nat) own)=some ⟨(bxF l s k).1.ag,cx bl id l ((bxF l s k).2:Nat) own,[],0⟩:=fun k own=>cx_lift (fun bl h=>(bxF_ok hB s hs0 hs1 k).2 id bl h) h
  have c2n:=fun k=>c2 k [] rfl rfl
  have cBn:=fun k=>cB k [] rfl rfl
  have hdr:drL (ruF l s) (m+1) k=((ruF l s k).1::(drL (ruF l s) m (ruF l s k).2).1,(drL (ruF l s) m (ruF l s k).2).2):=rfl
  rw [hdr] at hQ
  have next:=fun (v':V) (own':List (List V)) (st':St) (hv':RuA bl v' own' (rs++[(ruF l s k).1]))=>ih (ruF l s k).2 (rs++[(ruF l s k).1]) v' own' st' hv' (by simp;omega) (fun v own st hv2=>hQ v own st (by simpa using hv2))
  clear ih hQ hdr
  rcases hv with ⟨rfl,rfl,rfl⟩|⟨o1,hdb,rfl,rfl,h0⟩
  ·refine RL_at (T:=((.ptr id 0::.d (I s)::.any::.any::.any::.nil::.d (I ((m+1:Nat):Int))::.any::.any::.any::.any::.any::.any::.any::.any::.any::.any::.any::.any::.any::.any::.any::.any::.any::.any::.any::.any::.any::.any::.any::.any::.any::.any::.any::.any::.any::.any::.any::.any::.any::.any::.any::.any::.any::.any::.any::.any::.any::.any::.any::.any::.any::.any::.any::.any::.any::.any::.any::.any::.any::.any::.any::.any::.any::.any::.any::.any::.any::.any::.any::.any::.any::[]))) (bl:=cx bl id l (k:Nat) []) ⟨ht,cx_take,rfl,rfl,rfl,rfl⟩ (by (simp only [go_sem,simprocAttr,frzLoc,rowCells,vAppM,beq_iff_eq,bne_iff_ne,cx_len,cx_app,cx_own0,cx_own,cx_setOwn0,cx_setOwn,cx_take,cx_takeN,Nat.add_right_cancel_iff,Nat.lt_irrefl,cx_nlt,Nat.not_lt_zero,cx_get' h,cx_setId' h,cx_er h,cx_all0 h,cx_all h,CtxOk.lt h,CtxOk.ne0 h])) (by (simp only [go_sem,simprocAttr,frzLoc,rowCells,vAppM,beq_iff_eq,bne_iff_ne,cx_len,cx_app,cx_own0,cx_own,cx_setOwn0,cx_setOwn,cx_take,cx_takeN,Nat.add_right_cancel_iff,Nat.lt_irrefl,cx_nlt,Nat.not_lt_zero,cx_get' h,cx_setId' h,cx_er h,cx_all0 h,cx_all h,CtxOk.lt h,CtxOk.ne0 h])) (vf121L0_go ?_)
   unfold ruF at next
   by_cases hn:nxV l (bxF l s (nxA l k)).2 2=1
   ·rw [if_pos hn] at next
    (repeat (first|refine RX_seq ?_|((first|refine sG rfl ?_|refine RX_draw rfl ?_);try (simp only [go_sem,simprocAttr,frzLoc,rowCells,vAppM,beq_iff_eq,bne_iff_ne,vf121_res,vf121_keep,cx_len,cx_app,cx_own0,cx_own,cx_setOwn0,cx_setOwn,cx_take,cx_takeN,Nat.add_right_cancel_iff,Nat.lt_irrefl,cx_nlt,Nat.not_lt_zero,cx_get' h,cx_setId' h,cx_er h,cx_all0 h,cx_all h,CtxOk.lt h,CtxOk.ne0 h,gt_iff_lt,hm,hwm,c2n,cBn,c2,cB,hn,hid]))))
    refine next _ _ _ ?_ rfl rfl rfl rfl rfl rfl
    exact .inr ⟨[_],fun b hb=>by simp at hb;subst hb;exact ⟨[_,_,_],rfl⟩,rfl,rfl,by simp⟩
   ·rw [if_neg hn] at next
    have hn2:(nxV l (bxF l s (nxA l k)).2 2==1)=false:=by simpa using hn
    (repeat (first|refine RX_seq ?_|((first|refine sG rfl ?_|refine RX_draw rfl ?_);try (simp only [go_sem,simprocAttr,frzLoc,rowCells,vAppM,beq_iff_eq,bne_iff_ne,vf121_res,vf121_keep,cx_len,cx_app,cx_own0,cx_own,cx_setOwn0,cx_setOwn,cx_take,cx_takeN,Nat.add_right_cancel_iff,Nat.lt_irrefl,cx_nlt,Nat.not_lt_zero,cx_get' h,cx_setId' h,cx_er h,cx_all0 h,cx_all h,CtxOk.lt h,CtxOk.ne0 h,gt_iff_lt,hm,hwm,c2n,cBn,c2,cB,hn,hn2,hid]))))
    refine next _ _ _ ?_ rfl rfl rfl rfl rfl rfl
    exact .inr ⟨[_],fun b hb=>by simp at hb;subst hb;exact ⟨[_,_,_],rfl⟩,rfl,rfl,by simp⟩
  ·have hng:¬(bl.length+o1.length<bl.length):=by omega
   have her:=hdb.er
   have hlb:=hdb.ltb
   have hRl:=rowCells_len3 rs
   have hRs:=rowCells_snoc rs (ruF l s k).1
   have hRe:V.erL (rowCells (rs.map Ru.row))=rowCells (rs.map Ru.row):=erL_d _
   have hRt:∀ n,V.ltbL n (rowCells (rs.map Ru.row))=true:=fun n=>ltbL_d n _
   have hRD:∃ ds:List D,rowCells (rs.map Ru.row)=ds.map .d:=⟨_,rfl⟩
   generalize rowCells (rs.map Ru.row)=R at *
   have hle:rs.length≤1073741824:=by omega
   have hbs:bl.length≤bl.length+o1.length:=Nat.le_add_right _ _
   refine RL_atN ht (by (simp only [go_sem,simprocAttr,frzLoc,rowCells,vAppM,beq_iff_eq,bne_iff_ne,hng,Bool.and_false])) (vf121L0_go ?_)
   unfold ruF at next hRs
   by_cases hn:nxV l (bxF l s (nxA l k)).2 2=1
   ·rw [if_pos hn] at next hRs
    (repeat (first|refine RX_seq ?_|((first|refine sG rfl ?_|refine RX_draw rfl ?_);try (simp only [go_sem,simprocAttr,frzLoc,rowCells,vAppM,beq_iff_eq,bne_iff_ne,vf121_res,vf121_keep,cx_len,cx_app,cx_own0,cx_own,cx_setOwn0,cx_setOwn,cx_take,cx_takeN,Nat.add_right_cancel_iff,Nat.lt_irrefl,cx_nlt,Nat.not_lt_zero,cx_get' h,cx_setId' h,cx_er h,cx_all0 h,cx_all h,CtxOk.lt h,CtxOk.ne0 h,gt_iff_lt,hm,hwm,c2,cB,hn,hid,List.append_assoc,List.map_append,List.all_append,her,hlb,hRe,hRt,gA0,gA,sA0,sA,List.length_append,h0,hle,hbs,hRl]))))
    refine next _ _ _ (RuA_grow hdb hRs _ ⟨[_,_,_],rfl⟩) rfl rfl rfl rfl rfl rfl
   ·rw [if_neg hn] at next hRs
    have hn2:(nxV l (bxF l s (nxA l k)).2 2==1)=false:=by simpa using hn
    (repeat (first|refine RX_seq ?_|((first|refine sG rfl ?_|refine RX_draw rfl ?_);try (simp only [go_sem,simprocAttr,frzLoc,rowCells,vAppM,beq_iff_eq,bne_iff_ne,vf121_res,vf121_keep,cx_len,cx_app,cx_own0,cx_own,cx_setOwn0,cx_setOwn,cx_take,cx_takeN,Nat.add_right_cancel_iff,Nat.lt_irrefl,cx_nlt,Nat.not_lt_zero,cx_get' h,cx_setId' h,cx_er h,cx_all0 h,cx_all h,CtxOk.lt h,CtxOk.ne0 h,gt_iff_lt,hm,hwm,c2,cB,hn,hn2,hid,List.append_assoc,List.map_append,List.all_append,her,hlb,hRe,hRt,gA0,gA,sA0,sA,List.length_append,h0,hle,hbs,hRl]))))
    refine next _ _ _ (RuA_grow hdb hRs _ ⟨[_,_,_],rfl⟩) rfl rfl rfl rfl rfl rfl
theorem bytes_nil:Bytes []:=⟨fun z hz=>(by cases hz),by decide⟩
theorem box_new {l:List Int} {s:Int} (hs0:0≤s) (hs1:s≤1) {id k:Nat} {bl own:List (List V)} (h:CtxOk bl id) (hdb:DB own) :
  CV VP 76 [.ptr (bl.length+own.length) 0,.d (I s)] (cx bl id l (k:Nat) (own++[[.d (.sl []),.d (I 0)]]))=some ⟨(bxF [] s 0).1.ag,cx bl id l (k:Nat) (own++[[.d (.sl []),.d (I ((bxF [] s 0).2:Nat))]]),[],0⟩:=by
 have hdb2:DB (own++[[.d (.sl []),.d (I 0)]]):=fun b hb=>by
  rcases List.mem_append.1 hb with hb|hb
  ·exact hdb b hb
  ·simp only [List.mem_cons,List.not_mem_nil,or_false] at hb;subst hb;exact ⟨[_,_],rfl⟩
 have hctx:CtxOk (cx bl id l (k:Nat) (own++[[.d (.sl []),.d (I 0)]])) (bl.length+own.length):=by
  refine ⟨by rw [cx_len];simp,?_,?_⟩
  ·rw [cx_er h,hdb2.er]
  ·intro b hb
   have h2:(cx bl id l (k:Nat) (own++[[.d (.sl []),.d (I 0)]])).all (V.ltbL (bl.length+(own++[[V.d (.sl []),V.d (I 0)]]).length))=true:=by
    rw [cx_all h];exact hdb2.ltb _
   rw [List.all_eq_true] at h2
   rw [cx_len];exact h2 b hb
 have h0:=(bxF_ok bytes_nil s hs0 hs1 0).2 (bl.length+own.length) _ hctx
 have hg:(cx bl id l (k:Nat) (own++[[.d (.sl []),.d (I 0)]]))[bl.length+own.length]?=some (Cd [] ((0:Nat):Int)):=by
  rw [cx_own,gA0];rfl
 rw [← cx_nil hg] at h0
 rw [h0]
 congr 2
 show (cx bl id l (k:Nat) (own++[[.d (.sl []),.d (I 0)]])).set (bl.length+own.length) (Cd [] ((bxF [] s 0).2:Nat))++[]=_
 rw [cx_setOwn,sA0,List.append_nil]
 rfl
def bypass:Bx:=⟨4,0,adr false 0 0,adr false 7 255,adr false 0 0,adr false 7 255,0,255,-1,65535,-1,65535⟩
theorem bypass_ok:bypass.ok:=⟨by simp [bypass],by simp [num,bypass],by simp [num,bypass],by simp [num,bypass],by simp [num,bypass],by simp [num,bypass],by simp [num,bypass]⟩
noncomputable def goldF (l:List Int) (s:Int) (k:Nat):Ru×Nat:=
 if nxV l k 4=3 then (⟨2,gold,[(bxF l s (nxA l k)).1,(bxF [] s 0).1]⟩,(bxF l s (nxA l k)).2) else (⟨2,gold,[(bxF [] s 0).1]⟩,nxA l k)
noncomputable def endF (l:List Int) (k:Nat):List Ru×Nat:=if nxV l k 3=2 then ([⟨1,⟨#[]⟩,[bypass]⟩],nxA l k) else ([],nxA l k)
noncomputable def ruS (l:List Int) (s:Int) (k:Nat):List Ru×Nat:=
 let p:=drL (ruF l s) (nxV l k 3).toNat (nxA l k)
 let g:=goldF l s p.2
 let e:=endF l g.2
 (p.1++[g.1]++e.1,e.2)
theorem toDs_map:∀ ds:List D,toDs (ds.map .d)=some ds
 |[]=>rfl
 |d::ds=>by simp [toDs,V.toD,toDs_map ds]
theorem chunk_flat {sz:Nat}:∀ {ms:List (List D)},(∀ r∈ms,r.length=sz)→chunk sz ms.length ms.flatten=ms
 |[],_=>rfl
 |r::ms,h=>by
  have hr:=h r List.mem_cons_self
  rw [List.length_cons,chunk,List.flatten_cons,List.take_left' hr,List.drop_left' hr,chunk_flat fun r hr=>h r (List.mem_cons_of_mem _ hr)]
theorem frzRows (rs:List Ru):frzLoc (some (rowCells (rs.map Ru.row))) 0 rs.length 3=.d (.sl (rs.map Ru.row)):=by
 have hl:=rowCells_len3 rs
 have hrow:∀ r∈rs.map Ru.row,r.length=3:=fun r hr=>by obtain ⟨t,_,rfl⟩:=List.mem_map.1 hr;rfl
 simp only [frzLoc]
 rw [if_pos (by omega),List.drop_zero,List.take_of_length_le (by omega),rowCells,toDs_map]
 simp only
 have:=chunk_flat hrow
 rw [List.length_map] at this
 rw [this]
theorem ltbL_app {n:Nat}:∀ {xs:List V} (_:V.ltbL n xs=true) (ys:List V),V.ltbL n (xs++ys)=V.ltbL n ys
 |[],_,ys=>rfl
 |x::xs,h,ys=>by
  simp only [V.ltbL,Bool.and_eq_true] at h
  simp only [List.cons_append,V.ltbL,h.1,Bool.true_and]
  exact ltbL_app h.2 ys
set_option maxHeartbeats 4000000 in
theorem e46b {l:List Int} (hB:Bytes l) {s:Int} (hs0:0≤s) (hs1:s≤1) (id k:Nat):∀ bl,CtxOk bl id →
  CV VP 121 [.ptr id 0,.d (I s)] (cx bl id l (k:Nat) [])=some ⟨.d (.sl ((ruS l s k).1.map Ru.row)),cx bl id l ((ruS l s k).2:Nat) [],[],0⟩:=by
 intro bl h
 have r:=nxV_range hB (k:=k) (n:=3) (by decide)
 obtain ⟨M,hM⟩:∃ M:Nat,nxV l k 3=(M:Int):=⟨_,(Int.toNat_of_nonneg r.1).symm⟩
 have hM3:M<3:=by omega
 have hru:ruS l s k=((drL (ruF l s) M (nxA l k)).1++[(goldF l s (drL (ruF l s) M (nxA l k)).2).1]++(endF l (goldF l s (drL (ruF l s) M (nxA l k)).2).2).1,(endF l (goldF l s (drL (ruF l s) M (nxA l k)).2).2).2):=by
  unfold ruS;rw [hM,Int.toNat_natCast]
 rw [hru]
 have cN:∀ (n:Int),0<n→n≤256→∀ (k:Nat) (own:List (List V)),own.map V.erL=own→own.all (V.ltbL (bl.length+own.length))=true→CV VP 18 [.ptr id 0,.d (I n)] (cx bl id l (k:Nat) own)=some ⟨.d (I (nxV l k n)),cx bl id l (nxA l k:Nat) own,[],0⟩:=fun n h1 h2 k own=>e29 hB h h1 h2
 have c3n:=fun k=>cN 3 (by decide) (by decide) k [] rfl rfl
 have c3:=cN 3 (by decide) (by decide)
 have c4:=cN 4 (by decide) (by decide)
 have cB:∀ (k:Nat) (own:List (List V)),own.map V.erL=own→own.all (V.ltbL (bl.length+own.length))=true→CV VP 76 [.ptr id 0,.d (I s)] (cx bl id l (k:Nat) own)=some ⟨(bxF l s k).1.ag,cx bl id l ((bxF l s k).2:Nat) own,[],0⟩:=fun k own=>cx_lift (fun bl h=>(bxF_ok hB s hs0 hs1 k).2 id bl h) h
 have c21:CV VP 9 [.d (.sl []),.d (I 0)] []=some ⟨.ptr 0 0,[[.sl 1 [] (.own 0 0),.d (I 0)]],[0],1⟩:=e21 (l:=[]) 0 (by decide)
 have a00:=e91 0 0 false (by decide) (by decide) (by decide) (by decide)
 have a75:=e91 7 255 false (by decide) (by decide) (by decide) (by decide)
 simp only [fam,famH,Bool.false_eq_true,if_false] at a00 a75
 have hid:=h.lt
 have w0:IntKind.i64.wrap (1-1)=0:=rfl
 clear cN
 refine CV_run (vf:=vf121) rfl rfl ?_
 rw [vf121_start]
 (repeat (first|refine RX_seq ?_|((first|refine sG rfl ?_|refine RX_draw rfl ?_);try (simp only [go_sem,Int.reduceToNat,Nat.reducePow,Int.reduceEq,Int.reduceNe,Int.reduceLT,Int.reduceLE,Nat.reduceAdd,Nat.reduceLeDiff,↓reduceIte,Nat.reduceLT,Nat.reduceMul,Nat.reduceSub,reduceCtorEq,frzLoc,rowCells,vAppM,beq_iff_eq,bne_iff_ne,vf121_res,vf121_keep,cx_len,cx_app,cx_own0,cx_own,cx_setOwn0,cx_setOwn,cx_take,cx_takeN,Nat.add_right_cancel_iff,Nat.lt_irrefl,cx_nlt,Nat.not_lt_zero,cx_get' h,cx_setId' h,cx_er h,cx_all0 h,cx_all h,CtxOk.lt h,CtxOk.ne0 h,c3n,hM]))))
 refine RX_loopN (n:=bl.length) (by simp [cx_len]) ?_
 refine L46 hB hs0 hs1 h M (nxA l k) [] .nil [] _ (.inl ⟨rfl,rfl,rfl⟩) (by simp;omega) (fun v own st hv hst=>?_) rfl rfl rfl rfl (by simp [cx_len]) rfl
 subst hst
 rw [List.nil_append] at hv
 have hlen:(drL (ruF l s) M (nxA l k)).1.length=M:=drL_len _ _ _
 generalize (drL (ruF l s) M (nxA l k)).2=k1 at *
 generalize (drL (ruF l s) M (nxA l k)).1=rs at *
 have hnew:=box_new (l:=l) hs0 hs1 (k:=k1) h hv.db
 generalize hal:(bxF [] s 0).1=al at *
 generalize (bxF [] s 0).2=ka at *
 rcases hv with ⟨rfl,rfl,rfl⟩|⟨o1,hdb,rfl,rfl,h0⟩
 ·simp only [List.length_nil,Nat.add_zero,List.nil_append] at hnew
  unfold goldF endF
  rw [hal]
  by_cases g4:nxV l k1 4=3
  ·simp only [g4,if_true]
   by_cases g3:nxV l (bxF l s (nxA l k1)).2 3=2
   ·simp only [g3,if_true]
    (repeat (first|refine RX_seq ?_|((first|refine sG rfl ?_|refine RX_draw rfl ?_);try (simp only [go_sem,Int.reduceToNat,Nat.reducePow,Int.reduceEq,Int.reduceNe,Int.reduceLT,Int.reduceLE,Nat.reduceAdd,Nat.reduceLeDiff,↓reduceIte,Nat.reduceLT,Nat.reduceMul,Nat.reduceSub,reduceCtorEq,frzLoc,rowCells,vAppM,beq_iff_eq,bne_iff_ne,vf121_res,vf121_keep,cx_len,cx_app,cx_own0,cx_own,cx_setOwn0,cx_setOwn,cx_take,cx_takeN,Nat.add_right_cancel_iff,Nat.lt_irrefl,cx_nlt,Nat.not_lt_zero,cx_get' h,cx_setId' h,cx_er h,cx_all0 h,cx_all h,CtxOk.lt h,CtxOk.ne0 h,c21,hnew,c3,c4,cB,g4,g3,a00,a75,hid,w0,Nat.le_add_right]))))
    rfl
   ·have g3n:(nxV l (bxF l s (nxA l k1)).2 3==2)=false:=by simpa using g3
    simp only [g3,if_false,List.append_nil]
    (repeat (first|refine RX_seq ?_|((first|refine sG rfl ?_|refine RX_draw rfl ?_);try (simp only [go_sem,Int.reduceToNat,Nat.reducePow,Int.reduceEq,Int.reduceNe,Int.reduceLT,Int.reduceLE,Nat.reduceAdd,Nat.reduceLeDiff,↓reduceIte,Nat.reduceLT,Nat.reduceMul,Nat.reduceSub,reduceCtorEq,frzLoc,rowCells,vAppM,beq_iff_eq,bne_iff_ne,vf121_res,vf121_keep,cx_len,cx_app,cx_own0,cx_own,cx_setOwn0,cx_setOwn,cx_take,cx_takeN,Nat.add_right_cancel_iff,Nat.lt_irrefl,cx_nlt,Nat.not_lt_zero,cx_get' h,cx_setId' h,cx_er h,cx_all0 h,cx_all h,CtxOk.lt h,CtxOk.ne0 h,c21,hnew,c3,c4,cB,g4,g3,a00,a75,hid,w0,Nat.le_add_right,g3n]))))
    rfl
  ·have g4n:(nxV l k1 4==3)=false:=by simpa using g4
   simp only [g4,if_false]
   by_cases g3:nxV l (nxA l k1) 3=2
   ·simp only [g3,if_true]
    (repeat (first|refine RX_seq ?_|((first|refine sG rfl ?_|refine RX_draw rfl ?_);try (simp only [go_sem,Int.reduceToNat,Nat.reducePow,Int.reduceEq,Int.reduceNe,Int.reduceLT,Int.reduceLE,Nat.reduceAdd,Nat.reduceLeDiff,↓reduceIte,Nat.reduceLT,Nat.reduceMul,Nat.reduceSub,reduceCtorEq,frzLoc,rowCells,vAppM,beq_iff_eq,bne_iff_ne,vf121_res,vf121_keep,cx_len,cx_app,cx_own0,cx_own,cx_setOwn0,cx_setOwn,cx_take,cx_takeN,Nat.add_right_cancel_iff,Nat.lt_irrefl,cx_nlt,Nat.not_lt_zero,cx_get' h,cx_setId' h,cx_er h,cx_all0 h,cx_all h,CtxOk.lt h,CtxOk.ne0 h,c21,hnew,c3,c4,cB,g4,g3,a00,a75,hid,w0,Nat.le_add_right,g4n]))))
    rfl
   ·have g3n:(nxV l (nxA l k1) 3==2)=false:=by simpa using g3
    simp only [g3,if_false,List.append_nil]
    (repeat (first|refine RX_seq ?_|((first|refine sG rfl ?_|refine RX_draw rfl ?_);try (simp only [go_sem,Int.reduceToNat,Nat.reducePow,Int.reduceEq,Int.reduceNe,Int.reduceLT,Int.reduceLE,Nat.reduceAdd,Nat.reduceLeDiff,↓reduceIte,Nat.reduceLT,Nat.reduceMul,Nat.reduceSub,reduceCtorEq,frzLoc,rowCells,vAppM,beq_iff_eq,bne_iff_ne,vf121_res,vf121_keep,cx_len,cx_app,cx_own0,cx_own,cx_setOwn0,cx_setOwn,cx_take,cx_takeN,Nat.add_right_cancel_iff,Nat.lt_irrefl,cx_nlt,Nat.not_lt_zero,cx_get' h,cx_setId' h,cx_er h,cx_all0 h,cx_all h,CtxOk.lt h,CtxOk.ne0 h,c21,hnew,c3,c4,cB,g4,g3,a00,a75,hid,w0,Nat.le_add_right,g4n,g3n]))))
    rfl
 ·have her:=hdb.er
  have hlb:=hdb.ltb
  have hRl:=rowCells_len3 rs
  have hRe:V.erL (rowCells (rs.map Ru.row))=rowCells (rs.map Ru.row):=erL_d _
  have hRt:∀ n,V.ltbL n (rowCells (rs.map Ru.row))=true:=fun n=>ltbL_d n _
  have hng:∀ n,¬(bl.length+n<bl.length):=fun n=>by omega
  have hle:rs.length≤1073741824:=by omega
  have hle2:rs.length+1≤1073741824:=by omega
  have hp1:0<rs.length+1:=by omega
  have e3:rs.length*3+3=(rs.length+1)*3:=by omega
  have fr1:∀ g:Ru,frzLoc (some (rowCells (rs.map Ru.row)++g.row.map .d)) 0 (rs.length+1) 3=.d (.sl (rs.map Ru.row++[g.row])):=fun g=>by
   have:=frzRows (rs++[g]);rw [rowCells_snoc] at this;simpa using this
  have fr2:∀ g e:Ru,frzLoc (some (rowCells (rs.map Ru.row)++(g.row.map .d++e.row.map .d))) 0 (rs.length+2) 3=.d (.sl (rs.map Ru.row++[g.row,e.row])):=fun g e=>by
   have:=frzRows ((rs++[g])++[e]);rw [rowCells_snoc,rowCells_snoc] at this;simpa using this
  have erA:∀ cs,V.erL (rowCells (rs.map Ru.row)++cs)=rowCells (rs.map Ru.row)++V.erL cs:=fun cs=>by
   rw [V.erL_eq,List.map_append,← V.erL_eq,← V.erL_eq,hRe]
  have ltA:∀ n cs,V.ltbL n (rowCells (rs.map Ru.row)++cs)=V.ltbL n cs:=fun n cs=>ltbL_app (hRt n) cs
  generalize rowCells (rs.map Ru.row)=R at *
  simp only [List.append_assoc,List.cons_append,List.nil_append,List.length_append,List.length_cons,List.length_nil,Nat.zero_add] at hnew
  unfold goldF endF
  rw [hal]
  by_cases g4:nxV l k1 4=3
  ·simp only [g4,if_true]
   have wI:IntKind.i64.wrap (((rs.length+1:Nat):Int)-1)=(rs.length:Int):=by rw [w_in (by omega) (by omega)];omega
   have ltI:rs.length<rs.length+1:=Nat.lt_succ_self _
   have st1:rs.length*3+2+1≤rs.length*3+3:=by omega
   have tk:∀ (xs:List V),List.take (rs.length*3+2) (R++xs)=R++xs.take 2:=fun xs=>by rw [← hRl,List.take_append,List.take_of_length_le (by omega),Nat.add_sub_cancel_left]
   have dr3:∀ (xs:List V),List.drop ((rs.length+1)*3) (R++xs)=xs.drop 3:=fun xs=>by rw [show (rs.length+1)*3=R.length+3 by omega,List.drop_append,List.drop_eq_nil_of_le (by omega),List.nil_append];congr 1;omega
   have f1:=fr1 ⟨2,gold,[(bxF l s (nxA l k1)).1,al]⟩
   have f2:=fr2 ⟨2,gold,[(bxF l s (nxA l k1)).1,al]⟩ ⟨1,⟨#[]⟩,[bypass]⟩
   simp only [Ru.row,gold,bypass,List.map_cons,List.map_nil,List.cons_append,List.nil_append] at f1 f2
   by_cases g3:nxV l (bxF l s (nxA l k1)).2 3=2
   ·simp only [g3,if_true]
    (repeat (first|refine RX_seq ?_|((first|refine sG rfl ?_|refine RX_draw rfl ?_);try (simp only [go_sem,Int.reduceToNat,Nat.reducePow,Int.reduceEq,Int.reduceNe,Int.reduceLT,Int.reduceLE,Nat.reduceAdd,Nat.reduceLeDiff,↓reduceIte,Nat.reduceLT,Nat.reduceMul,Nat.reduceSub,reduceCtorEq,rowCells,vAppM,beq_iff_eq,bne_iff_ne,vf121_res,vf121_keep,cx_len,cx_app,cx_own0,cx_own,cx_setOwn0,cx_setOwn,cx_take,cx_takeN,Nat.add_right_cancel_iff,Nat.lt_irrefl,cx_nlt,Nat.not_lt_zero,cx_get' h,cx_setId' h,cx_er h,cx_all0 h,cx_all h,CtxOk.lt h,CtxOk.ne0 h,c21,hnew,c3,c4,cB,g4,g3,a00,a75,hid,w0,Nat.le_add_right,List.append_assoc,List.map_append,List.all_append,her,hlb,hRe,hRt,gA0,gA,sA0,sA,List.length_append,h0,hle,hle2,hp1,hRl,hng,f1,f2,erA,ltA,e3,wI,ltI,st1,tk,dr3]))))
    rfl
   ·have g3n:(nxV l (bxF l s (nxA l k1)).2 3==2)=false:=by simpa using g3
    simp only [g3,if_false,List.append_nil]
    (repeat (first|refine RX_seq ?_|((first|refine sG rfl ?_|refine RX_draw rfl ?_);try (simp only [go_sem,Int.reduceToNat,Nat.reducePow,Int.reduceEq,Int.reduceNe,Int.reduceLT,Int.reduceLE,Nat.reduceAdd,Nat.reduceLeDiff,↓reduceIte,Nat.reduceLT,Nat.reduceMul,Nat.reduceSub,reduceCtorEq,rowCells,vAppM,beq_iff_eq,bne_iff_ne,vf121_res,vf121_keep,cx_len,cx_app,cx_own0,cx_own,cx_setOwn0,cx_setOwn,cx_take,cx_takeN,Nat.add_right_cancel_iff,Nat.lt_irrefl,cx_nlt,Nat.not_lt_zero,cx_get' h,cx_setId' h,cx_er h,cx_all0 h,cx_all h,CtxOk.lt h,CtxOk.ne0 h,c21,hnew,c3,c4,cB,g4,g3,a00,a75,hid,w0,Nat.le_add_right,g3n,List.append_assoc,List.map_append,List.all_append,her,hlb,hRe,hRt,gA0,gA,sA0,sA,List.length_append,h0,hle,hle2,hp1,hRl,hng,f1,f2,erA,ltA,e3,wI,ltI,st1,tk,dr3]))))
    rfl
  ·have g4n:(nxV l k1 4==3)=false:=by simpa using g4
   simp only [g4,if_false]
   have f1:=fr1 ⟨2,gold,[al]⟩
   have f2:=fr2 ⟨2,gold,[al]⟩ ⟨1,⟨#[]⟩,[bypass]⟩
   simp only [Ru.row,gold,bypass,List.map_cons,List.map_nil,List.cons_append,List.nil_append] at f1 f2
   by_cases g3:nxV l (nxA l k1) 3=2
   ·simp only [g3,if_true]
    (repeat (first|refine RX_seq ?_|((first|refine sG rfl ?_|refine RX_draw rfl ?_);try (simp only [go_sem,Int.reduceToNat,Nat.reducePow,Int.reduceEq,Int.reduceNe,Int.reduceLT,Int.reduceLE,Nat.reduceAdd,Nat.reduceLeDiff,↓reduceIte,Nat.reduceLT,Nat.reduceMul,Nat.reduceSub,reduceCtorEq,rowCells,vAppM,beq_iff_eq,bne_iff_ne,vf121_res,vf121_keep,cx_len,cx_app,cx_own0,cx_own,cx_setOwn0,cx_setOwn,cx_take,cx_takeN,Nat.add_right_cancel_iff,Nat.lt_irrefl,cx_nlt,Nat.not_lt_zero,cx_get' h,cx_setId' h,cx_er h,cx_all0 h,cx_all h,CtxOk.lt h,CtxOk.ne0 h,c21,hnew,c3,c4,cB,g4,g3,a00,a75,hid,w0,Nat.le_add_right,g4n,List.append_assoc,List.map_append,List.all_append,her,hlb,hRe,hRt,gA0,gA,sA0,sA,List.length_append,h0,hle,hle2,hp1,hRl,hng,f1,f2,erA,ltA,e3]))))
    rfl
   ·have g3n:(nxV l (nxA l k1) 3==2)=false:=by simpa using g3
    simp only [g3,if_false,List.append_nil]
    (repeat (first|refine RX_seq ?_|((first|refine sG rfl ?_|refine RX_draw rfl ?_);try (simp only [go_sem,Int.reduceToNat,Nat.reducePow,Int.reduceEq,Int.reduceNe,Int.reduceLT,Int.reduceLE,Nat.reduceAdd,Nat.reduceLeDiff,↓reduceIte,Nat.reduceLT,Nat.reduceMul,Nat.reduceSub,reduceCtorEq,rowCells,vAppM,beq_iff_eq,bne_iff_ne,vf121_res,vf121_keep,cx_len,cx_app,cx_own0,cx_own,cx_setOwn0,cx_setOwn,cx_take,cx_takeN,Nat.add_right_cancel_iff,Nat.lt_irrefl,cx_nlt,Nat.not_lt_zero,cx_get' h,cx_setId' h,cx_er h,cx_all0 h,cx_all h,CtxOk.lt h,CtxOk.ne0 h,c21,hnew,c3,c4,cB,g4,g3,a00,a75,hid,w0,Nat.le_add_right,g4n,g3n,List.append_assoc,List.map_append,List.all_append,her,hlb,hRe,hRt,gA0,gA,sA0,sA,List.length_append,h0,hle,hle2,hp1,hRl,hng,f1,f2,erA,ltA,e3]))))
    rfl
def lessA (f h a f' h' b:Int):Bool:=if f=f' then (if h=h' then decide (a<b) else decide (h<h')) else decide (f<f')
theorem e109 (f h a f' h' b:Int):CV VP 235 [.agg [.d (I f),.d (U h),.d (U a)],.agg [.d (I f'),.d (U h'),.d (U b)]] []=some ⟨.d (B (lessA f h a f' h' b)),[],[],0⟩:=by
 refine CV_run (vf:=vf235) rfl rfl ?_
 rw [vf235_start]
 (repeat' (first
  |refine RX_seq ?_
  |((first|refine sG rfl ?_|refine RX_draw rfl ?_|refine ite_ngo (fun _=>?_) (fun _=>?_)|refine ite_go (fun _=>?_) (fun _=>?_))<;>try (simp only [go_sem,Int.reduceToNat,Nat.reducePow,Int.reduceEq,Int.reduceNe,Int.reduceLT,Int.reduceLE,Nat.reduceAdd,Nat.reduceLeDiff,↓reduceIte,Nat.reduceLT,Nat.reduceMul,Nat.reduceSub,reduceCtorEq,frzLoc,rowCells,vAppM,ibeq,ibne,bbeq,decide_eq_false_iff_not,decide_not,Bool.not_not,Decidable.not_not,Bool.not_eq_eq_eq_not,gt_iff_lt,ge_iff_le,and_false,false_and,or_self,and_self,vf235_res,vf235_keep,lessA, *]))))
theorem e123 (f h a f' h' b:Int):CV VP 290 [.agg [.d (I f),.d (U h),.d (U a)],.agg [.d (I f'),.d (U h'),.d (U b)]] []=some ⟨.d (B (lessA f h a f' h' b)),[],[],0⟩:=by
 refine CV_run (vf:=vf290) rfl rfl ?_
 rw [vf290_start]
 (repeat' (first
  |refine RX_seq ?_
  |((first|refine sG rfl ?_|refine RX_draw rfl ?_|refine ite_ngo (fun _=>?_) (fun _=>?_)|refine ite_go (fun _=>?_) (fun _=>?_))<;>try (simp only [go_sem,Int.reduceToNat,Nat.reducePow,Int.reduceEq,Int.reduceNe,Int.reduceLT,Int.reduceLE,Nat.reduceAdd,Nat.reduceLeDiff,↓reduceIte,Nat.reduceLT,Nat.reduceMul,Nat.reduceSub,reduceCtorEq,frzLoc,rowCells,vAppM,ibeq,ibne,bbeq,decide_eq_false_iff_not,decide_not,Bool.not_not,Decidable.not_not,Bool.not_eq_eq_eq_not,gt_iff_lt,ge_iff_le,and_false,false_and,or_self,and_self,vf290_res,vf290_keep,lessA, *]))))
theorem e108 (f h a f' h' b:Int):CV VP 265 [.agg [.d (I f),.d (U h),.d (U a)],.agg [.d (I f'),.d (U h'),.d (U b)]] []=some ⟨.d (B (lessA f h a f' h' b)),[],[],0⟩:=by
 refine CV_run (vf:=vf265) rfl rfl ?_
 rw [vf265_start]
 (repeat' (first
  |refine RX_seq ?_
  |((first|refine sG rfl ?_|refine RX_draw rfl ?_|refine ite_ngo (fun _=>?_) (fun _=>?_)|refine ite_go (fun _=>?_) (fun _=>?_))<;>try (simp only [go_sem,Int.reduceToNat,Nat.reducePow,Int.reduceEq,Int.reduceNe,Int.reduceLT,Int.reduceLE,Nat.reduceAdd,Nat.reduceLeDiff,↓reduceIte,Nat.reduceLT,Nat.reduceMul,Nat.reduceSub,reduceCtorEq,frzLoc,rowCells,vAppM,ibeq,ibne,bbeq,decide_eq_false_iff_not,decide_not,Bool.not_not,Decidable.not_not,Bool.not_eq_eq_eq_not,gt_iff_lt,ge_iff_le,and_false,false_and,or_self,and_self,vf265_res,vf265_keep,e123, *]))))
theorem e107 (f h a:Int):CV VP 264 [.agg [.d (I f),.d (U h),.d (U a)]] []=some ⟨.d (B (decide (validP f h a))),[],[],0⟩:=by
 refine CV_run (vf:=vf264) rfl rfl ?_
 rw [vf264_start]
 (repeat' (first
  |refine RX_seq ?_
  |((first|refine sG rfl ?_|refine RX_draw rfl ?_|refine ite_ngo (fun _=>?_) (fun _=>?_)|refine ite_go (fun _=>?_) (fun _=>?_))<;>try (simp only [go_sem,Int.reduceToNat,Nat.reducePow,Int.reduceEq,Int.reduceNe,Int.reduceLT,Int.reduceLE,Nat.reduceAdd,Nat.reduceLeDiff,↓reduceIte,Nat.reduceLT,Nat.reduceMul,Nat.reduceSub,reduceCtorEq,frzLoc,rowCells,vAppM,ibeq,ibne,bbeq,decide_eq_false_iff_not,decide_not,Bool.not_not,Decidable.not_not,Bool.not_eq_eq_eq_not,gt_iff_lt,ge_iff_le,and_false,false_and,or_self,and_self,vf264_res,vf264_keep,validP, *]))))
def rangeP (p q:Int):Prop:=-1≤p∧q≤65535∧p≤q
instance (p q:Int):Decidable (rangeP p q):=by unfold rangeP;infer_instance
theorem e110 (p q:Int):CV VP 238 [.agg [.d (I p),.d (I q)]] []=some ⟨.d (B (decide (rangeP p q))),[],[],0⟩:=by
 refine CV_run (vf:=vf238) rfl rfl ?_
 rw [vf238_start]
 (repeat' (first
  |refine RX_seq ?_
  |((first|refine sG rfl ?_|refine RX_draw rfl ?_|refine ite_ngo (fun _=>?_) (fun _=>?_)|refine ite_go (fun _=>?_) (fun _=>?_))<;>try (simp only [go_sem,Int.reduceToNat,Nat.reducePow,Int.reduceEq,Int.reduceNe,Int.reduceLT,Int.reduceLE,Nat.reduceAdd,Nat.reduceLeDiff,↓reduceIte,Nat.reduceLT,Nat.reduceMul,Nat.reduceSub,reduceCtorEq,frzLoc,rowCells,vAppM,ibeq,ibne,bbeq,decide_eq_false_iff_not,decide_not,Bool.not_not,Decidable.not_not,Bool.not_eq_eq_eq_not,gt_iff_lt,ge_iff_le,and_false,false_and,or_self,and_self,vf238_res,vf238_keep,rangeP, *]))))
def chk (f0 h0 a0 f1 h1 a1 f2 h2 a2 f3 h3 a3 p0 p1 l0 l1 r0 r1:Int):Int:=
 if validP f0 h0 a0∧(validP f1 h1 a1∧f1=f0)∧(validP f2 h2 a2∧f2=f0)∧(validP f3 h3 a3∧f3=f0) then
  (if lessA f1 h1 a1 f0 h0 a0=true∨lessA f3 h3 a3 f2 h2 a2=true∨p0<0∨255<p1∨p1<p0∨¬rangeP l0 l1∨¬rangeP r0 r1 then 5 else 0) else 15
set_option maxHeartbeats 4000000 in
theorem e90 (f0 h0 a0 f1 h1 a1 f2 h2 a2 f3 h3 a3 p0 p1 l0 l1 r0 r1:Int) :
  CV VP 210 [.agg [.d (I f0),.d (U h0),.d (U a0),.d (I f1),.d (U h1),.d (U a1),.d (I f2),.d (U h2),.d (U a2),.d (I f3),.d (U h3),.d (U a3),.d (I p0),.d (I p1),.d (I l0),.d (I l1),.d (I r0),.d (I r1)]] [] =
   some ⟨.d (I (chk f0 h0 a0 f1 h1 a1 f2 h2 a2 f3 h3 a3 p0 p1 l0 l1 r0 r1)),[],[],0⟩:=by
 have w0:IntKind.i64.wrap (0+1)=1:=rfl
 have w1:IntKind.i64.wrap (1+1)=2:=rfl
 have w2:IntKind.i64.wrap (2+1)=3:=rfl
 have w3:IntKind.i64.wrap (3+1)=4:=rfl
 refine CV_run (vf:=vf210) rfl rfl ?_
 rw [vf210_start]
 (repeat' (first
  |refine RX_seq ?_
  |((first|refine sG rfl ?_|refine RX_draw rfl ?_|refine ite_ngo (fun _=>?_) (fun _=>?_)|refine ite_go (fun _=>?_) (fun _=>?_))<;>try (simp only [go_sem,Int.reduceToNat,Nat.reducePow,Int.reduceEq,Int.reduceNe,Int.reduceLT,Int.reduceLE,Nat.reduceAdd,Nat.reduceLeDiff,↓reduceIte,Nat.reduceLT,Nat.reduceMul,Nat.reduceSub,reduceCtorEq,frzLoc,rowCells,vAppM,ibeq,ibne,bbeq,decide_eq_false_iff_not,decide_not,Bool.not_not,Decidable.not_not,Bool.not_eq_eq_eq_not,gt_iff_lt,ge_iff_le,and_false,false_and,or_self,and_self,vf210_res,vf210_keep,chk,e83,e109,e110, *]))
  |(refine RL_head ?_;simp only [go_sem,Int.reduceToNat,Nat.reducePow,Int.reduceEq,Int.reduceNe,Int.reduceLT,Int.reduceLE,Nat.reduceAdd,Nat.reduceLeDiff,↓reduceIte,Nat.reduceLT,Nat.reduceMul,Nat.reduceSub,reduceCtorEq,frzLoc,rowCells,vAppM,ibeq,ibne,bbeq,decide_eq_false_iff_not,decide_not,Bool.not_not,Decidable.not_not,Bool.not_eq_eq_eq_not,gt_iff_lt,ge_iff_le,and_false,false_and,or_self,and_self,vf210_res,vf210_keep,chk,e83,e109,e110, *,St.head,forget,vf210K0,RLK_some];refine vf210L0_go ?_)
  |refine RX_loop ?_))
theorem rangeP_alt (p q:Int):rangeP p q=(¬p < -1∧¬65535<q∧¬q<p):=by
 unfold rangeP;simp only [Int.not_lt]
set_option maxHeartbeats 4000000 in
theorem e88 (f0 h0 a0 f1 h1 a1 f2 h2 a2 f3 h3 a3 p0 p1 l0 l1 r0 r1:Int) :
  CV VP 226 [.agg [.d (I f0),.d (U h0),.d (U a0),.d (I f1),.d (U h1),.d (U a1),.d (I f2),.d (U h2),.d (U a2),.d (I f3),.d (U h3),.d (U a3),.d (I p0),.d (I p1),.d (I l0),.d (I l1),.d (I r0),.d (I r1)]] [] =
   some ⟨.d (I (chk f0 h0 a0 f1 h1 a1 f2 h2 a2 f3 h3 a3 p0 p1 l0 l1 r0 r1)),[],[],0⟩:=by
 have w0:IntKind.i64.wrap (0+1)=1:=rfl
 have w1:IntKind.i64.wrap (1+1)=2:=rfl
 have w2:IntKind.i64.wrap (2+1)=3:=rfl
 have w3:IntKind.i64.wrap (3+1)=4:=rfl
 refine CV_run (vf:=vf226) rfl rfl ?_
 rw [vf226_start]
 (repeat' (first
  |refine RX_seq ?_
  |((first|refine sG rfl ?_|refine RX_draw rfl ?_|refine ite_ngo (fun _=>?_) (fun _=>?_)|refine ite_go (fun _=>?_) (fun _=>?_))<;>try (simp only [go_sem,Int.reduceToNat,Nat.reducePow,Int.reduceEq,Int.reduceNe,Int.reduceLT,Int.reduceLE,Nat.reduceAdd,Nat.reduceLeDiff,↓reduceIte,Nat.reduceLT,Nat.reduceMul,Nat.reduceSub,reduceCtorEq,frzLoc,rowCells,vAppM,ibeq,ibne,bbeq,decide_eq_false_iff_not,decide_not,Bool.not_not,Decidable.not_not,Bool.not_eq_eq_eq_not,gt_iff_lt,ge_iff_le,and_false,false_and,or_self,and_self,vf226_res,vf226_keep,chk,e107,e108,rangeP_alt, *]))
  |(refine RL_head ?_;simp only [go_sem,Int.reduceToNat,Nat.reducePow,Int.reduceEq,Int.reduceNe,Int.reduceLT,Int.reduceLE,Nat.reduceAdd,Nat.reduceLeDiff,↓reduceIte,Nat.reduceLT,Nat.reduceMul,Nat.reduceSub,reduceCtorEq,frzLoc,rowCells,vAppM,ibeq,ibne,bbeq,decide_eq_false_iff_not,decide_not,Bool.not_not,Decidable.not_not,Bool.not_eq_eq_eq_not,gt_iff_lt,ge_iff_le,and_false,false_and,or_self,and_self,vf226_res,vf226_keep,chk,e107,e108,rangeP_alt, *,St.head,forget,vf226K0,RLK_some];refine vf226L0_go ?_)
  |(refine RL_head ?_;simp only [go_sem,Int.reduceToNat,Nat.reducePow,Int.reduceEq,Int.reduceNe,Int.reduceLT,Int.reduceLE,Nat.reduceAdd,Nat.reduceLeDiff,↓reduceIte,Nat.reduceLT,Nat.reduceMul,Nat.reduceSub,reduceCtorEq,frzLoc,rowCells,vAppM,ibeq,ibne,bbeq,decide_eq_false_iff_not,decide_not,Bool.not_not,Decidable.not_not,Bool.not_eq_eq_eq_not,gt_iff_lt,ge_iff_le,and_false,false_and,or_self,and_self,vf226_res,vf226_keep,chk,e107,e108,rangeP_alt, *,St.head,forget,vf226K1,RLK_some];refine vf226L1_go ?_)
  |refine RX_loop ?_))
theorem c122g:CV VP 209 [.d (.lit (.string gold))] []=some ⟨.d (B true),[],[],0⟩:=CV_C 400 (by kernel_rfl)
theorem c122s:CV VP 209 [.d (.lit (.string silver))] []=some ⟨.d (B true),[],[],0⟩:=CV_C 400 (by kernel_rfl)
theorem chk_fine {b:Bx} (ho:b.ok) (hf:b.fine):chk b.f b.h b.a0 b.f b.h b.b0 b.f b.h b.a1 b.f b.h b.b1 b.p0 b.p1 b.l0 b.l1 b.r0 b.r1=0:=by
 obtain ⟨h1,h2,h3,h4,h5,h6,h7⟩:=ho
 obtain ⟨k1,k2,k3,k4,k5,k6,k7,k8,k9,k10,k11⟩:=hf
 unfold num at *
 unfold chk
 rw [if_pos,if_neg]
 ·simp only [lessA,if_true,decide_eq_true_eq,rangeP]
  omega
 ·unfold validP
  refine ⟨?_,⟨?_,rfl⟩,⟨?_,rfl⟩,⟨?_,rfl⟩⟩<;>omega
structure Ru.fine (r:Ru):Prop where
 act:(r.act=2∧(r.tm=gold∨r.tm=silver))∨((r.act=0∨r.act=1)∧r.tm=⟨#[]⟩)
 pos:0<r.bs.length
 len:r.bs.length≤16
 bs:∀ b∈r.bs,b.ok∧b.fine
set_option maxHeartbeats 4000000 in
theorem e105 (rs:List Ru) (hl:rs.length≤24) (hr:∀ r∈rs,r.fine):CV VP 191 [.d (.sl (rs.map Ru.row))] []=some ⟨.d (I 0),[],[],0⟩:=by
 have hl2:¬(24:Int)<(rs.length:Int):=by omega
 refine CV_run (vf:=vf191) rfl rfl ?_
 rw [vf191_start]
 (repeat' (first
  |refine RX_seq ?_
  |((first|refine sG rfl ?_|refine RX_draw rfl ?_|refine ite_ngo (fun _=>?_) (fun _=>?_)|refine ite_go (fun _=>?_) (fun _=>?_))<;>try (simp only [go_sem,Int.reduceToNat,Nat.reducePow,Int.reduceEq,Int.reduceNe,Int.reduceLT,Int.reduceLE,Nat.reduceAdd,Nat.reduceLeDiff,↓reduceIte,Nat.reduceLT,Nat.reduceMul,Nat.reduceSub,reduceCtorEq,frzLoc,rowCells,vAppM,ibeq,ibne,bbeq,decide_eq_false_iff_not,decide_not,Bool.not_not,Decidable.not_not,Bool.not_eq_eq_eq_not,gt_iff_lt,ge_iff_le,and_false,false_and,or_self,and_self,vf191_res,vf191_keep,List.length_map, *]))))
 refine RX_loopN (n:=0) rfl ?_
 refine RL_ind (fun m st=>∃ (i:Nat),i+m=rs.length∧At vf191K0 0 st ((.d (.sl (rs.map Ru.row))::.any::.any::.d (I (i:Nat))::.any::.any::.any::.any::.any::.any::.any::.any::.any::.any::.any::.any::.any::.any::.any::.any::.any::.any::.any::.any::.any::.any::.any::.any::.any::.any::.any::.any::.any::.any::.any::.any::.any::.any::.any::.any::.any::.any::.any::.any::.any::.any::.any::.any::.any::.any::.any::.any::.any::.any::.any::.any::.any::.any::.any::.any::.any::.any::.any::.any::.any::.any::.any::.any::.any::.any::.any::.any::.any::.any::.any::[])) [] [] 0 0) ?_ rs.length _ ⟨0,Nat.zero_add _,rfl,rfl,rfl,rfl,rfl,rfl⟩
 rintro m st ⟨i,hi,hat⟩ ih
 refine RL_at hat rfl rfl (vf191L0_go ?_)
 clear hat
 cases m with
 |zero=>
  have h1:¬i<rs.length:=by omega
  (repeat' (first
  |refine RX_seq ?_
  |((first|refine sG rfl ?_|refine RX_draw rfl ?_|refine ite_ngo (fun _=>?_) (fun _=>?_)|refine ite_go (fun _=>?_) (fun _=>?_))<;>try (simp only [go_sem,Int.reduceToNat,Nat.reducePow,Int.reduceEq,Int.reduceNe,Int.reduceLT,Int.reduceLE,Nat.reduceAdd,Nat.reduceLeDiff,↓reduceIte,Nat.reduceLT,Nat.reduceMul,Nat.reduceSub,reduceCtorEq,frzLoc,rowCells,vAppM,ibeq,ibne,bbeq,decide_eq_false_iff_not,decide_not,Bool.not_not,Decidable.not_not,Bool.not_eq_eq_eq_not,gt_iff_lt,ge_iff_le,and_false,false_and,or_self,and_self,vf191_res,vf191_keep,List.length_map, *]))))
 |succ m=>
  have h1:i<rs.length:=by omega
  obtain ⟨r,hri⟩:∃ r,rs[i]?=some r:=⟨_,List.getElem?_eq_getElem h1⟩
  have hrow:(rs.map Ru.row)[i]?=some r.row:=by rw [List.getElem?_map,hri];rfl
  have hrf:=hr r (List.mem_of_getElem? hri)
  have hwi:=w_nat (i:=i) (by omega)
  have next:=fun st hat=>ih m st (Nat.lt_succ_self m) ⟨i+1,by omega,hat⟩
  clear ih hr hri hi
  have hp:=hrf.pos
  have hbl:=hrf.len
  have g0:¬(r.bs.length:Int)=0:=by omega
  have g1:¬(16:Int)<(r.bs.length:Int):=by omega
  have inner:∀ st0,At vf191K1 1 st0 ((.d (.sl (rs.map Ru.row))::.any::.any::.d (I (i:Nat))::.ptr 0 0::.d (I ((0:Nat):Int))::.any::.any::.any::.any::.any::.any::.any::.any::.any::.any::.any::.any::.any::.any::.any::.any::.any::.any::.any::.any::.any::.any::.any::.any::.any::.any::.any::.any::.any::.any::.any::.any::.any::.any::.any::.any::.any::.any::.any::.any::.any::.any::.any::.any::.any::.any::.any::.any::.any::.any::.any::.any::.any::.any::.any::.any::.any::.any::.any::.any::.any::.any::.any::.any::.any::.any::.any::.any::.any::[])) [r.row.map .d] [] 0 0 →
    RL VP vf191K1 vf191L1 1 st0 (outQ 3 (outQ 1 (thn VP (.reg [⟨some 14,.mov (.t 3),none⟩,⟨some 15,.bin .add (.t 14) (.c (.d (.lit (.int .i64 1)))),none⟩,⟨some 3,.mov (.t 15),none⟩]) (again VP vf191K0 vf191L0 0 (outQ 0 (thn VP ((VCode.reg [⟨some 2,.mov (.c (.d (.lit (.int .i64 0)))),none⟩]).seq .ret) (retQ vf191 0 ⟨.d (I 0),[],[],0⟩))))))):=by
   intro st0 hat0
   refine RL_ind (fun m st=>∃ (k:Nat),k+m=r.bs.length∧At vf191K1 1 st ((.d (.sl (rs.map Ru.row))::.any::.any::.d (I (i:Nat))::.ptr 0 0::.d (I (k:Nat))::.any::.any::.any::.any::.any::.any::.any::.any::.any::.any::.any::.any::.any::.any::.any::.any::.any::.any::.any::.any::.any::.any::.any::.any::.any::.any::.any::.any::.any::.any::.any::.any::.any::.any::.any::.any::.any::.any::.any::.any::.any::.any::.any::.any::.any::.any::.any::.any::.any::.any::.any::.any::.any::.any::.any::.any::.any::.any::.any::.any::.any::.any::.any::.any::.any::.any::.any::.any::.any::[])) [r.row.map .d] [] 0 0) ?_ r.bs.length _ ⟨0,Nat.zero_add _,hat0⟩
   rintro m2 st2 ⟨k,hk,hat2⟩ ih2
   refine RL_at hat2 rfl rfl (vf191L1_go ?_)
   clear hat2 hat0
   cases m2 with
   |zero=>
    have k1:¬k<r.bs.length:=by omega
    clear ih2
    (repeat (first|refine RX_seq ?_|((first|refine sG rfl ?_|refine RX_draw rfl ?_);try (simp only [go_sem,simprocAttr,frzLoc,rowCells,vAppM,beq_iff_eq,bne_iff_ne,vf191_res,vf191_keep,List.length_map,k1,hwi]))))
    exact next _ ⟨rfl,rfl,rfl,rfl,rfl,rfl⟩
   |succ m2=>
    have k1:k<r.bs.length:=by omega
    obtain ⟨b,hbk⟩:∃ b,r.bs[k]?=some b:=⟨_,List.getElem?_eq_getElem k1⟩
    have hbrow:(r.bs.map Bx.row)[k]?=some b.row:=by rw [List.getElem?_map,hbk];rfl
    have hb:=hrf.bs b (List.mem_of_getElem? hbk)
    have h90:=e90 b.f b.h b.a0 b.f b.h b.b0 b.f b.h b.a1 b.f b.h b.b1 b.p0 b.p1 b.l0 b.l1 b.r0 b.r1
    rw [chk_fine hb.1 hb.2] at h90
    have hwk:=w_nat (i:=k) (by omega)
    (repeat (first|refine RX_seq ?_|((first|refine sG rfl ?_|refine RX_draw rfl ?_);try (simp only [go_sem,simprocAttr,frzLoc,rowCells,vAppM,beq_iff_eq,bne_iff_ne,vf191_res,vf191_keep,List.length_map,k1,hbrow,h90,hwk]))))
    exact ih2 m2 _ (Nat.lt_succ_self m2) ⟨k+1,by omega,rfl,rfl,rfl,rfl,rfl,rfl⟩
  clear next
  have c122g:=c122g
  have c122s:=c122s
  obtain ⟨act,tm,bs⟩:=r
  have hf:=hrf.act
  clear hrf
  simp only at *
  rcases hf with ⟨rfl,rfl|rfl⟩|⟨rfl|rfl,rfl⟩
  all_goals
   simp only [gold,silver] at *
   (repeat (first|refine RX_seq ?_|((first|refine sG rfl ?_|refine RX_draw rfl ?_);try (simp only [go_sem,simprocAttr,frzLoc,rowCells,vAppM,beq_iff_eq,bne_iff_ne,vf191_res,vf191_keep,List.length_map,h1,hrow,c122g,c122s,g0,g1,gt_iff_lt,ibeq,vStr]))))
   refine RX_loopN (n:=1) rfl ?_
   exact inner _ ⟨rfl,rfl,rfl,rfl,rfl,rfl⟩
structure Gw where
 id:Int
 peer:Int
 loc:Int
 rem:Int
 rules:List Ru
 groups:List Int
 now:Int
 count:Int
 guard:Tm
 vault:Tm
 redir:Int
 half:List (List D)
 sas:List (List D)
 kids:List (List D)
 tickets:List (List D)
def numRow (n:Int):List D:=[I n]
abbrev Gw.cells (g:Gw):List D:=[I g.id,I g.peer,I g.loc,I g.rem,.sl (g.rules.map Ru.row),.sl (g.groups.map numRow),I g.now,I g.count,I g.guard.op,I g.guard.val,.sl (g.guard.args.map Tm.row),I g.vault.op,I g.vault.val,.sl (g.vault.args.map Tm.row),I g.redir,.sl g.half,.sl g.sas,.sl g.kids,.sl g.tickets]
abbrev Gw.ag (g:Gw):V:=.agg (g.cells.map .d)
def gNm (a b:Int):Tm:=.mk 2 (w (w (a*1048576)+b)) []
theorem gNm_op (a b:Int):(gNm a b).op=2:=rfl
theorem gNm_val (a b:Int):(gNm a b).val=w (w (a*1048576)+b):=rfl
theorem gNm_args (a b:Int):(gNm a b).args=[]:=rfl
theorem e16 (g:Gw):CV VP 144 [g.ag] []=some ⟨.tup [({ g with count:=w (g.count+1) }:Gw).ag,(gNm g.id (w (g.count+1))).ag],[],[],0⟩:=by
 simp only [Gw.ag,Gw.cells,List.map_cons,List.map_nil,Tm.ag,gNm_op,gNm_val,gNm_args]
 refine CV_run (vf:=vf144) rfl rfl ?_
 rw [vf144_start]
 (repeat' (first
  |refine RX_seq ?_
  |((first|refine sG rfl ?_|refine RX_draw rfl ?_|refine ite_ngo (fun _=>?_) (fun _=>?_)|refine ite_go (fun _=>?_) (fun _=>?_))<;>try (simp only [go_sem,Int.reduceToNat,Nat.reducePow,Int.reduceEq,Int.reduceNe,Int.reduceLT,Int.reduceLE,Nat.reduceAdd,Nat.reduceLeDiff,↓reduceIte,Nat.reduceLT,Nat.reduceMul,Nat.reduceSub,reduceCtorEq,frzLoc,rowCells,vAppM,ibeq,ibne,bbeq,decide_eq_false_iff_not,decide_not,Bool.not_not,Decidable.not_not,Bool.not_eq_eq_eq_not,gt_iff_lt,ge_iff_le,and_false,false_and,or_self,and_self,vf144_res,vf144_keep,e70, *]))))
def gwN (i l r:Int) (rs:List Ru) (gs:List Int):Gw:=⟨i,1-i,l,r,rs,gs,0,2,gNm i 1,gNm i 2,0,[],[],[],[]⟩
theorem rows3' (rs:List Ru):∀ r∈rs.map Ru.row,r.length=3:=by
 intro r hr
 obtain ⟨t,_,rfl⟩:=List.mem_map.1 hr
 rfl
theorem rows1 (gs:List Int):∀ r∈gs.map numRow,r.length=1:=by
 intro r hr
 obtain ⟨t,_,rfl⟩:=List.mem_map.1 hr
 rfl
set_option maxHeartbeats 4000000 in
theorem e84 (i l r:Int) (rs:List Ru) (gs:List Int) (hi:i=0∨i=1) (hl:0<l) (hr:0<r) (hg:0<gs.length) (hg4:gs.length≤4) (hrl:rs.length≤24) (hrf:∀ r∈rs,r.fine) :
  CV VP 120 [.d (I i),.d (I l),.d (I r),.d (.sl (rs.map Ru.row)),.d (.sl (gs.map numRow))] []=some ⟨.tup [(gwN i l r rs gs).ag,.d (I 0)],[],[],0⟩:=by
 have h105:=e105 rs hrl hrf
 have hl2:¬l≤0:=by omega
 have hr2:¬r≤0:=by omega
 have hg2:¬(gs.length:Int)=0:=by omega
 have hg3:¬(4:Int)<(gs.length:Int):=by omega
 have hrl2:rs.length≤4294967296:=by omega
 have hgl2:gs.length≤4294967296:=by omega
 have hra:(rs.map Ru.row).all (fun r=>r.length==3)=true:=by rw [List.all_eq_true];intro r hr;simpa using rows3' _ r hr
 have hga:(gs.map numRow).all (fun r=>r.length==1)=true:=by rw [List.all_eq_true];intro r hr;simpa using rows1 _ r hr
 have h16:=e16 ⟨i,1-i,l,r,rs,gs,0,0,.mk 0 0 [],.mk 0 0 [],0,[],[],[],[]⟩
 have h16b:=e16 ⟨i,1-i,l,r,rs,gs,0,1,.mk 0 0 [],.mk 0 0 [],0,[],[],[],[]⟩
 have w1:w (0+1)=1:=rfl
 have w2:w (1+1)=2:=rfl
 have wi:IntKind.i64.wrap (1-i)=1-i:=w_in (by omega) (by omega)
 simp only [Gw.ag,Gw.cells,gwN,List.map_cons,List.map_nil,Tm.ag,gNm_op,gNm_val,gNm_args,Tm.op_mk,Tm.val_mk,Tm.args_mk,w1,w2] at h16 h16b ⊢
 refine CV_run (vf:=vf120) rfl rfl ?_
 rw [vf120_start]
 have hz:¬(1:Int)=0:=by decide
 rcases hi with rfl|rfl
 all_goals
  (repeat (first|refine RX_seq ?_|((first|refine sG rfl ?_|refine RX_draw rfl ?_);try (simp only [go_sem,Int.reduceToNat,Nat.reducePow,Int.reduceEq,Int.reduceNe,Int.reduceLT,Int.reduceLE,Nat.reduceAdd,Nat.reduceLeDiff,↓reduceIte,Nat.reduceLT,Nat.reduceMul,Nat.reduceSub,reduceCtorEq,frzLoc,rowCells,vAppM,beq_iff_eq,bne_iff_ne,vf120_res,vf120_keep,ibeq,ibne,gt_iff_lt,List.length_map,h105,hl2,hr2,hg2,hg3,hrl2,hgl2,hra,hga,h16,h16b,wi,hz]))))
theorem bypass_fine:bypass.fine:=⟨by decide,by decide,by decide,by decide,by decide,by decide,by decide,by decide,by decide,by decide,by decide⟩
theorem drL_all {α:Type} {P:α→Prop} {f:Nat→α×Nat} (hf:∀ k,P (f k).1):∀ n k,∀ x∈(drL f n k).1,P x
 |0,_,x,hx=>by cases hx
 |n+1,k,x,hx=>by
  rcases List.mem_cons.1 hx with rfl|hx
  ·exact hf k
  ·exact drL_all hf n _ x hx
theorem ruF_fine {l:List Int} (hB:Bytes l) {s:Int} (hs0:0≤s) (hs1:s≤1) (k:Nat):(ruF l s k).1.fine:=by
 have h:=bxF_both hB hs0 hs1 (nxA l k)
 have q:=nxV_range hB (k:=k) (n:=2) (by decide)
 unfold ruF
 split
 ·exact ⟨.inl ⟨rfl,.inr rfl⟩,by simp,by simp,fun b hb=>by simp at hb;subst hb;exact h⟩
 ·exact ⟨.inr ⟨by simp only;omega,rfl⟩,by simp,by simp,fun b hb=>by simp at hb;subst hb;exact h⟩
theorem ruS_len {l:List Int} (hB:Bytes l) (s:Int) (k:Nat):(ruS l s k).1.length≤4∧0<(ruS l s k).1.length:=by
 have r:=nxV_range hB (k:=k) (n:=3) (by decide)
 unfold ruS endF
 simp only [List.length_append,drL_len,List.length_cons,List.length_nil]
 split<;>simp<;>omega
theorem ruS_fine {l:List Int} (hB:Bytes l) {s:Int} (hs0:0≤s) (hs1:s≤1) (k:Nat):∀ r∈(ruS l s k).1,r.fine:=by
 have hal:=bxF_both bytes_nil hs0 hs1 0
 intro r hr
 unfold ruS at hr
 simp only [List.mem_append] at hr
 rcases hr with (hr|hr)|hr
 ·exact drL_all (P:=Ru.fine) (ruF_fine hB hs0 hs1) _ _ r hr
 ·simp only [List.mem_cons,List.not_mem_nil,or_false] at hr
  subst hr
  unfold goldF
  split
  ·refine ⟨.inl ⟨rfl,.inl rfl⟩,by simp,by simp,fun b hb=>?_⟩
   simp only [List.mem_cons,List.not_mem_nil,or_false] at hb
   rcases hb with rfl|rfl
   ·exact bxF_both hB hs0 hs1 _
   ·exact hal
  ·refine ⟨.inl ⟨rfl,.inl rfl⟩,by simp,by simp,fun b hb=>?_⟩
   simp only [List.mem_cons,List.not_mem_nil,or_false] at hb
   subst hb;exact hal
 ·unfold endF at hr
  split at hr
  ·simp only [List.mem_cons,List.not_mem_nil,or_false] at hr
   subst hr
   refine ⟨.inr ⟨.inr rfl,rfl⟩,by simp,by simp,fun b hb=>?_⟩
   simp only [List.mem_cons,List.not_mem_nil,or_false] at hb
   subst hb;exact ⟨bypass_ok,bypass_fine⟩
  ·cases hr
def grpA:Nat→List Int
 |0=>[31]|1=>[31,1024]|2=>[31,1024]|3=>[1024,31]|4=>[31,1024]|11=>[1024]|_=>[31]
def grpB:Nat→List Int
 |1=>[31,1024]|2=>[1024,31]|3=>[31,1024]|_=>[31]
abbrev grows:List (List D):=[[.sl [[I 31]]],[.sl [[I 31],[I 1024]]],[.sl [[I 1024],[I 31]]],[.sl [[I 1024]]]]
theorem tabA_ok (x:Nat) (hx:x<12):∃ j:Nat,[[I 0],[I 1],[I 1],[I 2],[I 1],[I 0],[I 0],[I 0],[I 0],[I 0],[I 0],[I 3]][x]?=some [I (j:Int)]∧j<4∧grows[j]?=some [.sl ((grpA x).map numRow)]:=by
 match x,hx with
 |0,_=>exact ⟨0,rfl,by decide,rfl⟩
 |1,_=>exact ⟨1,rfl,by decide,rfl⟩
 |2,_=>exact ⟨1,rfl,by decide,rfl⟩
 |3,_=>exact ⟨2,rfl,by decide,rfl⟩
 |4,_=>exact ⟨1,rfl,by decide,rfl⟩
 |5,_=>exact ⟨0,rfl,by decide,rfl⟩
 |6,_=>exact ⟨0,rfl,by decide,rfl⟩
 |7,_=>exact ⟨0,rfl,by decide,rfl⟩
 |8,_=>exact ⟨0,rfl,by decide,rfl⟩
 |9,_=>exact ⟨0,rfl,by decide,rfl⟩
 |10,_=>exact ⟨0,rfl,by decide,rfl⟩
 |11,_=>exact ⟨3,rfl,by decide,rfl⟩
theorem tabB_ok (x:Nat) (hx:x<12):∃ j:Nat,[[I 0],[I 1],[I 2],[I 1],[I 0],[I 0],[I 0],[I 0],[I 0],[I 0],[I 0],[I 0]][x]?=some [I (j:Int)]∧j<4∧grows[j]?=some [.sl ((grpB x).map numRow)]:=by
 match x,hx with
 |0,_=>exact ⟨0,rfl,by decide,rfl⟩
 |1,_=>exact ⟨1,rfl,by decide,rfl⟩
 |2,_=>exact ⟨2,rfl,by decide,rfl⟩
 |3,_=>exact ⟨1,rfl,by decide,rfl⟩
 |4,_=>exact ⟨0,rfl,by decide,rfl⟩
 |5,_=>exact ⟨0,rfl,by decide,rfl⟩
 |6,_=>exact ⟨0,rfl,by decide,rfl⟩
 |7,_=>exact ⟨0,rfl,by decide,rfl⟩
 |8,_=>exact ⟨0,rfl,by decide,rfl⟩
 |9,_=>exact ⟨0,rfl,by decide,rfl⟩
 |10,_=>exact ⟨0,rfl,by decide,rfl⟩
 |11,_=>exact ⟨0,rfl,by decide,rfl⟩
theorem grpA_len (x:Nat):0<(grpA x).length∧(grpA x).length≤4:=by unfold grpA;split<;>decide
theorem grpB_len (x:Nat):0<(grpB x).length∧(grpB x).length≤4:=by unfold grpB;split<;>decide
noncomputable def gaF (l:List Int) (k:Nat):(Gw×Gw)×Nat:=
 let x:=(nxV l k 12).toNat
 let p:=ruS l 0 (nxA l k)
 let q:=ruS l 1 p.2
 ((gwN 0 1 2 p.1 (grpA x),gwN 1 2 1 q.1 (grpB x)),q.2)
set_option maxHeartbeats 4000000 in
theorem e36b {l:List Int} (hB:Bytes l) (id k:Nat):∀ bl,CtxOk bl id →
  CV VP 37 [.ptr id 0] (cx bl id l (k:Nat) [])=some ⟨.tup [(gaF l k).1.1.ag,(gaF l k).1.2.ag],cx bl id l ((gaF l k).2:Nat) [],[],0⟩:=by
 intro bl h
 have r:=nxV_range hB (k:=k) (n:=12) (by decide)
 obtain ⟨x,hx⟩:∃ x:Nat,nxV l k 12=(x:Int):=⟨_,(Int.toNat_of_nonneg r.1).symm⟩
 have hx12:x<12:=by omega
 have c12:∀ (own:List (List V)),own.map V.erL=own→own.all (V.ltbL (bl.length+own.length))=true→CV VP 18 [.ptr id 0,.d (I 12)] (cx bl id l (k:Nat) own)=some ⟨.d (I (nxV l k 12)),cx bl id l (nxA l k:Nat) own,[],0⟩:=fun own=>e29 hB h (by decide) (by decide)
 have cR0:∀ (own:List (List V)),own.map V.erL=own→own.all (V.ltbL (bl.length+own.length))=true→CV VP 121 [.ptr id 0,.d (I 0)] (cx bl id l (nxA l k:Nat) own)=some ⟨.d (.sl ((ruS l 0 (nxA l k)).1.map Ru.row)),cx bl id l ((ruS l 0 (nxA l k)).2:Nat) own,[],0⟩:=fun own=>cx_lift (e46b hB (by decide) (by decide) id _) h
 have cR1:∀ (k:Nat) (own:List (List V)),own.map V.erL=own→own.all (V.ltbL (bl.length+own.length))=true→CV VP 121 [.ptr id 0,.d (I 1)] (cx bl id l (k:Nat) own)=some ⟨.d (.sl ((ruS l 1 k).1.map Ru.row)),cx bl id l ((ruS l 1 k).2:Nat) own,[],0⟩:=fun k own=>cx_lift (e46b hB (by decide) (by decide) id _) h
 have f0:=ruS_fine hB (s:=0) (by decide) (by decide) (nxA l k)
 have n0:=(ruS_len hB 0 (nxA l k)).1
 have f1:=ruS_fine hB (s:=1) (by decide) (by decide) (ruS l 0 (nxA l k)).2
 have n1:=(ruS_len hB 1 (ruS l 0 (nxA l k)).2).1
 have cR1:=cR1 (ruS l 0 (nxA l k)).2
 simp only [gaF,hx,Int.toNat_natCast]
 rw [hx] at c12
 generalize ruS l 1 (ruS l 0 (nxA l k)).2=q at *
 generalize ruS l 0 (nxA l k)=p at *
 have h84a:=e84 0 1 2 p.1 (grpA x) (.inl rfl) (by decide) (by decide) (grpA_len x).1 (grpA_len x).2 (by omega) f0
 have h84b:=e84 1 2 1 q.1 (grpB x) (.inr rfl) (by decide) (by decide) (grpB_len x).1 (grpB_len x).2 (by omega) f1
 obtain ⟨ja,ja1,ja2,ja3⟩:=tabA_ok x hx12
 obtain ⟨jb,jb1,jb2,jb3⟩:=tabB_ok x hx12
 have hx12i:(x:Int)<12:=by omega
 have ja2i:(ja:Int)<4:=by omega
 have jb2i:(jb:Int)<4:=by omega
 have hid:=h.lt
 clear f0 f1 n0 n1 r hB
 generalize gwN 0 1 2 p.1 (grpA x)=ga at *
 generalize gwN 1 2 1 q.1 (grpB x)=gb at *
 simp only [Gw.ag,Gw.cells,List.map_cons,List.map_nil] at h84a h84b ⊢
 simp only [I] at ja1 ja3 jb1 jb3
 refine CV_run (vf:=vf37) rfl rfl ?_
 rw [vf37_start]
 (repeat (first|refine RX_seq ?_|((first|refine sG rfl ?_|refine RX_draw rfl ?_);try (simp only [go_sem,simprocAttr,frzLoc,rowCells,vAppM,beq_iff_eq,bne_iff_ne,vf37_res,vf37_keep,cx_len,cx_app,cx_own0,cx_own,cx_setOwn0,cx_setOwn,cx_take,cx_takeN,Nat.add_right_cancel_iff,Nat.lt_irrefl,cx_nlt,Nat.not_lt_zero,cx_get' h,cx_setId' h,cx_er h,cx_all0 h,cx_all h,CtxOk.lt h,CtxOk.ne0 h,c12,cR0,cR1,h84a,h84b,ja1,jb1,ja3,jb3,ja2,jb2,hx12,hx12i,ja2i,jb2i,hid]))))
end Go.Proofs.YtlcbgdnfkmbhkaaGreat
