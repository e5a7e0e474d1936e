/- The law RekeyCollides on the machine: it answers true. Conditions: none. -/
import Derived.Test.YtlcbgdnfkmbhkaaGreatVd
import Derived.Test.YtlcbgdnfkmbhkaaGreatRcu
import Derived.Test.YtlcbgdnfkmbhkaaGreatRcv
set_option linter.unusedSimpArgs false
set_option linter.unusedVariables false
set_option maxRecDepth 100000
set_option maxHeartbeats 4000000
namespace Go.Proofs.YtlcbgdnfkmbhkaaGreat
open Go.VM
theorem gk_list {x:Nat} (hx:x<12):(grpA x=[31]∧grpB x=[31])∨(grpA x=[31,1024]∧grpB x=[31,1024])∨(grpA x=[31,1024]∧grpB x=[1024,31])∨(grpA x=[1024,31]∧grpB x=[31,1024])∨(grpA x=[31,1024]∧grpB x=[31])∨(grpA x=[1024]∧grpB x=[31]):=by
 match x,hx with
 |0,_=>exact .inl ⟨rfl,rfl⟩
 |1,_=>exact .inr (.inl ⟨rfl,rfl⟩)
 |2,_=>exact .inr (.inr (.inl ⟨rfl,rfl⟩))
 |3,_=>exact .inr (.inr (.inr (.inl ⟨rfl,rfl⟩)))
 |4,_=>exact .inr (.inr (.inr (.inr (.inl ⟨rfl,rfl⟩))))
 |5,_=>exact .inl ⟨rfl,rfl⟩
 |6,_=>exact .inl ⟨rfl,rfl⟩
 |7,_=>exact .inl ⟨rfl,rfl⟩
 |8,_=>exact .inl ⟨rfl,rfl⟩
 |9,_=>exact .inl ⟨rfl,rfl⟩
 |10,_=>exact .inl ⟨rfl,rfl⟩
 |11,_=>exact .inr (.inr (.inr (.inr (.inr (⟨rfl,rfl⟩)))))
def gAD:Nat→D
 |0=>.sl [[I 31]]
 |1=>.sl [[I 31],[I 1024]]
 |2=>.sl [[I 31],[I 1024]]
 |3=>.sl [[I 1024],[I 31]]
 |4=>.sl [[I 31],[I 1024]]
 |_=>.sl [[I 1024]]
def gBD:Nat→D
 |0=>.sl [[I 31]]
 |1=>.sl [[I 31],[I 1024]]
 |2=>.sl [[I 1024],[I 31]]
 |3=>.sl [[I 31],[I 1024]]
 |4=>.sl [[I 31]]
 |_=>.sl [[I 31]]
def twSV:Nat→Bool→VaT→List (List D)→Int→V
 |0,b,v,Ra,ri=>twS0 v Ra ri (tB b)
 |1,b,v,Ra,ri=>twS1 v Ra ri (tB b)
 |2,b,v,Ra,ri=>twS2 v Ra ri (tB b)
 |3,b,v,Ra,ri=>twS3 v Ra ri (tB b)
 |4,b,v,Ra,ri=>twS4 v Ra ri (tB b)
 |_,_,_,_,_=>.any
def twZV:Nat→Bool→VaT→List (List D)→Int→V
 |0,b,v,Ra,ri=>twZ0 v Ra ri (tB b)
 |1,b,v,Ra,ri=>twZ1 v Ra ri (tB b)
 |2,b,v,Ra,ri=>twZ2 v Ra ri (tB b)
 |3,b,v,Ra,ri=>twZ3 v Ra ri (tB b)
 |4,b,v,Ra,ri=>twZ4 v Ra ri (tB b)
 |_,b,v,Ra,ri=>twZ5 v Ra ri (tB b)
theorem twoS {n:Nat} (hn:n<5) (t:Bool) {v:VaT} (p:List (List D)) {bs Rt:List (List D)} (hp:p.length≤2) (H:HTs v (p++[I 2,.lit (.string (tB t)),.sl bs]::Rt) (p.length:Nat) (gAD n) (gBD n) (tB t)) :
  CV VP 10 [.ptr 0 0] [[.d (.sl v.R),.d (I 0)]]=some ⟨twSV n t v (p++[I 2,.lit (.string (tB t)),.sl bs]::Rt) (p.length:Nat),[[.d (.sl v.R),.d (I v.gk)]],[],0⟩:=by
 match n,hn,p,hp,H with
 |0,_,[],_,H=>exact two0_s0 H
 |0,_,[ro],_,H=>exact two0_s1 H
 |0,_,[rp,ro],_,H=>exact two0_s2 H
 |1,_,[],_,H=>exact two1_s0 H
 |1,_,[ro],_,H=>exact two1_s1 H
 |1,_,[rp,ro],_,H=>exact two1_s2 H
 |2,_,[],_,H=>exact two2_s0 H
 |2,_,[ro],_,H=>exact two2_s1 H
 |2,_,[rp,ro],_,H=>exact two2_s2 H
 |3,_,[],_,H=>exact two3_s0 H
 |3,_,[ro],_,H=>exact two3_s1 H
 |3,_,[rp,ro],_,H=>exact two3_s2 H
 |4,_,[],_,H=>exact two4_s0 H
 |4,_,[ro],_,H=>exact two4_s1 H
 |4,_,[rp,ro],_,H=>exact two4_s2 H
 |_,_,_::_::_::_,hp,_=>exact absurd hp (by simp)
 |n+5,hn,_,_,_=>exact absurd hn (by omega)
theorem twoZ {n:Nat} (hn:n<5) (t:Bool) {v:VaT} {Ra:List (List D)} {ri:Int} (H:HTz v Ra ri (gAD n) (gBD n) (tB t)) :
  CV VP 10 [.ptr 0 0] [[.d (.sl v.R),.d (I 0)]]=some ⟨twZV n t v Ra ri,[[.d (.sl v.R),.d (I v.gk)]],[],0⟩:=by
 match n,hn,H with
 |0,_,H=>exact two0_zv H
 |1,_,H=>exact two1_zv H
 |2,_,H=>exact two2_zv H
 |3,_,H=>exact two3_zv H
 |4,_,H=>exact two4_zv H
theorem two5_all {v:VaT} {Ra:List (List D)} {ri:Int} (t:Bool) (H:HT0 v Ra ri (gAD 5) (gBD 5) (tB t)):CV VP 10 [.ptr 0 0] [[.d (.sl v.R),.d (I 0)]]=some ⟨twZV 5 t v Ra ri,[[.d (.sl v.R),.d (I v.gk)]],[],0⟩:=two5_zv H
theorem gwT_eq (ra rb:List Ru) (ga gb:List Int):V.tup [(gwN 0 1 2 ra ga).ag,(gwN 1 2 1 rb gb).ag]=gwT (ra.map Ru.row) (.sl (ga.map numRow)) (rb.map Ru.row) (.sl (gb.map numRow)):=by kernel_rfl
theorem first_prot {l:List Int} (hB:Bytes l) (k:Nat):∃ (pre tail:List Ru) (t:Bool) (x:Bx) (more:List Bx),(ruS l 0 k).1=pre++⟨2,tB t,x::more⟩::tail∧(∀ p∈pre,p.act≠2)∧pre.length≤2∧x.ok∧x.fine:=by
 obtain ⟨pre,x,more,tail,hr,hp,_,_,ho,hf,hpre⟩:=ruS_pre hB (s:=0) (by decide) (by decide) k
 rw [hr]
 match pre,hp,hpre with
 |[],_,_=>exact ⟨[],tail,true,x,more,rfl,by simp,by simp,ho,hf⟩
 |[⟨ua,ut,ub⟩],_,hpre=>
  obtain ⟨h1,y,hy,yo,yf⟩:=hpre _ (List.mem_singleton.2 rfl)
  simp only at h1 hy
  rcases h1 with ⟨h1,h2⟩|h1
  ·subst h1 h2 hy;exact ⟨[],⟨2,gold,x::more⟩::tail,false,y,[],rfl,by simp,by simp,yo,yf⟩
  ·exact ⟨[⟨ua,ut,ub⟩],tail,true,x,more,rfl,by simp;omega,by simp,ho,hf⟩
 |[⟨ua,ut,ub⟩,⟨wa,wt,wb⟩],_,hpre=>
  obtain ⟨h1,y,hy,yo,yf⟩:=hpre _ List.mem_cons_self
  obtain ⟨h3,z,hz,zo,zf⟩:=hpre _ (List.mem_cons_of_mem _ (List.mem_singleton.2 rfl))
  simp only at h1 hy h3 hz
  rcases h1 with ⟨h1,h2⟩|h1
  ·subst h1 h2 hy;exact ⟨[],⟨wa,wt,wb⟩::⟨2,gold,x::more⟩::tail,false,y,[],rfl,by simp,by simp,yo,yf⟩
  ·rcases h3 with ⟨h3,h4⟩|h3
   ·subst h3 h4 hz;exact ⟨[⟨ua,ut,ub⟩],⟨2,gold,x::more⟩::tail,false,z,[],rfl,by simp;omega,by simp,zo,zf⟩
   ·exact ⟨[⟨ua,ut,ub⟩,⟨wa,wt,wb⟩],tail,true,x,more,rfl,by simp;omega,by simp,ho,hf⟩
 |_::_::_::_,hp,_=>exact absurd hp (by simp)
theorem tm_tB {r:Ru} {t:Bool} (hf:r.fine) (h:(r.tm.toList==(tB t).toList)=true):r.tm=tB t:=by
 cases t with
 |true=>exact tm_gold hf h
 |false=>exact tm_silver hf h
structure HKz (v:VaT):Prop where
 h9:CV VP 9 [.d (.sl v.X),.d (I 120)] []=some ⟨.ptr 0 0,[[.sl 1 v.R (.own 0 0),.d (I 0)]],[0],1⟩
structure HKs (v:VaT) (Ra:List (List D)) (ri:Int) (t:ByteArray):Prop where
 h9:CV VP 9 [.d (.sl v.X),.d (I 120)] []=some ⟨.ptr 0 0,[[.sl 1 v.R (.own 0 0),.d (I 0)]],[0],1⟩
 hra:∃ (i:Nat) (a b:D),ri=(i:Int)∧Ra[i]?=some [a,.lit (.string t),b]
 hrow:∃ (i:Nat) (a b:D),v.rr=(i:Int)∧v.Rb[i]?=some [a,.lit (.string t),b]
 hla:Ra.length≤4
 hlb:v.Rb.length≤4
 mok:v.m.ok
 mfine:v.m.fine
 msok:v.ms.ok
 msfine:v.ms.fine
theorem two_all {l:List Int} (hB:ByteL l) {A:Prop}
  (hz:∀ (v:VaT) (Ra:List (List D)) (ri:Int) (n:Nat) (t:Bool),n<6→v.X=l.map byteRow→HKz v→CV VP 10 [.ptr 0 0] [[.d (.sl v.R),.d (I 0)]]=some ⟨twZV n t v Ra ri,[[.d (.sl v.R),.d (I v.gk)]],[],0⟩→A)
  (hs:∀ (v:VaT) (Ra:List (List D)) (ri:Int) (n:Nat) (t:Bool),n<5→v.X=l.map byteRow→HKs v Ra ri (tB t)→CV VP 10 [.ptr 0 0] [[.d (.sl v.R),.d (I 0)]]=some ⟨twSV n t v Ra ri,[[.d (.sl v.R),.d (I v.gk)]],[],0⟩→A):A:=by
 have hb:Bytes (l.take 120):=bytes_take hB 120 (by decide)
 have h9:=e21 (l:=l) 120 (by decide)
 have h37:∀ own:List (List V),own.map V.erL=own→own.all (V.ltbL (1+own.length))=true→CV VP 37 [.ptr 0 0] ([.d (.sl ((l.take 120).map byteRow)),.d (I 0)]::own)=some ⟨.tup [(gaF (l.take 120) 0).1.1.ag,(gaF (l.take 120) 0).1.2.ag],[.d (.sl ((l.take 120).map byteRow)),.d (I ((gaF (l.take 120) 0).2:Nat))]::own,[],0⟩:=fun own he hl=>
  cx_lift (bl:=[[]]) (e36b hb 0 0) CtxOk.base he hl
 generalize l.take 120=q at *
 obtain ⟨pre,tail,t,x,more,hr,hpre,hpl,ho,hf⟩:=first_prot hb (nxA q 0)
 rw [show (gaF q 0).1.1=gwN 0 1 2 (ruS q 0 (nxA q 0)).1 (grpA (nxV q 0 12).toNat) from rfl,
  show (gaF q 0).1.2=gwN 1 2 1 (ruS q 1 (ruS q 0 (nxA q 0)).2).1 (grpB (nxV q 0 12).toNat) from rfl] at h37
 have hla:=(ruS_len hb 0 (nxA q 0)).1
 have hrf:=ruS_fine hb (s:=1) (by decide) (by decide) (ruS q 0 (nxA q 0)).2
 have hrl:=(ruS_len hb 1 (ruS q 0 (nxA q 0)).2).1
 have hx:=nxV_range hb (k:=0) (n:=12) (by decide)
 have hg:=gk_list (x:=(nxV q 0 12).toNat) (by omega)
 rw [hr] at h37 hla
 generalize (ruS q 1 (ruS q 0 (nxA q 0)).2).1=rb at h37 hrf hrl
 generalize (gaF q 0).2=gk at h37
 generalize grpA (nxV q 0 12).toNat=ga at h37 hg
 generalize grpB (nxV q 0 12).toNat=gb at h37 hg
 clear hr hx
 simp only [gwT_eq] at h37
 have hgn:∃ n,n<6∧D.sl (ga.map numRow)=gAD n∧D.sl (gb.map numRow)=gBD n:=by
  rcases hg with ⟨rfl,rfl⟩|⟨rfl,rfl⟩|⟨rfl,rfl⟩|⟨rfl,rfl⟩|⟨rfl,rfl⟩|⟨rfl,rfl⟩
  ·exact ⟨0,by decide,rfl,rfl⟩
  ·exact ⟨1,by decide,rfl,rfl⟩
  ·exact ⟨2,by decide,rfl,rfl⟩
  ·exact ⟨3,by decide,rfl,rfl⟩
  ·exact ⟨4,by decide,rfl,rfl⟩
  ·exact ⟨5,by decide,rfl,rfl⟩
 obtain ⟨n,hn,hga,hgb⟩:=hgn
 rw [hga,hgb] at h37
 clear hga hgb hg
 have h176:=e49 rb x (tB t) (by omega) (fun r hr=>⟨by have:=(hrf r hr).len;omega,fun b hb=>((hrf r hr).bs b hb).1⟩) ho
 have hrows:(pre++(⟨2,tB t,x::more⟩:Ru)::tail).map Ru.row=pre.map Ru.row++[I 2,.lit (.string (tB t)),.sl ((x::more).map Bx.row)]::tail.map Ru.row:=by
  rw [List.map_append,List.map_cons]
 have hra:∃ (i:Nat) (a b:D),((pre.length:Nat):Int)=(i:Int)∧((pre++(⟨2,tB t,x::more⟩:Ru)::tail).map Ru.row)[i]?=some [a,.lit (.string (tB t)),b]:=by
  refine ⟨pre.length,I 2,.sl ((x::more).map Bx.row),rfl,?_⟩
  rw [List.getElem?_map];simp [Ru.row]
 have hpr:=fun (c0 c1 c2 c3 c5 c6 c7 c8 c9 c10 c11 c12 c13 c14 c15 c16 c17 c18:D)=>e255 (c0:=c0) (c1:=c1) (c2:=c2) (c3:=c3) (c5:=c5) (c6:=c6) (c7:=c7) (c8:=c8) (c9:=c9) (c10:=c10) (c11:=c11) (c12:=c12) (c13:=c13) (c14:=c14) (c15:=c15) (c16:=c16) (c17:=c17) (c18:=c18) pre (tB t) x more tail hpre (by omega)
 cases hq:nar x.swap (tB t) 0 rb with
 |none=>
  rw [hq] at h176
  obtain ⟨xf,xh,xa0,xb0,xa1,xb1,xp0,xp1,xl0,xl1,xr0,xr1⟩:=x
  have H0:HT0 (VaT.mk (q.map byteRow) (l.map byteRow) (rb.map Ru.row) (gk:Nat) xf xh xa0 xb0 xa1 xb1 xp0 xp1 xl0 xl1 xr0 xr1 0 0 0 0 0 0 0 0 0 0 0 0 0) _ (pre.length:Nat) (gAD n) (gBD n) (tB t):=⟨h37,ho,hf,hpr,hra⟩
  rcases Nat.lt_or_ge n 5 with h5|h5
  ·exact hz (VaT.mk (q.map byteRow) (l.map byteRow) (rb.map Ru.row) (gk:Nat) xf xh xa0 xb0 xa1 xb1 xp0 xp1 xl0 xl1 xr0 xr1 0 0 0 0 0 0 0 0 0 0 0 0 0) _ _ n t hn rfl ⟨h9⟩ (twoZ h5 t ⟨H0,h176⟩)
  ·obtain rfl:n=5:=by omega
   exact hz (VaT.mk (q.map byteRow) (l.map byteRow) (rb.map Ru.row) (gk:Nat) xf xh xa0 xb0 xa1 xb1 xp0 xp1 xl0 xl1 xr0 xr1 0 0 0 0 0 0 0 0 0 0 0 0 0) _ _ 5 t hn rfl ⟨h9⟩ (two5_all t H0)
 |some jm=>
  obtain ⟨j,m⟩:=jm
  rw [hq] at h176
  obtain ⟨r,_,hj,htm,_,hfb⟩:=nar_some hq
  have hrm:=List.mem_of_getElem? hj
  have htg:=tm_tB (hrf r hrm) htm
  obtain ⟨y,hy,hyf,hyo,hme⟩:=fbx_some hfb
  have hyk:=(hrf r hrm).bs y hy
  have hmk:=meet_fine (Bx.swap_both ho hf).1 (Bx.swap_both ho hf).2 hyk.1 hyk.2 hyo
  have hw:=swap_within hf hyo
  rw [← hme] at hmk hw
  have hrow:∃ (i:Nat) (a b:D),((j:Nat):Int)=(i:Int)∧(rb.map Ru.row)[i]?=some [a,.lit (.string (tB t)),b]:=by
   refine ⟨j,I r.act,.sl (r.bs.map Bx.row),rfl,?_⟩
   rw [Nat.sub_zero] at hj
   rw [List.getElem?_map,hj]
   show some r.row=_
   simp only [Ru.row,htg]
  have hms:=Bx.swap_both hmk.1 hmk.2
  have hv:=h185t _ x hms.1 ho hw
  clear hme hyo hyf hfb hq
  obtain ⟨xf,xh,xa0,xb0,xa1,xb1,xp0,xp1,xl0,xl1,xr0,xr1⟩:=x
  obtain ⟨mf,mh,c0,d0,c1,d1,q0,q1,k0,k1,t0,t1⟩:=m
  have H0:HT0 (VaT.mk (q.map byteRow) (l.map byteRow) (rb.map Ru.row) (gk:Nat) xf xh xa0 xb0 xa1 xb1 xp0 xp1 xl0 xl1 xr0 xr1 (j:Nat) mf mh c0 d0 c1 d1 q0 q1 k0 k1 t0 t1) _ (pre.length:Nat) (gAD n) (gBD n) (tB t):=⟨h37,ho,hf,hpr,hra⟩
  have hla':((pre++(⟨2,tB t,(⟨xf,xh,xa0,xb0,xa1,xb1,xp0,xp1,xl0,xl1,xr0,xr1⟩:Bx)::more⟩:Ru)::tail).map Ru.row).length≤4:=by rw [List.length_map];exact hla
  have hlb':(rb.map Ru.row).length≤4:=by rw [List.length_map];exact hrl
  rcases Nat.lt_or_ge n 5 with h5|h5
  ·have H:HTs _ _ (pre.length:Nat) (gAD n) (gBD n) (tB t):=⟨H0,h176,hmk.1,hmk.2,hms.1,hms.2,hrow,hv⟩
   have h10:=fun H'=>twoS h5 t (pre.map Ru.row) (v:=VaT.mk (q.map byteRow) (l.map byteRow) (rb.map Ru.row) (gk:Nat) xf xh xa0 xb0 xa1 xb1 xp0 xp1 xl0 xl1 xr0 xr1 (j:Nat) mf mh c0 d0 c1 d1 q0 q1 k0 k1 t0 t1) (bs:=((⟨xf,xh,xa0,xb0,xa1,xb1,xp0,xp1,xl0,xl1,xr0,xr1⟩:Bx)::more).map Bx.row) (Rt:=tail.map Ru.row) (by rw [List.length_map];exact hpl) H'
   rw [← hrows,List.length_map] at h10
   exact hs (VaT.mk (q.map byteRow) (l.map byteRow) (rb.map Ru.row) (gk:Nat) xf xh xa0 xb0 xa1 xb1 xp0 xp1 xl0 xl1 xr0 xr1 (j:Nat) mf mh c0 d0 c1 d1 q0 q1 k0 k1 t0 t1) _ _ n t h5 rfl ⟨h9,hra,hrow,hla',hlb',hmk.1,hmk.2,hms.1,hms.2⟩ (h10 H)
  ·obtain rfl:n=5:=by omega
   exact hz (VaT.mk (q.map byteRow) (l.map byteRow) (rb.map Ru.row) (gk:Nat) xf xh xa0 xb0 xa1 xb1 xp0 xp1 xl0 xl1 xr0 xr1 (j:Nat) mf mh c0 d0 c1 d1 q0 q1 k0 k1 t0 t1) _ _ 5 t hn rfl ⟨h9⟩ (two5_all t H0)
noncomputable def ATk (t:ByteArray):Orc:=fun f a b=>match Nat.beq f 203 with
 |true=>match a with
  |[.d (.sl ([_,.lit (.int _ f0),_]::[_,.lit (.int _ h0),_]::[_,.lit (.int _ a0),_]::[_,.lit (.int _ f1),_]::[_,.lit (.int _ h1),_]::[_,.lit (.int _ a1),_]::[_,.lit (.int _ f2),_]::[_,.lit (.int _ h2),_]::[_,.lit (.int _ a2),_]::[_,.lit (.int _ f3),_]::[_,.lit (.int _ h3),_]::[_,.lit (.int _ a3),_]::[_,.lit (.int _ p0),_]::[_,.lit (.int _ p1),_]::[_,.lit (.int _ l0),_]::[_,.lit (.int _ l1),_]::[_,.lit (.int _ r0),_]::[_,.lit (.int _ r1),_]::_))]=>
   some ⟨.tup [.agg [.d (I f0),.d (U h0),.d (U a0),.d (I f1),.d (U h1),.d (U a1),.d (I f2),.d (U h2),.d (U a2),.d (I f3),.d (U h3),.d (U a3),.d (I p0),.d (I p1),.d (I l0),.d (I l1),.d (I r0),.d (I r1)],.d (.lit (.string t)),.d (B true)],[],[],0⟩
  |_=>none
 |false=>match Nat.beq f 183 with
  |true=>some ⟨.d (B (ansB VP 183 a)),[],[],0⟩
  |false=>none
theorem ATk_ok (t:ByteArray):CFok VP (cA VP vft.get (ATk t) 400 60):=cA_ok vft_ok _ 400 60
section
variable {c0 c1 c2 c3 c4 c5 c6 c7 c8 c9 c10 c11 c12 c13 c14 c15 c16 c17 c18 x1 x2 x3 x4 x5 x6 x7 x8 x9 x10 x11 x12 x13 x14 x15 x16 x17 x18 x19 x20 x21 x22 x23 x24 x25 x26 x27 x28 x29 x30 x31 x32 x33 x34 x35 x36 x37 x38 x39 x40 x41 x42 x43 x44 x45 x46 x47 x48 x49 x50 x51 x52 x53 x54 x55 x56 x57 x58 x59 x60 x61 x62 x63 x64 x65 x66 x67 x68 x69 x70 x71 x72 x73 x74 x75 x76 x77 x78 x79 x80 k0_0 k0_1 k0_2 k0_3 k0_4 k0_5 k0_6 k0_7 k0_8 k0_9 k0_10 k0_11 k0_12 k0_13 k0_14 k0_15 k0_16 k0_17 k0_18 k0_19 k0_20 k0_21 k0_22 k0_23 k0_24 k0_25 k0_26 k0_27 k0_28 k0_29 k0_30 k0_31 k0_32 k0_33 k0_34 k0_35 k0_36 k0_37 k0_38 k0_39 k0_40 k0_41 k1_0 k1_1 k1_2 k1_3 k1_4 k1_5 k1_6 k1_7 k1_8 k1_9 k1_10 k1_11 k1_12 k1_13 k1_14 k1_15 k1_16 k1_17 k1_18 k1_19 k1_20 k1_21 k1_22 k1_23 k1_24 k1_25 k1_26 k1_27 k1_28 k1_29 k1_30 k1_31 k1_32 k1_33 k1_34 k1_35 k1_36 k1_37 k1_38 k1_39 k1_40 k1_41 r0 r1 r2 r3 r4 r5 r6 r7 r8 r9 r10 r11 r12 r13 r14 r15 r16 r17 r18 r19 r20 r21 r22 r23 r24 r25 r26 r27 r28 r29 r30 r31 r32 r33 r34 r35 r36 r37 r38 o0 o1 o2 n0 n1 n2 z0 z1 z2 ya yb:D} {Rt Ra:List (List D)} {ro0 ro1 ro2 ro3:List D} {own sp spi ri f h a0 b0 a1 b1 p0 p1 l0 l1 s0 s1:Int}
theorem spT {sp:Int} (h:0<sp):(!(leF sp 0))=true:=by rw [leN h];rfl
noncomputable abbrev obT0 (own sp f h a0 b0 a1 b1 p0 p1 l0 l1 s0 s1:Int):List (Bool×Bool):=[((!(ansB VP 183 [.agg [A f,C h,C a1,A f,C h,C b1,A f,C h,C a0,A f,C h,C b0,A p0,A p1,A s0,A s1,A l0,A l1],.agg [A f,C h,C a1,A f,C h,C b1,A f,C h,C a0,A f,C h,C b0,A p0,A p1,A s0,A s1,A l0,A l1]])),false),((prB (CV VP 183 [.agg [A f,C h,C a1,A f,C h,C b1,A f,C h,C a0,A f,C h,C b0,A p0,A p1,A s0,A s1,A l0,A l1],.agg [A f,C h,C a1,A f,C h,C b1,A f,C h,C a0,A f,C h,C b0,A p0,A p1,A s0,A s1,A l0,A l1]] []=some ⟨.d (B (ansB VP 183 [.agg [A f,C h,C a1,A f,C h,C b1,A f,C h,C a0,A f,C h,C b0,A p0,A p1,A s0,A s1,A l0,A l1],.agg [A f,C h,C a1,A f,C h,C b1,A f,C h,C a0,A f,C h,C b0,A p0,A p1,A s0,A s1,A l0,A l1]])),[],[],0⟩)),true),((!(leF sp 0)),true),((!(leF sp 0)),true),((prB (CV VP 203 [E [N f,N h,N a0,N f,N h,N b0,N f,N h,N a1,N f,N h,N b1,N p0,N p1,N l0,N l1,N s0,N s1,N 103,N 111,N 108,N 100]] []=some ⟨.tup [.agg [A f,C h,C a0,A f,C h,C b0,A f,C h,C a1,A f,C h,C b1,A p0,A p1,A l0,A l1,A s0,A s1],.d (.lit (.string ⟨#[103,111,108,100]⟩)),.d (B true)],[],[],0⟩)),true),qT own]
theorem obT0_ok (own sp f h a0 b0 a1 b1 p0 p1 l0 l1 s0 s1:Int) (ho:(Bx.mk f h a0 b0 a1 b1 p0 p1 l0 l1 s0 s1).ok) (hf:(Bx.mk f h a0 b0 a1 b1 p0 p1 l0 l1 s0 s1).fine) (hsp:0<sp):OKs (obT0 own sp f h a0 b0 a1 b1 p0 p1 l0 l1 s0 s1):=by
 have hso:=(Bx.swap_both ho hf).1
 have hv:=ins_self _ hso (Bx.swap_both ho hf).2
 exact .cons (congrArg Bool.not hv)<|.cons (prB_of (h100 (Bx.mk f h a1 b1 a0 b0 p0 p1 s0 s1 l0 l1) (Bx.mk f h a1 b1 a0 b0 p0 p1 s0 s1 l0 l1) hso hso))<|.cons (spT hsp)<|.cons (spT hsp)<|.cons (prB_of (h37g (Bx.mk f h a0 b0 a1 b1 p0 p1 l0 l1 s0 s1) ho hf))<|okT<|.nil
abbrev tAg20 (c0 c1 c2 c3 c5 c6 c7 c8 c9 c10 c11 c12 c13 c14 c15 c18 x1 x2 x3 x4 x5 x6 x7 x8 x9 x10 x11 x12 x13 x14 x15 x16 x17 x18 x19 x20 x21 x22 x23 x24 x25 x26 x27 x28 x29 x30 x31 x32 x33 x34 x35 x36 x37 x38 x39 x40 x41 x42 x43 x44 x45 x46 x47 x48 x49 x50 x51 x52 x53 x54 x55 x56 x57 x58 x59 x60 x61 x62 x63 x64 x65 x66 x67 x68 x69 x70 x71 x72 x73 x74 x75 x76 x77 x78 x79 x80 k0_0 k0_1 k0_2 k0_3 k0_4 k0_5 k0_6 k0_7 k0_8 k0_9 k0_10 k0_11 k0_12 k0_13 k0_14 k0_15 k0_16 k0_17 k0_18 k0_19 k0_20 k0_21 k0_22 k0_23 k0_24 k0_25 k0_26 k0_27 k0_28 k0_29 k0_30 k0_31 k0_32 k0_33 k0_34 k0_35 k0_36 k0_37 k0_38 k0_39 k0_40 k0_41 k1_0 k1_1 k1_2 k1_3 k1_4 k1_5 k1_6 k1_7 k1_8 k1_9 k1_10 k1_11 k1_12 k1_13 k1_14 k1_15 k1_16 k1_17 k1_18 k1_19 k1_20 k1_21 k1_22 k1_23 k1_24 k1_25 k1_26 k1_27 k1_28 k1_29 k1_30 k1_31 k1_32 k1_33 k1_34 k1_35 k1_36 k1_37 k1_38 k1_39 k1_40 k1_41 r0 r1 r2 r3 r4 r5 r6 r7 r8 r9 r10 r11 r12 r13 r15 r35 r36 r37 o0 o1 o2 n0 n1 n2 z0 z1 z2:D) (own sp spi f h a0 b0 a1 b1 p0 p1 l0 l1 s0 s1:Int) (Ra:List (List D)) (ri:Int):List V:=[.agg [.d c0,.d c1,.d c2,.d c3,E Ra,.d c5,.d c6,.d c7,.d c8,.d c9,.d c10,.d c11,.d c12,.d c13,.d c14,.d c15,E [[I own,x1,x2,x3,x4,x5,x6,x7,x8,x9,x10,x11,x12,x13,x14,x15,x16,x17,x18,x19,x20,x21,x22,x23,x24,x25,x26,x27,x28,x29,x30,x31,x32,x33,x34,x35,x36,x37,x38,x39,x40,x41,x42,x43,x44,x45,x46,x47,x48,x49,x50,x51,x52,x53,x54,x55,x56,x57,x58,x59,x60,x61,x62,x63,x64,x65,x66,x67,x68,x69,x70,x71,x72,x73,x74,x75,x76,x77,x78,x79,x80]],E [[k0_0,k0_1,k0_2,k0_3,k0_4,k0_5,k0_6,k0_7,k0_8,k0_9,k0_10,k0_11,k0_12,k0_13,k0_14,k0_15,k0_16,k0_17,k0_18,k0_19,k0_20,k0_21,k0_22,k0_23,k0_24,k0_25,k0_26,k0_27,k0_28,k0_29,k0_30,k0_31,k0_32,k0_33,k0_34,k0_35,k0_36,k0_37,k0_38,k0_39,k0_40,k0_41],[k1_0,k1_1,k1_2,k1_3,k1_4,k1_5,k1_6,k1_7,k1_8,k1_9,k1_10,k1_11,k1_12,k1_13,k1_14,k1_15,k1_16,k1_17,k1_18,k1_19,k1_20,k1_21,k1_22,k1_23,k1_24,k1_25,k1_26,k1_27,k1_28,k1_29,k1_30,k1_31,k1_32,k1_33,k1_34,k1_35,k1_36,k1_37,k1_38,k1_39,k1_40,k1_41]],.d c18],A own,E [R 3 0 [N 10,N sp],R 3 0 [N 11,N f,N h,N a0,N f,N h,N b0,N f,N h,N a1,N f,N h,N b1,N p0,N p1,N l0,N l1,N s0,N s1,N 103,N 111,N 108,N 100],[z0,z1,z2]],.agg [.d r0,.d r1,.d r2,.d r3,.d r4,.d r5,.d r6,.d r7,.d r8,.d r9,.d r10,.d r11,.d r12,.d r13,A spi,.d r15,A ri,A f,C h,C a1,A f,C h,C b1,A f,C h,C a0,A f,C h,C b0,A p0,A p1,A s0,A s1,A l0,A l1,.d r35,.d r36,.d r37,Z],.agg [.d o0,.d o1,.d o2],.agg [.d n0,.d n1,.d n2]]
abbrev tRg20 (c0 c1 c2 c3 c5 c6 c7 c8 c9 c10 c11 c12 c13 c14 c15 c18 x1 x2 x3 x4 x5 x6 x7 x8 x9 x10 x11 x12 x13 x14 x15 x16 x17 x18 x19 x20 x21 x22 x23 x24 x25 x26 x27 x28 x29 x30 x31 x32 x33 x34 x35 x36 x37 x38 x39 x40 x41 x42 x43 x44 x45 x46 x47 x48 x49 x50 x51 x52 x53 x54 x55 x56 x57 x58 x59 x60 x61 x62 x63 x64 x65 x66 x67 x68 x69 x70 x71 x72 x73 x74 x75 x76 x77 x78 x79 x80 k0_0 k0_1 k0_2 k0_3 k0_4 k0_5 k0_6 k0_7 k0_8 k0_9 k0_10 k0_11 k0_12 k0_13 k0_14 k0_15 k0_16 k0_17 k0_18 k0_19 k0_20 k0_21 k0_22 k0_23 k0_24 k0_25 k0_26 k0_27 k0_28 k0_29 k0_30 k0_31 k0_32 k0_33 k0_34 k0_35 k0_36 k0_37 k0_38 k0_39 k0_40 k0_41 k1_0 k1_1 k1_2 k1_3 k1_4 k1_5 k1_6 k1_7 k1_8 k1_9 k1_10 k1_11 k1_12 k1_13 k1_14 k1_15 k1_16 k1_17 k1_18 k1_19 k1_20 k1_21 k1_22 k1_23 k1_24 k1_25 k1_26 k1_27 k1_28 k1_29 k1_30 k1_31 k1_32 k1_33 k1_34 k1_35 k1_36 k1_37 k1_38 k1_39 k1_40 k1_41 o0 o1 o2 n0 n1 n2:D) (own sp spi f h a0 b0 a1 b1 p0 p1 l0 l1 s0 s1:Int) (Ra:List (List D)) (ri:Int):Ret:=⟨.tup [.agg [.d c0,.d c1,.d c2,.d c3,E Ra,.d c5,.d c6,.d c7,.d c8,.d c9,.d c10,.d c11,.d c12,.d c13,.d c14,.d c15,E [[I own,x1,x2,x3,x4,x5,x6,x7,x8,x9,x10,x11,x12,x13,x14,x15,x16,x17,x18,x19,x20,x21,x22,x23,x24,x25,x26,x27,x28,x29,x30,x31,x32,x33,x34,x35,x36,x37,x38,x39,x40,x41,x42,x43,x44,x45,x46,x47,x48,x49,x50,x51,x52,x53,x54,x55,x56,x57,x58,x59,x60,x61,x62,x63,x64,x65,x66,x67,x68,x69,x70,x71,x72,x73,x74,x75,x76,x77,x78,x79,x80]],E [[k0_0,k0_1,k0_2,k0_3,k0_4,k0_5,k0_6,k0_7,k0_8,k0_9,k0_10,k0_11,k0_12,k0_13,k0_14,k0_15,k0_16,k0_17,k0_18,k0_19,k0_20,k0_21,k0_22,k0_23,k0_24,k0_25,k0_26,k0_27,k0_28,k0_29,k0_30,k0_31,k0_32,k0_33,k0_34,k0_35,k0_36,k0_37,k0_38,k0_39,k0_40,k0_41],[k1_0,k1_1,k1_2,k1_3,k1_4,k1_5,k1_6,k1_7,k1_8,k1_9,k1_10,k1_11,k1_12,k1_13,k1_14,k1_15,k1_16,k1_17,k1_18,k1_19,k1_20,k1_21,k1_22,k1_23,k1_24,k1_25,k1_26,k1_27,k1_28,k1_29,k1_30,k1_31,k1_32,k1_33,k1_34,k1_35,k1_36,k1_37,k1_38,k1_39,k1_40,k1_41],[I spi,I sp,I own,I ri,I f,U h,U a1,I f,U h,U b1,I f,U h,U a0,I f,U h,U b0,I p0,I p1,I s0,I s1,I l0,I l1,I 6,I 6,.sl [[x6,x7,x8],[o0,o1,o2],[n0,n1,n2]],I 6,I 5,.sl [[x6,x7,x8],[o0,o1,o2],[n0,n1,n2]],B true,o0,o1,o2,n0,n1,n2,I 1,I 0,I 6,U 0,.sl [[U 0]],I 0,I 0]],.d c18],A spi,.d (B true)],[],[],0⟩
theorem tkg20_0 (ho:(Bx.mk f h a0 b0 a1 b1 p0 p1 l0 l1 s0 s1).ok) (hf:(Bx.mk f h a0 b0 a1 b1 p0 p1 l0 l1 s0 s1).fine) (hsp:0<sp):CV VP 110 (tAg20 c0 c1 c2 c3 c5 c6 c7 c8 c9 c10 c11 c12 c13 c14 c15 c18 x1 x2 x3 x4 x5 x6 x7 x8 x9 x10 x11 x12 x13 x14 x15 x16 x17 x18 x19 x20 x21 x22 x23 x24 x25 x26 x27 x28 x29 x30 x31 x32 x33 x34 x35 x36 x37 x38 x39 x40 x41 x42 x43 x44 x45 x46 x47 x48 x49 x50 x51 x52 x53 x54 x55 x56 x57 x58 x59 x60 x61 x62 x63 x64 x65 x66 x67 x68 x69 x70 x71 x72 x73 x74 x75 x76 x77 x78 x79 x80 k0_0 k0_1 k0_2 k0_3 k0_4 k0_5 k0_6 k0_7 k0_8 k0_9 k0_10 k0_11 k0_12 k0_13 k0_14 k0_15 k0_16 k0_17 k0_18 k0_19 k0_20 k0_21 k0_22 k0_23 k0_24 k0_25 k0_26 k0_27 k0_28 k0_29 k0_30 k0_31 k0_32 k0_33 k0_34 k0_35 k0_36 k0_37 k0_38 k0_39 k0_40 k0_41 k1_0 k1_1 k1_2 k1_3 k1_4 k1_5 k1_6 k1_7 k1_8 k1_9 k1_10 k1_11 k1_12 k1_13 k1_14 k1_15 k1_16 k1_17 k1_18 k1_19 k1_20 k1_21 k1_22 k1_23 k1_24 k1_25 k1_26 k1_27 k1_28 k1_29 k1_30 k1_31 k1_32 k1_33 k1_34 k1_35 k1_36 k1_37 k1_38 k1_39 k1_40 k1_41 r0 r1 r2 r3 r4 r5 r6 r7 r8 r9 r10 r11 r12 r13 r15 r35 r36 r37 o0 o1 o2 n0 n1 n2 z0 z1 z2 own sp spi f h a0 b0 a1 b1 p0 p1 l0 l1 s0 s1 ([[ya,.lit (.string ⟨#[103,111,108,100]⟩),yb]]++Rt) 0) []=some (tRg20 c0 c1 c2 c3 c5 c6 c7 c8 c9 c10 c11 c12 c13 c14 c15 c18 x1 x2 x3 x4 x5 x6 x7 x8 x9 x10 x11 x12 x13 x14 x15 x16 x17 x18 x19 x20 x21 x22 x23 x24 x25 x26 x27 x28 x29 x30 x31 x32 x33 x34 x35 x36 x37 x38 x39 x40 x41 x42 x43 x44 x45 x46 x47 x48 x49 x50 x51 x52 x53 x54 x55 x56 x57 x58 x59 x60 x61 x62 x63 x64 x65 x66 x67 x68 x69 x70 x71 x72 x73 x74 x75 x76 x77 x78 x79 x80 k0_0 k0_1 k0_2 k0_3 k0_4 k0_5 k0_6 k0_7 k0_8 k0_9 k0_10 k0_11 k0_12 k0_13 k0_14 k0_15 k0_16 k0_17 k0_18 k0_19 k0_20 k0_21 k0_22 k0_23 k0_24 k0_25 k0_26 k0_27 k0_28 k0_29 k0_30 k0_31 k0_32 k0_33 k0_34 k0_35 k0_36 k0_37 k0_38 k0_39 k0_40 k0_41 k1_0 k1_1 k1_2 k1_3 k1_4 k1_5 k1_6 k1_7 k1_8 k1_9 k1_10 k1_11 k1_12 k1_13 k1_14 k1_15 k1_16 k1_17 k1_18 k1_19 k1_20 k1_21 k1_22 k1_23 k1_24 k1_25 k1_26 k1_27 k1_28 k1_29 k1_30 k1_31 k1_32 k1_33 k1_34 k1_35 k1_36 k1_37 k1_38 k1_39 k1_40 k1_41 o0 o1 o2 n0 n1 n2 own sp spi f h a0 b0 a1 b1 p0 p1 l0 l1 s0 s1 ([[ya,.lit (.string ⟨#[103,111,108,100]⟩),yb]]++Rt) 0):=
 CV_R (ATk_ok ⟨#[103,111,108,100]⟩) 400 [(1,true),(84,true),(0,true),(28,false)] [] rfl rfl (ob:=obT0 own sp f h a0 b0 a1 b1 p0 p1 l0 l1 s0 s1) (by kernel_rfl) (obT0_ok _ _ _ _ _ _ _ _ _ _ _ _ _ _ ho hf hsp)
theorem tkg20_1 (ho:(Bx.mk f h a0 b0 a1 b1 p0 p1 l0 l1 s0 s1).ok) (hf:(Bx.mk f h a0 b0 a1 b1 p0 p1 l0 l1 s0 s1).fine) (hsp:0<sp):CV VP 110 (tAg20 c0 c1 c2 c3 c5 c6 c7 c8 c9 c10 c11 c12 c13 c14 c15 c18 x1 x2 x3 x4 x5 x6 x7 x8 x9 x10 x11 x12 x13 x14 x15 x16 x17 x18 x19 x20 x21 x22 x23 x24 x25 x26 x27 x28 x29 x30 x31 x32 x33 x34 x35 x36 x37 x38 x39 x40 x41 x42 x43 x44 x45 x46 x47 x48 x49 x50 x51 x52 x53 x54 x55 x56 x57 x58 x59 x60 x61 x62 x63 x64 x65 x66 x67 x68 x69 x70 x71 x72 x73 x74 x75 x76 x77 x78 x79 x80 k0_0 k0_1 k0_2 k0_3 k0_4 k0_5 k0_6 k0_7 k0_8 k0_9 k0_10 k0_11 k0_12 k0_13 k0_14 k0_15 k0_16 k0_17 k0_18 k0_19 k0_20 k0_21 k0_22 k0_23 k0_24 k0_25 k0_26 k0_27 k0_28 k0_29 k0_30 k0_31 k0_32 k0_33 k0_34 k0_35 k0_36 k0_37 k0_38 k0_39 k0_40 k0_41 k1_0 k1_1 k1_2 k1_3 k1_4 k1_5 k1_6 k1_7 k1_8 k1_9 k1_10 k1_11 k1_12 k1_13 k1_14 k1_15 k1_16 k1_17 k1_18 k1_19 k1_20 k1_21 k1_22 k1_23 k1_24 k1_25 k1_26 k1_27 k1_28 k1_29 k1_30 k1_31 k1_32 k1_33 k1_34 k1_35 k1_36 k1_37 k1_38 k1_39 k1_40 k1_41 r0 r1 r2 r3 r4 r5 r6 r7 r8 r9 r10 r11 r12 r13 r15 r35 r36 r37 o0 o1 o2 n0 n1 n2 z0 z1 z2 own sp spi f h a0 b0 a1 b1 p0 p1 l0 l1 s0 s1 ([ro0,[ya,.lit (.string ⟨#[103,111,108,100]⟩),yb]]++Rt) 1) []=some (tRg20 c0 c1 c2 c3 c5 c6 c7 c8 c9 c10 c11 c12 c13 c14 c15 c18 x1 x2 x3 x4 x5 x6 x7 x8 x9 x10 x11 x12 x13 x14 x15 x16 x17 x18 x19 x20 x21 x22 x23 x24 x25 x26 x27 x28 x29 x30 x31 x32 x33 x34 x35 x36 x37 x38 x39 x40 x41 x42 x43 x44 x45 x46 x47 x48 x49 x50 x51 x52 x53 x54 x55 x56 x57 x58 x59 x60 x61 x62 x63 x64 x65 x66 x67 x68 x69 x70 x71 x72 x73 x74 x75 x76 x77 x78 x79 x80 k0_0 k0_1 k0_2 k0_3 k0_4 k0_5 k0_6 k0_7 k0_8 k0_9 k0_10 k0_11 k0_12 k0_13 k0_14 k0_15 k0_16 k0_17 k0_18 k0_19 k0_20 k0_21 k0_22 k0_23 k0_24 k0_25 k0_26 k0_27 k0_28 k0_29 k0_30 k0_31 k0_32 k0_33 k0_34 k0_35 k0_36 k0_37 k0_38 k0_39 k0_40 k0_41 k1_0 k1_1 k1_2 k1_3 k1_4 k1_5 k1_6 k1_7 k1_8 k1_9 k1_10 k1_11 k1_12 k1_13 k1_14 k1_15 k1_16 k1_17 k1_18 k1_19 k1_20 k1_21 k1_22 k1_23 k1_24 k1_25 k1_26 k1_27 k1_28 k1_29 k1_30 k1_31 k1_32 k1_33 k1_34 k1_35 k1_36 k1_37 k1_38 k1_39 k1_40 k1_41 o0 o1 o2 n0 n1 n2 own sp spi f h a0 b0 a1 b1 p0 p1 l0 l1 s0 s1 ([ro0,[ya,.lit (.string ⟨#[103,111,108,100]⟩),yb]]++Rt) 1):=
 CV_R (ATk_ok ⟨#[103,111,108,100]⟩) 400 [(1,true),(84,true),(0,true),(28,false)] [] rfl rfl (ob:=obT0 own sp f h a0 b0 a1 b1 p0 p1 l0 l1 s0 s1) (by kernel_rfl) (obT0_ok _ _ _ _ _ _ _ _ _ _ _ _ _ _ ho hf hsp)
theorem tkg20_2 (ho:(Bx.mk f h a0 b0 a1 b1 p0 p1 l0 l1 s0 s1).ok) (hf:(Bx.mk f h a0 b0 a1 b1 p0 p1 l0 l1 s0 s1).fine) (hsp:0<sp):CV VP 110 (tAg20 c0 c1 c2 c3 c5 c6 c7 c8 c9 c10 c11 c12 c13 c14 c15 c18 x1 x2 x3 x4 x5 x6 x7 x8 x9 x10 x11 x12 x13 x14 x15 x16 x17 x18 x19 x20 x21 x22 x23 x24 x25 x26 x27 x28 x29 x30 x31 x32 x33 x34 x35 x36 x37 x38 x39 x40 x41 x42 x43 x44 x45 x46 x47 x48 x49 x50 x51 x52 x53 x54 x55 x56 x57 x58 x59 x60 x61 x62 x63 x64 x65 x66 x67 x68 x69 x70 x71 x72 x73 x74 x75 x76 x77 x78 x79 x80 k0_0 k0_1 k0_2 k0_3 k0_4 k0_5 k0_6 k0_7 k0_8 k0_9 k0_10 k0_11 k0_12 k0_13 k0_14 k0_15 k0_16 k0_17 k0_18 k0_19 k0_20 k0_21 k0_22 k0_23 k0_24 k0_25 k0_26 k0_27 k0_28 k0_29 k0_30 k0_31 k0_32 k0_33 k0_34 k0_35 k0_36 k0_37 k0_38 k0_39 k0_40 k0_41 k1_0 k1_1 k1_2 k1_3 k1_4 k1_5 k1_6 k1_7 k1_8 k1_9 k1_10 k1_11 k1_12 k1_13 k1_14 k1_15 k1_16 k1_17 k1_18 k1_19 k1_20 k1_21 k1_22 k1_23 k1_24 k1_25 k1_26 k1_27 k1_28 k1_29 k1_30 k1_31 k1_32 k1_33 k1_34 k1_35 k1_36 k1_37 k1_38 k1_39 k1_40 k1_41 r0 r1 r2 r3 r4 r5 r6 r7 r8 r9 r10 r11 r12 r13 r15 r35 r36 r37 o0 o1 o2 n0 n1 n2 z0 z1 z2 own sp spi f h a0 b0 a1 b1 p0 p1 l0 l1 s0 s1 ([ro0,ro1,[ya,.lit (.string ⟨#[103,111,108,100]⟩),yb]]++Rt) 2) []=some (tRg20 c0 c1 c2 c3 c5 c6 c7 c8 c9 c10 c11 c12 c13 c14 c15 c18 x1 x2 x3 x4 x5 x6 x7 x8 x9 x10 x11 x12 x13 x14 x15 x16 x17 x18 x19 x20 x21 x22 x23 x24 x25 x26 x27 x28 x29 x30 x31 x32 x33 x34 x35 x36 x37 x38 x39 x40 x41 x42 x43 x44 x45 x46 x47 x48 x49 x50 x51 x52 x53 x54 x55 x56 x57 x58 x59 x60 x61 x62 x63 x64 x65 x66 x67 x68 x69 x70 x71 x72 x73 x74 x75 x76 x77 x78 x79 x80 k0_0 k0_1 k0_2 k0_3 k0_4 k0_5 k0_6 k0_7 k0_8 k0_9 k0_10 k0_11 k0_12 k0_13 k0_14 k0_15 k0_16 k0_17 k0_18 k0_19 k0_20 k0_21 k0_22 k0_23 k0_24 k0_25 k0_26 k0_27 k0_28 k0_29 k0_30 k0_31 k0_32 k0_33 k0_34 k0_35 k0_36 k0_37 k0_38 k0_39 k0_40 k0_41 k1_0 k1_1 k1_2 k1_3 k1_4 k1_5 k1_6 k1_7 k1_8 k1_9 k1_10 k1_11 k1_12 k1_13 k1_14 k1_15 k1_16 k1_17 k1_18 k1_19 k1_20 k1_21 k1_22 k1_23 k1_24 k1_25 k1_26 k1_27 k1_28 k1_29 k1_30 k1_31 k1_32 k1_33 k1_34 k1_35 k1_36 k1_37 k1_38 k1_39 k1_40 k1_41 o0 o1 o2 n0 n1 n2 own sp spi f h a0 b0 a1 b1 p0 p1 l0 l1 s0 s1 ([ro0,ro1,[ya,.lit (.string ⟨#[103,111,108,100]⟩),yb]]++Rt) 2):=
 CV_R (ATk_ok ⟨#[103,111,108,100]⟩) 400 [(1,true),(84,true),(0,true),(28,false)] [] rfl rfl (ob:=obT0 own sp f h a0 b0 a1 b1 p0 p1 l0 l1 s0 s1) (by kernel_rfl) (obT0_ok _ _ _ _ _ _ _ _ _ _ _ _ _ _ ho hf hsp)
theorem tkg20_3 (ho:(Bx.mk f h a0 b0 a1 b1 p0 p1 l0 l1 s0 s1).ok) (hf:(Bx.mk f h a0 b0 a1 b1 p0 p1 l0 l1 s0 s1).fine) (hsp:0<sp):CV VP 110 (tAg20 c0 c1 c2 c3 c5 c6 c7 c8 c9 c10 c11 c12 c13 c14 c15 c18 x1 x2 x3 x4 x5 x6 x7 x8 x9 x10 x11 x12 x13 x14 x15 x16 x17 x18 x19 x20 x21 x22 x23 x24 x25 x26 x27 x28 x29 x30 x31 x32 x33 x34 x35 x36 x37 x38 x39 x40 x41 x42 x43 x44 x45 x46 x47 x48 x49 x50 x51 x52 x53 x54 x55 x56 x57 x58 x59 x60 x61 x62 x63 x64 x65 x66 x67 x68 x69 x70 x71 x72 x73 x74 x75 x76 x77 x78 x79 x80 k0_0 k0_1 k0_2 k0_3 k0_4 k0_5 k0_6 k0_7 k0_8 k0_9 k0_10 k0_11 k0_12 k0_13 k0_14 k0_15 k0_16 k0_17 k0_18 k0_19 k0_20 k0_21 k0_22 k0_23 k0_24 k0_25 k0_26 k0_27 k0_28 k0_29 k0_30 k0_31 k0_32 k0_33 k0_34 k0_35 k0_36 k0_37 k0_38 k0_39 k0_40 k0_41 k1_0 k1_1 k1_2 k1_3 k1_4 k1_5 k1_6 k1_7 k1_8 k1_9 k1_10 k1_11 k1_12 k1_13 k1_14 k1_15 k1_16 k1_17 k1_18 k1_19 k1_20 k1_21 k1_22 k1_23 k1_24 k1_25 k1_26 k1_27 k1_28 k1_29 k1_30 k1_31 k1_32 k1_33 k1_34 k1_35 k1_36 k1_37 k1_38 k1_39 k1_40 k1_41 r0 r1 r2 r3 r4 r5 r6 r7 r8 r9 r10 r11 r12 r13 r15 r35 r36 r37 o0 o1 o2 n0 n1 n2 z0 z1 z2 own sp spi f h a0 b0 a1 b1 p0 p1 l0 l1 s0 s1 ([ro0,ro1,ro2,[ya,.lit (.string ⟨#[103,111,108,100]⟩),yb]]++Rt) 3) []=some (tRg20 c0 c1 c2 c3 c5 c6 c7 c8 c9 c10 c11 c12 c13 c14 c15 c18 x1 x2 x3 x4 x5 x6 x7 x8 x9 x10 x11 x12 x13 x14 x15 x16 x17 x18 x19 x20 x21 x22 x23 x24 x25 x26 x27 x28 x29 x30 x31 x32 x33 x34 x35 x36 x37 x38 x39 x40 x41 x42 x43 x44 x45 x46 x47 x48 x49 x50 x51 x52 x53 x54 x55 x56 x57 x58 x59 x60 x61 x62 x63 x64 x65 x66 x67 x68 x69 x70 x71 x72 x73 x74 x75 x76 x77 x78 x79 x80 k0_0 k0_1 k0_2 k0_3 k0_4 k0_5 k0_6 k0_7 k0_8 k0_9 k0_10 k0_11 k0_12 k0_13 k0_14 k0_15 k0_16 k0_17 k0_18 k0_19 k0_20 k0_21 k0_22 k0_23 k0_24 k0_25 k0_26 k0_27 k0_28 k0_29 k0_30 k0_31 k0_32 k0_33 k0_34 k0_35 k0_36 k0_37 k0_38 k0_39 k0_40 k0_41 k1_0 k1_1 k1_2 k1_3 k1_4 k1_5 k1_6 k1_7 k1_8 k1_9 k1_10 k1_11 k1_12 k1_13 k1_14 k1_15 k1_16 k1_17 k1_18 k1_19 k1_20 k1_21 k1_22 k1_23 k1_24 k1_25 k1_26 k1_27 k1_28 k1_29 k1_30 k1_31 k1_32 k1_33 k1_34 k1_35 k1_36 k1_37 k1_38 k1_39 k1_40 k1_41 o0 o1 o2 n0 n1 n2 own sp spi f h a0 b0 a1 b1 p0 p1 l0 l1 s0 s1 ([ro0,ro1,ro2,[ya,.lit (.string ⟨#[103,111,108,100]⟩),yb]]++Rt) 3):=
 CV_R (ATk_ok ⟨#[103,111,108,100]⟩) 400 [(1,true),(84,true),(0,true),(28,false)] [] rfl rfl (ob:=obT0 own sp f h a0 b0 a1 b1 p0 p1 l0 l1 s0 s1) (by kernel_rfl) (obT0_ok _ _ _ _ _ _ _ _ _ _ _ _ _ _ ho hf hsp)
theorem h110g20 (hra:∃ (i:Nat) (a b:D),ri=(i:Int)∧Ra[i]?=some [a,.lit (.string ⟨#[103,111,108,100]⟩),b]) (hlen:Ra.length≤4) (ho:(Bx.mk f h a0 b0 a1 b1 p0 p1 l0 l1 s0 s1).ok) (hf:(Bx.mk f h a0 b0 a1 b1 p0 p1 l0 l1 s0 s1).fine) (hsp:0<sp):CV VP 110 (tAg20 c0 c1 c2 c3 c5 c6 c7 c8 c9 c10 c11 c12 c13 c14 c15 c18 x1 x2 x3 x4 x5 x6 x7 x8 x9 x10 x11 x12 x13 x14 x15 x16 x17 x18 x19 x20 x21 x22 x23 x24 x25 x26 x27 x28 x29 x30 x31 x32 x33 x34 x35 x36 x37 x38 x39 x40 x41 x42 x43 x44 x45 x46 x47 x48 x49 x50 x51 x52 x53 x54 x55 x56 x57 x58 x59 x60 x61 x62 x63 x64 x65 x66 x67 x68 x69 x70 x71 x72 x73 x74 x75 x76 x77 x78 x79 x80 k0_0 k0_1 k0_2 k0_3 k0_4 k0_5 k0_6 k0_7 k0_8 k0_9 k0_10 k0_11 k0_12 k0_13 k0_14 k0_15 k0_16 k0_17 k0_18 k0_19 k0_20 k0_21 k0_22 k0_23 k0_24 k0_25 k0_26 k0_27 k0_28 k0_29 k0_30 k0_31 k0_32 k0_33 k0_34 k0_35 k0_36 k0_37 k0_38 k0_39 k0_40 k0_41 k1_0 k1_1 k1_2 k1_3 k1_4 k1_5 k1_6 k1_7 k1_8 k1_9 k1_10 k1_11 k1_12 k1_13 k1_14 k1_15 k1_16 k1_17 k1_18 k1_19 k1_20 k1_21 k1_22 k1_23 k1_24 k1_25 k1_26 k1_27 k1_28 k1_29 k1_30 k1_31 k1_32 k1_33 k1_34 k1_35 k1_36 k1_37 k1_38 k1_39 k1_40 k1_41 r0 r1 r2 r3 r4 r5 r6 r7 r8 r9 r10 r11 r12 r13 r15 r35 r36 r37 o0 o1 o2 n0 n1 n2 z0 z1 z2 own sp spi f h a0 b0 a1 b1 p0 p1 l0 l1 s0 s1 Ra ri) []=some (tRg20 c0 c1 c2 c3 c5 c6 c7 c8 c9 c10 c11 c12 c13 c14 c15 c18 x1 x2 x3 x4 x5 x6 x7 x8 x9 x10 x11 x12 x13 x14 x15 x16 x17 x18 x19 x20 x21 x22 x23 x24 x25 x26 x27 x28 x29 x30 x31 x32 x33 x34 x35 x36 x37 x38 x39 x40 x41 x42 x43 x44 x45 x46 x47 x48 x49 x50 x51 x52 x53 x54 x55 x56 x57 x58 x59 x60 x61 x62 x63 x64 x65 x66 x67 x68 x69 x70 x71 x72 x73 x74 x75 x76 x77 x78 x79 x80 k0_0 k0_1 k0_2 k0_3 k0_4 k0_5 k0_6 k0_7 k0_8 k0_9 k0_10 k0_11 k0_12 k0_13 k0_14 k0_15 k0_16 k0_17 k0_18 k0_19 k0_20 k0_21 k0_22 k0_23 k0_24 k0_25 k0_26 k0_27 k0_28 k0_29 k0_30 k0_31 k0_32 k0_33 k0_34 k0_35 k0_36 k0_37 k0_38 k0_39 k0_40 k0_41 k1_0 k1_1 k1_2 k1_3 k1_4 k1_5 k1_6 k1_7 k1_8 k1_9 k1_10 k1_11 k1_12 k1_13 k1_14 k1_15 k1_16 k1_17 k1_18 k1_19 k1_20 k1_21 k1_22 k1_23 k1_24 k1_25 k1_26 k1_27 k1_28 k1_29 k1_30 k1_31 k1_32 k1_33 k1_34 k1_35 k1_36 k1_37 k1_38 k1_39 k1_40 k1_41 o0 o1 o2 n0 n1 n2 own sp spi f h a0 b0 a1 b1 p0 p1 l0 l1 s0 s1 Ra ri):=by
 obtain ⟨i,a,b,rfl,hi⟩:=hra
 match i,Ra,hi,hlen with
 |0,r::Rt,hi,_=>simp only [List.getElem?_cons_zero,Option.some.injEq] at hi;subst hi;exact tkg20_0 ho hf hsp
 |1,ro0::r::Rt,hi,_=>simp only [List.getElem?_cons_succ,List.getElem?_cons_zero,Option.some.injEq] at hi;subst hi;exact tkg20_1 ho hf hsp
 |2,ro0::ro1::r::Rt,hi,_=>simp only [List.getElem?_cons_succ,List.getElem?_cons_zero,Option.some.injEq] at hi;subst hi;exact tkg20_2 ho hf hsp
 |3,ro0::ro1::ro2::r::Rt,hi,_=>simp only [List.getElem?_cons_succ,List.getElem?_cons_zero,Option.some.injEq] at hi;subst hi;exact tkg20_3 ho hf hsp
 |0,[],hi,_=>exact absurd hi (by simp)
 |1,[],hi,_=>exact absurd hi (by simp)
 |1,[ro0],hi,_=>exact absurd hi (by simp)
 |2,[],hi,_=>exact absurd hi (by simp)
 |2,[ro0],hi,_=>exact absurd hi (by simp)
 |2,[ro0,ro1],hi,_=>exact absurd hi (by simp)
 |3,[],hi,_=>exact absurd hi (by simp)
 |3,[ro0],hi,_=>exact absurd hi (by simp)
 |3,[ro0,ro1],hi,_=>exact absurd hi (by simp)
 |3,[ro0,ro1,ro2],hi,_=>exact absurd hi (by simp)
 |i+4,Ra,hi,hlen=>exact absurd (List.getElem?_eq_some_iff.1 hi).1 (by omega)
noncomputable abbrev obT2 (own sp f h a0 b0 a1 b1 p0 p1 l0 l1 s0 s1:Int):List (Bool×Bool):=[((!(ansB VP 183 [.agg [A f,C h,C a1,A f,C h,C b1,A f,C h,C a0,A f,C h,C b0,A p0,A p1,A s0,A s1,A l0,A l1],.agg [A f,C h,C a1,A f,C h,C b1,A f,C h,C a0,A f,C h,C b0,A p0,A p1,A s0,A s1,A l0,A l1]])),false),((prB (CV VP 183 [.agg [A f,C h,C a1,A f,C h,C b1,A f,C h,C a0,A f,C h,C b0,A p0,A p1,A s0,A s1,A l0,A l1],.agg [A f,C h,C a1,A f,C h,C b1,A f,C h,C a0,A f,C h,C b0,A p0,A p1,A s0,A s1,A l0,A l1]] []=some ⟨.d (B (ansB VP 183 [.agg [A f,C h,C a1,A f,C h,C b1,A f,C h,C a0,A f,C h,C b0,A p0,A p1,A s0,A s1,A l0,A l1],.agg [A f,C h,C a1,A f,C h,C b1,A f,C h,C a0,A f,C h,C b0,A p0,A p1,A s0,A s1,A l0,A l1]])),[],[],0⟩)),true),((!(leF sp 0)),true),((!(leF sp 0)),true),((prB (CV VP 203 [E [N f,N h,N a0,N f,N h,N b0,N f,N h,N a1,N f,N h,N b1,N p0,N p1,N l0,N l1,N s0,N s1,N 115,N 105,N 108,N 118,N 101,N 114]] []=some ⟨.tup [.agg [A f,C h,C a0,A f,C h,C b0,A f,C h,C a1,A f,C h,C b1,A p0,A p1,A l0,A l1,A s0,A s1],.d (.lit (.string ⟨#[115,105,108,118,101,114]⟩)),.d (B true)],[],[],0⟩)),true),qT own]
theorem obT2_ok (own sp f h a0 b0 a1 b1 p0 p1 l0 l1 s0 s1:Int) (ho:(Bx.mk f h a0 b0 a1 b1 p0 p1 l0 l1 s0 s1).ok) (hf:(Bx.mk f h a0 b0 a1 b1 p0 p1 l0 l1 s0 s1).fine) (hsp:0<sp):OKs (obT2 own sp f h a0 b0 a1 b1 p0 p1 l0 l1 s0 s1):=by
 have hso:=(Bx.swap_both ho hf).1
 have hv:=ins_self _ hso (Bx.swap_both ho hf).2
 exact .cons (congrArg Bool.not hv)<|.cons (prB_of (h100 (Bx.mk f h a1 b1 a0 b0 p0 p1 s0 s1 l0 l1) (Bx.mk f h a1 b1 a0 b0 p0 p1 s0 s1 l0 l1) hso hso))<|.cons (spT hsp)<|.cons (spT hsp)<|.cons (prB_of (h37s (Bx.mk f h a0 b0 a1 b1 p0 p1 l0 l1 s0 s1) ho hf))<|okT<|.nil
abbrev tAs20 (c0 c1 c2 c3 c5 c6 c7 c8 c9 c10 c11 c12 c13 c14 c15 c18 x1 x2 x3 x4 x5 x6 x7 x8 x9 x10 x11 x12 x13 x14 x15 x16 x17 x18 x19 x20 x21 x22 x23 x24 x25 x26 x27 x28 x29 x30 x31 x32 x33 x34 x35 x36 x37 x38 x39 x40 x41 x42 x43 x44 x45 x46 x47 x48 x49 x50 x51 x52 x53 x54 x55 x56 x57 x58 x59 x60 x61 x62 x63 x64 x65 x66 x67 x68 x69 x70 x71 x72 x73 x74 x75 x76 x77 x78 x79 x80 k0_0 k0_1 k0_2 k0_3 k0_4 k0_5 k0_6 k0_7 k0_8 k0_9 k0_10 k0_11 k0_12 k0_13 k0_14 k0_15 k0_16 k0_17 k0_18 k0_19 k0_20 k0_21 k0_22 k0_23 k0_24 k0_25 k0_26 k0_27 k0_28 k0_29 k0_30 k0_31 k0_32 k0_33 k0_34 k0_35 k0_36 k0_37 k0_38 k0_39 k0_40 k0_41 k1_0 k1_1 k1_2 k1_3 k1_4 k1_5 k1_6 k1_7 k1_8 k1_9 k1_10 k1_11 k1_12 k1_13 k1_14 k1_15 k1_16 k1_17 k1_18 k1_19 k1_20 k1_21 k1_22 k1_23 k1_24 k1_25 k1_26 k1_27 k1_28 k1_29 k1_30 k1_31 k1_32 k1_33 k1_34 k1_35 k1_36 k1_37 k1_38 k1_39 k1_40 k1_41 r0 r1 r2 r3 r4 r5 r6 r7 r8 r9 r10 r11 r12 r13 r15 r35 r36 r37 o0 o1 o2 n0 n1 n2 z0 z1 z2:D) (own sp spi f h a0 b0 a1 b1 p0 p1 l0 l1 s0 s1:Int) (Ra:List (List D)) (ri:Int):List V:=[.agg [.d c0,.d c1,.d c2,.d c3,E Ra,.d c5,.d c6,.d c7,.d c8,.d c9,.d c10,.d c11,.d c12,.d c13,.d c14,.d c15,E [[I own,x1,x2,x3,x4,x5,x6,x7,x8,x9,x10,x11,x12,x13,x14,x15,x16,x17,x18,x19,x20,x21,x22,x23,x24,x25,x26,x27,x28,x29,x30,x31,x32,x33,x34,x35,x36,x37,x38,x39,x40,x41,x42,x43,x44,x45,x46,x47,x48,x49,x50,x51,x52,x53,x54,x55,x56,x57,x58,x59,x60,x61,x62,x63,x64,x65,x66,x67,x68,x69,x70,x71,x72,x73,x74,x75,x76,x77,x78,x79,x80]],E [[k0_0,k0_1,k0_2,k0_3,k0_4,k0_5,k0_6,k0_7,k0_8,k0_9,k0_10,k0_11,k0_12,k0_13,k0_14,k0_15,k0_16,k0_17,k0_18,k0_19,k0_20,k0_21,k0_22,k0_23,k0_24,k0_25,k0_26,k0_27,k0_28,k0_29,k0_30,k0_31,k0_32,k0_33,k0_34,k0_35,k0_36,k0_37,k0_38,k0_39,k0_40,k0_41],[k1_0,k1_1,k1_2,k1_3,k1_4,k1_5,k1_6,k1_7,k1_8,k1_9,k1_10,k1_11,k1_12,k1_13,k1_14,k1_15,k1_16,k1_17,k1_18,k1_19,k1_20,k1_21,k1_22,k1_23,k1_24,k1_25,k1_26,k1_27,k1_28,k1_29,k1_30,k1_31,k1_32,k1_33,k1_34,k1_35,k1_36,k1_37,k1_38,k1_39,k1_40,k1_41]],.d c18],A own,E [R 3 0 [N 10,N sp],R 3 0 [N 11,N f,N h,N a0,N f,N h,N b0,N f,N h,N a1,N f,N h,N b1,N p0,N p1,N l0,N l1,N s0,N s1,N 115,N 105,N 108,N 118,N 101,N 114],[z0,z1,z2]],.agg [.d r0,.d r1,.d r2,.d r3,.d r4,.d r5,.d r6,.d r7,.d r8,.d r9,.d r10,.d r11,.d r12,.d r13,A spi,.d r15,A ri,A f,C h,C a1,A f,C h,C b1,A f,C h,C a0,A f,C h,C b0,A p0,A p1,A s0,A s1,A l0,A l1,.d r35,.d r36,.d r37,Z],.agg [.d o0,.d o1,.d o2],.agg [.d n0,.d n1,.d n2]]
abbrev tRs20 (c0 c1 c2 c3 c5 c6 c7 c8 c9 c10 c11 c12 c13 c14 c15 c18 x1 x2 x3 x4 x5 x6 x7 x8 x9 x10 x11 x12 x13 x14 x15 x16 x17 x18 x19 x20 x21 x22 x23 x24 x25 x26 x27 x28 x29 x30 x31 x32 x33 x34 x35 x36 x37 x38 x39 x40 x41 x42 x43 x44 x45 x46 x47 x48 x49 x50 x51 x52 x53 x54 x55 x56 x57 x58 x59 x60 x61 x62 x63 x64 x65 x66 x67 x68 x69 x70 x71 x72 x73 x74 x75 x76 x77 x78 x79 x80 k0_0 k0_1 k0_2 k0_3 k0_4 k0_5 k0_6 k0_7 k0_8 k0_9 k0_10 k0_11 k0_12 k0_13 k0_14 k0_15 k0_16 k0_17 k0_18 k0_19 k0_20 k0_21 k0_22 k0_23 k0_24 k0_25 k0_26 k0_27 k0_28 k0_29 k0_30 k0_31 k0_32 k0_33 k0_34 k0_35 k0_36 k0_37 k0_38 k0_39 k0_40 k0_41 k1_0 k1_1 k1_2 k1_3 k1_4 k1_5 k1_6 k1_7 k1_8 k1_9 k1_10 k1_11 k1_12 k1_13 k1_14 k1_15 k1_16 k1_17 k1_18 k1_19 k1_20 k1_21 k1_22 k1_23 k1_24 k1_25 k1_26 k1_27 k1_28 k1_29 k1_30 k1_31 k1_32 k1_33 k1_34 k1_35 k1_36 k1_37 k1_38 k1_39 k1_40 k1_41 o0 o1 o2 n0 n1 n2:D) (own sp spi f h a0 b0 a1 b1 p0 p1 l0 l1 s0 s1:Int) (Ra:List (List D)) (ri:Int):Ret:=⟨.tup [.agg [.d c0,.d c1,.d c2,.d c3,E Ra,.d c5,.d c6,.d c7,.d c8,.d c9,.d c10,.d c11,.d c12,.d c13,.d c14,.d c15,E [[I own,x1,x2,x3,x4,x5,x6,x7,x8,x9,x10,x11,x12,x13,x14,x15,x16,x17,x18,x19,x20,x21,x22,x23,x24,x25,x26,x27,x28,x29,x30,x31,x32,x33,x34,x35,x36,x37,x38,x39,x40,x41,x42,x43,x44,x45,x46,x47,x48,x49,x50,x51,x52,x53,x54,x55,x56,x57,x58,x59,x60,x61,x62,x63,x64,x65,x66,x67,x68,x69,x70,x71,x72,x73,x74,x75,x76,x77,x78,x79,x80]],E [[k0_0,k0_1,k0_2,k0_3,k0_4,k0_5,k0_6,k0_7,k0_8,k0_9,k0_10,k0_11,k0_12,k0_13,k0_14,k0_15,k0_16,k0_17,k0_18,k0_19,k0_20,k0_21,k0_22,k0_23,k0_24,k0_25,k0_26,k0_27,k0_28,k0_29,k0_30,k0_31,k0_32,k0_33,k0_34,k0_35,k0_36,k0_37,k0_38,k0_39,k0_40,k0_41],[k1_0,k1_1,k1_2,k1_3,k1_4,k1_5,k1_6,k1_7,k1_8,k1_9,k1_10,k1_11,k1_12,k1_13,k1_14,k1_15,k1_16,k1_17,k1_18,k1_19,k1_20,k1_21,k1_22,k1_23,k1_24,k1_25,k1_26,k1_27,k1_28,k1_29,k1_30,k1_31,k1_32,k1_33,k1_34,k1_35,k1_36,k1_37,k1_38,k1_39,k1_40,k1_41],[I spi,I sp,I own,I ri,I f,U h,U a1,I f,U h,U b1,I f,U h,U a0,I f,U h,U b0,I p0,I p1,I s0,I s1,I l0,I l1,I 6,I 6,.sl [[x6,x7,x8],[o0,o1,o2],[n0,n1,n2]],I 6,I 5,.sl [[x6,x7,x8],[o0,o1,o2],[n0,n1,n2]],B true,o0,o1,o2,n0,n1,n2,I 1,I 0,I 6,U 0,.sl [[U 0]],I 0,I 0]],.d c18],A spi,.d (B true)],[],[],0⟩
theorem tks20_0 (ho:(Bx.mk f h a0 b0 a1 b1 p0 p1 l0 l1 s0 s1).ok) (hf:(Bx.mk f h a0 b0 a1 b1 p0 p1 l0 l1 s0 s1).fine) (hsp:0<sp):CV VP 110 (tAs20 c0 c1 c2 c3 c5 c6 c7 c8 c9 c10 c11 c12 c13 c14 c15 c18 x1 x2 x3 x4 x5 x6 x7 x8 x9 x10 x11 x12 x13 x14 x15 x16 x17 x18 x19 x20 x21 x22 x23 x24 x25 x26 x27 x28 x29 x30 x31 x32 x33 x34 x35 x36 x37 x38 x39 x40 x41 x42 x43 x44 x45 x46 x47 x48 x49 x50 x51 x52 x53 x54 x55 x56 x57 x58 x59 x60 x61 x62 x63 x64 x65 x66 x67 x68 x69 x70 x71 x72 x73 x74 x75 x76 x77 x78 x79 x80 k0_0 k0_1 k0_2 k0_3 k0_4 k0_5 k0_6 k0_7 k0_8 k0_9 k0_10 k0_11 k0_12 k0_13 k0_14 k0_15 k0_16 k0_17 k0_18 k0_19 k0_20 k0_21 k0_22 k0_23 k0_24 k0_25 k0_26 k0_27 k0_28 k0_29 k0_30 k0_31 k0_32 k0_33 k0_34 k0_35 k0_36 k0_37 k0_38 k0_39 k0_40 k0_41 k1_0 k1_1 k1_2 k1_3 k1_4 k1_5 k1_6 k1_7 k1_8 k1_9 k1_10 k1_11 k1_12 k1_13 k1_14 k1_15 k1_16 k1_17 k1_18 k1_19 k1_20 k1_21 k1_22 k1_23 k1_24 k1_25 k1_26 k1_27 k1_28 k1_29 k1_30 k1_31 k1_32 k1_33 k1_34 k1_35 k1_36 k1_37 k1_38 k1_39 k1_40 k1_41 r0 r1 r2 r3 r4 r5 r6 r7 r8 r9 r10 r11 r12 r13 r15 r35 r36 r37 o0 o1 o2 n0 n1 n2 z0 z1 z2 own sp spi f h a0 b0 a1 b1 p0 p1 l0 l1 s0 s1 ([[ya,.lit (.string ⟨#[115,105,108,118,101,114]⟩),yb]]++Rt) 0) []=some (tRs20 c0 c1 c2 c3 c5 c6 c7 c8 c9 c10 c11 c12 c13 c14 c15 c18 x1 x2 x3 x4 x5 x6 x7 x8 x9 x10 x11 x12 x13 x14 x15 x16 x17 x18 x19 x20 x21 x22 x23 x24 x25 x26 x27 x28 x29 x30 x31 x32 x33 x34 x35 x36 x37 x38 x39 x40 x41 x42 x43 x44 x45 x46 x47 x48 x49 x50 x51 x52 x53 x54 x55 x56 x57 x58 x59 x60 x61 x62 x63 x64 x65 x66 x67 x68 x69 x70 x71 x72 x73 x74 x75 x76 x77 x78 x79 x80 k0_0 k0_1 k0_2 k0_3 k0_4 k0_5 k0_6 k0_7 k0_8 k0_9 k0_10 k0_11 k0_12 k0_13 k0_14 k0_15 k0_16 k0_17 k0_18 k0_19 k0_20 k0_21 k0_22 k0_23 k0_24 k0_25 k0_26 k0_27 k0_28 k0_29 k0_30 k0_31 k0_32 k0_33 k0_34 k0_35 k0_36 k0_37 k0_38 k0_39 k0_40 k0_41 k1_0 k1_1 k1_2 k1_3 k1_4 k1_5 k1_6 k1_7 k1_8 k1_9 k1_10 k1_11 k1_12 k1_13 k1_14 k1_15 k1_16 k1_17 k1_18 k1_19 k1_20 k1_21 k1_22 k1_23 k1_24 k1_25 k1_26 k1_27 k1_28 k1_29 k1_30 k1_31 k1_32 k1_33 k1_34 k1_35 k1_36 k1_37 k1_38 k1_39 k1_40 k1_41 o0 o1 o2 n0 n1 n2 own sp spi f h a0 b0 a1 b1 p0 p1 l0 l1 s0 s1 ([[ya,.lit (.string ⟨#[115,105,108,118,101,114]⟩),yb]]++Rt) 0):=
 CV_R (ATk_ok ⟨#[115,105,108,118,101,114]⟩) 400 [(1,true),(84,true),(0,true),(28,false)] [] rfl rfl (ob:=obT2 own sp f h a0 b0 a1 b1 p0 p1 l0 l1 s0 s1) (by kernel_rfl) (obT2_ok _ _ _ _ _ _ _ _ _ _ _ _ _ _ ho hf hsp)
theorem tks20_1 (ho:(Bx.mk f h a0 b0 a1 b1 p0 p1 l0 l1 s0 s1).ok) (hf:(Bx.mk f h a0 b0 a1 b1 p0 p1 l0 l1 s0 s1).fine) (hsp:0<sp):CV VP 110 (tAs20 c0 c1 c2 c3 c5 c6 c7 c8 c9 c10 c11 c12 c13 c14 c15 c18 x1 x2 x3 x4 x5 x6 x7 x8 x9 x10 x11 x12 x13 x14 x15 x16 x17 x18 x19 x20 x21 x22 x23 x24 x25 x26 x27 x28 x29 x30 x31 x32 x33 x34 x35 x36 x37 x38 x39 x40 x41 x42 x43 x44 x45 x46 x47 x48 x49 x50 x51 x52 x53 x54 x55 x56 x57 x58 x59 x60 x61 x62 x63 x64 x65 x66 x67 x68 x69 x70 x71 x72 x73 x74 x75 x76 x77 x78 x79 x80 k0_0 k0_1 k0_2 k0_3 k0_4 k0_5 k0_6 k0_7 k0_8 k0_9 k0_10 k0_11 k0_12 k0_13 k0_14 k0_15 k0_16 k0_17 k0_18 k0_19 k0_20 k0_21 k0_22 k0_23 k0_24 k0_25 k0_26 k0_27 k0_28 k0_29 k0_30 k0_31 k0_32 k0_33 k0_34 k0_35 k0_36 k0_37 k0_38 k0_39 k0_40 k0_41 k1_0 k1_1 k1_2 k1_3 k1_4 k1_5 k1_6 k1_7 k1_8 k1_9 k1_10 k1_11 k1_12 k1_13 k1_14 k1_15 k1_16 k1_17 k1_18 k1_19 k1_20 k1_21 k1_22 k1_23 k1_24 k1_25 k1_26 k1_27 k1_28 k1_29 k1_30 k1_31 k1_32 k1_33 k1_34 k1_35 k1_36 k1_37 k1_38 k1_39 k1_40 k1_41 r0 r1 r2 r3 r4 r5 r6 r7 r8 r9 r10 r11 r12 r13 r15 r35 r36 r37 o0 o1 o2 n0 n1 n2 z0 z1 z2 own sp spi f h a0 b0 a1 b1 p0 p1 l0 l1 s0 s1 ([ro0,[ya,.lit (.string ⟨#[115,105,108,118,101,114]⟩),yb]]++Rt) 1) []=some (tRs20 c0 c1 c2 c3 c5 c6 c7 c8 c9 c10 c11 c12 c13 c14 c15 c18 x1 x2 x3 x4 x5 x6 x7 x8 x9 x10 x11 x12 x13 x14 x15 x16 x17 x18 x19 x20 x21 x22 x23 x24 x25 x26 x27 x28 x29 x30 x31 x32 x33 x34 x35 x36 x37 x38 x39 x40 x41 x42 x43 x44 x45 x46 x47 x48 x49 x50 x51 x52 x53 x54 x55 x56 x57 x58 x59 x60 x61 x62 x63 x64 x65 x66 x67 x68 x69 x70 x71 x72 x73 x74 x75 x76 x77 x78 x79 x80 k0_0 k0_1 k0_2 k0_3 k0_4 k0_5 k0_6 k0_7 k0_8 k0_9 k0_10 k0_11 k0_12 k0_13 k0_14 k0_15 k0_16 k0_17 k0_18 k0_19 k0_20 k0_21 k0_22 k0_23 k0_24 k0_25 k0_26 k0_27 k0_28 k0_29 k0_30 k0_31 k0_32 k0_33 k0_34 k0_35 k0_36 k0_37 k0_38 k0_39 k0_40 k0_41 k1_0 k1_1 k1_2 k1_3 k1_4 k1_5 k1_6 k1_7 k1_8 k1_9 k1_10 k1_11 k1_12 k1_13 k1_14 k1_15 k1_16 k1_17 k1_18 k1_19 k1_20 k1_21 k1_22 k1_23 k1_24 k1_25 k1_26 k1_27 k1_28 k1_29 k1_30 k1_31 k1_32 k1_33 k1_34 k1_35 k1_36 k1_37 k1_38 k1_39 k1_40 k1_41 o0 o1 o2 n0 n1 n2 own sp spi f h a0 b0 a1 b1 p0 p1 l0 l1 s0 s1 ([ro0,[ya,.lit (.string ⟨#[115,105,108,118,101,114]⟩),yb]]++Rt) 1):=
 CV_R (ATk_ok ⟨#[115,105,108,118,101,114]⟩) 400 [(1,true),(84,true),(0,true),(28,false)] [] rfl rfl (ob:=obT2 own sp f h a0 b0 a1 b1 p0 p1 l0 l1 s0 s1) (by kernel_rfl) (obT2_ok _ _ _ _ _ _ _ _ _ _ _ _ _ _ ho hf hsp)
theorem tks20_2 (ho:(Bx.mk f h a0 b0 a1 b1 p0 p1 l0 l1 s0 s1).ok) (hf:(Bx.mk f h a0 b0 a1 b1 p0 p1 l0 l1 s0 s1).fine) (hsp:0<sp):CV VP 110 (tAs20 c0 c1 c2 c3 c5 c6 c7 c8 c9 c10 c11 c12 c13 c14 c15 c18 x1 x2 x3 x4 x5 x6 x7 x8 x9 x10 x11 x12 x13 x14 x15 x16 x17 x18 x19 x20 x21 x22 x23 x24 x25 x26 x27 x28 x29 x30 x31 x32 x33 x34 x35 x36 x37 x38 x39 x40 x41 x42 x43 x44 x45 x46 x47 x48 x49 x50 x51 x52 x53 x54 x55 x56 x57 x58 x59 x60 x61 x62 x63 x64 x65 x66 x67 x68 x69 x70 x71 x72 x73 x74 x75 x76 x77 x78 x79 x80 k0_0 k0_1 k0_2 k0_3 k0_4 k0_5 k0_6 k0_7 k0_8 k0_9 k0_10 k0_11 k0_12 k0_13 k0_14 k0_15 k0_16 k0_17 k0_18 k0_19 k0_20 k0_21 k0_22 k0_23 k0_24 k0_25 k0_26 k0_27 k0_28 k0_29 k0_30 k0_31 k0_32 k0_33 k0_34 k0_35 k0_36 k0_37 k0_38 k0_39 k0_40 k0_41 k1_0 k1_1 k1_2 k1_3 k1_4 k1_5 k1_6 k1_7 k1_8 k1_9 k1_10 k1_11 k1_12 k1_13 k1_14 k1_15 k1_16 k1_17 k1_18 k1_19 k1_20 k1_21 k1_22 k1_23 k1_24 k1_25 k1_26 k1_27 k1_28 k1_29 k1_30 k1_31 k1_32 k1_33 k1_34 k1_35 k1_36 k1_37 k1_38 k1_39 k1_40 k1_41 r0 r1 r2 r3 r4 r5 r6 r7 r8 r9 r10 r11 r12 r13 r15 r35 r36 r37 o0 o1 o2 n0 n1 n2 z0 z1 z2 own sp spi f h a0 b0 a1 b1 p0 p1 l0 l1 s0 s1 ([ro0,ro1,[ya,.lit (.string ⟨#[115,105,108,118,101,114]⟩),yb]]++Rt) 2) []=some (tRs20 c0 c1 c2 c3 c5 c6 c7 c8 c9 c10 c11 c12 c13 c14 c15 c18 x1 x2 x3 x4 x5 x6 x7 x8 x9 x10 x11 x12 x13 x14 x15 x16 x17 x18 x19 x20 x21 x22 x23 x24 x25 x26 x27 x28 x29 x30 x31 x32 x33 x34 x35 x36 x37 x38 x39 x40 x41 x42 x43 x44 x45 x46 x47 x48 x49 x50 x51 x52 x53 x54 x55 x56 x57 x58 x59 x60 x61 x62 x63 x64 x65 x66 x67 x68 x69 x70 x71 x72 x73 x74 x75 x76 x77 x78 x79 x80 k0_0 k0_1 k0_2 k0_3 k0_4 k0_5 k0_6 k0_7 k0_8 k0_9 k0_10 k0_11 k0_12 k0_13 k0_14 k0_15 k0_16 k0_17 k0_18 k0_19 k0_20 k0_21 k0_22 k0_23 k0_24 k0_25 k0_26 k0_27 k0_28 k0_29 k0_30 k0_31 k0_32 k0_33 k0_34 k0_35 k0_36 k0_37 k0_38 k0_39 k0_40 k0_41 k1_0 k1_1 k1_2 k1_3 k1_4 k1_5 k1_6 k1_7 k1_8 k1_9 k1_10 k1_11 k1_12 k1_13 k1_14 k1_15 k1_16 k1_17 k1_18 k1_19 k1_20 k1_21 k1_22 k1_23 k1_24 k1_25 k1_26 k1_27 k1_28 k1_29 k1_30 k1_31 k1_32 k1_33 k1_34 k1_35 k1_36 k1_37 k1_38 k1_39 k1_40 k1_41 o0 o1 o2 n0 n1 n2 own sp spi f h a0 b0 a1 b1 p0 p1 l0 l1 s0 s1 ([ro0,ro1,[ya,.lit (.string ⟨#[115,105,108,118,101,114]⟩),yb]]++Rt) 2):=
 CV_R (ATk_ok ⟨#[115,105,108,118,101,114]⟩) 400 [(1,true),(84,true),(0,true),(28,false)] [] rfl rfl (ob:=obT2 own sp f h a0 b0 a1 b1 p0 p1 l0 l1 s0 s1) (by kernel_rfl) (obT2_ok _ _ _ _ _ _ _ _ _ _ _ _ _ _ ho hf hsp)
theorem tks20_3 (ho:(Bx.mk f h a0 b0 a1 b1 p0 p1 l0 l1 s0 s1).ok) (hf:(Bx.mk f h a0 b0 a1 b1 p0 p1 l0 l1 s0 s1).fine) (hsp:0<sp):CV VP 110 (tAs20 c0 c1 c2 c3 c5 c6 c7 c8 c9 c10 c11 c12 c13 c14 c15 c18 x1 x2 x3 x4 x5 x6 x7 x8 x9 x10 x11 x12 x13 x14 x15 x16 x17 x18 x19 x20 x21 x22 x23 x24 x25 x26 x27 x28 x29 x30 x31 x32 x33 x34 x35 x36 x37 x38 x39 x40 x41 x42 x43 x44 x45 x46 x47 x48 x49 x50 x51 x52 x53 x54 x55 x56 x57 x58 x59 x60 x61 x62 x63 x64 x65 x66 x67 x68 x69 x70 x71 x72 x73 x74 x75 x76 x77 x78 x79 x80 k0_0 k0_1 k0_2 k0_3 k0_4 k0_5 k0_6 k0_7 k0_8 k0_9 k0_10 k0_11 k0_12 k0_13 k0_14 k0_15 k0_16 k0_17 k0_18 k0_19 k0_20 k0_21 k0_22 k0_23 k0_24 k0_25 k0_26 k0_27 k0_28 k0_29 k0_30 k0_31 k0_32 k0_33 k0_34 k0_35 k0_36 k0_37 k0_38 k0_39 k0_40 k0_41 k1_0 k1_1 k1_2 k1_3 k1_4 k1_5 k1_6 k1_7 k1_8 k1_9 k1_10 k1_11 k1_12 k1_13 k1_14 k1_15 k1_16 k1_17 k1_18 k1_19 k1_20 k1_21 k1_22 k1_23 k1_24 k1_25 k1_26 k1_27 k1_28 k1_29 k1_30 k1_31 k1_32 k1_33 k1_34 k1_35 k1_36 k1_37 k1_38 k1_39 k1_40 k1_41 r0 r1 r2 r3 r4 r5 r6 r7 r8 r9 r10 r11 r12 r13 r15 r35 r36 r37 o0 o1 o2 n0 n1 n2 z0 z1 z2 own sp spi f h a0 b0 a1 b1 p0 p1 l0 l1 s0 s1 ([ro0,ro1,ro2,[ya,.lit (.string ⟨#[115,105,108,118,101,114]⟩),yb]]++Rt) 3) []=some (tRs20 c0 c1 c2 c3 c5 c6 c7 c8 c9 c10 c11 c12 c13 c14 c15 c18 x1 x2 x3 x4 x5 x6 x7 x8 x9 x10 x11 x12 x13 x14 x15 x16 x17 x18 x19 x20 x21 x22 x23 x24 x25 x26 x27 x28 x29 x30 x31 x32 x33 x34 x35 x36 x37 x38 x39 x40 x41 x42 x43 x44 x45 x46 x47 x48 x49 x50 x51 x52 x53 x54 x55 x56 x57 x58 x59 x60 x61 x62 x63 x64 x65 x66 x67 x68 x69 x70 x71 x72 x73 x74 x75 x76 x77 x78 x79 x80 k0_0 k0_1 k0_2 k0_3 k0_4 k0_5 k0_6 k0_7 k0_8 k0_9 k0_10 k0_11 k0_12 k0_13 k0_14 k0_15 k0_16 k0_17 k0_18 k0_19 k0_20 k0_21 k0_22 k0_23 k0_24 k0_25 k0_26 k0_27 k0_28 k0_29 k0_30 k0_31 k0_32 k0_33 k0_34 k0_35 k0_36 k0_37 k0_38 k0_39 k0_40 k0_41 k1_0 k1_1 k1_2 k1_3 k1_4 k1_5 k1_6 k1_7 k1_8 k1_9 k1_10 k1_11 k1_12 k1_13 k1_14 k1_15 k1_16 k1_17 k1_18 k1_19 k1_20 k1_21 k1_22 k1_23 k1_24 k1_25 k1_26 k1_27 k1_28 k1_29 k1_30 k1_31 k1_32 k1_33 k1_34 k1_35 k1_36 k1_37 k1_38 k1_39 k1_40 k1_41 o0 o1 o2 n0 n1 n2 own sp spi f h a0 b0 a1 b1 p0 p1 l0 l1 s0 s1 ([ro0,ro1,ro2,[ya,.lit (.string ⟨#[115,105,108,118,101,114]⟩),yb]]++Rt) 3):=
 CV_R (ATk_ok ⟨#[115,105,108,118,101,114]⟩) 400 [(1,true),(84,true),(0,true),(28,false)] [] rfl rfl (ob:=obT2 own sp f h a0 b0 a1 b1 p0 p1 l0 l1 s0 s1) (by kernel_rfl) (obT2_ok _ _ _ _ _ _ _ _ _ _ _ _ _ _ ho hf hsp)
theorem h110s20 (hra:∃ (i:Nat) (a b:D),ri=(i:Int)∧Ra[i]?=some [a,.lit (.string ⟨#[115,105,108,118,101,114]⟩),b]) (hlen:Ra.length≤4) (ho:(Bx.mk f h a0 b0 a1 b1 p0 p1 l0 l1 s0 s1).ok) (hf:(Bx.mk f h a0 b0 a1 b1 p0 p1 l0 l1 s0 s1).fine) (hsp:0<sp):CV VP 110 (tAs20 c0 c1 c2 c3 c5 c6 c7 c8 c9 c10 c11 c12 c13 c14 c15 c18 x1 x2 x3 x4 x5 x6 x7 x8 x9 x10 x11 x12 x13 x14 x15 x16 x17 x18 x19 x20 x21 x22 x23 x24 x25 x26 x27 x28 x29 x30 x31 x32 x33 x34 x35 x36 x37 x38 x39 x40 x41 x42 x43 x44 x45 x46 x47 x48 x49 x50 x51 x52 x53 x54 x55 x56 x57 x58 x59 x60 x61 x62 x63 x64 x65 x66 x67 x68 x69 x70 x71 x72 x73 x74 x75 x76 x77 x78 x79 x80 k0_0 k0_1 k0_2 k0_3 k0_4 k0_5 k0_6 k0_7 k0_8 k0_9 k0_10 k0_11 k0_12 k0_13 k0_14 k0_15 k0_16 k0_17 k0_18 k0_19 k0_20 k0_21 k0_22 k0_23 k0_24 k0_25 k0_26 k0_27 k0_28 k0_29 k0_30 k0_31 k0_32 k0_33 k0_34 k0_35 k0_36 k0_37 k0_38 k0_39 k0_40 k0_41 k1_0 k1_1 k1_2 k1_3 k1_4 k1_5 k1_6 k1_7 k1_8 k1_9 k1_10 k1_11 k1_12 k1_13 k1_14 k1_15 k1_16 k1_17 k1_18 k1_19 k1_20 k1_21 k1_22 k1_23 k1_24 k1_25 k1_26 k1_27 k1_28 k1_29 k1_30 k1_31 k1_32 k1_33 k1_34 k1_35 k1_36 k1_37 k1_38 k1_39 k1_40 k1_41 r0 r1 r2 r3 r4 r5 r6 r7 r8 r9 r10 r11 r12 r13 r15 r35 r36 r37 o0 o1 o2 n0 n1 n2 z0 z1 z2 own sp spi f h a0 b0 a1 b1 p0 p1 l0 l1 s0 s1 Ra ri) []=some (tRs20 c0 c1 c2 c3 c5 c6 c7 c8 c9 c10 c11 c12 c13 c14 c15 c18 x1 x2 x3 x4 x5 x6 x7 x8 x9 x10 x11 x12 x13 x14 x15 x16 x17 x18 x19 x20 x21 x22 x23 x24 x25 x26 x27 x28 x29 x30 x31 x32 x33 x34 x35 x36 x37 x38 x39 x40 x41 x42 x43 x44 x45 x46 x47 x48 x49 x50 x51 x52 x53 x54 x55 x56 x57 x58 x59 x60 x61 x62 x63 x64 x65 x66 x67 x68 x69 x70 x71 x72 x73 x74 x75 x76 x77 x78 x79 x80 k0_0 k0_1 k0_2 k0_3 k0_4 k0_5 k0_6 k0_7 k0_8 k0_9 k0_10 k0_11 k0_12 k0_13 k0_14 k0_15 k0_16 k0_17 k0_18 k0_19 k0_20 k0_21 k0_22 k0_23 k0_24 k0_25 k0_26 k0_27 k0_28 k0_29 k0_30 k0_31 k0_32 k0_33 k0_34 k0_35 k0_36 k0_37 k0_38 k0_39 k0_40 k0_41 k1_0 k1_1 k1_2 k1_3 k1_4 k1_5 k1_6 k1_7 k1_8 k1_9 k1_10 k1_11 k1_12 k1_13 k1_14 k1_15 k1_16 k1_17 k1_18 k1_19 k1_20 k1_21 k1_22 k1_23 k1_24 k1_25 k1_26 k1_27 k1_28 k1_29 k1_30 k1_31 k1_32 k1_33 k1_34 k1_35 k1_36 k1_37 k1_38 k1_39 k1_40 k1_41 o0 o1 o2 n0 n1 n2 own sp spi f h a0 b0 a1 b1 p0 p1 l0 l1 s0 s1 Ra ri):=by
 obtain ⟨i,a,b,rfl,hi⟩:=hra
 match i,Ra,hi,hlen with
 |0,r::Rt,hi,_=>simp only [List.getElem?_cons_zero,Option.some.injEq] at hi;subst hi;exact tks20_0 ho hf hsp
 |1,ro0::r::Rt,hi,_=>simp only [List.getElem?_cons_succ,List.getElem?_cons_zero,Option.some.injEq] at hi;subst hi;exact tks20_1 ho hf hsp
 |2,ro0::ro1::r::Rt,hi,_=>simp only [List.getElem?_cons_succ,List.getElem?_cons_zero,Option.some.injEq] at hi;subst hi;exact tks20_2 ho hf hsp
 |3,ro0::ro1::ro2::r::Rt,hi,_=>simp only [List.getElem?_cons_succ,List.getElem?_cons_zero,Option.some.injEq] at hi;subst hi;exact tks20_3 ho hf hsp
 |0,[],hi,_=>exact absurd hi (by simp)
 |1,[],hi,_=>exact absurd hi (by simp)
 |1,[ro0],hi,_=>exact absurd hi (by simp)
 |2,[],hi,_=>exact absurd hi (by simp)
 |2,[ro0],hi,_=>exact absurd hi (by simp)
 |2,[ro0,ro1],hi,_=>exact absurd hi (by simp)
 |3,[],hi,_=>exact absurd hi (by simp)
 |3,[ro0],hi,_=>exact absurd hi (by simp)
 |3,[ro0,ro1],hi,_=>exact absurd hi (by simp)
 |3,[ro0,ro1,ro2],hi,_=>exact absurd hi (by simp)
 |i+4,Ra,hi,hlen=>exact absurd (List.getElem?_eq_some_iff.1 hi).1 (by omega)
abbrev tAt20 (c0 c1 c2 c3 c5 c6 c7 c8 c9 c10 c11 c12 c13 c14 c15 c18 x1 x2 x3 x4 x5 x6 x7 x8 x9 x10 x11 x12 x13 x14 x15 x16 x17 x18 x19 x20 x21 x22 x23 x24 x25 x26 x27 x28 x29 x30 x31 x32 x33 x34 x35 x36 x37 x38 x39 x40 x41 x42 x43 x44 x45 x46 x47 x48 x49 x50 x51 x52 x53 x54 x55 x56 x57 x58 x59 x60 x61 x62 x63 x64 x65 x66 x67 x68 x69 x70 x71 x72 x73 x74 x75 x76 x77 x78 x79 x80 k0_0 k0_1 k0_2 k0_3 k0_4 k0_5 k0_6 k0_7 k0_8 k0_9 k0_10 k0_11 k0_12 k0_13 k0_14 k0_15 k0_16 k0_17 k0_18 k0_19 k0_20 k0_21 k0_22 k0_23 k0_24 k0_25 k0_26 k0_27 k0_28 k0_29 k0_30 k0_31 k0_32 k0_33 k0_34 k0_35 k0_36 k0_37 k0_38 k0_39 k0_40 k0_41 k1_0 k1_1 k1_2 k1_3 k1_4 k1_5 k1_6 k1_7 k1_8 k1_9 k1_10 k1_11 k1_12 k1_13 k1_14 k1_15 k1_16 k1_17 k1_18 k1_19 k1_20 k1_21 k1_22 k1_23 k1_24 k1_25 k1_26 k1_27 k1_28 k1_29 k1_30 k1_31 k1_32 k1_33 k1_34 k1_35 k1_36 k1_37 k1_38 k1_39 k1_40 k1_41 r0 r1 r2 r3 r4 r5 r6 r7 r8 r9 r10 r11 r12 r13 r15 r35 r36 r37 o0 o1 o2 n0 n1 n2 z0 z1 z2:D) (own sp spi f h a0 b0 a1 b1 p0 p1 l0 l1 s0 s1:Int) (Ra:List (List D)) (ri:Int) (t:ByteArray):List V:=[.agg [.d c0,.d c1,.d c2,.d c3,E Ra,.d c5,.d c6,.d c7,.d c8,.d c9,.d c10,.d c11,.d c12,.d c13,.d c14,.d c15,E [[I own,x1,x2,x3,x4,x5,x6,x7,x8,x9,x10,x11,x12,x13,x14,x15,x16,x17,x18,x19,x20,x21,x22,x23,x24,x25,x26,x27,x28,x29,x30,x31,x32,x33,x34,x35,x36,x37,x38,x39,x40,x41,x42,x43,x44,x45,x46,x47,x48,x49,x50,x51,x52,x53,x54,x55,x56,x57,x58,x59,x60,x61,x62,x63,x64,x65,x66,x67,x68,x69,x70,x71,x72,x73,x74,x75,x76,x77,x78,x79,x80]],E [[k0_0,k0_1,k0_2,k0_3,k0_4,k0_5,k0_6,k0_7,k0_8,k0_9,k0_10,k0_11,k0_12,k0_13,k0_14,k0_15,k0_16,k0_17,k0_18,k0_19,k0_20,k0_21,k0_22,k0_23,k0_24,k0_25,k0_26,k0_27,k0_28,k0_29,k0_30,k0_31,k0_32,k0_33,k0_34,k0_35,k0_36,k0_37,k0_38,k0_39,k0_40,k0_41],[k1_0,k1_1,k1_2,k1_3,k1_4,k1_5,k1_6,k1_7,k1_8,k1_9,k1_10,k1_11,k1_12,k1_13,k1_14,k1_15,k1_16,k1_17,k1_18,k1_19,k1_20,k1_21,k1_22,k1_23,k1_24,k1_25,k1_26,k1_27,k1_28,k1_29,k1_30,k1_31,k1_32,k1_33,k1_34,k1_35,k1_36,k1_37,k1_38,k1_39,k1_40,k1_41]],.d c18],A own,E [R 3 0 [N 10,N sp],[I 3,I 0,.sl ([N 11,N f,N h,N a0,N f,N h,N b0,N f,N h,N a1,N f,N h,N b1,N p0,N p1,N l0,N l1,N s0,N s1]++bR t)],[z0,z1,z2]],.agg [.d r0,.d r1,.d r2,.d r3,.d r4,.d r5,.d r6,.d r7,.d r8,.d r9,.d r10,.d r11,.d r12,.d r13,A spi,.d r15,A ri,A f,C h,C a1,A f,C h,C b1,A f,C h,C a0,A f,C h,C b0,A p0,A p1,A s0,A s1,A l0,A l1,.d r35,.d r36,.d r37,Z],.agg [.d o0,.d o1,.d o2],.agg [.d n0,.d n1,.d n2]]
theorem h110t20 (b:Bool) (hra:∃ (i:Nat) (a c:D),ri=(i:Int)∧Ra[i]?=some [a,.lit (.string (tB b)),c]) (hlen:Ra.length≤4) (ho:(Bx.mk f h a0 b0 a1 b1 p0 p1 l0 l1 s0 s1).ok) (hf:(Bx.mk f h a0 b0 a1 b1 p0 p1 l0 l1 s0 s1).fine) (hsp:0<sp):CV VP 110 (tAt20 c0 c1 c2 c3 c5 c6 c7 c8 c9 c10 c11 c12 c13 c14 c15 c18 x1 x2 x3 x4 x5 x6 x7 x8 x9 x10 x11 x12 x13 x14 x15 x16 x17 x18 x19 x20 x21 x22 x23 x24 x25 x26 x27 x28 x29 x30 x31 x32 x33 x34 x35 x36 x37 x38 x39 x40 x41 x42 x43 x44 x45 x46 x47 x48 x49 x50 x51 x52 x53 x54 x55 x56 x57 x58 x59 x60 x61 x62 x63 x64 x65 x66 x67 x68 x69 x70 x71 x72 x73 x74 x75 x76 x77 x78 x79 x80 k0_0 k0_1 k0_2 k0_3 k0_4 k0_5 k0_6 k0_7 k0_8 k0_9 k0_10 k0_11 k0_12 k0_13 k0_14 k0_15 k0_16 k0_17 k0_18 k0_19 k0_20 k0_21 k0_22 k0_23 k0_24 k0_25 k0_26 k0_27 k0_28 k0_29 k0_30 k0_31 k0_32 k0_33 k0_34 k0_35 k0_36 k0_37 k0_38 k0_39 k0_40 k0_41 k1_0 k1_1 k1_2 k1_3 k1_4 k1_5 k1_6 k1_7 k1_8 k1_9 k1_10 k1_11 k1_12 k1_13 k1_14 k1_15 k1_16 k1_17 k1_18 k1_19 k1_20 k1_21 k1_22 k1_23 k1_24 k1_25 k1_26 k1_27 k1_28 k1_29 k1_30 k1_31 k1_32 k1_33 k1_34 k1_35 k1_36 k1_37 k1_38 k1_39 k1_40 k1_41 r0 r1 r2 r3 r4 r5 r6 r7 r8 r9 r10 r11 r12 r13 r15 r35 r36 r37 o0 o1 o2 n0 n1 n2 z0 z1 z2 own sp spi f h a0 b0 a1 b1 p0 p1 l0 l1 s0 s1 Ra ri (tB b)) []=some (tRg20 c0 c1 c2 c3 c5 c6 c7 c8 c9 c10 c11 c12 c13 c14 c15 c18 x1 x2 x3 x4 x5 x6 x7 x8 x9 x10 x11 x12 x13 x14 x15 x16 x17 x18 x19 x20 x21 x22 x23 x24 x25 x26 x27 x28 x29 x30 x31 x32 x33 x34 x35 x36 x37 x38 x39 x40 x41 x42 x43 x44 x45 x46 x47 x48 x49 x50 x51 x52 x53 x54 x55 x56 x57 x58 x59 x60 x61 x62 x63 x64 x65 x66 x67 x68 x69 x70 x71 x72 x73 x74 x75 x76 x77 x78 x79 x80 k0_0 k0_1 k0_2 k0_3 k0_4 k0_5 k0_6 k0_7 k0_8 k0_9 k0_10 k0_11 k0_12 k0_13 k0_14 k0_15 k0_16 k0_17 k0_18 k0_19 k0_20 k0_21 k0_22 k0_23 k0_24 k0_25 k0_26 k0_27 k0_28 k0_29 k0_30 k0_31 k0_32 k0_33 k0_34 k0_35 k0_36 k0_37 k0_38 k0_39 k0_40 k0_41 k1_0 k1_1 k1_2 k1_3 k1_4 k1_5 k1_6 k1_7 k1_8 k1_9 k1_10 k1_11 k1_12 k1_13 k1_14 k1_15 k1_16 k1_17 k1_18 k1_19 k1_20 k1_21 k1_22 k1_23 k1_24 k1_25 k1_26 k1_27 k1_28 k1_29 k1_30 k1_31 k1_32 k1_33 k1_34 k1_35 k1_36 k1_37 k1_38 k1_39 k1_40 k1_41 o0 o1 o2 n0 n1 n2 own sp spi f h a0 b0 a1 b1 p0 p1 l0 l1 s0 s1 Ra ri):=by
 cases b
 ·exact h110s20 hra hlen ho hf hsp
 ·exact h110g20 hra hlen ho hf hsp
end
theorem h133k {c0 c1 c2 c3 c5 c6 c7 c8 c9 c10 c11 c12 c13 c14 c15 c16 c18:D} {i1 o1 n1 s1:Nat} {rows:List (List D)} {n:Int} {t:ByteArray} {a b:D} (bl:List (List V)) (hb:bl.all (V.ltbL bl.length)=true) (i:Nat) (hn:n=(i:Int)) (h:rows[i]?=some [a,.lit (.string t),b]) :
  CV VP 133 [.agg [.d c0,.d c1,.d c2,.d c3,.d (.sl rows),.d c5,.d c6,.d c7,.d c8,.d c9,.d c10,.d c11,.d c12,.d c13,.d c14,.d c15,.d c16,.loc i1 o1 n1 s1,.d c18],.d (I n)] bl=some ⟨.d (.lit (.string t)),bl,[],0⟩:=by
 subst hn
 have hl:=(List.getElem?_eq_some_iff.1 h).1
 have h0:¬((i:Int)<0):=by omega
 have h1:¬((rows.length:Int)≤(i:Int)):=by omega
 have ht:bl.take bl.length=bl:=List.take_length
 have hg:∀ x:List V,(bl++[x])[bl.length]?=some x:=fun x=>by simp
 have hd:∀ x:List V,(bl++[x]).getD bl.length []=x:=fun x=>by simp
 have hk:∀ x:List V,(bl++[x]).take bl.length=bl:=fun x=>by simp
 have hL:∀ x:List V,(bl++[x]).length=bl.length+1:=fun x=>by simp
 have hlt:∀ x:List V,bl.length<(bl++[x]).length:=fun x=>by simp
 refine CV_run (vf:=vf133) rfl rfl ?_
 rw [vf133_start]
 (repeat (first|refine RX_seq ?_|((first|refine sG rfl ?_|refine RX_draw rfl ?_);try (simp only [go_sem,simprocAttr,frzLoc,rowCells,vAppM,beq_iff_eq,bne_iff_ne,vf133_res,vf133_keep,h0,h1,hl,h,ge_iff_le,hb,ht,hg,hd,hk,hL]))))
theorem h133d {c0 c1 c2 c3 c5 c6 c7 c8 c9 c10 c11 c12 c13 c14 c15 c16 c17 c18:D} {rows:List (List D)} {n:Int} {t:ByteArray} {a b:D} (bl:List (List V)) (hb:bl.all (V.ltbL bl.length)=true) (i:Nat) (hn:n=(i:Int)) (h:rows[i]?=some [a,.lit (.string t),b]) :
  CV VP 133 [.agg [.d c0,.d c1,.d c2,.d c3,.d (.sl rows),.d c5,.d c6,.d c7,.d c8,.d c9,.d c10,.d c11,.d c12,.d c13,.d c14,.d c15,.d c16,.d c17,.d c18],.d (I n)] bl=some ⟨.d (.lit (.string t)),bl,[],0⟩:=by
 subst hn
 have hl:=(List.getElem?_eq_some_iff.1 h).1
 have h0:¬((i:Int)<0):=by omega
 have h1:¬((rows.length:Int)≤(i:Int)):=by omega
 have ht:bl.take bl.length=bl:=List.take_length
 have hg:∀ x:List V,(bl++[x])[bl.length]?=some x:=fun x=>by simp
 have hd:∀ x:List V,(bl++[x]).getD bl.length []=x:=fun x=>by simp
 have hk:∀ x:List V,(bl++[x]).take bl.length=bl:=fun x=>by simp
 have hL:∀ x:List V,(bl++[x]).length=bl.length+1:=fun x=>by simp
 have hlt:∀ x:List V,bl.length<(bl++[x]).length:=fun x=>by simp
 refine CV_run (vf:=vf133) rfl rfl ?_
 rw [vf133_start]
 (repeat (first|refine RX_seq ?_|((first|refine sG rfl ?_|refine RX_draw rfl ?_);try (simp only [go_sem,simprocAttr,frzLoc,rowCells,vAppM,beq_iff_eq,bne_iff_ne,vf133_res,vf133_keep,h0,h1,hl,h,ge_iff_le,hb,ht,hg,hd,hk,hL]))))
def iBeq:Int→Int→Bool
 |.ofNat a,.ofNat b=>Nat.beq a b
 |_,_=>false
def saD (own:Int):List (List D)→Option (List D)
 |(.lit (.int _ o)::_::_::_::_::_::x::y::z::_)::rs=>match iBeq o own with
  |true=>some [x,y,z]
  |false=>saD own rs
 |_=>none
def goneB (sp:Int):V→Option Bool
 |.nil=>some false
 |.d (.sl [])=>some false
 |.d (.sl [[.lit (.int _ g)]])=>some (iBeq g sp)
 |.sl _ [] _=>some false
 |_=>none
def kidR:V→Option (List (List D))
 |.nil=>some []
 |.d (.sl ks)=>some ks
 |.sl _ ks _=>some ks
 |_=>none
def takeV (a:List V):Option V:=match a with
 |[.agg [c0,c1,c2,c3,c4,c5,c6,c7,c8,c9,c10,c11,c12,c13,c14,c15,.d (.sl sas),kd,c18],.d (.lit (.int _ own)),.d (.sl ([_,_,.sl [_,[_,.lit (.int _ sp),_]]]::[_,_,.sl (_::[_,.lit (.int _ f0),_]::[_,.lit (.int _ h0),_]::[_,.lit (.int _ a0),_]::[_,.lit (.int _ f1),_]::[_,.lit (.int _ h1),_]::[_,.lit (.int _ a1),_]::[_,.lit (.int _ f2),_]::[_,.lit (.int _ h2),_]::[_,.lit (.int _ a2),_]::[_,.lit (.int _ f3),_]::[_,.lit (.int _ h3),_]::[_,.lit (.int _ a3),_]::[_,.lit (.int _ p0),_]::[_,.lit (.int _ p1),_]::[_,.lit (.int _ l0),_]::[_,.lit (.int _ l1),_]::[_,.lit (.int _ r0),_]::[_,.lit (.int _ r1),_]::_)]::_)),.agg rc,.agg [.d o0,.d o1,.d o2],.agg [.d t0,.d t1,.d t2]]=>
  match rc.getD 14 .any,rc.getD 16 .any,goneB sp (rc.getD 38 .any),saD own sas,kidR kd with
  |.d spi,.d rule,some gn,some [x,y,z],some ks=>match gn with
   |true=>some (.tup [.agg [c0,c1,c2,c3,c4,c5,c6,c7,c8,c9,c10,c11,c12,c13,c14,c15,.d (.sl sas),kd,c18],.d (I 0),.d (B true)])
   |false=>some (.tup [.agg [c0,c1,c2,c3,c4,c5,c6,c7,c8,c9,c10,c11,c12,c13,c14,c15,.d (.sl sas),.d (.sl (ks++[[spi,I sp,I own,rule,I f2,U h2,U a2,I f3,U h3,U a3,I f0,U h0,U a0,I f1,U h1,U a1,I p0,I p1,I r0,I r1,I l0,I l1,I 6,I 6,.sl [[x,y,z],[o0,o1,o2],[t0,t1,t2]],I 6,I 5,.sl [[x,y,z],[o0,o1,o2],[t0,t1,t2]],B true,o0,o1,o2,t0,t1,t2,I 1,I 0,I 6,U 0,.sl [[U 0]],I 0,I 0]])),c18],.d spi,.d (B true)])
  |_,_,_,_,_=>none
 |_=>none
noncomputable def AK (R:List (List D)) (gk:Int) (t:ByteArray) (tv:V):Orc:=fun f a b=>match Nat.beq f 9 with
 |true=>some ⟨.ptr 0 0,[[.sl 1 R (.own 0 0),.d (I 0)]],[0],1⟩
 |false=>match Nat.beq f 10 with
  |true=>match b with
   |[_,.d (.lit (.int _ k))]::bs=>some ⟨tv,[.d (.sl R),.d (I gk)]::bs,[],0⟩
   |_=>none
  |false=>match Nat.beq f 133 with
   |true=>some ⟨.d (.lit (.string t)),b,[],0⟩
   |false=>match Nat.beq f 197 with
    |true=>match a with
     |[.agg [.d (.lit (.int _ f0)),.d (.lit (.int _ h0)),.d (.lit (.int _ a0)),.d (.lit (.int _ f1)),.d (.lit (.int _ h1)),.d (.lit (.int _ a1)),.d (.lit (.int _ f2)),.d (.lit (.int _ h2)),.d (.lit (.int _ a2)),.d (.lit (.int _ f3)),.d (.lit (.int _ h3)),.d (.lit (.int _ a3)),.d (.lit (.int _ p0)),.d (.lit (.int _ p1)),.d (.lit (.int _ l0)),.d (.lit (.int _ l1)),.d (.lit (.int _ r0)),.d (.lit (.int _ r1))],.d (.lit (.string t))]=>some ⟨bxP f0 h0 a0 f1 h1 a1 f2 h2 a2 f3 h3 a3 p0 p1 l0 l1 r0 r1 t,[],[],0⟩
     |_=>none
    |false=>match Nat.beq f 203 with
     |true=>match a with
      |[.d (.sl ([_,.lit (.int _ f0),_]::[_,.lit (.int _ h0),_]::[_,.lit (.int _ a0),_]::[_,.lit (.int _ f1),_]::[_,.lit (.int _ h1),_]::[_,.lit (.int _ a1),_]::[_,.lit (.int _ f2),_]::[_,.lit (.int _ h2),_]::[_,.lit (.int _ a2),_]::[_,.lit (.int _ f3),_]::[_,.lit (.int _ h3),_]::[_,.lit (.int _ a3),_]::[_,.lit (.int _ p0),_]::[_,.lit (.int _ p1),_]::[_,.lit (.int _ l0),_]::[_,.lit (.int _ l1),_]::[_,.lit (.int _ r0),_]::[_,.lit (.int _ r1),_]::_))]=>
       some ⟨.tup [.agg [.d (I f0),.d (U h0),.d (U a0),.d (I f1),.d (U h1),.d (U a1),.d (I f2),.d (U h2),.d (U a2),.d (I f3),.d (U h3),.d (U a3),.d (I p0),.d (I p1),.d (I l0),.d (I l1),.d (I r0),.d (I r1)],.d (.lit (.string t)),.d (B true)],[],[],0⟩
      |_=>none
     |false=>match Nat.beq f 110 with
      |true=>match takeV a with
       |some r=>some ⟨r,b,[],0⟩
       |none=>none
      |false=>none
def rkR (v:Int):Int:=v*7919%65536
def lowR (x y:Int):Bool:=if rkR x=rkR y then decide (x<y) else decide (rkR x<rkR y)
theorem lowA {x y:Int} {b:Bool} (h:x≠y) (k:lowR x y=b):lowR y x=!b:=by
 subst k
 unfold lowR
 by_cases h1:rkR x=rkR y
 ·rw [if_pos h1,if_pos h1.symm]
  by_cases h2:x<y
  ·simp [h2,show ¬y<x by omega]
  ·simp [h2,show y<x by omega]
 ·rw [if_neg h1,if_neg (fun e=>h1 e.symm)]
  by_cases h2:rkR x<rkR y
  ·simp [h2,show ¬rkR y<rkR x by omega]
  ·simp [h2,show rkR y<rkR x by omega]
theorem and16 {a:Int} (h0:0≤a) (h1:a<9223372036854775808):IntKind.i64.wrap ((BitVec.ofInt 64 a &&& BitVec.ofInt 64 65535).toNat:Nat)=a%65536:=by
 obtain ⟨n,rfl⟩:=Int.eq_ofNat_of_zero_le h0
 have h2:(BitVec.ofInt 64 (n:Int) &&& BitVec.ofInt 64 65535).toNat=n%65536:=by
  rw [BitVec.toNat_and,BitVec.toNat_ofInt,BitVec.toNat_ofInt]
  have e1:((n:Int)%((2 ^ 64:Nat):Int)).toNat=n:=by omega
  have e2:((65535:Int)%((2 ^ 64:Nat):Int)).toNat=2 ^ 16-1:=by decide
  rw [e1,e2,Nat.and_two_pow_sub_one_eq_mod]
 rw [h2]
 have:n%65536<65536:=Nat.mod_lt _ (by decide)
 have h3:=w_in (x:=((n%65536:Nat):Int)) (by omega) (by omega)
 rw [h3]
 omega
theorem h189 {x:Int} (h:0≤x∧x<1099511627776):CV VP 189 [.agg [.d (I 2),.d (I x),.d (.sl [])]] []=some ⟨.d (I (rkR x)),[],[],0⟩:=by
 obtain ⟨h0,h1⟩:=h
 have hw:IntKind.i64.wrap (x*7919)=x*7919:=w_in (by omega) (by omega)
 have hm:max x 0=x:=by omega
 have ha:=and16 (a:=x*7919) (by omega) (by omega)
 have h2:¬x<0:=by omega
 unfold rkR
 refine CV_run (vf:=vf189) rfl rfl ?_
 rw [vf189_start]
 (repeat (first|refine RX_seq ?_|((first|refine sG rfl ?_|refine RX_draw rfl ?_);try (simp only [go_sem,simprocAttr,frzLoc,rowCells,vAppM,beq_iff_eq,bne_iff_ne,vf189_res,vf189_keep,hw,hm,h0,h2]))))
 exact congrArg (fun z=>Ret.mk (.d (.lit (.int .i64 z))) [] [] 0) ha
theorem h190 (x y:Int):CV VP 190 [.agg [.d (I 2),.d (I x),.d (.sl [])],.agg [.d (I 2),.d (I y),.d (.sl [])]] []=some ⟨.d (B (decide (x<y))),[],[],0⟩:=by
 have h:=e119 _ (.mk 2 x []) (.mk 2 y []) (Nat.lt_succ_self _) ⟨by decide,trivial⟩
 simp only [Tm.ag,Tm.op_mk,Tm.val_mk,Tm.args_mk,List.map_nil,List.map_cons] at h
 have hc:decide ((Tm.mk 2 x []).cmp (.mk 2 y [])<0)=decide (x<y):=by
  simp only [Tm.cmp,Tm.cmps]
  by_cases h1:x<y
  ·simp [h1]
  ·by_cases h2:y<x
   ·simp [h1,h2]
   ·simp [h1,h2]
 generalize (Tm.mk 2 x []).cmp (.mk 2 y [])=c at h hc
 rw [← hc]
 clear hc
 refine CV_run (vf:=vf190) rfl rfl ?_
 rw [vf190_start]
 (repeat (first|refine RX_seq ?_|((first|refine sG rfl ?_|refine RX_draw rfl ?_);try (simp only [go_sem,simprocAttr,frzLoc,rowCells,vAppM,beq_iff_eq,bne_iff_ne,vf190_res,vf190_keep,h]))))
theorem h119v {x y:Int} (hx:0≤x∧x<1099511627776) (hy:0≤y∧y<1099511627776):CV VP 119 [.agg [.d (I 2),.d (I x),.d (.sl [])],.agg [.d (I 2),.d (I y),.d (.sl [])]] []=some ⟨.d (B (lowR x y)),[],[],0⟩:=by
 have h1:=h189 hx
 have h2:=h189 hy
 have h3:=h190 x y
 unfold lowR
 generalize rkR x=a at *
 generalize rkR y=b at *
 by_cases h:a=b
 ·subst h
  rw [if_pos rfl]
  refine CV_run (vf:=vf119) rfl rfl ?_
  rw [vf119_start]
  (repeat (first|refine RX_seq ?_|((first|refine sG rfl ?_|refine RX_draw rfl ?_);try (simp only [go_sem,simprocAttr,frzLoc,rowCells,vAppM,beq_iff_eq,bne_iff_ne,vf119_res,vf119_keep,h1,h2,h3]))))
 ·rw [if_neg h]
  have hb:(a != b)=true:=by simpa using h
  refine CV_run (vf:=vf119) rfl rfl ?_
  rw [vf119_start]
  (repeat (first|refine RX_seq ?_|((first|refine sG rfl ?_|refine RX_draw rfl ?_);try (simp only [go_sem,simprocAttr,frzLoc,rowCells,vAppM,beq_iff_eq,bne_iff_ne,vf119_res,vf119_keep,h1,h2,h3,h,hb]))))
noncomputable abbrev prL (x y:Int):Bool×Bool:=(prB (CV VP 119 [.agg [.d (I 2),.d (I x),.d (.sl [])],.agg [.d (I 2),.d (I y),.d (.sl [])]] []=some ⟨.d (B (lowR x y)),[],[],0⟩),true)
theorem h119 {x y:Int} (hx:0≤x∧x<1099511627776) (hy:0≤y∧y<1099511627776):prB (CV VP 119 [.agg [.d (I 2),.d (I x),.d (.sl [])],.agg [.d (I 2),.d (I y),.d (.sl [])]] []=some ⟨.d (B (lowR x y)),[],[],0⟩)=true:=prB_of (h119v hx hy)
noncomputable def AL (lo:Int→Int→Bool) (o:Orc):Orc:=fun f a b=>match Nat.beq f 119 with
 |true=>match a with
  |[.agg [.d (.lit (.int _ _)),.d (.lit (.int _ x)),_],.agg [.d (.lit (.int _ _)),.d (.lit (.int _ y)),_]]=>some ⟨.d (.lit (.bool (lo x y))),b,[],0⟩
  |_=>none
 |false=>o f a b
theorem AL_ok (R:List (List D)) (gk:Int) (t:ByteArray) (tv:V):CFok VP (cA VP vft.get (AL lowR (AK R gk t tv)) 400 60):=cA_ok vft_ok _ 400 60
def rp:Nat→Bool→Bool→List (Bool×Bool)→List (Bool×Bool)
 |0,_,_,l=>l
 |n+1,a,b,l=>(a,b)::rp n a b l
theorem rp_ok {a b:Bool} {l:List (Bool×Bool)} (h:a=b) (hl:OKs l):∀ n,OKs (rp n a b l)
 |0=>hl
 |n+1=>.cons h (rp_ok h hl n)
def rq:Nat→Nat×Bool→List (Nat×Bool)→List (Nat×Bool)
 |0,_,l=>l
 |n+1,a,l=>a::rq n a l
abbrev g0 (ex:Int):Int:=(wF (2000+(wF ((wF (6+(wF ex)))+1))))
theorem gv0 {ex:Int} (h0:0≤ex) (h1:ex<256):g0 ex=2007+ex:=by
 unfold g0
 rw [show wF (ex)=0+ex from by rw [wF_in (by omega) (by omega)];omega]
 rw [show wF (6+(0+ex))=6+ex from by rw [wF_in (by omega) (by omega)];omega]
 rw [show wF ((6+ex)+1)=7+ex from by rw [wF_in (by omega) (by omega)];omega]
 rw [show wF (2000+(7+ex))=2007+ex from by rw [wF_in (by omega) (by omega)];omega]
abbrev g1 (ex:Int):Int:=(wF (2000+(wF ((wF ((wF ((wF (6+(wF ex)))+1))+1))+1))))
theorem gv1 {ex:Int} (h0:0≤ex) (h1:ex<256):g1 ex=2009+ex:=by
 unfold g1
 rw [show wF (ex)=0+ex from by rw [wF_in (by omega) (by omega)];omega]
 rw [show wF (6+(0+ex))=6+ex from by rw [wF_in (by omega) (by omega)];omega]
 rw [show wF ((6+ex)+1)=7+ex from by rw [wF_in (by omega) (by omega)];omega]
 rw [show wF ((7+ex)+1)=8+ex from by rw [wF_in (by omega) (by omega)];omega]
 rw [show wF ((8+ex)+1)=9+ex from by rw [wF_in (by omega) (by omega)];omega]
 rw [show wF (2000+(9+ex))=2009+ex from by rw [wF_in (by omega) (by omega)];omega]
abbrev g2 (ex:Int):Int:=(wF (1048576+(wF ((wF ((wF (6+(wF ex)))+1))+1))))
theorem gv2 {ex:Int} (h0:0≤ex) (h1:ex<256):g2 ex=1048584+ex:=by
 unfold g2
 rw [show wF (ex)=0+ex from by rw [wF_in (by omega) (by omega)];omega]
 rw [show wF (6+(0+ex))=6+ex from by rw [wF_in (by omega) (by omega)];omega]
 rw [show wF ((6+ex)+1)=7+ex from by rw [wF_in (by omega) (by omega)];omega]
 rw [show wF ((7+ex)+1)=8+ex from by rw [wF_in (by omega) (by omega)];omega]
 rw [show wF (1048576+(8+ex))=1048584+ex from by rw [wF_in (by omega) (by omega)];omega]
abbrev g3 (ex:Int):Int:=(wF (1048576+(wF ((wF ((wF ((wF ((wF (6+(wF ex)))+1))+1))+1))+1))))
theorem gv3 {ex:Int} (h0:0≤ex) (h1:ex<256):g3 ex=1048586+ex:=by
 unfold g3
 rw [show wF (ex)=0+ex from by rw [wF_in (by omega) (by omega)];omega]
 rw [show wF (6+(0+ex))=6+ex from by rw [wF_in (by omega) (by omega)];omega]
 rw [show wF ((6+ex)+1)=7+ex from by rw [wF_in (by omega) (by omega)];omega]
 rw [show wF ((7+ex)+1)=8+ex from by rw [wF_in (by omega) (by omega)];omega]
 rw [show wF ((8+ex)+1)=9+ex from by rw [wF_in (by omega) (by omega)];omega]
 rw [show wF ((9+ex)+1)=10+ex from by rw [wF_in (by omega) (by omega)];omega]
 rw [show wF (1048576+(10+ex))=1048586+ex from by rw [wF_in (by omega) (by omega)];omega]
abbrev g4 (ex:Int):Int:=(wF ((wF ((wF ((wF ((wF (6+(wF ex)))+1))+1))+1))+1))
abbrev g5 (ex:Int):Int:=(wF ((wF ((wF (6+(wF ex)))+1))+1))
theorem c6_0 {ex:Int} (h0:0≤ex) (h1:ex<256):(leF (g0 ex) 0)=false:=by
 rw [gv0 h0 h1,leN (by omega)]
theorem c6_1 {ex:Int} (h0:0≤ex) (h1:ex<256):(!(leF (g3 ex) 10))=true:=by
 rw [gv3 h0 h1,leN (by omega)];rfl
theorem c6_2 {ex:Int} (h0:0≤ex) (h1:ex<256):(eqF (g0 ex) 0)=false:=by
 rw [gv0 h0 h1,eqN (by omega)]
theorem c6_3 {ex:Int} (h0:0≤ex) (h1:ex<256):(eqF 2006 (g0 ex))=false:=by
 rw [gv0 h0 h1,eqN (by omega)]
theorem c6_4 {ex:Int} (h0:0≤ex) (h1:ex<256):(eqF (g1 ex) (g0 ex))=false:=by
 rw [gv0 h0 h1,gv1 h0 h1,eqN (by omega)]
theorem c6_5 {ex:Int} (h0:0≤ex) (h1:ex<256):(eqF 2006 (g1 ex))=false:=by
 rw [gv1 h0 h1,eqN (by omega)]
theorem c6_6 {ex:Int} (h0:0≤ex) (h1:ex<256):(eqF (g1 ex) 0)=false:=by
 rw [gv1 h0 h1,eqN (by omega)]
theorem c6_7 {ex:Int} (h0:0≤ex) (h1:ex<256):(!(leF (g2 ex) 10))=true:=by
 rw [gv2 h0 h1,leN (by omega)];rfl
theorem c6_8 {ex:Int} (h0:0≤ex) (h1:ex<256):(eqF (g1 ex) 2006)=false:=by
 rw [gv1 h0 h1,eqN (by omega)]
theorem c6_9 {ex:Int} (h0:0≤ex) (h1:ex<256):(eqF (g0 ex) 2006)=false:=by
 rw [gv0 h0 h1,eqN (by omega)]
theorem c6_10 {ex:Int} (h0:0≤ex) (h1:ex<256):(eqF (g0 ex) (g1 ex))=false:=by
 rw [gv0 h0 h1,gv1 h0 h1,eqN (by omega)]
theorem c6_11 {ex:Int} (h0:0≤ex) (h1:ex<256):(!(leF (g2 ex) 8))=true:=by
 rw [gv2 h0 h1,leN (by omega)];rfl
theorem c6_12 {ex:Int} (h0:0≤ex) (h1:ex<256):(!(leF 8 (g2 ex)))=false:=by
 rw [gv2 h0 h1,leT (by omega)];rfl
theorem c6_13 {ex:Int} (h0:0≤ex) (h1:ex<256):(!(leF (g3 ex) (g2 ex)))=true:=by
 rw [gv2 h0 h1,gv3 h0 h1,leN (by omega)];rfl
theorem c6_14 {ex:Int} (h0:0≤ex) (h1:ex<256):(!(leF (g2 ex) (g2 ex)))=false:=by
 rw [gv2 h0 h1,leT (by omega)];rfl
theorem c6_15 {ex:Int} (h0:0≤ex) (h1:ex<256):(!(leF 8 (g3 ex)))=false:=by
 rw [gv3 h0 h1,leT (by omega)];rfl
theorem c6_16 {ex:Int} (h0:0≤ex) (h1:ex<256):(!(leF (g3 ex) 8))=true:=by
 rw [gv3 h0 h1,leN (by omega)];rfl
theorem c6_17 {ex:Int} (h0:0≤ex) (h1:ex<256):(!(leF (g3 ex) (g3 ex)))=false:=by
 rw [gv3 h0 h1,leT (by omega)];rfl
theorem c6_18 {ex:Int} (h0:0≤ex) (h1:ex<256):(!(leF (g2 ex) (g3 ex)))=false:=by
 rw [gv2 h0 h1,gv3 h0 h1,leT (by omega)];rfl
theorem c6_19 {ex:Int} (h0:0≤ex) (h1:ex<256):(!(leF 10 (g3 ex)))=false:=by
 rw [gv3 h0 h1,leT (by omega)];rfl
theorem c6_20 {ex:Int} (h0:0≤ex) (h1:ex<256):(!(leF (g2 ex) 9))=true:=by
 rw [gv2 h0 h1,leN (by omega)];rfl
theorem c6_21 {ex:Int} (h0:0≤ex) (h1:ex<256):(!(leF 9 (g2 ex)))=false:=by
 rw [gv2 h0 h1,leT (by omega)];rfl
theorem c6_22 {ex:Int} (h0:0≤ex) (h1:ex<256):(!(leF 9 (g3 ex)))=false:=by
 rw [gv3 h0 h1,leT (by omega)];rfl
theorem c6_23 {ex:Int} (h0:0≤ex) (h1:ex<256):(!(leF (g3 ex) 9))=true:=by
 rw [gv3 h0 h1,leN (by omega)];rfl
theorem c6_24 {ex:Int} (h0:0≤ex) (h1:ex<256):(!(leF 11 (g3 ex)))=false:=by
 rw [gv3 h0 h1,leT (by omega)];rfl
theorem c6_25 {ex:Int} (h0:0≤ex) (h1:ex<256):(!(leF (g3 ex) 11))=true:=by
 rw [gv3 h0 h1,leN (by omega)];rfl
theorem c6_26 {ex:Int} (h0:0≤ex) (h1:ex<256):(!(leF (g2 ex) 11))=true:=by
 rw [gv2 h0 h1,leN (by omega)];rfl
noncomputable abbrev sa0 (ex:Int) (o:List (Bool×Bool)):List (Bool×Bool):=((!(leF (g3 ex) 10)),true)::((lowR 8 10),false)::(prL 8 10)::((lowR 10 (g2 ex)),true)::(prL 10 (g2 ex))::((lowR 8 (g3 ex)),true)::o
theorem sa0_ok {ex:Int} (h0:0≤ex) (h1:ex<256) (k0:(lowR 8 (g3 ex))=true) (k1:(lowR 10 (g2 ex))=true) {o:List (Bool×Bool)} (ho:OKs o):OKs (sa0 ex o):=.cons (c6_1 h0 h1) (.cons (by decide) (.cons (h119 (by decide) (by decide)) (.cons k1 (.cons (h119 (by decide) (by rw [gv2 h0 h1];omega)) (.cons k0 (ho))))))
noncomputable abbrev sb1 (ex:Int) (o:List (Bool×Bool)):List (Bool×Bool):=rp 10 (eqF (g0 ex) (g1 ex)) false (rp 10 (eqF (g1 ex) (g1 ex)) true (rp 10 (eqF 2006 (g1 ex)) false (rp 10 (eqF (g0 ex) (g0 ex)) true (rp 10 (eqF (g1 ex) (g0 ex)) false (rp 10 (eqF 2006 (g0 ex)) false (rp 10 (eqF (g0 ex) 2006) false (rp 10 (eqF (g1 ex) 2006) false (((eqF (g0 ex) (g0 ex)),true)::((eqF (g1 ex) (g0 ex)),false)::((eqF 2006 (g0 ex)),false)::((!(leF (g2 ex) 10)),true)::((lowR 10 8),true)::(prL 10 8)::((lowR (g3 ex) 8),false)::(prL (g3 ex) 8)::((lowR (g2 ex) 10),false)::(prL (g2 ex) 10)::rp 3 (eqF (g1 ex) 0) false (((eqF (g1 ex) (g1 ex)),true)::((eqF 2006 (g1 ex)),false)::((eqF (g0 ex) (g0 ex)),true)::((eqF (g1 ex) (g0 ex)),false)::((eqF 2006 (g0 ex)),false)::((eqF (g0 ex) 0),false)::o)))))))))
theorem sb1_ok {ex:Int} (h0:0≤ex) (h1:ex<256) (k0:(lowR 8 (g3 ex))=true) (k1:(lowR 10 (g2 ex))=true) {o:List (Bool×Bool)} (ho:OKs o):OKs (sb1 ex o):=rp_ok (c6_10 h0 h1) (rp_ok (eqF_self _) (rp_ok (c6_5 h0 h1) (rp_ok (eqF_self _) (rp_ok (c6_4 h0 h1) (rp_ok (c6_3 h0 h1) (rp_ok (c6_9 h0 h1) (rp_ok (c6_8 h0 h1) (.cons (eqF_self _) (.cons (c6_4 h0 h1) (.cons (c6_3 h0 h1) (.cons (c6_7 h0 h1) (.cons (by decide) (.cons (h119 (by decide) (by decide)) (.cons (lowA (by rw [gv3 h0 h1];omega) k0) (.cons (h119 (by rw [gv3 h0 h1];omega) (by decide)) (.cons (lowA (by rw [gv2 h0 h1];omega) k1) (.cons (h119 (by rw [gv2 h0 h1];omega) (by decide)) (rp_ok (c6_6 h0 h1) (.cons (eqF_self _) (.cons (c6_5 h0 h1) (.cons (eqF_self _) (.cons (c6_4 h0 h1) (.cons (c6_3 h0 h1) (.cons (c6_2 h0 h1) (ho))))))) 3))))))))))) 10) 10) 10) 10) 10) 10) 10) 10
noncomputable abbrev sa2 (ex:Int) (o:List (Bool×Bool)):List (Bool×Bool):=((lowR 8 (g2 ex)),true)::(prL 8 (g2 ex))::((lowR 10 (g2 ex)),false)::(prL 10 (g2 ex))::((lowR 8 (g3 ex)),true)::o
theorem sa2_ok {ex:Int} (h0:0≤ex) (h1:ex<256) (k0:(lowR 8 (g3 ex))=true) (k1:(lowR 10 (g2 ex))=false) (k2:(lowR 8 (g2 ex))=true) {o:List (Bool×Bool)} (ho:OKs o):OKs (sa2 ex o):=.cons k2 (.cons (h119 (by decide) (by rw [gv2 h0 h1];omega)) (.cons k1 (.cons (h119 (by decide) (by rw [gv2 h0 h1];omega)) (.cons k0 (ho)))))
noncomputable abbrev sb3 (ex:Int) (o:List (Bool×Bool)):List (Bool×Bool):=rp 10 (eqF (g0 ex) (g1 ex)) false (rp 10 (eqF (g1 ex) (g1 ex)) true (rp 10 (eqF 2006 (g1 ex)) false (rp 10 (eqF (g0 ex) (g0 ex)) true (rp 10 (eqF (g1 ex) (g0 ex)) false (rp 10 (eqF 2006 (g0 ex)) false (rp 10 (eqF (g0 ex) 2006) false (rp 10 (eqF (g1 ex) 2006) false (((!(leF (g2 ex) 8)),true)::((lowR (g2 ex) 8),false)::(prL (g2 ex) 8)::((lowR (g3 ex) 8),false)::(prL (g3 ex) 8)::((lowR (g2 ex) 10),true)::(prL (g2 ex) 10)::rp 3 (eqF (g1 ex) 0) false (((eqF (g1 ex) (g1 ex)),true)::((eqF 2006 (g1 ex)),false)::((eqF (g0 ex) (g0 ex)),true)::((eqF (g1 ex) (g0 ex)),false)::((eqF 2006 (g0 ex)),false)::((eqF (g0 ex) 0),false)::o)))))))))
theorem sb3_ok {ex:Int} (h0:0≤ex) (h1:ex<256) (k0:(lowR 8 (g3 ex))=true) (k1:(lowR 10 (g2 ex))=false) (k2:(lowR 8 (g2 ex))=true) {o:List (Bool×Bool)} (ho:OKs o):OKs (sb3 ex o):=rp_ok (c6_10 h0 h1) (rp_ok (eqF_self _) (rp_ok (c6_5 h0 h1) (rp_ok (eqF_self _) (rp_ok (c6_4 h0 h1) (rp_ok (c6_3 h0 h1) (rp_ok (c6_9 h0 h1) (rp_ok (c6_8 h0 h1) (.cons (c6_11 h0 h1) (.cons (lowA (by rw [gv2 h0 h1];omega) k2) (.cons (h119 (by rw [gv2 h0 h1];omega) (by decide)) (.cons (lowA (by rw [gv3 h0 h1];omega) k0) (.cons (h119 (by rw [gv3 h0 h1];omega) (by decide)) (.cons (lowA (by rw [gv2 h0 h1];omega) k1) (.cons (h119 (by rw [gv2 h0 h1];omega) (by decide)) (rp_ok (c6_6 h0 h1) (.cons (eqF_self _) (.cons (c6_5 h0 h1) (.cons (eqF_self _) (.cons (c6_4 h0 h1) (.cons (c6_3 h0 h1) (.cons (c6_2 h0 h1) (ho))))))) 3)))))))) 10) 10) 10) 10) 10) 10) 10) 10
noncomputable abbrev sa4 (ex:Int) (o:List (Bool×Bool)):List (Bool×Bool):=((!(leF (g3 ex) (g2 ex))),true)::((!(leF (g2 ex) 8)),true)::((!(leF 8 (g2 ex))),false)::((lowR 8 (g2 ex)),false)::(prL 8 (g2 ex))::((lowR 10 (g2 ex)),false)::(prL 10 (g2 ex))::((lowR 8 (g3 ex)),true)::o
theorem sa4_ok {ex:Int} (h0:0≤ex) (h1:ex<256) (k0:(lowR 8 (g3 ex))=true) (k1:(lowR 10 (g2 ex))=false) (k2:(lowR 8 (g2 ex))=false) {o:List (Bool×Bool)} (ho:OKs o):OKs (sa4 ex o):=.cons (c6_13 h0 h1) (.cons (c6_11 h0 h1) (.cons (c6_12 h0 h1) (.cons k2 (.cons (h119 (by decide) (by rw [gv2 h0 h1];omega)) (.cons k1 (.cons (h119 (by decide) (by rw [gv2 h0 h1];omega)) (.cons k0 (ho))))))))
noncomputable abbrev sb5 (ex:Int) (o:List (Bool×Bool)):List (Bool×Bool):=rp 10 (eqF (g0 ex) (g1 ex)) false (rp 10 (eqF (g1 ex) (g1 ex)) true (rp 10 (eqF 2006 (g1 ex)) false (rp 10 (eqF (g0 ex) (g0 ex)) true (rp 10 (eqF (g1 ex) (g0 ex)) false (rp 10 (eqF 2006 (g0 ex)) false (rp 10 (eqF (g0 ex) 2006) false (rp 10 (eqF (g1 ex) 2006) false (((eqF (g0 ex) (g0 ex)),true)::((eqF (g1 ex) (g0 ex)),false)::((eqF 2006 (g0 ex)),false)::rp 2 (!(leF (g2 ex) (g2 ex))) false (((lowR (g2 ex) 8),true)::(prL (g2 ex) 8)::((lowR (g3 ex) 8),false)::(prL (g3 ex) 8)::((lowR (g2 ex) 10),true)::(prL (g2 ex) 10)::rp 3 (eqF (g1 ex) 0) false (((eqF (g1 ex) (g1 ex)),true)::((eqF 2006 (g1 ex)),false)::((eqF (g0 ex) (g0 ex)),true)::((eqF (g1 ex) (g0 ex)),false)::((eqF 2006 (g0 ex)),false)::((eqF (g0 ex) 0),false)::o))))))))))
theorem sb5_ok {ex:Int} (h0:0≤ex) (h1:ex<256) (k0:(lowR 8 (g3 ex))=true) (k1:(lowR 10 (g2 ex))=false) (k2:(lowR 8 (g2 ex))=false) {o:List (Bool×Bool)} (ho:OKs o):OKs (sb5 ex o):=rp_ok (c6_10 h0 h1) (rp_ok (eqF_self _) (rp_ok (c6_5 h0 h1) (rp_ok (eqF_self _) (rp_ok (c6_4 h0 h1) (rp_ok (c6_3 h0 h1) (rp_ok (c6_9 h0 h1) (rp_ok (c6_8 h0 h1) (.cons (eqF_self _) (.cons (c6_4 h0 h1) (.cons (c6_3 h0 h1) (rp_ok (c6_14 h0 h1) (.cons (lowA (by rw [gv2 h0 h1];omega) k2) (.cons (h119 (by rw [gv2 h0 h1];omega) (by decide)) (.cons (lowA (by rw [gv3 h0 h1];omega) k0) (.cons (h119 (by rw [gv3 h0 h1];omega) (by decide)) (.cons (lowA (by rw [gv2 h0 h1];omega) k1) (.cons (h119 (by rw [gv2 h0 h1];omega) (by decide)) (rp_ok (c6_6 h0 h1) (.cons (eqF_self _) (.cons (c6_5 h0 h1) (.cons (eqF_self _) (.cons (c6_4 h0 h1) (.cons (c6_3 h0 h1) (.cons (c6_2 h0 h1) (ho))))))) 3))))))) 2)))) 10) 10) 10) 10) 10) 10) 10) 10
noncomputable abbrev sa6 (ex:Int) (o:List (Bool×Bool)):List (Bool×Bool):=rp 2 (!(leF (g3 ex) (g3 ex))) false (((!(leF (g3 ex) 8)),true)::((!(leF 8 (g3 ex))),false)::((lowR (g3 ex) 10),true)::(prL (g3 ex) 10)::((lowR 10 (g2 ex)),true)::(prL 10 (g2 ex))::((lowR 8 (g3 ex)),false)::o)
theorem sa6_ok {ex:Int} (h0:0≤ex) (h1:ex<256) (k0:(lowR 8 (g3 ex))=false) (k1:(lowR 10 (g2 ex))=true) (k2:(lowR (g3 ex) 10)=true) {o:List (Bool×Bool)} (ho:OKs o):OKs (sa6 ex o):=rp_ok (c6_17 h0 h1) (.cons (c6_16 h0 h1) (.cons (c6_15 h0 h1) (.cons k2 (.cons (h119 (by rw [gv3 h0 h1];omega) (by decide)) (.cons k1 (.cons (h119 (by decide) (by rw [gv2 h0 h1];omega)) (.cons k0 (ho)))))))) 2
noncomputable abbrev sb7 (ex:Int) (o:List (Bool×Bool)):List (Bool×Bool):=rp 10 (eqF (g0 ex) (g1 ex)) false (rp 10 (eqF (g1 ex) (g1 ex)) true (rp 10 (eqF 2006 (g1 ex)) false (rp 10 (eqF (g0 ex) (g0 ex)) true (rp 10 (eqF (g1 ex) (g0 ex)) false (rp 10 (eqF 2006 (g0 ex)) false (rp 10 (eqF (g0 ex) 2006) false (rp 10 (eqF (g1 ex) 2006) false (((!(leF (g3 ex) 10)),true)::((!(leF 10 (g3 ex))),false)::((!(leF (g3 ex) (g2 ex))),true)::((!(leF (g2 ex) (g3 ex))),false)::((lowR 10 (g3 ex)),false)::(prL 10 (g3 ex))::((lowR (g3 ex) 8),true)::(prL (g3 ex) 8)::((lowR (g2 ex) 10),false)::(prL (g2 ex) 10)::rp 3 (eqF (g1 ex) 0) false (((eqF (g1 ex) (g1 ex)),true)::((eqF 2006 (g1 ex)),false)::((eqF (g0 ex) (g0 ex)),true)::((eqF (g1 ex) (g0 ex)),false)::((eqF 2006 (g0 ex)),false)::((eqF (g0 ex) 0),false)::o)))))))))
theorem sb7_ok {ex:Int} (h0:0≤ex) (h1:ex<256) (k0:(lowR 8 (g3 ex))=false) (k1:(lowR 10 (g2 ex))=true) (k2:(lowR (g3 ex) 10)=true) {o:List (Bool×Bool)} (ho:OKs o):OKs (sb7 ex o):=rp_ok (c6_10 h0 h1) (rp_ok (eqF_self _) (rp_ok (c6_5 h0 h1) (rp_ok (eqF_self _) (rp_ok (c6_4 h0 h1) (rp_ok (c6_3 h0 h1) (rp_ok (c6_9 h0 h1) (rp_ok (c6_8 h0 h1) (.cons (c6_1 h0 h1) (.cons (c6_19 h0 h1) (.cons (c6_13 h0 h1) (.cons (c6_18 h0 h1) (.cons (lowA (by rw [gv3 h0 h1];omega) k2) (.cons (h119 (by decide) (by rw [gv3 h0 h1];omega)) (.cons (lowA (by rw [gv3 h0 h1];omega) k0) (.cons (h119 (by rw [gv3 h0 h1];omega) (by decide)) (.cons (lowA (by rw [gv2 h0 h1];omega) k1) (.cons (h119 (by rw [gv2 h0 h1];omega) (by decide)) (rp_ok (c6_6 h0 h1) (.cons (eqF_self _) (.cons (c6_5 h0 h1) (.cons (eqF_self _) (.cons (c6_4 h0 h1) (.cons (c6_3 h0 h1) (.cons (c6_2 h0 h1) (ho))))))) 3))))))))))) 10) 10) 10) 10) 10) 10) 10) 10
noncomputable abbrev sa8 (ex:Int) (o:List (Bool×Bool)):List (Bool×Bool):=((!(leF (g3 ex) 10)),true)::((lowR (g3 ex) 10),false)::(prL (g3 ex) 10)::((lowR 10 (g2 ex)),true)::(prL 10 (g2 ex))::((lowR 8 (g3 ex)),false)::o
theorem sa8_ok {ex:Int} (h0:0≤ex) (h1:ex<256) (k0:(lowR 8 (g3 ex))=false) (k1:(lowR 10 (g2 ex))=true) (k2:(lowR (g3 ex) 10)=false) {o:List (Bool×Bool)} (ho:OKs o):OKs (sa8 ex o):=.cons (c6_1 h0 h1) (.cons k2 (.cons (h119 (by rw [gv3 h0 h1];omega) (by decide)) (.cons k1 (.cons (h119 (by decide) (by rw [gv2 h0 h1];omega)) (.cons k0 (ho))))))
noncomputable abbrev sb9 (ex:Int) (o:List (Bool×Bool)):List (Bool×Bool):=rp 10 (eqF (g0 ex) (g1 ex)) false (rp 10 (eqF (g1 ex) (g1 ex)) true (rp 10 (eqF 2006 (g1 ex)) false (rp 10 (eqF (g0 ex) (g0 ex)) true (rp 10 (eqF (g1 ex) (g0 ex)) false (rp 10 (eqF 2006 (g0 ex)) false (rp 10 (eqF (g0 ex) 2006) false (rp 10 (eqF (g1 ex) 2006) false (((eqF (g0 ex) (g0 ex)),true)::((eqF (g1 ex) (g0 ex)),false)::((eqF 2006 (g0 ex)),false)::((!(leF (g2 ex) 10)),true)::((lowR 10 (g3 ex)),true)::(prL 10 (g3 ex))::((lowR (g3 ex) 8),true)::(prL (g3 ex) 8)::((lowR (g2 ex) 10),false)::(prL (g2 ex) 10)::rp 3 (eqF (g1 ex) 0) false (((eqF (g1 ex) (g1 ex)),true)::((eqF 2006 (g1 ex)),false)::((eqF (g0 ex) (g0 ex)),true)::((eqF (g1 ex) (g0 ex)),false)::((eqF 2006 (g0 ex)),false)::((eqF (g0 ex) 0),false)::o)))))))))
theorem sb9_ok {ex:Int} (h0:0≤ex) (h1:ex<256) (k0:(lowR 8 (g3 ex))=false) (k1:(lowR 10 (g2 ex))=true) (k2:(lowR (g3 ex) 10)=false) {o:List (Bool×Bool)} (ho:OKs o):OKs (sb9 ex o):=rp_ok (c6_10 h0 h1) (rp_ok (eqF_self _) (rp_ok (c6_5 h0 h1) (rp_ok (eqF_self _) (rp_ok (c6_4 h0 h1) (rp_ok (c6_3 h0 h1) (rp_ok (c6_9 h0 h1) (rp_ok (c6_8 h0 h1) (.cons (eqF_self _) (.cons (c6_4 h0 h1) (.cons (c6_3 h0 h1) (.cons (c6_7 h0 h1) (.cons (lowA (by rw [gv3 h0 h1];omega) k2) (.cons (h119 (by decide) (by rw [gv3 h0 h1];omega)) (.cons (lowA (by rw [gv3 h0 h1];omega) k0) (.cons (h119 (by rw [gv3 h0 h1];omega) (by decide)) (.cons (lowA (by rw [gv2 h0 h1];omega) k1) (.cons (h119 (by rw [gv2 h0 h1];omega) (by decide)) (rp_ok (c6_6 h0 h1) (.cons (eqF_self _) (.cons (c6_5 h0 h1) (.cons (eqF_self _) (.cons (c6_4 h0 h1) (.cons (c6_3 h0 h1) (.cons (c6_2 h0 h1) (ho))))))) 3))))))))))) 10) 10) 10) 10) 10) 10) 10) 10
noncomputable abbrev sa10 (ex:Int) (o:List (Bool×Bool)):List (Bool×Bool):=rp 2 (!(leF (g3 ex) (g3 ex))) false (((!(leF (g3 ex) 8)),true)::((!(leF 8 (g3 ex))),false)::((lowR (g3 ex) (g2 ex)),true)::(prL (g3 ex) (g2 ex))::((lowR 10 (g2 ex)),false)::(prL 10 (g2 ex))::((lowR 8 (g3 ex)),false)::o)
theorem sa10_ok {ex:Int} (h0:0≤ex) (h1:ex<256) (k0:(lowR 8 (g3 ex))=false) (k1:(lowR 10 (g2 ex))=false) (k2:(lowR (g3 ex) (g2 ex))=true) {o:List (Bool×Bool)} (ho:OKs o):OKs (sa10 ex o):=rp_ok (c6_17 h0 h1) (.cons (c6_16 h0 h1) (.cons (c6_15 h0 h1) (.cons k2 (.cons (h119 (by rw [gv3 h0 h1];omega) (by rw [gv2 h0 h1];omega)) (.cons k1 (.cons (h119 (by decide) (by rw [gv2 h0 h1];omega)) (.cons k0 (ho)))))))) 2
noncomputable abbrev sb11 (ex:Int) (o:List (Bool×Bool)):List (Bool×Bool):=rp 10 (eqF (g0 ex) (g1 ex)) false (rp 10 (eqF (g1 ex) (g1 ex)) true (rp 10 (eqF 2006 (g1 ex)) false (rp 10 (eqF (g0 ex) (g0 ex)) true (rp 10 (eqF (g1 ex) (g0 ex)) false (rp 10 (eqF 2006 (g0 ex)) false (rp 10 (eqF (g0 ex) 2006) false (rp 10 (eqF (g1 ex) 2006) false (((!(leF (g3 ex) 10)),true)::((!(leF 10 (g3 ex))),false)::((!(leF (g3 ex) (g2 ex))),true)::((!(leF (g2 ex) (g3 ex))),false)::((lowR (g2 ex) (g3 ex)),false)::(prL (g2 ex) (g3 ex))::((lowR (g3 ex) 8),true)::(prL (g3 ex) 8)::((lowR (g2 ex) 10),true)::(prL (g2 ex) 10)::rp 3 (eqF (g1 ex) 0) false (((eqF (g1 ex) (g1 ex)),true)::((eqF 2006 (g1 ex)),false)::((eqF (g0 ex) (g0 ex)),true)::((eqF (g1 ex) (g0 ex)),false)::((eqF 2006 (g0 ex)),false)::((eqF (g0 ex) 0),false)::o)))))))))
theorem sb11_ok {ex:Int} (h0:0≤ex) (h1:ex<256) (k0:(lowR 8 (g3 ex))=false) (k1:(lowR 10 (g2 ex))=false) (k2:(lowR (g3 ex) (g2 ex))=true) {o:List (Bool×Bool)} (ho:OKs o):OKs (sb11 ex o):=rp_ok (c6_10 h0 h1) (rp_ok (eqF_self _) (rp_ok (c6_5 h0 h1) (rp_ok (eqF_self _) (rp_ok (c6_4 h0 h1) (rp_ok (c6_3 h0 h1) (rp_ok (c6_9 h0 h1) (rp_ok (c6_8 h0 h1) (.cons (c6_1 h0 h1) (.cons (c6_19 h0 h1) (.cons (c6_13 h0 h1) (.cons (c6_18 h0 h1) (.cons (lowA (by rw [gv2 h0 h1,gv3 h0 h1];omega) k2) (.cons (h119 (by rw [gv2 h0 h1];omega) (by rw [gv3 h0 h1];omega)) (.cons (lowA (by rw [gv3 h0 h1];omega) k0) (.cons (h119 (by rw [gv3 h0 h1];omega) (by decide)) (.cons (lowA (by rw [gv2 h0 h1];omega) k1) (.cons (h119 (by rw [gv2 h0 h1];omega) (by decide)) (rp_ok (c6_6 h0 h1) (.cons (eqF_self _) (.cons (c6_5 h0 h1) (.cons (eqF_self _) (.cons (c6_4 h0 h1) (.cons (c6_3 h0 h1) (.cons (c6_2 h0 h1) (ho))))))) 3))))))))))) 10) 10) 10) 10) 10) 10) 10) 10
noncomputable abbrev sa12 (ex:Int) (o:List (Bool×Bool)):List (Bool×Bool):=((!(leF (g3 ex) (g2 ex))),true)::((!(leF (g2 ex) 8)),true)::((!(leF 8 (g2 ex))),false)::((lowR (g3 ex) (g2 ex)),false)::(prL (g3 ex) (g2 ex))::((lowR 10 (g2 ex)),false)::(prL 10 (g2 ex))::((lowR 8 (g3 ex)),false)::o
theorem sa12_ok {ex:Int} (h0:0≤ex) (h1:ex<256) (k0:(lowR 8 (g3 ex))=false) (k1:(lowR 10 (g2 ex))=false) (k2:(lowR (g3 ex) (g2 ex))=false) {o:List (Bool×Bool)} (ho:OKs o):OKs (sa12 ex o):=.cons (c6_13 h0 h1) (.cons (c6_11 h0 h1) (.cons (c6_12 h0 h1) (.cons k2 (.cons (h119 (by rw [gv3 h0 h1];omega) (by rw [gv2 h0 h1];omega)) (.cons k1 (.cons (h119 (by decide) (by rw [gv2 h0 h1];omega)) (.cons k0 (ho))))))))
noncomputable abbrev sb13 (ex:Int) (o:List (Bool×Bool)):List (Bool×Bool):=rp 10 (eqF (g0 ex) (g1 ex)) false (rp 10 (eqF (g1 ex) (g1 ex)) true (rp 10 (eqF 2006 (g1 ex)) false (rp 10 (eqF (g0 ex) (g0 ex)) true (rp 10 (eqF (g1 ex) (g0 ex)) false (rp 10 (eqF 2006 (g0 ex)) false (rp 10 (eqF (g0 ex) 2006) false (rp 10 (eqF (g1 ex) 2006) false (((eqF (g0 ex) (g0 ex)),true)::((eqF (g1 ex) (g0 ex)),false)::((eqF 2006 (g0 ex)),false)::rp 2 (!(leF (g2 ex) (g2 ex))) false (((lowR (g2 ex) (g3 ex)),true)::(prL (g2 ex) (g3 ex))::((lowR (g3 ex) 8),true)::(prL (g3 ex) 8)::((lowR (g2 ex) 10),true)::(prL (g2 ex) 10)::rp 3 (eqF (g1 ex) 0) false (((eqF (g1 ex) (g1 ex)),true)::((eqF 2006 (g1 ex)),false)::((eqF (g0 ex) (g0 ex)),true)::((eqF (g1 ex) (g0 ex)),false)::((eqF 2006 (g0 ex)),false)::((eqF (g0 ex) 0),false)::o))))))))))
theorem sb13_ok {ex:Int} (h0:0≤ex) (h1:ex<256) (k0:(lowR 8 (g3 ex))=false) (k1:(lowR 10 (g2 ex))=false) (k2:(lowR (g3 ex) (g2 ex))=false) {o:List (Bool×Bool)} (ho:OKs o):OKs (sb13 ex o):=rp_ok (c6_10 h0 h1) (rp_ok (eqF_self _) (rp_ok (c6_5 h0 h1) (rp_ok (eqF_self _) (rp_ok (c6_4 h0 h1) (rp_ok (c6_3 h0 h1) (rp_ok (c6_9 h0 h1) (rp_ok (c6_8 h0 h1) (.cons (eqF_self _) (.cons (c6_4 h0 h1) (.cons (c6_3 h0 h1) (rp_ok (c6_14 h0 h1) (.cons (lowA (by rw [gv2 h0 h1,gv3 h0 h1];omega) k2) (.cons (h119 (by rw [gv2 h0 h1];omega) (by rw [gv3 h0 h1];omega)) (.cons (lowA (by rw [gv3 h0 h1];omega) k0) (.cons (h119 (by rw [gv3 h0 h1];omega) (by decide)) (.cons (lowA (by rw [gv2 h0 h1];omega) k1) (.cons (h119 (by rw [gv2 h0 h1];omega) (by decide)) (rp_ok (c6_6 h0 h1) (.cons (eqF_self _) (.cons (c6_5 h0 h1) (.cons (eqF_self _) (.cons (c6_4 h0 h1) (.cons (c6_3 h0 h1) (.cons (c6_2 h0 h1) (ho))))))) 3))))))) 2)))) 10) 10) 10) 10) 10) 10) 10) 10
noncomputable abbrev sa14 (ex:Int) (o:List (Bool×Bool)):List (Bool×Bool):=((lowR 9 11),true)::(prL 9 11)::((lowR 11 (g2 ex)),true)::(prL 11 (g2 ex))::((lowR 9 (g3 ex)),true)::o
theorem sa14_ok {ex:Int} (h0:0≤ex) (h1:ex<256) (k0:(lowR 9 (g3 ex))=true) (k1:(lowR 11 (g2 ex))=true) {o:List (Bool×Bool)} (ho:OKs o):OKs (sa14 ex o):=.cons (by decide) (.cons (h119 (by decide) (by decide)) (.cons k1 (.cons (h119 (by decide) (by rw [gv2 h0 h1];omega)) (.cons k0 (ho)))))
noncomputable abbrev sb15 (ex:Int) (o:List (Bool×Bool)):List (Bool×Bool):=rp 10 (eqF (g0 ex) (g1 ex)) false (rp 10 (eqF (g1 ex) (g1 ex)) true (rp 10 (eqF 2006 (g1 ex)) false (rp 10 (eqF (g0 ex) (g0 ex)) true (rp 10 (eqF (g1 ex) (g0 ex)) false (rp 10 (eqF 2006 (g0 ex)) false (rp 10 (eqF (g0 ex) 2006) false (rp 10 (eqF (g1 ex) 2006) false (((!(leF (g2 ex) 9)),true)::((lowR 11 9),false)::(prL 11 9)::((lowR (g3 ex) 9),false)::(prL (g3 ex) 9)::((lowR (g2 ex) 11),false)::(prL (g2 ex) 11)::rp 3 (eqF (g1 ex) 0) false (((eqF (g1 ex) (g1 ex)),true)::((eqF 2006 (g1 ex)),false)::((eqF (g0 ex) (g0 ex)),true)::((eqF (g1 ex) (g0 ex)),false)::((eqF 2006 (g0 ex)),false)::((eqF (g0 ex) 0),false)::o)))))))))
theorem sb15_ok {ex:Int} (h0:0≤ex) (h1:ex<256) (k0:(lowR 9 (g3 ex))=true) (k1:(lowR 11 (g2 ex))=true) {o:List (Bool×Bool)} (ho:OKs o):OKs (sb15 ex o):=rp_ok (c6_10 h0 h1) (rp_ok (eqF_self _) (rp_ok (c6_5 h0 h1) (rp_ok (eqF_self _) (rp_ok (c6_4 h0 h1) (rp_ok (c6_3 h0 h1) (rp_ok (c6_9 h0 h1) (rp_ok (c6_8 h0 h1) (.cons (c6_20 h0 h1) (.cons (by decide) (.cons (h119 (by decide) (by decide)) (.cons (lowA (by rw [gv3 h0 h1];omega) k0) (.cons (h119 (by rw [gv3 h0 h1];omega) (by decide)) (.cons (lowA (by rw [gv2 h0 h1];omega) k1) (.cons (h119 (by rw [gv2 h0 h1];omega) (by decide)) (rp_ok (c6_6 h0 h1) (.cons (eqF_self _) (.cons (c6_5 h0 h1) (.cons (eqF_self _) (.cons (c6_4 h0 h1) (.cons (c6_3 h0 h1) (.cons (c6_2 h0 h1) (ho))))))) 3)))))))) 10) 10) 10) 10) 10) 10) 10) 10
noncomputable abbrev sa16 (ex:Int) (o:List (Bool×Bool)):List (Bool×Bool):=((lowR 9 (g2 ex)),true)::(prL 9 (g2 ex))::((lowR 11 (g2 ex)),false)::(prL 11 (g2 ex))::((lowR 9 (g3 ex)),true)::o
theorem sa16_ok {ex:Int} (h0:0≤ex) (h1:ex<256) (k0:(lowR 9 (g3 ex))=true) (k1:(lowR 11 (g2 ex))=false) (k2:(lowR 9 (g2 ex))=true) {o:List (Bool×Bool)} (ho:OKs o):OKs (sa16 ex o):=.cons k2 (.cons (h119 (by decide) (by rw [gv2 h0 h1];omega)) (.cons k1 (.cons (h119 (by decide) (by rw [gv2 h0 h1];omega)) (.cons k0 (ho)))))
noncomputable abbrev sb17 (ex:Int) (o:List (Bool×Bool)):List (Bool×Bool):=rp 10 (eqF (g0 ex) (g1 ex)) false (rp 10 (eqF (g1 ex) (g1 ex)) true (rp 10 (eqF 2006 (g1 ex)) false (rp 10 (eqF (g0 ex) (g0 ex)) true (rp 10 (eqF (g1 ex) (g0 ex)) false (rp 10 (eqF 2006 (g0 ex)) false (rp 10 (eqF (g0 ex) 2006) false (rp 10 (eqF (g1 ex) 2006) false (((!(leF (g2 ex) 9)),true)::((lowR (g2 ex) 9),false)::(prL (g2 ex) 9)::((lowR (g3 ex) 9),false)::(prL (g3 ex) 9)::((lowR (g2 ex) 11),true)::(prL (g2 ex) 11)::rp 3 (eqF (g1 ex) 0) false (((eqF (g1 ex) (g1 ex)),true)::((eqF 2006 (g1 ex)),false)::((eqF (g0 ex) (g0 ex)),true)::((eqF (g1 ex) (g0 ex)),false)::((eqF 2006 (g0 ex)),false)::((eqF (g0 ex) 0),false)::o)))))))))
theorem sb17_ok {ex:Int} (h0:0≤ex) (h1:ex<256) (k0:(lowR 9 (g3 ex))=true) (k1:(lowR 11 (g2 ex))=false) (k2:(lowR 9 (g2 ex))=true) {o:List (Bool×Bool)} (ho:OKs o):OKs (sb17 ex o):=rp_ok (c6_10 h0 h1) (rp_ok (eqF_self _) (rp_ok (c6_5 h0 h1) (rp_ok (eqF_self _) (rp_ok (c6_4 h0 h1) (rp_ok (c6_3 h0 h1) (rp_ok (c6_9 h0 h1) (rp_ok (c6_8 h0 h1) (.cons (c6_20 h0 h1) (.cons (lowA (by rw [gv2 h0 h1];omega) k2) (.cons (h119 (by rw [gv2 h0 h1];omega) (by decide)) (.cons (lowA (by rw [gv3 h0 h1];omega) k0) (.cons (h119 (by rw [gv3 h0 h1];omega) (by decide)) (.cons (lowA (by rw [gv2 h0 h1];omega) k1) (.cons (h119 (by rw [gv2 h0 h1];omega) (by decide)) (rp_ok (c6_6 h0 h1) (.cons (eqF_self _) (.cons (c6_5 h0 h1) (.cons (eqF_self _) (.cons (c6_4 h0 h1) (.cons (c6_3 h0 h1) (.cons (c6_2 h0 h1) (ho))))))) 3)))))))) 10) 10) 10) 10) 10) 10) 10) 10
noncomputable abbrev sa18 (ex:Int) (o:List (Bool×Bool)):List (Bool×Bool):=((!(leF (g3 ex) (g2 ex))),true)::((!(leF (g2 ex) 9)),true)::((!(leF 9 (g2 ex))),false)::((lowR 9 (g2 ex)),false)::(prL 9 (g2 ex))::((lowR 11 (g2 ex)),false)::(prL 11 (g2 ex))::((lowR 9 (g3 ex)),true)::o
theorem sa18_ok {ex:Int} (h0:0≤ex) (h1:ex<256) (k0:(lowR 9 (g3 ex))=true) (k1:(lowR 11 (g2 ex))=false) (k2:(lowR 9 (g2 ex))=false) {o:List (Bool×Bool)} (ho:OKs o):OKs (sa18 ex o):=.cons (c6_13 h0 h1) (.cons (c6_20 h0 h1) (.cons (c6_21 h0 h1) (.cons k2 (.cons (h119 (by decide) (by rw [gv2 h0 h1];omega)) (.cons k1 (.cons (h119 (by decide) (by rw [gv2 h0 h1];omega)) (.cons k0 (ho))))))))
noncomputable abbrev sb19 (ex:Int) (o:List (Bool×Bool)):List (Bool×Bool):=rp 10 (eqF (g0 ex) (g1 ex)) false (rp 10 (eqF (g1 ex) (g1 ex)) true (rp 10 (eqF 2006 (g1 ex)) false (rp 10 (eqF (g0 ex) (g0 ex)) true (rp 10 (eqF (g1 ex) (g0 ex)) false (rp 10 (eqF 2006 (g0 ex)) false (rp 10 (eqF (g0 ex) 2006) false (rp 10 (eqF (g1 ex) 2006) false (((eqF (g0 ex) (g0 ex)),true)::((eqF (g1 ex) (g0 ex)),false)::((eqF 2006 (g0 ex)),false)::rp 2 (!(leF (g2 ex) (g2 ex))) false (((lowR (g2 ex) 9),true)::(prL (g2 ex) 9)::((lowR (g3 ex) 9),false)::(prL (g3 ex) 9)::((lowR (g2 ex) 11),true)::(prL (g2 ex) 11)::rp 3 (eqF (g1 ex) 0) false (((eqF (g1 ex) (g1 ex)),true)::((eqF 2006 (g1 ex)),false)::((eqF (g0 ex) (g0 ex)),true)::((eqF (g1 ex) (g0 ex)),false)::((eqF 2006 (g0 ex)),false)::((eqF (g0 ex) 0),false)::o))))))))))
theorem sb19_ok {ex:Int} (h0:0≤ex) (h1:ex<256) (k0:(lowR 9 (g3 ex))=true) (k1:(lowR 11 (g2 ex))=false) (k2:(lowR 9 (g2 ex))=false) {o:List (Bool×Bool)} (ho:OKs o):OKs (sb19 ex o):=rp_ok (c6_10 h0 h1) (rp_ok (eqF_self _) (rp_ok (c6_5 h0 h1) (rp_ok (eqF_self _) (rp_ok (c6_4 h0 h1) (rp_ok (c6_3 h0 h1) (rp_ok (c6_9 h0 h1) (rp_ok (c6_8 h0 h1) (.cons (eqF_self _) (.cons (c6_4 h0 h1) (.cons (c6_3 h0 h1) (rp_ok (c6_14 h0 h1) (.cons (lowA (by rw [gv2 h0 h1];omega) k2) (.cons (h119 (by rw [gv2 h0 h1];omega) (by decide)) (.cons (lowA (by rw [gv3 h0 h1];omega) k0) (.cons (h119 (by rw [gv3 h0 h1];omega) (by decide)) (.cons (lowA (by rw [gv2 h0 h1];omega) k1) (.cons (h119 (by rw [gv2 h0 h1];omega) (by decide)) (rp_ok (c6_6 h0 h1) (.cons (eqF_self _) (.cons (c6_5 h0 h1) (.cons (eqF_self _) (.cons (c6_4 h0 h1) (.cons (c6_3 h0 h1) (.cons (c6_2 h0 h1) (ho))))))) 3))))))) 2)))) 10) 10) 10) 10) 10) 10) 10) 10
noncomputable abbrev sa20 (ex:Int) (o:List (Bool×Bool)):List (Bool×Bool):=rp 2 (!(leF (g3 ex) (g3 ex))) false (((!(leF (g3 ex) 9)),true)::((!(leF 9 (g3 ex))),false)::((lowR (g3 ex) 11),true)::(prL (g3 ex) 11)::((lowR 11 (g2 ex)),true)::(prL 11 (g2 ex))::((lowR 9 (g3 ex)),false)::o)
theorem sa20_ok {ex:Int} (h0:0≤ex) (h1:ex<256) (k0:(lowR 9 (g3 ex))=false) (k1:(lowR 11 (g2 ex))=true) (k2:(lowR (g3 ex) 11)=true) {o:List (Bool×Bool)} (ho:OKs o):OKs (sa20 ex o):=rp_ok (c6_17 h0 h1) (.cons (c6_23 h0 h1) (.cons (c6_22 h0 h1) (.cons k2 (.cons (h119 (by rw [gv3 h0 h1];omega) (by decide)) (.cons k1 (.cons (h119 (by decide) (by rw [gv2 h0 h1];omega)) (.cons k0 (ho)))))))) 2
noncomputable abbrev sb21 (ex:Int) (o:List (Bool×Bool)):List (Bool×Bool):=rp 10 (eqF (g0 ex) (g1 ex)) false (rp 10 (eqF (g1 ex) (g1 ex)) true (rp 10 (eqF 2006 (g1 ex)) false (rp 10 (eqF (g0 ex) (g0 ex)) true (rp 10 (eqF (g1 ex) (g0 ex)) false (rp 10 (eqF 2006 (g0 ex)) false (rp 10 (eqF (g0 ex) 2006) false (rp 10 (eqF (g1 ex) 2006) false (((!(leF (g3 ex) 11)),true)::((!(leF 11 (g3 ex))),false)::((!(leF (g3 ex) (g2 ex))),true)::((!(leF (g2 ex) (g3 ex))),false)::((lowR 11 (g3 ex)),false)::(prL 11 (g3 ex))::((lowR (g3 ex) 9),true)::(prL (g3 ex) 9)::((lowR (g2 ex) 11),false)::(prL (g2 ex) 11)::rp 3 (eqF (g1 ex) 0) false (((eqF (g1 ex) (g1 ex)),true)::((eqF 2006 (g1 ex)),false)::((eqF (g0 ex) (g0 ex)),true)::((eqF (g1 ex) (g0 ex)),false)::((eqF 2006 (g0 ex)),false)::((eqF (g0 ex) 0),false)::o)))))))))
theorem sb21_ok {ex:Int} (h0:0≤ex) (h1:ex<256) (k0:(lowR 9 (g3 ex))=false) (k1:(lowR 11 (g2 ex))=true) (k2:(lowR (g3 ex) 11)=true) {o:List (Bool×Bool)} (ho:OKs o):OKs (sb21 ex o):=rp_ok (c6_10 h0 h1) (rp_ok (eqF_self _) (rp_ok (c6_5 h0 h1) (rp_ok (eqF_self _) (rp_ok (c6_4 h0 h1) (rp_ok (c6_3 h0 h1) (rp_ok (c6_9 h0 h1) (rp_ok (c6_8 h0 h1) (.cons (c6_25 h0 h1) (.cons (c6_24 h0 h1) (.cons (c6_13 h0 h1) (.cons (c6_18 h0 h1) (.cons (lowA (by rw [gv3 h0 h1];omega) k2) (.cons (h119 (by decide) (by rw [gv3 h0 h1];omega)) (.cons (lowA (by rw [gv3 h0 h1];omega) k0) (.cons (h119 (by rw [gv3 h0 h1];omega) (by decide)) (.cons (lowA (by rw [gv2 h0 h1];omega) k1) (.cons (h119 (by rw [gv2 h0 h1];omega) (by decide)) (rp_ok (c6_6 h0 h1) (.cons (eqF_self _) (.cons (c6_5 h0 h1) (.cons (eqF_self _) (.cons (c6_4 h0 h1) (.cons (c6_3 h0 h1) (.cons (c6_2 h0 h1) (ho))))))) 3))))))))))) 10) 10) 10) 10) 10) 10) 10) 10
noncomputable abbrev sa22 (ex:Int) (o:List (Bool×Bool)):List (Bool×Bool):=((!(leF (g3 ex) 11)),true)::((lowR (g3 ex) 11),false)::(prL (g3 ex) 11)::((lowR 11 (g2 ex)),true)::(prL 11 (g2 ex))::((lowR 9 (g3 ex)),false)::o
theorem sa22_ok {ex:Int} (h0:0≤ex) (h1:ex<256) (k0:(lowR 9 (g3 ex))=false) (k1:(lowR 11 (g2 ex))=true) (k2:(lowR (g3 ex) 11)=false) {o:List (Bool×Bool)} (ho:OKs o):OKs (sa22 ex o):=.cons (c6_25 h0 h1) (.cons k2 (.cons (h119 (by rw [gv3 h0 h1];omega) (by decide)) (.cons k1 (.cons (h119 (by decide) (by rw [gv2 h0 h1];omega)) (.cons k0 (ho))))))
noncomputable abbrev sb23 (ex:Int) (o:List (Bool×Bool)):List (Bool×Bool):=rp 10 (eqF (g0 ex) (g1 ex)) false (rp 10 (eqF (g1 ex) (g1 ex)) true (rp 10 (eqF 2006 (g1 ex)) false (rp 10 (eqF (g0 ex) (g0 ex)) true (rp 10 (eqF (g1 ex) (g0 ex)) false (rp 10 (eqF 2006 (g0 ex)) false (rp 10 (eqF (g0 ex) 2006) false (rp 10 (eqF (g1 ex) 2006) false (((eqF (g0 ex) (g0 ex)),true)::((eqF (g1 ex) (g0 ex)),false)::((eqF 2006 (g0 ex)),false)::((!(leF (g2 ex) 11)),true)::((lowR 11 (g3 ex)),true)::(prL 11 (g3 ex))::((lowR (g3 ex) 9),true)::(prL (g3 ex) 9)::((lowR (g2 ex) 11),false)::(prL (g2 ex) 11)::rp 3 (eqF (g1 ex) 0) false (((eqF (g1 ex) (g1 ex)),true)::((eqF 2006 (g1 ex)),false)::((eqF (g0 ex) (g0 ex)),true)::((eqF (g1 ex) (g0 ex)),false)::((eqF 2006 (g0 ex)),false)::((eqF (g0 ex) 0),false)::o)))))))))
theorem sb23_ok {ex:Int} (h0:0≤ex) (h1:ex<256) (k0:(lowR 9 (g3 ex))=false) (k1:(lowR 11 (g2 ex))=true) (k2:(lowR (g3 ex) 11)=false) {o:List (Bool×Bool)} (ho:OKs o):OKs (sb23 ex o):=rp_ok (c6_10 h0 h1) (rp_ok (eqF_self _) (rp_ok (c6_5 h0 h1) (rp_ok (eqF_self _) (rp_ok (c6_4 h0 h1) (rp_ok (c6_3 h0 h1) (rp_ok (c6_9 h0 h1) (rp_ok (c6_8 h0 h1) (.cons (eqF_self _) (.cons (c6_4 h0 h1) (.cons (c6_3 h0 h1) (.cons (c6_26 h0 h1) (.cons (lowA (by rw [gv3 h0 h1];omega) k2) (.cons (h119 (by decide) (by rw [gv3 h0 h1];omega)) (.cons (lowA (by rw [gv3 h0 h1];omega) k0) (.cons (h119 (by rw [gv3 h0 h1];omega) (by decide)) (.cons (lowA (by rw [gv2 h0 h1];omega) k1) (.cons (h119 (by rw [gv2 h0 h1];omega) (by decide)) (rp_ok (c6_6 h0 h1) (.cons (eqF_self _) (.cons (c6_5 h0 h1) (.cons (eqF_self _) (.cons (c6_4 h0 h1) (.cons (c6_3 h0 h1) (.cons (c6_2 h0 h1) (ho))))))) 3))))))))))) 10) 10) 10) 10) 10) 10) 10) 10
noncomputable abbrev sa24 (ex:Int) (o:List (Bool×Bool)):List (Bool×Bool):=rp 2 (!(leF (g3 ex) (g3 ex))) false (((!(leF (g3 ex) 9)),true)::((!(leF 9 (g3 ex))),false)::((lowR (g3 ex) (g2 ex)),true)::(prL (g3 ex) (g2 ex))::((lowR 11 (g2 ex)),false)::(prL 11 (g2 ex))::((lowR 9 (g3 ex)),false)::o)
theorem sa24_ok {ex:Int} (h0:0≤ex) (h1:ex<256) (k0:(lowR 9 (g3 ex))=false) (k1:(lowR 11 (g2 ex))=false) (k2:(lowR (g3 ex) (g2 ex))=true) {o:List (Bool×Bool)} (ho:OKs o):OKs (sa24 ex o):=rp_ok (c6_17 h0 h1) (.cons (c6_23 h0 h1) (.cons (c6_22 h0 h1) (.cons k2 (.cons (h119 (by rw [gv3 h0 h1];omega) (by rw [gv2 h0 h1];omega)) (.cons k1 (.cons (h119 (by decide) (by rw [gv2 h0 h1];omega)) (.cons k0 (ho)))))))) 2
noncomputable abbrev sb25 (ex:Int) (o:List (Bool×Bool)):List (Bool×Bool):=rp 10 (eqF (g0 ex) (g1 ex)) false (rp 10 (eqF (g1 ex) (g1 ex)) true (rp 10 (eqF 2006 (g1 ex)) false (rp 10 (eqF (g0 ex) (g0 ex)) true (rp 10 (eqF (g1 ex) (g0 ex)) false (rp 10 (eqF 2006 (g0 ex)) false (rp 10 (eqF (g0 ex) 2006) false (rp 10 (eqF (g1 ex) 2006) false (((!(leF (g3 ex) 11)),true)::((!(leF 11 (g3 ex))),false)::((!(leF (g3 ex) (g2 ex))),true)::((!(leF (g2 ex) (g3 ex))),false)::((lowR (g2 ex) (g3 ex)),false)::(prL (g2 ex) (g3 ex))::((lowR (g3 ex) 9),true)::(prL (g3 ex) 9)::((lowR (g2 ex) 11),true)::(prL (g2 ex) 11)::rp 3 (eqF (g1 ex) 0) false (((eqF (g1 ex) (g1 ex)),true)::((eqF 2006 (g1 ex)),false)::((eqF (g0 ex) (g0 ex)),true)::((eqF (g1 ex) (g0 ex)),false)::((eqF 2006 (g0 ex)),false)::((eqF (g0 ex) 0),false)::o)))))))))
theorem sb25_ok {ex:Int} (h0:0≤ex) (h1:ex<256) (k0:(lowR 9 (g3 ex))=false) (k1:(lowR 11 (g2 ex))=false) (k2:(lowR (g3 ex) (g2 ex))=true) {o:List (Bool×Bool)} (ho:OKs o):OKs (sb25 ex o):=rp_ok (c6_10 h0 h1) (rp_ok (eqF_self _) (rp_ok (c6_5 h0 h1) (rp_ok (eqF_self _) (rp_ok (c6_4 h0 h1) (rp_ok (c6_3 h0 h1) (rp_ok (c6_9 h0 h1) (rp_ok (c6_8 h0 h1) (.cons (c6_25 h0 h1) (.cons (c6_24 h0 h1) (.cons (c6_13 h0 h1) (.cons (c6_18 h0 h1) (.cons (lowA (by rw [gv2 h0 h1,gv3 h0 h1];omega) k2) (.cons (h119 (by rw [gv2 h0 h1];omega) (by rw [gv3 h0 h1];omega)) (.cons (lowA (by rw [gv3 h0 h1];omega) k0) (.cons (h119 (by rw [gv3 h0 h1];omega) (by decide)) (.cons (lowA (by rw [gv2 h0 h1];omega) k1) (.cons (h119 (by rw [gv2 h0 h1];omega) (by decide)) (rp_ok (c6_6 h0 h1) (.cons (eqF_self _) (.cons (c6_5 h0 h1) (.cons (eqF_self _) (.cons (c6_4 h0 h1) (.cons (c6_3 h0 h1) (.cons (c6_2 h0 h1) (ho))))))) 3))))))))))) 10) 10) 10) 10) 10) 10) 10) 10
noncomputable abbrev sa26 (ex:Int) (o:List (Bool×Bool)):List (Bool×Bool):=((!(leF (g3 ex) (g2 ex))),true)::((!(leF (g2 ex) 9)),true)::((!(leF 9 (g2 ex))),false)::((lowR (g3 ex) (g2 ex)),false)::(prL (g3 ex) (g2 ex))::((lowR 11 (g2 ex)),false)::(prL 11 (g2 ex))::((lowR 9 (g3 ex)),false)::o
theorem sa26_ok {ex:Int} (h0:0≤ex) (h1:ex<256) (k0:(lowR 9 (g3 ex))=false) (k1:(lowR 11 (g2 ex))=false) (k2:(lowR (g3 ex) (g2 ex))=false) {o:List (Bool×Bool)} (ho:OKs o):OKs (sa26 ex o):=.cons (c6_13 h0 h1) (.cons (c6_20 h0 h1) (.cons (c6_21 h0 h1) (.cons k2 (.cons (h119 (by rw [gv3 h0 h1];omega) (by rw [gv2 h0 h1];omega)) (.cons k1 (.cons (h119 (by decide) (by rw [gv2 h0 h1];omega)) (.cons k0 (ho))))))))
noncomputable abbrev sb27 (ex:Int) (o:List (Bool×Bool)):List (Bool×Bool):=rp 10 (eqF (g0 ex) (g1 ex)) false (rp 10 (eqF (g1 ex) (g1 ex)) true (rp 10 (eqF 2006 (g1 ex)) false (rp 10 (eqF (g0 ex) (g0 ex)) true (rp 10 (eqF (g1 ex) (g0 ex)) false (rp 10 (eqF 2006 (g0 ex)) false (rp 10 (eqF (g0 ex) 2006) false (rp 10 (eqF (g1 ex) 2006) false (((eqF (g0 ex) (g0 ex)),true)::((eqF (g1 ex) (g0 ex)),false)::((eqF 2006 (g0 ex)),false)::rp 2 (!(leF (g2 ex) (g2 ex))) false (((lowR (g2 ex) (g3 ex)),true)::(prL (g2 ex) (g3 ex))::((lowR (g3 ex) 9),true)::(prL (g3 ex) 9)::((lowR (g2 ex) 11),true)::(prL (g2 ex) 11)::rp 3 (eqF (g1 ex) 0) false (((eqF (g1 ex) (g1 ex)),true)::((eqF 2006 (g1 ex)),false)::((eqF (g0 ex) (g0 ex)),true)::((eqF (g1 ex) (g0 ex)),false)::((eqF 2006 (g0 ex)),false)::((eqF (g0 ex) 0),false)::o))))))))))
theorem sb27_ok {ex:Int} (h0:0≤ex) (h1:ex<256) (k0:(lowR 9 (g3 ex))=false) (k1:(lowR 11 (g2 ex))=false) (k2:(lowR (g3 ex) (g2 ex))=false) {o:List (Bool×Bool)} (ho:OKs o):OKs (sb27 ex o):=rp_ok (c6_10 h0 h1) (rp_ok (eqF_self _) (rp_ok (c6_5 h0 h1) (rp_ok (eqF_self _) (rp_ok (c6_4 h0 h1) (rp_ok (c6_3 h0 h1) (rp_ok (c6_9 h0 h1) (rp_ok (c6_8 h0 h1) (.cons (eqF_self _) (.cons (c6_4 h0 h1) (.cons (c6_3 h0 h1) (rp_ok (c6_14 h0 h1) (.cons (lowA (by rw [gv2 h0 h1,gv3 h0 h1];omega) k2) (.cons (h119 (by rw [gv2 h0 h1];omega) (by rw [gv3 h0 h1];omega)) (.cons (lowA (by rw [gv3 h0 h1];omega) k0) (.cons (h119 (by rw [gv3 h0 h1];omega) (by decide)) (.cons (lowA (by rw [gv2 h0 h1];omega) k1) (.cons (h119 (by rw [gv2 h0 h1];omega) (by decide)) (rp_ok (c6_6 h0 h1) (.cons (eqF_self _) (.cons (c6_5 h0 h1) (.cons (eqF_self _) (.cons (c6_4 h0 h1) (.cons (c6_3 h0 h1) (.cons (c6_2 h0 h1) (ho))))))) 3))))))) 2)))) 10) 10) 10) 10) 10) 10) 10) 10
abbrev fl6_0:List (Nat×Bool):=(0,true)::(0,false)::(16,true)::(256,false)::(6,false)::(2,false)::(2,true)::(1,false)::(2,true)::rq 3 (0,false) ((1,false)::(0,false)::(0,true)::(5,true)::(21,false)::(2,false)::(2,true)::(116,false)::rq 9 (0,false) ((3,false)::rq 9 (0,false) ((44,false)::rq 9 (0,false) ((3,false)::rq 9 (0,false) ((3,true)::rq 9 (0,true) ((44,false)::rq 9 (0,false) ((3,true)::rq 9 (0,true) ((3,false)::rq 9 (0,false) ([])))))))))
abbrev fl6_1:List (Nat×Bool):=(0,false)::(0,true)::(279,false)::(6,false)::(2,false)::(2,true)::(1,false)::(2,true)::rq 3 (0,false) ((1,true)::rq 2 (0,false) ((5,true)::(131,false)::rq 9 (0,false) ((3,false)::rq 9 (0,false) ((44,false)::rq 9 (0,false) ((3,false)::rq 9 (0,false) ((3,true)::rq 9 (0,true) ((44,false)::rq 9 (0,false) ((3,true)::rq 9 (0,true) ((3,false)::rq 9 (0,false) ([]))))))))))
abbrev fl6_2:List (Nat×Bool):=rq 2 (0,false) ((5,false)::(0,true)::(9,true)::(256,false)::(6,false)::(2,false)::(2,true)::(1,false)::(2,true)::rq 3 (0,false) ((1,true)::(0,false)::(0,true)::(5,false)::(0,false)::(14,false)::(2,false)::(2,true)::(116,false)::rq 9 (0,false) ((3,false)::rq 9 (0,false) ((44,false)::rq 9 (0,false) ((3,false)::rq 9 (0,false) ((3,true)::rq 9 (0,true) ((44,false)::rq 9 (0,false) ((3,true)::rq 9 (0,true) ((3,false)::rq 9 (0,false) ([]))))))))))
abbrev fl6_3:List (Nat×Bool):=rq 2 (0,true) ((5,false)::(0,true)::(9,false)::(0,false)::(268,false)::(6,false)::(2,false)::(2,true)::(1,false)::(2,true)::rq 3 (0,false) ((1,false)::(0,true)::(0,false)::(5,false)::(0,true)::(9,false)::(0,true)::(121,false)::rq 9 (0,false) ((3,false)::rq 9 (0,false) ((44,false)::rq 9 (0,false) ((3,false)::rq 9 (0,false) ((3,true)::rq 9 (0,true) ((44,false)::rq 9 (0,false) ((3,true)::rq 9 (0,true) ((3,false)::rq 9 (0,false) ([]))))))))))
abbrev fl6_4:List (Nat×Bool):=(0,true)::(0,false)::(16,true)::(256,false)::(6,false)::(2,false)::(2,true)::(1,false)::(2,true)::rq 3 (0,false) ((1,false)::rq 2 (0,true) ((5,true)::(21,false)::(2,false)::(2,true)::(116,false)::rq 9 (0,false) ((3,false)::rq 9 (0,false) ((44,false)::rq 9 (0,false) ((3,false)::rq 9 (0,false) ((3,true)::rq 9 (0,true) ((44,false)::rq 9 (0,false) ((3,true)::rq 9 (0,true) ((3,false)::rq 9 (0,false) ([]))))))))))
abbrev fl6_5:List (Nat×Bool):=(0,false)::(0,true)::(5,false)::(0,true)::(9,false)::(0,false)::(268,false)::(6,false)::(2,false)::(2,true)::(1,false)::(2,true)::rq 3 (0,false) ((1,true)::(0,true)::(0,false)::(5,false)::(0,true)::(9,false)::(0,true)::(121,false)::rq 9 (0,false) ((3,false)::rq 9 (0,false) ((44,false)::rq 9 (0,false) ((3,false)::rq 9 (0,false) ((3,true)::rq 9 (0,true) ((44,false)::rq 9 (0,false) ((3,true)::rq 9 (0,true) ((3,false)::rq 9 (0,false) ([])))))))))
abbrev fl6_6:List (Nat×Bool):=rq 2 (0,false) ((5,false)::(0,true)::(9,true)::(256,false)::(6,false)::(2,false)::(2,true)::(1,false)::(2,true)::rq 3 (0,false) ((1,true)::rq 2 (0,true) ((5,false)::(0,false)::(14,false)::(2,false)::(2,true)::(116,false)::rq 9 (0,false) ((3,false)::rq 9 (0,false) ((44,false)::rq 9 (0,false) ((3,false)::rq 9 (0,false) ((3,true)::rq 9 (0,true) ((44,false)::rq 9 (0,false) ((3,true)::rq 9 (0,true) ((3,false)::rq 9 (0,false) ([])))))))))))
abbrev fl6_7:List (Nat×Bool):=rq 2 (0,true) ((279,false)::(6,false)::(2,false)::(2,true)::(1,false)::(2,true)::rq 3 (0,false) ((1,false)::rq 2 (0,false) ((5,true)::(131,false)::rq 9 (0,false) ((3,false)::rq 9 (0,false) ((44,false)::rq 9 (0,false) ((3,false)::rq 9 (0,false) ((3,true)::rq 9 (0,true) ((44,false)::rq 9 (0,false) ((3,true)::rq 9 (0,true) ((3,false)::rq 9 (0,false) ([])))))))))))
abbrev w6_0:List D:=(M 2 1048580)
abbrev w6_1:List D:=(M 2 1048581)
abbrev w6_2:List (List D):=[R 6 1 [(M 2 4),w6_0,R 5 0 [(M 2 5),w6_1]],N 1003,N 2003]
abbrev w6_3:List D:=(R 3 0 [(N 1),N 31])
abbrev w6_4:List D:=(R 3 0 [(N 2),N 31,R 4 0 [(M 2 5)]])
abbrev w6_5:List D:=(R 3 0 [(N 3),M 2 4])
abbrev w6_6:List D:=(R 6 8 [(N 1003),N 1])
abbrev w6_7:List D:=(R 6 8 [(N 1003),N 2])
abbrev w6_8:List D:=(R 3 0 [(N 7),w6_6,w6_7])
abbrev w6_9:List (List D):=[N 34,N 1003,N 0,N 2,N 0,R 3 0 [w6_3,w6_4,w6_5,w6_8]]
abbrev w6_10:List D:=(R 4 0 [w6_1])
abbrev w6_11:List D:=(R 3 0 [(N 3),w6_0])
abbrev w6_12:List D:=(R 3 0 [(N 7),w6_7,w6_6])
abbrev w6_13:List (List D):=[N 34,N 1003,N 2003,N 1,N 0,R 3 0 [w6_3,R 3 0 [(N 2),N 31,w6_10],w6_11,w6_12]]
abbrev w6_14:List D:=[I 6,I 3,.sl w6_2]
abbrev w6_15 (v:VaT):List (List D):=[N 11,N v.mf,N v.mh,N v.c1,N v.mf,N v.mh,N v.d1,N v.mf,N v.mh,N v.c0,N v.mf,N v.mh,N v.d0,N v.q0,N v.q1,N v.t0,N v.t1,N v.k0,N v.k1]
abbrev w6_16 (v:VaT) (t:ByteArray):List D:=[I 3,I 0,.sl ((w6_15 v)++(bR t))]
abbrev w6_17 (v:VaT) (t:ByteArray):List (List D):=[R 3 0 [(N 10),N 1009],(w6_16 v t),R 3 0 [(N 3),M 2 10]]
abbrev w6_18 (v:VaT) (t:ByteArray):List (List D):=[N 36,N 1003,N 2003,N 3,N 0,R 7 0 [w6_14,R 3 0 [(N 36),N 1003,N 2003,N 3,N 0,[I 3,I 0,.sl (w6_17 v t)]]]]
abbrev w6_19 (v:VaT) (t:ByteArray):List (List D):=[[I 1003,I 2003,B true,I 3,I 1,I 2,I 6,I 2,.sl w6_2,I 6,I 3,.sl w6_2,I 6,I 4,.sl w6_2,I 2,I 4,.sl [],I 2,I 1048580,.sl [],I 3,I 0,.sl w6_9,I 3,I 0,.sl w6_13,I 3,I 1,I 0,I 0,I 0,I 0,.sl [],I 0,I 0,I 0,I 0,I 0,.sl [],I 0,I 0,.sl [],I 0,I 0,I 0,I 0,U 0,U 0,I 0,U 0,U 0,I 0,U 0,U 0,I 0,U 0,U 0,I 0,I 0,I 0,I 0,I 0,I 0,I 0,I 0,.sl [],.sl [],I 0,I 3,I 0,.sl (w6_18 v t),I 0,I 0,I 0,I 0,I 0,B false,I 0,B false,I 0]]
abbrev w6_20:List D:=[I 6,I 2,.sl w6_2]
abbrev w6_21:List (List D):=[w6_20,M 2 4,w6_0]
abbrev w6_22 (v:VaT) (ri:Int):List D:=[I 1006,I 2006,I 1003,I ri,I v.mf,U v.mh,U v.c1,I v.mf,U v.mh,U v.d1,I v.mf,U v.mh,U v.c0,I v.mf,U v.mh,U v.d0,I v.q0,I v.q1,I v.t0,I v.t1,I v.k0,I v.k1,I 6,I 6,.sl w6_21,I 6,I 5,.sl w6_21,B true,I 2,I 4,.sl [],I 2,I 1048580,.sl [],I 2,I 0,I 6,U 0,.sl [[U 0]],I 0,I 1009]
abbrev w6_23 (ex:Int):List D:=[I 2,I (g2 ex),.sl []]
abbrev w6_24 (ex:Int):List (List D):=[w6_20,(w6_23 ex),M 2 10]
abbrev w6_25 (v:VaT) (ri:Int) (ex:Int):List D:=[I 1009,I (g0 ex),I 1003,I ri,I v.mf,U v.mh,U v.c1,I v.mf,U v.mh,U v.d1,I v.mf,U v.mh,U v.c0,I v.mf,U v.mh,U v.d0,I v.q0,I v.q1,I v.t0,I v.t1,I v.k0,I v.k1,I 6,I 5,.sl (w6_24 ex),I 6,I 6,.sl (w6_24 ex),B false,I 2,I 10,.sl [],I 2,I (g2 ex),.sl [],I 1,I 0,I 6,U 0,.sl [[U 0]],I 0,I 0]
abbrev w6_26 (v:VaT) (ri:Int) (ex:Int):List (List D):=[(w6_22 v ri),(w6_25 v ri ex)]
abbrev w6_27:List D:=(M 2 1048578)
abbrev w6_28:List (List D):=[w6_27,R 3 0 [w6_20,N 0,N 40]]
abbrev w6_29:List (List D):=[[I 7,I 0,.sl w6_28,I 6,I 2,.sl w6_2]]
abbrev w6_30 (v:VaT):List (List D):=[N 11,N v.mf,N v.mh,N v.c0,N v.mf,N v.mh,N v.d0,N v.mf,N v.mh,N v.c1,N v.mf,N v.mh,N v.d1,N v.q0,N v.q1,N v.k0,N v.k1,N v.t0,N v.t1]
abbrev w6_31 (v:VaT) (t:ByteArray):List D:=[I 3,I 0,.sl ((w6_30 v)++(bR t))]
abbrev w6_32 (ex:Int):List D:=[I 2,I (g3 ex),.sl []]
abbrev w6_33 (v:VaT) (ex:Int) (t:ByteArray):List (List D):=[R 3 0 [(N 10),[I 1,I (g1 ex),.sl []]],(w6_31 v t),R 3 0 [(N 3),(w6_32 ex)]]
abbrev w6_34 (v:VaT) (t:ByteArray):List (List D):=[R 3 0 [(N 13),N 1006],R 3 0 [(N 10),N 1007],(w6_16 v t),R 3 0 [(N 3),M 2 8]]
abbrev w6_35 (v:VaT) (t:ByteArray):List (List D):=[N 36,N 1003,N 2003,N 2,N 2,R 7 0 [w6_14,R 3 0 [(N 36),N 1003,N 2003,N 2,N 2,[I 3,I 0,.sl (w6_34 v t)]]]]
abbrev w6_36 (v:VaT) (ri:Int) (t:ByteArray):List V:=[A 4,A 2,A 3,A 0,E (w6_35 v t),A 2,A 1,A 2,A 2,A 8,Z,A 0,A 0,Z,A 1007,A 1006,A ri,A v.mf,C v.mh,C v.c1,A v.mf,C v.mh,C v.d1,A v.mf,C v.mh,C v.c0,A v.mf,C v.mh,C v.d0,A v.q0,A v.q1,A v.t0,A v.t1,A v.k0,A v.k1,A 0,A 0,Z,Z]
abbrev w6_37:List V:=[A 2,A 8,Z]
abbrev w6_38 (ex:Int):List V:=[A 2,.d (I (g3 ex)),Z]
abbrev w6_39 (v:VaT) (Ra:List (List D)) (ri:Int) (ex:Int) (t:ByteArray):List V:=[.agg [A 0,A 1,A 1,A 2,E Ra,E [[I 31]],A 0,A 10,A 2,A 1,Z,A 2,A 2,Z,A 0,Z,E (w6_19 v t),E (w6_26 v ri ex),E w6_29],A 1003,E (w6_33 v ex t),.agg (w6_36 v ri t),.agg w6_37,.agg (w6_38 ex)]
abbrev w6_40 (ex:Int):List (List D):=[w6_20,M 2 8,(w6_32 ex)]
abbrev w6_41 (v:VaT) (ri:Int) (ex:Int):List (List D):=[(w6_22 v ri),(w6_25 v ri ex),[I 1007,I (g1 ex),I 1003,I ri,I v.mf,U v.mh,U v.c1,I v.mf,U v.mh,U v.d1,I v.mf,U v.mh,U v.c0,I v.mf,U v.mh,U v.d0,I v.q0,I v.q1,I v.t0,I v.t1,I v.k0,I v.k1,I 6,I 6,.sl (w6_40 ex),I 6,I 5,.sl (w6_40 ex),B true,I 2,I 8,.sl [],I 2,I (g3 ex),.sl [],I 1,I 0,I 6,U 0,.sl [[U 0]],I 0,I 0]]
abbrev w6_42 (v:VaT) (Ra:List (List D)) (ri:Int) (ex:Int) (t:ByteArray):List V:=[.agg [A 0,A 1,A 1,A 2,E Ra,E [[I 31]],A 0,A 10,A 2,A 1,Z,A 2,A 2,Z,A 0,Z,E (w6_19 v t),E (w6_41 v ri ex),E w6_29],A 1007,.d (B true)]
abbrev w6_43 (v:VaT):List V:=[A v.mf,C v.mh,C v.c0,A v.mf,C v.mh,C v.d0,A v.mf,C v.mh,C v.c1,A v.mf,C v.mh,C v.d1,A v.q0,A v.q1,A v.k0,A v.k1,A v.t0,A v.t1]
abbrev w6_44 (v:VaT) (t:ByteArray):List V:=[.agg (w6_43 v),.d (.lit (.string t))]
abbrev w6_45 (v:VaT) (t:ByteArray):List V:=[A 3,A 0,E ((w6_30 v)++(bR t))]
abbrev w6_46:List D:=[I 6,I 4,.sl w6_2]
abbrev w6_47 (v:VaT) (ex:Int) (t:ByteArray):List (List D):=[R 3 0 [(N 13),N 2006],R 3 0 [(N 10),[I 1,I (g0 ex),.sl []]],(w6_31 v t),R 3 0 [(N 3),(w6_23 ex)]]
abbrev w6_48 (v:VaT) (ex:Int) (t:ByteArray):List D:=(R 3 0 [(N 36),N 1003,N 2003,N 0,N 0,[I 3,I 0,.sl (w6_47 v ex t)]])
abbrev w6_49 (v:VaT) (ex:Int) (t:ByteArray):List (List D):=[N 36,N 1003,N 2003,N 0,N 0,R 7 0 [w6_46,(w6_48 v ex t)]]
abbrev w6_50:List D:=(R 3 0 [(N 8),N 1])
abbrev w6_51:List D:=(R 3 0 [(N 9),R 8 1 [(R 3 0 [[I 3,I 0,.sl w6_13],M 2 4,N 1])]])
abbrev w6_52:List D:=(R 3 0 [(N 10),N 2006])
abbrev w6_53 (v:VaT) (t:ByteArray):List D:=[I 3,I 0,.sl ((w6_30 v)++([]++(bR t)))]
abbrev w6_54 (v:VaT) (t:ByteArray):List (List D):=[N 35,N 1003,N 2003,N 1,N 1,R 7 0 [w6_46,R 3 0 [(N 35),N 1003,N 2003,N 1,N 1,R 3 0 [w6_50,w6_51,w6_52,(w6_53 v t),R 3 0 [(N 18),[I 7,I 0,.sl w6_28]]]]]]
abbrev w6_55 (v:VaT) (ex:Int) (t:ByteArray):List V:=[A 1,A 0,A 2,A 1,E v.Rb,E [[I 31]],A 0,.d (I (g4 ex)),A 2,A 1048577,Z,A 2,A 1048578,Z,A 0,Z,E [[I 2003,I 1003,B false,I 3,I 2,I 1,I 6,I 2,.sl w6_2,I 6,I 4,.sl w6_2,I 6,I 3,.sl w6_2,I 2,I 1048580,.sl [],I 2,I 4,.sl [],I 3,I 0,.sl w6_9,I 3,I 0,.sl w6_13,I 1,I 2,I 4,I 0,I 3,I 0,.sl (w6_49 v ex t),I 1,I 1,I 2,I 2,I (g2 ex),.sl [],I 0,I 0,.sl [],I (g0 ex),I 2006,I v.rr,I v.mf,U v.mh,U v.c0,I v.mf,U v.mh,U v.d0,I v.mf,U v.mh,U v.c1,I v.mf,U v.mh,U v.d1,I v.q0,I v.q1,I v.k0,I v.k1,I v.t0,I v.t1,I 0,I 0,.sl [],.sl [],I 1,I 3,I 0,.sl (w6_54 v t),I 0,I 0,I 0,I 0,I 0,B false,I 0,B false,I 0]],.loc 12 0 2 42,Z]
abbrev w6_56 (v:VaT) (ex:Int) (t:ByteArray):List V:=[.agg (w6_55 v ex t),A v.rr]
abbrev w6_57 (v:VaT) (t:ByteArray):List V:=[A 36,A 1003,A 2003,.d (B false),.d (B true),A 2,E (w6_34 v t)]
abbrev w6_58:List V:=[A 0,A 0,A 0,A 0,Z,Z,A 0,A 0,A 0,A 0,Z,A 0,A 0,Z,A 0,Z,Z,Z,Z]
abbrev w6_59 (v:VaT):List V:=[A 2006,A 1006,A 2003,A v.rr,A v.mf,C v.mh,C v.c0,A v.mf,C v.mh,C v.d0,A v.mf,C v.mh,C v.c1,A v.mf,C v.mh,C v.d1,A v.q0,A v.q1,A v.k0,A v.k1,A v.t0,A v.t1,A 6,A 5,E w6_21,A 6,A 6,E w6_21,.d (B false),A 2,A 1048580,Z,A 2,A 4,Z,A 1,A 0,A 6,C 0,E [[U 0]],A 0,A 0]
abbrev w6_60 (v:VaT) (ex:Int):List V:=[.d (I (g1 ex)),A 1007,A 2003,A v.rr,A v.mf,C v.mh,C v.c0,A v.mf,C v.mh,C v.d0,A v.mf,C v.mh,C v.c1,A v.mf,C v.mh,C v.d1,A v.q0,A v.q1,A v.k0,A v.k1,A v.t0,A v.t1,A 6,A 5,E (w6_40 ex),A 6,A 6,E (w6_40 ex),.d (B false),A 2,.d (I (g3 ex)),Z,A 2,A 8,Z,A 1,A 0,A 6,C 0,E [[U 0]],A 0,A 0]
abbrev w6_61 (v:VaT) (ex:Int):List V:=[A 2006,A 1006,A 2003,A v.rr,A v.mf,C v.mh,C v.c0,A v.mf,C v.mh,C v.d0,A v.mf,C v.mh,C v.c1,A v.mf,C v.mh,C v.d1,A v.q0,A v.q1,A v.k0,A v.k1,A v.t0,A v.t1,A 6,A 5,E w6_21,A 6,A 6,E w6_21,.d (B false),A 2,A 1048580,Z,A 2,A 4,Z,A 2,A 0,A 6,C 0,E [[U 0]],A 0,.d (I (g1 ex)),.d (I (g1 ex)),A 1007,A 2003,A v.rr,A v.mf,C v.mh,C v.c0,A v.mf,C v.mh,C v.d0,A v.mf,C v.mh,C v.c1,A v.mf,C v.mh,C v.d1,A v.q0,A v.q1,A v.k0,A v.k1,A v.t0,A v.t1,A 6,A 5,E (w6_40 ex),A 6,A 6,E (w6_40 ex),.d (B false),A 2,.d (I (g3 ex)),Z,A 2,A 8,Z,A 1,A 0,A 6,C 0,E [[U 0]],A 0,A 0]
abbrev w6_62 (v:VaT) (ex:Int) (t:ByteArray):List (List V):=[(w6_55 v ex t),[A 2003],(w6_57 v t),[A 1],w6_58,w6_37,(w6_38 ex),(w6_59 v),(w6_55 v ex t),(w6_60 v ex),(w6_55 v ex t),[],(w6_61 v ex),(w6_55 v ex t),(w6_43 v)]
abbrev w6_63:List V:=[A 2,A 10,Z]
abbrev w6_64 (v:VaT):List V:=[A v.mf,C v.mh,C v.c1,A v.mf,C v.mh,C v.d1,A v.mf,C v.mh,C v.c0,A v.mf,C v.mh,C v.d0,A v.q0,A v.q1,A v.t0,A v.t1,A v.k0,A v.k1]
abbrev w6_65 (v:VaT) (t:ByteArray):List V:=[.agg (w6_64 v),.d (.lit (.string t))]
abbrev w6_66 (v:VaT) (t:ByteArray):List V:=[A 3,A 0,E ((w6_15 v)++(bR t))]
abbrev w6_67 (v:VaT) (Ra:List (List D)) (ri:Int) (t:ByteArray):List V:=[A 0,A 1,A 1,A 2,E Ra,E [[I 31]],A 0,A 10,A 2,A 1,Z,A 2,A 2,Z,A 0,Z,E [[I 1003,I 2003,B true,I 3,I 1,I 2,I 6,I 2,.sl w6_2,I 6,I 3,.sl w6_2,I 6,I 4,.sl w6_2,I 2,I 4,.sl [],I 2,I 1048580,.sl [],I 3,I 0,.sl w6_9,I 3,I 0,.sl w6_13,I 3,I 0,I 4,I 2,I 3,I 0,.sl (w6_35 v t),I 2,I 1,I 2,I 2,I 8,.sl [],I 0,I 0,.sl [],I 1007,I 1006,I ri,I v.mf,U v.mh,U v.c1,I v.mf,U v.mh,U v.d1,I v.mf,U v.mh,U v.c0,I v.mf,U v.mh,U v.d0,I v.q0,I v.q1,I v.t0,I v.t1,I v.k0,I v.k1,I 0,I 0,.sl [],.sl [],I (-1),I 0,I 0,.sl [],I 0,I 0,I 0,I 0,I 0,B false,I 0,B false,I 0]],.loc 12 0 2 42,E w6_29]
abbrev w6_68 (v:VaT) (Ra:List (List D)) (ri:Int) (t:ByteArray):List V:=[.agg (w6_67 v Ra ri t),A ri]
abbrev w6_69 (v:VaT) (ex:Int) (t:ByteArray):List V:=[A 36,A 1003,A 2003,.d (B false),.d (B false),A 0,E (w6_47 v ex t)]
abbrev w6_70 (ex:Int):List V:=[A 2,.d (I (g2 ex)),Z]
abbrev w6_71 (v:VaT) (ri:Int):List V:=[A 1006,A 2006,A 1003,A ri,A v.mf,C v.mh,C v.c1,A v.mf,C v.mh,C v.d1,A v.mf,C v.mh,C v.c0,A v.mf,C v.mh,C v.d0,A v.q0,A v.q1,A v.t0,A v.t1,A v.k0,A v.k1,A 6,A 6,E w6_21,A 6,A 5,E w6_21,.d (B true),A 2,A 4,Z,A 2,A 1048580,Z,A 1,A 0,A 6,C 0,E [[U 0]],A 0,A 0]
abbrev w6_72 (v:VaT) (ri:Int) (ex:Int):List V:=[A 1009,.d (I (g0 ex)),A 1003,A ri,A v.mf,C v.mh,C v.c1,A v.mf,C v.mh,C v.d1,A v.mf,C v.mh,C v.c0,A v.mf,C v.mh,C v.d0,A v.q0,A v.q1,A v.t0,A v.t1,A v.k0,A v.k1,A 6,A 5,E (w6_24 ex),A 6,A 6,E (w6_24 ex),.d (B false),A 2,A 10,Z,A 2,.d (I (g2 ex)),Z,A 1,A 0,A 6,C 0,E [[U 0]],A 0,A 0]
abbrev w6_73 (v:VaT) (ri:Int) (ex:Int):List V:=[A 1006,A 2006,A 1003,A ri,A v.mf,C v.mh,C v.c1,A v.mf,C v.mh,C v.d1,A v.mf,C v.mh,C v.c0,A v.mf,C v.mh,C v.d0,A v.q0,A v.q1,A v.t0,A v.t1,A v.k0,A v.k1,A 6,A 6,E w6_21,A 6,A 5,E w6_21,.d (B true),A 2,A 4,Z,A 2,A 1048580,Z,A 2,A 0,A 6,C 0,E [[U 0]],A 0,A 1009,A 1009,.d (I (g0 ex)),A 1003,A ri,A v.mf,C v.mh,C v.c1,A v.mf,C v.mh,C v.d1,A v.mf,C v.mh,C v.c0,A v.mf,C v.mh,C v.d0,A v.q0,A v.q1,A v.t0,A v.t1,A v.k0,A v.k1,A 6,A 5,E (w6_24 ex),A 6,A 6,E (w6_24 ex),.d (B false),A 2,A 10,Z,A 2,.d (I (g2 ex)),Z,A 1,A 0,A 6,C 0,E [[U 0]],A 0,A 0]
abbrev w6_74 (v:VaT) (Ra:List (List D)) (ri:Int) (ex:Int) (t:ByteArray):List (List V):=[(w6_67 v Ra ri t),[A 1003],(w6_69 v ex t),[A 2],w6_58,(w6_70 ex),w6_63,(w6_71 v ri),(w6_67 v Ra ri t),(w6_72 v ri ex),(w6_67 v Ra ri t),[],(w6_73 v ri ex),(w6_67 v Ra ri t),(w6_64 v)]
abbrev w6_75 (v:VaT):List (List D):=[[I 2006,I 1006,I 2003,I v.rr,I v.mf,U v.mh,U v.c0,I v.mf,U v.mh,U v.d0,I v.mf,U v.mh,U v.c1,I v.mf,U v.mh,U v.d1,I v.q0,I v.q1,I v.k0,I v.k1,I v.t0,I v.t1,I 6,I 5,.sl w6_21,I 6,I 6,.sl w6_21,B false,I 2,I 1048580,.sl [],I 2,I 4,.sl [],I 1,I 0,I 6,U 0,.sl [[U 0]],I 0,I 0]]
abbrev w6_76 (v:VaT) (ex:Int) (t:ByteArray):List V:=[.agg [A 1,A 0,A 2,A 1,E v.Rb,E [[I 31]],A 0,.d (I (g5 ex)),A 2,A 1048577,Z,A 2,A 1048578,Z,A 0,Z,E [[I 2003,I 1003,B false,I 3,I 2,I 1,I 6,I 2,.sl w6_2,I 6,I 4,.sl w6_2,I 6,I 3,.sl w6_2,I 2,I 1048580,.sl [],I 2,I 4,.sl [],I 3,I 0,.sl w6_9,I 3,I 0,.sl w6_13,I 0,I 2,I 0,I 0,I 0,I 0,.sl [],I 0,I 0,I 0,I 0,I 0,.sl [],I 0,I 0,.sl [],I 0,I 0,I 0,I 0,U 0,U 0,I 0,U 0,U 0,I 0,U 0,U 0,I 0,U 0,U 0,I 0,I 0,I 0,I 0,I 0,I 0,I 0,I 0,.sl [],.sl [],I 1,I 3,I 0,.sl (w6_54 v t),I 0,I 0,I 0,I 0,I 0,B false,I 0,B false,I 0]],E (w6_75 v),Z],A v.rr]
abbrev w6_77 (v:VaT) (ri:Int):List (List D):=[[I 1006,I 2006,I 1003,I ri,I v.mf,U v.mh,U v.c1,I v.mf,U v.mh,U v.d1,I v.mf,U v.mh,U v.c0,I v.mf,U v.mh,U v.d0,I v.q0,I v.q1,I v.t0,I v.t1,I v.k0,I v.k1,I 6,I 6,.sl w6_21,I 6,I 5,.sl w6_21,B true,I 2,I 4,.sl [],I 2,I 1048580,.sl [],I 1,I 0,I 6,U 0,.sl [[U 0]],I 0,I 0]]
abbrev w6_78 (v:VaT) (Ra:List (List D)) (ri:Int):List V:=[.agg [A 0,A 1,A 1,A 2,E Ra,E [[I 31]],A 0,A 8,A 2,A 1,Z,A 2,A 2,Z,A 0,Z,E [[I 1003,I 2003,B true,I 3,I 1,I 2,I 6,I 2,.sl w6_2,I 6,I 3,.sl w6_2,I 6,I 4,.sl w6_2,I 2,I 4,.sl [],I 2,I 1048580,.sl [],I 3,I 0,.sl w6_9,I 3,I 0,.sl w6_13,I 2,I 0,I 0,I 0,I 0,I 0,.sl [],I 0,I 0,I 0,I 0,I 0,.sl [],I 0,I 0,.sl [],I 0,I 0,I 0,I 0,U 0,U 0,I 0,U 0,U 0,I 0,U 0,U 0,I 0,U 0,U 0,I 0,I 0,I 0,I 0,I 0,I 0,I 0,I 0,.sl [],.sl [],I (-1),I 0,I 0,.sl [],I 0,I 0,I 0,I 0,I 0,B false,I 0,B false,I 0]],E (w6_77 v ri),E w6_29],A ri]
abbrev w6_79 (v:VaT):List V:=[E v.X,A 120]
abbrev w6_80 (v:VaT):List (List V):=[[.sl 1 v.R (.own 0 0),A 0]]
abbrev w6_81 (v:VaT) (ex:Int) (t:ByteArray):List D:=(R 3 0 [(N 36),N 1003,N 2003,N 1,N 2,[I 3,I 0,.sl (w6_33 v ex t)]])
abbrev w6_82 (v:VaT) (ex:Int) (t:ByteArray):List (List D):=[N 36,N 1003,N 2003,N 1,N 2,R 7 0 [w6_46,(w6_81 v ex t)]]
abbrev w6_83 (v:VaT) (ex:Int) (t:ByteArray):List (List D):=[[I 2003,I 1003,B false,I 3,I 2,I 1,I 6,I 2,.sl w6_2,I 6,I 4,.sl w6_2,I 6,I 3,.sl w6_2,I 2,I 1048580,.sl [],I 2,I 4,.sl [],I 3,I 0,.sl w6_9,I 3,I 0,.sl w6_13,I 1,I 3,I 0,I 0,I 0,I 0,.sl [],I 0,I 0,I 0,I 0,I 0,.sl [],I 0,I 0,.sl [],I 0,I 0,I 0,I 0,U 0,U 0,I 0,U 0,U 0,I 0,U 0,U 0,I 0,U 0,U 0,I 0,I 0,I 0,I 0,I 0,I 0,I 0,I 0,.sl [],.sl [],I 2,I 3,I 0,.sl (w6_82 v ex t),I 0,I 0,I 0,I 0,I 0,B false,I 0,B false,I 0]]
abbrev w6_84 (v:VaT) (ex:Int):List D:=[I 2006,I 1006,I 2003,I v.rr,I v.mf,U v.mh,U v.c0,I v.mf,U v.mh,U v.d0,I v.mf,U v.mh,U v.c1,I v.mf,U v.mh,U v.d1,I v.q0,I v.q1,I v.k0,I v.k1,I v.t0,I v.t1,I 6,I 5,.sl w6_21,I 6,I 6,.sl w6_21,B false,I 2,I 1048580,.sl [],I 2,I 4,.sl [],I 2,I 0,I 6,U 0,.sl [[U 0]],I 0,I (g1 ex)]
abbrev w6_85 (v:VaT) (ex:Int):List D:=[I (g1 ex),I 1007,I 2003,I v.rr,I v.mf,U v.mh,U v.c0,I v.mf,U v.mh,U v.d0,I v.mf,U v.mh,U v.c1,I v.mf,U v.mh,U v.d1,I v.q0,I v.q1,I v.k0,I v.k1,I v.t0,I v.t1,I 6,I 5,.sl (w6_40 ex),I 6,I 6,.sl (w6_40 ex),B false,I 2,I (g3 ex),.sl [],I 2,I 8,.sl [],I 1,I 0,I 6,U 0,.sl [[U 0]],I 0,I 0]
abbrev w6_86 (v:VaT) (ex:Int):List (List D):=[(w6_84 v ex),(w6_85 v ex)]
abbrev w6_87 (v:VaT) (ex:Int) (t:ByteArray):List V:=[A 4,A 0,A 3,A 0,E (w6_49 v ex t),A 1,A 1,A 2,A 2,.d (I (g2 ex)),Z,A 0,A 0,Z,.d (I (g0 ex)),A 2006,A v.rr,A v.mf,C v.mh,C v.c0,A v.mf,C v.mh,C v.d0,A v.mf,C v.mh,C v.c1,A v.mf,C v.mh,C v.d1,A v.q0,A v.q1,A v.k0,A v.k1,A v.t0,A v.t1,A 0,A 0,Z,Z]
abbrev w6_88 (v:VaT) (ex:Int) (t:ByteArray):List V:=[.agg [A 1,A 0,A 2,A 1,E v.Rb,E [[I 31]],A 0,.d (I (g4 ex)),A 2,A 1048577,Z,A 2,A 1048578,Z,A 0,Z,E (w6_83 v ex t),E (w6_86 v ex),Z],A 2003,E (w6_17 v t),.agg (w6_87 v ex t),.agg (w6_70 ex),.agg w6_63]
abbrev w6_89 (v:VaT) (ex:Int):List (List D):=[(w6_84 v ex),(w6_85 v ex),[I (g0 ex),I 1009,I 2003,I v.rr,I v.mf,U v.mh,U v.c0,I v.mf,U v.mh,U v.d0,I v.mf,U v.mh,U v.c1,I v.mf,U v.mh,U v.d1,I v.q0,I v.q1,I v.k0,I v.k1,I v.t0,I v.t1,I 6,I 6,.sl (w6_24 ex),I 6,I 5,.sl (w6_24 ex),B true,I 2,I (g2 ex),.sl [],I 2,I 10,.sl [],I 1,I 0,I 6,U 0,.sl [[U 0]],I 0,I 0]]
abbrev w6_90 (v:VaT) (ex:Int) (t:ByteArray):List V:=[.agg [A 1,A 0,A 2,A 1,E v.Rb,E [[I 31]],A 0,.d (I (g4 ex)),A 2,A 1048577,Z,A 2,A 1048578,Z,A 0,Z,E (w6_83 v ex t),E (w6_89 v ex),Z],.d (I (g0 ex)),.d (B true)]
abbrev w6_91:List D:=(R 3 0 [(N 1),N 31,N 1024])
abbrev w6_92:List (List D):=[N 34,N 1003,N 0,N 2,N 0,R 3 0 [w6_91,w6_4,w6_5,w6_8]]
abbrev w6_93 (v:VaT) (t:ByteArray):List (List D):=[[I 1003,I 2003,B true,I 3,I 1,I 2,I 6,I 2,.sl w6_2,I 6,I 3,.sl w6_2,I 6,I 4,.sl w6_2,I 2,I 4,.sl [],I 2,I 1048580,.sl [],I 3,I 0,.sl w6_92,I 3,I 0,.sl w6_13,I 3,I 1,I 0,I 0,I 0,I 0,.sl [],I 0,I 0,I 0,I 0,I 0,.sl [],I 0,I 0,.sl [],I 0,I 0,I 0,I 0,U 0,U 0,I 0,U 0,U 0,I 0,U 0,U 0,I 0,U 0,U 0,I 0,I 0,I 0,I 0,I 0,I 0,I 0,I 0,.sl [],.sl [],I 0,I 3,I 0,.sl (w6_18 v t),I 0,I 0,I 0,I 0,I 0,B false,I 0,B false,I 0]]
abbrev w6_94 (v:VaT) (Ra:List (List D)) (ri:Int) (ex:Int) (t:ByteArray):List V:=[.agg [A 0,A 1,A 1,A 2,E Ra,E [[I 31],[I 1024]],A 0,A 10,A 2,A 1,Z,A 2,A 2,Z,A 0,Z,E (w6_93 v t),E (w6_26 v ri ex),E w6_29],A 1003,E (w6_33 v ex t),.agg (w6_36 v ri t),.agg w6_37,.agg (w6_38 ex)]
abbrev w6_95 (v:VaT) (Ra:List (List D)) (ri:Int) (ex:Int) (t:ByteArray):List V:=[.agg [A 0,A 1,A 1,A 2,E Ra,E [[I 31],[I 1024]],A 0,A 10,A 2,A 1,Z,A 2,A 2,Z,A 0,Z,E (w6_93 v t),E (w6_41 v ri ex),E w6_29],A 1007,.d (B true)]
abbrev w6_96 (v:VaT) (ex:Int) (t:ByteArray):List (List D):=[[I 2003,I 1003,B false,I 3,I 2,I 1,I 6,I 2,.sl w6_2,I 6,I 4,.sl w6_2,I 6,I 3,.sl w6_2,I 2,I 1048580,.sl [],I 2,I 4,.sl [],I 3,I 0,.sl w6_92,I 3,I 0,.sl w6_13,I 1,I 2,I 4,I 0,I 3,I 0,.sl (w6_49 v ex t),I 1,I 1,I 2,I 2,I (g2 ex),.sl [],I 0,I 0,.sl [],I (g0 ex),I 2006,I v.rr,I v.mf,U v.mh,U v.c0,I v.mf,U v.mh,U v.d0,I v.mf,U v.mh,U v.c1,I v.mf,U v.mh,U v.d1,I v.q0,I v.q1,I v.k0,I v.k1,I v.t0,I v.t1,I 0,I 0,.sl [],.sl [],I 1,I 3,I 0,.sl (w6_54 v t),I 0,I 0,I 0,I 0,I 0,B false,I 0,B false,I 0]]
abbrev w6_97 (v:VaT) (ex:Int) (t:ByteArray):List V:=[A 1,A 0,A 2,A 1,E v.Rb,E [[I 31],[I 1024]],A 0,.d (I (g4 ex)),A 2,A 1048577,Z,A 2,A 1048578,Z,A 0,Z,E (w6_96 v ex t),.loc 12 0 2 42,Z]
abbrev w6_98 (v:VaT) (ex:Int) (t:ByteArray):List V:=[.agg (w6_97 v ex t),A v.rr]
abbrev w6_99 (v:VaT) (ex:Int) (t:ByteArray):List (List V):=[(w6_97 v ex t),[A 2003],(w6_57 v t),[A 1],w6_58,w6_37,(w6_38 ex),(w6_59 v),(w6_97 v ex t),(w6_60 v ex),(w6_97 v ex t),[],(w6_61 v ex),(w6_97 v ex t),(w6_43 v)]
abbrev w6_100 (v:VaT) (Ra:List (List D)) (ri:Int) (t:ByteArray):List V:=[A 0,A 1,A 1,A 2,E Ra,E [[I 31],[I 1024]],A 0,A 10,A 2,A 1,Z,A 2,A 2,Z,A 0,Z,E [[I 1003,I 2003,B true,I 3,I 1,I 2,I 6,I 2,.sl w6_2,I 6,I 3,.sl w6_2,I 6,I 4,.sl w6_2,I 2,I 4,.sl [],I 2,I 1048580,.sl [],I 3,I 0,.sl w6_92,I 3,I 0,.sl w6_13,I 3,I 0,I 4,I 2,I 3,I 0,.sl (w6_35 v t),I 2,I 1,I 2,I 2,I 8,.sl [],I 0,I 0,.sl [],I 1007,I 1006,I ri,I v.mf,U v.mh,U v.c1,I v.mf,U v.mh,U v.d1,I v.mf,U v.mh,U v.c0,I v.mf,U v.mh,U v.d0,I v.q0,I v.q1,I v.t0,I v.t1,I v.k0,I v.k1,I 0,I 0,.sl [],.sl [],I (-1),I 0,I 0,.sl [],I 0,I 0,I 0,I 0,I 0,B false,I 0,B false,I 0]],.loc 12 0 2 42,E w6_29]
abbrev w6_101 (v:VaT) (Ra:List (List D)) (ri:Int) (t:ByteArray):List V:=[.agg (w6_100 v Ra ri t),A ri]
abbrev w6_102 (v:VaT) (Ra:List (List D)) (ri:Int) (ex:Int) (t:ByteArray):List (List V):=[(w6_100 v Ra ri t),[A 1003],(w6_69 v ex t),[A 2],w6_58,(w6_70 ex),w6_63,(w6_71 v ri),(w6_100 v Ra ri t),(w6_72 v ri ex),(w6_100 v Ra ri t),[],(w6_73 v ri ex),(w6_100 v Ra ri t),(w6_64 v)]
abbrev w6_103 (v:VaT) (t:ByteArray):List (List D):=[[I 2003,I 1003,B false,I 3,I 2,I 1,I 6,I 2,.sl w6_2,I 6,I 4,.sl w6_2,I 6,I 3,.sl w6_2,I 2,I 1048580,.sl [],I 2,I 4,.sl [],I 3,I 0,.sl w6_92,I 3,I 0,.sl w6_13,I 0,I 2,I 0,I 0,I 0,I 0,.sl [],I 0,I 0,I 0,I 0,I 0,.sl [],I 0,I 0,.sl [],I 0,I 0,I 0,I 0,U 0,U 0,I 0,U 0,U 0,I 0,U 0,U 0,I 0,U 0,U 0,I 0,I 0,I 0,I 0,I 0,I 0,I 0,I 0,.sl [],.sl [],I 1,I 3,I 0,.sl (w6_54 v t),I 0,I 0,I 0,I 0,I 0,B false,I 0,B false,I 0]]
abbrev w6_104 (v:VaT) (ex:Int) (t:ByteArray):List V:=[.agg [A 1,A 0,A 2,A 1,E v.Rb,E [[I 31],[I 1024]],A 0,.d (I (g5 ex)),A 2,A 1048577,Z,A 2,A 1048578,Z,A 0,Z,E (w6_103 v t),E (w6_75 v),Z],A v.rr]
abbrev w6_105 (v:VaT) (Ra:List (List D)) (ri:Int):List V:=[.agg [A 0,A 1,A 1,A 2,E Ra,E [[I 31],[I 1024]],A 0,A 8,A 2,A 1,Z,A 2,A 2,Z,A 0,Z,E [[I 1003,I 2003,B true,I 3,I 1,I 2,I 6,I 2,.sl w6_2,I 6,I 3,.sl w6_2,I 6,I 4,.sl w6_2,I 2,I 4,.sl [],I 2,I 1048580,.sl [],I 3,I 0,.sl w6_92,I 3,I 0,.sl w6_13,I 2,I 0,I 0,I 0,I 0,I 0,.sl [],I 0,I 0,I 0,I 0,I 0,.sl [],I 0,I 0,.sl [],I 0,I 0,I 0,I 0,U 0,U 0,I 0,U 0,U 0,I 0,U 0,U 0,I 0,U 0,U 0,I 0,I 0,I 0,I 0,I 0,I 0,I 0,I 0,.sl [],.sl [],I (-1),I 0,I 0,.sl [],I 0,I 0,I 0,I 0,I 0,B false,I 0,B false,I 0]],E (w6_77 v ri),E w6_29],A ri]
abbrev w6_106 (v:VaT) (ex:Int) (t:ByteArray):List (List D):=[[I 2003,I 1003,B false,I 3,I 2,I 1,I 6,I 2,.sl w6_2,I 6,I 4,.sl w6_2,I 6,I 3,.sl w6_2,I 2,I 1048580,.sl [],I 2,I 4,.sl [],I 3,I 0,.sl w6_92,I 3,I 0,.sl w6_13,I 1,I 3,I 0,I 0,I 0,I 0,.sl [],I 0,I 0,I 0,I 0,I 0,.sl [],I 0,I 0,.sl [],I 0,I 0,I 0,I 0,U 0,U 0,I 0,U 0,U 0,I 0,U 0,U 0,I 0,U 0,U 0,I 0,I 0,I 0,I 0,I 0,I 0,I 0,I 0,.sl [],.sl [],I 2,I 3,I 0,.sl (w6_82 v ex t),I 0,I 0,I 0,I 0,I 0,B false,I 0,B false,I 0]]
abbrev w6_107 (v:VaT) (ex:Int) (t:ByteArray):List V:=[.agg [A 1,A 0,A 2,A 1,E v.Rb,E [[I 31],[I 1024]],A 0,.d (I (g4 ex)),A 2,A 1048577,Z,A 2,A 1048578,Z,A 0,Z,E (w6_106 v ex t),E (w6_86 v ex),Z],A 2003,E (w6_17 v t),.agg (w6_87 v ex t),.agg (w6_70 ex),.agg w6_63]
abbrev w6_108 (v:VaT) (ex:Int) (t:ByteArray):List V:=[.agg [A 1,A 0,A 2,A 1,E v.Rb,E [[I 31],[I 1024]],A 0,.d (I (g4 ex)),A 2,A 1048577,Z,A 2,A 1048578,Z,A 0,Z,E (w6_106 v ex t),E (w6_89 v ex),Z],.d (I (g0 ex)),.d (B true)]
abbrev w6_109:List (List D):=[R 6 1 [(M 2 4),w6_0,R 5 0 [(M 2 6),w6_1]],N 1003,N 2003]
abbrev w6_110:List D:=(R 4 0 [(M 2 6)])
abbrev w6_111:List (List D):=[N 34,N 1003,N 0,N 2,N 0,R 3 0 [w6_91,R 3 0 [(N 2),N 1024,w6_110],w6_5,w6_8]]
abbrev w6_112:List (List D):=[N 34,N 1003,N 2003,N 1,N 0,R 3 0 [(R 3 0 [(N 1),N 1024]),R 3 0 [(N 2),N 1024,w6_10],w6_11,w6_12]]
abbrev w6_113:List D:=[I 6,I 3,.sl w6_109]
abbrev w6_114 (v:VaT) (t:ByteArray):List (List D):=[R 3 0 [(N 10),N 1010],(w6_16 v t),R 3 0 [(N 3),M 2 11]]
abbrev w6_115 (v:VaT) (t:ByteArray):List (List D):=[N 36,N 1003,N 2003,N 3,N 0,R 7 0 [w6_113,R 3 0 [(N 36),N 1003,N 2003,N 3,N 0,[I 3,I 0,.sl (w6_114 v t)]]]]
abbrev w6_116 (v:VaT) (t:ByteArray):List (List D):=[[I 1003,I 2003,B true,I 3,I 1,I 2,I 6,I 2,.sl w6_109,I 6,I 3,.sl w6_109,I 6,I 4,.sl w6_109,I 2,I 4,.sl [],I 2,I 1048580,.sl [],I 3,I 0,.sl w6_111,I 3,I 0,.sl w6_112,I 3,I 1,I 0,I 0,I 0,I 0,.sl [],I 0,I 0,I 0,I 0,I 0,.sl [],I 0,I 0,.sl [],I 0,I 0,I 0,I 0,U 0,U 0,I 0,U 0,U 0,I 0,U 0,U 0,I 0,U 0,U 0,I 0,I 0,I 0,I 0,I 0,I 0,I 0,I 0,.sl [],.sl [],I 0,I 3,I 0,.sl (w6_115 v t),I 0,I 0,I 0,I 0,I 1,B false,I 0,B false,I 0]]
abbrev w6_117:List D:=[I 6,I 2,.sl w6_109]
abbrev w6_118:List (List D):=[w6_117,M 2 4,w6_0]
abbrev w6_119 (v:VaT) (ri:Int):List D:=[I 1007,I 2006,I 1003,I ri,I v.mf,U v.mh,U v.c1,I v.mf,U v.mh,U v.d1,I v.mf,U v.mh,U v.c0,I v.mf,U v.mh,U v.d0,I v.q0,I v.q1,I v.t0,I v.t1,I v.k0,I v.k1,I 6,I 6,.sl w6_118,I 6,I 5,.sl w6_118,B true,I 2,I 4,.sl [],I 2,I 1048580,.sl [],I 2,I 0,I 6,U 0,.sl [[U 0]],I 0,I 1010]
abbrev w6_120 (ex:Int):List (List D):=[w6_117,(w6_23 ex),M 2 11]
abbrev w6_121 (v:VaT) (ri:Int) (ex:Int):List D:=[I 1010,I (g0 ex),I 1003,I ri,I v.mf,U v.mh,U v.c1,I v.mf,U v.mh,U v.d1,I v.mf,U v.mh,U v.c0,I v.mf,U v.mh,U v.d0,I v.q0,I v.q1,I v.t0,I v.t1,I v.k0,I v.k1,I 6,I 5,.sl (w6_120 ex),I 6,I 6,.sl (w6_120 ex),B false,I 2,I 11,.sl [],I 2,I (g2 ex),.sl [],I 1,I 0,I 6,U 0,.sl [[U 0]],I 0,I 0]
abbrev w6_122 (v:VaT) (ri:Int) (ex:Int):List (List D):=[(w6_119 v ri),(w6_121 v ri ex)]
abbrev w6_123:List (List D):=[w6_27,R 3 0 [w6_117,N 0,N 40]]
abbrev w6_124:List (List D):=[[I 7,I 0,.sl w6_123,I 6,I 2,.sl w6_109]]
abbrev w6_125 (v:VaT) (t:ByteArray):List (List D):=[R 3 0 [(N 13),N 1007],R 3 0 [(N 10),N 1008],(w6_16 v t),R 3 0 [(N 3),M 2 9]]
abbrev w6_126 (v:VaT) (t:ByteArray):List (List D):=[N 36,N 1003,N 2003,N 2,N 2,R 7 0 [w6_113,R 3 0 [(N 36),N 1003,N 2003,N 2,N 2,[I 3,I 0,.sl (w6_125 v t)]]]]
abbrev w6_127 (v:VaT) (ri:Int) (t:ByteArray):List V:=[A 4,A 2,A 3,A 0,E (w6_126 v t),A 2,A 1,A 2,A 2,A 9,Z,A 0,A 0,Z,A 1008,A 1007,A ri,A v.mf,C v.mh,C v.c1,A v.mf,C v.mh,C v.d1,A v.mf,C v.mh,C v.c0,A v.mf,C v.mh,C v.d0,A v.q0,A v.q1,A v.t0,A v.t1,A v.k0,A v.k1,A 0,A 0,Z,Z]
abbrev w6_128:List V:=[A 2,A 9,Z]
abbrev w6_129 (v:VaT) (Ra:List (List D)) (ri:Int) (ex:Int) (t:ByteArray):List V:=[.agg [A 0,A 1,A 1,A 2,E Ra,E [[I 31],[I 1024]],A 0,A 11,A 2,A 1,Z,A 2,A 2,Z,A 0,Z,E (w6_116 v t),E (w6_122 v ri ex),E w6_124],A 1003,E (w6_33 v ex t),.agg (w6_127 v ri t),.agg w6_128,.agg (w6_38 ex)]
abbrev w6_130 (ex:Int):List (List D):=[w6_117,M 2 9,(w6_32 ex)]
abbrev w6_131 (v:VaT) (ri:Int) (ex:Int):List (List D):=[(w6_119 v ri),(w6_121 v ri ex),[I 1008,I (g1 ex),I 1003,I ri,I v.mf,U v.mh,U v.c1,I v.mf,U v.mh,U v.d1,I v.mf,U v.mh,U v.c0,I v.mf,U v.mh,U v.d0,I v.q0,I v.q1,I v.t0,I v.t1,I v.k0,I v.k1,I 6,I 6,.sl (w6_130 ex),I 6,I 5,.sl (w6_130 ex),B true,I 2,I 9,.sl [],I 2,I (g3 ex),.sl [],I 1,I 0,I 6,U 0,.sl [[U 0]],I 0,I 0]]
abbrev w6_132 (v:VaT) (Ra:List (List D)) (ri:Int) (ex:Int) (t:ByteArray):List V:=[.agg [A 0,A 1,A 1,A 2,E Ra,E [[I 31],[I 1024]],A 0,A 11,A 2,A 1,Z,A 2,A 2,Z,A 0,Z,E (w6_116 v t),E (w6_131 v ri ex),E w6_124],A 1008,.d (B true)]
abbrev w6_133:List D:=[I 6,I 4,.sl w6_109]
abbrev w6_134 (v:VaT) (ex:Int) (t:ByteArray):List (List D):=[N 36,N 1003,N 2003,N 0,N 0,R 7 0 [w6_133,(w6_48 v ex t)]]
abbrev w6_135:List D:=(R 3 0 [(N 18),[I 7,I 0,.sl w6_123]])
abbrev w6_136 (v:VaT) (t:ByteArray):List (List D):=[N 35,N 1003,N 2003,N 1,N 1,R 7 0 [w6_133,R 3 0 [(N 35),N 1003,N 2003,N 1,N 1,R 3 0 [w6_50,R 3 0 [(N 9),R 8 1 [(R 3 0 [[I 3,I 0,.sl w6_112],M 2 4,N 1])]],w6_52,(w6_53 v t),w6_135]]]]
abbrev w6_137 (v:VaT) (ex:Int) (t:ByteArray):List V:=[A 1,A 0,A 2,A 1,E v.Rb,E [[I 1024],[I 31]],A 0,.d (I (g4 ex)),A 2,A 1048577,Z,A 2,A 1048578,Z,A 0,Z,E [[I 2003,I 1003,B false,I 3,I 2,I 1,I 6,I 2,.sl w6_109,I 6,I 4,.sl w6_109,I 6,I 3,.sl w6_109,I 2,I 1048580,.sl [],I 2,I 4,.sl [],I 3,I 0,.sl w6_111,I 3,I 0,.sl w6_112,I 1,I 2,I 4,I 0,I 3,I 0,.sl (w6_134 v ex t),I 1,I 1,I 2,I 2,I (g2 ex),.sl [],I 0,I 0,.sl [],I (g0 ex),I 2006,I v.rr,I v.mf,U v.mh,U v.c0,I v.mf,U v.mh,U v.d0,I v.mf,U v.mh,U v.c1,I v.mf,U v.mh,U v.d1,I v.q0,I v.q1,I v.k0,I v.k1,I v.t0,I v.t1,I 0,I 0,.sl [],.sl [],I 1,I 3,I 0,.sl (w6_136 v t),I 0,I 0,I 0,I 0,I 0,B false,I 0,B false,I 0]],.loc 12 0 2 42,Z]
abbrev w6_138 (v:VaT) (ex:Int) (t:ByteArray):List V:=[.agg (w6_137 v ex t),A v.rr]
abbrev w6_139 (v:VaT) (t:ByteArray):List V:=[A 36,A 1003,A 2003,.d (B false),.d (B true),A 2,E (w6_125 v t)]
abbrev w6_140 (v:VaT):List V:=[A 2006,A 1007,A 2003,A v.rr,A v.mf,C v.mh,C v.c0,A v.mf,C v.mh,C v.d0,A v.mf,C v.mh,C v.c1,A v.mf,C v.mh,C v.d1,A v.q0,A v.q1,A v.k0,A v.k1,A v.t0,A v.t1,A 6,A 5,E w6_118,A 6,A 6,E w6_118,.d (B false),A 2,A 1048580,Z,A 2,A 4,Z,A 1,A 0,A 6,C 0,E [[U 0]],A 0,A 0]
abbrev w6_141 (v:VaT) (ex:Int):List V:=[.d (I (g1 ex)),A 1008,A 2003,A v.rr,A v.mf,C v.mh,C v.c0,A v.mf,C v.mh,C v.d0,A v.mf,C v.mh,C v.c1,A v.mf,C v.mh,C v.d1,A v.q0,A v.q1,A v.k0,A v.k1,A v.t0,A v.t1,A 6,A 5,E (w6_130 ex),A 6,A 6,E (w6_130 ex),.d (B false),A 2,.d (I (g3 ex)),Z,A 2,A 9,Z,A 1,A 0,A 6,C 0,E [[U 0]],A 0,A 0]
abbrev w6_142 (v:VaT) (ex:Int):List V:=[A 2006,A 1007,A 2003,A v.rr,A v.mf,C v.mh,C v.c0,A v.mf,C v.mh,C v.d0,A v.mf,C v.mh,C v.c1,A v.mf,C v.mh,C v.d1,A v.q0,A v.q1,A v.k0,A v.k1,A v.t0,A v.t1,A 6,A 5,E w6_118,A 6,A 6,E w6_118,.d (B false),A 2,A 1048580,Z,A 2,A 4,Z,A 2,A 0,A 6,C 0,E [[U 0]],A 0,.d (I (g1 ex)),.d (I (g1 ex)),A 1008,A 2003,A v.rr,A v.mf,C v.mh,C v.c0,A v.mf,C v.mh,C v.d0,A v.mf,C v.mh,C v.c1,A v.mf,C v.mh,C v.d1,A v.q0,A v.q1,A v.k0,A v.k1,A v.t0,A v.t1,A 6,A 5,E (w6_130 ex),A 6,A 6,E (w6_130 ex),.d (B false),A 2,.d (I (g3 ex)),Z,A 2,A 9,Z,A 1,A 0,A 6,C 0,E [[U 0]],A 0,A 0]
abbrev w6_143 (v:VaT) (ex:Int) (t:ByteArray):List (List V):=[(w6_137 v ex t),[A 2003],(w6_139 v t),[A 1],w6_58,w6_128,(w6_38 ex),(w6_140 v),(w6_137 v ex t),(w6_141 v ex),(w6_137 v ex t),[],(w6_142 v ex),(w6_137 v ex t),(w6_43 v)]
abbrev w6_144:List V:=[A 2,A 11,Z]
abbrev w6_145 (v:VaT) (Ra:List (List D)) (ri:Int) (t:ByteArray):List V:=[A 0,A 1,A 1,A 2,E Ra,E [[I 31],[I 1024]],A 0,A 11,A 2,A 1,Z,A 2,A 2,Z,A 0,Z,E [[I 1003,I 2003,B true,I 3,I 1,I 2,I 6,I 2,.sl w6_109,I 6,I 3,.sl w6_109,I 6,I 4,.sl w6_109,I 2,I 4,.sl [],I 2,I 1048580,.sl [],I 3,I 0,.sl w6_111,I 3,I 0,.sl w6_112,I 3,I 0,I 4,I 2,I 3,I 0,.sl (w6_126 v t),I 2,I 1,I 2,I 2,I 9,.sl [],I 0,I 0,.sl [],I 1008,I 1007,I ri,I v.mf,U v.mh,U v.c1,I v.mf,U v.mh,U v.d1,I v.mf,U v.mh,U v.c0,I v.mf,U v.mh,U v.d0,I v.q0,I v.q1,I v.t0,I v.t1,I v.k0,I v.k1,I 0,I 0,.sl [],.sl [],I (-1),I 0,I 0,.sl [],I 0,I 0,I 0,I 0,I 1,B false,I 0,B false,I 0]],.loc 12 0 2 42,E w6_124]
abbrev w6_146 (v:VaT) (Ra:List (List D)) (ri:Int) (t:ByteArray):List V:=[.agg (w6_145 v Ra ri t),A ri]
abbrev w6_147 (v:VaT) (ri:Int):List V:=[A 1007,A 2006,A 1003,A ri,A v.mf,C v.mh,C v.c1,A v.mf,C v.mh,C v.d1,A v.mf,C v.mh,C v.c0,A v.mf,C v.mh,C v.d0,A v.q0,A v.q1,A v.t0,A v.t1,A v.k0,A v.k1,A 6,A 6,E w6_118,A 6,A 5,E w6_118,.d (B true),A 2,A 4,Z,A 2,A 1048580,Z,A 1,A 0,A 6,C 0,E [[U 0]],A 0,A 0]
abbrev w6_148 (v:VaT) (ri:Int) (ex:Int):List V:=[A 1010,.d (I (g0 ex)),A 1003,A ri,A v.mf,C v.mh,C v.c1,A v.mf,C v.mh,C v.d1,A v.mf,C v.mh,C v.c0,A v.mf,C v.mh,C v.d0,A v.q0,A v.q1,A v.t0,A v.t1,A v.k0,A v.k1,A 6,A 5,E (w6_120 ex),A 6,A 6,E (w6_120 ex),.d (B false),A 2,A 11,Z,A 2,.d (I (g2 ex)),Z,A 1,A 0,A 6,C 0,E [[U 0]],A 0,A 0]
abbrev w6_149 (v:VaT) (ri:Int) (ex:Int):List V:=[A 1007,A 2006,A 1003,A ri,A v.mf,C v.mh,C v.c1,A v.mf,C v.mh,C v.d1,A v.mf,C v.mh,C v.c0,A v.mf,C v.mh,C v.d0,A v.q0,A v.q1,A v.t0,A v.t1,A v.k0,A v.k1,A 6,A 6,E w6_118,A 6,A 5,E w6_118,.d (B true),A 2,A 4,Z,A 2,A 1048580,Z,A 2,A 0,A 6,C 0,E [[U 0]],A 0,A 1010,A 1010,.d (I (g0 ex)),A 1003,A ri,A v.mf,C v.mh,C v.c1,A v.mf,C v.mh,C v.d1,A v.mf,C v.mh,C v.c0,A v.mf,C v.mh,C v.d0,A v.q0,A v.q1,A v.t0,A v.t1,A v.k0,A v.k1,A 6,A 5,E (w6_120 ex),A 6,A 6,E (w6_120 ex),.d (B false),A 2,A 11,Z,A 2,.d (I (g2 ex)),Z,A 1,A 0,A 6,C 0,E [[U 0]],A 0,A 0]
abbrev w6_150 (v:VaT) (Ra:List (List D)) (ri:Int) (ex:Int) (t:ByteArray):List (List V):=[(w6_145 v Ra ri t),[A 1003],(w6_69 v ex t),[A 2],w6_58,(w6_70 ex),w6_144,(w6_147 v ri),(w6_145 v Ra ri t),(w6_148 v ri ex),(w6_145 v Ra ri t),[],(w6_149 v ri ex),(w6_145 v Ra ri t),(w6_64 v)]
abbrev w6_151 (v:VaT):List (List D):=[[I 2006,I 1007,I 2003,I v.rr,I v.mf,U v.mh,U v.c0,I v.mf,U v.mh,U v.d0,I v.mf,U v.mh,U v.c1,I v.mf,U v.mh,U v.d1,I v.q0,I v.q1,I v.k0,I v.k1,I v.t0,I v.t1,I 6,I 5,.sl w6_118,I 6,I 6,.sl w6_118,B false,I 2,I 1048580,.sl [],I 2,I 4,.sl [],I 1,I 0,I 6,U 0,.sl [[U 0]],I 0,I 0]]
abbrev w6_152 (v:VaT) (ex:Int) (t:ByteArray):List V:=[.agg [A 1,A 0,A 2,A 1,E v.Rb,E [[I 1024],[I 31]],A 0,.d (I (g5 ex)),A 2,A 1048577,Z,A 2,A 1048578,Z,A 0,Z,E [[I 2003,I 1003,B false,I 3,I 2,I 1,I 6,I 2,.sl w6_109,I 6,I 4,.sl w6_109,I 6,I 3,.sl w6_109,I 2,I 1048580,.sl [],I 2,I 4,.sl [],I 3,I 0,.sl w6_111,I 3,I 0,.sl w6_112,I 0,I 2,I 0,I 0,I 0,I 0,.sl [],I 0,I 0,I 0,I 0,I 0,.sl [],I 0,I 0,.sl [],I 0,I 0,I 0,I 0,U 0,U 0,I 0,U 0,U 0,I 0,U 0,U 0,I 0,U 0,U 0,I 0,I 0,I 0,I 0,I 0,I 0,I 0,I 0,.sl [],.sl [],I 1,I 3,I 0,.sl (w6_136 v t),I 0,I 0,I 0,I 0,I 0,B false,I 0,B false,I 0]],E (w6_151 v),Z],A v.rr]
abbrev w6_153 (v:VaT) (ri:Int):List (List D):=[[I 1007,I 2006,I 1003,I ri,I v.mf,U v.mh,U v.c1,I v.mf,U v.mh,U v.d1,I v.mf,U v.mh,U v.c0,I v.mf,U v.mh,U v.d0,I v.q0,I v.q1,I v.t0,I v.t1,I v.k0,I v.k1,I 6,I 6,.sl w6_118,I 6,I 5,.sl w6_118,B true,I 2,I 4,.sl [],I 2,I 1048580,.sl [],I 1,I 0,I 6,U 0,.sl [[U 0]],I 0,I 0]]
abbrev w6_154 (v:VaT) (Ra:List (List D)) (ri:Int):List V:=[.agg [A 0,A 1,A 1,A 2,E Ra,E [[I 31],[I 1024]],A 0,A 9,A 2,A 1,Z,A 2,A 2,Z,A 0,Z,E [[I 1003,I 2003,B true,I 3,I 1,I 2,I 6,I 2,.sl w6_109,I 6,I 3,.sl w6_109,I 6,I 4,.sl w6_109,I 2,I 4,.sl [],I 2,I 1048580,.sl [],I 3,I 0,.sl w6_111,I 3,I 0,.sl w6_112,I 2,I 0,I 0,I 0,I 0,I 0,.sl [],I 0,I 0,I 0,I 0,I 0,.sl [],I 0,I 0,.sl [],I 0,I 0,I 0,I 0,U 0,U 0,I 0,U 0,U 0,I 0,U 0,U 0,I 0,U 0,U 0,I 0,I 0,I 0,I 0,I 0,I 0,I 0,I 0,.sl [],.sl [],I (-1),I 0,I 0,.sl [],I 0,I 0,I 0,I 0,I 1,B false,I 0,B false,I 0]],E (w6_153 v ri),E w6_124],A ri]
abbrev w6_155 (v:VaT) (ex:Int) (t:ByteArray):List (List D):=[N 36,N 1003,N 2003,N 1,N 2,R 7 0 [w6_133,(w6_81 v ex t)]]
abbrev w6_156 (v:VaT) (ex:Int) (t:ByteArray):List (List D):=[[I 2003,I 1003,B false,I 3,I 2,I 1,I 6,I 2,.sl w6_109,I 6,I 4,.sl w6_109,I 6,I 3,.sl w6_109,I 2,I 1048580,.sl [],I 2,I 4,.sl [],I 3,I 0,.sl w6_111,I 3,I 0,.sl w6_112,I 1,I 3,I 0,I 0,I 0,I 0,.sl [],I 0,I 0,I 0,I 0,I 0,.sl [],I 0,I 0,.sl [],I 0,I 0,I 0,I 0,U 0,U 0,I 0,U 0,U 0,I 0,U 0,U 0,I 0,U 0,U 0,I 0,I 0,I 0,I 0,I 0,I 0,I 0,I 0,.sl [],.sl [],I 2,I 3,I 0,.sl (w6_155 v ex t),I 0,I 0,I 0,I 0,I 0,B false,I 0,B false,I 0]]
abbrev w6_157 (v:VaT) (ex:Int):List D:=[I 2006,I 1007,I 2003,I v.rr,I v.mf,U v.mh,U v.c0,I v.mf,U v.mh,U v.d0,I v.mf,U v.mh,U v.c1,I v.mf,U v.mh,U v.d1,I v.q0,I v.q1,I v.k0,I v.k1,I v.t0,I v.t1,I 6,I 5,.sl w6_118,I 6,I 6,.sl w6_118,B false,I 2,I 1048580,.sl [],I 2,I 4,.sl [],I 2,I 0,I 6,U 0,.sl [[U 0]],I 0,I (g1 ex)]
abbrev w6_158 (v:VaT) (ex:Int):List D:=[I (g1 ex),I 1008,I 2003,I v.rr,I v.mf,U v.mh,U v.c0,I v.mf,U v.mh,U v.d0,I v.mf,U v.mh,U v.c1,I v.mf,U v.mh,U v.d1,I v.q0,I v.q1,I v.k0,I v.k1,I v.t0,I v.t1,I 6,I 5,.sl (w6_130 ex),I 6,I 6,.sl (w6_130 ex),B false,I 2,I (g3 ex),.sl [],I 2,I 9,.sl [],I 1,I 0,I 6,U 0,.sl [[U 0]],I 0,I 0]
abbrev w6_159 (v:VaT) (ex:Int):List (List D):=[(w6_157 v ex),(w6_158 v ex)]
abbrev w6_160 (v:VaT) (ex:Int) (t:ByteArray):List V:=[A 4,A 0,A 3,A 0,E (w6_134 v ex t),A 1,A 1,A 2,A 2,.d (I (g2 ex)),Z,A 0,A 0,Z,.d (I (g0 ex)),A 2006,A v.rr,A v.mf,C v.mh,C v.c0,A v.mf,C v.mh,C v.d0,A v.mf,C v.mh,C v.c1,A v.mf,C v.mh,C v.d1,A v.q0,A v.q1,A v.k0,A v.k1,A v.t0,A v.t1,A 0,A 0,Z,Z]
abbrev w6_161 (v:VaT) (ex:Int) (t:ByteArray):List V:=[.agg [A 1,A 0,A 2,A 1,E v.Rb,E [[I 1024],[I 31]],A 0,.d (I (g4 ex)),A 2,A 1048577,Z,A 2,A 1048578,Z,A 0,Z,E (w6_156 v ex t),E (w6_159 v ex),Z],A 2003,E (w6_114 v t),.agg (w6_160 v ex t),.agg (w6_70 ex),.agg w6_144]
abbrev w6_162 (v:VaT) (ex:Int):List (List D):=[(w6_157 v ex),(w6_158 v ex),[I (g0 ex),I 1010,I 2003,I v.rr,I v.mf,U v.mh,U v.c0,I v.mf,U v.mh,U v.d0,I v.mf,U v.mh,U v.c1,I v.mf,U v.mh,U v.d1,I v.q0,I v.q1,I v.k0,I v.k1,I v.t0,I v.t1,I 6,I 6,.sl (w6_120 ex),I 6,I 5,.sl (w6_120 ex),B true,I 2,I (g2 ex),.sl [],I 2,I 11,.sl [],I 1,I 0,I 6,U 0,.sl [[U 0]],I 0,I 0]]
abbrev w6_163 (v:VaT) (ex:Int) (t:ByteArray):List V:=[.agg [A 1,A 0,A 2,A 1,E v.Rb,E [[I 1024],[I 31]],A 0,.d (I (g4 ex)),A 2,A 1048577,Z,A 2,A 1048578,Z,A 0,Z,E (w6_156 v ex t),E (w6_162 v ex),Z],.d (I (g0 ex)),.d (B true)]
abbrev w6_164:List (List D):=[N 34,N 1003,N 0,N 2,N 0,R 3 0 [(R 3 0 [(N 1),N 1024,N 31]),R 3 0 [(N 2),N 31,w6_110],w6_5,w6_8]]
abbrev w6_165 (v:VaT) (t:ByteArray):List (List D):=[[I 1003,I 2003,B true,I 3,I 1,I 2,I 6,I 2,.sl w6_109,I 6,I 3,.sl w6_109,I 6,I 4,.sl w6_109,I 2,I 4,.sl [],I 2,I 1048580,.sl [],I 3,I 0,.sl w6_164,I 3,I 0,.sl w6_13,I 3,I 1,I 0,I 0,I 0,I 0,.sl [],I 0,I 0,I 0,I 0,I 0,.sl [],I 0,I 0,.sl [],I 0,I 0,I 0,I 0,U 0,U 0,I 0,U 0,U 0,I 0,U 0,U 0,I 0,U 0,U 0,I 0,I 0,I 0,I 0,I 0,I 0,I 0,I 0,.sl [],.sl [],I 0,I 3,I 0,.sl (w6_115 v t),I 0,I 0,I 0,I 0,I 1,B false,I 0,B false,I 0]]
abbrev w6_166 (v:VaT) (Ra:List (List D)) (ri:Int) (ex:Int) (t:ByteArray):List V:=[.agg [A 0,A 1,A 1,A 2,E Ra,E [[I 1024],[I 31]],A 0,A 11,A 2,A 1,Z,A 2,A 2,Z,A 0,Z,E (w6_165 v t),E (w6_122 v ri ex),E w6_124],A 1003,E (w6_33 v ex t),.agg (w6_127 v ri t),.agg w6_128,.agg (w6_38 ex)]
abbrev w6_167 (v:VaT) (Ra:List (List D)) (ri:Int) (ex:Int) (t:ByteArray):List V:=[.agg [A 0,A 1,A 1,A 2,E Ra,E [[I 1024],[I 31]],A 0,A 11,A 2,A 1,Z,A 2,A 2,Z,A 0,Z,E (w6_165 v t),E (w6_131 v ri ex),E w6_124],A 1008,.d (B true)]
abbrev w6_168 (v:VaT) (t:ByteArray):List (List D):=[N 35,N 1003,N 2003,N 1,N 1,R 7 0 [w6_133,R 3 0 [(N 35),N 1003,N 2003,N 1,N 1,R 3 0 [w6_50,w6_51,w6_52,(w6_53 v t),w6_135]]]]
abbrev w6_169 (v:VaT) (ex:Int) (t:ByteArray):List V:=[A 1,A 0,A 2,A 1,E v.Rb,E [[I 31],[I 1024]],A 0,.d (I (g4 ex)),A 2,A 1048577,Z,A 2,A 1048578,Z,A 0,Z,E [[I 2003,I 1003,B false,I 3,I 2,I 1,I 6,I 2,.sl w6_109,I 6,I 4,.sl w6_109,I 6,I 3,.sl w6_109,I 2,I 1048580,.sl [],I 2,I 4,.sl [],I 3,I 0,.sl w6_164,I 3,I 0,.sl w6_13,I 1,I 2,I 4,I 0,I 3,I 0,.sl (w6_134 v ex t),I 1,I 1,I 2,I 2,I (g2 ex),.sl [],I 0,I 0,.sl [],I (g0 ex),I 2006,I v.rr,I v.mf,U v.mh,U v.c0,I v.mf,U v.mh,U v.d0,I v.mf,U v.mh,U v.c1,I v.mf,U v.mh,U v.d1,I v.q0,I v.q1,I v.k0,I v.k1,I v.t0,I v.t1,I 0,I 0,.sl [],.sl [],I 1,I 3,I 0,.sl (w6_168 v t),I 0,I 0,I 0,I 0,I 0,B false,I 0,B false,I 0]],.loc 12 0 2 42,Z]
abbrev w6_170 (v:VaT) (ex:Int) (t:ByteArray):List V:=[.agg (w6_169 v ex t),A v.rr]
abbrev w6_171 (v:VaT) (ex:Int) (t:ByteArray):List (List V):=[(w6_169 v ex t),[A 2003],(w6_139 v t),[A 1],w6_58,w6_128,(w6_38 ex),(w6_140 v),(w6_169 v ex t),(w6_141 v ex),(w6_169 v ex t),[],(w6_142 v ex),(w6_169 v ex t),(w6_43 v)]
abbrev w6_172 (v:VaT) (Ra:List (List D)) (ri:Int) (t:ByteArray):List V:=[A 0,A 1,A 1,A 2,E Ra,E [[I 1024],[I 31]],A 0,A 11,A 2,A 1,Z,A 2,A 2,Z,A 0,Z,E [[I 1003,I 2003,B true,I 3,I 1,I 2,I 6,I 2,.sl w6_109,I 6,I 3,.sl w6_109,I 6,I 4,.sl w6_109,I 2,I 4,.sl [],I 2,I 1048580,.sl [],I 3,I 0,.sl w6_164,I 3,I 0,.sl w6_13,I 3,I 0,I 4,I 2,I 3,I 0,.sl (w6_126 v t),I 2,I 1,I 2,I 2,I 9,.sl [],I 0,I 0,.sl [],I 1008,I 1007,I ri,I v.mf,U v.mh,U v.c1,I v.mf,U v.mh,U v.d1,I v.mf,U v.mh,U v.c0,I v.mf,U v.mh,U v.d0,I v.q0,I v.q1,I v.t0,I v.t1,I v.k0,I v.k1,I 0,I 0,.sl [],.sl [],I (-1),I 0,I 0,.sl [],I 0,I 0,I 0,I 0,I 1,B false,I 0,B false,I 0]],.loc 12 0 2 42,E w6_124]
abbrev w6_173 (v:VaT) (Ra:List (List D)) (ri:Int) (t:ByteArray):List V:=[.agg (w6_172 v Ra ri t),A ri]
abbrev w6_174 (v:VaT) (Ra:List (List D)) (ri:Int) (ex:Int) (t:ByteArray):List (List V):=[(w6_172 v Ra ri t),[A 1003],(w6_69 v ex t),[A 2],w6_58,(w6_70 ex),w6_144,(w6_147 v ri),(w6_172 v Ra ri t),(w6_148 v ri ex),(w6_172 v Ra ri t),[],(w6_149 v ri ex),(w6_172 v Ra ri t),(w6_64 v)]
abbrev w6_175 (v:VaT) (ex:Int) (t:ByteArray):List V:=[.agg [A 1,A 0,A 2,A 1,E v.Rb,E [[I 31],[I 1024]],A 0,.d (I (g5 ex)),A 2,A 1048577,Z,A 2,A 1048578,Z,A 0,Z,E [[I 2003,I 1003,B false,I 3,I 2,I 1,I 6,I 2,.sl w6_109,I 6,I 4,.sl w6_109,I 6,I 3,.sl w6_109,I 2,I 1048580,.sl [],I 2,I 4,.sl [],I 3,I 0,.sl w6_164,I 3,I 0,.sl w6_13,I 0,I 2,I 0,I 0,I 0,I 0,.sl [],I 0,I 0,I 0,I 0,I 0,.sl [],I 0,I 0,.sl [],I 0,I 0,I 0,I 0,U 0,U 0,I 0,U 0,U 0,I 0,U 0,U 0,I 0,U 0,U 0,I 0,I 0,I 0,I 0,I 0,I 0,I 0,I 0,.sl [],.sl [],I 1,I 3,I 0,.sl (w6_168 v t),I 0,I 0,I 0,I 0,I 0,B false,I 0,B false,I 0]],E (w6_151 v),Z],A v.rr]
abbrev w6_176 (v:VaT) (Ra:List (List D)) (ri:Int):List V:=[.agg [A 0,A 1,A 1,A 2,E Ra,E [[I 1024],[I 31]],A 0,A 9,A 2,A 1,Z,A 2,A 2,Z,A 0,Z,E [[I 1003,I 2003,B true,I 3,I 1,I 2,I 6,I 2,.sl w6_109,I 6,I 3,.sl w6_109,I 6,I 4,.sl w6_109,I 2,I 4,.sl [],I 2,I 1048580,.sl [],I 3,I 0,.sl w6_164,I 3,I 0,.sl w6_13,I 2,I 0,I 0,I 0,I 0,I 0,.sl [],I 0,I 0,I 0,I 0,I 0,.sl [],I 0,I 0,.sl [],I 0,I 0,I 0,I 0,U 0,U 0,I 0,U 0,U 0,I 0,U 0,U 0,I 0,U 0,U 0,I 0,I 0,I 0,I 0,I 0,I 0,I 0,I 0,.sl [],.sl [],I (-1),I 0,I 0,.sl [],I 0,I 0,I 0,I 0,I 1,B false,I 0,B false,I 0]],E (w6_153 v ri),E w6_124],A ri]
abbrev w6_177 (v:VaT) (ex:Int) (t:ByteArray):List (List D):=[[I 2003,I 1003,B false,I 3,I 2,I 1,I 6,I 2,.sl w6_109,I 6,I 4,.sl w6_109,I 6,I 3,.sl w6_109,I 2,I 1048580,.sl [],I 2,I 4,.sl [],I 3,I 0,.sl w6_164,I 3,I 0,.sl w6_13,I 1,I 3,I 0,I 0,I 0,I 0,.sl [],I 0,I 0,I 0,I 0,I 0,.sl [],I 0,I 0,.sl [],I 0,I 0,I 0,I 0,U 0,U 0,I 0,U 0,U 0,I 0,U 0,U 0,I 0,U 0,U 0,I 0,I 0,I 0,I 0,I 0,I 0,I 0,I 0,.sl [],.sl [],I 2,I 3,I 0,.sl (w6_155 v ex t),I 0,I 0,I 0,I 0,I 0,B false,I 0,B false,I 0]]
abbrev w6_178 (v:VaT) (ex:Int) (t:ByteArray):List V:=[.agg [A 1,A 0,A 2,A 1,E v.Rb,E [[I 31],[I 1024]],A 0,.d (I (g4 ex)),A 2,A 1048577,Z,A 2,A 1048578,Z,A 0,Z,E (w6_177 v ex t),E (w6_159 v ex),Z],A 2003,E (w6_114 v t),.agg (w6_160 v ex t),.agg (w6_70 ex),.agg w6_144]
abbrev w6_179 (v:VaT) (ex:Int) (t:ByteArray):List V:=[.agg [A 1,A 0,A 2,A 1,E v.Rb,E [[I 31],[I 1024]],A 0,.d (I (g4 ex)),A 2,A 1048577,Z,A 2,A 1048578,Z,A 0,Z,E (w6_177 v ex t),E (w6_162 v ex),Z],.d (I (g0 ex)),.d (B true)]
abbrev w6_180 (v:VaT) (ex:Int) (t:ByteArray):List V:=[A 1,A 0,A 2,A 1,E v.Rb,E [[I 31]],A 0,.d (I (g4 ex)),A 2,A 1048577,Z,A 2,A 1048578,Z,A 0,Z,E (w6_96 v ex t),.loc 12 0 2 42,Z]
abbrev w6_181 (v:VaT) (ex:Int) (t:ByteArray):List V:=[.agg (w6_180 v ex t),A v.rr]
abbrev w6_182 (v:VaT) (ex:Int) (t:ByteArray):List (List V):=[(w6_180 v ex t),[A 2003],(w6_57 v t),[A 1],w6_58,w6_37,(w6_38 ex),(w6_59 v),(w6_180 v ex t),(w6_60 v ex),(w6_180 v ex t),[],(w6_61 v ex),(w6_180 v ex t),(w6_43 v)]
abbrev w6_183 (v:VaT) (ex:Int) (t:ByteArray):List V:=[.agg [A 1,A 0,A 2,A 1,E v.Rb,E [[I 31]],A 0,.d (I (g5 ex)),A 2,A 1048577,Z,A 2,A 1048578,Z,A 0,Z,E (w6_103 v t),E (w6_75 v),Z],A v.rr]
abbrev w6_184 (v:VaT) (ex:Int) (t:ByteArray):List V:=[.agg [A 1,A 0,A 2,A 1,E v.Rb,E [[I 31]],A 0,.d (I (g4 ex)),A 2,A 1048577,Z,A 2,A 1048578,Z,A 0,Z,E (w6_106 v ex t),E (w6_86 v ex),Z],A 2003,E (w6_17 v t),.agg (w6_87 v ex t),.agg (w6_70 ex),.agg w6_63]
abbrev w6_185 (v:VaT) (ex:Int) (t:ByteArray):List V:=[.agg [A 1,A 0,A 2,A 1,E v.Rb,E [[I 31]],A 0,.d (I (g4 ex)),A 2,A 1048577,Z,A 2,A 1048578,Z,A 0,Z,E (w6_106 v ex t),E (w6_89 v ex),Z],.d (I (g0 ex)),.d (B true)]
abbrev tv6_0 (v:VaT) (Ra:List (List D)) (ri:Int) (t:ByteArray):V:=twS0 v Ra ri t
abbrev tv6_1 (v:VaT) (Ra:List (List D)) (ri:Int) (t:ByteArray):V:=twS1 v Ra ri t
abbrev tv6_2 (v:VaT) (Ra:List (List D)) (ri:Int) (t:ByteArray):V:=twS2 v Ra ri t
abbrev tv6_3 (v:VaT) (Ra:List (List D)) (ri:Int) (t:ByteArray):V:=twS3 v Ra ri t
abbrev tv6_4 (v:VaT) (Ra:List (List D)) (ri:Int) (t:ByteArray):V:=twS4 v Ra ri t
abbrev tz6_0 (v:VaT) (Ra:List (List D)) (ri:Int) (t:ByteArray):V:=twZ0 v Ra ri t
abbrev tz6_1 (v:VaT) (Ra:List (List D)) (ri:Int) (t:ByteArray):V:=twZ1 v Ra ri t
abbrev tz6_2 (v:VaT) (Ra:List (List D)) (ri:Int) (t:ByteArray):V:=twZ2 v Ra ri t
abbrev tz6_3 (v:VaT) (Ra:List (List D)) (ri:Int) (t:ByteArray):V:=twZ3 v Ra ri t
abbrev tz6_4 (v:VaT) (Ra:List (List D)) (ri:Int) (t:ByteArray):V:=twZ4 v Ra ri t
abbrev tz6_5 (v:VaT) (Ra:List (List D)) (ri:Int) (t:ByteArray):V:=twZ5 v Ra ri t
structure H6 (v:VaT) (Ra:List (List D)) (ri ex:Int) (b:Bool) (tv:V):Prop where
 h0:0≤ex
 h1:ex<256
 H:HKs v Ra ri (tB b)
 h10:CV VP 10 [.ptr 0 0] [[E v.R,A 0]]=some ⟨tv,[[E v.R,A v.gk]],[],0⟩
theorem h32t (b:Bool) (x:Bx) (ho:x.ok) (hf:x.fine):CV VP 197 [x.ag,.d (.lit (.string (tB b)))] []=some ⟨.agg [A 3,A 0,E ([N 11,N x.f,N x.h,N x.a0,N x.f,N x.h,N x.b0,N x.f,N x.h,N x.a1,N x.f,N x.h,N x.b1,N x.p0,N x.p1,N x.l0,N x.l1,N x.r0,N x.r1]++bR (tB b))],[],[],0⟩:=by
 cases b
 ·exact (h32s x ho hf).trans (by kernel_rfl)
 ·exact (h32g x ho hf).trans (by kernel_rfl)
theorem tv6e_0 (b:Bool) {v:VaT} {Ra:List (List D)} {ri:Int}:twSV 0 b v Ra ri=tv6_0 v Ra ri (tB b):=rfl
theorem tv6e_1 (b:Bool) {v:VaT} {Ra:List (List D)} {ri:Int}:twSV 1 b v Ra ri=tv6_1 v Ra ri (tB b):=rfl
theorem tv6e_2 (b:Bool) {v:VaT} {Ra:List (List D)} {ri:Int}:twSV 2 b v Ra ri=tv6_2 v Ra ri (tB b):=rfl
theorem tv6e_3 (b:Bool) {v:VaT} {Ra:List (List D)} {ri:Int}:twSV 3 b v Ra ri=tv6_3 v Ra ri (tB b):=rfl
theorem tv6e_4 (b:Bool) {v:VaT} {Ra:List (List D)} {ri:Int}:twSV 4 b v Ra ri=tv6_4 v Ra ri (tB b):=rfl
theorem tz6e_0 (b:Bool) {v:VaT} {Ra:List (List D)} {ri:Int}:twZV 0 b v Ra ri=tz6_0 v Ra ri (tB b):=rfl
theorem tz6e_1 (b:Bool) {v:VaT} {Ra:List (List D)} {ri:Int}:twZV 1 b v Ra ri=tz6_1 v Ra ri (tB b):=rfl
theorem tz6e_2 (b:Bool) {v:VaT} {Ra:List (List D)} {ri:Int}:twZV 2 b v Ra ri=tz6_2 v Ra ri (tB b):=rfl
theorem tz6e_3 (b:Bool) {v:VaT} {Ra:List (List D)} {ri:Int}:twZV 3 b v Ra ri=tz6_3 v Ra ri (tB b):=rfl
theorem tz6e_4 (b:Bool) {v:VaT} {Ra:List (List D)} {ri:Int}:twZV 4 b v Ra ri=tz6_4 v Ra ri (tB b):=rfl
theorem tz6e_5 (b:Bool) {v:VaT} {Ra:List (List D)} {ri:Int}:twZV 5 b v Ra ri=tz6_5 v Ra ri (tB b):=rfl
noncomputable abbrev p6_0 (v:VaT) (Ra:List (List D)) (ri ex:Int) (b:Bool):List (Bool×Bool):=[prL 8 (g3 ex),Q (CV VP 110 (w6_39 v Ra ri ex (tB b)) []=some ⟨.tup (w6_42 v Ra ri ex (tB b)),[],[],0⟩),Q ((w6_38 ex)=(w6_38 ex)),Q ((w6_43 v)=(w6_43 v)),Q (CV VP 197 (w6_44 v (tB b)) []=some ⟨.agg (w6_45 v (tB b)),[],[],0⟩),Q (CV VP 133 (w6_56 v ex (tB b)) (w6_62 v ex (tB b))=some ⟨.d (.lit (.string (tB b))),(w6_62 v ex (tB b)),[],0⟩),Q (w6_63=w6_63),Q ((w6_64 v)=(w6_64 v)),Q (CV VP 197 (w6_65 v (tB b)) []=some ⟨.agg (w6_66 v (tB b)),[],[],0⟩),Q (CV VP 133 (w6_68 v Ra ri (tB b)) (w6_74 v Ra ri ex (tB b))=some ⟨.d (.lit (.string (tB b))),(w6_74 v Ra ri ex (tB b)),[],0⟩),((leF (g0 ex) 0),false),Q (CV VP 197 (w6_44 v (tB b)) []=some ⟨.agg (w6_45 v (tB b)),[],[],0⟩),Q (CV VP 133 (w6_76 v ex (tB b)) []=some ⟨.d (.lit (.string (tB b))),[],[],0⟩),Q (CV VP 197 (w6_65 v (tB b)) []=some ⟨.agg (w6_66 v (tB b)),[],[],0⟩),Q (CV VP 133 (w6_78 v Ra ri) []=some ⟨.d (.lit (.string (tB b))),[],[],0⟩),Q (CV VP 10 [.ptr 0 0] [[E v.R,A 0]]=some ⟨tv6_0 v Ra ri (tB b),[[E v.R,A v.gk]],[],0⟩),Q (CV VP 9 (w6_79 v) []=some ⟨.ptr 0 0,(w6_80 v),[0],1⟩),(lowR 1048580 3,false),prL 1048580 3,(lowR 3 1048580,true),prL 3 1048580]
theorem p6_0_ok {v:VaT} {Ra:List (List D)} {ri ex:Int} {b:Bool} (J:H6 v Ra ri ex b (tv6_0 v Ra ri (tB b))):OKs (p6_0 v Ra ri ex b):=
 have h0:=J.h0;have h1:=J.h1;have H:=J.H;have h10:=J.h10
 .cons (h119 (by decide) (by rw [gv3 h0 h1];omega))<|.cons (prB_of (h110t20 b H.hra H.hla H.mok H.mfine (by rw [gv1 h0 h1];omega)))<|.cons (prB_of rfl)<|.cons (prB_of rfl)<|.cons (prB_of (h32t b v.m H.mok H.mfine))<|.cons (prB_of (H.hrow.elim fun i h=>h.elim fun t0 h=>h.elim fun t1 h=>h133k _ (by kernel_rfl) i h.1 h.2))<|.cons (prB_of rfl)<|.cons (prB_of rfl)<|.cons (prB_of (h32t b v.ms H.msok H.msfine))<|.cons (prB_of (H.hra.elim fun i h=>h.elim fun t0 h=>h.elim fun t1 h=>h133k _ (by kernel_rfl) i h.1 h.2))<|.cons (c6_0 h0 h1)<|.cons (prB_of (h32t b v.m H.mok H.mfine))<|.cons (prB_of (H.hrow.elim fun i h=>h.elim fun t0 h=>h.elim fun t1 h=>h133d _ (by kernel_rfl) i h.1 h.2))<|.cons (prB_of (h32t b v.ms H.msok H.msfine))<|.cons (prB_of (H.hra.elim fun i h=>h.elim fun t0 h=>h.elim fun t1 h=>h133d _ (by kernel_rfl) i h.1 h.2))<|.cons (prB_of h10)<|.cons (prB_of H.h9)<|.cons (by decide)<|.cons (h119 (by decide) (by decide))<|.cons (by decide)<|.cons (h119 (by decide) (by decide))<|.nil
noncomputable abbrev m6_0 (v:VaT) (Ra:List (List D)) (ri ex:Int) (b:Bool):Bool×Bool:=Q (CV VP 110 (w6_88 v ex (tB b)) []=some ⟨.tup (w6_90 v ex (tB b)),[],[],0⟩)
theorem m6_0_ok {v:VaT} {Ra:List (List D)} {ri ex:Int} {b:Bool} (J:H6 v Ra ri ex b (tv6_0 v Ra ri (tB b))) {o:List (Bool×Bool)} (ho:OKs o):OKs (m6_0 v Ra ri ex b::o):=
 have h0:=J.h0;have h1:=J.h1;have H:=J.H
 .cons (prB_of (h110t20 b H.hrow H.hlb H.msok H.msfine (by decide))) ho
theorem rk6_0_0 {v:VaT} {Ra:List (List D)} {ri ex:Int} {b:Bool} (J:H6 v Ra ri ex b (tv6_0 v Ra ri (tB b))) (k0:(lowR 8 (g3 ex))=true) (k1:(lowR 10 (g2 ex))=true):CV VP 6 [E v.X,.d (.lit (.int .u8 ex))] []=some ⟨.d (B true),[],[],0⟩:=
 CV_R (AL_ok v.R v.gk (tB b) (tv6_0 v Ra ri (tB b))) 400 ((4,true)::(19,false)::(21,true)::(0,true)::(138,true)::(2,true)::(0,true)::(1,true)::(1055,false)::(357,true)::(2,true)::(0,true)::(1,true)::(1039,true)::fl6_0) [] rfl rfl (ob:=sb1 ex (m6_0 v Ra ri ex b::sa0 ex (p6_0 v Ra ri ex b))) (by kernel_rfl) (sb1_ok J.h0 J.h1 k0 k1 (m6_0_ok J (sa0_ok J.h0 J.h1 k0 k1 (p6_0_ok J))))
theorem rk6_0_1 {v:VaT} {Ra:List (List D)} {ri ex:Int} {b:Bool} (J:H6 v Ra ri ex b (tv6_0 v Ra ri (tB b))) (k0:(lowR 8 (g3 ex))=true) (k1:(lowR 10 (g2 ex))=false) (k2:(lowR 8 (g2 ex))=true):CV VP 6 [E v.X,.d (.lit (.int .u8 ex))] []=some ⟨.d (B true),[],[],0⟩:=
 CV_R (AL_ok v.R v.gk (tB b) (tv6_0 v Ra ri (tB b))) 400 ((4,true)::(19,false)::(21,true)::(0,true)::(138,true)::(2,true)::(0,true)::(1,true)::(1055,false)::(357,true)::(2,true)::(0,true)::(1,true)::(1039,true)::fl6_1) [] rfl rfl (ob:=sb3 ex (m6_0 v Ra ri ex b::sa2 ex (p6_0 v Ra ri ex b))) (by kernel_rfl) (sb3_ok J.h0 J.h1 k0 k1 k2 (m6_0_ok J (sa2_ok J.h0 J.h1 k0 k1 k2 (p6_0_ok J))))
theorem rk6_0_2 {v:VaT} {Ra:List (List D)} {ri ex:Int} {b:Bool} (J:H6 v Ra ri ex b (tv6_0 v Ra ri (tB b))) (k0:(lowR 8 (g3 ex))=true) (k1:(lowR 10 (g2 ex))=false) (k2:(lowR 8 (g2 ex))=false):CV VP 6 [E v.X,.d (.lit (.int .u8 ex))] []=some ⟨.d (B true),[],[],0⟩:=
 CV_R (AL_ok v.R v.gk (tB b) (tv6_0 v Ra ri (tB b))) 400 ((4,true)::(19,false)::(21,true)::(0,true)::(138,true)::(2,true)::(0,true)::(1,true)::(1055,false)::(357,true)::(2,true)::(0,true)::(1,true)::(1039,true)::fl6_2) [] rfl rfl (ob:=sb5 ex (m6_0 v Ra ri ex b::sa4 ex (p6_0 v Ra ri ex b))) (by kernel_rfl) (sb5_ok J.h0 J.h1 k0 k1 k2 (m6_0_ok J (sa4_ok J.h0 J.h1 k0 k1 k2 (p6_0_ok J))))
theorem rk6_0_3 {v:VaT} {Ra:List (List D)} {ri ex:Int} {b:Bool} (J:H6 v Ra ri ex b (tv6_0 v Ra ri (tB b))) (k0:(lowR 8 (g3 ex))=false) (k1:(lowR 10 (g2 ex))=true) (k2:(lowR (g3 ex) 10)=true):CV VP 6 [E v.X,.d (.lit (.int .u8 ex))] []=some ⟨.d (B true),[],[],0⟩:=
 CV_R (AL_ok v.R v.gk (tB b) (tv6_0 v Ra ri (tB b))) 400 ((4,true)::(19,false)::(21,true)::(0,true)::(138,true)::(2,true)::(0,true)::(1,true)::(1055,false)::(357,true)::(2,true)::(0,true)::(1,true)::(1039,false)::fl6_3) [] rfl rfl (ob:=sb7 ex (m6_0 v Ra ri ex b::sa6 ex (p6_0 v Ra ri ex b))) (by kernel_rfl) (sb7_ok J.h0 J.h1 k0 k1 k2 (m6_0_ok J (sa6_ok J.h0 J.h1 k0 k1 k2 (p6_0_ok J))))
theorem rk6_0_4 {v:VaT} {Ra:List (List D)} {ri ex:Int} {b:Bool} (J:H6 v Ra ri ex b (tv6_0 v Ra ri (tB b))) (k0:(lowR 8 (g3 ex))=false) (k1:(lowR 10 (g2 ex))=true) (k2:(lowR (g3 ex) 10)=false):CV VP 6 [E v.X,.d (.lit (.int .u8 ex))] []=some ⟨.d (B true),[],[],0⟩:=
 CV_R (AL_ok v.R v.gk (tB b) (tv6_0 v Ra ri (tB b))) 400 ((4,true)::(19,false)::(21,true)::(0,true)::(138,true)::(2,true)::(0,true)::(1,true)::(1055,false)::(357,true)::(2,true)::(0,true)::(1,true)::(1039,false)::fl6_4) [] rfl rfl (ob:=sb9 ex (m6_0 v Ra ri ex b::sa8 ex (p6_0 v Ra ri ex b))) (by kernel_rfl) (sb9_ok J.h0 J.h1 k0 k1 k2 (m6_0_ok J (sa8_ok J.h0 J.h1 k0 k1 k2 (p6_0_ok J))))
theorem rk6_0_5 {v:VaT} {Ra:List (List D)} {ri ex:Int} {b:Bool} (J:H6 v Ra ri ex b (tv6_0 v Ra ri (tB b))) (k0:(lowR 8 (g3 ex))=false) (k1:(lowR 10 (g2 ex))=false) (k2:(lowR (g3 ex) (g2 ex))=true):CV VP 6 [E v.X,.d (.lit (.int .u8 ex))] []=some ⟨.d (B true),[],[],0⟩:=
 CV_R (AL_ok v.R v.gk (tB b) (tv6_0 v Ra ri (tB b))) 400 ((4,true)::(19,false)::(21,true)::(0,true)::(138,true)::(2,true)::(0,true)::(1,true)::(1055,false)::(357,true)::(2,true)::(0,true)::(1,true)::(1039,false)::fl6_5) [] rfl rfl (ob:=sb11 ex (m6_0 v Ra ri ex b::sa10 ex (p6_0 v Ra ri ex b))) (by kernel_rfl) (sb11_ok J.h0 J.h1 k0 k1 k2 (m6_0_ok J (sa10_ok J.h0 J.h1 k0 k1 k2 (p6_0_ok J))))
theorem rk6_0_6 {v:VaT} {Ra:List (List D)} {ri ex:Int} {b:Bool} (J:H6 v Ra ri ex b (tv6_0 v Ra ri (tB b))) (k0:(lowR 8 (g3 ex))=false) (k1:(lowR 10 (g2 ex))=false) (k2:(lowR (g3 ex) (g2 ex))=false):CV VP 6 [E v.X,.d (.lit (.int .u8 ex))] []=some ⟨.d (B true),[],[],0⟩:=
 CV_R (AL_ok v.R v.gk (tB b) (tv6_0 v Ra ri (tB b))) 400 ((4,true)::(19,false)::(21,true)::(0,true)::(138,true)::(2,true)::(0,true)::(1,true)::(1055,false)::(357,true)::(2,true)::(0,true)::(1,true)::(1039,false)::fl6_6) [] rfl rfl (ob:=sb13 ex (m6_0 v Ra ri ex b::sa12 ex (p6_0 v Ra ri ex b))) (by kernel_rfl) (sb13_ok J.h0 J.h1 k0 k1 k2 (m6_0_ok J (sa12_ok J.h0 J.h1 k0 k1 k2 (p6_0_ok J))))
theorem rk6_0 {v:VaT} {Ra:List (List D)} {ri ex:Int} {b:Bool} (J:H6 v Ra ri ex b (tv6_0 v Ra ri (tB b))):CV VP 6 [E v.X,.d (.lit (.int .u8 ex))] []=some ⟨.d (B true),[],[],0⟩:=by
 cases k0:(lowR 8 (g3 ex)) with
 |true=>
  cases k1:(lowR 10 (g2 ex)) with
  |true=>
   exact rk6_0_0 J k0 k1
  |false=>
   cases k2:(lowR 8 (g2 ex)) with
   |true=>
    exact rk6_0_1 J k0 k1 k2
   |false=>
    exact rk6_0_2 J k0 k1 k2
 |false=>
  cases k1:(lowR 10 (g2 ex)) with
  |true=>
   cases k2:(lowR (g3 ex) 10) with
   |true=>
    exact rk6_0_3 J k0 k1 k2
   |false=>
    exact rk6_0_4 J k0 k1 k2
  |false=>
   cases k2:(lowR (g3 ex) (g2 ex)) with
   |true=>
    exact rk6_0_5 J k0 k1 k2
   |false=>
    exact rk6_0_6 J k0 k1 k2
noncomputable abbrev p6_1 (v:VaT) (Ra:List (List D)) (ri ex:Int) (b:Bool):List (Bool×Bool):=[prL 8 (g3 ex),Q (CV VP 110 (w6_94 v Ra ri ex (tB b)) []=some ⟨.tup (w6_95 v Ra ri ex (tB b)),[],[],0⟩),Q ((w6_38 ex)=(w6_38 ex)),Q ((w6_43 v)=(w6_43 v)),Q (CV VP 197 (w6_44 v (tB b)) []=some ⟨.agg (w6_45 v (tB b)),[],[],0⟩),Q (CV VP 133 (w6_98 v ex (tB b)) (w6_99 v ex (tB b))=some ⟨.d (.lit (.string (tB b))),(w6_99 v ex (tB b)),[],0⟩),Q (w6_63=w6_63),Q ((w6_64 v)=(w6_64 v)),Q (CV VP 197 (w6_65 v (tB b)) []=some ⟨.agg (w6_66 v (tB b)),[],[],0⟩),Q (CV VP 133 (w6_101 v Ra ri (tB b)) (w6_102 v Ra ri ex (tB b))=some ⟨.d (.lit (.string (tB b))),(w6_102 v Ra ri ex (tB b)),[],0⟩),((leF (g0 ex) 0),false),Q (CV VP 197 (w6_44 v (tB b)) []=some ⟨.agg (w6_45 v (tB b)),[],[],0⟩),Q (CV VP 133 (w6_104 v ex (tB b)) []=some ⟨.d (.lit (.string (tB b))),[],[],0⟩),Q (CV VP 197 (w6_65 v (tB b)) []=some ⟨.agg (w6_66 v (tB b)),[],[],0⟩),Q (CV VP 133 (w6_105 v Ra ri) []=some ⟨.d (.lit (.string (tB b))),[],[],0⟩),Q (CV VP 10 [.ptr 0 0] [[E v.R,A 0]]=some ⟨tv6_1 v Ra ri (tB b),[[E v.R,A v.gk]],[],0⟩),Q (CV VP 9 (w6_79 v) []=some ⟨.ptr 0 0,(w6_80 v),[0],1⟩),(lowR 1048580 3,false),prL 1048580 3,(lowR 3 1048580,true),prL 3 1048580]
theorem p6_1_ok {v:VaT} {Ra:List (List D)} {ri ex:Int} {b:Bool} (J:H6 v Ra ri ex b (tv6_1 v Ra ri (tB b))):OKs (p6_1 v Ra ri ex b):=
 have h0:=J.h0;have h1:=J.h1;have H:=J.H;have h10:=J.h10
 .cons (h119 (by decide) (by rw [gv3 h0 h1];omega))<|.cons (prB_of (h110t20 b H.hra H.hla H.mok H.mfine (by rw [gv1 h0 h1];omega)))<|.cons (prB_of rfl)<|.cons (prB_of rfl)<|.cons (prB_of (h32t b v.m H.mok H.mfine))<|.cons (prB_of (H.hrow.elim fun i h=>h.elim fun t0 h=>h.elim fun t1 h=>h133k _ (by kernel_rfl) i h.1 h.2))<|.cons (prB_of rfl)<|.cons (prB_of rfl)<|.cons (prB_of (h32t b v.ms H.msok H.msfine))<|.cons (prB_of (H.hra.elim fun i h=>h.elim fun t0 h=>h.elim fun t1 h=>h133k _ (by kernel_rfl) i h.1 h.2))<|.cons (c6_0 h0 h1)<|.cons (prB_of (h32t b v.m H.mok H.mfine))<|.cons (prB_of (H.hrow.elim fun i h=>h.elim fun t0 h=>h.elim fun t1 h=>h133d _ (by kernel_rfl) i h.1 h.2))<|.cons (prB_of (h32t b v.ms H.msok H.msfine))<|.cons (prB_of (H.hra.elim fun i h=>h.elim fun t0 h=>h.elim fun t1 h=>h133d _ (by kernel_rfl) i h.1 h.2))<|.cons (prB_of h10)<|.cons (prB_of H.h9)<|.cons (by decide)<|.cons (h119 (by decide) (by decide))<|.cons (by decide)<|.cons (h119 (by decide) (by decide))<|.nil
noncomputable abbrev m6_1 (v:VaT) (Ra:List (List D)) (ri ex:Int) (b:Bool):Bool×Bool:=Q (CV VP 110 (w6_107 v ex (tB b)) []=some ⟨.tup (w6_108 v ex (tB b)),[],[],0⟩)
theorem m6_1_ok {v:VaT} {Ra:List (List D)} {ri ex:Int} {b:Bool} (J:H6 v Ra ri ex b (tv6_1 v Ra ri (tB b))) {o:List (Bool×Bool)} (ho:OKs o):OKs (m6_1 v Ra ri ex b::o):=
 have h0:=J.h0;have h1:=J.h1;have H:=J.H
 .cons (prB_of (h110t20 b H.hrow H.hlb H.msok H.msfine (by decide))) ho
theorem rk6_1_0 {v:VaT} {Ra:List (List D)} {ri ex:Int} {b:Bool} (J:H6 v Ra ri ex b (tv6_1 v Ra ri (tB b))) (k0:(lowR 8 (g3 ex))=true) (k1:(lowR 10 (g2 ex))=true):CV VP 6 [E v.X,.d (.lit (.int .u8 ex))] []=some ⟨.d (B true),[],[],0⟩:=
 CV_R (AL_ok v.R v.gk (tB b) (tv6_1 v Ra ri (tB b))) 400 ((4,true)::(19,false)::(21,true)::(0,true)::(138,true)::(2,true)::(0,true)::(1,true)::(1055,false)::(357,true)::(2,true)::(0,true)::(1,true)::(1039,true)::fl6_0) [] rfl rfl (ob:=sb1 ex (m6_1 v Ra ri ex b::sa0 ex (p6_1 v Ra ri ex b))) (by kernel_rfl) (sb1_ok J.h0 J.h1 k0 k1 (m6_1_ok J (sa0_ok J.h0 J.h1 k0 k1 (p6_1_ok J))))
theorem rk6_1_1 {v:VaT} {Ra:List (List D)} {ri ex:Int} {b:Bool} (J:H6 v Ra ri ex b (tv6_1 v Ra ri (tB b))) (k0:(lowR 8 (g3 ex))=true) (k1:(lowR 10 (g2 ex))=false) (k2:(lowR 8 (g2 ex))=true):CV VP 6 [E v.X,.d (.lit (.int .u8 ex))] []=some ⟨.d (B true),[],[],0⟩:=
 CV_R (AL_ok v.R v.gk (tB b) (tv6_1 v Ra ri (tB b))) 400 ((4,true)::(19,false)::(21,true)::(0,true)::(138,true)::(2,true)::(0,true)::(1,true)::(1055,false)::(357,true)::(2,true)::(0,true)::(1,true)::(1039,true)::fl6_1) [] rfl rfl (ob:=sb3 ex (m6_1 v Ra ri ex b::sa2 ex (p6_1 v Ra ri ex b))) (by kernel_rfl) (sb3_ok J.h0 J.h1 k0 k1 k2 (m6_1_ok J (sa2_ok J.h0 J.h1 k0 k1 k2 (p6_1_ok J))))
theorem rk6_1_2 {v:VaT} {Ra:List (List D)} {ri ex:Int} {b:Bool} (J:H6 v Ra ri ex b (tv6_1 v Ra ri (tB b))) (k0:(lowR 8 (g3 ex))=true) (k1:(lowR 10 (g2 ex))=false) (k2:(lowR 8 (g2 ex))=false):CV VP 6 [E v.X,.d (.lit (.int .u8 ex))] []=some ⟨.d (B true),[],[],0⟩:=
 CV_R (AL_ok v.R v.gk (tB b) (tv6_1 v Ra ri (tB b))) 400 ((4,true)::(19,false)::(21,true)::(0,true)::(138,true)::(2,true)::(0,true)::(1,true)::(1055,false)::(357,true)::(2,true)::(0,true)::(1,true)::(1039,true)::fl6_2) [] rfl rfl (ob:=sb5 ex (m6_1 v Ra ri ex b::sa4 ex (p6_1 v Ra ri ex b))) (by kernel_rfl) (sb5_ok J.h0 J.h1 k0 k1 k2 (m6_1_ok J (sa4_ok J.h0 J.h1 k0 k1 k2 (p6_1_ok J))))
theorem rk6_1_3 {v:VaT} {Ra:List (List D)} {ri ex:Int} {b:Bool} (J:H6 v Ra ri ex b (tv6_1 v Ra ri (tB b))) (k0:(lowR 8 (g3 ex))=false) (k1:(lowR 10 (g2 ex))=true) (k2:(lowR (g3 ex) 10)=true):CV VP 6 [E v.X,.d (.lit (.int .u8 ex))] []=some ⟨.d (B true),[],[],0⟩:=
 CV_R (AL_ok v.R v.gk (tB b) (tv6_1 v Ra ri (tB b))) 400 ((4,true)::(19,false)::(21,true)::(0,true)::(138,true)::(2,true)::(0,true)::(1,true)::(1055,false)::(357,true)::(2,true)::(0,true)::(1,true)::(1039,false)::fl6_3) [] rfl rfl (ob:=sb7 ex (m6_1 v Ra ri ex b::sa6 ex (p6_1 v Ra ri ex b))) (by kernel_rfl) (sb7_ok J.h0 J.h1 k0 k1 k2 (m6_1_ok J (sa6_ok J.h0 J.h1 k0 k1 k2 (p6_1_ok J))))
theorem rk6_1_4 {v:VaT} {Ra:List (List D)} {ri ex:Int} {b:Bool} (J:H6 v Ra ri ex b (tv6_1 v Ra ri (tB b))) (k0:(lowR 8 (g3 ex))=false) (k1:(lowR 10 (g2 ex))=true) (k2:(lowR (g3 ex) 10)=false):CV VP 6 [E v.X,.d (.lit (.int .u8 ex))] []=some ⟨.d (B true),[],[],0⟩:=
 CV_R (AL_ok v.R v.gk (tB b) (tv6_1 v Ra ri (tB b))) 400 ((4,true)::(19,false)::(21,true)::(0,true)::(138,true)::(2,true)::(0,true)::(1,true)::(1055,false)::(357,true)::(2,true)::(0,true)::(1,true)::(1039,false)::fl6_4) [] rfl rfl (ob:=sb9 ex (m6_1 v Ra ri ex b::sa8 ex (p6_1 v Ra ri ex b))) (by kernel_rfl) (sb9_ok J.h0 J.h1 k0 k1 k2 (m6_1_ok J (sa8_ok J.h0 J.h1 k0 k1 k2 (p6_1_ok J))))
theorem rk6_1_5 {v:VaT} {Ra:List (List D)} {ri ex:Int} {b:Bool} (J:H6 v Ra ri ex b (tv6_1 v Ra ri (tB b))) (k0:(lowR 8 (g3 ex))=false) (k1:(lowR 10 (g2 ex))=false) (k2:(lowR (g3 ex) (g2 ex))=true):CV VP 6 [E v.X,.d (.lit (.int .u8 ex))] []=some ⟨.d (B true),[],[],0⟩:=
 CV_R (AL_ok v.R v.gk (tB b) (tv6_1 v Ra ri (tB b))) 400 ((4,true)::(19,false)::(21,true)::(0,true)::(138,true)::(2,true)::(0,true)::(1,true)::(1055,false)::(357,true)::(2,true)::(0,true)::(1,true)::(1039,false)::fl6_5) [] rfl rfl (ob:=sb11 ex (m6_1 v Ra ri ex b::sa10 ex (p6_1 v Ra ri ex b))) (by kernel_rfl) (sb11_ok J.h0 J.h1 k0 k1 k2 (m6_1_ok J (sa10_ok J.h0 J.h1 k0 k1 k2 (p6_1_ok J))))
theorem rk6_1_6 {v:VaT} {Ra:List (List D)} {ri ex:Int} {b:Bool} (J:H6 v Ra ri ex b (tv6_1 v Ra ri (tB b))) (k0:(lowR 8 (g3 ex))=false) (k1:(lowR 10 (g2 ex))=false) (k2:(lowR (g3 ex) (g2 ex))=false):CV VP 6 [E v.X,.d (.lit (.int .u8 ex))] []=some ⟨.d (B true),[],[],0⟩:=
 CV_R (AL_ok v.R v.gk (tB b) (tv6_1 v Ra ri (tB b))) 400 ((4,true)::(19,false)::(21,true)::(0,true)::(138,true)::(2,true)::(0,true)::(1,true)::(1055,false)::(357,true)::(2,true)::(0,true)::(1,true)::(1039,false)::fl6_6) [] rfl rfl (ob:=sb13 ex (m6_1 v Ra ri ex b::sa12 ex (p6_1 v Ra ri ex b))) (by kernel_rfl) (sb13_ok J.h0 J.h1 k0 k1 k2 (m6_1_ok J (sa12_ok J.h0 J.h1 k0 k1 k2 (p6_1_ok J))))
theorem rk6_1 {v:VaT} {Ra:List (List D)} {ri ex:Int} {b:Bool} (J:H6 v Ra ri ex b (tv6_1 v Ra ri (tB b))):CV VP 6 [E v.X,.d (.lit (.int .u8 ex))] []=some ⟨.d (B true),[],[],0⟩:=by
 cases k0:(lowR 8 (g3 ex)) with
 |true=>
  cases k1:(lowR 10 (g2 ex)) with
  |true=>
   exact rk6_1_0 J k0 k1
  |false=>
   cases k2:(lowR 8 (g2 ex)) with
   |true=>
    exact rk6_1_1 J k0 k1 k2
   |false=>
    exact rk6_1_2 J k0 k1 k2
 |false=>
  cases k1:(lowR 10 (g2 ex)) with
  |true=>
   cases k2:(lowR (g3 ex) 10) with
   |true=>
    exact rk6_1_3 J k0 k1 k2
   |false=>
    exact rk6_1_4 J k0 k1 k2
  |false=>
   cases k2:(lowR (g3 ex) (g2 ex)) with
   |true=>
    exact rk6_1_5 J k0 k1 k2
   |false=>
    exact rk6_1_6 J k0 k1 k2
noncomputable abbrev p6_2 (v:VaT) (Ra:List (List D)) (ri ex:Int) (b:Bool):List (Bool×Bool):=[prL 9 (g3 ex),Q (CV VP 110 (w6_129 v Ra ri ex (tB b)) []=some ⟨.tup (w6_132 v Ra ri ex (tB b)),[],[],0⟩),Q ((w6_38 ex)=(w6_38 ex)),Q ((w6_43 v)=(w6_43 v)),Q (CV VP 197 (w6_44 v (tB b)) []=some ⟨.agg (w6_45 v (tB b)),[],[],0⟩),Q (CV VP 133 (w6_138 v ex (tB b)) (w6_143 v ex (tB b))=some ⟨.d (.lit (.string (tB b))),(w6_143 v ex (tB b)),[],0⟩),Q (w6_144=w6_144),Q ((w6_64 v)=(w6_64 v)),Q (CV VP 197 (w6_65 v (tB b)) []=some ⟨.agg (w6_66 v (tB b)),[],[],0⟩),Q (CV VP 133 (w6_146 v Ra ri (tB b)) (w6_150 v Ra ri ex (tB b))=some ⟨.d (.lit (.string (tB b))),(w6_150 v Ra ri ex (tB b)),[],0⟩),((leF (g0 ex) 0),false),Q (CV VP 197 (w6_44 v (tB b)) []=some ⟨.agg (w6_45 v (tB b)),[],[],0⟩),Q (CV VP 133 (w6_152 v ex (tB b)) []=some ⟨.d (.lit (.string (tB b))),[],[],0⟩),Q (CV VP 197 (w6_65 v (tB b)) []=some ⟨.agg (w6_66 v (tB b)),[],[],0⟩),Q (CV VP 133 (w6_154 v Ra ri) []=some ⟨.d (.lit (.string (tB b))),[],[],0⟩),Q (CV VP 10 [.ptr 0 0] [[E v.R,A 0]]=some ⟨tv6_2 v Ra ri (tB b),[[E v.R,A v.gk]],[],0⟩),Q (CV VP 9 (w6_79 v) []=some ⟨.ptr 0 0,(w6_80 v),[0],1⟩),(lowR 1048580 3,false),prL 1048580 3,(lowR 3 1048580,true),prL 3 1048580]
theorem p6_2_ok {v:VaT} {Ra:List (List D)} {ri ex:Int} {b:Bool} (J:H6 v Ra ri ex b (tv6_2 v Ra ri (tB b))):OKs (p6_2 v Ra ri ex b):=
 have h0:=J.h0;have h1:=J.h1;have H:=J.H;have h10:=J.h10
 .cons (h119 (by decide) (by rw [gv3 h0 h1];omega))<|.cons (prB_of (h110t20 b H.hra H.hla H.mok H.mfine (by rw [gv1 h0 h1];omega)))<|.cons (prB_of rfl)<|.cons (prB_of rfl)<|.cons (prB_of (h32t b v.m H.mok H.mfine))<|.cons (prB_of (H.hrow.elim fun i h=>h.elim fun t0 h=>h.elim fun t1 h=>h133k _ (by kernel_rfl) i h.1 h.2))<|.cons (prB_of rfl)<|.cons (prB_of rfl)<|.cons (prB_of (h32t b v.ms H.msok H.msfine))<|.cons (prB_of (H.hra.elim fun i h=>h.elim fun t0 h=>h.elim fun t1 h=>h133k _ (by kernel_rfl) i h.1 h.2))<|.cons (c6_0 h0 h1)<|.cons (prB_of (h32t b v.m H.mok H.mfine))<|.cons (prB_of (H.hrow.elim fun i h=>h.elim fun t0 h=>h.elim fun t1 h=>h133d _ (by kernel_rfl) i h.1 h.2))<|.cons (prB_of (h32t b v.ms H.msok H.msfine))<|.cons (prB_of (H.hra.elim fun i h=>h.elim fun t0 h=>h.elim fun t1 h=>h133d _ (by kernel_rfl) i h.1 h.2))<|.cons (prB_of h10)<|.cons (prB_of H.h9)<|.cons (by decide)<|.cons (h119 (by decide) (by decide))<|.cons (by decide)<|.cons (h119 (by decide) (by decide))<|.nil
noncomputable abbrev m6_2 (v:VaT) (Ra:List (List D)) (ri ex:Int) (b:Bool):Bool×Bool:=Q (CV VP 110 (w6_161 v ex (tB b)) []=some ⟨.tup (w6_163 v ex (tB b)),[],[],0⟩)
theorem m6_2_ok {v:VaT} {Ra:List (List D)} {ri ex:Int} {b:Bool} (J:H6 v Ra ri ex b (tv6_2 v Ra ri (tB b))) {o:List (Bool×Bool)} (ho:OKs o):OKs (m6_2 v Ra ri ex b::o):=
 have h0:=J.h0;have h1:=J.h1;have H:=J.H
 .cons (prB_of (h110t20 b H.hrow H.hlb H.msok H.msfine (by decide))) ho
theorem rk6_2_0 {v:VaT} {Ra:List (List D)} {ri ex:Int} {b:Bool} (J:H6 v Ra ri ex b (tv6_2 v Ra ri (tB b))) (k0:(lowR 9 (g3 ex))=true) (k1:(lowR 11 (g2 ex))=true):CV VP 6 [E v.X,.d (.lit (.int .u8 ex))] []=some ⟨.d (B true),[],[],0⟩:=
 CV_R (AL_ok v.R v.gk (tB b) (tv6_2 v Ra ri (tB b))) 400 ((4,true)::(19,false)::(21,true)::(0,true)::(138,true)::(2,true)::(0,true)::(1,true)::(1055,false)::(357,true)::(2,true)::(0,true)::(1,true)::(1039,true)::fl6_7) [] rfl rfl (ob:=sb15 ex (m6_2 v Ra ri ex b::sa14 ex (p6_2 v Ra ri ex b))) (by kernel_rfl) (sb15_ok J.h0 J.h1 k0 k1 (m6_2_ok J (sa14_ok J.h0 J.h1 k0 k1 (p6_2_ok J))))
theorem rk6_2_1 {v:VaT} {Ra:List (List D)} {ri ex:Int} {b:Bool} (J:H6 v Ra ri ex b (tv6_2 v Ra ri (tB b))) (k0:(lowR 9 (g3 ex))=true) (k1:(lowR 11 (g2 ex))=false) (k2:(lowR 9 (g2 ex))=true):CV VP 6 [E v.X,.d (.lit (.int .u8 ex))] []=some ⟨.d (B true),[],[],0⟩:=
 CV_R (AL_ok v.R v.gk (tB b) (tv6_2 v Ra ri (tB b))) 400 ((4,true)::(19,false)::(21,true)::(0,true)::(138,true)::(2,true)::(0,true)::(1,true)::(1055,false)::(357,true)::(2,true)::(0,true)::(1,true)::(1039,true)::fl6_1) [] rfl rfl (ob:=sb17 ex (m6_2 v Ra ri ex b::sa16 ex (p6_2 v Ra ri ex b))) (by kernel_rfl) (sb17_ok J.h0 J.h1 k0 k1 k2 (m6_2_ok J (sa16_ok J.h0 J.h1 k0 k1 k2 (p6_2_ok J))))
theorem rk6_2_2 {v:VaT} {Ra:List (List D)} {ri ex:Int} {b:Bool} (J:H6 v Ra ri ex b (tv6_2 v Ra ri (tB b))) (k0:(lowR 9 (g3 ex))=true) (k1:(lowR 11 (g2 ex))=false) (k2:(lowR 9 (g2 ex))=false):CV VP 6 [E v.X,.d (.lit (.int .u8 ex))] []=some ⟨.d (B true),[],[],0⟩:=
 CV_R (AL_ok v.R v.gk (tB b) (tv6_2 v Ra ri (tB b))) 400 ((4,true)::(19,false)::(21,true)::(0,true)::(138,true)::(2,true)::(0,true)::(1,true)::(1055,false)::(357,true)::(2,true)::(0,true)::(1,true)::(1039,true)::fl6_2) [] rfl rfl (ob:=sb19 ex (m6_2 v Ra ri ex b::sa18 ex (p6_2 v Ra ri ex b))) (by kernel_rfl) (sb19_ok J.h0 J.h1 k0 k1 k2 (m6_2_ok J (sa18_ok J.h0 J.h1 k0 k1 k2 (p6_2_ok J))))
theorem rk6_2_3 {v:VaT} {Ra:List (List D)} {ri ex:Int} {b:Bool} (J:H6 v Ra ri ex b (tv6_2 v Ra ri (tB b))) (k0:(lowR 9 (g3 ex))=false) (k1:(lowR 11 (g2 ex))=true) (k2:(lowR (g3 ex) 11)=true):CV VP 6 [E v.X,.d (.lit (.int .u8 ex))] []=some ⟨.d (B true),[],[],0⟩:=
 CV_R (AL_ok v.R v.gk (tB b) (tv6_2 v Ra ri (tB b))) 400 ((4,true)::(19,false)::(21,true)::(0,true)::(138,true)::(2,true)::(0,true)::(1,true)::(1055,false)::(357,true)::(2,true)::(0,true)::(1,true)::(1039,false)::fl6_3) [] rfl rfl (ob:=sb21 ex (m6_2 v Ra ri ex b::sa20 ex (p6_2 v Ra ri ex b))) (by kernel_rfl) (sb21_ok J.h0 J.h1 k0 k1 k2 (m6_2_ok J (sa20_ok J.h0 J.h1 k0 k1 k2 (p6_2_ok J))))
theorem rk6_2_4 {v:VaT} {Ra:List (List D)} {ri ex:Int} {b:Bool} (J:H6 v Ra ri ex b (tv6_2 v Ra ri (tB b))) (k0:(lowR 9 (g3 ex))=false) (k1:(lowR 11 (g2 ex))=true) (k2:(lowR (g3 ex) 11)=false):CV VP 6 [E v.X,.d (.lit (.int .u8 ex))] []=some ⟨.d (B true),[],[],0⟩:=
 CV_R (AL_ok v.R v.gk (tB b) (tv6_2 v Ra ri (tB b))) 400 ((4,true)::(19,false)::(21,true)::(0,true)::(138,true)::(2,true)::(0,true)::(1,true)::(1055,false)::(357,true)::(2,true)::(0,true)::(1,true)::(1039,false)::fl6_4) [] rfl rfl (ob:=sb23 ex (m6_2 v Ra ri ex b::sa22 ex (p6_2 v Ra ri ex b))) (by kernel_rfl) (sb23_ok J.h0 J.h1 k0 k1 k2 (m6_2_ok J (sa22_ok J.h0 J.h1 k0 k1 k2 (p6_2_ok J))))
theorem rk6_2_5 {v:VaT} {Ra:List (List D)} {ri ex:Int} {b:Bool} (J:H6 v Ra ri ex b (tv6_2 v Ra ri (tB b))) (k0:(lowR 9 (g3 ex))=false) (k1:(lowR 11 (g2 ex))=false) (k2:(lowR (g3 ex) (g2 ex))=true):CV VP 6 [E v.X,.d (.lit (.int .u8 ex))] []=some ⟨.d (B true),[],[],0⟩:=
 CV_R (AL_ok v.R v.gk (tB b) (tv6_2 v Ra ri (tB b))) 400 ((4,true)::(19,false)::(21,true)::(0,true)::(138,true)::(2,true)::(0,true)::(1,true)::(1055,false)::(357,true)::(2,true)::(0,true)::(1,true)::(1039,false)::fl6_5) [] rfl rfl (ob:=sb25 ex (m6_2 v Ra ri ex b::sa24 ex (p6_2 v Ra ri ex b))) (by kernel_rfl) (sb25_ok J.h0 J.h1 k0 k1 k2 (m6_2_ok J (sa24_ok J.h0 J.h1 k0 k1 k2 (p6_2_ok J))))
theorem rk6_2_6 {v:VaT} {Ra:List (List D)} {ri ex:Int} {b:Bool} (J:H6 v Ra ri ex b (tv6_2 v Ra ri (tB b))) (k0:(lowR 9 (g3 ex))=false) (k1:(lowR 11 (g2 ex))=false) (k2:(lowR (g3 ex) (g2 ex))=false):CV VP 6 [E v.X,.d (.lit (.int .u8 ex))] []=some ⟨.d (B true),[],[],0⟩:=
 CV_R (AL_ok v.R v.gk (tB b) (tv6_2 v Ra ri (tB b))) 400 ((4,true)::(19,false)::(21,true)::(0,true)::(138,true)::(2,true)::(0,true)::(1,true)::(1055,false)::(357,true)::(2,true)::(0,true)::(1,true)::(1039,false)::fl6_6) [] rfl rfl (ob:=sb27 ex (m6_2 v Ra ri ex b::sa26 ex (p6_2 v Ra ri ex b))) (by kernel_rfl) (sb27_ok J.h0 J.h1 k0 k1 k2 (m6_2_ok J (sa26_ok J.h0 J.h1 k0 k1 k2 (p6_2_ok J))))
theorem rk6_2 {v:VaT} {Ra:List (List D)} {ri ex:Int} {b:Bool} (J:H6 v Ra ri ex b (tv6_2 v Ra ri (tB b))):CV VP 6 [E v.X,.d (.lit (.int .u8 ex))] []=some ⟨.d (B true),[],[],0⟩:=by
 cases k0:(lowR 9 (g3 ex)) with
 |true=>
  cases k1:(lowR 11 (g2 ex)) with
  |true=>
   exact rk6_2_0 J k0 k1
  |false=>
   cases k2:(lowR 9 (g2 ex)) with
   |true=>
    exact rk6_2_1 J k0 k1 k2
   |false=>
    exact rk6_2_2 J k0 k1 k2
 |false=>
  cases k1:(lowR 11 (g2 ex)) with
  |true=>
   cases k2:(lowR (g3 ex) 11) with
   |true=>
    exact rk6_2_3 J k0 k1 k2
   |false=>
    exact rk6_2_4 J k0 k1 k2
  |false=>
   cases k2:(lowR (g3 ex) (g2 ex)) with
   |true=>
    exact rk6_2_5 J k0 k1 k2
   |false=>
    exact rk6_2_6 J k0 k1 k2
noncomputable abbrev p6_3 (v:VaT) (Ra:List (List D)) (ri ex:Int) (b:Bool):List (Bool×Bool):=[prL 9 (g3 ex),Q (CV VP 110 (w6_166 v Ra ri ex (tB b)) []=some ⟨.tup (w6_167 v Ra ri ex (tB b)),[],[],0⟩),Q ((w6_38 ex)=(w6_38 ex)),Q ((w6_43 v)=(w6_43 v)),Q (CV VP 197 (w6_44 v (tB b)) []=some ⟨.agg (w6_45 v (tB b)),[],[],0⟩),Q (CV VP 133 (w6_170 v ex (tB b)) (w6_171 v ex (tB b))=some ⟨.d (.lit (.string (tB b))),(w6_171 v ex (tB b)),[],0⟩),Q (w6_144=w6_144),Q ((w6_64 v)=(w6_64 v)),Q (CV VP 197 (w6_65 v (tB b)) []=some ⟨.agg (w6_66 v (tB b)),[],[],0⟩),Q (CV VP 133 (w6_173 v Ra ri (tB b)) (w6_174 v Ra ri ex (tB b))=some ⟨.d (.lit (.string (tB b))),(w6_174 v Ra ri ex (tB b)),[],0⟩),((leF (g0 ex) 0),false),Q (CV VP 197 (w6_44 v (tB b)) []=some ⟨.agg (w6_45 v (tB b)),[],[],0⟩),Q (CV VP 133 (w6_175 v ex (tB b)) []=some ⟨.d (.lit (.string (tB b))),[],[],0⟩),Q (CV VP 197 (w6_65 v (tB b)) []=some ⟨.agg (w6_66 v (tB b)),[],[],0⟩),Q (CV VP 133 (w6_176 v Ra ri) []=some ⟨.d (.lit (.string (tB b))),[],[],0⟩),Q (CV VP 10 [.ptr 0 0] [[E v.R,A 0]]=some ⟨tv6_3 v Ra ri (tB b),[[E v.R,A v.gk]],[],0⟩),Q (CV VP 9 (w6_79 v) []=some ⟨.ptr 0 0,(w6_80 v),[0],1⟩),(lowR 1048580 3,false),prL 1048580 3,(lowR 3 1048580,true),prL 3 1048580]
theorem p6_3_ok {v:VaT} {Ra:List (List D)} {ri ex:Int} {b:Bool} (J:H6 v Ra ri ex b (tv6_3 v Ra ri (tB b))):OKs (p6_3 v Ra ri ex b):=
 have h0:=J.h0;have h1:=J.h1;have H:=J.H;have h10:=J.h10
 .cons (h119 (by decide) (by rw [gv3 h0 h1];omega))<|.cons (prB_of (h110t20 b H.hra H.hla H.mok H.mfine (by rw [gv1 h0 h1];omega)))<|.cons (prB_of rfl)<|.cons (prB_of rfl)<|.cons (prB_of (h32t b v.m H.mok H.mfine))<|.cons (prB_of (H.hrow.elim fun i h=>h.elim fun t0 h=>h.elim fun t1 h=>h133k _ (by kernel_rfl) i h.1 h.2))<|.cons (prB_of rfl)<|.cons (prB_of rfl)<|.cons (prB_of (h32t b v.ms H.msok H.msfine))<|.cons (prB_of (H.hra.elim fun i h=>h.elim fun t0 h=>h.elim fun t1 h=>h133k _ (by kernel_rfl) i h.1 h.2))<|.cons (c6_0 h0 h1)<|.cons (prB_of (h32t b v.m H.mok H.mfine))<|.cons (prB_of (H.hrow.elim fun i h=>h.elim fun t0 h=>h.elim fun t1 h=>h133d _ (by kernel_rfl) i h.1 h.2))<|.cons (prB_of (h32t b v.ms H.msok H.msfine))<|.cons (prB_of (H.hra.elim fun i h=>h.elim fun t0 h=>h.elim fun t1 h=>h133d _ (by kernel_rfl) i h.1 h.2))<|.cons (prB_of h10)<|.cons (prB_of H.h9)<|.cons (by decide)<|.cons (h119 (by decide) (by decide))<|.cons (by decide)<|.cons (h119 (by decide) (by decide))<|.nil
noncomputable abbrev m6_3 (v:VaT) (Ra:List (List D)) (ri ex:Int) (b:Bool):Bool×Bool:=Q (CV VP 110 (w6_178 v ex (tB b)) []=some ⟨.tup (w6_179 v ex (tB b)),[],[],0⟩)
theorem m6_3_ok {v:VaT} {Ra:List (List D)} {ri ex:Int} {b:Bool} (J:H6 v Ra ri ex b (tv6_3 v Ra ri (tB b))) {o:List (Bool×Bool)} (ho:OKs o):OKs (m6_3 v Ra ri ex b::o):=
 have h0:=J.h0;have h1:=J.h1;have H:=J.H
 .cons (prB_of (h110t20 b H.hrow H.hlb H.msok H.msfine (by decide))) ho
theorem rk6_3_0 {v:VaT} {Ra:List (List D)} {ri ex:Int} {b:Bool} (J:H6 v Ra ri ex b (tv6_3 v Ra ri (tB b))) (k0:(lowR 9 (g3 ex))=true) (k1:(lowR 11 (g2 ex))=true):CV VP 6 [E v.X,.d (.lit (.int .u8 ex))] []=some ⟨.d (B true),[],[],0⟩:=
 CV_R (AL_ok v.R v.gk (tB b) (tv6_3 v Ra ri (tB b))) 400 ((4,true)::(19,false)::(21,true)::(0,true)::(138,true)::(2,true)::(0,true)::(1,true)::(1055,false)::(357,true)::(2,true)::(0,true)::(1,true)::(1039,true)::fl6_7) [] rfl rfl (ob:=sb15 ex (m6_3 v Ra ri ex b::sa14 ex (p6_3 v Ra ri ex b))) (by kernel_rfl) (sb15_ok J.h0 J.h1 k0 k1 (m6_3_ok J (sa14_ok J.h0 J.h1 k0 k1 (p6_3_ok J))))
theorem rk6_3_1 {v:VaT} {Ra:List (List D)} {ri ex:Int} {b:Bool} (J:H6 v Ra ri ex b (tv6_3 v Ra ri (tB b))) (k0:(lowR 9 (g3 ex))=true) (k1:(lowR 11 (g2 ex))=false) (k2:(lowR 9 (g2 ex))=true):CV VP 6 [E v.X,.d (.lit (.int .u8 ex))] []=some ⟨.d (B true),[],[],0⟩:=
 CV_R (AL_ok v.R v.gk (tB b) (tv6_3 v Ra ri (tB b))) 400 ((4,true)::(19,false)::(21,true)::(0,true)::(138,true)::(2,true)::(0,true)::(1,true)::(1055,false)::(357,true)::(2,true)::(0,true)::(1,true)::(1039,true)::fl6_1) [] rfl rfl (ob:=sb17 ex (m6_3 v Ra ri ex b::sa16 ex (p6_3 v Ra ri ex b))) (by kernel_rfl) (sb17_ok J.h0 J.h1 k0 k1 k2 (m6_3_ok J (sa16_ok J.h0 J.h1 k0 k1 k2 (p6_3_ok J))))
theorem rk6_3_2 {v:VaT} {Ra:List (List D)} {ri ex:Int} {b:Bool} (J:H6 v Ra ri ex b (tv6_3 v Ra ri (tB b))) (k0:(lowR 9 (g3 ex))=true) (k1:(lowR 11 (g2 ex))=false) (k2:(lowR 9 (g2 ex))=false):CV VP 6 [E v.X,.d (.lit (.int .u8 ex))] []=some ⟨.d (B true),[],[],0⟩:=
 CV_R (AL_ok v.R v.gk (tB b) (tv6_3 v Ra ri (tB b))) 400 ((4,true)::(19,false)::(21,true)::(0,true)::(138,true)::(2,true)::(0,true)::(1,true)::(1055,false)::(357,true)::(2,true)::(0,true)::(1,true)::(1039,true)::fl6_2) [] rfl rfl (ob:=sb19 ex (m6_3 v Ra ri ex b::sa18 ex (p6_3 v Ra ri ex b))) (by kernel_rfl) (sb19_ok J.h0 J.h1 k0 k1 k2 (m6_3_ok J (sa18_ok J.h0 J.h1 k0 k1 k2 (p6_3_ok J))))
theorem rk6_3_3 {v:VaT} {Ra:List (List D)} {ri ex:Int} {b:Bool} (J:H6 v Ra ri ex b (tv6_3 v Ra ri (tB b))) (k0:(lowR 9 (g3 ex))=false) (k1:(lowR 11 (g2 ex))=true) (k2:(lowR (g3 ex) 11)=true):CV VP 6 [E v.X,.d (.lit (.int .u8 ex))] []=some ⟨.d (B true),[],[],0⟩:=
 CV_R (AL_ok v.R v.gk (tB b) (tv6_3 v Ra ri (tB b))) 400 ((4,true)::(19,false)::(21,true)::(0,true)::(138,true)::(2,true)::(0,true)::(1,true)::(1055,false)::(357,true)::(2,true)::(0,true)::(1,true)::(1039,false)::fl6_3) [] rfl rfl (ob:=sb21 ex (m6_3 v Ra ri ex b::sa20 ex (p6_3 v Ra ri ex b))) (by kernel_rfl) (sb21_ok J.h0 J.h1 k0 k1 k2 (m6_3_ok J (sa20_ok J.h0 J.h1 k0 k1 k2 (p6_3_ok J))))
theorem rk6_3_4 {v:VaT} {Ra:List (List D)} {ri ex:Int} {b:Bool} (J:H6 v Ra ri ex b (tv6_3 v Ra ri (tB b))) (k0:(lowR 9 (g3 ex))=false) (k1:(lowR 11 (g2 ex))=true) (k2:(lowR (g3 ex) 11)=false):CV VP 6 [E v.X,.d (.lit (.int .u8 ex))] []=some ⟨.d (B true),[],[],0⟩:=
 CV_R (AL_ok v.R v.gk (tB b) (tv6_3 v Ra ri (tB b))) 400 ((4,true)::(19,false)::(21,true)::(0,true)::(138,true)::(2,true)::(0,true)::(1,true)::(1055,false)::(357,true)::(2,true)::(0,true)::(1,true)::(1039,false)::fl6_4) [] rfl rfl (ob:=sb23 ex (m6_3 v Ra ri ex b::sa22 ex (p6_3 v Ra ri ex b))) (by kernel_rfl) (sb23_ok J.h0 J.h1 k0 k1 k2 (m6_3_ok J (sa22_ok J.h0 J.h1 k0 k1 k2 (p6_3_ok J))))
theorem rk6_3_5 {v:VaT} {Ra:List (List D)} {ri ex:Int} {b:Bool} (J:H6 v Ra ri ex b (tv6_3 v Ra ri (tB b))) (k0:(lowR 9 (g3 ex))=false) (k1:(lowR 11 (g2 ex))=false) (k2:(lowR (g3 ex) (g2 ex))=true):CV VP 6 [E v.X,.d (.lit (.int .u8 ex))] []=some ⟨.d (B true),[],[],0⟩:=
 CV_R (AL_ok v.R v.gk (tB b) (tv6_3 v Ra ri (tB b))) 400 ((4,true)::(19,false)::(21,true)::(0,true)::(138,true)::(2,true)::(0,true)::(1,true)::(1055,false)::(357,true)::(2,true)::(0,true)::(1,true)::(1039,false)::fl6_5) [] rfl rfl (ob:=sb25 ex (m6_3 v Ra ri ex b::sa24 ex (p6_3 v Ra ri ex b))) (by kernel_rfl) (sb25_ok J.h0 J.h1 k0 k1 k2 (m6_3_ok J (sa24_ok J.h0 J.h1 k0 k1 k2 (p6_3_ok J))))
theorem rk6_3_6 {v:VaT} {Ra:List (List D)} {ri ex:Int} {b:Bool} (J:H6 v Ra ri ex b (tv6_3 v Ra ri (tB b))) (k0:(lowR 9 (g3 ex))=false) (k1:(lowR 11 (g2 ex))=false) (k2:(lowR (g3 ex) (g2 ex))=false):CV VP 6 [E v.X,.d (.lit (.int .u8 ex))] []=some ⟨.d (B true),[],[],0⟩:=
 CV_R (AL_ok v.R v.gk (tB b) (tv6_3 v Ra ri (tB b))) 400 ((4,true)::(19,false)::(21,true)::(0,true)::(138,true)::(2,true)::(0,true)::(1,true)::(1055,false)::(357,true)::(2,true)::(0,true)::(1,true)::(1039,false)::fl6_6) [] rfl rfl (ob:=sb27 ex (m6_3 v Ra ri ex b::sa26 ex (p6_3 v Ra ri ex b))) (by kernel_rfl) (sb27_ok J.h0 J.h1 k0 k1 k2 (m6_3_ok J (sa26_ok J.h0 J.h1 k0 k1 k2 (p6_3_ok J))))
theorem rk6_3 {v:VaT} {Ra:List (List D)} {ri ex:Int} {b:Bool} (J:H6 v Ra ri ex b (tv6_3 v Ra ri (tB b))):CV VP 6 [E v.X,.d (.lit (.int .u8 ex))] []=some ⟨.d (B true),[],[],0⟩:=by
 cases k0:(lowR 9 (g3 ex)) with
 |true=>
  cases k1:(lowR 11 (g2 ex)) with
  |true=>
   exact rk6_3_0 J k0 k1
  |false=>
   cases k2:(lowR 9 (g2 ex)) with
   |true=>
    exact rk6_3_1 J k0 k1 k2
   |false=>
    exact rk6_3_2 J k0 k1 k2
 |false=>
  cases k1:(lowR 11 (g2 ex)) with
  |true=>
   cases k2:(lowR (g3 ex) 11) with
   |true=>
    exact rk6_3_3 J k0 k1 k2
   |false=>
    exact rk6_3_4 J k0 k1 k2
  |false=>
   cases k2:(lowR (g3 ex) (g2 ex)) with
   |true=>
    exact rk6_3_5 J k0 k1 k2
   |false=>
    exact rk6_3_6 J k0 k1 k2
noncomputable abbrev p6_4 (v:VaT) (Ra:List (List D)) (ri ex:Int) (b:Bool):List (Bool×Bool):=[prL 8 (g3 ex),Q (CV VP 110 (w6_94 v Ra ri ex (tB b)) []=some ⟨.tup (w6_95 v Ra ri ex (tB b)),[],[],0⟩),Q ((w6_38 ex)=(w6_38 ex)),Q ((w6_43 v)=(w6_43 v)),Q (CV VP 197 (w6_44 v (tB b)) []=some ⟨.agg (w6_45 v (tB b)),[],[],0⟩),Q (CV VP 133 (w6_181 v ex (tB b)) (w6_182 v ex (tB b))=some ⟨.d (.lit (.string (tB b))),(w6_182 v ex (tB b)),[],0⟩),Q (w6_63=w6_63),Q ((w6_64 v)=(w6_64 v)),Q (CV VP 197 (w6_65 v (tB b)) []=some ⟨.agg (w6_66 v (tB b)),[],[],0⟩),Q (CV VP 133 (w6_101 v Ra ri (tB b)) (w6_102 v Ra ri ex (tB b))=some ⟨.d (.lit (.string (tB b))),(w6_102 v Ra ri ex (tB b)),[],0⟩),((leF (g0 ex) 0),false),Q (CV VP 197 (w6_44 v (tB b)) []=some ⟨.agg (w6_45 v (tB b)),[],[],0⟩),Q (CV VP 133 (w6_183 v ex (tB b)) []=some ⟨.d (.lit (.string (tB b))),[],[],0⟩),Q (CV VP 197 (w6_65 v (tB b)) []=some ⟨.agg (w6_66 v (tB b)),[],[],0⟩),Q (CV VP 133 (w6_105 v Ra ri) []=some ⟨.d (.lit (.string (tB b))),[],[],0⟩),Q (CV VP 10 [.ptr 0 0] [[E v.R,A 0]]=some ⟨tv6_4 v Ra ri (tB b),[[E v.R,A v.gk]],[],0⟩),Q (CV VP 9 (w6_79 v) []=some ⟨.ptr 0 0,(w6_80 v),[0],1⟩),(lowR 1048580 3,false),prL 1048580 3,(lowR 3 1048580,true),prL 3 1048580]
theorem p6_4_ok {v:VaT} {Ra:List (List D)} {ri ex:Int} {b:Bool} (J:H6 v Ra ri ex b (tv6_4 v Ra ri (tB b))):OKs (p6_4 v Ra ri ex b):=
 have h0:=J.h0;have h1:=J.h1;have H:=J.H;have h10:=J.h10
 .cons (h119 (by decide) (by rw [gv3 h0 h1];omega))<|.cons (prB_of (h110t20 b H.hra H.hla H.mok H.mfine (by rw [gv1 h0 h1];omega)))<|.cons (prB_of rfl)<|.cons (prB_of rfl)<|.cons (prB_of (h32t b v.m H.mok H.mfine))<|.cons (prB_of (H.hrow.elim fun i h=>h.elim fun t0 h=>h.elim fun t1 h=>h133k _ (by kernel_rfl) i h.1 h.2))<|.cons (prB_of rfl)<|.cons (prB_of rfl)<|.cons (prB_of (h32t b v.ms H.msok H.msfine))<|.cons (prB_of (H.hra.elim fun i h=>h.elim fun t0 h=>h.elim fun t1 h=>h133k _ (by kernel_rfl) i h.1 h.2))<|.cons (c6_0 h0 h1)<|.cons (prB_of (h32t b v.m H.mok H.mfine))<|.cons (prB_of (H.hrow.elim fun i h=>h.elim fun t0 h=>h.elim fun t1 h=>h133d _ (by kernel_rfl) i h.1 h.2))<|.cons (prB_of (h32t b v.ms H.msok H.msfine))<|.cons (prB_of (H.hra.elim fun i h=>h.elim fun t0 h=>h.elim fun t1 h=>h133d _ (by kernel_rfl) i h.1 h.2))<|.cons (prB_of h10)<|.cons (prB_of H.h9)<|.cons (by decide)<|.cons (h119 (by decide) (by decide))<|.cons (by decide)<|.cons (h119 (by decide) (by decide))<|.nil
noncomputable abbrev m6_4 (v:VaT) (Ra:List (List D)) (ri ex:Int) (b:Bool):Bool×Bool:=Q (CV VP 110 (w6_184 v ex (tB b)) []=some ⟨.tup (w6_185 v ex (tB b)),[],[],0⟩)
theorem m6_4_ok {v:VaT} {Ra:List (List D)} {ri ex:Int} {b:Bool} (J:H6 v Ra ri ex b (tv6_4 v Ra ri (tB b))) {o:List (Bool×Bool)} (ho:OKs o):OKs (m6_4 v Ra ri ex b::o):=
 have h0:=J.h0;have h1:=J.h1;have H:=J.H
 .cons (prB_of (h110t20 b H.hrow H.hlb H.msok H.msfine (by decide))) ho
theorem rk6_4_0 {v:VaT} {Ra:List (List D)} {ri ex:Int} {b:Bool} (J:H6 v Ra ri ex b (tv6_4 v Ra ri (tB b))) (k0:(lowR 8 (g3 ex))=true) (k1:(lowR 10 (g2 ex))=true):CV VP 6 [E v.X,.d (.lit (.int .u8 ex))] []=some ⟨.d (B true),[],[],0⟩:=
 CV_R (AL_ok v.R v.gk (tB b) (tv6_4 v Ra ri (tB b))) 400 ((4,true)::(19,false)::(21,true)::(0,true)::(138,true)::(2,true)::(0,true)::(1,true)::(1055,false)::(357,true)::(2,true)::(0,true)::(1,true)::(1039,true)::fl6_0) [] rfl rfl (ob:=sb1 ex (m6_4 v Ra ri ex b::sa0 ex (p6_4 v Ra ri ex b))) (by kernel_rfl) (sb1_ok J.h0 J.h1 k0 k1 (m6_4_ok J (sa0_ok J.h0 J.h1 k0 k1 (p6_4_ok J))))
theorem rk6_4_1 {v:VaT} {Ra:List (List D)} {ri ex:Int} {b:Bool} (J:H6 v Ra ri ex b (tv6_4 v Ra ri (tB b))) (k0:(lowR 8 (g3 ex))=true) (k1:(lowR 10 (g2 ex))=false) (k2:(lowR 8 (g2 ex))=true):CV VP 6 [E v.X,.d (.lit (.int .u8 ex))] []=some ⟨.d (B true),[],[],0⟩:=
 CV_R (AL_ok v.R v.gk (tB b) (tv6_4 v Ra ri (tB b))) 400 ((4,true)::(19,false)::(21,true)::(0,true)::(138,true)::(2,true)::(0,true)::(1,true)::(1055,false)::(357,true)::(2,true)::(0,true)::(1,true)::(1039,true)::fl6_1) [] rfl rfl (ob:=sb3 ex (m6_4 v Ra ri ex b::sa2 ex (p6_4 v Ra ri ex b))) (by kernel_rfl) (sb3_ok J.h0 J.h1 k0 k1 k2 (m6_4_ok J (sa2_ok J.h0 J.h1 k0 k1 k2 (p6_4_ok J))))
theorem rk6_4_2 {v:VaT} {Ra:List (List D)} {ri ex:Int} {b:Bool} (J:H6 v Ra ri ex b (tv6_4 v Ra ri (tB b))) (k0:(lowR 8 (g3 ex))=true) (k1:(lowR 10 (g2 ex))=false) (k2:(lowR 8 (g2 ex))=false):CV VP 6 [E v.X,.d (.lit (.int .u8 ex))] []=some ⟨.d (B true),[],[],0⟩:=
 CV_R (AL_ok v.R v.gk (tB b) (tv6_4 v Ra ri (tB b))) 400 ((4,true)::(19,false)::(21,true)::(0,true)::(138,true)::(2,true)::(0,true)::(1,true)::(1055,false)::(357,true)::(2,true)::(0,true)::(1,true)::(1039,true)::fl6_2) [] rfl rfl (ob:=sb5 ex (m6_4 v Ra ri ex b::sa4 ex (p6_4 v Ra ri ex b))) (by kernel_rfl) (sb5_ok J.h0 J.h1 k0 k1 k2 (m6_4_ok J (sa4_ok J.h0 J.h1 k0 k1 k2 (p6_4_ok J))))
theorem rk6_4_3 {v:VaT} {Ra:List (List D)} {ri ex:Int} {b:Bool} (J:H6 v Ra ri ex b (tv6_4 v Ra ri (tB b))) (k0:(lowR 8 (g3 ex))=false) (k1:(lowR 10 (g2 ex))=true) (k2:(lowR (g3 ex) 10)=true):CV VP 6 [E v.X,.d (.lit (.int .u8 ex))] []=some ⟨.d (B true),[],[],0⟩:=
 CV_R (AL_ok v.R v.gk (tB b) (tv6_4 v Ra ri (tB b))) 400 ((4,true)::(19,false)::(21,true)::(0,true)::(138,true)::(2,true)::(0,true)::(1,true)::(1055,false)::(357,true)::(2,true)::(0,true)::(1,true)::(1039,false)::fl6_3) [] rfl rfl (ob:=sb7 ex (m6_4 v Ra ri ex b::sa6 ex (p6_4 v Ra ri ex b))) (by kernel_rfl) (sb7_ok J.h0 J.h1 k0 k1 k2 (m6_4_ok J (sa6_ok J.h0 J.h1 k0 k1 k2 (p6_4_ok J))))
theorem rk6_4_4 {v:VaT} {Ra:List (List D)} {ri ex:Int} {b:Bool} (J:H6 v Ra ri ex b (tv6_4 v Ra ri (tB b))) (k0:(lowR 8 (g3 ex))=false) (k1:(lowR 10 (g2 ex))=true) (k2:(lowR (g3 ex) 10)=false):CV VP 6 [E v.X,.d (.lit (.int .u8 ex))] []=some ⟨.d (B true),[],[],0⟩:=
 CV_R (AL_ok v.R v.gk (tB b) (tv6_4 v Ra ri (tB b))) 400 ((4,true)::(19,false)::(21,true)::(0,true)::(138,true)::(2,true)::(0,true)::(1,true)::(1055,false)::(357,true)::(2,true)::(0,true)::(1,true)::(1039,false)::fl6_4) [] rfl rfl (ob:=sb9 ex (m6_4 v Ra ri ex b::sa8 ex (p6_4 v Ra ri ex b))) (by kernel_rfl) (sb9_ok J.h0 J.h1 k0 k1 k2 (m6_4_ok J (sa8_ok J.h0 J.h1 k0 k1 k2 (p6_4_ok J))))
theorem rk6_4_5 {v:VaT} {Ra:List (List D)} {ri ex:Int} {b:Bool} (J:H6 v Ra ri ex b (tv6_4 v Ra ri (tB b))) (k0:(lowR 8 (g3 ex))=false) (k1:(lowR 10 (g2 ex))=false) (k2:(lowR (g3 ex) (g2 ex))=true):CV VP 6 [E v.X,.d (.lit (.int .u8 ex))] []=some ⟨.d (B true),[],[],0⟩:=
 CV_R (AL_ok v.R v.gk (tB b) (tv6_4 v Ra ri (tB b))) 400 ((4,true)::(19,false)::(21,true)::(0,true)::(138,true)::(2,true)::(0,true)::(1,true)::(1055,false)::(357,true)::(2,true)::(0,true)::(1,true)::(1039,false)::fl6_5) [] rfl rfl (ob:=sb11 ex (m6_4 v Ra ri ex b::sa10 ex (p6_4 v Ra ri ex b))) (by kernel_rfl) (sb11_ok J.h0 J.h1 k0 k1 k2 (m6_4_ok J (sa10_ok J.h0 J.h1 k0 k1 k2 (p6_4_ok J))))
theorem rk6_4_6 {v:VaT} {Ra:List (List D)} {ri ex:Int} {b:Bool} (J:H6 v Ra ri ex b (tv6_4 v Ra ri (tB b))) (k0:(lowR 8 (g3 ex))=false) (k1:(lowR 10 (g2 ex))=false) (k2:(lowR (g3 ex) (g2 ex))=false):CV VP 6 [E v.X,.d (.lit (.int .u8 ex))] []=some ⟨.d (B true),[],[],0⟩:=
 CV_R (AL_ok v.R v.gk (tB b) (tv6_4 v Ra ri (tB b))) 400 ((4,true)::(19,false)::(21,true)::(0,true)::(138,true)::(2,true)::(0,true)::(1,true)::(1055,false)::(357,true)::(2,true)::(0,true)::(1,true)::(1039,false)::fl6_6) [] rfl rfl (ob:=sb13 ex (m6_4 v Ra ri ex b::sa12 ex (p6_4 v Ra ri ex b))) (by kernel_rfl) (sb13_ok J.h0 J.h1 k0 k1 k2 (m6_4_ok J (sa12_ok J.h0 J.h1 k0 k1 k2 (p6_4_ok J))))
theorem rk6_4 {v:VaT} {Ra:List (List D)} {ri ex:Int} {b:Bool} (J:H6 v Ra ri ex b (tv6_4 v Ra ri (tB b))):CV VP 6 [E v.X,.d (.lit (.int .u8 ex))] []=some ⟨.d (B true),[],[],0⟩:=by
 cases k0:(lowR 8 (g3 ex)) with
 |true=>
  cases k1:(lowR 10 (g2 ex)) with
  |true=>
   exact rk6_4_0 J k0 k1
  |false=>
   cases k2:(lowR 8 (g2 ex)) with
   |true=>
    exact rk6_4_1 J k0 k1 k2
   |false=>
    exact rk6_4_2 J k0 k1 k2
 |false=>
  cases k1:(lowR 10 (g2 ex)) with
  |true=>
   cases k2:(lowR (g3 ex) 10) with
   |true=>
    exact rk6_4_3 J k0 k1 k2
   |false=>
    exact rk6_4_4 J k0 k1 k2
  |false=>
   cases k2:(lowR (g3 ex) (g2 ex)) with
   |true=>
    exact rk6_4_5 J k0 k1 k2
   |false=>
    exact rk6_4_6 J k0 k1 k2
theorem rk6z_0 {v:VaT} {Ra:List (List D)} {ri:Int} (b:Bool) (ex:Int) (H:HKz v) (h10:CV VP 10 [.ptr 0 0] [[E v.R,A 0]]=some ⟨tz6_0 v Ra ri (tB b),[[E v.R,A v.gk]],[],0⟩):CV VP 6 [E v.X,.d (.lit (.int .u8 ex))] []=some ⟨.d (B true),[],[],0⟩:=
 CV_R (AL_ok v.R v.gk (tB b) (tz6_0 v Ra ri (tB b))) 400 [(4,true),(19,false)] [] rfl rfl (ob:=[Q (CV VP 10 [.ptr 0 0] [[E v.R,A 0]]=some ⟨tz6_0 v Ra ri (tB b),[[E v.R,A v.gk]],[],0⟩),Q (CV VP 9 (w6_79 v) []=some ⟨.ptr 0 0,(w6_80 v),[0],1⟩),(lowR 1048580 3,false),prL 1048580 3,(lowR 3 1048580,true),prL 3 1048580]) (by kernel_rfl) (.cons (prB_of h10)<|.cons (prB_of H.h9)<|.cons (by decide)<|.cons (h119 (by decide) (by decide))<|.cons (by decide)<|.cons (h119 (by decide) (by decide))<|.nil)
theorem rk6z_1 {v:VaT} {Ra:List (List D)} {ri:Int} (b:Bool) (ex:Int) (H:HKz v) (h10:CV VP 10 [.ptr 0 0] [[E v.R,A 0]]=some ⟨tz6_1 v Ra ri (tB b),[[E v.R,A v.gk]],[],0⟩):CV VP 6 [E v.X,.d (.lit (.int .u8 ex))] []=some ⟨.d (B true),[],[],0⟩:=
 CV_R (AL_ok v.R v.gk (tB b) (tz6_1 v Ra ri (tB b))) 400 [(4,true),(19,false)] [] rfl rfl (ob:=[Q (CV VP 10 [.ptr 0 0] [[E v.R,A 0]]=some ⟨tz6_1 v Ra ri (tB b),[[E v.R,A v.gk]],[],0⟩),Q (CV VP 9 (w6_79 v) []=some ⟨.ptr 0 0,(w6_80 v),[0],1⟩),(lowR 1048580 3,false),prL 1048580 3,(lowR 3 1048580,true),prL 3 1048580]) (by kernel_rfl) (.cons (prB_of h10)<|.cons (prB_of H.h9)<|.cons (by decide)<|.cons (h119 (by decide) (by decide))<|.cons (by decide)<|.cons (h119 (by decide) (by decide))<|.nil)
theorem rk6z_2 {v:VaT} {Ra:List (List D)} {ri:Int} (b:Bool) (ex:Int) (H:HKz v) (h10:CV VP 10 [.ptr 0 0] [[E v.R,A 0]]=some ⟨tz6_2 v Ra ri (tB b),[[E v.R,A v.gk]],[],0⟩):CV VP 6 [E v.X,.d (.lit (.int .u8 ex))] []=some ⟨.d (B true),[],[],0⟩:=
 CV_R (AL_ok v.R v.gk (tB b) (tz6_2 v Ra ri (tB b))) 400 [(4,true),(19,false)] [] rfl rfl (ob:=[Q (CV VP 10 [.ptr 0 0] [[E v.R,A 0]]=some ⟨tz6_2 v Ra ri (tB b),[[E v.R,A v.gk]],[],0⟩),Q (CV VP 9 (w6_79 v) []=some ⟨.ptr 0 0,(w6_80 v),[0],1⟩),(lowR 1048580 3,false),prL 1048580 3,(lowR 3 1048580,true),prL 3 1048580]) (by kernel_rfl) (.cons (prB_of h10)<|.cons (prB_of H.h9)<|.cons (by decide)<|.cons (h119 (by decide) (by decide))<|.cons (by decide)<|.cons (h119 (by decide) (by decide))<|.nil)
theorem rk6z_3 {v:VaT} {Ra:List (List D)} {ri:Int} (b:Bool) (ex:Int) (H:HKz v) (h10:CV VP 10 [.ptr 0 0] [[E v.R,A 0]]=some ⟨tz6_3 v Ra ri (tB b),[[E v.R,A v.gk]],[],0⟩):CV VP 6 [E v.X,.d (.lit (.int .u8 ex))] []=some ⟨.d (B true),[],[],0⟩:=
 CV_R (AL_ok v.R v.gk (tB b) (tz6_3 v Ra ri (tB b))) 400 [(4,true),(19,false)] [] rfl rfl (ob:=[Q (CV VP 10 [.ptr 0 0] [[E v.R,A 0]]=some ⟨tz6_3 v Ra ri (tB b),[[E v.R,A v.gk]],[],0⟩),Q (CV VP 9 (w6_79 v) []=some ⟨.ptr 0 0,(w6_80 v),[0],1⟩),(lowR 1048580 3,false),prL 1048580 3,(lowR 3 1048580,true),prL 3 1048580]) (by kernel_rfl) (.cons (prB_of h10)<|.cons (prB_of H.h9)<|.cons (by decide)<|.cons (h119 (by decide) (by decide))<|.cons (by decide)<|.cons (h119 (by decide) (by decide))<|.nil)
theorem rk6z_4 {v:VaT} {Ra:List (List D)} {ri:Int} (b:Bool) (ex:Int) (H:HKz v) (h10:CV VP 10 [.ptr 0 0] [[E v.R,A 0]]=some ⟨tz6_4 v Ra ri (tB b),[[E v.R,A v.gk]],[],0⟩):CV VP 6 [E v.X,.d (.lit (.int .u8 ex))] []=some ⟨.d (B true),[],[],0⟩:=
 CV_R (AL_ok v.R v.gk (tB b) (tz6_4 v Ra ri (tB b))) 400 [(4,true),(19,false)] [] rfl rfl (ob:=[Q (CV VP 10 [.ptr 0 0] [[E v.R,A 0]]=some ⟨tz6_4 v Ra ri (tB b),[[E v.R,A v.gk]],[],0⟩),Q (CV VP 9 (w6_79 v) []=some ⟨.ptr 0 0,(w6_80 v),[0],1⟩),(lowR 1048580 3,false),prL 1048580 3,(lowR 3 1048580,true),prL 3 1048580]) (by kernel_rfl) (.cons (prB_of h10)<|.cons (prB_of H.h9)<|.cons (by decide)<|.cons (h119 (by decide) (by decide))<|.cons (by decide)<|.cons (h119 (by decide) (by decide))<|.nil)
theorem rk6z_5 {v:VaT} {Ra:List (List D)} {ri:Int} (b:Bool) (ex:Int) (H:HKz v) (h10:CV VP 10 [.ptr 0 0] [[E v.R,A 0]]=some ⟨tz6_5 v Ra ri (tB b),[[E v.R,A v.gk]],[],0⟩):CV VP 6 [E v.X,.d (.lit (.int .u8 ex))] []=some ⟨.d (B true),[],[],0⟩:=
 CV_R (AL_ok v.R v.gk (tB b) (tz6_5 v Ra ri (tB b))) 400 [(4,true),(19,false)] [] rfl rfl (ob:=[Q (CV VP 10 [.ptr 0 0] [[E v.R,A 0]]=some ⟨tz6_5 v Ra ri (tB b),[[E v.R,A v.gk]],[],0⟩),Q (CV VP 9 (w6_79 v) []=some ⟨.ptr 0 0,(w6_80 v),[0],1⟩),(lowR 1048580 3,false),prL 1048580 3,(lowR 3 1048580,true),prL 3 1048580]) (by kernel_rfl) (.cons (prB_of h10)<|.cons (prB_of H.h9)<|.cons (by decide)<|.cons (h119 (by decide) (by decide))<|.cons (by decide)<|.cons (h119 (by decide) (by decide))<|.nil)
theorem e6L {l:List Int} (hB:ByteL l) (n1:Int) (h0:0≤n1) (h1:n1<256):CV VP 6 [.d (byteD l),.d (.lit (.int .u8 n1))] []=some ⟨.d (B true),[],[],0⟩:=by
 refine two_all hB ?_ ?_
 ·intro v Ra ri n t hn hX H h10
  show CV VP 6 [.d (.sl (l.map byteRow)),.d (.lit (.int .u8 n1))] []=_
  rw [← hX]
  match n,hn with
  |0,_=>rw [tz6e_0] at h10;exact rk6z_0 t n1 H h10
  |1,_=>rw [tz6e_1] at h10;exact rk6z_1 t n1 H h10
  |2,_=>rw [tz6e_2] at h10;exact rk6z_2 t n1 H h10
  |3,_=>rw [tz6e_3] at h10;exact rk6z_3 t n1 H h10
  |4,_=>rw [tz6e_4] at h10;exact rk6z_4 t n1 H h10
  |5,_=>rw [tz6e_5] at h10;exact rk6z_5 t n1 H h10
 ·intro v Ra ri n t hn hX H h10
  show CV VP 6 [.d (.sl (l.map byteRow)),.d (.lit (.int .u8 n1))] []=_
  rw [← hX]
  match n,hn with
  |0,_=>rw [tv6e_0] at h10;exact rk6_0 ⟨h0,h1,H,h10⟩
  |1,_=>rw [tv6e_1] at h10;exact rk6_1 ⟨h0,h1,H,h10⟩
  |2,_=>rw [tv6e_2] at h10;exact rk6_2 ⟨h0,h1,H,h10⟩
  |3,_=>rw [tv6e_3] at h10;exact rk6_3 ⟨h0,h1,H,h10⟩
  |4,_=>rw [tv6e_4] at h10;exact rk6_4 ⟨h0,h1,H,h10⟩
end Go.Proofs.YtlcbgdnfkmbhkaaGreat
