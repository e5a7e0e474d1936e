/- The law RekeyRefuses on the machine: it answers true. Conditions: none. -/
import Derived.Test.YtlcbgdnfkmbhkaaGreatVd
import Derived.Test.YtlcbgdnfkmbhkaaGreatRru
import Derived.Test.YtlcbgdnfkmbhkaaGreatRrv
set_option linter.unusedSimpArgs false
set_option linter.unusedVariables false
set_option maxRecDepth 100000
set_option maxHeartbeats 4000000
namespace Go.Proofs.YtlcbgdnfkmbhkaaGreat
open Go.VM
theorem gk_list {x:Nat} (hx:x<12):(grpA x=[31]∧grpB x=[31])∨(grpA x=[31,1024]∧grpB x=[31,1024])∨(grpA x=[31,1024]∧grpB x=[1024,31])∨(grpA x=[1024,31]∧grpB x=[31,1024])∨(grpA x=[31,1024]∧grpB x=[31])∨(grpA x=[1024]∧grpB x=[31]):=by
 match x,hx with
 |0,_=>exact .inl ⟨rfl,rfl⟩
 |1,_=>exact .inr (.inl ⟨rfl,rfl⟩)
 |2,_=>exact .inr (.inr (.inl ⟨rfl,rfl⟩))
 |3,_=>exact .inr (.inr (.inr (.inl ⟨rfl,rfl⟩)))
 |4,_=>exact .inr (.inr (.inr (.inr (.inl ⟨rfl,rfl⟩))))
 |5,_=>exact .inl ⟨rfl,rfl⟩
 |6,_=>exact .inl ⟨rfl,rfl⟩
 |7,_=>exact .inl ⟨rfl,rfl⟩
 |8,_=>exact .inl ⟨rfl,rfl⟩
 |9,_=>exact .inl ⟨rfl,rfl⟩
 |10,_=>exact .inl ⟨rfl,rfl⟩
 |11,_=>exact .inr (.inr (.inr (.inr (.inr (⟨rfl,rfl⟩)))))
def tB:Bool→ByteArray
 |true=>⟨#[103,111,108,100]⟩
 |false=>⟨#[115,105,108,118,101,114]⟩
def gAD:Nat→D
 |0=>.sl [[I 31]]
 |1=>.sl [[I 31],[I 1024]]
 |2=>.sl [[I 31],[I 1024]]
 |3=>.sl [[I 1024],[I 31]]
 |4=>.sl [[I 31],[I 1024]]
 |_=>.sl [[I 1024]]
def gBD:Nat→D
 |0=>.sl [[I 31]]
 |1=>.sl [[I 31],[I 1024]]
 |2=>.sl [[I 1024],[I 31]]
 |3=>.sl [[I 31],[I 1024]]
 |4=>.sl [[I 31]]
 |_=>.sl [[I 31]]
def twSV:Nat→Bool→VaT→List (List D)→Int→V
 |0,true,v,Ra,ri=>twS0g v Ra ri
 |0,false,v,Ra,ri=>twS0s v Ra ri
 |1,true,v,Ra,ri=>twS1g v Ra ri
 |1,false,v,Ra,ri=>twS1s v Ra ri
 |2,true,v,Ra,ri=>twS2g v Ra ri
 |2,false,v,Ra,ri=>twS2s v Ra ri
 |3,true,v,Ra,ri=>twS3g v Ra ri
 |3,false,v,Ra,ri=>twS3s v Ra ri
 |4,true,v,Ra,ri=>twS4g v Ra ri
 |4,false,v,Ra,ri=>twS4s v Ra ri
 |_,_,_,_,_=>.any
def twZV:Nat→Bool→VaT→List (List D)→Int→V
 |0,true,v,Ra,ri=>twZ0g v Ra ri
 |0,false,v,Ra,ri=>twZ0s v Ra ri
 |1,true,v,Ra,ri=>twZ1g v Ra ri
 |1,false,v,Ra,ri=>twZ1s v Ra ri
 |2,true,v,Ra,ri=>twZ2g v Ra ri
 |2,false,v,Ra,ri=>twZ2s v Ra ri
 |3,true,v,Ra,ri=>twZ3g v Ra ri
 |3,false,v,Ra,ri=>twZ3s v Ra ri
 |4,true,v,Ra,ri=>twZ4g v Ra ri
 |4,false,v,Ra,ri=>twZ4s v Ra ri
 |_,_,v,Ra,ri=>twZ5g v Ra ri
theorem twoS {n:Nat} (hn:n<5) (t:Bool) {v:VaT} (p:List (List D)) {bs Rt:List (List D)} (hp:p.length≤2) (hpt:p.length=2→t=true) (H:HTs v (p++[I 2,.lit (.string (tB t)),.sl bs]::Rt) (p.length:Nat) (gAD n) (gBD n) (tB t)) :
  CV VP 10 [.ptr 0 0] [[.d (.sl v.R),.d (I 0)]]=some ⟨twSV n t v (p++[I 2,.lit (.string (tB t)),.sl bs]::Rt) (p.length:Nat),[[.d (.sl v.R),.d (I v.gk)]],[],0⟩:=by
 match n,hn,t,p,hp,hpt,H with
 |0,_,true,[],_,_,H=>exact two0_s0_g H
 |0,_,true,[ro],_,_,H=>exact two0_s1_g H
 |0,_,false,[],_,_,H=>exact two0_s0_s H
 |0,_,false,[ro],_,_,H=>exact two0_s1_s H
 |0,_,true,[rp,ro],_,_,H=>exact two0_s2_g H
 |1,_,true,[],_,_,H=>exact two1_s0_g H
 |1,_,true,[ro],_,_,H=>exact two1_s1_g H
 |1,_,false,[],_,_,H=>exact two1_s0_s H
 |1,_,false,[ro],_,_,H=>exact two1_s1_s H
 |1,_,true,[rp,ro],_,_,H=>exact two1_s2_g H
 |2,_,true,[],_,_,H=>exact two2_s0_g H
 |2,_,true,[ro],_,_,H=>exact two2_s1_g H
 |2,_,false,[],_,_,H=>exact two2_s0_s H
 |2,_,false,[ro],_,_,H=>exact two2_s1_s H
 |2,_,true,[rp,ro],_,_,H=>exact two2_s2_g H
 |3,_,true,[],_,_,H=>exact two3_s0_g H
 |3,_,true,[ro],_,_,H=>exact two3_s1_g H
 |3,_,false,[],_,_,H=>exact two3_s0_s H
 |3,_,false,[ro],_,_,H=>exact two3_s1_s H
 |3,_,true,[rp,ro],_,_,H=>exact two3_s2_g H
 |4,_,true,[],_,_,H=>exact two4_s0_g H
 |4,_,true,[ro],_,_,H=>exact two4_s1_g H
 |4,_,false,[],_,_,H=>exact two4_s0_s H
 |4,_,false,[ro],_,_,H=>exact two4_s1_s H
 |4,_,true,[rp,ro],_,_,H=>exact two4_s2_g H
 |_,_,false,[_,_],_,hpt,_=>exact absurd (hpt rfl) (by decide)
 |_,_,_,_::_::_::_,hp,_,_=>exact absurd hp (by simp)
 |n+5,hn,_,_,_,_,_=>exact absurd hn (by omega)
theorem twoZ {n:Nat} (hn:n<5) (t:Bool) {v:VaT} {Ra:List (List D)} {ri:Int} (H:HTz v Ra ri (gAD n) (gBD n) (tB t)) :
  CV VP 10 [.ptr 0 0] [[.d (.sl v.R),.d (I 0)]]=some ⟨twZV n t v Ra ri,[[.d (.sl v.R),.d (I v.gk)]],[],0⟩:=by
 match n,hn,t,H with
 |0,_,true,H=>exact two0_zv_g H
 |0,_,false,H=>exact two0_zv_s H
 |1,_,true,H=>exact two1_zv_g H
 |1,_,false,H=>exact two1_zv_s H
 |2,_,true,H=>exact two2_zv_g H
 |2,_,false,H=>exact two2_zv_s H
 |3,_,true,H=>exact two3_zv_g H
 |3,_,false,H=>exact two3_zv_s H
 |4,_,true,H=>exact two4_zv_g H
 |4,_,false,H=>exact two4_zv_s H
theorem two5_all {v:VaT} {Ra:List (List D)} {ri:Int} (t:Bool) (H:HT0 v Ra ri (gAD 5) (gBD 5) (tB t)):CV VP 10 [.ptr 0 0] [[.d (.sl v.R),.d (I 0)]]=some ⟨twZV 5 true v Ra ri,[[.d (.sl v.R),.d (I v.gk)]],[],0⟩:=two5_zv_g (t:=tB t) H
theorem gwT_eq (ra rb:List Ru) (ga gb:List Int):V.tup [(gwN 0 1 2 ra ga).ag,(gwN 1 2 1 rb gb).ag]=gwT (ra.map Ru.row) (.sl (ga.map numRow)) (rb.map Ru.row) (.sl (gb.map numRow)):=by kernel_rfl
theorem first_prot {l:List Int} (hB:Bytes l) (k:Nat):∃ (pre tail:List Ru) (t:Bool) (x:Bx) (more:List Bx),(ruS l 0 k).1=pre++⟨2,tB t,x::more⟩::tail∧(∀ p∈pre,p.act≠2)∧pre.length≤2∧(pre.length=2→t=true)∧x.ok∧x.fine:=by
 obtain ⟨pre,x,more,tail,hr,hp,_,_,ho,hf,hpre⟩:=ruS_pre hB (s:=0) (by decide) (by decide) k
 rw [hr]
 match pre,hp,hpre with
 |[],_,_=>exact ⟨[],tail,true,x,more,rfl,by simp,by simp,by simp,ho,hf⟩
 |[⟨ua,ut,ub⟩],_,hpre=>
  obtain ⟨h1,y,hy,yo,yf⟩:=hpre _ (List.mem_singleton.2 rfl)
  simp only at h1 hy
  rcases h1 with ⟨h1,h2⟩|h1
  ·subst h1 h2 hy;exact ⟨[],⟨2,gold,x::more⟩::tail,false,y,[],rfl,by simp,by simp,by simp,yo,yf⟩
  ·exact ⟨[⟨ua,ut,ub⟩],tail,true,x,more,rfl,by simp;omega,by simp,by simp,ho,hf⟩
 |[⟨ua,ut,ub⟩,⟨wa,wt,wb⟩],_,hpre=>
  obtain ⟨h1,y,hy,yo,yf⟩:=hpre _ List.mem_cons_self
  obtain ⟨h3,z,hz,zo,zf⟩:=hpre _ (List.mem_cons_of_mem _ (List.mem_singleton.2 rfl))
  simp only at h1 hy h3 hz
  rcases h1 with ⟨h1,h2⟩|h1
  ·subst h1 h2 hy;exact ⟨[],⟨wa,wt,wb⟩::⟨2,gold,x::more⟩::tail,false,y,[],rfl,by simp,by simp,by simp,yo,yf⟩
  ·rcases h3 with ⟨h3,h4⟩|h3
   ·subst h3 h4 hz;exact ⟨[⟨ua,ut,ub⟩],⟨2,gold,x::more⟩::tail,false,z,[],rfl,by simp;omega,by simp,by simp,zo,zf⟩
   ·exact ⟨[⟨ua,ut,ub⟩,⟨wa,wt,wb⟩],tail,true,x,more,rfl,by simp;omega,by simp,by simp,ho,hf⟩
 |_::_::_::_,hp,_=>exact absurd hp (by simp)
theorem tm_tB {r:Ru} {t:Bool} (hf:r.fine) (h:(r.tm.toList==(tB t).toList)=true):r.tm=tB t:=by
 cases t with
 |true=>exact tm_gold hf h
 |false=>exact tm_silver hf h
structure HKz (v:VaT):Prop where
 h9:CV VP 9 [.d (.sl v.X),.d (I 120)] []=some ⟨.ptr 0 0,[[.sl 1 v.R (.own 0 0),.d (I 0)]],[0],1⟩
structure HKs (v:VaT) (Ra:List (List D)) (ri:Int) (t:ByteArray):Prop where
 h9:CV VP 9 [.d (.sl v.X),.d (I 120)] []=some ⟨.ptr 0 0,[[.sl 1 v.R (.own 0 0),.d (I 0)]],[0],1⟩
 hra:∃ (i:Nat) (a b:D),ri=(i:Int)∧Ra[i]?=some [a,.lit (.string t),b]
 hrow:∃ (i:Nat) (a b:D),v.rr=(i:Int)∧v.Rb[i]?=some [a,.lit (.string t),b]
 hla:Ra.length≤4
 hlb:v.Rb.length≤4
 mok:v.m.ok
 mfine:v.m.fine
 msok:v.ms.ok
 msfine:v.ms.fine
theorem two_all {l:List Int} (hB:ByteL l) {A:Prop}
  (hz:∀ (v:VaT) (Ra:List (List D)) (ri:Int) (n:Nat) (t:Bool),n<6→(n=5→t=true)→v.X=l.map byteRow→HKz v→CV VP 10 [.ptr 0 0] [[.d (.sl v.R),.d (I 0)]]=some ⟨twZV n t v Ra ri,[[.d (.sl v.R),.d (I v.gk)]],[],0⟩→A)
  (hs:∀ (v:VaT) (Ra:List (List D)) (ri:Int) (n:Nat) (t:Bool),n<5→v.X=l.map byteRow→HKs v Ra ri (tB t)→CV VP 10 [.ptr 0 0] [[.d (.sl v.R),.d (I 0)]]=some ⟨twSV n t v Ra ri,[[.d (.sl v.R),.d (I v.gk)]],[],0⟩→A):A:=by
 have hb:Bytes (l.take 120):=bytes_take hB 120 (by decide)
 have h9:=e21 (l:=l) 120 (by decide)
 have h37:∀ own:List (List V),own.map V.erL=own→own.all (V.ltbL (1+own.length))=true→CV VP 37 [.ptr 0 0] ([.d (.sl ((l.take 120).map byteRow)),.d (I 0)]::own)=some ⟨.tup [(gaF (l.take 120) 0).1.1.ag,(gaF (l.take 120) 0).1.2.ag],[.d (.sl ((l.take 120).map byteRow)),.d (I ((gaF (l.take 120) 0).2:Nat))]::own,[],0⟩:=fun own he hl=>
  cx_lift (bl:=[[]]) (e36b hb 0 0) CtxOk.base he hl
 generalize l.take 120=q at *
 obtain ⟨pre,tail,t,x,more,hr,hpre,hpl,hpt,ho,hf⟩:=first_prot hb (nxA q 0)
 rw [show (gaF q 0).1.1=gwN 0 1 2 (ruS q 0 (nxA q 0)).1 (grpA (nxV q 0 12).toNat) from rfl,
  show (gaF q 0).1.2=gwN 1 2 1 (ruS q 1 (ruS q 0 (nxA q 0)).2).1 (grpB (nxV q 0 12).toNat) from rfl] at h37
 have hla:=(ruS_len hb 0 (nxA q 0)).1
 have hrf:=ruS_fine hb (s:=1) (by decide) (by decide) (ruS q 0 (nxA q 0)).2
 have hrl:=(ruS_len hb 1 (ruS q 0 (nxA q 0)).2).1
 have hx:=nxV_range hb (k:=0) (n:=12) (by decide)
 have hg:=gk_list (x:=(nxV q 0 12).toNat) (by omega)
 rw [hr] at h37 hla
 generalize (ruS q 1 (ruS q 0 (nxA q 0)).2).1=rb at h37 hrf hrl
 generalize (gaF q 0).2=gk at h37
 generalize grpA (nxV q 0 12).toNat=ga at h37 hg
 generalize grpB (nxV q 0 12).toNat=gb at h37 hg
 clear hr hx
 simp only [gwT_eq] at h37
 have hgn:∃ n,n<6∧D.sl (ga.map numRow)=gAD n∧D.sl (gb.map numRow)=gBD n:=by
  rcases hg with ⟨rfl,rfl⟩|⟨rfl,rfl⟩|⟨rfl,rfl⟩|⟨rfl,rfl⟩|⟨rfl,rfl⟩|⟨rfl,rfl⟩
  ·exact ⟨0,by decide,rfl,rfl⟩
  ·exact ⟨1,by decide,rfl,rfl⟩
  ·exact ⟨2,by decide,rfl,rfl⟩
  ·exact ⟨3,by decide,rfl,rfl⟩
  ·exact ⟨4,by decide,rfl,rfl⟩
  ·exact ⟨5,by decide,rfl,rfl⟩
 obtain ⟨n,hn,hga,hgb⟩:=hgn
 rw [hga,hgb] at h37
 clear hga hgb hg
 have h176:=e49 rb x (tB t) (by omega) (fun r hr=>⟨by have:=(hrf r hr).len;omega,fun b hb=>((hrf r hr).bs b hb).1⟩) ho
 have hrows:(pre++(⟨2,tB t,x::more⟩:Ru)::tail).map Ru.row=pre.map Ru.row++[I 2,.lit (.string (tB t)),.sl ((x::more).map Bx.row)]::tail.map Ru.row:=by
  rw [List.map_append,List.map_cons]
 have hra:∃ (i:Nat) (a b:D),((pre.length:Nat):Int)=(i:Int)∧((pre++(⟨2,tB t,x::more⟩:Ru)::tail).map Ru.row)[i]?=some [a,.lit (.string (tB t)),b]:=by
  refine ⟨pre.length,I 2,.sl ((x::more).map Bx.row),rfl,?_⟩
  rw [List.getElem?_map];simp [Ru.row]
 have hpr:=fun (c0 c1 c2 c3 c5 c6 c7 c8 c9 c10 c11 c12 c13 c14 c15 c16 c17 c18:D)=>e255 (c0:=c0) (c1:=c1) (c2:=c2) (c3:=c3) (c5:=c5) (c6:=c6) (c7:=c7) (c8:=c8) (c9:=c9) (c10:=c10) (c11:=c11) (c12:=c12) (c13:=c13) (c14:=c14) (c15:=c15) (c16:=c16) (c17:=c17) (c18:=c18) pre (tB t) x more tail hpre (by omega)
 cases hq:nar x.swap (tB t) 0 rb with
 |none=>
  rw [hq] at h176
  obtain ⟨xf,xh,xa0,xb0,xa1,xb1,xp0,xp1,xl0,xl1,xr0,xr1⟩:=x
  have H0:HT0 (VaT.mk (q.map byteRow) (l.map byteRow) (rb.map Ru.row) (gk:Nat) xf xh xa0 xb0 xa1 xb1 xp0 xp1 xl0 xl1 xr0 xr1 0 0 0 0 0 0 0 0 0 0 0 0 0) _ (pre.length:Nat) (gAD n) (gBD n) (tB t):=⟨h37,ho,hf,hpr,hra⟩
  rcases Nat.lt_or_ge n 5 with h5|h5
  ·exact hz (VaT.mk (q.map byteRow) (l.map byteRow) (rb.map Ru.row) (gk:Nat) xf xh xa0 xb0 xa1 xb1 xp0 xp1 xl0 xl1 xr0 xr1 0 0 0 0 0 0 0 0 0 0 0 0 0) _ _ n t hn (fun h=>by omega) rfl ⟨h9⟩ (twoZ h5 t ⟨H0,h176⟩)
  ·obtain rfl:n=5:=by omega
   exact hz (VaT.mk (q.map byteRow) (l.map byteRow) (rb.map Ru.row) (gk:Nat) xf xh xa0 xb0 xa1 xb1 xp0 xp1 xl0 xl1 xr0 xr1 0 0 0 0 0 0 0 0 0 0 0 0 0) _ _ 5 true hn (fun _=>rfl) rfl ⟨h9⟩ (two5_all t H0)
 |some jm=>
  obtain ⟨j,m⟩:=jm
  rw [hq] at h176
  obtain ⟨r,_,hj,htm,_,hfb⟩:=nar_some hq
  have hrm:=List.mem_of_getElem? hj
  have htg:=tm_tB (hrf r hrm) htm
  obtain ⟨y,hy,hyf,hyo,hme⟩:=fbx_some hfb
  have hyk:=(hrf r hrm).bs y hy
  have hmk:=meet_fine (Bx.swap_both ho hf).1 (Bx.swap_both ho hf).2 hyk.1 hyk.2 hyo
  have hw:=swap_within hf hyo
  rw [← hme] at hmk hw
  have hrow:∃ (i:Nat) (a b:D),((j:Nat):Int)=(i:Int)∧(rb.map Ru.row)[i]?=some [a,.lit (.string (tB t)),b]:=by
   refine ⟨j,I r.act,.sl (r.bs.map Bx.row),rfl,?_⟩
   rw [Nat.sub_zero] at hj
   rw [List.getElem?_map,hj]
   show some r.row=_
   simp only [Ru.row,htg]
  have hms:=Bx.swap_both hmk.1 hmk.2
  have hv:=h185t _ x hms.1 ho hw
  clear hme hyo hyf hfb hq
  obtain ⟨xf,xh,xa0,xb0,xa1,xb1,xp0,xp1,xl0,xl1,xr0,xr1⟩:=x
  obtain ⟨mf,mh,c0,d0,c1,d1,q0,q1,k0,k1,t0,t1⟩:=m
  have H0:HT0 (VaT.mk (q.map byteRow) (l.map byteRow) (rb.map Ru.row) (gk:Nat) xf xh xa0 xb0 xa1 xb1 xp0 xp1 xl0 xl1 xr0 xr1 (j:Nat) mf mh c0 d0 c1 d1 q0 q1 k0 k1 t0 t1) _ (pre.length:Nat) (gAD n) (gBD n) (tB t):=⟨h37,ho,hf,hpr,hra⟩
  have hla':((pre++(⟨2,tB t,(⟨xf,xh,xa0,xb0,xa1,xb1,xp0,xp1,xl0,xl1,xr0,xr1⟩:Bx)::more⟩:Ru)::tail).map Ru.row).length≤4:=by rw [List.length_map];exact hla
  have hlb':(rb.map Ru.row).length≤4:=by rw [List.length_map];exact hrl
  rcases Nat.lt_or_ge n 5 with h5|h5
  ·have H:HTs _ _ (pre.length:Nat) (gAD n) (gBD n) (tB t):=⟨H0,h176,hmk.1,hmk.2,hms.1,hms.2,hrow,hv⟩
   have h10:=fun H'=>twoS h5 t (pre.map Ru.row) (v:=VaT.mk (q.map byteRow) (l.map byteRow) (rb.map Ru.row) (gk:Nat) xf xh xa0 xb0 xa1 xb1 xp0 xp1 xl0 xl1 xr0 xr1 (j:Nat) mf mh c0 d0 c1 d1 q0 q1 k0 k1 t0 t1) (bs:=((⟨xf,xh,xa0,xb0,xa1,xb1,xp0,xp1,xl0,xl1,xr0,xr1⟩:Bx)::more).map Bx.row) (Rt:=tail.map Ru.row) (by rw [List.length_map];exact hpl) (by rw [List.length_map];exact hpt) H'
   rw [← hrows,List.length_map] at h10
   exact hs (VaT.mk (q.map byteRow) (l.map byteRow) (rb.map Ru.row) (gk:Nat) xf xh xa0 xb0 xa1 xb1 xp0 xp1 xl0 xl1 xr0 xr1 (j:Nat) mf mh c0 d0 c1 d1 q0 q1 k0 k1 t0 t1) _ _ n t h5 rfl ⟨h9,hra,hrow,hla',hlb',hmk.1,hmk.2,hms.1,hms.2⟩ (h10 H)
  ·obtain rfl:n=5:=by omega
   exact hz (VaT.mk (q.map byteRow) (l.map byteRow) (rb.map Ru.row) (gk:Nat) xf xh xa0 xb0 xa1 xb1 xp0 xp1 xl0 xl1 xr0 xr1 (j:Nat) mf mh c0 d0 c1 d1 q0 q1 k0 k1 t0 t1) _ _ 5 true hn (fun _=>rfl) rfl ⟨h9⟩ (two5_all t H0)
section
variable {c0 c1 c2 c3 c4 c5 c6 c7 c8 c9 c10 c11 c12 c13 c14 c15 c16 c17 c18 x1 x2 x3 x4 x5 x6 x7 x8 x9 x10 x11 x12 x13 x14 x15 x16 x17 x18 x19 x20 x21 x22 x23 x24 x25 x26 x27 x28 x29 x30 x31 x32 x33 x34 x35 x36 x37 x38 x39 x40 x41 x42 x43 x44 x45 x46 x47 x48 x49 x50 x51 x52 x53 x54 x55 x56 x57 x58 x59 x60 x61 x62 x63 x64 x65 x66 x67 x68 x69 x70 x71 x72 x73 x74 x75 x76 x77 x78 x79 x80 k0_0 k0_1 k0_2 k0_3 k0_4 k0_5 k0_6 k0_7 k0_8 k0_9 k0_10 k0_11 k0_12 k0_13 k0_14 k0_15 k0_16 k0_17 k0_18 k0_19 k0_20 k0_21 k0_22 k0_23 k0_24 k0_25 k0_26 k0_27 k0_28 k0_29 k0_30 k0_31 k0_32 k0_33 k0_34 k0_35 k0_36 k0_37 k0_38 k0_39 k0_40 k0_41 k1_0 k1_1 k1_2 k1_3 k1_4 k1_5 k1_6 k1_7 k1_8 k1_9 k1_10 k1_11 k1_12 k1_13 k1_14 k1_15 k1_16 k1_17 k1_18 k1_19 k1_20 k1_21 k1_22 k1_23 k1_24 k1_25 k1_26 k1_27 k1_28 k1_29 k1_30 k1_31 k1_32 k1_33 k1_34 k1_35 k1_36 k1_37 k1_38 k1_39 k1_40 k1_41 r0 r1 r2 r3 r4 r5 r6 r7 r8 r9 r10 r11 r12 r13 r14 r15 r16 r17 r18 r19 r20 r21 r22 r23 r24 r25 r26 r27 r28 r29 r30 r31 r32 r33 r34 r35 r36 r37 r38 o0 o1 o2 n0 n1 n2 z0 z1 z2 ya yb:D} {Rt Ra:List (List D)} {ro0 ro1 ro2 ro3:List D} {own sp spi ri f h a0 b0 a1 b1 p0 p1 l0 l1 s0 s1:Int}
end
theorem h133k {c0 c1 c2 c3 c5 c6 c7 c8 c9 c10 c11 c12 c13 c14 c15 c16 c18:D} {i1 o1 n1 s1:Nat} {rows:List (List D)} {n:Int} {t:ByteArray} {a b:D} (bl:List (List V)) (hb:bl.all (V.ltbL bl.length)=true) (i:Nat) (hn:n=(i:Int)) (h:rows[i]?=some [a,.lit (.string t),b]) :
  CV VP 133 [.agg [.d c0,.d c1,.d c2,.d c3,.d (.sl rows),.d c5,.d c6,.d c7,.d c8,.d c9,.d c10,.d c11,.d c12,.d c13,.d c14,.d c15,.d c16,.loc i1 o1 n1 s1,.d c18],.d (I n)] bl=some ⟨.d (.lit (.string t)),bl,[],0⟩:=by
 subst hn
 have hl:=(List.getElem?_eq_some_iff.1 h).1
 have h0:¬((i:Int)<0):=by omega
 have h1:¬((rows.length:Int)≤(i:Int)):=by omega
 have ht:bl.take bl.length=bl:=List.take_length
 have hg:∀ x:List V,(bl++[x])[bl.length]?=some x:=fun x=>by simp
 have hd:∀ x:List V,(bl++[x]).getD bl.length []=x:=fun x=>by simp
 have hk:∀ x:List V,(bl++[x]).take bl.length=bl:=fun x=>by simp
 have hL:∀ x:List V,(bl++[x]).length=bl.length+1:=fun x=>by simp
 have hlt:∀ x:List V,bl.length<(bl++[x]).length:=fun x=>by simp
 refine CV_run (vf:=vf133) rfl rfl ?_
 rw [vf133_start]
 (repeat (first|refine RX_seq ?_|((first|refine sG rfl ?_|refine RX_draw rfl ?_);try (simp only [go_sem,Int.reduceToNat,Nat.reducePow,Int.reduceEq,Int.reduceNe,Int.reduceLT,Int.reduceLE,Nat.reduceAdd,Nat.reduceLeDiff,↓reduceIte,Nat.reduceLT,Nat.reduceMul,Nat.reduceSub,reduceCtorEq,frzLoc,rowCells,vAppM,beq_iff_eq,bne_iff_ne,vf133_res,vf133_keep,h0,h1,hl,h,ge_iff_le,hb,ht,hg,hd,hk,hL]))))
theorem h133d {c0 c1 c2 c3 c5 c6 c7 c8 c9 c10 c11 c12 c13 c14 c15 c16 c17 c18:D} {rows:List (List D)} {n:Int} {t:ByteArray} {a b:D} (bl:List (List V)) (hb:bl.all (V.ltbL bl.length)=true) (i:Nat) (hn:n=(i:Int)) (h:rows[i]?=some [a,.lit (.string t),b]) :
  CV VP 133 [.agg [.d c0,.d c1,.d c2,.d c3,.d (.sl rows),.d c5,.d c6,.d c7,.d c8,.d c9,.d c10,.d c11,.d c12,.d c13,.d c14,.d c15,.d c16,.d c17,.d c18],.d (I n)] bl=some ⟨.d (.lit (.string t)),bl,[],0⟩:=by
 subst hn
 have hl:=(List.getElem?_eq_some_iff.1 h).1
 have h0:¬((i:Int)<0):=by omega
 have h1:¬((rows.length:Int)≤(i:Int)):=by omega
 have ht:bl.take bl.length=bl:=List.take_length
 have hg:∀ x:List V,(bl++[x])[bl.length]?=some x:=fun x=>by simp
 have hd:∀ x:List V,(bl++[x]).getD bl.length []=x:=fun x=>by simp
 have hk:∀ x:List V,(bl++[x]).take bl.length=bl:=fun x=>by simp
 have hL:∀ x:List V,(bl++[x]).length=bl.length+1:=fun x=>by simp
 have hlt:∀ x:List V,bl.length<(bl++[x]).length:=fun x=>by simp
 refine CV_run (vf:=vf133) rfl rfl ?_
 rw [vf133_start]
 (repeat (first|refine RX_seq ?_|((first|refine sG rfl ?_|refine RX_draw rfl ?_);try (simp only [go_sem,Int.reduceToNat,Nat.reducePow,Int.reduceEq,Int.reduceNe,Int.reduceLT,Int.reduceLE,Nat.reduceAdd,Nat.reduceLeDiff,↓reduceIte,Nat.reduceLT,Nat.reduceMul,Nat.reduceSub,reduceCtorEq,frzLoc,rowCells,vAppM,beq_iff_eq,bne_iff_ne,vf133_res,vf133_keep,h0,h1,hl,h,ge_iff_le,hb,ht,hg,hd,hk,hL]))))
def iBeq:Int→Int→Bool
 |.ofNat a,.ofNat b=>Nat.beq a b
 |_,_=>false
def saD (own:Int):List (List D)→Option (List D)
 |(.lit (.int _ o)::_::_::_::_::_::x::y::z::_)::rs=>match iBeq o own with
  |true=>some [x,y,z]
  |false=>saD own rs
 |_=>none
def goneB (sp:Int):V→Option Bool
 |.nil=>some false
 |.d (.sl [])=>some false
 |.d (.sl [[.lit (.int _ g)]])=>some (iBeq g sp)
 |.sl _ [] _=>some false
 |_=>none
def kidR:V→Option (List (List D))
 |.nil=>some []
 |.d (.sl ks)=>some ks
 |.sl _ ks _=>some ks
 |_=>none
def takeV (a:List V):Option V:=match a with
 |[.agg [c0,c1,c2,c3,c4,c5,c6,c7,c8,c9,c10,c11,c12,c13,c14,c15,.d (.sl sas),kd,c18],.d (.lit (.int _ own)),.d (.sl ([_,_,.sl [_,[_,.lit (.int _ sp),_]]]::[_,_,.sl (_::[_,.lit (.int _ f0),_]::[_,.lit (.int _ h0),_]::[_,.lit (.int _ a0),_]::[_,.lit (.int _ f1),_]::[_,.lit (.int _ h1),_]::[_,.lit (.int _ a1),_]::[_,.lit (.int _ f2),_]::[_,.lit (.int _ h2),_]::[_,.lit (.int _ a2),_]::[_,.lit (.int _ f3),_]::[_,.lit (.int _ h3),_]::[_,.lit (.int _ a3),_]::[_,.lit (.int _ p0),_]::[_,.lit (.int _ p1),_]::[_,.lit (.int _ l0),_]::[_,.lit (.int _ l1),_]::[_,.lit (.int _ r0),_]::[_,.lit (.int _ r1),_]::_)]::_)),.agg rc,.agg [.d o0,.d o1,.d o2],.agg [.d t0,.d t1,.d t2]]=>
  match rc.getD 14 .any,rc.getD 16 .any,goneB sp (rc.getD 38 .any),saD own sas,kidR kd with
  |.d spi,.d rule,some gn,some [x,y,z],some ks=>match gn with
   |true=>some (.tup [.agg [c0,c1,c2,c3,c4,c5,c6,c7,c8,c9,c10,c11,c12,c13,c14,c15,.d (.sl sas),kd,c18],.d (I 0),.d (B true)])
   |false=>some (.tup [.agg [c0,c1,c2,c3,c4,c5,c6,c7,c8,c9,c10,c11,c12,c13,c14,c15,.d (.sl sas),.d (.sl (ks++[[spi,I sp,I own,rule,I f2,U h2,U a2,I f3,U h3,U a3,I f0,U h0,U a0,I f1,U h1,U a1,I p0,I p1,I r0,I r1,I l0,I l1,I 6,I 6,.sl [[x,y,z],[o0,o1,o2],[t0,t1,t2]],I 6,I 5,.sl [[x,y,z],[o0,o1,o2],[t0,t1,t2]],B true,o0,o1,o2,t0,t1,t2,I 1,I 0,I 6,U 0,.sl [[U 0]],I 0,I 0]])),c18],.d spi,.d (B true)])
  |_,_,_,_,_=>none
 |_=>none
noncomputable def AK (R:List (List D)) (gk:Int) (t:ByteArray) (tv:V):Orc:=fun f a b=>match Nat.beq f 9 with
 |true=>some ⟨.ptr 0 0,[[.sl 1 R (.own 0 0),.d (I 0)]],[0],1⟩
 |false=>match Nat.beq f 10 with
  |true=>match b with
   |[_,.d (.lit (.int _ k))]::bs=>some ⟨tv,[.d (.sl R),.d (I gk)]::bs,[],0⟩
   |_=>none
  |false=>match Nat.beq f 133 with
   |true=>some ⟨.d (.lit (.string t)),b,[],0⟩
   |false=>match Nat.beq f 197 with
    |true=>match a with
     |[.agg [.d (.lit (.int _ f0)),.d (.lit (.int _ h0)),.d (.lit (.int _ a0)),.d (.lit (.int _ f1)),.d (.lit (.int _ h1)),.d (.lit (.int _ a1)),.d (.lit (.int _ f2)),.d (.lit (.int _ h2)),.d (.lit (.int _ a2)),.d (.lit (.int _ f3)),.d (.lit (.int _ h3)),.d (.lit (.int _ a3)),.d (.lit (.int _ p0)),.d (.lit (.int _ p1)),.d (.lit (.int _ l0)),.d (.lit (.int _ l1)),.d (.lit (.int _ r0)),.d (.lit (.int _ r1))],.d (.lit (.string t))]=>some ⟨bxP f0 h0 a0 f1 h1 a1 f2 h2 a2 f3 h3 a3 p0 p1 l0 l1 r0 r1 t,[],[],0⟩
     |_=>none
    |false=>match Nat.beq f 203 with
     |true=>match a with
      |[.d (.sl ([_,.lit (.int _ f0),_]::[_,.lit (.int _ h0),_]::[_,.lit (.int _ a0),_]::[_,.lit (.int _ f1),_]::[_,.lit (.int _ h1),_]::[_,.lit (.int _ a1),_]::[_,.lit (.int _ f2),_]::[_,.lit (.int _ h2),_]::[_,.lit (.int _ a2),_]::[_,.lit (.int _ f3),_]::[_,.lit (.int _ h3),_]::[_,.lit (.int _ a3),_]::[_,.lit (.int _ p0),_]::[_,.lit (.int _ p1),_]::[_,.lit (.int _ l0),_]::[_,.lit (.int _ l1),_]::[_,.lit (.int _ r0),_]::[_,.lit (.int _ r1),_]::_))]=>
       some ⟨.tup [.agg [.d (I f0),.d (U h0),.d (U a0),.d (I f1),.d (U h1),.d (U a1),.d (I f2),.d (U h2),.d (U a2),.d (I f3),.d (U h3),.d (U a3),.d (I p0),.d (I p1),.d (I l0),.d (I l1),.d (I r0),.d (I r1)],.d (.lit (.string t)),.d (B true)],[],[],0⟩
      |_=>none
     |false=>match Nat.beq f 110 with
      |true=>match takeV a with
       |some r=>some ⟨r,b,[],0⟩
       |none=>none
      |false=>none
theorem AK_ok (R:List (List D)) (gk:Int) (t:ByteArray) (tv:V):CFok VP (cA VP vft.get (AK R gk t tv) 400 60):=cA_ok vft_ok _ 400 60
abbrev w3_0:List V:=[A 2,A 1048584,Z]
abbrev w3_1 (v:VaT):List V:=[A v.mf,C v.mh,C v.c0,A v.mf,C v.mh,C v.d0,A v.mf,C v.mh,C v.c1,A v.mf,C v.mh,C v.d1,A v.q0,A v.q1,A v.k0,A v.k1,A v.t0,A v.t1]
abbrev w3_2 (v:VaT):List V:=[.agg (w3_1 v),.d (.lit (.string ⟨#[103,111,108,100]⟩))]
abbrev w3_3 (v:VaT):List (List D):=[N 11,N v.mf,N v.mh,N v.c0,N v.mf,N v.mh,N v.d0,N v.mf,N v.mh,N v.c1,N v.mf,N v.mh,N v.d1,N v.q0,N v.q1,N v.k0,N v.k1,N v.t0,N v.t1,N 103,N 111,N 108,N 100]
abbrev w3_4 (v:VaT):List V:=[A 3,A 0,E (w3_3 v)]
abbrev w3_5:List D:=(M 2 1048580)
abbrev w3_6:List D:=(M 2 1048581)
abbrev w3_7:List (List D):=[R 6 1 [(M 2 4),w3_5,R 5 0 [(M 2 5),w3_6]],N 1003,N 2003]
abbrev w3_8:List D:=(R 3 0 [(N 1),N 31])
abbrev w3_9:List D:=(R 3 0 [(N 2),N 31,R 4 0 [(M 2 5)]])
abbrev w3_10:List D:=(R 3 0 [(N 3),M 2 4])
abbrev w3_11:List D:=(R 6 8 [(N 1003),N 1])
abbrev w3_12:List D:=(R 6 8 [(N 1003),N 2])
abbrev w3_13:List D:=(R 3 0 [(N 7),w3_11,w3_12])
abbrev w3_14:List (List D):=[N 34,N 1003,N 0,N 2,N 0,R 3 0 [w3_8,w3_9,w3_10,w3_13]]
abbrev w3_15:List D:=(R 4 0 [w3_6])
abbrev w3_16:List D:=(R 3 0 [(N 3),w3_5])
abbrev w3_17:List D:=(R 3 0 [(N 7),w3_12,w3_11])
abbrev w3_18:List (List D):=[N 34,N 1003,N 2003,N 1,N 0,R 3 0 [w3_8,R 3 0 [(N 2),N 31,w3_15],w3_16,w3_17]]
abbrev w3_19:List D:=[I 6,I 4,.sl w3_7]
abbrev w3_20:List D:=(R 3 0 [(N 8),N 1])
abbrev w3_21:List D:=(R 3 0 [(N 9),R 8 1 [(R 3 0 [[I 3,I 0,.sl w3_18],M 2 4,N 1])]])
abbrev w3_22:List D:=(R 3 0 [(N 10),N 2006])
abbrev w3_23 (v:VaT):List D:=[I 3,I 0,.sl (w3_3 v)]
abbrev w3_24:List D:=(M 2 1048578)
abbrev w3_25:List D:=[I 6,I 2,.sl w3_7]
abbrev w3_26:List (List D):=[w3_24,R 3 0 [w3_25,N 0,N 40]]
abbrev w3_27:List D:=(R 3 0 [(N 18),[I 7,I 0,.sl w3_26]])
abbrev w3_28 (v:VaT):List (List D):=[N 35,N 1003,N 2003,N 1,N 1,R 7 0 [w3_19,R 3 0 [(N 35),N 1003,N 2003,N 1,N 1,R 3 0 [w3_20,w3_21,w3_22,(w3_23 v),w3_27]]]]
abbrev w3_29 (v:VaT):List V:=[A 1,A 0,A 2,A 1,E v.Rb,E [[I 31]],A 0,A 8,A 2,A 1048577,Z,A 2,A 1048578,Z,A 0,Z,E [[I 2003,I 1003,B false,I 3,I 2,I 1,I 6,I 2,.sl w3_7,I 6,I 4,.sl w3_7,I 6,I 3,.sl w3_7,I 2,I 1048580,.sl [],I 2,I 4,.sl [],I 3,I 0,.sl w3_14,I 3,I 0,.sl w3_18,I 0,I 2,I 0,I 0,I 0,I 0,.sl [],I 0,I 0,I 0,I 0,I 0,.sl [],I 0,I 0,.sl [],I 0,I 0,I 0,I 0,U 0,U 0,I 0,U 0,U 0,I 0,U 0,U 0,I 0,U 0,U 0,I 0,I 0,I 0,I 0,I 0,I 0,I 0,I 0,.sl [],.sl [],I 1,I 3,I 0,.sl (w3_28 v),I 0,I 0,I 0,I 0,I 0,B false,I 0,B false,I 0]],.loc 12 0 2 42,Z]
abbrev w3_30:List D:=(R 3 0 [(N 13),N 1006])
abbrev w3_31:List D:=(R 3 0 [(N 10),N 1007])
abbrev w3_32 (v:VaT):List (List D):=[N 11,N v.mf,N v.mh,N v.c1,N v.mf,N v.mh,N v.d1,N v.mf,N v.mh,N v.c0,N v.mf,N v.mh,N v.d0,N v.q0,N v.q1,N v.t0,N v.t1,N v.k0,N v.k1,N 103,N 111,N 108,N 100]
abbrev w3_33 (v:VaT):List D:=[I 3,I 0,.sl (w3_32 v)]
abbrev w3_34:List D:=(R 3 0 [(N 3),M 2 8])
abbrev w3_35 (v:VaT):List V:=[A 36,A 1003,A 2003,.d (B false),.d (B true),A 2,E [w3_30,w3_31,(w3_33 v),w3_34]]
abbrev w3_36:List V:=[A 0,A 0,A 0,A 0,Z,Z,A 0,A 0,A 0,A 0,Z,A 0,A 0,Z,A 0,Z,Z,Z,Z]
abbrev w3_37:List V:=[A 2,A 8,Z]
abbrev w3_38:List (List D):=[w3_25,M 2 4,w3_5]
abbrev w3_39 (v:VaT):List V:=[A 2006,A 1006,A 2003,A v.rr,A v.mf,C v.mh,C v.c0,A v.mf,C v.mh,C v.d0,A v.mf,C v.mh,C v.c1,A v.mf,C v.mh,C v.d1,A v.q0,A v.q1,A v.k0,A v.k1,A v.t0,A v.t1,A 6,A 5,E w3_38,A 6,A 6,E w3_38,.d (B false),A 2,A 1048580,Z,A 2,A 4,Z,A 1,A 0,A 6,C 0,E [[U 0]],A 0,A 0]
abbrev w3_40:List D:=(M 2 1048584)
abbrev w3_41:List (List D):=[w3_25,M 2 8,w3_40]
abbrev w3_42 (v:VaT):List V:=[A 2007,A 1007,A 2003,A v.rr,A v.mf,C v.mh,C v.c0,A v.mf,C v.mh,C v.d0,A v.mf,C v.mh,C v.c1,A v.mf,C v.mh,C v.d1,A v.q0,A v.q1,A v.k0,A v.k1,A v.t0,A v.t1,A 6,A 5,E w3_41,A 6,A 6,E w3_41,.d (B false),A 2,A 1048584,Z,A 2,A 8,Z,A 1,A 0,A 6,C 0,E [[U 0]],A 0,A 0]
abbrev w3_43 (v:VaT):List V:=[A 2006,A 1006,A 2003,A v.rr,A v.mf,C v.mh,C v.c0,A v.mf,C v.mh,C v.d0,A v.mf,C v.mh,C v.c1,A v.mf,C v.mh,C v.d1,A v.q0,A v.q1,A v.k0,A v.k1,A v.t0,A v.t1,A 6,A 5,E w3_38,A 6,A 6,E w3_38,.d (B false),A 2,A 1048580,Z,A 2,A 4,Z,A 2,A 0,A 6,C 0,E [[U 0]],A 0,A 2007,A 2007,A 1007,A 2003,A v.rr,A v.mf,C v.mh,C v.c0,A v.mf,C v.mh,C v.d0,A v.mf,C v.mh,C v.c1,A v.mf,C v.mh,C v.d1,A v.q0,A v.q1,A v.k0,A v.k1,A v.t0,A v.t1,A 6,A 5,E w3_41,A 6,A 6,E w3_41,.d (B false),A 2,A 1048584,Z,A 2,A 8,Z,A 1,A 0,A 6,C 0,E [[U 0]],A 0,A 0]
abbrev w3_44 (v:VaT):List (List V):=[(w3_29 v),[A 2003],(w3_35 v),[A 1],w3_36,w3_37,w3_0,(w3_39 v),(w3_29 v),(w3_42 v),(w3_29 v),[],(w3_43 v),(w3_29 v),(w3_1 v)]
abbrev w3_45 (v:VaT):List V:=[A v.mf,C v.mh,C v.c1,A v.mf,C v.mh,C v.d1,A v.mf,C v.mh,C v.c0,A v.mf,C v.mh,C v.d0,A v.q0,A v.q1,A v.t0,A v.t1,A v.k0,A v.k1]
abbrev w3_46 (v:VaT):List V:=[.agg (w3_45 v),.d (.lit (.string ⟨#[103,111,108,100]⟩))]
abbrev w3_47 (v:VaT):List V:=[A 3,A 0,E (w3_32 v)]
abbrev w3_48 (v:VaT) (ri:Int):List (List D):=[[I 1006,I 2006,I 1003,I ri,I v.mf,U v.mh,U v.c1,I v.mf,U v.mh,U v.d1,I v.mf,U v.mh,U v.c0,I v.mf,U v.mh,U v.d0,I v.q0,I v.q1,I v.t0,I v.t1,I v.k0,I v.k1,I 6,I 6,.sl w3_38,I 6,I 5,.sl w3_38,B true,I 2,I 4,.sl [],I 2,I 1048580,.sl [],I 1,I 0,I 6,U 0,.sl [[U 0]],I 0,I 0]]
abbrev w3_49:List (List D):=[[I 7,I 0,.sl w3_26,I 6,I 2,.sl w3_7]]
abbrev w3_50 (v:VaT) (Ra:List (List D)) (ri:Int):List V:=[.agg [A 0,A 1,A 1,A 2,E Ra,E [[I 31]],A 0,A 8,A 2,A 1,Z,A 2,A 2,Z,A 0,Z,E [[I 1003,I 2003,B true,I 3,I 1,I 2,I 6,I 2,.sl w3_7,I 6,I 3,.sl w3_7,I 6,I 4,.sl w3_7,I 2,I 4,.sl [],I 2,I 1048580,.sl [],I 3,I 0,.sl w3_14,I 3,I 0,.sl w3_18,I 2,I 0,I 0,I 0,I 0,I 0,.sl [],I 0,I 0,I 0,I 0,I 0,.sl [],I 0,I 0,.sl [],I 0,I 0,I 0,I 0,U 0,U 0,I 0,U 0,U 0,I 0,U 0,U 0,I 0,U 0,U 0,I 0,I 0,I 0,I 0,I 0,I 0,I 0,I 0,.sl [],.sl [],I (-1),I 0,I 0,.sl [],I 0,I 0,I 0,I 0,I 0,B false,I 0,B false,I 0]],E (w3_48 v ri),E w3_49],A ri]
abbrev w3_51 (v:VaT):List V:=[E v.X,A 120]
abbrev w3_52 (v:VaT):List (List V):=[[.sl 1 v.R (.own 0 0),A 0]]
abbrev w3_53 (v:VaT):List V:=[.agg (w3_1 v),.d (.lit (.string ⟨#[115,105,108,118,101,114]⟩))]
abbrev w3_54 (v:VaT):List (List D):=[N 11,N v.mf,N v.mh,N v.c0,N v.mf,N v.mh,N v.d0,N v.mf,N v.mh,N v.c1,N v.mf,N v.mh,N v.d1,N v.q0,N v.q1,N v.k0,N v.k1,N v.t0,N v.t1,N 115,N 105,N 108,N 118,N 101,N 114]
abbrev w3_55 (v:VaT):List V:=[A 3,A 0,E (w3_54 v)]
abbrev w3_56 (v:VaT):List D:=[I 3,I 0,.sl (w3_54 v)]
abbrev w3_57 (v:VaT):List (List D):=[N 35,N 1003,N 2003,N 1,N 1,R 7 0 [w3_19,R 3 0 [(N 35),N 1003,N 2003,N 1,N 1,R 3 0 [w3_20,w3_21,w3_22,(w3_56 v),w3_27]]]]
abbrev w3_58 (v:VaT):List V:=[A 1,A 0,A 2,A 1,E v.Rb,E [[I 31]],A 0,A 8,A 2,A 1048577,Z,A 2,A 1048578,Z,A 0,Z,E [[I 2003,I 1003,B false,I 3,I 2,I 1,I 6,I 2,.sl w3_7,I 6,I 4,.sl w3_7,I 6,I 3,.sl w3_7,I 2,I 1048580,.sl [],I 2,I 4,.sl [],I 3,I 0,.sl w3_14,I 3,I 0,.sl w3_18,I 0,I 2,I 0,I 0,I 0,I 0,.sl [],I 0,I 0,I 0,I 0,I 0,.sl [],I 0,I 0,.sl [],I 0,I 0,I 0,I 0,U 0,U 0,I 0,U 0,U 0,I 0,U 0,U 0,I 0,U 0,U 0,I 0,I 0,I 0,I 0,I 0,I 0,I 0,I 0,.sl [],.sl [],I 1,I 3,I 0,.sl (w3_57 v),I 0,I 0,I 0,I 0,I 0,B false,I 0,B false,I 0]],.loc 12 0 2 42,Z]
abbrev w3_59 (v:VaT):List (List D):=[N 11,N v.mf,N v.mh,N v.c1,N v.mf,N v.mh,N v.d1,N v.mf,N v.mh,N v.c0,N v.mf,N v.mh,N v.d0,N v.q0,N v.q1,N v.t0,N v.t1,N v.k0,N v.k1,N 115,N 105,N 108,N 118,N 101,N 114]
abbrev w3_60 (v:VaT):List D:=[I 3,I 0,.sl (w3_59 v)]
abbrev w3_61 (v:VaT):List V:=[A 36,A 1003,A 2003,.d (B false),.d (B true),A 2,E [w3_30,w3_31,(w3_60 v),w3_34]]
abbrev w3_62 (v:VaT):List (List V):=[(w3_58 v),[A 2003],(w3_61 v),[A 1],w3_36,w3_37,w3_0,(w3_39 v),(w3_58 v),(w3_42 v),(w3_58 v),[],(w3_43 v),(w3_58 v),(w3_1 v)]
abbrev w3_63 (v:VaT):List V:=[.agg (w3_45 v),.d (.lit (.string ⟨#[115,105,108,118,101,114]⟩))]
abbrev w3_64 (v:VaT):List V:=[A 3,A 0,E (w3_59 v)]
abbrev w3_65:List D:=(R 3 0 [(N 1),N 31,N 1024])
abbrev w3_66:List (List D):=[N 34,N 1003,N 0,N 2,N 0,R 3 0 [w3_65,w3_9,w3_10,w3_13]]
abbrev w3_67 (v:VaT):List (List D):=[[I 2003,I 1003,B false,I 3,I 2,I 1,I 6,I 2,.sl w3_7,I 6,I 4,.sl w3_7,I 6,I 3,.sl w3_7,I 2,I 1048580,.sl [],I 2,I 4,.sl [],I 3,I 0,.sl w3_66,I 3,I 0,.sl w3_18,I 0,I 2,I 0,I 0,I 0,I 0,.sl [],I 0,I 0,I 0,I 0,I 0,.sl [],I 0,I 0,.sl [],I 0,I 0,I 0,I 0,U 0,U 0,I 0,U 0,U 0,I 0,U 0,U 0,I 0,U 0,U 0,I 0,I 0,I 0,I 0,I 0,I 0,I 0,I 0,.sl [],.sl [],I 1,I 3,I 0,.sl (w3_28 v),I 0,I 0,I 0,I 0,I 0,B false,I 0,B false,I 0]]
abbrev w3_68 (v:VaT):List V:=[A 1,A 0,A 2,A 1,E v.Rb,E [[I 31],[I 1024]],A 0,A 8,A 2,A 1048577,Z,A 2,A 1048578,Z,A 0,Z,E (w3_67 v),.loc 12 0 2 42,Z]
abbrev w3_69 (v:VaT):List (List V):=[(w3_68 v),[A 2003],(w3_35 v),[A 1],w3_36,w3_37,w3_0,(w3_39 v),(w3_68 v),(w3_42 v),(w3_68 v),[],(w3_43 v),(w3_68 v),(w3_1 v)]
abbrev w3_70 (v:VaT) (Ra:List (List D)) (ri:Int):List V:=[.agg [A 0,A 1,A 1,A 2,E Ra,E [[I 31],[I 1024]],A 0,A 8,A 2,A 1,Z,A 2,A 2,Z,A 0,Z,E [[I 1003,I 2003,B true,I 3,I 1,I 2,I 6,I 2,.sl w3_7,I 6,I 3,.sl w3_7,I 6,I 4,.sl w3_7,I 2,I 4,.sl [],I 2,I 1048580,.sl [],I 3,I 0,.sl w3_66,I 3,I 0,.sl w3_18,I 2,I 0,I 0,I 0,I 0,I 0,.sl [],I 0,I 0,I 0,I 0,I 0,.sl [],I 0,I 0,.sl [],I 0,I 0,I 0,I 0,U 0,U 0,I 0,U 0,U 0,I 0,U 0,U 0,I 0,U 0,U 0,I 0,I 0,I 0,I 0,I 0,I 0,I 0,I 0,.sl [],.sl [],I (-1),I 0,I 0,.sl [],I 0,I 0,I 0,I 0,I 0,B false,I 0,B false,I 0]],E (w3_48 v ri),E w3_49],A ri]
abbrev w3_71 (v:VaT):List (List D):=[[I 2003,I 1003,B false,I 3,I 2,I 1,I 6,I 2,.sl w3_7,I 6,I 4,.sl w3_7,I 6,I 3,.sl w3_7,I 2,I 1048580,.sl [],I 2,I 4,.sl [],I 3,I 0,.sl w3_66,I 3,I 0,.sl w3_18,I 0,I 2,I 0,I 0,I 0,I 0,.sl [],I 0,I 0,I 0,I 0,I 0,.sl [],I 0,I 0,.sl [],I 0,I 0,I 0,I 0,U 0,U 0,I 0,U 0,U 0,I 0,U 0,U 0,I 0,U 0,U 0,I 0,I 0,I 0,I 0,I 0,I 0,I 0,I 0,.sl [],.sl [],I 1,I 3,I 0,.sl (w3_57 v),I 0,I 0,I 0,I 0,I 0,B false,I 0,B false,I 0]]
abbrev w3_72 (v:VaT):List V:=[A 1,A 0,A 2,A 1,E v.Rb,E [[I 31],[I 1024]],A 0,A 8,A 2,A 1048577,Z,A 2,A 1048578,Z,A 0,Z,E (w3_71 v),.loc 12 0 2 42,Z]
abbrev w3_73 (v:VaT):List (List V):=[(w3_72 v),[A 2003],(w3_61 v),[A 1],w3_36,w3_37,w3_0,(w3_39 v),(w3_72 v),(w3_42 v),(w3_72 v),[],(w3_43 v),(w3_72 v),(w3_1 v)]
abbrev w3_74:List (List D):=[R 6 1 [(M 2 4),w3_5,R 5 0 [(M 2 6),w3_6]],N 1003,N 2003]
abbrev w3_75:List D:=(R 4 0 [(M 2 6)])
abbrev w3_76:List (List D):=[N 34,N 1003,N 0,N 2,N 0,R 3 0 [w3_65,R 3 0 [(N 2),N 1024,w3_75],w3_10,w3_13]]
abbrev w3_77:List (List D):=[N 34,N 1003,N 2003,N 1,N 0,R 3 0 [(R 3 0 [(N 1),N 1024]),R 3 0 [(N 2),N 1024,w3_15],w3_16,w3_17]]
abbrev w3_78:List D:=[I 6,I 4,.sl w3_74]
abbrev w3_79:List D:=(R 3 0 [(N 9),R 8 1 [(R 3 0 [[I 3,I 0,.sl w3_77],M 2 4,N 1])]])
abbrev w3_80:List D:=[I 6,I 2,.sl w3_74]
abbrev w3_81:List (List D):=[w3_24,R 3 0 [w3_80,N 0,N 40]]
abbrev w3_82:List D:=(R 3 0 [(N 18),[I 7,I 0,.sl w3_81]])
abbrev w3_83 (v:VaT):List V:=[A 1,A 0,A 2,A 1,E v.Rb,E [[I 1024],[I 31]],A 0,A 8,A 2,A 1048577,Z,A 2,A 1048578,Z,A 0,Z,E [[I 2003,I 1003,B false,I 3,I 2,I 1,I 6,I 2,.sl w3_74,I 6,I 4,.sl w3_74,I 6,I 3,.sl w3_74,I 2,I 1048580,.sl [],I 2,I 4,.sl [],I 3,I 0,.sl w3_76,I 3,I 0,.sl w3_77,I 0,I 2,I 0,I 0,I 0,I 0,.sl [],I 0,I 0,I 0,I 0,I 0,.sl [],I 0,I 0,.sl [],I 0,I 0,I 0,I 0,U 0,U 0,I 0,U 0,U 0,I 0,U 0,U 0,I 0,U 0,U 0,I 0,I 0,I 0,I 0,I 0,I 0,I 0,I 0,.sl [],.sl [],I 1,I 3,I 0,.sl [N 35,N 1003,N 2003,N 1,N 1,R 7 0 [w3_78,R 3 0 [(N 35),N 1003,N 2003,N 1,N 1,R 3 0 [w3_20,w3_79,w3_22,(w3_23 v),w3_82]]]],I 0,I 0,I 0,I 0,I 0,B false,I 0,B false,I 0]],.loc 12 0 2 42,Z]
abbrev w3_84:List D:=(R 3 0 [(N 13),N 1007])
abbrev w3_85:List D:=(R 3 0 [(N 10),N 1008])
abbrev w3_86:List D:=(R 3 0 [(N 3),M 2 9])
abbrev w3_87 (v:VaT):List V:=[A 36,A 1003,A 2003,.d (B false),.d (B true),A 2,E [w3_84,w3_85,(w3_33 v),w3_86]]
abbrev w3_88:List V:=[A 2,A 9,Z]
abbrev w3_89:List (List D):=[w3_80,M 2 4,w3_5]
abbrev w3_90 (v:VaT):List V:=[A 2006,A 1007,A 2003,A v.rr,A v.mf,C v.mh,C v.c0,A v.mf,C v.mh,C v.d0,A v.mf,C v.mh,C v.c1,A v.mf,C v.mh,C v.d1,A v.q0,A v.q1,A v.k0,A v.k1,A v.t0,A v.t1,A 6,A 5,E w3_89,A 6,A 6,E w3_89,.d (B false),A 2,A 1048580,Z,A 2,A 4,Z,A 1,A 0,A 6,C 0,E [[U 0]],A 0,A 0]
abbrev w3_91:List (List D):=[w3_80,M 2 9,w3_40]
abbrev w3_92 (v:VaT):List V:=[A 2007,A 1008,A 2003,A v.rr,A v.mf,C v.mh,C v.c0,A v.mf,C v.mh,C v.d0,A v.mf,C v.mh,C v.c1,A v.mf,C v.mh,C v.d1,A v.q0,A v.q1,A v.k0,A v.k1,A v.t0,A v.t1,A 6,A 5,E w3_91,A 6,A 6,E w3_91,.d (B false),A 2,A 1048584,Z,A 2,A 9,Z,A 1,A 0,A 6,C 0,E [[U 0]],A 0,A 0]
abbrev w3_93 (v:VaT):List V:=[A 2006,A 1007,A 2003,A v.rr,A v.mf,C v.mh,C v.c0,A v.mf,C v.mh,C v.d0,A v.mf,C v.mh,C v.c1,A v.mf,C v.mh,C v.d1,A v.q0,A v.q1,A v.k0,A v.k1,A v.t0,A v.t1,A 6,A 5,E w3_89,A 6,A 6,E w3_89,.d (B false),A 2,A 1048580,Z,A 2,A 4,Z,A 2,A 0,A 6,C 0,E [[U 0]],A 0,A 2007,A 2007,A 1008,A 2003,A v.rr,A v.mf,C v.mh,C v.c0,A v.mf,C v.mh,C v.d0,A v.mf,C v.mh,C v.c1,A v.mf,C v.mh,C v.d1,A v.q0,A v.q1,A v.k0,A v.k1,A v.t0,A v.t1,A 6,A 5,E w3_91,A 6,A 6,E w3_91,.d (B false),A 2,A 1048584,Z,A 2,A 9,Z,A 1,A 0,A 6,C 0,E [[U 0]],A 0,A 0]
abbrev w3_94 (v:VaT):List (List V):=[(w3_83 v),[A 2003],(w3_87 v),[A 1],w3_36,w3_88,w3_0,(w3_90 v),(w3_83 v),(w3_92 v),(w3_83 v),[],(w3_93 v),(w3_83 v),(w3_1 v)]
abbrev w3_95 (v:VaT) (ri:Int):List (List D):=[[I 1007,I 2006,I 1003,I ri,I v.mf,U v.mh,U v.c1,I v.mf,U v.mh,U v.d1,I v.mf,U v.mh,U v.c0,I v.mf,U v.mh,U v.d0,I v.q0,I v.q1,I v.t0,I v.t1,I v.k0,I v.k1,I 6,I 6,.sl w3_89,I 6,I 5,.sl w3_89,B true,I 2,I 4,.sl [],I 2,I 1048580,.sl [],I 1,I 0,I 6,U 0,.sl [[U 0]],I 0,I 0]]
abbrev w3_96:List (List D):=[[I 7,I 0,.sl w3_81,I 6,I 2,.sl w3_74]]
abbrev w3_97 (v:VaT) (Ra:List (List D)) (ri:Int):List V:=[.agg [A 0,A 1,A 1,A 2,E Ra,E [[I 31],[I 1024]],A 0,A 9,A 2,A 1,Z,A 2,A 2,Z,A 0,Z,E [[I 1003,I 2003,B true,I 3,I 1,I 2,I 6,I 2,.sl w3_74,I 6,I 3,.sl w3_74,I 6,I 4,.sl w3_74,I 2,I 4,.sl [],I 2,I 1048580,.sl [],I 3,I 0,.sl w3_76,I 3,I 0,.sl w3_77,I 2,I 0,I 0,I 0,I 0,I 0,.sl [],I 0,I 0,I 0,I 0,I 0,.sl [],I 0,I 0,.sl [],I 0,I 0,I 0,I 0,U 0,U 0,I 0,U 0,U 0,I 0,U 0,U 0,I 0,U 0,U 0,I 0,I 0,I 0,I 0,I 0,I 0,I 0,I 0,.sl [],.sl [],I (-1),I 0,I 0,.sl [],I 0,I 0,I 0,I 0,I 1,B false,I 0,B false,I 0]],E (w3_95 v ri),E w3_96],A ri]
abbrev w3_98 (v:VaT):List V:=[A 1,A 0,A 2,A 1,E v.Rb,E [[I 1024],[I 31]],A 0,A 8,A 2,A 1048577,Z,A 2,A 1048578,Z,A 0,Z,E [[I 2003,I 1003,B false,I 3,I 2,I 1,I 6,I 2,.sl w3_74,I 6,I 4,.sl w3_74,I 6,I 3,.sl w3_74,I 2,I 1048580,.sl [],I 2,I 4,.sl [],I 3,I 0,.sl w3_76,I 3,I 0,.sl w3_77,I 0,I 2,I 0,I 0,I 0,I 0,.sl [],I 0,I 0,I 0,I 0,I 0,.sl [],I 0,I 0,.sl [],I 0,I 0,I 0,I 0,U 0,U 0,I 0,U 0,U 0,I 0,U 0,U 0,I 0,U 0,U 0,I 0,I 0,I 0,I 0,I 0,I 0,I 0,I 0,.sl [],.sl [],I 1,I 3,I 0,.sl [N 35,N 1003,N 2003,N 1,N 1,R 7 0 [w3_78,R 3 0 [(N 35),N 1003,N 2003,N 1,N 1,R 3 0 [w3_20,w3_79,w3_22,(w3_56 v),w3_82]]]],I 0,I 0,I 0,I 0,I 0,B false,I 0,B false,I 0]],.loc 12 0 2 42,Z]
abbrev w3_99 (v:VaT):List V:=[A 36,A 1003,A 2003,.d (B false),.d (B true),A 2,E [w3_84,w3_85,(w3_60 v),w3_86]]
abbrev w3_100 (v:VaT):List (List V):=[(w3_98 v),[A 2003],(w3_99 v),[A 1],w3_36,w3_88,w3_0,(w3_90 v),(w3_98 v),(w3_92 v),(w3_98 v),[],(w3_93 v),(w3_98 v),(w3_1 v)]
abbrev w3_101:List (List D):=[N 34,N 1003,N 0,N 2,N 0,R 3 0 [(R 3 0 [(N 1),N 1024,N 31]),R 3 0 [(N 2),N 31,w3_75],w3_10,w3_13]]
abbrev w3_102 (v:VaT):List V:=[A 1,A 0,A 2,A 1,E v.Rb,E [[I 31],[I 1024]],A 0,A 8,A 2,A 1048577,Z,A 2,A 1048578,Z,A 0,Z,E [[I 2003,I 1003,B false,I 3,I 2,I 1,I 6,I 2,.sl w3_74,I 6,I 4,.sl w3_74,I 6,I 3,.sl w3_74,I 2,I 1048580,.sl [],I 2,I 4,.sl [],I 3,I 0,.sl w3_101,I 3,I 0,.sl w3_18,I 0,I 2,I 0,I 0,I 0,I 0,.sl [],I 0,I 0,I 0,I 0,I 0,.sl [],I 0,I 0,.sl [],I 0,I 0,I 0,I 0,U 0,U 0,I 0,U 0,U 0,I 0,U 0,U 0,I 0,U 0,U 0,I 0,I 0,I 0,I 0,I 0,I 0,I 0,I 0,.sl [],.sl [],I 1,I 3,I 0,.sl [N 35,N 1003,N 2003,N 1,N 1,R 7 0 [w3_78,R 3 0 [(N 35),N 1003,N 2003,N 1,N 1,R 3 0 [w3_20,w3_21,w3_22,(w3_23 v),w3_82]]]],I 0,I 0,I 0,I 0,I 0,B false,I 0,B false,I 0]],.loc 12 0 2 42,Z]
abbrev w3_103 (v:VaT):List (List V):=[(w3_102 v),[A 2003],(w3_87 v),[A 1],w3_36,w3_88,w3_0,(w3_90 v),(w3_102 v),(w3_92 v),(w3_102 v),[],(w3_93 v),(w3_102 v),(w3_1 v)]
abbrev w3_104 (v:VaT) (Ra:List (List D)) (ri:Int):List V:=[.agg [A 0,A 1,A 1,A 2,E Ra,E [[I 1024],[I 31]],A 0,A 9,A 2,A 1,Z,A 2,A 2,Z,A 0,Z,E [[I 1003,I 2003,B true,I 3,I 1,I 2,I 6,I 2,.sl w3_74,I 6,I 3,.sl w3_74,I 6,I 4,.sl w3_74,I 2,I 4,.sl [],I 2,I 1048580,.sl [],I 3,I 0,.sl w3_101,I 3,I 0,.sl w3_18,I 2,I 0,I 0,I 0,I 0,I 0,.sl [],I 0,I 0,I 0,I 0,I 0,.sl [],I 0,I 0,.sl [],I 0,I 0,I 0,I 0,U 0,U 0,I 0,U 0,U 0,I 0,U 0,U 0,I 0,U 0,U 0,I 0,I 0,I 0,I 0,I 0,I 0,I 0,I 0,.sl [],.sl [],I (-1),I 0,I 0,.sl [],I 0,I 0,I 0,I 0,I 1,B false,I 0,B false,I 0]],E (w3_95 v ri),E w3_96],A ri]
abbrev w3_105 (v:VaT):List V:=[A 1,A 0,A 2,A 1,E v.Rb,E [[I 31],[I 1024]],A 0,A 8,A 2,A 1048577,Z,A 2,A 1048578,Z,A 0,Z,E [[I 2003,I 1003,B false,I 3,I 2,I 1,I 6,I 2,.sl w3_74,I 6,I 4,.sl w3_74,I 6,I 3,.sl w3_74,I 2,I 1048580,.sl [],I 2,I 4,.sl [],I 3,I 0,.sl w3_101,I 3,I 0,.sl w3_18,I 0,I 2,I 0,I 0,I 0,I 0,.sl [],I 0,I 0,I 0,I 0,I 0,.sl [],I 0,I 0,.sl [],I 0,I 0,I 0,I 0,U 0,U 0,I 0,U 0,U 0,I 0,U 0,U 0,I 0,U 0,U 0,I 0,I 0,I 0,I 0,I 0,I 0,I 0,I 0,.sl [],.sl [],I 1,I 3,I 0,.sl [N 35,N 1003,N 2003,N 1,N 1,R 7 0 [w3_78,R 3 0 [(N 35),N 1003,N 2003,N 1,N 1,R 3 0 [w3_20,w3_21,w3_22,(w3_56 v),w3_82]]]],I 0,I 0,I 0,I 0,I 0,B false,I 0,B false,I 0]],.loc 12 0 2 42,Z]
abbrev w3_106 (v:VaT):List (List V):=[(w3_105 v),[A 2003],(w3_99 v),[A 1],w3_36,w3_88,w3_0,(w3_90 v),(w3_105 v),(w3_92 v),(w3_105 v),[],(w3_93 v),(w3_105 v),(w3_1 v)]
abbrev w3_107 (v:VaT):List V:=[A 1,A 0,A 2,A 1,E v.Rb,E [[I 31]],A 0,A 8,A 2,A 1048577,Z,A 2,A 1048578,Z,A 0,Z,E (w3_67 v),.loc 12 0 2 42,Z]
abbrev w3_108 (v:VaT):List (List V):=[(w3_107 v),[A 2003],(w3_35 v),[A 1],w3_36,w3_37,w3_0,(w3_39 v),(w3_107 v),(w3_42 v),(w3_107 v),[],(w3_43 v),(w3_107 v),(w3_1 v)]
abbrev w3_109 (v:VaT):List V:=[A 1,A 0,A 2,A 1,E v.Rb,E [[I 31]],A 0,A 8,A 2,A 1048577,Z,A 2,A 1048578,Z,A 0,Z,E (w3_71 v),.loc 12 0 2 42,Z]
abbrev w3_110 (v:VaT):List (List V):=[(w3_109 v),[A 2003],(w3_61 v),[A 1],w3_36,w3_37,w3_0,(w3_39 v),(w3_109 v),(w3_42 v),(w3_109 v),[],(w3_43 v),(w3_109 v),(w3_1 v)]
theorem rk3_0g_0 {v:VaT} {Ra:List (List D)} {ri:Int} (ex:Int) (H:HKs v Ra ri ⟨#[103,111,108,100]⟩) (h10:CV VP 10 [.ptr 0 0] [[E v.R,A 0]]=some ⟨twS0g v Ra ri,[[E v.R,A v.gk]],[],0⟩) (k0:((Int.tmod ex 5)==0)=true):CV VP 3 [E v.X,.d (.lit (.int .u8 ex))] []=some ⟨.d (B true),[],[],0⟩:=
 CV_R (AK_ok v.R v.gk ⟨#[103,111,108,100]⟩ (twS0g v Ra ri)) 400 [(565,true),(0,true)] [] rfl rfl (ob:=[Q (w3_0=w3_0),Q ((w3_1 v)=(w3_1 v)),Q (CV VP 197 (w3_2 v) []=some ⟨.agg (w3_4 v),[],[],0⟩),Q (CV VP 133 [.agg (w3_29 v),A v.rr] (w3_44 v)=some ⟨.d (.lit (.string ⟨#[103,111,108,100]⟩)),(w3_44 v),[],0⟩),(((Int.tmod ex 5)==0),true),Q (CV VP 197 (w3_46 v) []=some ⟨.agg (w3_47 v),[],[],0⟩),Q (CV VP 133 (w3_50 v Ra ri) []=some ⟨.d (.lit (.string ⟨#[103,111,108,100]⟩)),[],[],0⟩),Q (CV VP 10 [.ptr 0 0] [[E v.R,A 0]]=some ⟨twS0g v Ra ri,[[E v.R,A v.gk]],[],0⟩),Q (CV VP 9 (w3_51 v) []=some ⟨.ptr 0 0,(w3_52 v),[0],1⟩)]) (by kernel_rfl) (.cons (prB_of rfl)<|.cons (prB_of rfl)<|.cons (prB_of (h32g v.m H.mok H.mfine))<|.cons (prB_of (H.hrow.elim fun i h=>h.elim fun t0 h=>h.elim fun t1 h=>h133k _ (by kernel_rfl) i h.1 h.2))<|.cons (k0)<|.cons (prB_of (h32g v.ms H.msok H.msfine))<|.cons (prB_of (H.hra.elim fun i h=>h.elim fun t0 h=>h.elim fun t1 h=>h133d _ (by kernel_rfl) i h.1 h.2))<|.cons (prB_of h10)<|.cons (prB_of H.h9)<|.nil)
theorem rk3_0g_1 {v:VaT} {Ra:List (List D)} {ri:Int} (ex:Int) (H:HKs v Ra ri ⟨#[103,111,108,100]⟩) (h10:CV VP 10 [.ptr 0 0] [[E v.R,A 0]]=some ⟨twS0g v Ra ri,[[E v.R,A v.gk]],[],0⟩) (k0:((Int.tmod ex 5)==1)=true) (k1:((Int.tmod ex 5)==0)=false):CV VP 3 [E v.X,.d (.lit (.int .u8 ex))] []=some ⟨.d (B true),[],[],0⟩:=
 CV_R (AK_ok v.R v.gk ⟨#[103,111,108,100]⟩ (twS0g v Ra ri)) 400 [(565,true),(0,false),(0,true)] [] rfl rfl (ob:=[(((Int.tmod ex 5)==1),true),(((Int.tmod ex 5)==0),false),Q (CV VP 197 (w3_46 v) []=some ⟨.agg (w3_47 v),[],[],0⟩),Q (CV VP 133 (w3_50 v Ra ri) []=some ⟨.d (.lit (.string ⟨#[103,111,108,100]⟩)),[],[],0⟩),Q (CV VP 10 [.ptr 0 0] [[E v.R,A 0]]=some ⟨twS0g v Ra ri,[[E v.R,A v.gk]],[],0⟩),Q (CV VP 9 (w3_51 v) []=some ⟨.ptr 0 0,(w3_52 v),[0],1⟩)]) (by kernel_rfl) (.cons (k0)<|.cons (k1)<|.cons (prB_of (h32g v.ms H.msok H.msfine))<|.cons (prB_of (H.hra.elim fun i h=>h.elim fun t0 h=>h.elim fun t1 h=>h133d _ (by kernel_rfl) i h.1 h.2))<|.cons (prB_of h10)<|.cons (prB_of H.h9)<|.nil)
theorem rk3_0g_2 {v:VaT} {Ra:List (List D)} {ri:Int} (ex:Int) (H:HKs v Ra ri ⟨#[103,111,108,100]⟩) (h10:CV VP 10 [.ptr 0 0] [[E v.R,A 0]]=some ⟨twS0g v Ra ri,[[E v.R,A v.gk]],[],0⟩) (k0:((Int.tmod ex 5)==2)=true) (k1:((Int.tmod ex 5)==1)=false) (k2:((Int.tmod ex 5)==0)=false):CV VP 3 [E v.X,.d (.lit (.int .u8 ex))] []=some ⟨.d (B true),[],[],0⟩:=
 CV_R (AK_ok v.R v.gk ⟨#[103,111,108,100]⟩ (twS0g v Ra ri)) 400 [(565,true),(0,false),(0,false),(0,true)] [] rfl rfl (ob:=[(((Int.tmod ex 5)==2),true),(((Int.tmod ex 5)==1),false),(((Int.tmod ex 5)==0),false),Q (CV VP 197 (w3_46 v) []=some ⟨.agg (w3_47 v),[],[],0⟩),Q (CV VP 133 (w3_50 v Ra ri) []=some ⟨.d (.lit (.string ⟨#[103,111,108,100]⟩)),[],[],0⟩),Q (CV VP 10 [.ptr 0 0] [[E v.R,A 0]]=some ⟨twS0g v Ra ri,[[E v.R,A v.gk]],[],0⟩),Q (CV VP 9 (w3_51 v) []=some ⟨.ptr 0 0,(w3_52 v),[0],1⟩)]) (by kernel_rfl) (.cons (k0)<|.cons (k1)<|.cons (k2)<|.cons (prB_of (h32g v.ms H.msok H.msfine))<|.cons (prB_of (H.hra.elim fun i h=>h.elim fun t0 h=>h.elim fun t1 h=>h133d _ (by kernel_rfl) i h.1 h.2))<|.cons (prB_of h10)<|.cons (prB_of H.h9)<|.nil)
theorem rk3_0g_3 {v:VaT} {Ra:List (List D)} {ri:Int} (ex:Int) (H:HKs v Ra ri ⟨#[103,111,108,100]⟩) (h10:CV VP 10 [.ptr 0 0] [[E v.R,A 0]]=some ⟨twS0g v Ra ri,[[E v.R,A v.gk]],[],0⟩) (k0:((Int.tmod ex 5)==3)=true) (k1:((Int.tmod ex 5)==2)=false) (k2:((Int.tmod ex 5)==1)=false) (k3:((Int.tmod ex 5)==0)=false):CV VP 3 [E v.X,.d (.lit (.int .u8 ex))] []=some ⟨.d (B true),[],[],0⟩:=
 CV_R (AK_ok v.R v.gk ⟨#[103,111,108,100]⟩ (twS0g v Ra ri)) 400 [(565,true),(0,false),(0,false),(0,false),(0,true)] [] rfl rfl (ob:=[(((Int.tmod ex 5)==3),true),(((Int.tmod ex 5)==2),false),(((Int.tmod ex 5)==1),false),(((Int.tmod ex 5)==0),false),Q (CV VP 197 (w3_46 v) []=some ⟨.agg (w3_47 v),[],[],0⟩),Q (CV VP 133 (w3_50 v Ra ri) []=some ⟨.d (.lit (.string ⟨#[103,111,108,100]⟩)),[],[],0⟩),Q (CV VP 10 [.ptr 0 0] [[E v.R,A 0]]=some ⟨twS0g v Ra ri,[[E v.R,A v.gk]],[],0⟩),Q (CV VP 9 (w3_51 v) []=some ⟨.ptr 0 0,(w3_52 v),[0],1⟩)]) (by kernel_rfl) (.cons (k0)<|.cons (k1)<|.cons (k2)<|.cons (k3)<|.cons (prB_of (h32g v.ms H.msok H.msfine))<|.cons (prB_of (H.hra.elim fun i h=>h.elim fun t0 h=>h.elim fun t1 h=>h133d _ (by kernel_rfl) i h.1 h.2))<|.cons (prB_of h10)<|.cons (prB_of H.h9)<|.nil)
theorem rk3_0g_4 {v:VaT} {Ra:List (List D)} {ri:Int} (ex:Int) (H:HKs v Ra ri ⟨#[103,111,108,100]⟩) (h10:CV VP 10 [.ptr 0 0] [[E v.R,A 0]]=some ⟨twS0g v Ra ri,[[E v.R,A v.gk]],[],0⟩) (k0:((Int.tmod ex 5)==4)=true) (k1:((Int.tmod ex 5)==3)=false) (k2:((Int.tmod ex 5)==2)=false) (k3:((Int.tmod ex 5)==1)=false) (k4:((Int.tmod ex 5)==0)=false):CV VP 3 [E v.X,.d (.lit (.int .u8 ex))] []=some ⟨.d (B true),[],[],0⟩:=
 CV_R (AK_ok v.R v.gk ⟨#[103,111,108,100]⟩ (twS0g v Ra ri)) 400 [(565,true),(0,false),(0,false),(0,false),(0,false),(0,true)] [] rfl rfl (ob:=[(((Int.tmod ex 5)==4),true),(((Int.tmod ex 5)==3),false),(((Int.tmod ex 5)==2),false),(((Int.tmod ex 5)==1),false),(((Int.tmod ex 5)==0),false),Q (CV VP 197 (w3_46 v) []=some ⟨.agg (w3_47 v),[],[],0⟩),Q (CV VP 133 (w3_50 v Ra ri) []=some ⟨.d (.lit (.string ⟨#[103,111,108,100]⟩)),[],[],0⟩),Q (CV VP 10 [.ptr 0 0] [[E v.R,A 0]]=some ⟨twS0g v Ra ri,[[E v.R,A v.gk]],[],0⟩),Q (CV VP 9 (w3_51 v) []=some ⟨.ptr 0 0,(w3_52 v),[0],1⟩)]) (by kernel_rfl) (.cons (k0)<|.cons (k1)<|.cons (k2)<|.cons (k3)<|.cons (k4)<|.cons (prB_of (h32g v.ms H.msok H.msfine))<|.cons (prB_of (H.hra.elim fun i h=>h.elim fun t0 h=>h.elim fun t1 h=>h133d _ (by kernel_rfl) i h.1 h.2))<|.cons (prB_of h10)<|.cons (prB_of H.h9)<|.nil)
theorem rk3_0s_0 {v:VaT} {Ra:List (List D)} {ri:Int} (ex:Int) (H:HKs v Ra ri ⟨#[115,105,108,118,101,114]⟩) (h10:CV VP 10 [.ptr 0 0] [[E v.R,A 0]]=some ⟨twS0s v Ra ri,[[E v.R,A v.gk]],[],0⟩) (k0:((Int.tmod ex 5)==0)=true):CV VP 3 [E v.X,.d (.lit (.int .u8 ex))] []=some ⟨.d (B true),[],[],0⟩:=
 CV_R (AK_ok v.R v.gk ⟨#[115,105,108,118,101,114]⟩ (twS0s v Ra ri)) 400 [(565,true),(0,true)] [] rfl rfl (ob:=[Q (w3_0=w3_0),Q ((w3_1 v)=(w3_1 v)),Q (CV VP 197 (w3_53 v) []=some ⟨.agg (w3_55 v),[],[],0⟩),Q (CV VP 133 [.agg (w3_58 v),A v.rr] (w3_62 v)=some ⟨.d (.lit (.string ⟨#[115,105,108,118,101,114]⟩)),(w3_62 v),[],0⟩),(((Int.tmod ex 5)==0),true),Q (CV VP 197 (w3_63 v) []=some ⟨.agg (w3_64 v),[],[],0⟩),Q (CV VP 133 (w3_50 v Ra ri) []=some ⟨.d (.lit (.string ⟨#[115,105,108,118,101,114]⟩)),[],[],0⟩),Q (CV VP 10 [.ptr 0 0] [[E v.R,A 0]]=some ⟨twS0s v Ra ri,[[E v.R,A v.gk]],[],0⟩),Q (CV VP 9 (w3_51 v) []=some ⟨.ptr 0 0,(w3_52 v),[0],1⟩)]) (by kernel_rfl) (.cons (prB_of rfl)<|.cons (prB_of rfl)<|.cons (prB_of (h32s v.m H.mok H.mfine))<|.cons (prB_of (H.hrow.elim fun i h=>h.elim fun t0 h=>h.elim fun t1 h=>h133k _ (by kernel_rfl) i h.1 h.2))<|.cons (k0)<|.cons (prB_of (h32s v.ms H.msok H.msfine))<|.cons (prB_of (H.hra.elim fun i h=>h.elim fun t0 h=>h.elim fun t1 h=>h133d _ (by kernel_rfl) i h.1 h.2))<|.cons (prB_of h10)<|.cons (prB_of H.h9)<|.nil)
theorem rk3_0s_1 {v:VaT} {Ra:List (List D)} {ri:Int} (ex:Int) (H:HKs v Ra ri ⟨#[115,105,108,118,101,114]⟩) (h10:CV VP 10 [.ptr 0 0] [[E v.R,A 0]]=some ⟨twS0s v Ra ri,[[E v.R,A v.gk]],[],0⟩) (k0:((Int.tmod ex 5)==1)=true) (k1:((Int.tmod ex 5)==0)=false):CV VP 3 [E v.X,.d (.lit (.int .u8 ex))] []=some ⟨.d (B true),[],[],0⟩:=
 CV_R (AK_ok v.R v.gk ⟨#[115,105,108,118,101,114]⟩ (twS0s v Ra ri)) 400 [(565,true),(0,false),(0,true)] [] rfl rfl (ob:=[(((Int.tmod ex 5)==1),true),(((Int.tmod ex 5)==0),false),Q (CV VP 197 (w3_63 v) []=some ⟨.agg (w3_64 v),[],[],0⟩),Q (CV VP 133 (w3_50 v Ra ri) []=some ⟨.d (.lit (.string ⟨#[115,105,108,118,101,114]⟩)),[],[],0⟩),Q (CV VP 10 [.ptr 0 0] [[E v.R,A 0]]=some ⟨twS0s v Ra ri,[[E v.R,A v.gk]],[],0⟩),Q (CV VP 9 (w3_51 v) []=some ⟨.ptr 0 0,(w3_52 v),[0],1⟩)]) (by kernel_rfl) (.cons (k0)<|.cons (k1)<|.cons (prB_of (h32s v.ms H.msok H.msfine))<|.cons (prB_of (H.hra.elim fun i h=>h.elim fun t0 h=>h.elim fun t1 h=>h133d _ (by kernel_rfl) i h.1 h.2))<|.cons (prB_of h10)<|.cons (prB_of H.h9)<|.nil)
theorem rk3_0s_2 {v:VaT} {Ra:List (List D)} {ri:Int} (ex:Int) (H:HKs v Ra ri ⟨#[115,105,108,118,101,114]⟩) (h10:CV VP 10 [.ptr 0 0] [[E v.R,A 0]]=some ⟨twS0s v Ra ri,[[E v.R,A v.gk]],[],0⟩) (k0:((Int.tmod ex 5)==2)=true) (k1:((Int.tmod ex 5)==1)=false) (k2:((Int.tmod ex 5)==0)=false):CV VP 3 [E v.X,.d (.lit (.int .u8 ex))] []=some ⟨.d (B true),[],[],0⟩:=
 CV_R (AK_ok v.R v.gk ⟨#[115,105,108,118,101,114]⟩ (twS0s v Ra ri)) 400 [(565,true),(0,false),(0,false),(0,true)] [] rfl rfl (ob:=[(((Int.tmod ex 5)==2),true),(((Int.tmod ex 5)==1),false),(((Int.tmod ex 5)==0),false),Q (CV VP 197 (w3_63 v) []=some ⟨.agg (w3_64 v),[],[],0⟩),Q (CV VP 133 (w3_50 v Ra ri) []=some ⟨.d (.lit (.string ⟨#[115,105,108,118,101,114]⟩)),[],[],0⟩),Q (CV VP 10 [.ptr 0 0] [[E v.R,A 0]]=some ⟨twS0s v Ra ri,[[E v.R,A v.gk]],[],0⟩),Q (CV VP 9 (w3_51 v) []=some ⟨.ptr 0 0,(w3_52 v),[0],1⟩)]) (by kernel_rfl) (.cons (k0)<|.cons (k1)<|.cons (k2)<|.cons (prB_of (h32s v.ms H.msok H.msfine))<|.cons (prB_of (H.hra.elim fun i h=>h.elim fun t0 h=>h.elim fun t1 h=>h133d _ (by kernel_rfl) i h.1 h.2))<|.cons (prB_of h10)<|.cons (prB_of H.h9)<|.nil)
theorem rk3_0s_3 {v:VaT} {Ra:List (List D)} {ri:Int} (ex:Int) (H:HKs v Ra ri ⟨#[115,105,108,118,101,114]⟩) (h10:CV VP 10 [.ptr 0 0] [[E v.R,A 0]]=some ⟨twS0s v Ra ri,[[E v.R,A v.gk]],[],0⟩) (k0:((Int.tmod ex 5)==3)=true) (k1:((Int.tmod ex 5)==2)=false) (k2:((Int.tmod ex 5)==1)=false) (k3:((Int.tmod ex 5)==0)=false):CV VP 3 [E v.X,.d (.lit (.int .u8 ex))] []=some ⟨.d (B true),[],[],0⟩:=
 CV_R (AK_ok v.R v.gk ⟨#[115,105,108,118,101,114]⟩ (twS0s v Ra ri)) 400 [(565,true),(0,false),(0,false),(0,false),(0,true)] [] rfl rfl (ob:=[(((Int.tmod ex 5)==3),true),(((Int.tmod ex 5)==2),false),(((Int.tmod ex 5)==1),false),(((Int.tmod ex 5)==0),false),Q (CV VP 197 (w3_63 v) []=some ⟨.agg (w3_64 v),[],[],0⟩),Q (CV VP 133 (w3_50 v Ra ri) []=some ⟨.d (.lit (.string ⟨#[115,105,108,118,101,114]⟩)),[],[],0⟩),Q (CV VP 10 [.ptr 0 0] [[E v.R,A 0]]=some ⟨twS0s v Ra ri,[[E v.R,A v.gk]],[],0⟩),Q (CV VP 9 (w3_51 v) []=some ⟨.ptr 0 0,(w3_52 v),[0],1⟩)]) (by kernel_rfl) (.cons (k0)<|.cons (k1)<|.cons (k2)<|.cons (k3)<|.cons (prB_of (h32s v.ms H.msok H.msfine))<|.cons (prB_of (H.hra.elim fun i h=>h.elim fun t0 h=>h.elim fun t1 h=>h133d _ (by kernel_rfl) i h.1 h.2))<|.cons (prB_of h10)<|.cons (prB_of H.h9)<|.nil)
theorem rk3_0s_4 {v:VaT} {Ra:List (List D)} {ri:Int} (ex:Int) (H:HKs v Ra ri ⟨#[115,105,108,118,101,114]⟩) (h10:CV VP 10 [.ptr 0 0] [[E v.R,A 0]]=some ⟨twS0s v Ra ri,[[E v.R,A v.gk]],[],0⟩) (k0:((Int.tmod ex 5)==4)=true) (k1:((Int.tmod ex 5)==3)=false) (k2:((Int.tmod ex 5)==2)=false) (k3:((Int.tmod ex 5)==1)=false) (k4:((Int.tmod ex 5)==0)=false):CV VP 3 [E v.X,.d (.lit (.int .u8 ex))] []=some ⟨.d (B true),[],[],0⟩:=
 CV_R (AK_ok v.R v.gk ⟨#[115,105,108,118,101,114]⟩ (twS0s v Ra ri)) 400 [(565,true),(0,false),(0,false),(0,false),(0,false),(0,true)] [] rfl rfl (ob:=[(((Int.tmod ex 5)==4),true),(((Int.tmod ex 5)==3),false),(((Int.tmod ex 5)==2),false),(((Int.tmod ex 5)==1),false),(((Int.tmod ex 5)==0),false),Q (CV VP 197 (w3_63 v) []=some ⟨.agg (w3_64 v),[],[],0⟩),Q (CV VP 133 (w3_50 v Ra ri) []=some ⟨.d (.lit (.string ⟨#[115,105,108,118,101,114]⟩)),[],[],0⟩),Q (CV VP 10 [.ptr 0 0] [[E v.R,A 0]]=some ⟨twS0s v Ra ri,[[E v.R,A v.gk]],[],0⟩),Q (CV VP 9 (w3_51 v) []=some ⟨.ptr 0 0,(w3_52 v),[0],1⟩)]) (by kernel_rfl) (.cons (k0)<|.cons (k1)<|.cons (k2)<|.cons (k3)<|.cons (k4)<|.cons (prB_of (h32s v.ms H.msok H.msfine))<|.cons (prB_of (H.hra.elim fun i h=>h.elim fun t0 h=>h.elim fun t1 h=>h133d _ (by kernel_rfl) i h.1 h.2))<|.cons (prB_of h10)<|.cons (prB_of H.h9)<|.nil)
theorem rk3_1g_0 {v:VaT} {Ra:List (List D)} {ri:Int} (ex:Int) (H:HKs v Ra ri ⟨#[103,111,108,100]⟩) (h10:CV VP 10 [.ptr 0 0] [[E v.R,A 0]]=some ⟨twS1g v Ra ri,[[E v.R,A v.gk]],[],0⟩) (k0:((Int.tmod ex 5)==0)=true):CV VP 3 [E v.X,.d (.lit (.int .u8 ex))] []=some ⟨.d (B true),[],[],0⟩:=
 CV_R (AK_ok v.R v.gk ⟨#[103,111,108,100]⟩ (twS1g v Ra ri)) 400 [(565,true),(0,true)] [] rfl rfl (ob:=[Q (w3_0=w3_0),Q ((w3_1 v)=(w3_1 v)),Q (CV VP 197 (w3_2 v) []=some ⟨.agg (w3_4 v),[],[],0⟩),Q (CV VP 133 [.agg (w3_68 v),A v.rr] (w3_69 v)=some ⟨.d (.lit (.string ⟨#[103,111,108,100]⟩)),(w3_69 v),[],0⟩),(((Int.tmod ex 5)==0),true),Q (CV VP 197 (w3_46 v) []=some ⟨.agg (w3_47 v),[],[],0⟩),Q (CV VP 133 (w3_70 v Ra ri) []=some ⟨.d (.lit (.string ⟨#[103,111,108,100]⟩)),[],[],0⟩),Q (CV VP 10 [.ptr 0 0] [[E v.R,A 0]]=some ⟨twS1g v Ra ri,[[E v.R,A v.gk]],[],0⟩),Q (CV VP 9 (w3_51 v) []=some ⟨.ptr 0 0,(w3_52 v),[0],1⟩)]) (by kernel_rfl) (.cons (prB_of rfl)<|.cons (prB_of rfl)<|.cons (prB_of (h32g v.m H.mok H.mfine))<|.cons (prB_of (H.hrow.elim fun i h=>h.elim fun t0 h=>h.elim fun t1 h=>h133k _ (by kernel_rfl) i h.1 h.2))<|.cons (k0)<|.cons (prB_of (h32g v.ms H.msok H.msfine))<|.cons (prB_of (H.hra.elim fun i h=>h.elim fun t0 h=>h.elim fun t1 h=>h133d _ (by kernel_rfl) i h.1 h.2))<|.cons (prB_of h10)<|.cons (prB_of H.h9)<|.nil)
theorem rk3_1g_1 {v:VaT} {Ra:List (List D)} {ri:Int} (ex:Int) (H:HKs v Ra ri ⟨#[103,111,108,100]⟩) (h10:CV VP 10 [.ptr 0 0] [[E v.R,A 0]]=some ⟨twS1g v Ra ri,[[E v.R,A v.gk]],[],0⟩) (k0:((Int.tmod ex 5)==1)=true) (k1:((Int.tmod ex 5)==0)=false):CV VP 3 [E v.X,.d (.lit (.int .u8 ex))] []=some ⟨.d (B true),[],[],0⟩:=
 CV_R (AK_ok v.R v.gk ⟨#[103,111,108,100]⟩ (twS1g v Ra ri)) 400 [(565,true),(0,false),(0,true)] [] rfl rfl (ob:=[(((Int.tmod ex 5)==1),true),(((Int.tmod ex 5)==0),false),Q (CV VP 197 (w3_46 v) []=some ⟨.agg (w3_47 v),[],[],0⟩),Q (CV VP 133 (w3_70 v Ra ri) []=some ⟨.d (.lit (.string ⟨#[103,111,108,100]⟩)),[],[],0⟩),Q (CV VP 10 [.ptr 0 0] [[E v.R,A 0]]=some ⟨twS1g v Ra ri,[[E v.R,A v.gk]],[],0⟩),Q (CV VP 9 (w3_51 v) []=some ⟨.ptr 0 0,(w3_52 v),[0],1⟩)]) (by kernel_rfl) (.cons (k0)<|.cons (k1)<|.cons (prB_of (h32g v.ms H.msok H.msfine))<|.cons (prB_of (H.hra.elim fun i h=>h.elim fun t0 h=>h.elim fun t1 h=>h133d _ (by kernel_rfl) i h.1 h.2))<|.cons (prB_of h10)<|.cons (prB_of H.h9)<|.nil)
theorem rk3_1g_2 {v:VaT} {Ra:List (List D)} {ri:Int} (ex:Int) (H:HKs v Ra ri ⟨#[103,111,108,100]⟩) (h10:CV VP 10 [.ptr 0 0] [[E v.R,A 0]]=some ⟨twS1g v Ra ri,[[E v.R,A v.gk]],[],0⟩) (k0:((Int.tmod ex 5)==2)=true) (k1:((Int.tmod ex 5)==1)=false) (k2:((Int.tmod ex 5)==0)=false):CV VP 3 [E v.X,.d (.lit (.int .u8 ex))] []=some ⟨.d (B true),[],[],0⟩:=
 CV_R (AK_ok v.R v.gk ⟨#[103,111,108,100]⟩ (twS1g v Ra ri)) 400 [(565,true),(0,false),(0,false),(0,true)] [] rfl rfl (ob:=[(((Int.tmod ex 5)==2),true),(((Int.tmod ex 5)==1),false),(((Int.tmod ex 5)==0),false),Q (CV VP 197 (w3_46 v) []=some ⟨.agg (w3_47 v),[],[],0⟩),Q (CV VP 133 (w3_70 v Ra ri) []=some ⟨.d (.lit (.string ⟨#[103,111,108,100]⟩)),[],[],0⟩),Q (CV VP 10 [.ptr 0 0] [[E v.R,A 0]]=some ⟨twS1g v Ra ri,[[E v.R,A v.gk]],[],0⟩),Q (CV VP 9 (w3_51 v) []=some ⟨.ptr 0 0,(w3_52 v),[0],1⟩)]) (by kernel_rfl) (.cons (k0)<|.cons (k1)<|.cons (k2)<|.cons (prB_of (h32g v.ms H.msok H.msfine))<|.cons (prB_of (H.hra.elim fun i h=>h.elim fun t0 h=>h.elim fun t1 h=>h133d _ (by kernel_rfl) i h.1 h.2))<|.cons (prB_of h10)<|.cons (prB_of H.h9)<|.nil)
theorem rk3_1g_3 {v:VaT} {Ra:List (List D)} {ri:Int} (ex:Int) (H:HKs v Ra ri ⟨#[103,111,108,100]⟩) (h10:CV VP 10 [.ptr 0 0] [[E v.R,A 0]]=some ⟨twS1g v Ra ri,[[E v.R,A v.gk]],[],0⟩) (k0:((Int.tmod ex 5)==3)=true) (k1:((Int.tmod ex 5)==2)=false) (k2:((Int.tmod ex 5)==1)=false) (k3:((Int.tmod ex 5)==0)=false):CV VP 3 [E v.X,.d (.lit (.int .u8 ex))] []=some ⟨.d (B true),[],[],0⟩:=
 CV_R (AK_ok v.R v.gk ⟨#[103,111,108,100]⟩ (twS1g v Ra ri)) 400 [(565,true),(0,false),(0,false),(0,false),(0,true)] [] rfl rfl (ob:=[(((Int.tmod ex 5)==3),true),(((Int.tmod ex 5)==2),false),(((Int.tmod ex 5)==1),false),(((Int.tmod ex 5)==0),false),Q (CV VP 197 (w3_46 v) []=some ⟨.agg (w3_47 v),[],[],0⟩),Q (CV VP 133 (w3_70 v Ra ri) []=some ⟨.d (.lit (.string ⟨#[103,111,108,100]⟩)),[],[],0⟩),Q (CV VP 10 [.ptr 0 0] [[E v.R,A 0]]=some ⟨twS1g v Ra ri,[[E v.R,A v.gk]],[],0⟩),Q (CV VP 9 (w3_51 v) []=some ⟨.ptr 0 0,(w3_52 v),[0],1⟩)]) (by kernel_rfl) (.cons (k0)<|.cons (k1)<|.cons (k2)<|.cons (k3)<|.cons (prB_of (h32g v.ms H.msok H.msfine))<|.cons (prB_of (H.hra.elim fun i h=>h.elim fun t0 h=>h.elim fun t1 h=>h133d _ (by kernel_rfl) i h.1 h.2))<|.cons (prB_of h10)<|.cons (prB_of H.h9)<|.nil)
theorem rk3_1g_4 {v:VaT} {Ra:List (List D)} {ri:Int} (ex:Int) (H:HKs v Ra ri ⟨#[103,111,108,100]⟩) (h10:CV VP 10 [.ptr 0 0] [[E v.R,A 0]]=some ⟨twS1g v Ra ri,[[E v.R,A v.gk]],[],0⟩) (k0:((Int.tmod ex 5)==4)=true) (k1:((Int.tmod ex 5)==3)=false) (k2:((Int.tmod ex 5)==2)=false) (k3:((Int.tmod ex 5)==1)=false) (k4:((Int.tmod ex 5)==0)=false):CV VP 3 [E v.X,.d (.lit (.int .u8 ex))] []=some ⟨.d (B true),[],[],0⟩:=
 CV_R (AK_ok v.R v.gk ⟨#[103,111,108,100]⟩ (twS1g v Ra ri)) 400 [(565,true),(0,false),(0,false),(0,false),(0,false),(0,true)] [] rfl rfl (ob:=[(((Int.tmod ex 5)==4),true),(((Int.tmod ex 5)==3),false),(((Int.tmod ex 5)==2),false),(((Int.tmod ex 5)==1),false),(((Int.tmod ex 5)==0),false),Q (CV VP 197 (w3_46 v) []=some ⟨.agg (w3_47 v),[],[],0⟩),Q (CV VP 133 (w3_70 v Ra ri) []=some ⟨.d (.lit (.string ⟨#[103,111,108,100]⟩)),[],[],0⟩),Q (CV VP 10 [.ptr 0 0] [[E v.R,A 0]]=some ⟨twS1g v Ra ri,[[E v.R,A v.gk]],[],0⟩),Q (CV VP 9 (w3_51 v) []=some ⟨.ptr 0 0,(w3_52 v),[0],1⟩)]) (by kernel_rfl) (.cons (k0)<|.cons (k1)<|.cons (k2)<|.cons (k3)<|.cons (k4)<|.cons (prB_of (h32g v.ms H.msok H.msfine))<|.cons (prB_of (H.hra.elim fun i h=>h.elim fun t0 h=>h.elim fun t1 h=>h133d _ (by kernel_rfl) i h.1 h.2))<|.cons (prB_of h10)<|.cons (prB_of H.h9)<|.nil)
theorem rk3_1s_0 {v:VaT} {Ra:List (List D)} {ri:Int} (ex:Int) (H:HKs v Ra ri ⟨#[115,105,108,118,101,114]⟩) (h10:CV VP 10 [.ptr 0 0] [[E v.R,A 0]]=some ⟨twS1s v Ra ri,[[E v.R,A v.gk]],[],0⟩) (k0:((Int.tmod ex 5)==0)=true):CV VP 3 [E v.X,.d (.lit (.int .u8 ex))] []=some ⟨.d (B true),[],[],0⟩:=
 CV_R (AK_ok v.R v.gk ⟨#[115,105,108,118,101,114]⟩ (twS1s v Ra ri)) 400 [(565,true),(0,true)] [] rfl rfl (ob:=[Q (w3_0=w3_0),Q ((w3_1 v)=(w3_1 v)),Q (CV VP 197 (w3_53 v) []=some ⟨.agg (w3_55 v),[],[],0⟩),Q (CV VP 133 [.agg (w3_72 v),A v.rr] (w3_73 v)=some ⟨.d (.lit (.string ⟨#[115,105,108,118,101,114]⟩)),(w3_73 v),[],0⟩),(((Int.tmod ex 5)==0),true),Q (CV VP 197 (w3_63 v) []=some ⟨.agg (w3_64 v),[],[],0⟩),Q (CV VP 133 (w3_70 v Ra ri) []=some ⟨.d (.lit (.string ⟨#[115,105,108,118,101,114]⟩)),[],[],0⟩),Q (CV VP 10 [.ptr 0 0] [[E v.R,A 0]]=some ⟨twS1s v Ra ri,[[E v.R,A v.gk]],[],0⟩),Q (CV VP 9 (w3_51 v) []=some ⟨.ptr 0 0,(w3_52 v),[0],1⟩)]) (by kernel_rfl) (.cons (prB_of rfl)<|.cons (prB_of rfl)<|.cons (prB_of (h32s v.m H.mok H.mfine))<|.cons (prB_of (H.hrow.elim fun i h=>h.elim fun t0 h=>h.elim fun t1 h=>h133k _ (by kernel_rfl) i h.1 h.2))<|.cons (k0)<|.cons (prB_of (h32s v.ms H.msok H.msfine))<|.cons (prB_of (H.hra.elim fun i h=>h.elim fun t0 h=>h.elim fun t1 h=>h133d _ (by kernel_rfl) i h.1 h.2))<|.cons (prB_of h10)<|.cons (prB_of H.h9)<|.nil)
theorem rk3_1s_1 {v:VaT} {Ra:List (List D)} {ri:Int} (ex:Int) (H:HKs v Ra ri ⟨#[115,105,108,118,101,114]⟩) (h10:CV VP 10 [.ptr 0 0] [[E v.R,A 0]]=some ⟨twS1s v Ra ri,[[E v.R,A v.gk]],[],0⟩) (k0:((Int.tmod ex 5)==1)=true) (k1:((Int.tmod ex 5)==0)=false):CV VP 3 [E v.X,.d (.lit (.int .u8 ex))] []=some ⟨.d (B true),[],[],0⟩:=
 CV_R (AK_ok v.R v.gk ⟨#[115,105,108,118,101,114]⟩ (twS1s v Ra ri)) 400 [(565,true),(0,false),(0,true)] [] rfl rfl (ob:=[(((Int.tmod ex 5)==1),true),(((Int.tmod ex 5)==0),false),Q (CV VP 197 (w3_63 v) []=some ⟨.agg (w3_64 v),[],[],0⟩),Q (CV VP 133 (w3_70 v Ra ri) []=some ⟨.d (.lit (.string ⟨#[115,105,108,118,101,114]⟩)),[],[],0⟩),Q (CV VP 10 [.ptr 0 0] [[E v.R,A 0]]=some ⟨twS1s v Ra ri,[[E v.R,A v.gk]],[],0⟩),Q (CV VP 9 (w3_51 v) []=some ⟨.ptr 0 0,(w3_52 v),[0],1⟩)]) (by kernel_rfl) (.cons (k0)<|.cons (k1)<|.cons (prB_of (h32s v.ms H.msok H.msfine))<|.cons (prB_of (H.hra.elim fun i h=>h.elim fun t0 h=>h.elim fun t1 h=>h133d _ (by kernel_rfl) i h.1 h.2))<|.cons (prB_of h10)<|.cons (prB_of H.h9)<|.nil)
theorem rk3_1s_2 {v:VaT} {Ra:List (List D)} {ri:Int} (ex:Int) (H:HKs v Ra ri ⟨#[115,105,108,118,101,114]⟩) (h10:CV VP 10 [.ptr 0 0] [[E v.R,A 0]]=some ⟨twS1s v Ra ri,[[E v.R,A v.gk]],[],0⟩) (k0:((Int.tmod ex 5)==2)=true) (k1:((Int.tmod ex 5)==1)=false) (k2:((Int.tmod ex 5)==0)=false):CV VP 3 [E v.X,.d (.lit (.int .u8 ex))] []=some ⟨.d (B true),[],[],0⟩:=
 CV_R (AK_ok v.R v.gk ⟨#[115,105,108,118,101,114]⟩ (twS1s v Ra ri)) 400 [(565,true),(0,false),(0,false),(0,true)] [] rfl rfl (ob:=[(((Int.tmod ex 5)==2),true),(((Int.tmod ex 5)==1),false),(((Int.tmod ex 5)==0),false),Q (CV VP 197 (w3_63 v) []=some ⟨.agg (w3_64 v),[],[],0⟩),Q (CV VP 133 (w3_70 v Ra ri) []=some ⟨.d (.lit (.string ⟨#[115,105,108,118,101,114]⟩)),[],[],0⟩),Q (CV VP 10 [.ptr 0 0] [[E v.R,A 0]]=some ⟨twS1s v Ra ri,[[E v.R,A v.gk]],[],0⟩),Q (CV VP 9 (w3_51 v) []=some ⟨.ptr 0 0,(w3_52 v),[0],1⟩)]) (by kernel_rfl) (.cons (k0)<|.cons (k1)<|.cons (k2)<|.cons (prB_of (h32s v.ms H.msok H.msfine))<|.cons (prB_of (H.hra.elim fun i h=>h.elim fun t0 h=>h.elim fun t1 h=>h133d _ (by kernel_rfl) i h.1 h.2))<|.cons (prB_of h10)<|.cons (prB_of H.h9)<|.nil)
theorem rk3_1s_3 {v:VaT} {Ra:List (List D)} {ri:Int} (ex:Int) (H:HKs v Ra ri ⟨#[115,105,108,118,101,114]⟩) (h10:CV VP 10 [.ptr 0 0] [[E v.R,A 0]]=some ⟨twS1s v Ra ri,[[E v.R,A v.gk]],[],0⟩) (k0:((Int.tmod ex 5)==3)=true) (k1:((Int.tmod ex 5)==2)=false) (k2:((Int.tmod ex 5)==1)=false) (k3:((Int.tmod ex 5)==0)=false):CV VP 3 [E v.X,.d (.lit (.int .u8 ex))] []=some ⟨.d (B true),[],[],0⟩:=
 CV_R (AK_ok v.R v.gk ⟨#[115,105,108,118,101,114]⟩ (twS1s v Ra ri)) 400 [(565,true),(0,false),(0,false),(0,false),(0,true)] [] rfl rfl (ob:=[(((Int.tmod ex 5)==3),true),(((Int.tmod ex 5)==2),false),(((Int.tmod ex 5)==1),false),(((Int.tmod ex 5)==0),false),Q (CV VP 197 (w3_63 v) []=some ⟨.agg (w3_64 v),[],[],0⟩),Q (CV VP 133 (w3_70 v Ra ri) []=some ⟨.d (.lit (.string ⟨#[115,105,108,118,101,114]⟩)),[],[],0⟩),Q (CV VP 10 [.ptr 0 0] [[E v.R,A 0]]=some ⟨twS1s v Ra ri,[[E v.R,A v.gk]],[],0⟩),Q (CV VP 9 (w3_51 v) []=some ⟨.ptr 0 0,(w3_52 v),[0],1⟩)]) (by kernel_rfl) (.cons (k0)<|.cons (k1)<|.cons (k2)<|.cons (k3)<|.cons (prB_of (h32s v.ms H.msok H.msfine))<|.cons (prB_of (H.hra.elim fun i h=>h.elim fun t0 h=>h.elim fun t1 h=>h133d _ (by kernel_rfl) i h.1 h.2))<|.cons (prB_of h10)<|.cons (prB_of H.h9)<|.nil)
theorem rk3_1s_4 {v:VaT} {Ra:List (List D)} {ri:Int} (ex:Int) (H:HKs v Ra ri ⟨#[115,105,108,118,101,114]⟩) (h10:CV VP 10 [.ptr 0 0] [[E v.R,A 0]]=some ⟨twS1s v Ra ri,[[E v.R,A v.gk]],[],0⟩) (k0:((Int.tmod ex 5)==4)=true) (k1:((Int.tmod ex 5)==3)=false) (k2:((Int.tmod ex 5)==2)=false) (k3:((Int.tmod ex 5)==1)=false) (k4:((Int.tmod ex 5)==0)=false):CV VP 3 [E v.X,.d (.lit (.int .u8 ex))] []=some ⟨.d (B true),[],[],0⟩:=
 CV_R (AK_ok v.R v.gk ⟨#[115,105,108,118,101,114]⟩ (twS1s v Ra ri)) 400 [(565,true),(0,false),(0,false),(0,false),(0,false),(0,true)] [] rfl rfl (ob:=[(((Int.tmod ex 5)==4),true),(((Int.tmod ex 5)==3),false),(((Int.tmod ex 5)==2),false),(((Int.tmod ex 5)==1),false),(((Int.tmod ex 5)==0),false),Q (CV VP 197 (w3_63 v) []=some ⟨.agg (w3_64 v),[],[],0⟩),Q (CV VP 133 (w3_70 v Ra ri) []=some ⟨.d (.lit (.string ⟨#[115,105,108,118,101,114]⟩)),[],[],0⟩),Q (CV VP 10 [.ptr 0 0] [[E v.R,A 0]]=some ⟨twS1s v Ra ri,[[E v.R,A v.gk]],[],0⟩),Q (CV VP 9 (w3_51 v) []=some ⟨.ptr 0 0,(w3_52 v),[0],1⟩)]) (by kernel_rfl) (.cons (k0)<|.cons (k1)<|.cons (k2)<|.cons (k3)<|.cons (k4)<|.cons (prB_of (h32s v.ms H.msok H.msfine))<|.cons (prB_of (H.hra.elim fun i h=>h.elim fun t0 h=>h.elim fun t1 h=>h133d _ (by kernel_rfl) i h.1 h.2))<|.cons (prB_of h10)<|.cons (prB_of H.h9)<|.nil)
theorem rk3_2g_0 {v:VaT} {Ra:List (List D)} {ri:Int} (ex:Int) (H:HKs v Ra ri ⟨#[103,111,108,100]⟩) (h10:CV VP 10 [.ptr 0 0] [[E v.R,A 0]]=some ⟨twS2g v Ra ri,[[E v.R,A v.gk]],[],0⟩) (k0:((Int.tmod ex 5)==0)=true):CV VP 3 [E v.X,.d (.lit (.int .u8 ex))] []=some ⟨.d (B true),[],[],0⟩:=
 CV_R (AK_ok v.R v.gk ⟨#[103,111,108,100]⟩ (twS2g v Ra ri)) 400 [(565,true),(0,true)] [] rfl rfl (ob:=[Q (w3_0=w3_0),Q ((w3_1 v)=(w3_1 v)),Q (CV VP 197 (w3_2 v) []=some ⟨.agg (w3_4 v),[],[],0⟩),Q (CV VP 133 [.agg (w3_83 v),A v.rr] (w3_94 v)=some ⟨.d (.lit (.string ⟨#[103,111,108,100]⟩)),(w3_94 v),[],0⟩),(((Int.tmod ex 5)==0),true),Q (CV VP 197 (w3_46 v) []=some ⟨.agg (w3_47 v),[],[],0⟩),Q (CV VP 133 (w3_97 v Ra ri) []=some ⟨.d (.lit (.string ⟨#[103,111,108,100]⟩)),[],[],0⟩),Q (CV VP 10 [.ptr 0 0] [[E v.R,A 0]]=some ⟨twS2g v Ra ri,[[E v.R,A v.gk]],[],0⟩),Q (CV VP 9 (w3_51 v) []=some ⟨.ptr 0 0,(w3_52 v),[0],1⟩)]) (by kernel_rfl) (.cons (prB_of rfl)<|.cons (prB_of rfl)<|.cons (prB_of (h32g v.m H.mok H.mfine))<|.cons (prB_of (H.hrow.elim fun i h=>h.elim fun t0 h=>h.elim fun t1 h=>h133k _ (by kernel_rfl) i h.1 h.2))<|.cons (k0)<|.cons (prB_of (h32g v.ms H.msok H.msfine))<|.cons (prB_of (H.hra.elim fun i h=>h.elim fun t0 h=>h.elim fun t1 h=>h133d _ (by kernel_rfl) i h.1 h.2))<|.cons (prB_of h10)<|.cons (prB_of H.h9)<|.nil)
theorem rk3_2g_1 {v:VaT} {Ra:List (List D)} {ri:Int} (ex:Int) (H:HKs v Ra ri ⟨#[103,111,108,100]⟩) (h10:CV VP 10 [.ptr 0 0] [[E v.R,A 0]]=some ⟨twS2g v Ra ri,[[E v.R,A v.gk]],[],0⟩) (k0:((Int.tmod ex 5)==1)=true) (k1:((Int.tmod ex 5)==0)=false):CV VP 3 [E v.X,.d (.lit (.int .u8 ex))] []=some ⟨.d (B true),[],[],0⟩:=
 CV_R (AK_ok v.R v.gk ⟨#[103,111,108,100]⟩ (twS2g v Ra ri)) 400 [(565,true),(0,false),(0,true)] [] rfl rfl (ob:=[(((Int.tmod ex 5)==1),true),(((Int.tmod ex 5)==0),false),Q (CV VP 197 (w3_46 v) []=some ⟨.agg (w3_47 v),[],[],0⟩),Q (CV VP 133 (w3_97 v Ra ri) []=some ⟨.d (.lit (.string ⟨#[103,111,108,100]⟩)),[],[],0⟩),Q (CV VP 10 [.ptr 0 0] [[E v.R,A 0]]=some ⟨twS2g v Ra ri,[[E v.R,A v.gk]],[],0⟩),Q (CV VP 9 (w3_51 v) []=some ⟨.ptr 0 0,(w3_52 v),[0],1⟩)]) (by kernel_rfl) (.cons (k0)<|.cons (k1)<|.cons (prB_of (h32g v.ms H.msok H.msfine))<|.cons (prB_of (H.hra.elim fun i h=>h.elim fun t0 h=>h.elim fun t1 h=>h133d _ (by kernel_rfl) i h.1 h.2))<|.cons (prB_of h10)<|.cons (prB_of H.h9)<|.nil)
theorem rk3_2g_2 {v:VaT} {Ra:List (List D)} {ri:Int} (ex:Int) (H:HKs v Ra ri ⟨#[103,111,108,100]⟩) (h10:CV VP 10 [.ptr 0 0] [[E v.R,A 0]]=some ⟨twS2g v Ra ri,[[E v.R,A v.gk]],[],0⟩) (k0:((Int.tmod ex 5)==2)=true) (k1:((Int.tmod ex 5)==1)=false) (k2:((Int.tmod ex 5)==0)=false):CV VP 3 [E v.X,.d (.lit (.int .u8 ex))] []=some ⟨.d (B true),[],[],0⟩:=
 CV_R (AK_ok v.R v.gk ⟨#[103,111,108,100]⟩ (twS2g v Ra ri)) 400 [(565,true),(0,false),(0,false),(0,true)] [] rfl rfl (ob:=[(((Int.tmod ex 5)==2),true),(((Int.tmod ex 5)==1),false),(((Int.tmod ex 5)==0),false),Q (CV VP 197 (w3_46 v) []=some ⟨.agg (w3_47 v),[],[],0⟩),Q (CV VP 133 (w3_97 v Ra ri) []=some ⟨.d (.lit (.string ⟨#[103,111,108,100]⟩)),[],[],0⟩),Q (CV VP 10 [.ptr 0 0] [[E v.R,A 0]]=some ⟨twS2g v Ra ri,[[E v.R,A v.gk]],[],0⟩),Q (CV VP 9 (w3_51 v) []=some ⟨.ptr 0 0,(w3_52 v),[0],1⟩)]) (by kernel_rfl) (.cons (k0)<|.cons (k1)<|.cons (k2)<|.cons (prB_of (h32g v.ms H.msok H.msfine))<|.cons (prB_of (H.hra.elim fun i h=>h.elim fun t0 h=>h.elim fun t1 h=>h133d _ (by kernel_rfl) i h.1 h.2))<|.cons (prB_of h10)<|.cons (prB_of H.h9)<|.nil)
theorem rk3_2g_3 {v:VaT} {Ra:List (List D)} {ri:Int} (ex:Int) (H:HKs v Ra ri ⟨#[103,111,108,100]⟩) (h10:CV VP 10 [.ptr 0 0] [[E v.R,A 0]]=some ⟨twS2g v Ra ri,[[E v.R,A v.gk]],[],0⟩) (k0:((Int.tmod ex 5)==3)=true) (k1:((Int.tmod ex 5)==2)=false) (k2:((Int.tmod ex 5)==1)=false) (k3:((Int.tmod ex 5)==0)=false):CV VP 3 [E v.X,.d (.lit (.int .u8 ex))] []=some ⟨.d (B true),[],[],0⟩:=
 CV_R (AK_ok v.R v.gk ⟨#[103,111,108,100]⟩ (twS2g v Ra ri)) 400 [(565,true),(0,false),(0,false),(0,false),(0,true)] [] rfl rfl (ob:=[(((Int.tmod ex 5)==3),true),(((Int.tmod ex 5)==2),false),(((Int.tmod ex 5)==1),false),(((Int.tmod ex 5)==0),false),Q (CV VP 197 (w3_46 v) []=some ⟨.agg (w3_47 v),[],[],0⟩),Q (CV VP 133 (w3_97 v Ra ri) []=some ⟨.d (.lit (.string ⟨#[103,111,108,100]⟩)),[],[],0⟩),Q (CV VP 10 [.ptr 0 0] [[E v.R,A 0]]=some ⟨twS2g v Ra ri,[[E v.R,A v.gk]],[],0⟩),Q (CV VP 9 (w3_51 v) []=some ⟨.ptr 0 0,(w3_52 v),[0],1⟩)]) (by kernel_rfl) (.cons (k0)<|.cons (k1)<|.cons (k2)<|.cons (k3)<|.cons (prB_of (h32g v.ms H.msok H.msfine))<|.cons (prB_of (H.hra.elim fun i h=>h.elim fun t0 h=>h.elim fun t1 h=>h133d _ (by kernel_rfl) i h.1 h.2))<|.cons (prB_of h10)<|.cons (prB_of H.h9)<|.nil)
theorem rk3_2g_4 {v:VaT} {Ra:List (List D)} {ri:Int} (ex:Int) (H:HKs v Ra ri ⟨#[103,111,108,100]⟩) (h10:CV VP 10 [.ptr 0 0] [[E v.R,A 0]]=some ⟨twS2g v Ra ri,[[E v.R,A v.gk]],[],0⟩) (k0:((Int.tmod ex 5)==4)=true) (k1:((Int.tmod ex 5)==3)=false) (k2:((Int.tmod ex 5)==2)=false) (k3:((Int.tmod ex 5)==1)=false) (k4:((Int.tmod ex 5)==0)=false):CV VP 3 [E v.X,.d (.lit (.int .u8 ex))] []=some ⟨.d (B true),[],[],0⟩:=
 CV_R (AK_ok v.R v.gk ⟨#[103,111,108,100]⟩ (twS2g v Ra ri)) 400 [(565,true),(0,false),(0,false),(0,false),(0,false),(0,true)] [] rfl rfl (ob:=[(((Int.tmod ex 5)==4),true),(((Int.tmod ex 5)==3),false),(((Int.tmod ex 5)==2),false),(((Int.tmod ex 5)==1),false),(((Int.tmod ex 5)==0),false),Q (CV VP 197 (w3_46 v) []=some ⟨.agg (w3_47 v),[],[],0⟩),Q (CV VP 133 (w3_97 v Ra ri) []=some ⟨.d (.lit (.string ⟨#[103,111,108,100]⟩)),[],[],0⟩),Q (CV VP 10 [.ptr 0 0] [[E v.R,A 0]]=some ⟨twS2g v Ra ri,[[E v.R,A v.gk]],[],0⟩),Q (CV VP 9 (w3_51 v) []=some ⟨.ptr 0 0,(w3_52 v),[0],1⟩)]) (by kernel_rfl) (.cons (k0)<|.cons (k1)<|.cons (k2)<|.cons (k3)<|.cons (k4)<|.cons (prB_of (h32g v.ms H.msok H.msfine))<|.cons (prB_of (H.hra.elim fun i h=>h.elim fun t0 h=>h.elim fun t1 h=>h133d _ (by kernel_rfl) i h.1 h.2))<|.cons (prB_of h10)<|.cons (prB_of H.h9)<|.nil)
theorem rk3_2s_0 {v:VaT} {Ra:List (List D)} {ri:Int} (ex:Int) (H:HKs v Ra ri ⟨#[115,105,108,118,101,114]⟩) (h10:CV VP 10 [.ptr 0 0] [[E v.R,A 0]]=some ⟨twS2s v Ra ri,[[E v.R,A v.gk]],[],0⟩) (k0:((Int.tmod ex 5)==0)=true):CV VP 3 [E v.X,.d (.lit (.int .u8 ex))] []=some ⟨.d (B true),[],[],0⟩:=
 CV_R (AK_ok v.R v.gk ⟨#[115,105,108,118,101,114]⟩ (twS2s v Ra ri)) 400 [(565,true),(0,true)] [] rfl rfl (ob:=[Q (w3_0=w3_0),Q ((w3_1 v)=(w3_1 v)),Q (CV VP 197 (w3_53 v) []=some ⟨.agg (w3_55 v),[],[],0⟩),Q (CV VP 133 [.agg (w3_98 v),A v.rr] (w3_100 v)=some ⟨.d (.lit (.string ⟨#[115,105,108,118,101,114]⟩)),(w3_100 v),[],0⟩),(((Int.tmod ex 5)==0),true),Q (CV VP 197 (w3_63 v) []=some ⟨.agg (w3_64 v),[],[],0⟩),Q (CV VP 133 (w3_97 v Ra ri) []=some ⟨.d (.lit (.string ⟨#[115,105,108,118,101,114]⟩)),[],[],0⟩),Q (CV VP 10 [.ptr 0 0] [[E v.R,A 0]]=some ⟨twS2s v Ra ri,[[E v.R,A v.gk]],[],0⟩),Q (CV VP 9 (w3_51 v) []=some ⟨.ptr 0 0,(w3_52 v),[0],1⟩)]) (by kernel_rfl) (.cons (prB_of rfl)<|.cons (prB_of rfl)<|.cons (prB_of (h32s v.m H.mok H.mfine))<|.cons (prB_of (H.hrow.elim fun i h=>h.elim fun t0 h=>h.elim fun t1 h=>h133k _ (by kernel_rfl) i h.1 h.2))<|.cons (k0)<|.cons (prB_of (h32s v.ms H.msok H.msfine))<|.cons (prB_of (H.hra.elim fun i h=>h.elim fun t0 h=>h.elim fun t1 h=>h133d _ (by kernel_rfl) i h.1 h.2))<|.cons (prB_of h10)<|.cons (prB_of H.h9)<|.nil)
theorem rk3_2s_1 {v:VaT} {Ra:List (List D)} {ri:Int} (ex:Int) (H:HKs v Ra ri ⟨#[115,105,108,118,101,114]⟩) (h10:CV VP 10 [.ptr 0 0] [[E v.R,A 0]]=some ⟨twS2s v Ra ri,[[E v.R,A v.gk]],[],0⟩) (k0:((Int.tmod ex 5)==1)=true) (k1:((Int.tmod ex 5)==0)=false):CV VP 3 [E v.X,.d (.lit (.int .u8 ex))] []=some ⟨.d (B true),[],[],0⟩:=
 CV_R (AK_ok v.R v.gk ⟨#[115,105,108,118,101,114]⟩ (twS2s v Ra ri)) 400 [(565,true),(0,false),(0,true)] [] rfl rfl (ob:=[(((Int.tmod ex 5)==1),true),(((Int.tmod ex 5)==0),false),Q (CV VP 197 (w3_63 v) []=some ⟨.agg (w3_64 v),[],[],0⟩),Q (CV VP 133 (w3_97 v Ra ri) []=some ⟨.d (.lit (.string ⟨#[115,105,108,118,101,114]⟩)),[],[],0⟩),Q (CV VP 10 [.ptr 0 0] [[E v.R,A 0]]=some ⟨twS2s v Ra ri,[[E v.R,A v.gk]],[],0⟩),Q (CV VP 9 (w3_51 v) []=some ⟨.ptr 0 0,(w3_52 v),[0],1⟩)]) (by kernel_rfl) (.cons (k0)<|.cons (k1)<|.cons (prB_of (h32s v.ms H.msok H.msfine))<|.cons (prB_of (H.hra.elim fun i h=>h.elim fun t0 h=>h.elim fun t1 h=>h133d _ (by kernel_rfl) i h.1 h.2))<|.cons (prB_of h10)<|.cons (prB_of H.h9)<|.nil)
theorem rk3_2s_2 {v:VaT} {Ra:List (List D)} {ri:Int} (ex:Int) (H:HKs v Ra ri ⟨#[115,105,108,118,101,114]⟩) (h10:CV VP 10 [.ptr 0 0] [[E v.R,A 0]]=some ⟨twS2s v Ra ri,[[E v.R,A v.gk]],[],0⟩) (k0:((Int.tmod ex 5)==2)=true) (k1:((Int.tmod ex 5)==1)=false) (k2:((Int.tmod ex 5)==0)=false):CV VP 3 [E v.X,.d (.lit (.int .u8 ex))] []=some ⟨.d (B true),[],[],0⟩:=
 CV_R (AK_ok v.R v.gk ⟨#[115,105,108,118,101,114]⟩ (twS2s v Ra ri)) 400 [(565,true),(0,false),(0,false),(0,true)] [] rfl rfl (ob:=[(((Int.tmod ex 5)==2),true),(((Int.tmod ex 5)==1),false),(((Int.tmod ex 5)==0),false),Q (CV VP 197 (w3_63 v) []=some ⟨.agg (w3_64 v),[],[],0⟩),Q (CV VP 133 (w3_97 v Ra ri) []=some ⟨.d (.lit (.string ⟨#[115,105,108,118,101,114]⟩)),[],[],0⟩),Q (CV VP 10 [.ptr 0 0] [[E v.R,A 0]]=some ⟨twS2s v Ra ri,[[E v.R,A v.gk]],[],0⟩),Q (CV VP 9 (w3_51 v) []=some ⟨.ptr 0 0,(w3_52 v),[0],1⟩)]) (by kernel_rfl) (.cons (k0)<|.cons (k1)<|.cons (k2)<|.cons (prB_of (h32s v.ms H.msok H.msfine))<|.cons (prB_of (H.hra.elim fun i h=>h.elim fun t0 h=>h.elim fun t1 h=>h133d _ (by kernel_rfl) i h.1 h.2))<|.cons (prB_of h10)<|.cons (prB_of H.h9)<|.nil)
theorem rk3_2s_3 {v:VaT} {Ra:List (List D)} {ri:Int} (ex:Int) (H:HKs v Ra ri ⟨#[115,105,108,118,101,114]⟩) (h10:CV VP 10 [.ptr 0 0] [[E v.R,A 0]]=some ⟨twS2s v Ra ri,[[E v.R,A v.gk]],[],0⟩) (k0:((Int.tmod ex 5)==3)=true) (k1:((Int.tmod ex 5)==2)=false) (k2:((Int.tmod ex 5)==1)=false) (k3:((Int.tmod ex 5)==0)=false):CV VP 3 [E v.X,.d (.lit (.int .u8 ex))] []=some ⟨.d (B true),[],[],0⟩:=
 CV_R (AK_ok v.R v.gk ⟨#[115,105,108,118,101,114]⟩ (twS2s v Ra ri)) 400 [(565,true),(0,false),(0,false),(0,false),(0,true)] [] rfl rfl (ob:=[(((Int.tmod ex 5)==3),true),(((Int.tmod ex 5)==2),false),(((Int.tmod ex 5)==1),false),(((Int.tmod ex 5)==0),false),Q (CV VP 197 (w3_63 v) []=some ⟨.agg (w3_64 v),[],[],0⟩),Q (CV VP 133 (w3_97 v Ra ri) []=some ⟨.d (.lit (.string ⟨#[115,105,108,118,101,114]⟩)),[],[],0⟩),Q (CV VP 10 [.ptr 0 0] [[E v.R,A 0]]=some ⟨twS2s v Ra ri,[[E v.R,A v.gk]],[],0⟩),Q (CV VP 9 (w3_51 v) []=some ⟨.ptr 0 0,(w3_52 v),[0],1⟩)]) (by kernel_rfl) (.cons (k0)<|.cons (k1)<|.cons (k2)<|.cons (k3)<|.cons (prB_of (h32s v.ms H.msok H.msfine))<|.cons (prB_of (H.hra.elim fun i h=>h.elim fun t0 h=>h.elim fun t1 h=>h133d _ (by kernel_rfl) i h.1 h.2))<|.cons (prB_of h10)<|.cons (prB_of H.h9)<|.nil)
theorem rk3_2s_4 {v:VaT} {Ra:List (List D)} {ri:Int} (ex:Int) (H:HKs v Ra ri ⟨#[115,105,108,118,101,114]⟩) (h10:CV VP 10 [.ptr 0 0] [[E v.R,A 0]]=some ⟨twS2s v Ra ri,[[E v.R,A v.gk]],[],0⟩) (k0:((Int.tmod ex 5)==4)=true) (k1:((Int.tmod ex 5)==3)=false) (k2:((Int.tmod ex 5)==2)=false) (k3:((Int.tmod ex 5)==1)=false) (k4:((Int.tmod ex 5)==0)=false):CV VP 3 [E v.X,.d (.lit (.int .u8 ex))] []=some ⟨.d (B true),[],[],0⟩:=
 CV_R (AK_ok v.R v.gk ⟨#[115,105,108,118,101,114]⟩ (twS2s v Ra ri)) 400 [(565,true),(0,false),(0,false),(0,false),(0,false),(0,true)] [] rfl rfl (ob:=[(((Int.tmod ex 5)==4),true),(((Int.tmod ex 5)==3),false),(((Int.tmod ex 5)==2),false),(((Int.tmod ex 5)==1),false),(((Int.tmod ex 5)==0),false),Q (CV VP 197 (w3_63 v) []=some ⟨.agg (w3_64 v),[],[],0⟩),Q (CV VP 133 (w3_97 v Ra ri) []=some ⟨.d (.lit (.string ⟨#[115,105,108,118,101,114]⟩)),[],[],0⟩),Q (CV VP 10 [.ptr 0 0] [[E v.R,A 0]]=some ⟨twS2s v Ra ri,[[E v.R,A v.gk]],[],0⟩),Q (CV VP 9 (w3_51 v) []=some ⟨.ptr 0 0,(w3_52 v),[0],1⟩)]) (by kernel_rfl) (.cons (k0)<|.cons (k1)<|.cons (k2)<|.cons (k3)<|.cons (k4)<|.cons (prB_of (h32s v.ms H.msok H.msfine))<|.cons (prB_of (H.hra.elim fun i h=>h.elim fun t0 h=>h.elim fun t1 h=>h133d _ (by kernel_rfl) i h.1 h.2))<|.cons (prB_of h10)<|.cons (prB_of H.h9)<|.nil)
theorem rk3_3g_0 {v:VaT} {Ra:List (List D)} {ri:Int} (ex:Int) (H:HKs v Ra ri ⟨#[103,111,108,100]⟩) (h10:CV VP 10 [.ptr 0 0] [[E v.R,A 0]]=some ⟨twS3g v Ra ri,[[E v.R,A v.gk]],[],0⟩) (k0:((Int.tmod ex 5)==0)=true):CV VP 3 [E v.X,.d (.lit (.int .u8 ex))] []=some ⟨.d (B true),[],[],0⟩:=
 CV_R (AK_ok v.R v.gk ⟨#[103,111,108,100]⟩ (twS3g v Ra ri)) 400 [(565,true),(0,true)] [] rfl rfl (ob:=[Q (w3_0=w3_0),Q ((w3_1 v)=(w3_1 v)),Q (CV VP 197 (w3_2 v) []=some ⟨.agg (w3_4 v),[],[],0⟩),Q (CV VP 133 [.agg (w3_102 v),A v.rr] (w3_103 v)=some ⟨.d (.lit (.string ⟨#[103,111,108,100]⟩)),(w3_103 v),[],0⟩),(((Int.tmod ex 5)==0),true),Q (CV VP 197 (w3_46 v) []=some ⟨.agg (w3_47 v),[],[],0⟩),Q (CV VP 133 (w3_104 v Ra ri) []=some ⟨.d (.lit (.string ⟨#[103,111,108,100]⟩)),[],[],0⟩),Q (CV VP 10 [.ptr 0 0] [[E v.R,A 0]]=some ⟨twS3g v Ra ri,[[E v.R,A v.gk]],[],0⟩),Q (CV VP 9 (w3_51 v) []=some ⟨.ptr 0 0,(w3_52 v),[0],1⟩)]) (by kernel_rfl) (.cons (prB_of rfl)<|.cons (prB_of rfl)<|.cons (prB_of (h32g v.m H.mok H.mfine))<|.cons (prB_of (H.hrow.elim fun i h=>h.elim fun t0 h=>h.elim fun t1 h=>h133k _ (by kernel_rfl) i h.1 h.2))<|.cons (k0)<|.cons (prB_of (h32g v.ms H.msok H.msfine))<|.cons (prB_of (H.hra.elim fun i h=>h.elim fun t0 h=>h.elim fun t1 h=>h133d _ (by kernel_rfl) i h.1 h.2))<|.cons (prB_of h10)<|.cons (prB_of H.h9)<|.nil)
theorem rk3_3g_1 {v:VaT} {Ra:List (List D)} {ri:Int} (ex:Int) (H:HKs v Ra ri ⟨#[103,111,108,100]⟩) (h10:CV VP 10 [.ptr 0 0] [[E v.R,A 0]]=some ⟨twS3g v Ra ri,[[E v.R,A v.gk]],[],0⟩) (k0:((Int.tmod ex 5)==1)=true) (k1:((Int.tmod ex 5)==0)=false):CV VP 3 [E v.X,.d (.lit (.int .u8 ex))] []=some ⟨.d (B true),[],[],0⟩:=
 CV_R (AK_ok v.R v.gk ⟨#[103,111,108,100]⟩ (twS3g v Ra ri)) 400 [(565,true),(0,false),(0,true)] [] rfl rfl (ob:=[(((Int.tmod ex 5)==1),true),(((Int.tmod ex 5)==0),false),Q (CV VP 197 (w3_46 v) []=some ⟨.agg (w3_47 v),[],[],0⟩),Q (CV VP 133 (w3_104 v Ra ri) []=some ⟨.d (.lit (.string ⟨#[103,111,108,100]⟩)),[],[],0⟩),Q (CV VP 10 [.ptr 0 0] [[E v.R,A 0]]=some ⟨twS3g v Ra ri,[[E v.R,A v.gk]],[],0⟩),Q (CV VP 9 (w3_51 v) []=some ⟨.ptr 0 0,(w3_52 v),[0],1⟩)]) (by kernel_rfl) (.cons (k0)<|.cons (k1)<|.cons (prB_of (h32g v.ms H.msok H.msfine))<|.cons (prB_of (H.hra.elim fun i h=>h.elim fun t0 h=>h.elim fun t1 h=>h133d _ (by kernel_rfl) i h.1 h.2))<|.cons (prB_of h10)<|.cons (prB_of H.h9)<|.nil)
theorem rk3_3g_2 {v:VaT} {Ra:List (List D)} {ri:Int} (ex:Int) (H:HKs v Ra ri ⟨#[103,111,108,100]⟩) (h10:CV VP 10 [.ptr 0 0] [[E v.R,A 0]]=some ⟨twS3g v Ra ri,[[E v.R,A v.gk]],[],0⟩) (k0:((Int.tmod ex 5)==2)=true) (k1:((Int.tmod ex 5)==1)=false) (k2:((Int.tmod ex 5)==0)=false):CV VP 3 [E v.X,.d (.lit (.int .u8 ex))] []=some ⟨.d (B true),[],[],0⟩:=
 CV_R (AK_ok v.R v.gk ⟨#[103,111,108,100]⟩ (twS3g v Ra ri)) 400 [(565,true),(0,false),(0,false),(0,true)] [] rfl rfl (ob:=[(((Int.tmod ex 5)==2),true),(((Int.tmod ex 5)==1),false),(((Int.tmod ex 5)==0),false),Q (CV VP 197 (w3_46 v) []=some ⟨.agg (w3_47 v),[],[],0⟩),Q (CV VP 133 (w3_104 v Ra ri) []=some ⟨.d (.lit (.string ⟨#[103,111,108,100]⟩)),[],[],0⟩),Q (CV VP 10 [.ptr 0 0] [[E v.R,A 0]]=some ⟨twS3g v Ra ri,[[E v.R,A v.gk]],[],0⟩),Q (CV VP 9 (w3_51 v) []=some ⟨.ptr 0 0,(w3_52 v),[0],1⟩)]) (by kernel_rfl) (.cons (k0)<|.cons (k1)<|.cons (k2)<|.cons (prB_of (h32g v.ms H.msok H.msfine))<|.cons (prB_of (H.hra.elim fun i h=>h.elim fun t0 h=>h.elim fun t1 h=>h133d _ (by kernel_rfl) i h.1 h.2))<|.cons (prB_of h10)<|.cons (prB_of H.h9)<|.nil)
theorem rk3_3g_3 {v:VaT} {Ra:List (List D)} {ri:Int} (ex:Int) (H:HKs v Ra ri ⟨#[103,111,108,100]⟩) (h10:CV VP 10 [.ptr 0 0] [[E v.R,A 0]]=some ⟨twS3g v Ra ri,[[E v.R,A v.gk]],[],0⟩) (k0:((Int.tmod ex 5)==3)=true) (k1:((Int.tmod ex 5)==2)=false) (k2:((Int.tmod ex 5)==1)=false) (k3:((Int.tmod ex 5)==0)=false):CV VP 3 [E v.X,.d (.lit (.int .u8 ex))] []=some ⟨.d (B true),[],[],0⟩:=
 CV_R (AK_ok v.R v.gk ⟨#[103,111,108,100]⟩ (twS3g v Ra ri)) 400 [(565,true),(0,false),(0,false),(0,false),(0,true)] [] rfl rfl (ob:=[(((Int.tmod ex 5)==3),true),(((Int.tmod ex 5)==2),false),(((Int.tmod ex 5)==1),false),(((Int.tmod ex 5)==0),false),Q (CV VP 197 (w3_46 v) []=some ⟨.agg (w3_47 v),[],[],0⟩),Q (CV VP 133 (w3_104 v Ra ri) []=some ⟨.d (.lit (.string ⟨#[103,111,108,100]⟩)),[],[],0⟩),Q (CV VP 10 [.ptr 0 0] [[E v.R,A 0]]=some ⟨twS3g v Ra ri,[[E v.R,A v.gk]],[],0⟩),Q (CV VP 9 (w3_51 v) []=some ⟨.ptr 0 0,(w3_52 v),[0],1⟩)]) (by kernel_rfl) (.cons (k0)<|.cons (k1)<|.cons (k2)<|.cons (k3)<|.cons (prB_of (h32g v.ms H.msok H.msfine))<|.cons (prB_of (H.hra.elim fun i h=>h.elim fun t0 h=>h.elim fun t1 h=>h133d _ (by kernel_rfl) i h.1 h.2))<|.cons (prB_of h10)<|.cons (prB_of H.h9)<|.nil)
theorem rk3_3g_4 {v:VaT} {Ra:List (List D)} {ri:Int} (ex:Int) (H:HKs v Ra ri ⟨#[103,111,108,100]⟩) (h10:CV VP 10 [.ptr 0 0] [[E v.R,A 0]]=some ⟨twS3g v Ra ri,[[E v.R,A v.gk]],[],0⟩) (k0:((Int.tmod ex 5)==4)=true) (k1:((Int.tmod ex 5)==3)=false) (k2:((Int.tmod ex 5)==2)=false) (k3:((Int.tmod ex 5)==1)=false) (k4:((Int.tmod ex 5)==0)=false):CV VP 3 [E v.X,.d (.lit (.int .u8 ex))] []=some ⟨.d (B true),[],[],0⟩:=
 CV_R (AK_ok v.R v.gk ⟨#[103,111,108,100]⟩ (twS3g v Ra ri)) 400 [(565,true),(0,false),(0,false),(0,false),(0,false),(0,true)] [] rfl rfl (ob:=[(((Int.tmod ex 5)==4),true),(((Int.tmod ex 5)==3),false),(((Int.tmod ex 5)==2),false),(((Int.tmod ex 5)==1),false),(((Int.tmod ex 5)==0),false),Q (CV VP 197 (w3_46 v) []=some ⟨.agg (w3_47 v),[],[],0⟩),Q (CV VP 133 (w3_104 v Ra ri) []=some ⟨.d (.lit (.string ⟨#[103,111,108,100]⟩)),[],[],0⟩),Q (CV VP 10 [.ptr 0 0] [[E v.R,A 0]]=some ⟨twS3g v Ra ri,[[E v.R,A v.gk]],[],0⟩),Q (CV VP 9 (w3_51 v) []=some ⟨.ptr 0 0,(w3_52 v),[0],1⟩)]) (by kernel_rfl) (.cons (k0)<|.cons (k1)<|.cons (k2)<|.cons (k3)<|.cons (k4)<|.cons (prB_of (h32g v.ms H.msok H.msfine))<|.cons (prB_of (H.hra.elim fun i h=>h.elim fun t0 h=>h.elim fun t1 h=>h133d _ (by kernel_rfl) i h.1 h.2))<|.cons (prB_of h10)<|.cons (prB_of H.h9)<|.nil)
theorem rk3_3s_0 {v:VaT} {Ra:List (List D)} {ri:Int} (ex:Int) (H:HKs v Ra ri ⟨#[115,105,108,118,101,114]⟩) (h10:CV VP 10 [.ptr 0 0] [[E v.R,A 0]]=some ⟨twS3s v Ra ri,[[E v.R,A v.gk]],[],0⟩) (k0:((Int.tmod ex 5)==0)=true):CV VP 3 [E v.X,.d (.lit (.int .u8 ex))] []=some ⟨.d (B true),[],[],0⟩:=
 CV_R (AK_ok v.R v.gk ⟨#[115,105,108,118,101,114]⟩ (twS3s v Ra ri)) 400 [(565,true),(0,true)] [] rfl rfl (ob:=[Q (w3_0=w3_0),Q ((w3_1 v)=(w3_1 v)),Q (CV VP 197 (w3_53 v) []=some ⟨.agg (w3_55 v),[],[],0⟩),Q (CV VP 133 [.agg (w3_105 v),A v.rr] (w3_106 v)=some ⟨.d (.lit (.string ⟨#[115,105,108,118,101,114]⟩)),(w3_106 v),[],0⟩),(((Int.tmod ex 5)==0),true),Q (CV VP 197 (w3_63 v) []=some ⟨.agg (w3_64 v),[],[],0⟩),Q (CV VP 133 (w3_104 v Ra ri) []=some ⟨.d (.lit (.string ⟨#[115,105,108,118,101,114]⟩)),[],[],0⟩),Q (CV VP 10 [.ptr 0 0] [[E v.R,A 0]]=some ⟨twS3s v Ra ri,[[E v.R,A v.gk]],[],0⟩),Q (CV VP 9 (w3_51 v) []=some ⟨.ptr 0 0,(w3_52 v),[0],1⟩)]) (by kernel_rfl) (.cons (prB_of rfl)<|.cons (prB_of rfl)<|.cons (prB_of (h32s v.m H.mok H.mfine))<|.cons (prB_of (H.hrow.elim fun i h=>h.elim fun t0 h=>h.elim fun t1 h=>h133k _ (by kernel_rfl) i h.1 h.2))<|.cons (k0)<|.cons (prB_of (h32s v.ms H.msok H.msfine))<|.cons (prB_of (H.hra.elim fun i h=>h.elim fun t0 h=>h.elim fun t1 h=>h133d _ (by kernel_rfl) i h.1 h.2))<|.cons (prB_of h10)<|.cons (prB_of H.h9)<|.nil)
theorem rk3_3s_1 {v:VaT} {Ra:List (List D)} {ri:Int} (ex:Int) (H:HKs v Ra ri ⟨#[115,105,108,118,101,114]⟩) (h10:CV VP 10 [.ptr 0 0] [[E v.R,A 0]]=some ⟨twS3s v Ra ri,[[E v.R,A v.gk]],[],0⟩) (k0:((Int.tmod ex 5)==1)=true) (k1:((Int.tmod ex 5)==0)=false):CV VP 3 [E v.X,.d (.lit (.int .u8 ex))] []=some ⟨.d (B true),[],[],0⟩:=
 CV_R (AK_ok v.R v.gk ⟨#[115,105,108,118,101,114]⟩ (twS3s v Ra ri)) 400 [(565,true),(0,false),(0,true)] [] rfl rfl (ob:=[(((Int.tmod ex 5)==1),true),(((Int.tmod ex 5)==0),false),Q (CV VP 197 (w3_63 v) []=some ⟨.agg (w3_64 v),[],[],0⟩),Q (CV VP 133 (w3_104 v Ra ri) []=some ⟨.d (.lit (.string ⟨#[115,105,108,118,101,114]⟩)),[],[],0⟩),Q (CV VP 10 [.ptr 0 0] [[E v.R,A 0]]=some ⟨twS3s v Ra ri,[[E v.R,A v.gk]],[],0⟩),Q (CV VP 9 (w3_51 v) []=some ⟨.ptr 0 0,(w3_52 v),[0],1⟩)]) (by kernel_rfl) (.cons (k0)<|.cons (k1)<|.cons (prB_of (h32s v.ms H.msok H.msfine))<|.cons (prB_of (H.hra.elim fun i h=>h.elim fun t0 h=>h.elim fun t1 h=>h133d _ (by kernel_rfl) i h.1 h.2))<|.cons (prB_of h10)<|.cons (prB_of H.h9)<|.nil)
theorem rk3_3s_2 {v:VaT} {Ra:List (List D)} {ri:Int} (ex:Int) (H:HKs v Ra ri ⟨#[115,105,108,118,101,114]⟩) (h10:CV VP 10 [.ptr 0 0] [[E v.R,A 0]]=some ⟨twS3s v Ra ri,[[E v.R,A v.gk]],[],0⟩) (k0:((Int.tmod ex 5)==2)=true) (k1:((Int.tmod ex 5)==1)=false) (k2:((Int.tmod ex 5)==0)=false):CV VP 3 [E v.X,.d (.lit (.int .u8 ex))] []=some ⟨.d (B true),[],[],0⟩:=
 CV_R (AK_ok v.R v.gk ⟨#[115,105,108,118,101,114]⟩ (twS3s v Ra ri)) 400 [(565,true),(0,false),(0,false),(0,true)] [] rfl rfl (ob:=[(((Int.tmod ex 5)==2),true),(((Int.tmod ex 5)==1),false),(((Int.tmod ex 5)==0),false),Q (CV VP 197 (w3_63 v) []=some ⟨.agg (w3_64 v),[],[],0⟩),Q (CV VP 133 (w3_104 v Ra ri) []=some ⟨.d (.lit (.string ⟨#[115,105,108,118,101,114]⟩)),[],[],0⟩),Q (CV VP 10 [.ptr 0 0] [[E v.R,A 0]]=some ⟨twS3s v Ra ri,[[E v.R,A v.gk]],[],0⟩),Q (CV VP 9 (w3_51 v) []=some ⟨.ptr 0 0,(w3_52 v),[0],1⟩)]) (by kernel_rfl) (.cons (k0)<|.cons (k1)<|.cons (k2)<|.cons (prB_of (h32s v.ms H.msok H.msfine))<|.cons (prB_of (H.hra.elim fun i h=>h.elim fun t0 h=>h.elim fun t1 h=>h133d _ (by kernel_rfl) i h.1 h.2))<|.cons (prB_of h10)<|.cons (prB_of H.h9)<|.nil)
theorem rk3_3s_3 {v:VaT} {Ra:List (List D)} {ri:Int} (ex:Int) (H:HKs v Ra ri ⟨#[115,105,108,118,101,114]⟩) (h10:CV VP 10 [.ptr 0 0] [[E v.R,A 0]]=some ⟨twS3s v Ra ri,[[E v.R,A v.gk]],[],0⟩) (k0:((Int.tmod ex 5)==3)=true) (k1:((Int.tmod ex 5)==2)=false) (k2:((Int.tmod ex 5)==1)=false) (k3:((Int.tmod ex 5)==0)=false):CV VP 3 [E v.X,.d (.lit (.int .u8 ex))] []=some ⟨.d (B true),[],[],0⟩:=
 CV_R (AK_ok v.R v.gk ⟨#[115,105,108,118,101,114]⟩ (twS3s v Ra ri)) 400 [(565,true),(0,false),(0,false),(0,false),(0,true)] [] rfl rfl (ob:=[(((Int.tmod ex 5)==3),true),(((Int.tmod ex 5)==2),false),(((Int.tmod ex 5)==1),false),(((Int.tmod ex 5)==0),false),Q (CV VP 197 (w3_63 v) []=some ⟨.agg (w3_64 v),[],[],0⟩),Q (CV VP 133 (w3_104 v Ra ri) []=some ⟨.d (.lit (.string ⟨#[115,105,108,118,101,114]⟩)),[],[],0⟩),Q (CV VP 10 [.ptr 0 0] [[E v.R,A 0]]=some ⟨twS3s v Ra ri,[[E v.R,A v.gk]],[],0⟩),Q (CV VP 9 (w3_51 v) []=some ⟨.ptr 0 0,(w3_52 v),[0],1⟩)]) (by kernel_rfl) (.cons (k0)<|.cons (k1)<|.cons (k2)<|.cons (k3)<|.cons (prB_of (h32s v.ms H.msok H.msfine))<|.cons (prB_of (H.hra.elim fun i h=>h.elim fun t0 h=>h.elim fun t1 h=>h133d _ (by kernel_rfl) i h.1 h.2))<|.cons (prB_of h10)<|.cons (prB_of H.h9)<|.nil)
theorem rk3_3s_4 {v:VaT} {Ra:List (List D)} {ri:Int} (ex:Int) (H:HKs v Ra ri ⟨#[115,105,108,118,101,114]⟩) (h10:CV VP 10 [.ptr 0 0] [[E v.R,A 0]]=some ⟨twS3s v Ra ri,[[E v.R,A v.gk]],[],0⟩) (k0:((Int.tmod ex 5)==4)=true) (k1:((Int.tmod ex 5)==3)=false) (k2:((Int.tmod ex 5)==2)=false) (k3:((Int.tmod ex 5)==1)=false) (k4:((Int.tmod ex 5)==0)=false):CV VP 3 [E v.X,.d (.lit (.int .u8 ex))] []=some ⟨.d (B true),[],[],0⟩:=
 CV_R (AK_ok v.R v.gk ⟨#[115,105,108,118,101,114]⟩ (twS3s v Ra ri)) 400 [(565,true),(0,false),(0,false),(0,false),(0,false),(0,true)] [] rfl rfl (ob:=[(((Int.tmod ex 5)==4),true),(((Int.tmod ex 5)==3),false),(((Int.tmod ex 5)==2),false),(((Int.tmod ex 5)==1),false),(((Int.tmod ex 5)==0),false),Q (CV VP 197 (w3_63 v) []=some ⟨.agg (w3_64 v),[],[],0⟩),Q (CV VP 133 (w3_104 v Ra ri) []=some ⟨.d (.lit (.string ⟨#[115,105,108,118,101,114]⟩)),[],[],0⟩),Q (CV VP 10 [.ptr 0 0] [[E v.R,A 0]]=some ⟨twS3s v Ra ri,[[E v.R,A v.gk]],[],0⟩),Q (CV VP 9 (w3_51 v) []=some ⟨.ptr 0 0,(w3_52 v),[0],1⟩)]) (by kernel_rfl) (.cons (k0)<|.cons (k1)<|.cons (k2)<|.cons (k3)<|.cons (k4)<|.cons (prB_of (h32s v.ms H.msok H.msfine))<|.cons (prB_of (H.hra.elim fun i h=>h.elim fun t0 h=>h.elim fun t1 h=>h133d _ (by kernel_rfl) i h.1 h.2))<|.cons (prB_of h10)<|.cons (prB_of H.h9)<|.nil)
theorem rk3_4g_0 {v:VaT} {Ra:List (List D)} {ri:Int} (ex:Int) (H:HKs v Ra ri ⟨#[103,111,108,100]⟩) (h10:CV VP 10 [.ptr 0 0] [[E v.R,A 0]]=some ⟨twS4g v Ra ri,[[E v.R,A v.gk]],[],0⟩) (k0:((Int.tmod ex 5)==0)=true):CV VP 3 [E v.X,.d (.lit (.int .u8 ex))] []=some ⟨.d (B true),[],[],0⟩:=
 CV_R (AK_ok v.R v.gk ⟨#[103,111,108,100]⟩ (twS4g v Ra ri)) 400 [(565,true),(0,true)] [] rfl rfl (ob:=[Q (w3_0=w3_0),Q ((w3_1 v)=(w3_1 v)),Q (CV VP 197 (w3_2 v) []=some ⟨.agg (w3_4 v),[],[],0⟩),Q (CV VP 133 [.agg (w3_107 v),A v.rr] (w3_108 v)=some ⟨.d (.lit (.string ⟨#[103,111,108,100]⟩)),(w3_108 v),[],0⟩),(((Int.tmod ex 5)==0),true),Q (CV VP 197 (w3_46 v) []=some ⟨.agg (w3_47 v),[],[],0⟩),Q (CV VP 133 (w3_70 v Ra ri) []=some ⟨.d (.lit (.string ⟨#[103,111,108,100]⟩)),[],[],0⟩),Q (CV VP 10 [.ptr 0 0] [[E v.R,A 0]]=some ⟨twS4g v Ra ri,[[E v.R,A v.gk]],[],0⟩),Q (CV VP 9 (w3_51 v) []=some ⟨.ptr 0 0,(w3_52 v),[0],1⟩)]) (by kernel_rfl) (.cons (prB_of rfl)<|.cons (prB_of rfl)<|.cons (prB_of (h32g v.m H.mok H.mfine))<|.cons (prB_of (H.hrow.elim fun i h=>h.elim fun t0 h=>h.elim fun t1 h=>h133k _ (by kernel_rfl) i h.1 h.2))<|.cons (k0)<|.cons (prB_of (h32g v.ms H.msok H.msfine))<|.cons (prB_of (H.hra.elim fun i h=>h.elim fun t0 h=>h.elim fun t1 h=>h133d _ (by kernel_rfl) i h.1 h.2))<|.cons (prB_of h10)<|.cons (prB_of H.h9)<|.nil)
theorem rk3_4g_1 {v:VaT} {Ra:List (List D)} {ri:Int} (ex:Int) (H:HKs v Ra ri ⟨#[103,111,108,100]⟩) (h10:CV VP 10 [.ptr 0 0] [[E v.R,A 0]]=some ⟨twS4g v Ra ri,[[E v.R,A v.gk]],[],0⟩) (k0:((Int.tmod ex 5)==1)=true) (k1:((Int.tmod ex 5)==0)=false):CV VP 3 [E v.X,.d (.lit (.int .u8 ex))] []=some ⟨.d (B true),[],[],0⟩:=
 CV_R (AK_ok v.R v.gk ⟨#[103,111,108,100]⟩ (twS4g v Ra ri)) 400 [(565,true),(0,false),(0,true)] [] rfl rfl (ob:=[(((Int.tmod ex 5)==1),true),(((Int.tmod ex 5)==0),false),Q (CV VP 197 (w3_46 v) []=some ⟨.agg (w3_47 v),[],[],0⟩),Q (CV VP 133 (w3_70 v Ra ri) []=some ⟨.d (.lit (.string ⟨#[103,111,108,100]⟩)),[],[],0⟩),Q (CV VP 10 [.ptr 0 0] [[E v.R,A 0]]=some ⟨twS4g v Ra ri,[[E v.R,A v.gk]],[],0⟩),Q (CV VP 9 (w3_51 v) []=some ⟨.ptr 0 0,(w3_52 v),[0],1⟩)]) (by kernel_rfl) (.cons (k0)<|.cons (k1)<|.cons (prB_of (h32g v.ms H.msok H.msfine))<|.cons (prB_of (H.hra.elim fun i h=>h.elim fun t0 h=>h.elim fun t1 h=>h133d _ (by kernel_rfl) i h.1 h.2))<|.cons (prB_of h10)<|.cons (prB_of H.h9)<|.nil)
theorem rk3_4g_2 {v:VaT} {Ra:List (List D)} {ri:Int} (ex:Int) (H:HKs v Ra ri ⟨#[103,111,108,100]⟩) (h10:CV VP 10 [.ptr 0 0] [[E v.R,A 0]]=some ⟨twS4g v Ra ri,[[E v.R,A v.gk]],[],0⟩) (k0:((Int.tmod ex 5)==2)=true) (k1:((Int.tmod ex 5)==1)=false) (k2:((Int.tmod ex 5)==0)=false):CV VP 3 [E v.X,.d (.lit (.int .u8 ex))] []=some ⟨.d (B true),[],[],0⟩:=
 CV_R (AK_ok v.R v.gk ⟨#[103,111,108,100]⟩ (twS4g v Ra ri)) 400 [(565,true),(0,false),(0,false),(0,true)] [] rfl rfl (ob:=[(((Int.tmod ex 5)==2),true),(((Int.tmod ex 5)==1),false),(((Int.tmod ex 5)==0),false),Q (CV VP 197 (w3_46 v) []=some ⟨.agg (w3_47 v),[],[],0⟩),Q (CV VP 133 (w3_70 v Ra ri) []=some ⟨.d (.lit (.string ⟨#[103,111,108,100]⟩)),[],[],0⟩),Q (CV VP 10 [.ptr 0 0] [[E v.R,A 0]]=some ⟨twS4g v Ra ri,[[E v.R,A v.gk]],[],0⟩),Q (CV VP 9 (w3_51 v) []=some ⟨.ptr 0 0,(w3_52 v),[0],1⟩)]) (by kernel_rfl) (.cons (k0)<|.cons (k1)<|.cons (k2)<|.cons (prB_of (h32g v.ms H.msok H.msfine))<|.cons (prB_of (H.hra.elim fun i h=>h.elim fun t0 h=>h.elim fun t1 h=>h133d _ (by kernel_rfl) i h.1 h.2))<|.cons (prB_of h10)<|.cons (prB_of H.h9)<|.nil)
theorem rk3_4g_3 {v:VaT} {Ra:List (List D)} {ri:Int} (ex:Int) (H:HKs v Ra ri ⟨#[103,111,108,100]⟩) (h10:CV VP 10 [.ptr 0 0] [[E v.R,A 0]]=some ⟨twS4g v Ra ri,[[E v.R,A v.gk]],[],0⟩) (k0:((Int.tmod ex 5)==3)=true) (k1:((Int.tmod ex 5)==2)=false) (k2:((Int.tmod ex 5)==1)=false) (k3:((Int.tmod ex 5)==0)=false):CV VP 3 [E v.X,.d (.lit (.int .u8 ex))] []=some ⟨.d (B true),[],[],0⟩:=
 CV_R (AK_ok v.R v.gk ⟨#[103,111,108,100]⟩ (twS4g v Ra ri)) 400 [(565,true),(0,false),(0,false),(0,false),(0,true)] [] rfl rfl (ob:=[(((Int.tmod ex 5)==3),true),(((Int.tmod ex 5)==2),false),(((Int.tmod ex 5)==1),false),(((Int.tmod ex 5)==0),false),Q (CV VP 197 (w3_46 v) []=some ⟨.agg (w3_47 v),[],[],0⟩),Q (CV VP 133 (w3_70 v Ra ri) []=some ⟨.d (.lit (.string ⟨#[103,111,108,100]⟩)),[],[],0⟩),Q (CV VP 10 [.ptr 0 0] [[E v.R,A 0]]=some ⟨twS4g v Ra ri,[[E v.R,A v.gk]],[],0⟩),Q (CV VP 9 (w3_51 v) []=some ⟨.ptr 0 0,(w3_52 v),[0],1⟩)]) (by kernel_rfl) (.cons (k0)<|.cons (k1)<|.cons (k2)<|.cons (k3)<|.cons (prB_of (h32g v.ms H.msok H.msfine))<|.cons (prB_of (H.hra.elim fun i h=>h.elim fun t0 h=>h.elim fun t1 h=>h133d _ (by kernel_rfl) i h.1 h.2))<|.cons (prB_of h10)<|.cons (prB_of H.h9)<|.nil)
theorem rk3_4g_4 {v:VaT} {Ra:List (List D)} {ri:Int} (ex:Int) (H:HKs v Ra ri ⟨#[103,111,108,100]⟩) (h10:CV VP 10 [.ptr 0 0] [[E v.R,A 0]]=some ⟨twS4g v Ra ri,[[E v.R,A v.gk]],[],0⟩) (k0:((Int.tmod ex 5)==4)=true) (k1:((Int.tmod ex 5)==3)=false) (k2:((Int.tmod ex 5)==2)=false) (k3:((Int.tmod ex 5)==1)=false) (k4:((Int.tmod ex 5)==0)=false):CV VP 3 [E v.X,.d (.lit (.int .u8 ex))] []=some ⟨.d (B true),[],[],0⟩:=
 CV_R (AK_ok v.R v.gk ⟨#[103,111,108,100]⟩ (twS4g v Ra ri)) 400 [(565,true),(0,false),(0,false),(0,false),(0,false),(0,true)] [] rfl rfl (ob:=[(((Int.tmod ex 5)==4),true),(((Int.tmod ex 5)==3),false),(((Int.tmod ex 5)==2),false),(((Int.tmod ex 5)==1),false),(((Int.tmod ex 5)==0),false),Q (CV VP 197 (w3_46 v) []=some ⟨.agg (w3_47 v),[],[],0⟩),Q (CV VP 133 (w3_70 v Ra ri) []=some ⟨.d (.lit (.string ⟨#[103,111,108,100]⟩)),[],[],0⟩),Q (CV VP 10 [.ptr 0 0] [[E v.R,A 0]]=some ⟨twS4g v Ra ri,[[E v.R,A v.gk]],[],0⟩),Q (CV VP 9 (w3_51 v) []=some ⟨.ptr 0 0,(w3_52 v),[0],1⟩)]) (by kernel_rfl) (.cons (k0)<|.cons (k1)<|.cons (k2)<|.cons (k3)<|.cons (k4)<|.cons (prB_of (h32g v.ms H.msok H.msfine))<|.cons (prB_of (H.hra.elim fun i h=>h.elim fun t0 h=>h.elim fun t1 h=>h133d _ (by kernel_rfl) i h.1 h.2))<|.cons (prB_of h10)<|.cons (prB_of H.h9)<|.nil)
theorem rk3_4s_0 {v:VaT} {Ra:List (List D)} {ri:Int} (ex:Int) (H:HKs v Ra ri ⟨#[115,105,108,118,101,114]⟩) (h10:CV VP 10 [.ptr 0 0] [[E v.R,A 0]]=some ⟨twS4s v Ra ri,[[E v.R,A v.gk]],[],0⟩) (k0:((Int.tmod ex 5)==0)=true):CV VP 3 [E v.X,.d (.lit (.int .u8 ex))] []=some ⟨.d (B true),[],[],0⟩:=
 CV_R (AK_ok v.R v.gk ⟨#[115,105,108,118,101,114]⟩ (twS4s v Ra ri)) 400 [(565,true),(0,true)] [] rfl rfl (ob:=[Q (w3_0=w3_0),Q ((w3_1 v)=(w3_1 v)),Q (CV VP 197 (w3_53 v) []=some ⟨.agg (w3_55 v),[],[],0⟩),Q (CV VP 133 [.agg (w3_109 v),A v.rr] (w3_110 v)=some ⟨.d (.lit (.string ⟨#[115,105,108,118,101,114]⟩)),(w3_110 v),[],0⟩),(((Int.tmod ex 5)==0),true),Q (CV VP 197 (w3_63 v) []=some ⟨.agg (w3_64 v),[],[],0⟩),Q (CV VP 133 (w3_70 v Ra ri) []=some ⟨.d (.lit (.string ⟨#[115,105,108,118,101,114]⟩)),[],[],0⟩),Q (CV VP 10 [.ptr 0 0] [[E v.R,A 0]]=some ⟨twS4s v Ra ri,[[E v.R,A v.gk]],[],0⟩),Q (CV VP 9 (w3_51 v) []=some ⟨.ptr 0 0,(w3_52 v),[0],1⟩)]) (by kernel_rfl) (.cons (prB_of rfl)<|.cons (prB_of rfl)<|.cons (prB_of (h32s v.m H.mok H.mfine))<|.cons (prB_of (H.hrow.elim fun i h=>h.elim fun t0 h=>h.elim fun t1 h=>h133k _ (by kernel_rfl) i h.1 h.2))<|.cons (k0)<|.cons (prB_of (h32s v.ms H.msok H.msfine))<|.cons (prB_of (H.hra.elim fun i h=>h.elim fun t0 h=>h.elim fun t1 h=>h133d _ (by kernel_rfl) i h.1 h.2))<|.cons (prB_of h10)<|.cons (prB_of H.h9)<|.nil)
theorem rk3_4s_1 {v:VaT} {Ra:List (List D)} {ri:Int} (ex:Int) (H:HKs v Ra ri ⟨#[115,105,108,118,101,114]⟩) (h10:CV VP 10 [.ptr 0 0] [[E v.R,A 0]]=some ⟨twS4s v Ra ri,[[E v.R,A v.gk]],[],0⟩) (k0:((Int.tmod ex 5)==1)=true) (k1:((Int.tmod ex 5)==0)=false):CV VP 3 [E v.X,.d (.lit (.int .u8 ex))] []=some ⟨.d (B true),[],[],0⟩:=
 CV_R (AK_ok v.R v.gk ⟨#[115,105,108,118,101,114]⟩ (twS4s v Ra ri)) 400 [(565,true),(0,false),(0,true)] [] rfl rfl (ob:=[(((Int.tmod ex 5)==1),true),(((Int.tmod ex 5)==0),false),Q (CV VP 197 (w3_63 v) []=some ⟨.agg (w3_64 v),[],[],0⟩),Q (CV VP 133 (w3_70 v Ra ri) []=some ⟨.d (.lit (.string ⟨#[115,105,108,118,101,114]⟩)),[],[],0⟩),Q (CV VP 10 [.ptr 0 0] [[E v.R,A 0]]=some ⟨twS4s v Ra ri,[[E v.R,A v.gk]],[],0⟩),Q (CV VP 9 (w3_51 v) []=some ⟨.ptr 0 0,(w3_52 v),[0],1⟩)]) (by kernel_rfl) (.cons (k0)<|.cons (k1)<|.cons (prB_of (h32s v.ms H.msok H.msfine))<|.cons (prB_of (H.hra.elim fun i h=>h.elim fun t0 h=>h.elim fun t1 h=>h133d _ (by kernel_rfl) i h.1 h.2))<|.cons (prB_of h10)<|.cons (prB_of H.h9)<|.nil)
theorem rk3_4s_2 {v:VaT} {Ra:List (List D)} {ri:Int} (ex:Int) (H:HKs v Ra ri ⟨#[115,105,108,118,101,114]⟩) (h10:CV VP 10 [.ptr 0 0] [[E v.R,A 0]]=some ⟨twS4s v Ra ri,[[E v.R,A v.gk]],[],0⟩) (k0:((Int.tmod ex 5)==2)=true) (k1:((Int.tmod ex 5)==1)=false) (k2:((Int.tmod ex 5)==0)=false):CV VP 3 [E v.X,.d (.lit (.int .u8 ex))] []=some ⟨.d (B true),[],[],0⟩:=
 CV_R (AK_ok v.R v.gk ⟨#[115,105,108,118,101,114]⟩ (twS4s v Ra ri)) 400 [(565,true),(0,false),(0,false),(0,true)] [] rfl rfl (ob:=[(((Int.tmod ex 5)==2),true),(((Int.tmod ex 5)==1),false),(((Int.tmod ex 5)==0),false),Q (CV VP 197 (w3_63 v) []=some ⟨.agg (w3_64 v),[],[],0⟩),Q (CV VP 133 (w3_70 v Ra ri) []=some ⟨.d (.lit (.string ⟨#[115,105,108,118,101,114]⟩)),[],[],0⟩),Q (CV VP 10 [.ptr 0 0] [[E v.R,A 0]]=some ⟨twS4s v Ra ri,[[E v.R,A v.gk]],[],0⟩),Q (CV VP 9 (w3_51 v) []=some ⟨.ptr 0 0,(w3_52 v),[0],1⟩)]) (by kernel_rfl) (.cons (k0)<|.cons (k1)<|.cons (k2)<|.cons (prB_of (h32s v.ms H.msok H.msfine))<|.cons (prB_of (H.hra.elim fun i h=>h.elim fun t0 h=>h.elim fun t1 h=>h133d _ (by kernel_rfl) i h.1 h.2))<|.cons (prB_of h10)<|.cons (prB_of H.h9)<|.nil)
theorem rk3_4s_3 {v:VaT} {Ra:List (List D)} {ri:Int} (ex:Int) (H:HKs v Ra ri ⟨#[115,105,108,118,101,114]⟩) (h10:CV VP 10 [.ptr 0 0] [[E v.R,A 0]]=some ⟨twS4s v Ra ri,[[E v.R,A v.gk]],[],0⟩) (k0:((Int.tmod ex 5)==3)=true) (k1:((Int.tmod ex 5)==2)=false) (k2:((Int.tmod ex 5)==1)=false) (k3:((Int.tmod ex 5)==0)=false):CV VP 3 [E v.X,.d (.lit (.int .u8 ex))] []=some ⟨.d (B true),[],[],0⟩:=
 CV_R (AK_ok v.R v.gk ⟨#[115,105,108,118,101,114]⟩ (twS4s v Ra ri)) 400 [(565,true),(0,false),(0,false),(0,false),(0,true)] [] rfl rfl (ob:=[(((Int.tmod ex 5)==3),true),(((Int.tmod ex 5)==2),false),(((Int.tmod ex 5)==1),false),(((Int.tmod ex 5)==0),false),Q (CV VP 197 (w3_63 v) []=some ⟨.agg (w3_64 v),[],[],0⟩),Q (CV VP 133 (w3_70 v Ra ri) []=some ⟨.d (.lit (.string ⟨#[115,105,108,118,101,114]⟩)),[],[],0⟩),Q (CV VP 10 [.ptr 0 0] [[E v.R,A 0]]=some ⟨twS4s v Ra ri,[[E v.R,A v.gk]],[],0⟩),Q (CV VP 9 (w3_51 v) []=some ⟨.ptr 0 0,(w3_52 v),[0],1⟩)]) (by kernel_rfl) (.cons (k0)<|.cons (k1)<|.cons (k2)<|.cons (k3)<|.cons (prB_of (h32s v.ms H.msok H.msfine))<|.cons (prB_of (H.hra.elim fun i h=>h.elim fun t0 h=>h.elim fun t1 h=>h133d _ (by kernel_rfl) i h.1 h.2))<|.cons (prB_of h10)<|.cons (prB_of H.h9)<|.nil)
theorem rk3_4s_4 {v:VaT} {Ra:List (List D)} {ri:Int} (ex:Int) (H:HKs v Ra ri ⟨#[115,105,108,118,101,114]⟩) (h10:CV VP 10 [.ptr 0 0] [[E v.R,A 0]]=some ⟨twS4s v Ra ri,[[E v.R,A v.gk]],[],0⟩) (k0:((Int.tmod ex 5)==4)=true) (k1:((Int.tmod ex 5)==3)=false) (k2:((Int.tmod ex 5)==2)=false) (k3:((Int.tmod ex 5)==1)=false) (k4:((Int.tmod ex 5)==0)=false):CV VP 3 [E v.X,.d (.lit (.int .u8 ex))] []=some ⟨.d (B true),[],[],0⟩:=
 CV_R (AK_ok v.R v.gk ⟨#[115,105,108,118,101,114]⟩ (twS4s v Ra ri)) 400 [(565,true),(0,false),(0,false),(0,false),(0,false),(0,true)] [] rfl rfl (ob:=[(((Int.tmod ex 5)==4),true),(((Int.tmod ex 5)==3),false),(((Int.tmod ex 5)==2),false),(((Int.tmod ex 5)==1),false),(((Int.tmod ex 5)==0),false),Q (CV VP 197 (w3_63 v) []=some ⟨.agg (w3_64 v),[],[],0⟩),Q (CV VP 133 (w3_70 v Ra ri) []=some ⟨.d (.lit (.string ⟨#[115,105,108,118,101,114]⟩)),[],[],0⟩),Q (CV VP 10 [.ptr 0 0] [[E v.R,A 0]]=some ⟨twS4s v Ra ri,[[E v.R,A v.gk]],[],0⟩),Q (CV VP 9 (w3_51 v) []=some ⟨.ptr 0 0,(w3_52 v),[0],1⟩)]) (by kernel_rfl) (.cons (k0)<|.cons (k1)<|.cons (k2)<|.cons (k3)<|.cons (k4)<|.cons (prB_of (h32s v.ms H.msok H.msfine))<|.cons (prB_of (H.hra.elim fun i h=>h.elim fun t0 h=>h.elim fun t1 h=>h133d _ (by kernel_rfl) i h.1 h.2))<|.cons (prB_of h10)<|.cons (prB_of H.h9)<|.nil)
theorem rk3z_0g {v:VaT} {Ra:List (List D)} {ri:Int} (ex:Int) (H:HKz v) (h10:CV VP 10 [.ptr 0 0] [[E v.R,A 0]]=some ⟨twZ0g v Ra ri,[[E v.R,A v.gk]],[],0⟩):CV VP 3 [E v.X,.d (.lit (.int .u8 ex))] []=some ⟨.d (B true),[],[],0⟩:=
 CV_R (AK_ok v.R v.gk ⟨#[103,111,108,100]⟩ (twZ0g v Ra ri)) 400 [] [] rfl rfl (ob:=[Q (CV VP 10 [.ptr 0 0] [[E v.R,A 0]]=some ⟨twZ0g v Ra ri,[[E v.R,A v.gk]],[],0⟩),Q (CV VP 9 (w3_51 v) []=some ⟨.ptr 0 0,(w3_52 v),[0],1⟩)]) (by kernel_rfl) (.cons (prB_of h10)<|.cons (prB_of H.h9)<|.nil)
theorem rk3z_0s {v:VaT} {Ra:List (List D)} {ri:Int} (ex:Int) (H:HKz v) (h10:CV VP 10 [.ptr 0 0] [[E v.R,A 0]]=some ⟨twZ0s v Ra ri,[[E v.R,A v.gk]],[],0⟩):CV VP 3 [E v.X,.d (.lit (.int .u8 ex))] []=some ⟨.d (B true),[],[],0⟩:=
 CV_R (AK_ok v.R v.gk ⟨#[115,105,108,118,101,114]⟩ (twZ0s v Ra ri)) 400 [] [] rfl rfl (ob:=[Q (CV VP 10 [.ptr 0 0] [[E v.R,A 0]]=some ⟨twZ0s v Ra ri,[[E v.R,A v.gk]],[],0⟩),Q (CV VP 9 (w3_51 v) []=some ⟨.ptr 0 0,(w3_52 v),[0],1⟩)]) (by kernel_rfl) (.cons (prB_of h10)<|.cons (prB_of H.h9)<|.nil)
theorem rk3z_1g {v:VaT} {Ra:List (List D)} {ri:Int} (ex:Int) (H:HKz v) (h10:CV VP 10 [.ptr 0 0] [[E v.R,A 0]]=some ⟨twZ1g v Ra ri,[[E v.R,A v.gk]],[],0⟩):CV VP 3 [E v.X,.d (.lit (.int .u8 ex))] []=some ⟨.d (B true),[],[],0⟩:=
 CV_R (AK_ok v.R v.gk ⟨#[103,111,108,100]⟩ (twZ1g v Ra ri)) 400 [] [] rfl rfl (ob:=[Q (CV VP 10 [.ptr 0 0] [[E v.R,A 0]]=some ⟨twZ1g v Ra ri,[[E v.R,A v.gk]],[],0⟩),Q (CV VP 9 (w3_51 v) []=some ⟨.ptr 0 0,(w3_52 v),[0],1⟩)]) (by kernel_rfl) (.cons (prB_of h10)<|.cons (prB_of H.h9)<|.nil)
theorem rk3z_1s {v:VaT} {Ra:List (List D)} {ri:Int} (ex:Int) (H:HKz v) (h10:CV VP 10 [.ptr 0 0] [[E v.R,A 0]]=some ⟨twZ1s v Ra ri,[[E v.R,A v.gk]],[],0⟩):CV VP 3 [E v.X,.d (.lit (.int .u8 ex))] []=some ⟨.d (B true),[],[],0⟩:=
 CV_R (AK_ok v.R v.gk ⟨#[115,105,108,118,101,114]⟩ (twZ1s v Ra ri)) 400 [] [] rfl rfl (ob:=[Q (CV VP 10 [.ptr 0 0] [[E v.R,A 0]]=some ⟨twZ1s v Ra ri,[[E v.R,A v.gk]],[],0⟩),Q (CV VP 9 (w3_51 v) []=some ⟨.ptr 0 0,(w3_52 v),[0],1⟩)]) (by kernel_rfl) (.cons (prB_of h10)<|.cons (prB_of H.h9)<|.nil)
theorem rk3z_2g {v:VaT} {Ra:List (List D)} {ri:Int} (ex:Int) (H:HKz v) (h10:CV VP 10 [.ptr 0 0] [[E v.R,A 0]]=some ⟨twZ2g v Ra ri,[[E v.R,A v.gk]],[],0⟩):CV VP 3 [E v.X,.d (.lit (.int .u8 ex))] []=some ⟨.d (B true),[],[],0⟩:=
 CV_R (AK_ok v.R v.gk ⟨#[103,111,108,100]⟩ (twZ2g v Ra ri)) 400 [] [] rfl rfl (ob:=[Q (CV VP 10 [.ptr 0 0] [[E v.R,A 0]]=some ⟨twZ2g v Ra ri,[[E v.R,A v.gk]],[],0⟩),Q (CV VP 9 (w3_51 v) []=some ⟨.ptr 0 0,(w3_52 v),[0],1⟩)]) (by kernel_rfl) (.cons (prB_of h10)<|.cons (prB_of H.h9)<|.nil)
theorem rk3z_2s {v:VaT} {Ra:List (List D)} {ri:Int} (ex:Int) (H:HKz v) (h10:CV VP 10 [.ptr 0 0] [[E v.R,A 0]]=some ⟨twZ2s v Ra ri,[[E v.R,A v.gk]],[],0⟩):CV VP 3 [E v.X,.d (.lit (.int .u8 ex))] []=some ⟨.d (B true),[],[],0⟩:=
 CV_R (AK_ok v.R v.gk ⟨#[115,105,108,118,101,114]⟩ (twZ2s v Ra ri)) 400 [] [] rfl rfl (ob:=[Q (CV VP 10 [.ptr 0 0] [[E v.R,A 0]]=some ⟨twZ2s v Ra ri,[[E v.R,A v.gk]],[],0⟩),Q (CV VP 9 (w3_51 v) []=some ⟨.ptr 0 0,(w3_52 v),[0],1⟩)]) (by kernel_rfl) (.cons (prB_of h10)<|.cons (prB_of H.h9)<|.nil)
theorem rk3z_3g {v:VaT} {Ra:List (List D)} {ri:Int} (ex:Int) (H:HKz v) (h10:CV VP 10 [.ptr 0 0] [[E v.R,A 0]]=some ⟨twZ3g v Ra ri,[[E v.R,A v.gk]],[],0⟩):CV VP 3 [E v.X,.d (.lit (.int .u8 ex))] []=some ⟨.d (B true),[],[],0⟩:=
 CV_R (AK_ok v.R v.gk ⟨#[103,111,108,100]⟩ (twZ3g v Ra ri)) 400 [] [] rfl rfl (ob:=[Q (CV VP 10 [.ptr 0 0] [[E v.R,A 0]]=some ⟨twZ3g v Ra ri,[[E v.R,A v.gk]],[],0⟩),Q (CV VP 9 (w3_51 v) []=some ⟨.ptr 0 0,(w3_52 v),[0],1⟩)]) (by kernel_rfl) (.cons (prB_of h10)<|.cons (prB_of H.h9)<|.nil)
theorem rk3z_3s {v:VaT} {Ra:List (List D)} {ri:Int} (ex:Int) (H:HKz v) (h10:CV VP 10 [.ptr 0 0] [[E v.R,A 0]]=some ⟨twZ3s v Ra ri,[[E v.R,A v.gk]],[],0⟩):CV VP 3 [E v.X,.d (.lit (.int .u8 ex))] []=some ⟨.d (B true),[],[],0⟩:=
 CV_R (AK_ok v.R v.gk ⟨#[115,105,108,118,101,114]⟩ (twZ3s v Ra ri)) 400 [] [] rfl rfl (ob:=[Q (CV VP 10 [.ptr 0 0] [[E v.R,A 0]]=some ⟨twZ3s v Ra ri,[[E v.R,A v.gk]],[],0⟩),Q (CV VP 9 (w3_51 v) []=some ⟨.ptr 0 0,(w3_52 v),[0],1⟩)]) (by kernel_rfl) (.cons (prB_of h10)<|.cons (prB_of H.h9)<|.nil)
theorem rk3z_4g {v:VaT} {Ra:List (List D)} {ri:Int} (ex:Int) (H:HKz v) (h10:CV VP 10 [.ptr 0 0] [[E v.R,A 0]]=some ⟨twZ4g v Ra ri,[[E v.R,A v.gk]],[],0⟩):CV VP 3 [E v.X,.d (.lit (.int .u8 ex))] []=some ⟨.d (B true),[],[],0⟩:=
 CV_R (AK_ok v.R v.gk ⟨#[103,111,108,100]⟩ (twZ4g v Ra ri)) 400 [] [] rfl rfl (ob:=[Q (CV VP 10 [.ptr 0 0] [[E v.R,A 0]]=some ⟨twZ4g v Ra ri,[[E v.R,A v.gk]],[],0⟩),Q (CV VP 9 (w3_51 v) []=some ⟨.ptr 0 0,(w3_52 v),[0],1⟩)]) (by kernel_rfl) (.cons (prB_of h10)<|.cons (prB_of H.h9)<|.nil)
theorem rk3z_4s {v:VaT} {Ra:List (List D)} {ri:Int} (ex:Int) (H:HKz v) (h10:CV VP 10 [.ptr 0 0] [[E v.R,A 0]]=some ⟨twZ4s v Ra ri,[[E v.R,A v.gk]],[],0⟩):CV VP 3 [E v.X,.d (.lit (.int .u8 ex))] []=some ⟨.d (B true),[],[],0⟩:=
 CV_R (AK_ok v.R v.gk ⟨#[115,105,108,118,101,114]⟩ (twZ4s v Ra ri)) 400 [] [] rfl rfl (ob:=[Q (CV VP 10 [.ptr 0 0] [[E v.R,A 0]]=some ⟨twZ4s v Ra ri,[[E v.R,A v.gk]],[],0⟩),Q (CV VP 9 (w3_51 v) []=some ⟨.ptr 0 0,(w3_52 v),[0],1⟩)]) (by kernel_rfl) (.cons (prB_of h10)<|.cons (prB_of H.h9)<|.nil)
theorem rk3z_5g {v:VaT} {Ra:List (List D)} {ri:Int} (ex:Int) (H:HKz v) (h10:CV VP 10 [.ptr 0 0] [[E v.R,A 0]]=some ⟨twZ5g v Ra ri,[[E v.R,A v.gk]],[],0⟩):CV VP 3 [E v.X,.d (.lit (.int .u8 ex))] []=some ⟨.d (B true),[],[],0⟩:=
 CV_R (AK_ok v.R v.gk ⟨#[103,111,108,100]⟩ (twZ5g v Ra ri)) 400 [] [] rfl rfl (ob:=[Q (CV VP 10 [.ptr 0 0] [[E v.R,A 0]]=some ⟨twZ5g v Ra ri,[[E v.R,A v.gk]],[],0⟩),Q (CV VP 9 (w3_51 v) []=some ⟨.ptr 0 0,(w3_52 v),[0],1⟩)]) (by kernel_rfl) (.cons (prB_of h10)<|.cons (prB_of H.h9)<|.nil)
theorem e3 {l:List Int} (hB:ByteL l) (n1:Int) (h0:0≤n1) (h1:n1<256):CV VP 3 [.d (byteD l),.d (.lit (.int .u8 n1))] []=some ⟨.d (B true),[],[],0⟩:=by
 refine two_all hB ?_ ?_
 ·intro v Ra ri n t hn h5 hX H h10
  show CV VP 3 [.d (.sl (l.map byteRow)),.d (.lit (.int .u8 n1))] []=_
  rw [← hX]
  match n,hn,t with
  |0,_,true=>exact rk3z_0g (ri:=ri) n1 H h10
  |0,_,false=>exact rk3z_0s (ri:=ri) n1 H h10
  |1,_,true=>exact rk3z_1g (ri:=ri) n1 H h10
  |1,_,false=>exact rk3z_1s (ri:=ri) n1 H h10
  |2,_,true=>exact rk3z_2g (ri:=ri) n1 H h10
  |2,_,false=>exact rk3z_2s (ri:=ri) n1 H h10
  |3,_,true=>exact rk3z_3g (ri:=ri) n1 H h10
  |3,_,false=>exact rk3z_3s (ri:=ri) n1 H h10
  |4,_,true=>exact rk3z_4g (ri:=ri) n1 H h10
  |4,_,false=>exact rk3z_4s (ri:=ri) n1 H h10
  |5,_,true=>exact rk3z_5g (ri:=ri) n1 H h10
  |5,_,false=>exact absurd (h5 rfl) (by decide)
 ·intro v Ra ri n t hn hX H h10
  show CV VP 3 [.d (.sl (l.map byteRow)),.d (.lit (.int .u8 n1))] []=_
  rw [← hX]
  have hm:Int.tmod n1 5=0∨Int.tmod n1 5=1∨Int.tmod n1 5=2∨Int.tmod n1 5=3∨Int.tmod n1 5=4:=by rw [Int.tmod_eq_emod_of_nonneg h0];omega
  rcases hm with hm|hm|hm|hm|hm
  ·have k0:(Int.tmod n1 5==0)=true:=by rw [hm];rfl
   match n,hn,t with
   |0,_,true=>exact rk3_0g_0 n1 H h10 (by assumption)
   |0,_,false=>exact rk3_0s_0 n1 H h10 (by assumption)
   |1,_,true=>exact rk3_1g_0 n1 H h10 (by assumption)
   |1,_,false=>exact rk3_1s_0 n1 H h10 (by assumption)
   |2,_,true=>exact rk3_2g_0 n1 H h10 (by assumption)
   |2,_,false=>exact rk3_2s_0 n1 H h10 (by assumption)
   |3,_,true=>exact rk3_3g_0 n1 H h10 (by assumption)
   |3,_,false=>exact rk3_3s_0 n1 H h10 (by assumption)
   |4,_,true=>exact rk3_4g_0 n1 H h10 (by assumption)
   |4,_,false=>exact rk3_4s_0 n1 H h10 (by assumption)
  ·have k0:(Int.tmod n1 5==0)=false:=by rw [hm];rfl
   have k1:(Int.tmod n1 5==1)=true:=by rw [hm];rfl
   match n,hn,t with
   |0,_,true=>exact rk3_0g_1 n1 H h10 (by assumption) (by assumption)
   |0,_,false=>exact rk3_0s_1 n1 H h10 (by assumption) (by assumption)
   |1,_,true=>exact rk3_1g_1 n1 H h10 (by assumption) (by assumption)
   |1,_,false=>exact rk3_1s_1 n1 H h10 (by assumption) (by assumption)
   |2,_,true=>exact rk3_2g_1 n1 H h10 (by assumption) (by assumption)
   |2,_,false=>exact rk3_2s_1 n1 H h10 (by assumption) (by assumption)
   |3,_,true=>exact rk3_3g_1 n1 H h10 (by assumption) (by assumption)
   |3,_,false=>exact rk3_3s_1 n1 H h10 (by assumption) (by assumption)
   |4,_,true=>exact rk3_4g_1 n1 H h10 (by assumption) (by assumption)
   |4,_,false=>exact rk3_4s_1 n1 H h10 (by assumption) (by assumption)
  ·have k0:(Int.tmod n1 5==0)=false:=by rw [hm];rfl
   have k1:(Int.tmod n1 5==1)=false:=by rw [hm];rfl
   have k2:(Int.tmod n1 5==2)=true:=by rw [hm];rfl
   match n,hn,t with
   |0,_,true=>exact rk3_0g_2 n1 H h10 (by assumption) (by assumption) (by assumption)
   |0,_,false=>exact rk3_0s_2 n1 H h10 (by assumption) (by assumption) (by assumption)
   |1,_,true=>exact rk3_1g_2 n1 H h10 (by assumption) (by assumption) (by assumption)
   |1,_,false=>exact rk3_1s_2 n1 H h10 (by assumption) (by assumption) (by assumption)
   |2,_,true=>exact rk3_2g_2 n1 H h10 (by assumption) (by assumption) (by assumption)
   |2,_,false=>exact rk3_2s_2 n1 H h10 (by assumption) (by assumption) (by assumption)
   |3,_,true=>exact rk3_3g_2 n1 H h10 (by assumption) (by assumption) (by assumption)
   |3,_,false=>exact rk3_3s_2 n1 H h10 (by assumption) (by assumption) (by assumption)
   |4,_,true=>exact rk3_4g_2 n1 H h10 (by assumption) (by assumption) (by assumption)
   |4,_,false=>exact rk3_4s_2 n1 H h10 (by assumption) (by assumption) (by assumption)
  ·have k0:(Int.tmod n1 5==0)=false:=by rw [hm];rfl
   have k1:(Int.tmod n1 5==1)=false:=by rw [hm];rfl
   have k2:(Int.tmod n1 5==2)=false:=by rw [hm];rfl
   have k3:(Int.tmod n1 5==3)=true:=by rw [hm];rfl
   match n,hn,t with
   |0,_,true=>exact rk3_0g_3 n1 H h10 (by assumption) (by assumption) (by assumption) (by assumption)
   |0,_,false=>exact rk3_0s_3 n1 H h10 (by assumption) (by assumption) (by assumption) (by assumption)
   |1,_,true=>exact rk3_1g_3 n1 H h10 (by assumption) (by assumption) (by assumption) (by assumption)
   |1,_,false=>exact rk3_1s_3 n1 H h10 (by assumption) (by assumption) (by assumption) (by assumption)
   |2,_,true=>exact rk3_2g_3 n1 H h10 (by assumption) (by assumption) (by assumption) (by assumption)
   |2,_,false=>exact rk3_2s_3 n1 H h10 (by assumption) (by assumption) (by assumption) (by assumption)
   |3,_,true=>exact rk3_3g_3 n1 H h10 (by assumption) (by assumption) (by assumption) (by assumption)
   |3,_,false=>exact rk3_3s_3 n1 H h10 (by assumption) (by assumption) (by assumption) (by assumption)
   |4,_,true=>exact rk3_4g_3 n1 H h10 (by assumption) (by assumption) (by assumption) (by assumption)
   |4,_,false=>exact rk3_4s_3 n1 H h10 (by assumption) (by assumption) (by assumption) (by assumption)
  ·have k0:(Int.tmod n1 5==0)=false:=by rw [hm];rfl
   have k1:(Int.tmod n1 5==1)=false:=by rw [hm];rfl
   have k2:(Int.tmod n1 5==2)=false:=by rw [hm];rfl
   have k3:(Int.tmod n1 5==3)=false:=by rw [hm];rfl
   have k4:(Int.tmod n1 5==4)=true:=by rw [hm];rfl
   match n,hn,t with
   |0,_,true=>exact rk3_0g_4 n1 H h10 (by assumption) (by assumption) (by assumption) (by assumption) (by assumption)
   |0,_,false=>exact rk3_0s_4 n1 H h10 (by assumption) (by assumption) (by assumption) (by assumption) (by assumption)
   |1,_,true=>exact rk3_1g_4 n1 H h10 (by assumption) (by assumption) (by assumption) (by assumption) (by assumption)
   |1,_,false=>exact rk3_1s_4 n1 H h10 (by assumption) (by assumption) (by assumption) (by assumption) (by assumption)
   |2,_,true=>exact rk3_2g_4 n1 H h10 (by assumption) (by assumption) (by assumption) (by assumption) (by assumption)
   |2,_,false=>exact rk3_2s_4 n1 H h10 (by assumption) (by assumption) (by assumption) (by assumption) (by assumption)
   |3,_,true=>exact rk3_3g_4 n1 H h10 (by assumption) (by assumption) (by assumption) (by assumption) (by assumption)
   |3,_,false=>exact rk3_3s_4 n1 H h10 (by assumption) (by assumption) (by assumption) (by assumption) (by assumption)
   |4,_,true=>exact rk3_4g_4 n1 H h10 (by assumption) (by assumption) (by assumption) (by assumption) (by assumption)
   |4,_,false=>exact rk3_4s_4 n1 H h10 (by assumption) (by assumption) (by assumption) (by assumption) (by assumption)
end Go.Proofs.YtlcbgdnfkmbhkaaGreat
