/- The value level machine, third part: the limit over all running times, wishes for what comes of a run, and how a law begins. Conditions: none. -/
import Derived.Test.YtlcbgdnfkmbhkaaGreatVb
import Derived.Below
import Derived.IntWalk
import Derived.OpenShut
import Derived.WideShapes
import Derived.Attr
set_option linter.unusedSimpArgs false
set_option linter.unusedVariables false
namespace Go.VM
def Orc.le (C D:Orc):Prop:=∀ f a b r,C f a b=some r→D f a b=some r
section
variable {C D:Orc}
theorem vCall_mono (h:Orc.le C D) {st:St} {f:FuncId} {args:List V} {x:V×St} (hc:vCall C st f args=some x):vCall D st f args=some x:=by
 unfold vCall at hc ⊢
 split at hc
 ·rename_i hcc;rw [if_pos hcc]
  split at hc
  ·rename_i ret hr;rw [h _ _ _ _ hr];exact hc
  ·cases hc
 ·rename_i hcc;rw [if_neg hcc]
  split at hc
  ·rename_i pb hpb
   try rw [hpb]
   try dsimp only
   split at hc
   ·rename_i ret hr;rw [h _ _ _ _ hr];exact hc
   ·cases hc
  ·rename_i hpb
   try rw [hpb]
   try dsimp only
   split at hc
   ·rename_i ret hr;rw [h _ _ _ _ hr];exact hc
   ·cases hc
theorem vStep_mono (h:Orc.le C D) {st:St} {vo:VOp} {x:V×St} (hc:vStep C st vo=some x):vStep D st vo=some x:=by
 cases vo
 case buildSl a b c d mt=>cases mt<;>exact hc
 case app a b c mt=>cases mt<;>exact hc
 case call f args=>
  simp only [vStep] at hc ⊢
  split at hc
  ·rename_i hlt;rw [if_pos hlt];exact vCall_mono h hc
  ·cases hc
 case inl f args=>
  simp only [vStep,vInl] at hc ⊢
  split at hc
  ·rename_i ret hr;rw [h _ _ _ _ hr];exact hc
  ·cases hc
 case callv y args=>
  simp only [vStep] at hc ⊢
  split at hc
  ·split at hc
   ·rename_i hlt;rw [if_pos hlt];exact vCall_mono h hc
   ·cases hc
  ·cases hc
 all_goals exact hc
theorem vOps_mono (h:Orc.le C D):∀ {os:List VOper} {st st':St},vOps C os st=some st'→vOps D os st=some st'
 |[],st,st',hc=>hc
 |o::os,st,st',hc=>by
  simp only [vOps] at hc ⊢
  split at hc
  ·split at hc
   ·rename_i hs;rw [vStep_mono h hs];exact vOps_mono h hc
   ·cases hc
  ·exact vOps_mono h hc
  ·cases hc
theorem vTr_mono (h:Orc.le C D):∀ {os:List VOper} {st:St} {sts:List St},vTr C os st=some sts→vTr D os st=some sts
 |[],st,st',hc=>hc
 |o::os,st,st',hc=>by
  simp only [vTr] at hc ⊢
  split at hc
  ·split at hc
   ·rename_i hs
    split at hc
    ·rename_i hl;rw [vStep_mono h hs];simp only [vTr_mono h hl];exact hc
    ·cases hc
   ·cases hc
  ·split at hc
   ·rename_i hl;simp only [vTr_mono h hl];exact hc
   ·cases hc
  ·cases hc
theorem vDraw_mono (h:Orc.le C D) {os:List VOper} {chk:List (Nat×Nat)} {st st':St} (hc:vDraw C os chk st=some st'):vDraw D os chk st=some st':=by
 unfold vDraw at hc ⊢
 cases chk with
 |nil=>exact vOps_mono h hc
 |cons p ps=>
  simp only at hc ⊢
  split at hc
  ·rename_i sts hs
   rw [vTr_mono h hs];exact hc
  ·cases hc
theorem vx_mono (h:Orc.le C D):∀ n,(∀ c st x,vx C n c st=some x→∀ m,n≤m→vx D m c st=some x) ∧
  (∀ keep b k st x,vloop C n keep b k st=some x→∀ m,n≤m→vloop D m keep b k st=some x)
 |0=>⟨fun c st x hx=>by simp [vx] at hx,fun keep b k st x hx=>by simp [vloop] at hx⟩
 |n+1=>by
  obtain ⟨ih1,ih2⟩:=vx_mono h n
  refine ⟨fun c st x hx m hm=>?_,fun keep b k st x hx m hm=>?_⟩
  ·obtain ⟨m,rfl⟩:∃ m',m=m'+1:=⟨m-1,by omega⟩
   have hm':n≤m:=by omega
   cases c with
   |skip=>simpa [vx] using hx
   |reg ops=>
    simp only [vx] at hx ⊢
    split at hx
    ·rename_i hs;rw [vOps_mono h hs];exact hx
    ·cases hx
   |draw ops chk=>
    simp only [vx] at hx ⊢
    split at hx
    ·rename_i hs;rw [vDraw_mono h hs];exact hx
    ·cases hx
   |seq a b=>
    simp only [vx] at hx ⊢
    cases ha:vx C n a st with
    |none=>rw [ha] at hx;cases hx
    |some p=>
     rw [ih1 _ _ _ ha m hm']
     rw [ha] at hx
     obtain ⟨e,st'⟩:=p
     cases e with
     |normal=>exact ih1 _ _ _ hx m hm'
     |exit id=>exact hx
     |ret=>exact hx
   |cond c a b=>
    simp only [vx] at hx ⊢
    split at hx
    ·split at hx
     ·rename_i ht;rw [if_pos ht];exact ih1 _ _ _ hx m hm'
     ·rename_i ht;rw [if_neg ht];exact ih1 _ _ _ hx m hm'
    ·cases hx
   |block id b=>
    simp only [vx] at hx ⊢
    cases ha:vx C n b st with
    |none=>rw [ha] at hx;cases hx
    |some p=>
     rw [ih1 _ _ _ ha m hm']
     rw [ha] at hx
     exact hx
   |loop keep b=>simp only [vx] at hx ⊢;exact ih2 _ _ _ _ _ hx m hm'
   |exit id=>simpa [vx] using hx
   |ret=>simpa [vx] using hx
   |gfrz k=>simpa [vx] using hx
   |alt dd a b=>
    simp only [vx] at hx ⊢
    split at hx
    ·rename_i e1 s1 e2 s2 hr1 hr2
     rw [ih1 _ _ _ hr1 m hm',ih1 _ _ _ hr2 m hm'];exact hx
    ·cases hx
  ·obtain ⟨m,rfl⟩:∃ m',m=m'+1:=⟨m-1,by omega⟩
   have hm':n≤m:=by omega
   simp only [vloop] at hx ⊢
   split at hx
   ·rename_i st0 _
    cases ha:vx C n b st0 with
    |none=>rw [ha] at hx;cases hx
    |some p=>
     simp only [ih1 _ _ _ ha m hm']
     simp only [ha] at hx
     obtain ⟨e,st'⟩:=p
     cases e with
     |normal=>exact ih2 _ _ _ _ _ hx m hm'
     |exit id=>exact hx
     |ret=>exact hx
   ·cases hx
theorem vRun_mono (h:Orc.le C D) {n m:Nat} (hm:n≤m) {vf:VFunc} {args:List V} {blks:List (List V)} {r:Ret} (hr:vRun C n vf args blks=some r):vRun D m vf args blks=some r:=by
 unfold vRun at hr ⊢
 cases hx:vx C n vf.body (vf.start args blks) with
 |none=>rw [hx] at hr;cases hr
 |some p=>rw [hx] at hr;rw [(vx_mono h n).1 _ _ _ hx m hm];exact hr
theorem vRunI_mono (h:Orc.le C D) {n m:Nat} (hm:n≤m) {vf:VFunc} {as:List V} {st:St} {r:Ret} (hr:vRunI C n vf as st=some r):vRunI D m vf as st=some r:=by
 unfold vRunI at hr ⊢
 split at hr
 ·rename_i hx;rw [(vx_mono h n).1 _ _ _ hx m hm];exact hr
 ·rename_i hx;rw [(vx_mono h n).1 _ _ _ hx m hm];exact hr
 ·cases hr
theorem vcall_mono1 (VP:VProg):∀ n,Orc.le (vcall VP n) (vcall VP (n+1))
 |0=>fun f a b r h=>by simp [vcall] at h
 |n+1=>fun f a b r h=>by
  have ih:=vcall_mono1 VP n
  rw [vcall] at h ⊢
  cases hr:VP.nat f a b with
  |some r'=>rw [hr] at h;exact h
  |none=>
   rw [hr] at h
   simp only at h ⊢
   cases hv:VP.fn f with
   |some vf=>rw [hv] at h;exact vRun_mono ih (Nat.le_succ n) h
   |none=>
    rw [hv] at h
    simp only at h ⊢
    by_cases hge:1000000≤f
    ·rw [if_pos hge] at h ⊢
     cases hu:unIn a with
     |none=>rw [hu] at h;cases h
     |some p=>
      obtain ⟨gn,base,lv,as⟩:=p
      rw [hu] at h
      cases hw:VP.fn (f-1000000) with
      |none=>rw [hw] at h;cases h
      |some vf=>rw [hw] at h;exact vRunI_mono ih (Nat.le_succ n) h
    ·rw [if_neg hge] at h;cases h
theorem vcall_mono (VP:VProg) {n m:Nat} (h:n≤m):Orc.le (vcall VP n) (vcall VP m):=by
 induction h with
 |refl=>exact fun _ _ _ _ h=>h
 |step _ ih=>exact fun f a b r h=>vcall_mono1 VP _ f a b r (ih f a b r h)
end
open Classical in
noncomputable def lim {α:Type} (g:Nat→Option α):Option α:=if h:∃ n a,g n=some a then g (Classical.choose h) else none
def Up {α:Type} (g:Nat→Option α):Prop:=∀ n m a,n≤m→g n=some a→g m=some a
theorem lim_some {α:Type} {g:Nat→Option α} (hg:Up g) {a:α}:lim g=some a↔∃ n,g n=some a:=by
 unfold lim
 constructor
 ·intro h
  split at h
  ·exact ⟨_,h⟩
  ·cases h
 ·rintro ⟨n,hn⟩
  have h:∃ n a,g n=some a:=⟨n,a,hn⟩
  rw [dif_pos h]
  obtain ⟨b,hb⟩:=Classical.choose_spec h
  have h1:=hg _ (max n (Classical.choose h)) _ (Nat.le_max_right _ _) hb
  have h2:=hg _ (max n (Classical.choose h)) _ (Nat.le_max_left _ _) hn
  rw [h1] at h2
  rw [hb];exact h2
section
variable (VP:VProg)
noncomputable def CV:Orc:=fun f a b=>lim fun n=>vcall VP n f a b
noncomputable def X (c:VCode) (st:St):Option (VExit×St):=lim fun n=>vx (vcall VP n) n c st
noncomputable def XL (keep:List Bool) (b:VCode) (k:Nat) (st:St):Option (VExit×St):=lim fun n=>vloop (vcall VP n) n keep b k st
variable {VP}
theorem CV_iff {f:FuncId} {a:List V} {b:List (List V)} {r:Ret}:CV VP f a b=some r↔∃ n,vcall VP n f a b=some r:=
 lim_some fun _ _ _ h hn=>vcall_mono VP h _ _ _ _ hn
theorem X_iff {c:VCode} {st:St} {r:VExit×St}:X VP c st=some r↔∃ n,vx (vcall VP n) n c st=some r:=
 lim_some fun n m _ h hn=>(vx_mono (vcall_mono VP h) n).1 _ _ _ hn m h
theorem XL_iff {keep:List Bool} {b:VCode} {k:Nat} {st:St} {r:VExit×St}:XL VP keep b k st=some r↔∃ n,vloop (vcall VP n) n keep b k st=some r:=
 lim_some fun n m _ h hn=>(vx_mono (vcall_mono VP h) n).2 _ _ _ _ _ hn m h
theorem vCall_cont {st:St} {f:FuncId} {args:List V} {x:V×St} (hc:vCall (CV VP) st f args=some x):∃ n,vCall (vcall VP n) st f args=some x:=by
 unfold vCall at hc
 split at hc
 ·rename_i hcc
  split at hc
  ·rename_i ret hr
   obtain ⟨n,hn⟩:=CV_iff.1 hr
   refine ⟨n,?_⟩
   unfold vCall;rw [if_pos hcc,hn];exact hc
  ·cases hc
 ·rename_i hcc
  split at hc
  ·rename_i pb hpb
   split at hc
   ·rename_i ret hr
    obtain ⟨n,hn⟩:=CV_iff.1 hr
    refine ⟨n,?_⟩
    unfold vCall;rw [if_neg hcc,hpb];simp only [hn];exact hc
   ·cases hc
  ·rename_i hpb
   split at hc
   ·rename_i ret hr
    obtain ⟨n,hn⟩:=CV_iff.1 hr
    refine ⟨n,?_⟩
    unfold vCall;rw [if_neg hcc,hpb];simp only [hn];exact hc
   ·cases hc
theorem vStep_cont {st:St} {vo:VOp} {x:V×St} (hc:vStep (CV VP) st vo=some x):∃ n,vStep (vcall VP n) st vo=some x:=by
 cases vo
 case buildSl a b c d mt=>cases mt<;>exact ⟨0,hc⟩
 case app a b c mt=>cases mt<;>exact ⟨0,hc⟩
 case call f args=>
  simp only [vStep] at hc
  split at hc
  ·rename_i hlt;obtain ⟨n,hn⟩:=vCall_cont hc;exact ⟨n,by simp only [vStep];rw [if_pos hlt];exact hn⟩
  ·cases hc
 case inl f args=>
  simp only [vStep,vInl] at hc
  split at hc
  ·rename_i ret hr
   obtain ⟨n,hn⟩:=CV_iff.1 hr
   exact ⟨n,by simp only [vStep,vInl];rw [hn];exact hc⟩
  ·cases hc
 case callv y args=>
  simp only [vStep] at hc
  split at hc
  ·rename_i hx
   split at hc
   ·rename_i hlt;obtain ⟨n,hn⟩:=vCall_cont hc;exact ⟨n,by simp only [vStep,hx];rw [if_pos hlt];exact hn⟩
   ·cases hc
  ·cases hc
 all_goals exact ⟨0,hc⟩
theorem vOps_cont:∀ {os:List VOper} {st st':St},vOps (CV VP) os st=some st'→∃ n,vOps (vcall VP n) os st=some st'
 |[],st,st',hc=>⟨0,hc⟩
 |o::os,st,st',hc=>by
  simp only [vOps] at hc
  split at hc
  ·rename_i hw
   split at hc
   ·rename_i hs
    obtain ⟨n,hn⟩:=vStep_cont hs
    obtain ⟨m,hm⟩:=vOps_cont hc
    refine ⟨max n m,?_⟩
    simp only [vOps,hw,vStep_mono (vcall_mono VP (Nat.le_max_left n m)) hn]
    exact vOps_mono (vcall_mono VP (Nat.le_max_right n m)) hm
   ·cases hc
  ·rename_i hw
   obtain ⟨m,hm⟩:=vOps_cont hc
   exact ⟨m,by simp only [vOps,hw];exact hm⟩
  ·cases hc
theorem vTr_cont:∀ {os:List VOper} {st:St} {sts:List St},vTr (CV VP) os st=some sts→∃ n,vTr (vcall VP n) os st=some sts
 |[],st,st',hc=>⟨0,hc⟩
 |o::os,st,st',hc=>by
  simp only [vTr] at hc
  split at hc
  ·rename_i hw
   split at hc
   ·rename_i hs
    split at hc
    ·rename_i hl
     obtain ⟨n,hn⟩:=vStep_cont hs
     obtain ⟨m,hm⟩:=vTr_cont hl
     refine ⟨max n m,?_⟩
     simp only [vTr,hw,vStep_mono (vcall_mono VP (Nat.le_max_left n m)) hn,vTr_mono (vcall_mono VP (Nat.le_max_right n m)) hm]
     exact hc
    ·cases hc
   ·cases hc
  ·rename_i hw
   split at hc
   ·rename_i hl
    obtain ⟨m,hm⟩:=vTr_cont hl
    exact ⟨m,by simp only [vTr,hw,hm];exact hc⟩
   ·cases hc
  ·cases hc
theorem vDraw_cont {os:List VOper} {chk:List (Nat×Nat)} {st st':St} (hc:vDraw (CV VP) os chk st=some st'):∃ n,vDraw (vcall VP n) os chk st=some st':=by
 unfold vDraw at hc
 cases chk with
 |nil=>obtain ⟨n,hn⟩:=vOps_cont hc;exact ⟨n,by unfold vDraw;exact hn⟩
 |cons p ps=>
  simp only at hc
  split at hc
  ·rename_i sts hs
   obtain ⟨n,hn⟩:=vTr_cont hs
   refine ⟨n,?_⟩
   unfold vDraw
   simp only [hn]
   exact hc
  ·cases hc
theorem X_skip {st:St}:X VP .skip st=some (.normal,st):=X_iff.2 ⟨1,rfl⟩
theorem X_exit {id:Nat} {st:St}:X VP (.exit id) st=some (.exit id,st):=X_iff.2 ⟨1,rfl⟩
theorem X_ret {st:St}:X VP .ret st=some (.ret,st):=X_iff.2 ⟨1,rfl⟩
theorem X_gfrz {k:Nat} {st:St}:X VP (.gfrz k) st=some (.normal,gfrzS st k):=X_iff.2 ⟨1,rfl⟩
theorem vx_at' {n m:Nat} (h:n≤m) {c:VCode} {st:St} {x:VExit×St} (hx:vx (vcall VP n) n c st=some x):vx (vcall VP (m+1)) m c st=some x:=(vx_mono (vcall_mono VP (by omega)) n).1 _ _ _ hx m h
theorem X_alt {dd:List Nat} {a b:VCode} {st s1 s2:St} {e:VExit} (h:X VP a st=some (e,s1)) (k:X VP b st=some (e,s2)) (hs:s2.fgt dd=s1.fgt dd):X VP (.alt dd a b) st=some (e,s1.fgt dd):=by
 obtain ⟨n,hn⟩:=X_iff.1 h
 obtain ⟨m,hm⟩:=X_iff.1 k
 refine X_iff.2 ⟨max n m+1,?_⟩
 simp only [vx]
 rw [vx_at' (Nat.le_max_left n m) hn,vx_at' (Nat.le_max_right n m) hm]
 simp only
 rw [if_pos ⟨rfl,hs⟩]
theorem X_reg {ops:List VOper} {st st':St} (h:vOps (CV VP) ops st=some st'):X VP (.reg ops) st=some (.normal,st'):=by
 obtain ⟨n,hn⟩:=vOps_cont h
 refine X_iff.2 ⟨n+1,?_⟩
 simp only [vx,vOps_mono (vcall_mono VP (Nat.le_succ n)) hn]
theorem X_draw {ops:List VOper} {chk:List (Nat×Nat)} {st st':St} (h:vDraw (CV VP) ops chk st=some st'):X VP (.draw ops chk) st=some (.normal,st'):=by
 obtain ⟨n,hn⟩:=vDraw_cont h
 refine X_iff.2 ⟨n+1,?_⟩
 simp only [vx,vDraw_mono (vcall_mono VP (Nat.le_succ n)) hn]
theorem vx_at {n m:Nat} (h:n≤m) {c:VCode} {st:St} {x:VExit×St} (hx:vx (vcall VP n) n c st=some x):vx (vcall VP (m+1)) m c st=some x:=(vx_mono (vcall_mono VP (by omega)) n).1 _ _ _ hx m h
theorem X_seq {a b:VCode} {st st':St} {x:VExit×St} (h:X VP a st=some (.normal,st')) (k:X VP b st'=some x):X VP (.seq a b) st=some x:=by
 obtain ⟨n,hn⟩:=X_iff.1 h
 obtain ⟨m,hm⟩:=X_iff.1 k
 refine X_iff.2 ⟨max n m+1,?_⟩
 simp only [vx,vx_at (Nat.le_max_left n m) hn]
 exact vx_at (Nat.le_max_right n m) hm
theorem X_seqE {a b:VCode} {st st':St} {id:Nat} (h:X VP a st=some (.exit id,st')):X VP (.seq a b) st=some (.exit id,st'):=by
 obtain ⟨n,hn⟩:=X_iff.1 h
 refine X_iff.2 ⟨n+1,?_⟩
 simp only [vx,vx_at (Nat.le_refl n) hn]
theorem X_seqR {a b:VCode} {st st':St} (h:X VP a st=some (.ret,st')):X VP (.seq a b) st=some (.ret,st'):=by
 obtain ⟨n,hn⟩:=X_iff.1 h
 refine X_iff.2 ⟨n+1,?_⟩
 simp only [vx,vx_at (Nat.le_refl n) hn]
theorem X_cond {c:VArg} {a b:VCode} {st:St} {t:Bool} {x:VExit×St} (hc:(c.ev st.tmps).bool=some t) (h:X VP (if t then a else b) st=some x):X VP (.cond c a b) st=some x:=by
 obtain ⟨n,hn⟩:=X_iff.1 h
 refine X_iff.2 ⟨n+1,?_⟩
 simp only [vx,hc]
 cases t with
 |true=>exact vx_at (Nat.le_refl n) hn
 |false=>exact vx_at (Nat.le_refl n) hn
def VExit.out (id:Nat):VExit→VExit
 |.exit i=>if i=id then .normal else .exit i
 |e=>e
theorem X_block {id:Nat} {b:VCode} {st:St} {e:VExit} {st':St} (h:X VP b st=some (e,st')):X VP (.block id b) st=some (e.out id,st'):=by
 obtain ⟨n,hn⟩:=X_iff.1 h
 refine X_iff.2 ⟨n+1,?_⟩
 simp only [vx,vx_at (Nat.le_refl n) hn]
 cases e with
 |normal=>rfl
 |ret=>rfl
 |exit i=>
  simp only [VExit.out]
  split<;>rfl
theorem X_loop {keep:List Bool} {b:VCode} {st:St} {x:VExit×St} (h:XL VP keep b st.blocks.length st=some x):X VP (.loop keep b) st=some x:=by
 obtain ⟨n,hn⟩:=XL_iff.1 h
 refine X_iff.2 ⟨n+1,?_⟩
 simp only [vx]
 exact (vx_mono (vcall_mono VP (Nat.le_succ n)) n).2 _ _ _ _ _ hn n (Nat.le_refl n)
theorem XL_next {keep:List Bool} {b:VCode} {k:Nat} {st st0 st1:St} {x:VExit×St} (h0:st.head keep k=some st0) (h1:X VP b st0=some (.normal,st1)) (h2:XL VP keep b k st1=some x):XL VP keep b k st=some x:=by
 obtain ⟨n,hn⟩:=X_iff.1 h1
 obtain ⟨m,hm⟩:=XL_iff.1 h2
 refine XL_iff.2 ⟨max n m+1,?_⟩
 simp only [vloop,h0,vx_at (Nat.le_max_left n m) hn]
 exact (vx_mono (vcall_mono VP (by omega)) m).2 _ _ _ _ _ hm _ (Nat.le_max_right n m)
theorem XL_exit {keep:List Bool} {b:VCode} {k:Nat} {st st0 st1:St} {id:Nat} (h0:st.head keep k=some st0) (h1:X VP b st0=some (.exit id,st1)):XL VP keep b k st=some (.exit id,st1):=by
 obtain ⟨n,hn⟩:=X_iff.1 h1
 refine XL_iff.2 ⟨n+1,?_⟩
 simp only [vloop,h0,vx_at (Nat.le_refl n) hn]
theorem XL_ret {keep:List Bool} {b:VCode} {k:Nat} {st st0 st1:St} (h0:st.head keep k=some st0) (h1:X VP b st0=some (.ret,st1)):XL VP keep b k st=some (.ret,st1):=by
 obtain ⟨n,hn⟩:=X_iff.1 h1
 refine XL_iff.2 ⟨n+1,?_⟩
 simp only [vloop,h0,vx_at (Nat.le_refl n) hn]
theorem CV_of {f:FuncId} {vf:VFunc} {args:List V} {blks:List (List V)} {e:VExit} {st:St} {ret:Ret} (hf:VP.fn f=some vf) (hn:VP.nat f args blks=none) (hx:X VP vf.body (vf.start args blks)=some (e,st)) (he:e=.normal∨e=.ret)
  (hr:vRet vf blks.length st=some ret):CV VP f args blks=some ret:=by
 obtain ⟨n,hxn⟩:=X_iff.1 hx
 refine CV_iff.2 ⟨n+1,?_⟩
 simp only [vcall,hn,hf,vRun,hxn]
 rcases he with rfl|rfl<;>exact hr
theorem CV_ofI {f:FuncId} {vf:VFunc} {as:List V} {gn base:Nat} {lv:List Nat} {blks:List (List V)} {e:VExit} {st:St} {ret:Ret} (hf:VP.fn f=some vf) (hn:VP.nat (f+1000000) (inArgs gn base lv as) blks=none) (hn2:VP.fn (f+1000000)=none)
  (hx:X VP vf.body (vf.startI as ⟨[],blks,lv,gn,base,0⟩)=some (e,st)) (he:e=.normal∨e=.ret)
  (hr:vRetI vf st=some ret):CV VP (f+1000000) (inArgs gn base lv as) blks=some ret:=by
 obtain ⟨n,hxn⟩:=X_iff.1 hx
 refine CV_iff.2 ⟨n+1,?_⟩
 simp only [vcall,hn,hn2,unIn_in,Nat.add_sub_cancel,hf,vRunI,hxn]
 rw [if_pos (Nat.le_add_left _ _)]
 rcases he with rfl|rfl<;>exact hr
theorem CV_nat {f:FuncId} {args:List V} {blks:List (List V)} {ret:Ret} (h:VP.nat f args blks=some ret):CV VP f args blks=some ret:=
 CV_iff.2 ⟨1,by simp only [vcall,h]⟩
theorem CV_sound {P:Program} (hP:CProg P VP) (hm:Fits P=true):OrcOk2 P (CV VP):=
 fun f a b r h=>by
  obtain ⟨n,hn⟩:=CV_iff.1 h
  exact (vcall_sound hP hm n).1 f a b r hn
end
end Go.VM
namespace Go.VM
def RO (C:Orc) (os:List VOper) (st:St) (Q:St→Prop):Prop:=∃ st',vOps C os st=some st'∧Q st'
def RK (C:Orc) (d:Option Nat) (os:List VOper) (Q:St→Prop):Option (V×St)→Prop
 |some (r,st')=>RO C os (st'.put d r) Q
 |none=>False
theorem RK_some {C:Orc} {d:Option Nat} {os:List VOper} {Q:St→Prop} {r:V} {st':St}:RK C d os Q (some (r,st'))=RO C os (st'.put d r) Q:=rfl
theorem RO_nil {C:Orc} {st:St} {Q:St→Prop}:RO C [] st Q=Q st:=by simp [RO,vOps]
theorem RO_cons {C:Orc} {d:Option Nat} {vo:VOp} {os:List VOper} {st:St} {Q:St→Prop}:RO C (⟨d,vo,none⟩::os) st Q=RK C d os Q (vStep C st vo):=by
 unfold RO
 simp only [vOps,vWanted]
 cases h:vStep C st vo with
 |none=>simp [RK]
 |some p=>
  obtain ⟨r,st'⟩:=p
  simp only [RK,RO]
theorem RO_guard {C:Orc} {d:Option Nat} {vo:VOp} {t:Nat} {b:Bool} {os:List VOper} {st:St} {Q:St→Prop} {c:Bool} (h:(st.tmps.getD t .any).gd=some (some c)) :
  RO C (⟨d,vo,some (t,b)⟩::os) st Q=if c=b then RK C d os Q (vStep C st vo) else RO C os (st.put d (.tup [])) Q:=by
 unfold RO
 simp only [vOps,vWanted,h,gdW_some]
 by_cases hc:c=b
 ·subst hc
  simp only [beq_self_eq_true,if_true]
  cases hs:vStep C st vo with
  |none=>simp [RK]
  |some p=>
   obtain ⟨r,st'⟩:=p
   simp only [RK,RO]
 ·rw [if_neg hc]
  have:(c==b)=false:=by simpa using hc
  simp only [this]
def RG (C:Orc) (d:Option Nat) (vo:VOp) (os:List VOper) (st:St) (Q:St→Prop) (b:Bool):Option (Option Bool)→Prop
 |some none=>RO C os (st.put d (.tup [])) Q
 |some (some c)=>if c=b then RK C d os Q (vStep C st vo) else RO C os (st.put d (.tup [])) Q
 |none=>False
theorem RG_some {C:Orc} {d:Option Nat} {vo:VOp} {os:List VOper} {st:St} {Q:St→Prop} {b c:Bool}:RG C d vo os st Q b (some (some c))=if c=b then RK C d os Q (vStep C st vo) else RO C os (st.put d (.tup [])) Q:=rfl
theorem RO_guard' {C:Orc} {d:Option Nat} {vo:VOp} {t:Nat} {b:Bool} {os:List VOper} {st:St} {Q:St→Prop} :
  RO C (⟨d,vo,some (t,b)⟩::os) st Q=RG C d vo os st Q b (st.tmps.getD t .any).gd:=by
 cases h:(st.tmps.getD t .any).gd with
 |some o=>
  cases o with
  |some c=>exact RO_guard h
  |none=>simp only [RO,vOps,vWanted,h,gdW_un];simp [RG,RO]
 |none=>simp only [RO,vOps,vWanted,h];simp [RG,gdW]
theorem RG_un {C:Orc} {d:Option Nat} {vo:VOp} {os:List VOper} {st:St} {Q:St→Prop} {b:Bool}:RG C d vo os st Q b (some none)=RO C os (st.put d (.tup [])) Q:=rfl
def RX (VP:VProg) (c:VCode) (st:St) (Q:VExit→St→Prop):Prop:=∃ e st',X VP c st=some (e,st')∧Q e st'
def thn (VP:VProg) (b:VCode) (Q:VExit→St→Prop):VExit→St→Prop
 |.normal,st=>RX VP b st Q
 |e,st=>Q e st
def outQ (id:Nat) (Q:VExit→St→Prop) (e:VExit) (st:St):Prop:=Q (e.out id) st
section
variable {VP:VProg} {a b:VCode} {st:St} {Q:VExit→St→Prop}
theorem thn_normal:thn VP b Q .normal st=RX VP b st Q:=rfl
theorem thn_ret:thn VP b Q .ret st=Q .ret st:=rfl
theorem thn_exit {id:Nat}:thn VP b Q (.exit id) st=Q (.exit id) st:=rfl
theorem RX_seq (h:RX VP a st (thn VP b Q)):RX VP (.seq a b) st Q:=by
 obtain ⟨e,st',h1,h2⟩:=h
 cases e with
 |normal=>obtain ⟨e,st2,h3,h4⟩:=h2;exact ⟨e,st2,X_seq h1 h3,h4⟩
 |exit id=>exact ⟨_,_,X_seqE h1,h2⟩
 |ret=>exact ⟨_,_,X_seqR h1,h2⟩
theorem RX_reg {ops:List VOper} (h:RO (CV VP) ops st (Q .normal)):RX VP (.reg ops) st Q:=by
 obtain ⟨st',h1,h2⟩:=h
 exact ⟨_,_,X_reg h1,h2⟩
theorem RX_draw0 {ops:List VOper} (h:RO (CV VP) ops st (Q .normal)):RX VP (.draw ops []) st Q:=by
 obtain ⟨st',h1,h2⟩:=h
 exact ⟨_,_,X_draw h1,h2⟩
theorem RX_gfrz {k:Nat} (h:Q .normal (gfrzS st k)):RX VP (.gfrz k) st Q:=⟨_,_,X_gfrz,h⟩
theorem RX_skip (h:Q .normal st):RX VP .skip st Q:=⟨_,_,X_skip,h⟩
theorem RX_exit {id:Nat} (h:Q (.exit id) st):RX VP (.exit id) st Q:=⟨_,_,X_exit,h⟩
theorem RX_ret (h:Q .ret st):RX VP .ret st Q:=⟨_,_,X_ret,h⟩
theorem RX_cond {c:VArg} {t:Bool} (hc:(c.ev st.tmps).bool=some t) (h:RX VP (if t then a else b) st Q):RX VP (.cond c a b) st Q:=by
 obtain ⟨e,st',h1,h2⟩:=h
 exact ⟨e,st',X_cond hc h1,h2⟩
def RC (VP:VProg) (a b:VCode) (st:St) (Q:VExit→St→Prop):Option Bool→Prop
 |some t=>if t=true then RX VP a st Q else RX VP b st Q
 |none=>False
theorem RC_some {t:Bool}:RC VP a b st Q (some t)=if t=true then RX VP a st Q else RX VP b st Q:=rfl
theorem RX_cond' {c:VArg} (h:RC VP a b st Q (c.ev st.tmps).bool):RX VP (.cond c a b) st Q:=by
 cases hc:(c.ev st.tmps).bool with
 |none=>rw [hc] at h;exact h.elim
 |some t=>
  rw [hc] at h
  refine RX_cond hc ?_
  cases t with
  |true=>exact h
  |false=>exact h
theorem RX_block {id:Nat} (h:RX VP b st (outQ id Q)):RX VP (.block id b) st Q:=by
 obtain ⟨e,st',h1,h2⟩:=h
 exact ⟨_,_,X_block h1,h2⟩
end
end Go.VM
namespace Go.VM
section
variable {VP:VProg} {C:Orc}
def RT (C:Orc) (os:List VOper) (st:St) (acc:List St) (K:List St→Prop):Prop:=∃ sts,vTr C os st=some sts∧K (sts.reverse++acc)
def RTK (C:Orc) (d:Option Nat) (os:List VOper) (acc:List St) (K:List St→Prop):Option (V×St)→Prop
 |some (r,st')=>RT C os (st'.put d r) acc K
 |none=>False
theorem RTK_some {d:Option Nat} {os:List VOper} {acc:List St} {K:List St→Prop} {r:V} {st':St}:RTK C d os acc K (some (r,st'))=RT C os (st'.put d r) acc K:=rfl
theorem RT_nil {st:St} {acc:List St} {K:List St→Prop}:RT C [] st acc K=K (st::acc):=by simp [RT,vTr]
theorem RT_cons {d:Option Nat} {vo:VOp} {os:List VOper} {st:St} {acc:List St} {K:List St→Prop}:RT C (⟨d,vo,none⟩::os) st acc K=RTK C d os (st::acc) K (vStep C st vo):=by
 unfold RT
 simp only [vTr,vWanted]
 cases h:vStep C st vo with
 |none=>simp [RTK]
 |some p=>
  obtain ⟨r,st'⟩:=p
  simp only [RTK,RT]
  cases h2:vTr C os (st'.put d r) with
  |none=>simp
  |some l=>simp
theorem RT_guard {d:Option Nat} {vo:VOp} {t:Nat} {b:Bool} {os:List VOper} {st:St} {acc:List St} {K:List St→Prop} {c:Bool} (h:(st.tmps.getD t .any).gd=some (some c)) :
  RT C (⟨d,vo,some (t,b)⟩::os) st acc K=if c=b then RTK C d os (st::acc) K (vStep C st vo) else RT C os (st.put d (.tup [])) (st::acc) K:=by
 unfold RT
 simp only [vTr,vWanted,h,gdW_some]
 by_cases hc:c=b
 ·subst hc
  simp only [beq_self_eq_true,if_true]
  cases hs:vStep C st vo with
  |none=>simp [RTK]
  |some p=>
   obtain ⟨r,st'⟩:=p
   simp only [RTK,RT]
   cases h2:vTr C os (st'.put d r) with
   |none=>simp
   |some l=>simp
 ·rw [if_neg hc]
  have:(c==b)=false:=by simpa using hc
  simp only [this]
  cases h2:vTr C os (st.put d (.tup [])) with
  |none=>simp
  |some l=>simp
def RTG (C:Orc) (d:Option Nat) (vo:VOp) (os:List VOper) (st:St) (acc:List St) (K:List St→Prop) (b:Bool):Option (Option Bool)→Prop
 |some none=>RT C os (st.put d (.tup [])) (st::acc) K
 |some (some c)=>if c=b then RTK C d os (st::acc) K (vStep C st vo) else RT C os (st.put d (.tup [])) (st::acc) K
 |none=>False
theorem RTG_some {d:Option Nat} {vo:VOp} {os:List VOper} {st:St} {acc:List St} {K:List St→Prop} {b c:Bool}:RTG C d vo os st acc K b (some (some c))=if c=b then RTK C d os (st::acc) K (vStep C st vo) else RT C os (st.put d (.tup [])) (st::acc) K:=rfl
theorem RT_guard' {d:Option Nat} {vo:VOp} {t:Nat} {b:Bool} {os:List VOper} {st:St} {acc:List St} {K:List St→Prop} :
  RT C (⟨d,vo,some (t,b)⟩::os) st acc K=RTG C d vo os st acc K b (st.tmps.getD t .any).gd:=by
 cases h:(st.tmps.getD t .any).gd with
 |some o=>
  cases o with
  |some c=>exact RT_guard h
  |none=>
   simp only [RT,vTr,vWanted,h,gdW_un,RTG]
   cases h2:vTr C os (st.put d (.tup [])) with
   |none=>simp
   |some l=>simp
 |none=>simp only [RT,vTr,vWanted,h];simp [RTG,gdW]
theorem RTG_un {d:Option Nat} {vo:VOp} {os:List VOper} {st:St} {acc:List St} {K:List St→Prop} {b:Bool}:RTG C d vo os st acc K b (some none)=RT C os (st.put d (.tup [])) (st::acc) K:=rfl
def okR (ops:List VOper) (l:List St) (n k e:Nat):Prop:=
 match ops[k]? with
 |some x=>match vWanted (l.getD (n-k) default).tmps x.guard with
  |some true=>match x.op.blk (l.getD (n-k) default).tmps with
   |some id=>(l.getD (n-e) default).blocks[id]?=(l.getD (n-(e+1)) default).blocks[id]?
   |none=>True
  |_=>True
 |none=>True
def oksR (ops:List VOper) (l:List St) (n:Nat):List (Nat×Nat)→Prop
 |[]=>True
 |p::ps=>okR ops l n p.1 p.2∧oksR ops l n ps
def drawK (ops:List VOper) (chk:List (Nat×Nat)) (n:Nat) (Q:St→Prop):List St→Prop
 |st::l=>oksR ops (st::l) n chk∧Q st
 |[]=>False
theorem oksR_ok {ops:List VOper} {sts:List St} (hl:sts.length=ops.length+1):∀ {chk:List (Nat×Nat)},(∀ p∈chk,p.2<ops.length)→oksR ops sts.reverse ops.length chk→allPairs ops sts chk
 |[],_,_=>trivial
 |p::ps,hp,h=>by
  refine ⟨?_,oksR_ok hl (fun q hq=>hp q (List.mem_cons_of_mem _ hq)) h.2⟩
  have h1:=h.1
  have he:p.2<ops.length:=hp p List.mem_cons_self
  unfold okR at h1
  unfold pairOk
  cases hx:ops[p.1]? with
  |none=>trivial
  |some x=>
   simp only [hx] at h1 ⊢
   have hk:p.1<ops.length:=(List.getElem?_eq_some_iff.1 hx).1
   have g:∀ i,i≤ops.length→sts.reverse.getD (ops.length-i) default=sts.getD i default:=fun i hi=>by
    simp only [List.getD]
    rw [List.getElem?_reverse (by omega)]
    congr 2
    omega
   rw [g _ (by omega),g _ (by omega),g _ (by omega)] at h1
   intro hw
   rw [hw] at h1
   exact h1
theorem RX_draw {ops:List VOper} {p:Nat×Nat} {chk:List (Nat×Nat)} {st:St} {Q:VExit→St→Prop} (hp:(p::chk).all (fun q=>decide (q.2<ops.length))=true)
  (h:RT (CV VP) ops st [] (drawK ops (p::chk) ops.length (Q .normal))):RX VP (.draw ops (p::chk)) st Q:=by
 obtain ⟨sts,h1,h2⟩:=h
 rw [List.append_nil] at h2
 have hl:=(vTr_tr h1).1
 cases hr:sts.reverse with
 |nil=>rw [hr] at h2;exact h2.elim
 |cons s l=>
  rw [hr] at h2
  have hlast:sts.getLast?=some s:=by
   have:=List.head?_reverse (l:=sts)
   rw [hr] at this
   simpa using this.symm
  refine ⟨.normal,s,X_draw ?_,h2.2⟩
  unfold vDraw
  simp only [h1]
  rw [if_pos,hlast]
  refine oksR_ok hl (fun q hq=>by simpa using List.all_eq_true.1 hp q hq) ?_
  rw [hr];exact h2.1
def RL (VP:VProg) (keep:List Bool) (b:VCode) (k:Nat) (st:St) (Q:VExit→St→Prop):Prop:=∃ e st',XL VP keep b k st=some (e,st')∧Q e st'
def again (VP:VProg) (keep:List Bool) (b:VCode) (k:Nat) (Q:VExit→St→Prop):VExit→St→Prop
 |.normal,st=>RL VP keep b k st Q
 |e,st=>Q e st
theorem again_normal {keep:List Bool} {b:VCode} {k:Nat} {Q:VExit→St→Prop} {st:St}:again VP keep b k Q .normal st=RL VP keep b k st Q:=rfl
theorem again_ret {keep:List Bool} {b:VCode} {k:Nat} {Q:VExit→St→Prop} {st:St}:again VP keep b k Q .ret st=Q .ret st:=rfl
theorem again_exit {keep:List Bool} {b:VCode} {k id:Nat} {Q:VExit→St→Prop} {st:St}:again VP keep b k Q (.exit id) st=Q (.exit id) st:=rfl
theorem RX_loop {keep:List Bool} {b:VCode} {st:St} {Q:VExit→St→Prop} (h:RL VP keep b st.blocks.length st Q):RX VP (.loop keep b) st Q:=by
 obtain ⟨e,st',h1,h2⟩:=h
 exact ⟨e,st',X_loop h1,h2⟩
theorem RL_step {keep:List Bool} {b:VCode} {k:Nat} {st st0:St} {Q:VExit→St→Prop} (h0:st.head keep k=some st0) (h:RX VP b st0 (again VP keep b k Q)):RL VP keep b k st Q:=by
 obtain ⟨e,st1,h1,h2⟩:=h
 cases e with
 |normal=>obtain ⟨e,st',h3,h4⟩:=h2;exact ⟨e,st',XL_next h0 h1 h3,h4⟩
 |exit id=>exact ⟨_,_,XL_exit h0 h1,h2⟩
 |ret=>exact ⟨_,_,XL_ret h0 h1,h2⟩
def retQ (vf:VFunc) (n:Nat) (ret:Ret) (e:VExit) (st:St):Prop:=(e=.normal∨e=.ret)∧vRet vf n st=some ret
theorem CV_run {f:FuncId} {vf:VFunc} {args:List V} {blks:List (List V)} {ret:Ret} (hf:VP.fn f=some vf) (hn:VP.nat f args blks=none) (h:RX VP vf.body (vf.start args blks) (retQ vf blks.length ret)):CV VP f args blks=some ret:=by
 obtain ⟨e,st',h1,h2,h3⟩:=h
 exact CV_of hf hn h1 h2 h3
end
end Go.VM
namespace Go.VM
def insN (x:Nat) (l:List Nat):List Nat:=if l.contains x then l else x::l
def uniN:List Nat→List Nat→List Nat
 |[],l=>l
 |x::xs,l=>insN x (uniN xs l)
def remN (d:Option Nat) (l:List Nat):List Nat:=
 match d with
 |some d=>l.filter (fun t=>t != d)
 |none=>l
def lvOps:List VOper→List Nat→List Nat
 |[],out=>out
 |o::os,out=>uniN o.looks (remN o.dst (lvOps os out))
def lvEnv (id:Nat):List (Nat×List Nat)→List Nat
 |[]=>[]
 |(k,l)::es=>if k==id then l else lvEnv id es
def keepL (n:Nat) (l:List Nat):List Bool:=(List.range n).map fun t=>l.contains t
def lv (n:Nat) (ret:List Nat):VCode→List (Nat×List Nat)→List Nat→List Nat×VCode
 |.skip,_,out=>(out,.skip)
 |.reg ops,_,out=>(lvOps ops out,.reg ops)
 |.draw ops chk,_,out=>(lvOps ops out,.draw ops chk)
 |.seq a b,env,out=>((lv n ret a env (lv n ret b env out).1).1,.seq (lv n ret a env (lv n ret b env out).1).2 (lv n ret b env out).2)
 |.cond c a b,env,out=>(uniN c.tmp (uniN (lv n ret a env out).1 (lv n ret b env out).1),.cond c (lv n ret a env out).2 (lv n ret b env out).2)
 |.block id b,env,out=>((lv n ret b ((id,out)::env) out).1,.block id (lv n ret b ((id,out)::env) out).2)
 |.loop _ b,env,_=>((lv n ret b env []).1,.loop (keepL n (lv n ret b env []).1) (lv n ret b env (lv n ret b env []).1).2)
 |.exit id,env,_=>(lvEnv id env,.exit id)
 |.ret,_,_=>(ret,.ret)
 |.gfrz k,_,out=>(insN k out,.gfrz k)
 |.alt _ a b,env,out=>(uniN (lv n ret a env out).1 (lv n ret b env out).1,.alt (uniN ((wr a++wr b).filter fun t=>!out.contains t) []) (lv n ret a env out).2 (lv n ret b env out).2)
def VRes.slot:VRes→Nat
 |.tmp t=>t
 |.cell a _ _=>a
def VFunc.slim (vf:VFunc):VFunc:={ vf with body:=(lv vf.ntmps (vf.res.map VRes.slot) vf.body [] (vf.res.map VRes.slot)).2 }
section
variable {P:Program}
theorem lv_ok {n:Nat} {ret:List Nat} {c:Code} {vc:VCode} (h:CCode P c vc):∀ env out,CCode P c (lv n ret vc env out).2:=by
 induction h with
 |skip=>intro env out;exact .skip
 |reg h=>intro env out;exact .reg h
 |draw hA hO hc=>intro env out;exact .draw hA hO hc
 |seq ha hb iha ihb=>intro env out;exact .seq (iha _ _) (ihb _ _)
 |cond hc ha hb iha ihb=>intro env out;exact .cond hc (iha _ _) (ihb _ _)
 |block hb ih=>intro env out;exact .block (ih _ _)
 |loop hb ih=>intro env out;exact .loop (ih _ _)
 |exit=>intro env out;exact .exit
 |ret=>intro env out;exact .ret
 |ghost h ih=>intro env out;exact .ghost (ih _ _)
 |alt hpq hA hB ha hb iha ihb=>intro env out;exact .alt hpq hA hB (iha _ _) (ihb _ _)
theorem slim_ok {f:FuncId} {vf:VFunc} (h:CFunc P f vf):CFunc P f vf.slim:=by
 obtain ⟨fn,code,h1,h2,h3,h4,h5,h6⟩:=h.ex
 exact ⟨fn,code,h1,h2,h3,h4,lv_ok h5 _ _,h6⟩
def compS (P:Program) (mts:List Nat) (f:FuncId) (keep:Bool):Option VFunc:=
 match compFn P mts f keep with
 |some vf=>some vf.slim
 |none=>none
theorem compS_ok {mts:List Nat} {f:FuncId} {keep:Bool} {vf:VFunc} (h:compS P mts f keep=some vf):CFunc P f vf:=by
 unfold compS at h
 split at h
 ·rename_i v hv
  simp only [Option.some.injEq] at h;subst h
  exact slim_ok (compFn_ok hv)
 ·cases h
end
def RLK (VP:VProg) (keep:List Bool) (b:VCode) (k:Nat) (Q:VExit→St→Prop):Option St→Prop
 |some st=>RX VP b st (again VP keep b k Q)
 |none=>False
theorem RLK_some {VP:VProg} {keep:List Bool} {b:VCode} {k:Nat} {Q:VExit→St→Prop} {st:St}:RLK VP keep b k Q (some st)=RX VP b st (again VP keep b k Q):=rfl
theorem RL_head {VP:VProg} {keep:List Bool} {b:VCode} {k:Nat} {Q:VExit→St→Prop} {st:St} (h:RLK VP keep b k Q (st.head keep k)):RL VP keep b k st Q:=by
 cases h0:st.head keep k with
 |none=>rw [h0] at h;exact h.elim
 |some st0=>rw [h0] at h;exact RL_step h0 h
end Go.VM
namespace Go.VM
section
variable {P:Program} {VP:VProg}
def Gh.entry (w:World):Gh:={ F:=fun b o=>w.cell? ⟨b,o,none⟩,ι:=fun _=>none,τ:=fun _ _=>none,dep:=0,gn:=0 }
theorem Rl.entry (w:World):Rl w (Gh.entry w) (.entry []) (Gh.entry w) w where
 dep:=rfl
 dep0:=rfl
 gn:=rfl
 F0:=Fz.le_refl _
 Fnew:=fun _ _ _=>rfl
 ι0:=fun _ _=>rfl
 τ0:=fun _ _ _=>rfl
 wx:=Wx.refl _ _
 base:=Nat.le_refl _
 fz:=fun _ _ _ h=>h
 inj:=fun i j b _ _ h=>by cases h
 lt:=fun i b h=>by cases h
 sep:=fun i b o _ h=>by cases h
 ddb:=fun i h=>by cases h
 dd0:=fun i _ h=>h
 ζ0:=fun _ _=>rfl
 zok:=fun i b h=>by cases h
 old:=fun i b _ h=>by cases h
 new:=fun i b _ h=>by cases h
 blk:=fun id cs h=>by simp [St.entry] at h
 tok:=fun g h=>by cases h
 tinj:=fun g g' h=>by cases h
theorem law_true (hP:CProg P VP) (hm:Fits P=true) {f:FuncId} (hlt:f<1000000) {args:List V} {xs:Array Value} {w:World} (hargs:RelL (Gh.entry w) args xs)
  (h:CV VP f args []=some ⟨.d (.lit (.bool true)),[],[],0⟩):Calls P f xs w fun e w'=>e=.returned (.bool true)∧RowKit.Below w.heap.size w w':=by
 refine ((CV_sound hP hm f args [] _ h).1 hlt (Gh.entry w) w xs hargs (Rl.entry w)).mono fun e w' hr=>?_
 obtain ⟨v,G',rfl,hv,hR⟩:=hr
 refine ⟨?_,hR.wx.os,hR.wx.tape,hR.wx.output,hR.wx.size,fun k hk=>hR.wx.block k hk (by rintro ⟨i,hi,_⟩;exact Nat.not_lt_zero _ hi)⟩
 cases hv with
 |d h=>cases h;rfl
abbrev I (n:Int):D:=.lit (.int .i64 n)
abbrev B (b:Bool):D:=.lit (.bool b)
abbrev w (n:Int):Int:=IntKind.wrap .i64 n
theorem erL_d (l:List D):V.erL (l.map V.d)=l.map V.d:=by
 rw [V.erL_eq,List.map_map];rfl
theorem ltbL_d (n:Nat) (l:List D):V.ltbL n (l.map V.d)=true:=by
 induction l with
 |nil=>rfl
 |cons x l ih=>rw [List.map_cons,V.ltbL,ih];rfl
theorem w_in {x:Int} (h:-9223372036854775808≤x) (h2:x≤9223372036854775807):IntKind.i64.wrap x=x:=IntWalk.i64_in _ ⟨h,h2⟩
theorem w_nat {i:Nat} (h:i<1099511627776):IntKind.i64.wrap ((i:Int)+1)=((i+1:Nat):Int):=by
 rw [IntWalk.i64_in _ (by omega)];omega
def byteRow (z:Int):List D:=[.lit (.int .u8 z)]
def byteD (zs:List Int):D:=.sl (zs.map byteRow)
theorem int_rel {G:Gh} (k:IntKind) (n:Int):RelV G (.d (.lit (.int k n))) (.int k n):=.d (.lit _ rfl)
theorem bool_rel {G:Gh} (b:Bool):RelV G (.d (.lit (.bool b))) (.bool b):=.d (.lit _ rfl)
theorem str_rel {G:Gh} (s:ByteArray):RelV G (.d (.lit (.string s))) (.string s):=.d (.lit _ rfl)
theorem RelL.nil {G:Gh}:RelL G [] #[]:=⟨rfl,by simp⟩
theorem RelL.of {G:Gh} {vs:List V} {xs:List Value} (hl:xs.length=vs.length) (h:∀ (j:Nat) v x,vs[j]?=some v→xs[j]?=some x→RelV G v x):RelL G vs xs.toArray:=
 ⟨by simpa using hl,fun j v x hv hx=>h j v x hv (by simpa using hx)⟩
def noNat:Orc:=fun _ _ _=>none
end
end Go.VM
namespace Go.VM
theorem vLen_nil:vLen .nil=some (lit (.int .i64 0)):=rfl
theorem vLen_d {es:List (List D)}:vLen (.d (.sl es))=some (lit (.int .i64 es.length)):=rfl
theorem vLen_sl {sz:Nat} {es:List (List D)} {t:Tag}:vLen (.sl sz es t)=some (lit (.int .i64 es.length)):=rfl
theorem vLen_loc {id off len sz:Nat}:vLen (.loc id off len sz)=some (lit (.int .i64 len)):=rfl
theorem vLen_psl {vs:List V}:vLen (.psl vs)=some (lit (.int .i64 vs.length)):=rfl
def rowAt (sz:Nat) (es:List (List D)):Option Nat→Option V
 |some k=>rowOf sz es[k]?
 |none=>none
where rowOf (sz:Nat):Option (List D)→Option V
 |some row=>if row.length=sz then some (.ep row) else none
 |none=>none
theorem rowAt_some {sz k:Nat} {es:List (List D)}:rowAt sz es (some k)=rowAt.rowOf sz es[k]?:=rfl
theorem rowOf_some {sz:Nat} {row:List D}:rowAt.rowOf sz (some row)=if row.length=sz then some (.ep row) else none:=rfl
theorem vIdxA_d {sz:Nat} {es:List (List D)} {i:V}:vIdxA sz (.d (.sl es)) i=rowAt sz es (vIdx es.length i):=by
 simp only [vIdxA]
 generalize vIdx es.length i=o
 cases o with
 |none=>rfl
 |some k=>
  simp only [rowAt]
  generalize es[k]?=r
  cases r<;>rfl
theorem vIdxA_sl {sz s:Nat} {es:List (List D)} {t:Tag} {i:V}:vIdxA sz (.sl s es t) i=match vIdx es.length i with
  |some k=>match es[k]? with
   |some row=>if s=sz then some (.ep row) else none
   |none=>none
  |none=>none:=rfl
theorem vIdxA_loc {id off len s sz:Nat} {i:V}:vIdxA sz (.loc id off len s) i=if s=sz then (vIdx len i).map fun k=>.ptr id (off+k*sz) else none:=rfl
theorem vIdxA_psl {vs:List V} {sz:Nat} {i:V}:vIdxA sz (.psl vs) i=match vIdx vs.length i with
  |some k=>if sz=1 then (vs[k]?).map .epv else none
  |none=>none:=rfl
theorem vAppDst_nil {st:St} {sz:Nat}:vAppDst st sz .nil=some ([],st.live):=rfl
theorem vAppDst_full {st:St} {sz s:Nat} {es:List (List D)}:vAppDst st sz (.sl s es .full)=if s=sz then some (es,st.live) else none:=rfl
theorem vAppDst_own {st:St} {sz s d g:Nat} {es:List (List D)}:vAppDst st sz (.sl s es (.own d g))=if s=sz∧d=st.dep∧st.live.contains g then some (es,st.live.filter (fun k=>k != g)) else none:=rfl
theorem vRows_nil:vRows .nil=some []:=rfl
theorem vRows_d {es:List (List D)}:vRows (.d (.sl es))=some es:=rfl
theorem vRows_sl {sz:Nat} {es:List (List D)} {t:Tag}:vRows (.sl sz es t)=some es:=rfl
theorem vIdx_int {n:Nat} {k:IntKind} {z:Int}:vIdx n (.d (.lit (.int k z)))=if 0≤z∧z<(n:Int) then some z.toNat else none:=rfl
end Go.VM
namespace Go.VM
def Cd (l:List Int) (at':Int):List V:=[.d (.sl (l.map byteRow)),.d (I at')]
theorem Cd_erL {l:List Int} {a:Int}:V.erL (Cd l a)=Cd l a:=rfl
theorem Cd_ltb {l:List Int} {a:Int} {n:Nat}:V.ltbL n (Cd l a)=true:=rfl
structure CtxOk (bl:List (List V)) (id:Nat):Prop where
 lt:id<bl.length
 er:bl.map V.erL=bl
 ltb:∀ b∈bl,V.ltbL bl.length b=true
mutual
theorem V.ltb_mono {n m:Nat} (h:n≤m):∀ {v:V},v.ltb n=true→v.ltb m=true
 |.any,_|.nil,_|.d _,_|.sl _ _ _,_|.ep _,_=>rfl
 |.loc id _ _ _,hv=>by simp only [V.ltb,decide_eq_true_eq] at hv ⊢;omega
 |.ptr id _,hv=>by simp only [V.ltb,decide_eq_true_eq] at hv ⊢;omega
 |.epv v,hv=>by simp only [V.ltb] at hv ⊢;exact V.ltb_mono h hv
 |.psl vs,hv=>by simp only [V.ltb] at hv ⊢;exact V.ltbL_mono h hv
 |.agg vs,hv=>by simp only [V.ltb] at hv ⊢;exact V.ltbL_mono h hv
 |.tup vs,hv=>by simp only [V.ltb] at hv ⊢;exact V.ltbL_mono h hv
 |.fn _ vs,hv=>by simp only [V.ltb] at hv ⊢;exact V.ltbL_mono h hv
theorem V.ltbL_mono {n m:Nat} (h:n≤m):∀ {vs:List V},V.ltbL n vs=true→V.ltbL m vs=true
 |[],_=>rfl
 |v::vs,hv=>by
  simp only [V.ltbL,Bool.and_eq_true] at hv ⊢
  exact ⟨V.ltb_mono h hv.1,V.ltbL_mono h hv.2⟩
end
def cx (bl:List (List V)) (id:Nat) (l:List Int) (a:Int) (own:List (List V)):List (List V):=bl.set id (Cd l a)++own
section
variable {bl:List (List V)} {id:Nat} {l:List Int} {a:Int} {own:List (List V)}
theorem cx_len:(cx bl id l a own).length=bl.length+own.length:=by simp [cx]
theorem cx_app {xs:List (List V)}:cx bl id l a own++xs=cx bl id l a (own++xs):=by simp [cx]
theorem cx_get (h:CtxOk bl id):(cx bl id l a own)[id]?=some (Cd l a):=by
 rw [cx,List.getElem?_append_left (by simpa using h.lt),List.getElem?_set_self h.lt]
theorem cx_own {k:Nat}:(cx bl id l a own)[bl.length+k]?=own[k]?:=by
 rw [cx,List.getElem?_append_right (by simp),List.length_set,Nat.add_sub_cancel_left]
theorem cx_own0:(cx bl id l a own)[bl.length]?=own[0]?:=cx_own (k:=0)
theorem cx_setId {x:Int} (h:CtxOk bl id):(cx bl id l a own).set id (Cd l x)=cx bl id l x own:=by
 rw [cx,List.set_append_left _ _ (by simpa using h.lt),List.set_set];rfl
theorem cx_setOwn {k:Nat} {b:List V}:(cx bl id l a own).set (bl.length+k) b=cx bl id l a (own.set k b):=by
 rw [cx,List.set_append_right _ _ (by simp),List.length_set,Nat.add_sub_cancel_left];rfl
theorem cx_setOwn0 {b:List V}:(cx bl id l a own).set bl.length b=cx bl id l a (own.set 0 b):=cx_setOwn (k:=0)
theorem cx_er (h:CtxOk bl id):(cx bl id l a own).map V.erL=cx bl id l a (own.map V.erL):=by
 rw [cx,List.map_append,List.map_set,h.er,Cd_erL];rfl
theorem cx_take:(cx bl id l a own).take bl.length=cx bl id l a []:=by
 rw [cx,List.take_append_of_le_length (by simp),List.take_of_length_le (by simp)];simp [cx]
theorem cx_takeN {k:Nat}:(cx bl id l a own).take (bl.length+k)=cx bl id l a (own.take k):=by
 rw [cx,List.take_append,List.take_of_length_le (by simp)];simp [cx]
theorem cx_all {n:Nat} (h:CtxOk bl id):(cx bl id l a own).all (V.ltbL (bl.length+n))=own.all (V.ltbL (bl.length+n)):=by
 rw [cx,List.all_append]
 have:(bl.set id (Cd l a)).all (V.ltbL (bl.length+n))=true:=by
  rw [List.all_eq_true]
  intro b hb
  rcases List.mem_or_eq_of_mem_set hb with hb|rfl
  ·exact V.ltbL_mono (Nat.le_add_right _ _) (h.ltb b hb)
  ·exact Cd_ltb
 rw [this,Bool.true_and]
theorem cx_all0 (h:CtxOk bl id):(cx bl id l a own).all (V.ltbL bl.length)=own.all (V.ltbL bl.length):=cx_all (n:=0) h
theorem cx_nil (h:bl[id]?=some (Cd l a)):bl=cx bl id l a []:=by
 obtain ⟨h1,h2⟩:=List.getElem?_eq_some_iff.1 h
 rw [cx,List.append_nil,← h2,List.set_getElem_self]
theorem CtxOk.ne0 {bl:List (List V)} {id:Nat} (h:CtxOk bl id):(bl.length=0)=False:=eq_false (by have:=h.lt;omega)
theorem CtxOk.base:CtxOk [[]] 0:=⟨by simp,rfl,by simp [V.ltbL]⟩
theorem CtxOk.cx (h:CtxOk bl id) (he:own.map V.erL=own) (hl:own.all (V.ltbL (bl.length+own.length))=true):CtxOk (cx bl id l a own) id where
 lt:=by rw [cx_len];have:=h.lt;omega
 er:=by rw [cx_er h,he]
 ltb:=by
  intro b hb
  rw [cx_len]
  have:=cx_all (l:=l) (a:=a) (own:=own) (n:=own.length) h
  rw [hl] at this
  exact List.all_eq_true.1 this b hb
theorem cx_cx {m:List Int} {x:Int} {own2:List (List V)} (h:CtxOk bl id):VM.cx (VM.cx bl id l a own) id m x own2=VM.cx bl id m x (own++own2):=by
 unfold VM.cx
 rw [List.set_append_left _ _ (by simpa using h.lt),List.set_set,List.append_assoc]
end
end Go.VM
namespace Go.VM
section
variable {bl:List (List V)} {id:Nat} {l:List Int} {a:Int} {own:List (List V)}
theorem cx_get' (h:CtxOk bl id):(cx bl id l a own)[id]?=some [.d (.sl (l.map byteRow)),.d (.lit (.int .i64 a))]:=cx_get h
theorem cx_setId' {x:Int} (h:CtxOk bl id):(cx bl id l a own).set id [.d (.sl (l.map byteRow)),.d (.lit (.int .i64 x))]=cx bl id l x own:=cx_setId h
theorem cx_lift {VP:VProg} {f:FuncId} {args:List V} {r:V} {x:Int} (H:∀ bl,CtxOk bl id→CV VP f args (cx bl id l a [])=some ⟨r,cx bl id l x [],[],0⟩) (h:CtxOk bl id) (he:own.map V.erL=own) (hl:own.all (V.ltbL (bl.length+own.length))=true) :
  CV VP f args (cx bl id l a own)=some ⟨r,cx bl id l x own,[],0⟩:=by
 have h1:=H _ (h.cx (l:=l) (a:=a) he hl)
 rw [cx_cx h,cx_cx h,List.append_nil] at h1
 exact h1
end
def nxV (l:List Int) (k:Nat) (n:Int):Int:=if h:k<l.length then l[k]*n / 256 else 0
def nxA (l:List Int) (k:Nat):Nat:=if k<l.length then k+1 else k
structure Bytes (l:List Int):Prop where
 mem:∀ z∈l,0≤z∧z≤255
 len:l.length<1099511627776
theorem nxV_range {l:List Int} (h:Bytes l) {k:Nat} {n:Int} (hn:0<n):0≤nxV l k n∧nxV l k n<n:=by
 unfold nxV
 split
 ·rename_i hk
  have hz:=h.mem _ (List.getElem_mem hk)
  constructor
  ·exact Int.ediv_nonneg (Int.mul_nonneg hz.1 (by omega)) (by decide)
  ·rw [Int.ediv_lt_iff_lt_mul (by decide),Int.mul_comm]
   exact Int.mul_lt_mul_of_pos_left (by omega) hn
 ·omega
end Go.VM
namespace Go.VM
theorem nc0:((0:Nat):Int)=0:=rfl
theorem nc1:((1:Nat):Int)=1:=rfl
theorem nc2:((2:Nat):Int)=2:=rfl
theorem nc3:((3:Nat):Int)=3:=rfl
theorem nc4:((4:Nat):Int)=4:=rfl
theorem nc5:((5:Nat):Int)=5:=rfl
theorem nc6:((6:Nat):Int)=6:=rfl
theorem nc7:((7:Nat):Int)=7:=rfl
theorem nc8:((8:Nat):Int)=8:=rfl
theorem nc9:((9:Nat):Int)=9:=rfl
theorem nc10:((10:Nat):Int)=10:=rfl
theorem nc11:((11:Nat):Int)=11:=rfl
theorem nc12:((12:Nat):Int)=12:=rfl
theorem nc13:((13:Nat):Int)=13:=rfl
theorem nc14:((14:Nat):Int)=14:=rfl
theorem nc15:((15:Nat):Int)=15:=rfl
theorem nc16:((16:Nat):Int)=16:=rfl
theorem nc17:((17:Nat):Int)=17:=rfl
theorem nc18:((18:Nat):Int)=18:=rfl
theorem nc19:((19:Nat):Int)=19:=rfl
theorem nc20:((20:Nat):Int)=20:=rfl
theorem nc21:((21:Nat):Int)=21:=rfl
theorem nc22:((22:Nat):Int)=22:=rfl
theorem nc23:((23:Nat):Int)=23:=rfl
theorem nc24:((24:Nat):Int)=24:=rfl
theorem nc25:((25:Nat):Int)=25:=rfl
theorem nc26:((26:Nat):Int)=26:=rfl
theorem nc27:((27:Nat):Int)=27:=rfl
theorem nc28:((28:Nat):Int)=28:=rfl
theorem nc29:((29:Nat):Int)=29:=rfl
theorem nc30:((30:Nat):Int)=30:=rfl
theorem nc31:((31:Nat):Int)=31:=rfl
theorem nc32:((32:Nat):Int)=32:=rfl
end Go.VM
namespace Go.VM
theorem cx_nlt {a b:Nat}:(a+b<a)=False:=by simp
end Go.VM
namespace Go.VM
section
variable {P:Program}
theorem vOps_app {C:Orc}:∀ {a b:List VOper} {st st':St},vOps C (a++b) st=some st'→∃ s,vOps C a st=some s∧vOps C b s=some st'
 |[],b,st,st',h=>⟨st,rfl,h⟩
 |o::a,b,st,st',h=>by
  cases hw:vWanted st.tmps o.guard with
  |none=>simp only [List.cons_append,vOps,hw] at h;cases h
  |some t=>
   cases t with
   |true=>
    cases hs:vStep C st o.op with
    |none=>simp only [List.cons_append,vOps,hw,hs] at h;cases h
    |some p=>
     simp only [List.cons_append,vOps,hw,hs] at h ⊢
     exact vOps_app h
   |false=>
    simp only [List.cons_append,vOps,hw] at h ⊢
    exact vOps_app h
theorem CV_fn {VP:VProg} (hP:CProg P VP) (hm:Fits P=true):OrcFn2 P (CV VP):=
 ⟨(fits_of hm).2,fun f a b r h=>by
  obtain ⟨n,hn⟩:=CV_iff.1 h
  exact (vcall_sound hP hm n).2.2 f a b r hn⟩
variable {w0:World} {G0:Gh}
theorem nil_reg {C:Orc} (hC:OrcOk2 P C) (hFn:OrcFn2 P C) (hd0:G0.dep=0) {ops:Array Oper} {Q:Exit→Act→World→Prop} {d:Nat} {y:VArg} {os:List VOper} :
  ∀ {pre:List VOper} {l:List Oper},COpers P ops l (pre++⟨some d,.nilEq false y,none⟩::os)→∀ {st s1:St} {st':Bool→St} {G:Gh} {w:World} {a:Act},
   vOps C pre st=some s1→(∀ b,vOps C os (s1.put (some d) (lit (.bool b)))=some (st' b))→(∀ (G:Gh) (x:Value),RelV G (y.ev s1.tmps) x→∃ a len cap,x=.slice a len cap) →
   Rl w0 G0 st G w→RelT G st.tmps a.tmps→a.defers=[] →
   (∀ b a' G' w',RelT G' (st' b).tmps a'.tmps→a'.defers=[]→Rl w0 G0 (st' b) G' w'→Q .normal a' w')→wpList P ops Q l a w:=by
 intro pre
 induction pre with
 |nil=>
  intro l hl st s1 st' G w a h0 hT hx hR ht hdf hQ
  simp [vOps] at h0;subst h0
  cases hl with
  |@cons o _ os2 vos ho hs=>
  unfold wpList
  have hgu:vWanted st.tmps none=some true:=rfl
  rw [wanted_rel ht ho.guard hgu,if_pos rfl]
  have hop:=ho.op
  have hdst:=ho.dst
  obtain ⟨b,hrun⟩:∃ b,(execOp a.eval o).run P w=.ok (.value (.bool b)) w:=by
   generalize hoo:o.op=op at hop
   cases hop with
   |eff h=>cases h
   |pure h=>
    cases h with
    |@nilEq _ op t e t' x vx hx' hu hop'=>
     obtain ⟨a0,len,cap,hxe⟩:=hx G _ (hx'.rel ht)
     refine ⟨a0.isNone,?_⟩
     subst hop'
     simp only [execOp,hoo]
     rw [Sem.run_bind,hxe]
     have hev:a.eval (.const (.slice none 0 0))=.slice none 0 0:=rfl
     rw [hev]
     have h1:(binOp .eql t (.slice a0 len cap) (.slice none 0 0)).run P w=.ok (.bool a0.isNone) w:=by
      simp only [binOp]
      simp [run_equal_slice_nil (P:=P) w t e a0 len cap hu]
     have h3:∀ op y,(eqGuard op t x y (.slice a0 len cap) (.slice none 0 0)).run P w=.ok () w:=fun op y=>by
      cases op<;>simp [eqGuard]
     simp [Sem.run_bind,h1,h3]
  refine .inl ?_
  unfold Oper.wp
  rw [hrun,Oper.upon_value]
  refine vOps_sound hC hFn hd0 hs (hT b) (hR.put _ _) ?_ ?_ (fun a' G' w' h1 h2 h3 _ _=>hQ b a' G' w' h1 h2 h3)
  ·rw [hdst];exact RelT.put ht _ (.d (.lit _ rfl))
  ·cases o.dst<;>exact hdf
 |cons vo pre ih=>
  intro l hl st s1 st' G w a h0 hT hx hR ht hdf hQ
  cases hl with
  |@cons o _ os2 vos ho hs=>
  simp only [vOps] at h0
  unfold wpList
  split at h0
  ·rename_i hw
   split at h0
   case h_2=>cases h0
   rename_i r st1 hst
   rw [wanted_rel ht ho.guard hw,if_pos rfl]
   refine .inl (step_sound hC hFn hR (hR.dep0.symm.trans hd0) ht ho.op hst ?_)
   intro x G' w' hv hR' hle _
   have htm:=(vStep_base hst).2.2.1
   refine ih hs h0 hT hx (hR'.put _ _) ?_ ?_ hQ
   ·rw [ho.dst]
    exact RelT.put (st:=st1) (by rw [htm];exact ht.mono hle) _ hv
   ·cases o.dst<;>exact hdf
  ·rename_i hw
   rw [wanted_rel ht ho.guard hw,if_neg (by simp)]
   refine ih hs h0 hT hx (hR.put _ _) ?_ ?_ hQ
   ·rw [ho.dst];exact RelT.put ht _ (rel_undef _)
   ·cases o.dst<;>exact hdf
  ·cases h0
theorem nil_natW {VP:VProg} (hP:CProg P VP) (hm:Fits P=true) {f:FuncId} {vf:VFunc} (hf:CFunc P f vf) {d:Nat} {y:VArg} {p0 pre os:List VOper} {c rest:VCode}
  (hb:vf.body=.seq (.reg p0) (.seq (.seq (.reg (pre++⟨some d,.nilEq false y,none⟩::os)) c) rest)) {args:List V} {blks:List (List V)} {ret:Ret} (retb:Bool→Ret) (hrb:∀ b,(retb b).blocks=ret.blocks∧(retb b).live=ret.live∧(retb b).gn=ret.gn)
  (hrw:∀ b G v,RelV G (retb b).r v→RelV G ret.r v) {s1:St} {st':Bool→St}
  (h1:vOps (CV VP) (p0++pre) (vf.start args blks)=some s1) (h2:∀ b,vOps (CV VP) os (s1.put (some d) (lit (.bool b)))=some (st' b))
  (hT:∀ b:Bool,RX VP (.seq c rest) (st' b) (retQ vf blks.length (retb b)))
  (hx:∀ (G:Gh) (x:Value),RelV G (y.ev s1.tmps) x→∃ a len cap,x=.slice a len cap) :
  VC P f args blks ret:=by
 intro G w xs hargs hR
 obtain ⟨fn,code,hfn,hbody,hname,hnt,hcode,hres⟩:=hf.ex
 have hd0:G.dep=0:=hR.dep
 refine calls_of_wp hfn hbody ?_
 rw [hb] at hcode
 obtain ⟨s0,h01,h02⟩:=vOps_app h1
 have hbase1:s1.base=blks.length:=vOps_base h1
 cases hcode with
 |@seq ca cb va vb ha hbb=>
 cases ha with
 |@reg id0 ops0 vops0 hops0=>
 cases hbb with
 |@seq cc cd vc vd hcc hrest=>
 cases hcc with
 |@seq ce cf ve vg hce hcond=>
 cases hce with
 |@reg id ops vops hops=>
 have ht:RelT G (vf.start args blks).tmps (xs++Array.replicate (fn.ntmps-xs.size) undef):=by
  refine ⟨by simp [VFunc.start,hargs.1,hnt],fun t v x h1 h2=>?_⟩
  simp only [VFunc.start] at h1
  rw [List.getElem?_append] at h1
  rw [Array.getElem?_append,hargs.1] at h2
  split at h1
  ·rename_i hlt;rw [if_pos hlt] at h2
   exact hargs.2 t v x h1 h2
  ·have:=List.mem_of_getElem? h1
   rw [List.mem_replicate] at this
   rw [this.2];exact .any _
 have hR0:Rl w G (vf.start args blks) G w:=hR.tmps (args++List.replicate (vf.ntmps-args.length) .any)
 obtain ⟨hC,hFn⟩:=And.intro (CV_sound hP hm) (CV_fn hP hm)
 refine wp_seq (wp_region_list (vOps_sound hC hFn hd0 hops0 h01 hR0 ht rfl fun a1 G1 w1 t1 d1 R1 _ _=>?_))
 refine wp_seq (wp_seq (wp_region_list (nil_reg hC hFn hd0 hops h02 h2 hx R1 t1 d1 fun b a2 G2 w2 t2 d2 R2=>?_)))
 obtain ⟨e,st,hX,hQ⟩:=hT b
 obtain ⟨n,hn⟩:=X_iff.1 hX
 have hbase:st.base=blks.length:=by
  rw [(vx_base n).1 _ _ _ _ hn]
  rw [vOps_base (h2 b)]
  exact hbase1
 have hpost:∀ sS Gs ws e' a' w',Pst 0 sS Gs ws w G e st e' a' w'→bodyPost P fn (fun e w'=>∃ v G',e=.returned v∧RelV G' ret.r v∧Rl w G (ret.st blks.length) G' w') e' a' w':=by
  have he:=hQ.1
  have hret:=hQ.2
  rintro sS Gs ws e' a' w' ⟨rfl,G',hR',ht',hdf',_⟩
  obtain ⟨v,G'',h1,h2,h3⟩:=vRet_sound hres hret hR' ht' hbase hd0
  replace h2:=hrw b _ _ h2
  have hst:(retb b).st blks.length=ret.st blks.length:=by simp only [Ret.st,(hrb b).1,(hrb b).2.1,(hrb b).2.2]
  rw [hst] at h3
  rcases he with rfl|rfl
  ·exact ⟨hdf',v,h1,v,G'',rfl,h2,h3⟩
  ·exact ⟨hdf',v,h1,v,G'',rfl,h2,h3⟩
 cases n with
 |zero=>simp [vx] at hn
 |succ n=>
 obtain ⟨hC',hFn'⟩:=vcall_sound hP hm (n+1)
 simp only [vx] at hn
 split at hn
 ·rename_i s hs'
  refine wp_mono ((vx_sound (w0:=w) (G0:=G) hC' hFn' hd0 (fits_of hm).1 (L:=0) n).1 _ _ _ _ _ hs' hcond (Nat.zero_le _) G2 a2 w2 R2 t2 d2) ?_
  rintro e' a' w' ⟨rfl,G',h1,h2,h3,_⟩
  exact wp_mono ((vx_sound (w0:=w) (G0:=G) hC' hFn' hd0 (fits_of hm).1 (L:=0) n).1 _ _ _ _ _ hn hrest (Nat.zero_le _) G' a' w' h1 h2 h3) (hpost _ _ _)
 ·rename_i hne
  refine wp_mono ((vx_sound (w0:=w) (G0:=G) hC' hFn' hd0 (fits_of hm).1 (L:=0) n).1 _ _ _ _ _ hn hcond (Nat.zero_le _) G2 a2 w2 R2 t2 d2) ?_
  rintro e' a' w' ⟨rfl,G',h1,h2,h3,h4⟩
  cases e with
  |normal=>exact absurd hn (hne _)
  |exit id=>exact hpost _ _ _ _ _ _ ⟨rfl,G',h1,h2,h3,h4⟩
  |ret=>exact hpost _ _ _ _ _ _ ⟨rfl,G',h1,h2,h3,h4⟩
theorem nil_nat {VP:VProg} (hP:CProg P VP) (hm:Fits P=true) {f:FuncId} {vf:VFunc} (hf:CFunc P f vf) {d:Nat} {y:VArg} {p0 pre os:List VOper} {c rest:VCode}
  (hb:vf.body=.seq (.reg p0) (.seq (.seq (.reg (pre++⟨some d,.nilEq false y,none⟩::os)) c) rest)) {args:List V} {blks:List (List V)} {ret:Ret} {s1:St} {st':Bool→St}
  (h1:vOps (CV VP) (p0++pre) (vf.start args blks)=some s1) (h2:∀ b,vOps (CV VP) os (s1.put (some d) (lit (.bool b)))=some (st' b))
  (hT:∀ b:Bool,RX VP (.seq c rest) (st' b) (retQ vf blks.length ret))
  (hx:∀ (G:Gh) (x:Value),RelV G (y.ev s1.tmps) x→∃ a len cap,x=.slice a len cap) :
  VC P f args blks ret:=nil_natW hP hm hf hb (fun _=>ret) (fun _=>⟨rfl,rfl,rfl⟩) (fun _ _ _ h=>h) h1 h2 hT hx
end
end Go.VM
namespace Go.VM
section
variable {P:Program}
def natMem (f:Nat):List Nat→Bool
 |[]=>false
 |x::l=>Nat.beq f x||natMem f l
theorem natMem_iff {f:Nat}:∀ {l:List Nat},natMem f l=true→f∈l
 |x::l,h=>by
  simp only [natMem,Bool.or_eq_true] at h
  rcases h with h|h
  ·rw [Nat.eq_of_beq_eq_true h];exact List.mem_cons_self
  ·exact List.mem_cons_of_mem _ (natMem_iff h)
def cloneNat1:List V→List (List V)→Option Ret
 |[.d (.sl [])],[]=>some ⟨.d (.sl []),[],[],0⟩
 |_,_=>none
def cloneNat (l:List Nat):Orc:=fun f args blks=>match natMem f l with
 |false=>none
 |true=>cloneNat1 args blks
theorem cloneNat1_some {args:List V} {blks:List (List V)} {r:Ret} (h:cloneNat1 args blks=some r):args=[.d (.sl [])]∧blks=[]∧r=⟨.d (.sl []),[],[],0⟩:=by
 unfold cloneNat1 at h
 split at h
 ·simp only [Option.some.injEq] at h;exact ⟨rfl,rfl,h.symm⟩
 ·cases h
theorem slice_of {G:Gh} {x:Value} {es:List (List D)} (h:RelV G (.d (.sl es)) x):∃ a len cap,x=.slice a len cap:=by
 cases h with
 |d h=>cases h;exact ⟨_,_,_,rfl⟩
end
end Go.VM
namespace Go.VM
theorem RL_ind {VP:VProg} {keep:List Bool} {b:VCode} {k:Nat} {Q:VExit→St→Prop} (Inv:Nat→St→Prop)
  (hstep:∀ m st,Inv m st→(∀ m' st',m'<m→Inv m' st'→RL VP keep b k st' Q)→RL VP keep b k st Q):∀ m st,Inv m st→RL VP keep b k st Q:=by
 intro m
 induction m using Nat.strongRecOn with
 |_ m ih=>exact fun st h=>hstep m st h fun m' st' hm h'=>ih m' hm st' h'
theorem RX_loopN {VP:VProg} {keep:List Bool} {b:VCode} {n:Nat} {Q:VExit→St→Prop} {st:St} (hn:st.blocks.length=n) (h:RL VP keep b n st Q):RX VP (.loop keep b) st Q:=by
 subst hn;exact RX_loop h
structure At (keep:List Bool) (n:Nat) (st:St) (T:List V) (bl:List (List V)) (live:List Nat) (gn ba:Nat):Prop where
 tmps:forget keep st.tmps=T
 blocks:st.blocks.take n=bl
 live:st.live=live
 gn:st.gn=gn
 base:st.base=ba
 dep:st.dep=0
theorem RL_at {VP:VProg} {keep:List Bool} {b:VCode} {k:Nat} {Q:VExit→St→Prop} {st:St} {T:List V} {bl:List (List V)} {live:List Nat} {gn ba:Nat} (h:At keep k st T bl live gn ba)
  (hT:V.ltbL k T=true) (hb:bl.all (V.ltbL k)=true) (hx:RX VP b ⟨T,bl,live,gn,ba,0⟩ (again VP keep b k Q)):RL VP keep b k st Q:=by
 obtain ⟨ts,bs,lv,g,ba',de⟩:=st
 obtain ⟨h1,h2,h3,h4,h5,h6⟩:=h
 simp only at h1 h2 h3 h4 h5 h6
 subst h3 h4 h5 h6
 refine RL_head ?_
 simp only [St.head,h1,h2,hT,hb,Bool.and_self,if_true,RLK_some]
 exact hx
theorem RL_atN {VP:VProg} {keep:List Bool} {b:VCode} {k:Nat} {Q:VExit→St→Prop} {st:St} {T:List V} (h:forget keep st.tmps=T)
  (hT:V.ltbL k T=false) (hx:RX VP b { st with tmps:=T } (again VP keep b k Q)):RL VP keep b k st Q:=by
 refine RL_head ?_
 simp only [St.head,h,hT,Bool.false_and,Bool.false_eq_true,if_false,RLK_some]
 exact hx
def drL {α:Type} (f:Nat→α×Nat):Nat→Nat→List α×Nat
 |0,k=>([],k)
 |n+1,k=>((f k).1::(drL f n (f k).2).1,(drL f n (f k).2).2)
theorem drL_len {α:Type} (f:Nat→α×Nat):∀ n k,(drL f n k).1.length=n
 |0,_=>rfl
 |n+1,k=>by simp [drL,drL_len f n]
end Go.VM
namespace Go.VM
def ByteL (l:List Int):Prop:=∀ z∈l,0≤z∧z≤255
theorem bytes_take {l:List Int} (h:ByteL l) (n:Nat) (hn:n<1000):Bytes (l.take n):=
 ⟨fun z hz=>h z (List.mem_of_mem_take hz),by rw [List.length_take];omega⟩
end Go.VM
namespace Go.VM
def Value.beqC:Value→Value→Bool
 |.int k a,.int k' b=>decide (k=k')&&decide (a=b)
 |.bool a,.bool b=>decide (a=b)
 |.string a,.string b=>decide (a=b)
 |.pointer none,.pointer none=>true
 |.slice none 0 0,.slice none 0 0=>true
 |_,_=>false
theorem Value.beqC_eq {a b:Value} (h:Value.beqC a b=true):a=b:=by
 unfold Value.beqC at h
 split at h
 ·simp only [Bool.and_eq_true,decide_eq_true_eq] at h;rw [h.1,h.2]
 ·simp only [decide_eq_true_eq] at h;rw [h]
 ·simp only [decide_eq_true_eq] at h;rw [h]
 ·rfl
 ·rfl
 ·cases h
mutual
def D.beqC:D→D→Bool
 |.lit a,.lit b=>Value.beqC a b
 |.sl a,.sl b=>D.beqLL a b
 |_,_=>false
def D.beqL:List D→List D→Bool
 |[],[]=>true
 |a::as,b::bs=>D.beqC a b&&D.beqL as bs
 |_,_=>false
def D.beqLL:List (List D)→List (List D)→Bool
 |[],[]=>true
 |a::as,b::bs=>D.beqL a b&&D.beqLL as bs
 |_,_=>false
end
mutual
theorem D.beqC_eq:∀ {a b:D},D.beqC a b=true→a=b
 |.lit a,.lit b,h=>by rw [D.beqC] at h;rw [Value.beqC_eq h]
 |.sl a,.sl b,h=>by rw [D.beqC] at h;rw [D.beqLL_eq h]
 |.lit _,.sl _,h=>by simp [D.beqC] at h
 |.sl _,.lit _,h=>by simp [D.beqC] at h
theorem D.beqL_eq:∀ {a b:List D},D.beqL a b=true→a=b
 |[],[],_=>rfl
 |a::as,b::bs,h=>by
  rw [D.beqL,Bool.and_eq_true] at h
  rw [D.beqC_eq h.1,D.beqL_eq h.2]
 |[],_::_,h=>by simp [D.beqL] at h
 |_::_,[],h=>by simp [D.beqL] at h
theorem D.beqLL_eq:∀ {a b:List (List D)},D.beqLL a b=true→a=b
 |[],[],_=>rfl
 |a::as,b::bs,h=>by
  rw [D.beqLL,Bool.and_eq_true] at h
  rw [D.beqL_eq h.1,D.beqLL_eq h.2]
 |[],_::_,h=>by simp [D.beqLL] at h
 |_::_,[],h=>by simp [D.beqLL] at h
end
def Tag.beqC:Tag→Tag→Bool
 |.full,.full=>true
 |.own a b,.own c d=>a==c&&b==d
 |_,_=>false
theorem Tag.beqC_eq {a b:Tag} (h:Tag.beqC a b=true):a=b:=by
 unfold Tag.beqC at h
 split at h
 ·rfl
 ·simp only [Bool.and_eq_true,beq_iff_eq] at h;rw [h.1,h.2]
 ·cases h
mutual
def V.beqC:V→V→Bool
 |.any,.any=>true
 |.nil,.nil=>true
 |.d a,.d b=>D.beqC a b
 |.sl s a t,.sl s' a' t'=>s==s'&&D.beqLL a a'&&Tag.beqC t t'
 |.loc a b c e,.loc a' b' c' e'=>a==a'&&b==b'&&c==c'&&e==e'
 |.ptr a b,.ptr a' b'=>a==a'&&b==b'
 |.ep a,.ep b=>D.beqL a b
 |.psl a,.psl b=>V.beqL a b
 |.agg a,.agg b=>V.beqL a b
 |.tup a,.tup b=>V.beqL a b
 |_,_=>false
def V.beqL:List V→List V→Bool
 |[],[]=>true
 |a::as,b::bs=>V.beqC a b&&V.beqL as bs
 |_,_=>false
end
mutual
theorem V.beqC_eq:∀ {a b:V},V.beqC a b=true→a=b:=by
 intro a b h
 cases a<;>cases b<;>simp only [V.beqC,Bool.and_eq_true,beq_iff_eq,Bool.false_eq_true] at h
 case any.any=>rfl
 case nil.nil=>rfl
 case d.d=>rw [D.beqC_eq h]
 case sl.sl=>rw [h.1.1,D.beqLL_eq h.1.2,Tag.beqC_eq h.2]
 case loc.loc=>rw [h.1.1.1,h.1.1.2,h.1.2,h.2]
 case ptr.ptr=>rw [h.1,h.2]
 case ep.ep=>rw [D.beqL_eq h]
 case psl.psl=>rw [V.beqL_eq h]
 case agg.agg=>rw [V.beqL_eq h]
 case tup.tup=>rw [V.beqL_eq h]
theorem V.beqL_eq:∀ {a b:List V},V.beqL a b=true→a=b:=by
 intro a b h
 cases a<;>cases b<;>simp only [V.beqL,Bool.and_eq_true,Bool.false_eq_true] at h
 case nil.nil=>rfl
 case cons.cons=>rw [V.beqC_eq h.1,V.beqL_eq h.2]
end
def obeq:Option (List V)→Option (List V)→Bool
 |none,none=>true
 |some a,some b=>V.beqL a b
 |_,_=>false
theorem obeq_eq {a b:Option (List V)} (h:obeq a b=true):a=b:=by
 unfold obeq at h
 split at h
 ·rfl
 ·rw [V.beqL_eq h]
 ·cases h
def pairC (vops:List VOper) (sts:List St) (k e:Nat):Bool:=
 match vops[k]? with
 |some x=>match vWanted (sts.getD k default).tmps x.guard with
  |some true=>match x.op.blk (sts.getD k default).tmps with
   |some id=>obeq (sts.getD e default).blocks[id]? (sts.getD (e+1) default).blocks[id]?
   |none=>true
  |_=>true
 |none=>true
def pairsC (vops:List VOper) (sts:List St):List (Nat×Nat)→Bool
 |[]=>true
 |p::ps=>pairC vops sts p.1 p.2&&pairsC vops sts ps
theorem pairC_ok {vops:List VOper} {sts:List St} {k e:Nat} (h:pairC vops sts k e=true):pairOk vops sts k e:=by
 unfold pairC at h
 unfold pairOk
 cases hx:vops[k]? with
 |none=>trivial
 |some x=>
  rw [hx] at h
  simp only at h ⊢
  intro hw
  rw [hw] at h
  simp only at h
  cases hb:x.op.blk (sts.getD k default).tmps with
  |none=>trivial
  |some id=>rw [hb] at h;exact obeq_eq h
theorem pairsC_ok {vops:List VOper} {sts:List St}:∀ {l:List (Nat×Nat)},pairsC vops sts l=true→allPairs vops sts l
 |[],_=>trivial
 |p::ps,h=>by
  rw [pairsC,Bool.and_eq_true] at h
  exact ⟨pairC_ok h.1,pairsC_ok h.2⟩
def vDrawC (C:Orc) (vops:List VOper) (chk:List (Nat×Nat)) (st:St):Option St:=
 match chk with
 |[]=>vOps C vops st
 |p::ps=>match vTr C vops st with
  |some sts=>match pairsC vops sts (p::ps) with
   |true=>sts.getLast?
   |false=>none
  |none=>none
theorem vDrawC_ok {C:Orc} {vops:List VOper} {chk:List (Nat×Nat)} {st st':St} (h:vDrawC C vops chk st=some st'):vDraw C vops chk st=some st':=by
 cases chk with
 |nil=>exact h
 |cons p ps=>
  simp only [vDrawC] at h
  simp only [vDraw]
  split at h
  ·rename_i sts hs
   split at h
   ·rename_i hp
    rw [hs];simp only;rw [if_pos (pairsC_ok hp)];exact h
   ·cases h
  ·cases h
mutual
def vxC (C:Orc):Nat→VCode→St→Option (VExit×St)
 |0,_,_=>none
 |_+1,.skip,st=>some (.normal,st)
 |_+1,.reg ops,st=>match vOps C ops st with|some st'=>some (.normal,st')|none=>none
 |_+1,.draw ops chk,st=>match vDrawC C ops chk st with|some st'=>some (.normal,st')|none=>none
 |n+1,.seq a b,st=>match vxC C n a st with
  |some (.normal,st')=>vxC C n b st'
  |r=>r
 |n+1,.cond c a b,st=>match (c.ev st.tmps).bool with
  |some true=>vxC C n a st
  |some false=>vxC C n b st
  |none=>none
 |n+1,.block id b,st=>match vxC C n b st with
  |some (.exit i,st')=>match Nat.beq i id with
   |true=>some (.normal,st')
   |false=>some (.exit i,st')
  |r=>r
 |n+1,.loop keep b,st=>vloopC C n keep b st.blocks.length st
 |_+1,.exit id,st=>some (.exit id,st)
 |_+1,.ret,st=>some (.ret,st)
 |_+1,.gfrz k,st=>some (.normal,gfrzS st k)
 |_+1,.alt _ _ _,_=>none
def vloopC (C:Orc):Nat→List Bool→VCode→Nat→St→Option (VExit×St)
 |0,_,_,_,_=>none
 |n+1,keep,b,k,st=>match st.head keep k with
  |some st0=>match vxC C n b st0 with
   |some (.normal,st1)=>vloopC C n keep b k st1
   |r=>r
  |none=>none
end
theorem vxC_ok {C:Orc}:∀ n,(∀ c st x,vxC C n c st=some x→vx C n c st=some x)∧(∀ keep b k st x,vloopC C n keep b k st=some x→vloop C n keep b k st=some x)
 |0=>⟨fun c st x h=>by simp [vxC] at h,fun keep b k st x h=>by simp [vloopC] at h⟩
 |n+1=>by
  obtain ⟨ih1,ih2⟩:=vxC_ok (C:=C) n
  refine ⟨fun c st x h=>?_,fun keep b k st x h=>?_⟩
  ·cases c with
   |skip=>exact h
   |reg ops=>simp only [vxC] at h;simp only [vx];exact h
   |draw ops chk=>
    simp only [vxC] at h;simp only [vx]
    split at h
    ·rename_i st' hs;rw [vDrawC_ok hs];exact h
    ·cases h
   |seq a b=>
    simp only [vxC] at h;simp only [vx]
    split at h
    ·rename_i st' hs;rw [ih1 _ _ _ hs];exact ih1 _ _ _ h
    ·rename_i hne
     rw [ih1 _ _ _ h]
     obtain ⟨e,st'⟩:=x
     cases e with
     |normal=>exact absurd h (hne _)
     |exit id=>rfl
     |ret=>rfl
   |cond c a b=>
    simp only [vxC] at h;simp only [vx]
    split at h
    ·rename_i hb;rw [hb];exact ih1 _ _ _ h
    ·rename_i hb;rw [hb];exact ih1 _ _ _ h
    ·cases h
   |block id b=>
    simp only [vxC] at h;simp only [vx]
    split at h
    ·rename_i i st' hs
     rw [ih1 _ _ _ hs]
     simp only
     split at h
     ·rename_i hi;rw [if_pos (Nat.eq_of_beq_eq_true hi)];exact h
     ·rename_i hi;rw [if_neg (Nat.ne_of_beq_eq_false hi)];exact h
    ·rename_i hne
     rw [ih1 _ _ _ h]
     obtain ⟨e,st'⟩:=x
     cases e with
     |normal=>rfl
     |exit id=>exact absurd h (hne _ _)
     |ret=>rfl
   |loop keep b=>simp only [vxC] at h;simp only [vx];exact ih2 _ _ _ _ _ h
   |exit id=>exact h
   |ret=>exact h
   |gfrz k=>exact h
   |alt dd a b=>simp [vxC] at h
  ·simp only [vloopC] at h;simp only [vloop]
   split at h
   ·rename_i st0 h0
    rw [h0]
    simp only
    split at h
    ·rename_i st1 h1;rw [ih1 _ _ _ h1];exact ih2 _ _ _ _ _ h
    ·rename_i hne
     rw [ih1 _ _ _ h]
     obtain ⟨e,st'⟩:=x
     cases e with
     |normal=>exact absurd h (hne _)
     |exit id=>rfl
     |ret=>rfl
   ·cases h
def vRunC (C:Orc) (n:Nat) (vf:VFunc) (args:List V) (blks:List (List V)):Option Ret:=
 match vxC C n vf.body (vf.start args blks) with
 |some (.normal,st)=>vRet vf blks.length st
 |some (.ret,st)=>vRet vf blks.length st
 |_=>none
def vcallC (VP:VProg):Nat→Orc
 |0,_,_,_=>none
 |n+1,f,args,blks=>match VP.nat f args blks with
  |some r=>some r
  |none=>match VP.fn f with
   |some vf=>vRunC (vcallC VP n) n vf args blks
   |none=>none
theorem vcallC_ok {VP:VProg}:∀ n,Orc.le (vcallC VP n) (vcall VP n)
 |0=>fun f a b r h=>by simp [vcallC] at h
 |n+1=>fun f a b r h=>by
  simp only [vcallC] at h;simp only [vcall]
  split at h
  ·rename_i r' hr;rw [hr];exact h
  ·rename_i hn
   rw [hn]
   simp only
   split at h
   ·rename_i vf hf
    rw [hf]
    simp only
    refine vRun_mono (vcallC_ok n) (Nat.le_refl n) ?_
    unfold vRunC at h
    unfold vRun
    split at h
    ·rename_i st hs;rw [(vxC_ok n).1 _ _ _ hs];exact h
    ·rename_i st hs;rw [(vxC_ok n).1 _ _ _ hs];exact h
    ·cases h
   ·cases h
theorem CV_C {VP:VProg} (n:Nat) {f:FuncId} {args:List V} {blks:List (List V)} {r:Ret} (h:vcallC VP n f args blks=some r):CV VP f args blks=some r:=
 CV_iff.2 ⟨n,vcallC_ok n f args blks r h⟩
end Go.VM
namespace Go.VM
end Go.VM
namespace Go.VM
theorem u8_of {a:Int} (h:(Lit.int .u8 a).wf=true):0≤a∧a≤255:=by
 simp [Lit.wf,IntKind.min,IntKind.max,IntKind.signed,IntKind.bits] at h
 omega
end Go.VM
namespace Go.VM
def RelDs (F:Fz) (ds:List D) (cs:List Value):Prop:=ds.length=cs.length∧∀ (j:Nat) x v,ds[j]?=some x→cs[j]?=some v→RelD F x v
theorem RelDs.nil {F:Fz}:RelDs F [] []:=⟨rfl,by simp⟩
theorem RelDs.one {F:Fz} {x:D} {v:Value} (h:RelD F x v):RelDs F [x] [v]:=
 ⟨rfl,fun j y u hj hu=>by
  match j with
  |0=>simp at hj hu;subst hj;subst hu;exact h
  |j+1=>simp at hj⟩
theorem RelDs.app {F:Fz} {a b:List D} {c e:List Value} (h:RelDs F a c) (k:RelDs F b e):RelDs F (a++b) (c++e):=by
 refine ⟨by simp [h.1,k.1],fun j x v hx hv=>?_⟩
 by_cases hj:j<a.length
 ·rw [List.getElem?_append_left hj] at hx
  rw [List.getElem?_append_left (by rw [← h.1];exact hj)] at hv
  exact h.2 j x v hx hv
 ·rw [List.getElem?_append_right (by omega)] at hx
  rw [List.getElem?_append_right (by rw [← h.1];omega),← h.1] at hv
  exact k.2 _ x v hx hv
inductive WT (P:Program):TypeId→List D→Prop
 |bool {t:TypeId} (hu:P.underlying t=some .bool) (b:Bool):WT P t [.lit (.bool b)]
 |int {t:TypeId} {k:IntKind} (hu:P.underlying t=some (.int k)) (n:Int) (hw:(Lit.int k n).wf=true):WT P t [.lit (.int k n)]
 |str {t:TypeId} (hu:P.underlying t=some .string) (s:ByteArray) (hs:s.size≤maxLen):WT P t [.lit (.string s)]
 |sl {t e:TypeId} (hu:P.underlying t=some (.slice e)) (es:List (List D)) (hl:es.length≤maxLen) (h:∀ row∈es,WT P e row):WT P t [.sl es]
 |st {t:TypeId} {fs:Array Field} (hu:P.underlying t=some (.struct fs)) (dss:List (List D)) (hl:dss.length=fs.size)
   (h:∀ (i:Nat) f ds,fs[i]?=some f→dss[i]?=some ds→WT P f.type ds):WT P t dss.flatten
def tileB (P:Program):Nat→List Field→Nat→Bool
 |o,[],n=>o==n
 |o,f::fs,n=>f.offset==o&&tileB P (o+P.cellsOf f.type) fs n
def plainB (P:Program) (S:List TypeId):Bool:=S.all fun t=>match P.underlying t with
 |some .bool=>true
 |some .string=>true
 |some (.int _)=>true
 |some (.slice e)=>S.contains e&&decide (0<P.cellsOf e)
 |some (.struct fs)=>fs.toList.all (fun f=>S.contains f.type)&&tileB P 0 fs.toList (P.cellsOf t)
 |_=>false
theorem exL {A:Nat→List D→Prop}:∀ n,(∀ i,i<n→∃ r,A i r)→∃ rs:List (List D),rs.length=n∧∀ i r,rs[i]?=some r→A i r
 |0,_=>⟨[],rfl,by simp⟩
 |n+1,h=>by
  obtain ⟨rs,hl,hr⟩:=exL n fun i hi=>h i (by omega)
  obtain ⟨r,h1⟩:=h n (by omega)
  refine ⟨rs++[r],by simp [hl],fun i x hx=>?_⟩
  by_cases hi:i<n
  ·rw [List.getElem?_append_left (by omega)] at hx;exact hr i x hx
  ·rw [List.getElem?_append_right (by omega)] at hx
   have:i=n:=by
    have:=(List.getElem?_eq_some_iff.1 hx).1
    simp at this;omega
   subst this
   rw [hl,Nat.sub_self] at hx;simp at hx;subst hx;exact h1
theorem tile_rel {P:Program} {F:Fz} {cs:List Value}:∀ (fs:List Field) (o:Nat) (dss:List (List D)),tileB P o fs cs.length=true→dss.length=fs.length →
  (∀ (i:Nat) f ds,fs[i]?=some f→dss[i]?=some ds→RelDs F ds ((cs.drop f.offset).take (P.cellsOf f.type)))→RelDs F dss.flatten (cs.drop o)
 |[],o,dss,ht,hl,h=>by
  simp only [tileB,beq_iff_eq] at ht
  subst ht
  obtain rfl:dss=[]:=List.length_eq_zero_iff.1 hl
  rw [List.drop_length];exact .nil
 |f::fs,o,[],ht,hl,h=>by simp at hl
 |f::fs,o,d::dss,ht,hl,h=>by
  simp only [tileB,Bool.and_eq_true,beq_iff_eq] at ht
  obtain ⟨rfl,ht⟩:=ht
  have h0:=h 0 f d rfl rfl
  have ih:=tile_rel fs _ dss ht (by simpa using hl) fun i f ds hf hd=>h (i+1) f ds (by simpa using hf) (by simpa using hd)
  have e:cs.drop f.offset=(cs.drop f.offset).take (P.cellsOf f.type)++cs.drop (f.offset+P.cellsOf f.type):=by
   rw [← List.drop_drop,List.take_append_drop]
  rw [e,List.flatten_cons]
  exact h0.app ih
section
variable {H:Type} {enc:TypeId×Value→H} {P:Program} {W:World} {spare:Nat→Bool} {held:Bool}
theorem came {S:List TypeId} (hS:plainB P S=true):∀ (n:Nat) (t:TypeId) (cs:List Value) x,t∈S→DataW.trod enc P W 0 spare held n t cs=some x→∃ ds,RelDs (Gh.entry W).F ds cs∧WT P t ds
 |0,t,cs,x,_,h=>by simp [DataW.trod] at h
 |n+1,t,cs,x,ht,h=>by
  have hp:=List.all_eq_true.1 hS t ht
  split at hp
  ·rename_i hu
   obtain ⟨b,rfl,_⟩:=DataW.trod_bool hu h
   exact ⟨_,.one (.lit _ rfl),.bool hu b⟩
  ·rename_i hu
   obtain ⟨s,rfl,_,hs⟩:=DataW.trod_string hu h
   exact ⟨_,.one (.lit _ rfl),.str hu s hs⟩
  ·rename_i k hu
   obtain ⟨z,rfl,_,hw⟩:=DataW.trod_int hu h
   exact ⟨_,.one (.lit _ rfl),.int hu z hw⟩
  ·rename_i e hu
   simp only [Bool.and_eq_true,decide_eq_true_eq] at hp
   obtain ⟨he,hpos⟩:=hp
   have he:e∈S:=by simpa using he
   rcases DataW.trod_slice hu h with ⟨rfl,_⟩|⟨a,len,cap,elems,rest,m,hm,rfl,_,_,hlc,hcm,hel,hrow,_⟩
   ·exact ⟨_,.one (RelD.nil _),.sl hu [] (Nat.zero_le _) (by simp)⟩
   ·have ex:∀ i,i<len→∃ r,∃ ccs,W.cells? 0 (a.add (i*P.cellsOf e)) (P.cellsOf e)=some ccs∧RelDs (Gh.entry W).F r ccs∧WT P e r:=by
     intro i hi
     have h1:=hrow i hi
     obtain ⟨y,hy⟩:∃ y,elems[i]?=some y:=⟨_,List.getElem?_eq_getElem (by omega)⟩
     rw [hy,Option.bind_eq_some_iff] at h1
     obtain ⟨ccs,hc,h2⟩:=h1
     obtain rfl:m=n:=by omega
     obtain ⟨r,hr,hw⟩:=came hS m e ccs y he h2
     exact ⟨r,ccs,hc,hr,hw⟩
    obtain ⟨es,hes,hA⟩:=exL len ex
    have hsz:∀ (i:Nat) row,es[i]?=some row→row.length=P.cellsOf e:=by
     intro i row hr
     obtain ⟨ccs,hc,hr,_⟩:=hA i row hr
     rw [hr.1];exact (World.cells?_some hc).2.1
    refine ⟨[.sl es],.one ?_,.sl hu es (by omega) (fun row hr=>?_)⟩
    ·have hcell:∀ i j,i<len→j<P.cellsOf e→a.spot=none∧∃ row ccs v,es[i]?=some row∧RelDs (Gh.entry W).F row ccs∧ccs[j]?=some v∧W.cell? ⟨a.block,a.off+(i*P.cellsOf e+j),none⟩=some v:=by
      intro i j hi hj
      obtain ⟨row,hri⟩:∃ row,es[i]?=some row:=⟨_,List.getElem?_eq_getElem (by omega)⟩
      obtain ⟨ccs,hc,hr,_⟩:=hA i row hri
      obtain ⟨_,hcl,hce⟩:=World.cells?_some hc
      obtain ⟨v,hv⟩:∃ v,ccs[j]?=some v:=⟨_,List.getElem?_eq_getElem (by omega)⟩
      have hcv:=hce j hj
      rw [hv] at hcv
      have hsp:a.spot=none:=by
       obtain ⟨row0,hr0⟩:∃ row,es[0]?=some row:=⟨_,List.getElem?_eq_getElem (by omega)⟩
       obtain ⟨ccs0,hc0,_,_⟩:=hA 0 row0 hr0
       obtain ⟨_,hcl0,hce0⟩:=World.cells?_some hc0
       obtain ⟨v0,hv0⟩:∃ v,ccs0[0]?=some v:=⟨_,List.getElem?_eq_getElem (by omega)⟩
       have h0:=hce0 0 hpos
       rw [hv0] at h0
       obtain ⟨b,o,sp⟩:=a
       simp only [Addr.add,Nat.zero_mul,World.cell?,if_true] at h0
       cases sp with
       |none=>rfl
       |some s=>
        simp only [Option.isSome_some,if_true] at h0
        split at h0<;>cases h0
      refine ⟨hsp,row,ccs,v,hri,hr,hv,?_⟩
      rw [← hcv]
      obtain ⟨b,o,sp⟩:=a
      simp only at hsp
      subst hsp
      congr 1
      unfold Addr.add
      split<;>split<;>simp_all<;>omega
     refine .sl es _ len cap (P.cellsOf e) (fun i j=>(W.cell? ⟨a.block,a.off+(i*P.cellsOf e+j),none⟩).getD default) hes.symm hlc hcm hsz (fun hne=>?_) (fun i j row c hi hj=>?_)
     ·have hpl:0<len:=by rw [← hes];exact List.length_pos_iff.2 hne
      have hsp:=(hcell 0 0 hpl hpos).1
      refine ⟨a.block,a.off,by obtain ⟨b,o,sp⟩:=a;simp only at hsp;rw [hsp],fun i j hi hj=>?_⟩
      obtain ⟨_,row,ccs,v,_,_,_,hv⟩:=hcell i j (by omega) hj
      show W.cell? _=_
      rw [hv];rfl
     ·have hil:i<len:=by have:=(List.getElem?_eq_some_iff.1 hi).1;omega
      have hjl:j<P.cellsOf e:=by rw [← hsz i row hi];exact (List.getElem?_eq_some_iff.1 hj).1
      obtain ⟨_,row',ccs,v,h1,h2,h3,hv⟩:=hcell i j hil hjl
      rw [hi] at h1;cases h1
      show RelD _ c ((W.cell? _).getD default)
      rw [hv]
      exact h2.2 j c v hj h3
    ·obtain ⟨i,hi⟩:=List.getElem?_of_mem hr
     obtain ⟨_,_,_,hw⟩:=hA i row hi
     exact hw
  ·rename_i fs hu
   simp only [Bool.and_eq_true] at hp
   obtain ⟨hf,htile⟩:=hp
   obtain ⟨xs,m,hm,_,hl,hxl,hx⟩:=DataW.trod_struct hu h
   obtain rfl:m=n:=by omega
   have ex:∀ i,i<fs.size→∃ r,∀ f,fs[i]?=some f→RelDs (Gh.entry W).F r ((cs.drop f.offset).take (P.cellsOf f.type))∧WT P f.type r:=by
    intro i hi
    obtain ⟨f,hfi⟩:∃ f,fs[i]?=some f:=⟨_,Array.getElem?_eq_getElem hi⟩
    obtain ⟨y,hy⟩:∃ y,xs[i]?=some y:=⟨_,List.getElem?_eq_getElem (by omega)⟩
    have h1:=hx i f hfi
    rw [hy] at h1
    have hfS:f.type∈S:=by
     have:=List.all_eq_true.1 hf f (by rw [← Array.getElem?_toList] at hfi;exact List.mem_of_getElem? hfi)
     simpa using this
    obtain ⟨r,hr,hw⟩:=came hS m _ _ y hfS h1
    exact ⟨r,fun f' hf'=>by rw [hfi] at hf';cases hf';exact ⟨hr,hw⟩⟩
   obtain ⟨dss,hdl,hA⟩:=exL fs.size ex
   rw [← hl] at htile
   refine ⟨dss.flatten,?_,.st hu dss hdl (fun i f ds h1 h2=>(hA i ds h2 f h1).2)⟩
   have:=tile_rel (F:=(Gh.entry W).F) fs.toList 0 dss htile (by simpa using hdl) (fun i f ds h1 h2=>(hA i ds h2 f (by simpa using h1)).1)
   simpa using this
  ·cases hp
end
end Go.VM
namespace Go.VM
section
variable {P:Program}
theorem WT.inv {t:TypeId} {ds:List D} (h:WT P t ds):match P.underlying t with
  |some .bool=>∃ b,ds=[.lit (.bool b)]
  |some (.int k)=>∃ n,ds=[.lit (.int k n)]∧(Lit.int k n).wf=true
  |some .string=>∃ s:ByteArray,ds=[.lit (.string s)]∧s.size≤maxLen
  |some (.slice e)=>∃ es,ds=[.sl es]∧es.length≤maxLen∧∀ row∈es,WT P e row
  |some (.struct fs)=>∃ dss:List (List D),ds=dss.flatten∧dss.length=fs.size∧∀ (i:Nat) f ds,fs[i]?=some f→dss[i]?=some ds→WT P f.type ds
  |_=>False:=by
 cases h with
 |bool hu b=>rw [hu];exact ⟨b,rfl⟩
 |int hu n hw=>rw [hu];exact ⟨n,rfl,hw⟩
 |str hu s hs=>rw [hu];exact ⟨s,rfl,hs⟩
 |sl hu es hl h=>rw [hu];exact ⟨es,rfl,hl,h⟩
 |st hu dss hl h=>rw [hu];exact ⟨dss,rfl,hl,h⟩
variable {t:TypeId} {ds:List D}
theorem WT.int_inv {k:IntKind} (hu:P.underlying t=some (.int k)) (h:WT P t ds):∃ n,ds=[.lit (.int k n)]∧(Lit.int k n).wf=true:=by have:=h.inv;rw [hu] at this;exact this
theorem WT.sl_inv {e:TypeId} (hu:P.underlying t=some (.slice e)) (h:WT P t ds):∃ es,ds=[.sl es]∧es.length≤maxLen∧∀ row∈es,WT P e row:=by have:=h.inv;rw [hu] at this;exact this
theorem WT.bytes {e:TypeId} (hu:P.underlying t=some (.slice e)) (he:P.underlying e=some (.int .u8)) (h:WT P t ds):∃ l,ByteL l∧ds=[byteD l]:=by
 obtain ⟨es,rfl,-,hr⟩:=h.sl_inv hu
 clear h
 have:∃ l,ByteL l∧es=l.map byteRow:=by
  induction es with
  |nil=>exact ⟨[],fun z hz=>(by cases hz),rfl⟩
  |cons r es ih=>
   obtain ⟨l,hl,rfl⟩:=ih fun row hrow=>hr row (List.mem_cons_of_mem _ hrow)
   obtain ⟨n,rfl,hw⟩:=(hr r List.mem_cons_self).int_inv he
   refine ⟨n::l,fun z hz=>?_,rfl⟩
   rcases List.mem_cons.1 hz with rfl|hz
   ·exact u8_of hw
   ·exact hl z hz
 obtain ⟨l,hl,rfl⟩:=this
 exact ⟨l,hl,rfl⟩
end
section
variable {H:Type} {enc:TypeId×Value→H} {P:Program} {W:World} {spare:Nat→Bool} {held:Bool} {t:TypeId} {v:Value} {d:DataW H} {ps:List MemPlace} {r:Reach} {base:Nat}
theorem came_one {S:List TypeId} (hS:plainB P S=true) (ht:t∈S) (hv:v.cells=#[v]) (h:DataW.Trod enc P W 0 spare held t v d ps) :
  ∃ x,WT P t [x]∧RelV (Gh.entry W) (.d x) v:=by
 obtain ⟨n,hn⟩:=h
 obtain ⟨ds,hr,hw⟩:=came hS n t _ _ ht hn
 rw [hv] at hr
 have hl:=hr.1
 match ds,hl with
 |[x],_=>exact ⟨x,hw,.d (hr.2 0 x v rfl rfl)⟩
theorem came_sl {S:List TypeId} (hS:plainB P S=true) (ht:t∈S) {e:TypeId} (hu:P.underlying t=some (.slice e)) (hok:Value.okWide P W r base t v) (h:DataW.Trod enc P W 0 spare held t v d ps) :
  ∃ x,WT P t [x]∧RelV (Gh.entry W) (.d x) v:=by
 obtain ⟨a,l,c,rfl⟩:=WideShapes.okWide_slice hu hok
 exact came_one hS ht rfl h
theorem came_int {S:List TypeId} (hS:plainB P S=true) (ht:t∈S) {k:IntKind} (hu:P.underlying t=some (.int k)) (hok:Value.okWide P W r base t v) (h:DataW.Trod enc P W 0 spare held t v d ps) :
  ∃ x,WT P t [x]∧RelV (Gh.entry W) (.d x) v:=by
 obtain ⟨n,rfl⟩:=WideShapes.okWide_int hu hok
 exact came_one hS ht rfl h
end
theorem RelL.cons {G:Gh} {v:V} {x:Value} {vs:List V} {xs:List Value} (h:RelV G v x) (hs:RelL G vs xs.toArray):RelL G (v::vs) (x::xs).toArray:=by
 refine .of (by have:=hs.1;simpa using this) fun j u y hu hy=>?_
 match j with
 |0=>simp at hu hy;subst hu;subst hy;exact h
 |j+1=>exact hs.2 j u y (by simpa using hu) (by simpa using hy)
theorem RelL.nil' {G:Gh}:RelL G [] ([]:List Value).toArray:=⟨rfl,by simp⟩
end Go.VM
namespace Go.VM
theorem erS_full (sz:Nat):erS sz [] .full=.sl sz [] .full:=rfl
def S1 (VP:VProg):VCode→St→(VExit→St→Prop)→Prop
 |.seq a b,st,Q=>S1 VP a st (thn VP b Q)
 |.block id b,st,Q=>S1 VP b st (outQ id Q)
 |.reg ops,st,Q=>RO (CV VP) ops st (Q .normal)
 |.draw ops [],st,Q=>RO (CV VP) ops st (Q .normal)
 |.draw ops (p::chk),st,Q=>RX VP (.draw ops (p::chk)) st Q
 |.skip,st,Q=>Q .normal st
 |.gfrz k,st,Q=>Q .normal (gfrzS st k)
 |.exit id,st,Q=>Q (.exit id) st
 |.ret,st,Q=>Q .ret st
 |.cond c a b,st,Q=>RC VP a b st Q (c.ev st.tmps).bool
 |.loop k b,st,Q=>RX VP (.loop k b) st Q
 |.alt d a b,st,Q=>RX VP (.alt d a b) st Q
def plG:VCode→Bool
 |.loop _ _=>false
 |.alt _ _ _=>false
 |.draw _ (_::_)=>false
 |_=>true
theorem RX_S1 {VP:VProg}:∀ (c:VCode) {st:St} {Q:VExit→St→Prop},S1 VP c st Q→RX VP c st Q
 |.seq a _,_,_,h=>RX_seq (RX_S1 a h)
 |.block _ b,_,_,h=>RX_block (RX_S1 b h)
 |.reg _,_,_,h=>RX_reg h
 |.draw _ [],_,_,h=>RX_draw0 h
 |.draw _ (_::_),_,_,h=>h
 |.skip,_,_,h=>RX_skip h
 |.gfrz _,_,_,h=>RX_gfrz h
 |.exit _,_,_,h=>RX_exit h
 |.ret,_,_,h=>RX_ret h
 |.cond _ _ _,_,_,h=>RX_cond' h
 |.loop _ _,_,_,h=>h
 |.alt _ _ _,_,_,h=>h
theorem sG {VP:VProg} {c:VCode} {st:St} {Q:VExit→St→Prop} (_:plG c=true) (h:S1 VP c st Q):RX VP c st Q:=RX_S1 c h
attribute [go_sem] S1 Nat.max_zero List.isEmpty_cons bne_self_eq_false beq_self_eq_true beq_true beq_false I B w keepRet gfrzS gfrzB vApp0 erS_full erS_own erS_cons vPre preOk V.top V.topL vBuildSlM vSlice vBounds V.frz V.frzL V.locs V.locsL killL frzIn nc0 nc1 nc2 nc3 nc4 nc5 nc6 nc7 nc8 nc9 nc10 nc11 nc12 nc13 nc14 nc15 nc16 nc17 nc18 nc19 nc20 nc21 nc22 nc23 nc24 nc25 nc26 nc27 nc28 nc29 nc30 nc31 nc32 Int.toNat_zero Int.toNat_one vIsNil List.nil_append Bool.or_false Bool.or_true Bool.true_or Bool.false_or List.replicate_succ List.replicate_zero List.flatten_cons List.flatten_nil vBuildSl repl toDs V.toD chunk vApp vAppDst_nil vAppDst_full vAppDst_own vRows_nil vRows_d vRows_sl St.tk appBound List.flatMap_cons List.filter_cons List.filter_nil List.contains_cons List.elem_cons List.elem_nil Int.natCast_nonneg Int.toNat_natCast Int.ofNat_lt decide_true decide_false RO_guard' RG_some RG_un RT_guard' RTG_some RTG_un V.gd_bool V.gd_un gdW_some gdW_un Bool.not_eq_true Bool.not_eq_false Bool.true_eq_false RC_some decide_eq_true_eq ne_eq not_true_eq_false not_false_eq_true Bool.not_true Bool.not_false outQ VExit.out again_normal again_ret again_exit RO_nil RO_cons RK_some RT_nil RT_cons RTK_some vStep vPure VArg.ev vFieldA vField vLoadCells vShape vBin isShift vInt vUn lit St.put List.set_cons_zero List.set_cons_succ vStore St.setB V.cells V.isCell vFill V.int V.bool vLen_nil vLen_d vLen_sl vLen_loc vLen_psl vIdx_int vIdxA_d vIdxA_sl vIdxA_loc vIdxA_psl rowAt_some rowOf_some List.getD_cons_zero List.getD_cons_succ List.getElem?_cons_zero List.getElem?_cons_succ Option.map_some Option.map_none List.drop_succ_cons List.drop_zero List.take_succ_cons List.take_zero List.length_cons List.length_nil if_true if_false Bool.false_eq_true List.map_cons List.map_nil List.all_cons List.all_nil Bool.and_self Bool.and_true Bool.true_and and_self List.cons_append List.append_nil thn_normal thn_ret thn_exit drawK oksR okR vWanted VOp.blk Nat.zero_add Nat.add_zero Nat.le_refl vCall V.er V.erL V.ltb V.ltbL V.imp V.impL retQ vRet getRes VRes.get vPack List.take_nil List.drop_nil and_true true_and Option.some.injEq true_or or_true false_or or_false
theorem ite_go {p:Prop} [Decidable p] {A B:Prop} (ha:p→A) (hb:¬p→B):if p then A else B:=by
 split<;>rename_i h
 ·exact ha h
 ·exact hb h
theorem ite_ngo {p:Prop} [Decidable p] {A B:Prop} (ha:¬p→A) (hb:p→B):if ¬p then A else B:=by
 split<;>rename_i h
 ·exact ha h
 ·exact hb (Decidable.not_not.1 h)
theorem ibeq {a b:Int}:(a==b)=decide (a=b):=rfl
theorem ibne {a b:Int}:(a != b)=!decide (a=b):=rfl
theorem bbeq {a b:Bool}:(a==b)=decide (a=b):=by cases a<;>cases b<;>rfl
section
open VOp VArg
@[reducible,go_sem] def oo (d:Nat) (x:VOp):VOper:=⟨some d,x,none⟩
@[reducible,go_sem] def og (d:Nat) (x:VOp) (t:Nat) (b:Bool):VOper:=⟨some d,x,some (t,b)⟩
@[reducible,go_sem] def oM (d a:Nat):VOper:=⟨some d,.mov (.t a),none⟩
@[reducible,go_sem] def oI (d:Nat) (n:Int):VOper:=⟨some d,.mov (.c (.d (.lit (.int .i64 n)))),none⟩
@[reducible,go_sem] def oT (d:Nat) (b:Bool):VOper:=⟨some d,.mov (.c (.d (.lit (.bool b)))),none⟩
@[reducible,go_sem] def oN (d:Nat):VOper:=⟨some d,.mov (.c .nil),none⟩
@[reducible,go_sem] def oA (d a k:Nat):VOper:=⟨some d,.fieldA (.t a) k,none⟩
@[reducible,go_sem] def oL (d a n:Nat):VOper:=⟨some d,.load (.t a) n true,none⟩
@[reducible,go_sem] def oF (d a n:Nat):VOper:=⟨some d,.load (.t a) n false,none⟩
@[reducible,go_sem] def oS (a x n:Nat):VOper:=⟨none,.store (.t a) (.t x) n,none⟩
@[reducible,go_sem] def oE (d a k:Nat):VOper:=⟨some d,.ext (.t a) k,none⟩
@[reducible,go_sem] def oP (d a b:Nat):VOper:=⟨some d,.pick (.t a) (.c (.d (.lit (.bool true)))) (.t b),none⟩
@[reducible,go_sem] def oQ (d a b:Nat):VOper:=⟨some d,.pick (.t a) (.t b) (.c (.d (.lit (.bool false)))),none⟩
@[reducible,go_sem] def oV (d n a:Nat):VOper:=⟨some d,.boxv n (.t a),none⟩
@[reducible,go_sem] def oX (d n a b:Nat):VOper:=⟨some d,.idxA n (.t a) (.t b),none⟩
@[reducible,go_sem] def oC (d f:Nat) (l:List VArg):VOper:=⟨some d,.call f l,none⟩
@[reducible,go_sem] def gA (d a k t:Nat) (b:Bool):VOper:=⟨some d,.fieldA (.t a) k,some (t,b)⟩
@[reducible,go_sem] def gF (d a n t:Nat) (b:Bool):VOper:=⟨some d,.load (.t a) n false,some (t,b)⟩
@[reducible,go_sem] def gL (d a n t:Nat) (b:Bool):VOper:=⟨some d,.load (.t a) n true,some (t,b)⟩
@[reducible,go_sem] def gM (d a t:Nat) (b:Bool):VOper:=⟨some d,.mov (.t a),some (t,b)⟩
@[reducible,go_sem] def ki (n:Int):VArg:=.c (.d (.lit (.int .i64 n)))
@[reducible,go_sem] def kb (b:Bool):VArg:=.c (.d (.lit (.bool b)))
@[reducible,go_sem] def zi:V:=.d (.lit (.int .i64 0))
@[reducible,go_sem] def zu:V:=.d (.lit (.int .u64 0))
@[reducible,go_sem] def zb:V:=.d (.lit (.bool false))
end
end Go.VM
namespace Go.VM
section
variable {bl:List (List V)} {id:Nat} {c:List V} {own:List (List V)}
theorem CtxOk.of {bl:List (List V)} {id:Nat} (h1:id<bl.length) (h2:bl.map V.erL=bl) (h3:bl.all (V.ltbL bl.length)=true):CtxOk bl id:=⟨h1,h2,fun b hb=>List.all_eq_true.1 h3 b hb⟩
end
end Go.VM
