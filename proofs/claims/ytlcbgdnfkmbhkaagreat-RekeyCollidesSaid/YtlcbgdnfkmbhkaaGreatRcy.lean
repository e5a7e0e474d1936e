/- Boxes, valid terms and offers on the machine. Conditions: none. -/
import Derived.Test.YtlcbgdnfkmbhkaaGreatVd
import Derived.Test.YtlcbgdnfkmbhkaaGreatRcx
set_option linter.unusedSimpArgs false
namespace Go.Proofs.YtlcbgdnfkmbhkaaGreat
open Go.VM
def cmpI (a b:Int):Int:=if a<b then -1 else if b<a then 1 else 0
theorem e135 (a:Int):CV VP 321 [.d (I a)] []=some ⟨.d (B false),[],[],0⟩:=by
 refine CV_run (vf:=vf321) rfl rfl ?_
 rw [vf321_start]
 (repeat (first|refine RX_seq ?_|((first|refine sG rfl ?_|refine RX_draw rfl ?_);try (simp only [go_sem,Int.reduceToNat,Nat.reducePow,Int.reduceEq,Int.reduceNe,Int.reduceLT,Int.reduceLE,Nat.reduceAdd,Nat.reduceLeDiff,↓reduceIte,Nat.reduceLT,Nat.reduceMul,Nat.reduceSub,reduceCtorEq,frzLoc,rowCells,vAppM,beq_iff_eq,bne_iff_ne,vf321_res,vf321_keep]))))
theorem e136 (a:Int):CV VP 322 [.d (U a)] []=some ⟨.d (B false),[],[],0⟩:=by
 refine CV_run (vf:=vf322) rfl rfl ?_
 rw [vf322_start]
 (repeat (first|refine RX_seq ?_|((first|refine sG rfl ?_|refine RX_draw rfl ?_);try (simp only [go_sem,Int.reduceToNat,Nat.reducePow,Int.reduceEq,Int.reduceNe,Int.reduceLT,Int.reduceLE,Nat.reduceAdd,Nat.reduceLeDiff,↓reduceIte,Nat.reduceLT,Nat.reduceMul,Nat.reduceSub,reduceCtorEq,frzLoc,rowCells,vAppM,beq_iff_eq,bne_iff_ne,vf322_res,vf322_keep]))))
theorem e133 (a b:Int):CV VP 310 [.d (I a),.d (I b)] []=some ⟨.d (I (cmpI a b)),[],[],0⟩:=by
 unfold cmpI
 refine CV_run (vf:=vf310) rfl rfl ?_
 rw [vf310_start]
 by_cases h1:a<b
 ·(repeat (first|refine RX_seq ?_|((first|refine sG rfl ?_|refine RX_draw rfl ?_);try (simp only [go_sem,Int.reduceToNat,Nat.reducePow,Int.reduceEq,Int.reduceNe,Int.reduceLT,Int.reduceLE,Nat.reduceAdd,Nat.reduceLeDiff,↓reduceIte,Nat.reduceLT,Nat.reduceMul,Nat.reduceSub,reduceCtorEq,frzLoc,rowCells,vAppM,beq_iff_eq,bne_iff_ne,vf310_res,vf310_keep,e135,h1]))))
 ·by_cases h2:b<a
  ·(repeat (first|refine RX_seq ?_|((first|refine sG rfl ?_|refine RX_draw rfl ?_);try (simp only [go_sem,Int.reduceToNat,Nat.reducePow,Int.reduceEq,Int.reduceNe,Int.reduceLT,Int.reduceLE,Nat.reduceAdd,Nat.reduceLeDiff,↓reduceIte,Nat.reduceLT,Nat.reduceMul,Nat.reduceSub,reduceCtorEq,frzLoc,rowCells,vAppM,beq_iff_eq,bne_iff_ne,vf310_res,vf310_keep,e135,h1,h2,gt_iff_lt]))))
  ·(repeat (first|refine RX_seq ?_|((first|refine sG rfl ?_|refine RX_draw rfl ?_);try (simp only [go_sem,Int.reduceToNat,Nat.reducePow,Int.reduceEq,Int.reduceNe,Int.reduceLT,Int.reduceLE,Nat.reduceAdd,Nat.reduceLeDiff,↓reduceIte,Nat.reduceLT,Nat.reduceMul,Nat.reduceSub,reduceCtorEq,frzLoc,rowCells,vAppM,beq_iff_eq,bne_iff_ne,vf310_res,vf310_keep,e135,h1,h2,gt_iff_lt]))))
theorem e134 (a b:Int):CV VP 311 [.d (U a),.d (U b)] []=some ⟨.d (I (cmpI a b)),[],[],0⟩:=by
 unfold cmpI
 refine CV_run (vf:=vf311) rfl rfl ?_
 rw [vf311_start]
 by_cases h1:a<b
 ·(repeat (first|refine RX_seq ?_|((first|refine sG rfl ?_|refine RX_draw rfl ?_);try (simp only [go_sem,Int.reduceToNat,Nat.reducePow,Int.reduceEq,Int.reduceNe,Int.reduceLT,Int.reduceLE,Nat.reduceAdd,Nat.reduceLeDiff,↓reduceIte,Nat.reduceLT,Nat.reduceMul,Nat.reduceSub,reduceCtorEq,frzLoc,rowCells,vAppM,beq_iff_eq,bne_iff_ne,vf311_res,vf311_keep,e136,h1]))))
 ·by_cases h2:b<a
  ·(repeat (first|refine RX_seq ?_|((first|refine sG rfl ?_|refine RX_draw rfl ?_);try (simp only [go_sem,Int.reduceToNat,Nat.reducePow,Int.reduceEq,Int.reduceNe,Int.reduceLT,Int.reduceLE,Nat.reduceAdd,Nat.reduceLeDiff,↓reduceIte,Nat.reduceLT,Nat.reduceMul,Nat.reduceSub,reduceCtorEq,frzLoc,rowCells,vAppM,beq_iff_eq,bne_iff_ne,vf311_res,vf311_keep,e136,h1,h2,gt_iff_lt]))))
  ·(repeat (first|refine RX_seq ?_|((first|refine sG rfl ?_|refine RX_draw rfl ?_);try (simp only [go_sem,Int.reduceToNat,Nat.reducePow,Int.reduceEq,Int.reduceNe,Int.reduceLT,Int.reduceLE,Nat.reduceAdd,Nat.reduceLeDiff,↓reduceIte,Nat.reduceLT,Nat.reduceMul,Nat.reduceSub,reduceCtorEq,frzLoc,rowCells,vAppM,beq_iff_eq,bne_iff_ne,vf311_res,vf311_keep,e136,h1,h2,gt_iff_lt]))))
def or3 (a b c:Int):Int:=if a≠0 then a else if b≠0 then b else c
theorem e132 (a b c:Int):CV VP 309 [.d (.sl [[I a],[I b],[I c]])] []=some ⟨.d (I (or3 a b c)),[],[],0⟩:=by
 unfold or3
 refine CV_run (vf:=vf309) rfl rfl ?_
 rw [vf309_start]
 have w1:IntKind.i64.wrap (0+1)=1:=rfl
 have w2:IntKind.i64.wrap (1+1)=2:=rfl
 have w3:IntKind.i64.wrap (2+1)=3:=rfl
 by_cases h1:a=0
 ·by_cases h2:b=0
  ·by_cases h3:c=0
   ·(repeat (first|refine RX_seq ?_|((first|refine sG rfl ?_|refine RX_draw rfl ?_);try (simp only [go_sem,Int.reduceToNat,Nat.reducePow,Int.reduceEq,Int.reduceNe,Int.reduceLT,Int.reduceLE,Nat.reduceAdd,Nat.reduceLeDiff,↓reduceIte,Nat.reduceLT,Nat.reduceMul,Nat.reduceSub,reduceCtorEq,frzLoc,rowCells,vAppM,beq_iff_eq,bne_iff_ne,vf309_res,vf309_keep,h1,h2,h3]))))
    refine RX_loop ?_
    (refine RL_head ?_;(simp only [go_sem,Int.reduceToNat,Nat.reducePow,Int.reduceEq,Int.reduceNe,Int.reduceLT,Int.reduceLE,Nat.reduceAdd,Nat.reduceLeDiff,↓reduceIte,Nat.reduceLT,Nat.reduceMul,Nat.reduceSub,reduceCtorEq,frzLoc,rowCells,vAppM,beq_iff_eq,bne_iff_ne,St.head,forget,vf309K0,RLK_some,vf309_res,vf309_keep,h1,h2,h3,w1]);refine vf309L0_go ?_;((repeat (first|refine RX_seq ?_|((first|refine sG rfl ?_|refine RX_draw rfl ?_);try (simp only [go_sem,Int.reduceToNat,Nat.reducePow,Int.reduceEq,Int.reduceNe,Int.reduceLT,Int.reduceLE,Nat.reduceAdd,Nat.reduceLeDiff,↓reduceIte,Nat.reduceLT,Nat.reduceMul,Nat.reduceSub,reduceCtorEq,frzLoc,rowCells,vAppM,beq_iff_eq,bne_iff_ne,vf309_res,vf309_keep,h1,h2,h3,w1]))))))
    (refine RL_head ?_;(simp only [go_sem,Int.reduceToNat,Nat.reducePow,Int.reduceEq,Int.reduceNe,Int.reduceLT,Int.reduceLE,Nat.reduceAdd,Nat.reduceLeDiff,↓reduceIte,Nat.reduceLT,Nat.reduceMul,Nat.reduceSub,reduceCtorEq,frzLoc,rowCells,vAppM,beq_iff_eq,bne_iff_ne,St.head,forget,vf309K0,RLK_some,vf309_res,vf309_keep,h1,h2,h3,w2]);refine vf309L0_go ?_;((repeat (first|refine RX_seq ?_|((first|refine sG rfl ?_|refine RX_draw rfl ?_);try (simp only [go_sem,Int.reduceToNat,Nat.reducePow,Int.reduceEq,Int.reduceNe,Int.reduceLT,Int.reduceLE,Nat.reduceAdd,Nat.reduceLeDiff,↓reduceIte,Nat.reduceLT,Nat.reduceMul,Nat.reduceSub,reduceCtorEq,frzLoc,rowCells,vAppM,beq_iff_eq,bne_iff_ne,vf309_res,vf309_keep,h1,h2,h3,w2]))))))
    (refine RL_head ?_;(simp only [go_sem,Int.reduceToNat,Nat.reducePow,Int.reduceEq,Int.reduceNe,Int.reduceLT,Int.reduceLE,Nat.reduceAdd,Nat.reduceLeDiff,↓reduceIte,Nat.reduceLT,Nat.reduceMul,Nat.reduceSub,reduceCtorEq,frzLoc,rowCells,vAppM,beq_iff_eq,bne_iff_ne,St.head,forget,vf309K0,RLK_some,vf309_res,vf309_keep,h1,h2,h3,w3]);refine vf309L0_go ?_;((repeat (first|refine RX_seq ?_|((first|refine sG rfl ?_|refine RX_draw rfl ?_);try (simp only [go_sem,Int.reduceToNat,Nat.reducePow,Int.reduceEq,Int.reduceNe,Int.reduceLT,Int.reduceLE,Nat.reduceAdd,Nat.reduceLeDiff,↓reduceIte,Nat.reduceLT,Nat.reduceMul,Nat.reduceSub,reduceCtorEq,frzLoc,rowCells,vAppM,beq_iff_eq,bne_iff_ne,vf309_res,vf309_keep,h1,h2,h3,w3]))))))
    (refine RL_head ?_;(simp only [go_sem,Int.reduceToNat,Nat.reducePow,Int.reduceEq,Int.reduceNe,Int.reduceLT,Int.reduceLE,Nat.reduceAdd,Nat.reduceLeDiff,↓reduceIte,Nat.reduceLT,Nat.reduceMul,Nat.reduceSub,reduceCtorEq,frzLoc,rowCells,vAppM,beq_iff_eq,bne_iff_ne,St.head,forget,vf309K0,RLK_some,vf309_res,vf309_keep,h1,h2,h3]);refine vf309L0_go ?_;((repeat (first|refine RX_seq ?_|((first|refine sG rfl ?_|refine RX_draw rfl ?_);try (simp only [go_sem,Int.reduceToNat,Nat.reducePow,Int.reduceEq,Int.reduceNe,Int.reduceLT,Int.reduceLE,Nat.reduceAdd,Nat.reduceLeDiff,↓reduceIte,Nat.reduceLT,Nat.reduceMul,Nat.reduceSub,reduceCtorEq,frzLoc,rowCells,vAppM,beq_iff_eq,bne_iff_ne,vf309_res,vf309_keep,h1,h2,h3]))))))
   ·(repeat (first|refine RX_seq ?_|((first|refine sG rfl ?_|refine RX_draw rfl ?_);try (simp only [go_sem,Int.reduceToNat,Nat.reducePow,Int.reduceEq,Int.reduceNe,Int.reduceLT,Int.reduceLE,Nat.reduceAdd,Nat.reduceLeDiff,↓reduceIte,Nat.reduceLT,Nat.reduceMul,Nat.reduceSub,reduceCtorEq,frzLoc,rowCells,vAppM,beq_iff_eq,bne_iff_ne,vf309_res,vf309_keep,h1,h2,h3]))))
    refine RX_loop ?_
    (refine RL_head ?_;(simp only [go_sem,Int.reduceToNat,Nat.reducePow,Int.reduceEq,Int.reduceNe,Int.reduceLT,Int.reduceLE,Nat.reduceAdd,Nat.reduceLeDiff,↓reduceIte,Nat.reduceLT,Nat.reduceMul,Nat.reduceSub,reduceCtorEq,frzLoc,rowCells,vAppM,beq_iff_eq,bne_iff_ne,St.head,forget,vf309K0,RLK_some,vf309_res,vf309_keep,h1,h2,h3,w1]);refine vf309L0_go ?_;((repeat (first|refine RX_seq ?_|((first|refine sG rfl ?_|refine RX_draw rfl ?_);try (simp only [go_sem,Int.reduceToNat,Nat.reducePow,Int.reduceEq,Int.reduceNe,Int.reduceLT,Int.reduceLE,Nat.reduceAdd,Nat.reduceLeDiff,↓reduceIte,Nat.reduceLT,Nat.reduceMul,Nat.reduceSub,reduceCtorEq,frzLoc,rowCells,vAppM,beq_iff_eq,bne_iff_ne,vf309_res,vf309_keep,h1,h2,h3,w1]))))))
    (refine RL_head ?_;(simp only [go_sem,Int.reduceToNat,Nat.reducePow,Int.reduceEq,Int.reduceNe,Int.reduceLT,Int.reduceLE,Nat.reduceAdd,Nat.reduceLeDiff,↓reduceIte,Nat.reduceLT,Nat.reduceMul,Nat.reduceSub,reduceCtorEq,frzLoc,rowCells,vAppM,beq_iff_eq,bne_iff_ne,St.head,forget,vf309K0,RLK_some,vf309_res,vf309_keep,h1,h2,h3,w2]);refine vf309L0_go ?_;((repeat (first|refine RX_seq ?_|((first|refine sG rfl ?_|refine RX_draw rfl ?_);try (simp only [go_sem,Int.reduceToNat,Nat.reducePow,Int.reduceEq,Int.reduceNe,Int.reduceLT,Int.reduceLE,Nat.reduceAdd,Nat.reduceLeDiff,↓reduceIte,Nat.reduceLT,Nat.reduceMul,Nat.reduceSub,reduceCtorEq,frzLoc,rowCells,vAppM,beq_iff_eq,bne_iff_ne,vf309_res,vf309_keep,h1,h2,h3,w2]))))))
    (refine RL_head ?_;(simp only [go_sem,Int.reduceToNat,Nat.reducePow,Int.reduceEq,Int.reduceNe,Int.reduceLT,Int.reduceLE,Nat.reduceAdd,Nat.reduceLeDiff,↓reduceIte,Nat.reduceLT,Nat.reduceMul,Nat.reduceSub,reduceCtorEq,frzLoc,rowCells,vAppM,beq_iff_eq,bne_iff_ne,St.head,forget,vf309K0,RLK_some,vf309_res,vf309_keep,h1,h2,h3]);refine vf309L0_go ?_;((repeat (first|refine RX_seq ?_|((first|refine sG rfl ?_|refine RX_draw rfl ?_);try (simp only [go_sem,Int.reduceToNat,Nat.reducePow,Int.reduceEq,Int.reduceNe,Int.reduceLT,Int.reduceLE,Nat.reduceAdd,Nat.reduceLeDiff,↓reduceIte,Nat.reduceLT,Nat.reduceMul,Nat.reduceSub,reduceCtorEq,frzLoc,rowCells,vAppM,beq_iff_eq,bne_iff_ne,vf309_res,vf309_keep,h1,h2,h3]))))))
  ·(repeat (first|refine RX_seq ?_|((first|refine sG rfl ?_|refine RX_draw rfl ?_);try (simp only [go_sem,Int.reduceToNat,Nat.reducePow,Int.reduceEq,Int.reduceNe,Int.reduceLT,Int.reduceLE,Nat.reduceAdd,Nat.reduceLeDiff,↓reduceIte,Nat.reduceLT,Nat.reduceMul,Nat.reduceSub,reduceCtorEq,frzLoc,rowCells,vAppM,beq_iff_eq,bne_iff_ne,vf309_res,vf309_keep,h1,h2]))))
   refine RX_loop ?_
   (refine RL_head ?_;(simp only [go_sem,Int.reduceToNat,Nat.reducePow,Int.reduceEq,Int.reduceNe,Int.reduceLT,Int.reduceLE,Nat.reduceAdd,Nat.reduceLeDiff,↓reduceIte,Nat.reduceLT,Nat.reduceMul,Nat.reduceSub,reduceCtorEq,frzLoc,rowCells,vAppM,beq_iff_eq,bne_iff_ne,St.head,forget,vf309K0,RLK_some,vf309_res,vf309_keep,h1,h2,w1]);refine vf309L0_go ?_;((repeat (first|refine RX_seq ?_|((first|refine sG rfl ?_|refine RX_draw rfl ?_);try (simp only [go_sem,Int.reduceToNat,Nat.reducePow,Int.reduceEq,Int.reduceNe,Int.reduceLT,Int.reduceLE,Nat.reduceAdd,Nat.reduceLeDiff,↓reduceIte,Nat.reduceLT,Nat.reduceMul,Nat.reduceSub,reduceCtorEq,frzLoc,rowCells,vAppM,beq_iff_eq,bne_iff_ne,vf309_res,vf309_keep,h1,h2,w1]))))))
   (refine RL_head ?_;(simp only [go_sem,Int.reduceToNat,Nat.reducePow,Int.reduceEq,Int.reduceNe,Int.reduceLT,Int.reduceLE,Nat.reduceAdd,Nat.reduceLeDiff,↓reduceIte,Nat.reduceLT,Nat.reduceMul,Nat.reduceSub,reduceCtorEq,frzLoc,rowCells,vAppM,beq_iff_eq,bne_iff_ne,St.head,forget,vf309K0,RLK_some,vf309_res,vf309_keep,h1,h2,w2]);refine vf309L0_go ?_;((repeat (first|refine RX_seq ?_|((first|refine sG rfl ?_|refine RX_draw rfl ?_);try (simp only [go_sem,Int.reduceToNat,Nat.reducePow,Int.reduceEq,Int.reduceNe,Int.reduceLT,Int.reduceLE,Nat.reduceAdd,Nat.reduceLeDiff,↓reduceIte,Nat.reduceLT,Nat.reduceMul,Nat.reduceSub,reduceCtorEq,frzLoc,rowCells,vAppM,beq_iff_eq,bne_iff_ne,vf309_res,vf309_keep,h1,h2,w2]))))))
 ·(repeat (first|refine RX_seq ?_|((first|refine sG rfl ?_|refine RX_draw rfl ?_);try (simp only [go_sem,Int.reduceToNat,Nat.reducePow,Int.reduceEq,Int.reduceNe,Int.reduceLT,Int.reduceLE,Nat.reduceAdd,Nat.reduceLeDiff,↓reduceIte,Nat.reduceLT,Nat.reduceMul,Nat.reduceSub,reduceCtorEq,frzLoc,rowCells,vAppM,beq_iff_eq,bne_iff_ne,vf309_res,vf309_keep,h1]))))
  refine RX_loop ?_
  (refine RL_head ?_;(simp only [go_sem,Int.reduceToNat,Nat.reducePow,Int.reduceEq,Int.reduceNe,Int.reduceLT,Int.reduceLE,Nat.reduceAdd,Nat.reduceLeDiff,↓reduceIte,Nat.reduceLT,Nat.reduceMul,Nat.reduceSub,reduceCtorEq,frzLoc,rowCells,vAppM,beq_iff_eq,bne_iff_ne,St.head,forget,vf309K0,RLK_some,vf309_res,vf309_keep,h1,w1]);refine vf309L0_go ?_;((repeat (first|refine RX_seq ?_|((first|refine sG rfl ?_|refine RX_draw rfl ?_);try (simp only [go_sem,Int.reduceToNat,Nat.reducePow,Int.reduceEq,Int.reduceNe,Int.reduceLT,Int.reduceLE,Nat.reduceAdd,Nat.reduceLeDiff,↓reduceIte,Nat.reduceLT,Nat.reduceMul,Nat.reduceSub,reduceCtorEq,frzLoc,rowCells,vAppM,beq_iff_eq,bne_iff_ne,vf309_res,vf309_keep,h1,w1]))))))
theorem e131 (f h a f' h' b:Int):CV VP 292 [.agg [.d (I f),.d (U h),.d (U a)],.agg [.d (I f'),.d (U h'),.d (U b)]] []=some ⟨.d (I (or3 (cmpI f f') (cmpI h h') (cmpI a b))),[],[],0⟩:=by
 refine CV_run (vf:=vf292) rfl rfl ?_
 rw [vf292_start]
 (repeat (first|refine RX_seq ?_|((first|refine sG rfl ?_|refine RX_draw rfl ?_);try (simp only [go_sem,Int.reduceToNat,Nat.reducePow,Int.reduceEq,Int.reduceNe,Int.reduceLT,Int.reduceLE,Nat.reduceAdd,Nat.reduceLeDiff,↓reduceIte,Nat.reduceLT,Nat.reduceMul,Nat.reduceSub,reduceCtorEq,frzLoc,rowCells,vAppM,beq_iff_eq,bne_iff_ne,vf292_res,vf292_keep,e133,e134,e132]))))
theorem e130 (n:Int):CV VP 291 [.d (I n)] []=some ⟨.agg [.d (I 0),.d (U 0),.d (U (IntKind.u64.wrap (IntKind.i64.wrap (n+1))))],[],[],0⟩:=by
 refine CV_run (vf:=vf291) rfl rfl ?_
 rw [vf291_start]
 (repeat (first|refine RX_seq ?_|((first|refine sG rfl ?_|refine RX_draw rfl ?_);try (simp only [go_sem,Int.reduceToNat,Nat.reducePow,Int.reduceEq,Int.reduceNe,Int.reduceLT,Int.reduceLE,Nat.reduceAdd,Nat.reduceLeDiff,↓reduceIte,Nat.reduceLT,Nat.reduceMul,Nat.reduceSub,reduceCtorEq,frzLoc,rowCells,vAppM,beq_iff_eq,bne_iff_ne,vf291_res,vf291_keep]))))
theorem e129 (n:Int):CV VP 271 [.d (I n)] []=some ⟨.agg [.d (I 0),.d (U 0),.d (U (IntKind.u64.wrap (IntKind.i64.wrap (n+1))))],[],[],0⟩:=by
 refine CV_run (vf:=vf271) rfl rfl ?_
 rw [vf271_start]
 (repeat (first|refine RX_seq ?_|((first|refine sG rfl ?_|refine RX_draw rfl ?_);try (simp only [go_sem,Int.reduceToNat,Nat.reducePow,Int.reduceEq,Int.reduceNe,Int.reduceLT,Int.reduceLE,Nat.reduceAdd,Nat.reduceLeDiff,↓reduceIte,Nat.reduceLT,Nat.reduceMul,Nat.reduceSub,reduceCtorEq,frzLoc,rowCells,vAppM,beq_iff_eq,bne_iff_ne,vf271_res,vf271_keep]))))
theorem e128 (f h a:Int):CV VP 270 [.agg [.d (I f),.d (U h),.d (U a)]] []=some ⟨.d (I (w (w a-1))),[],[],0⟩:=by
 refine CV_run (vf:=vf270) rfl rfl ?_
 rw [vf270_start]
 (repeat (first|refine RX_seq ?_|((first|refine sG rfl ?_|refine RX_draw rfl ?_);try (simp only [go_sem,Int.reduceToNat,Nat.reducePow,Int.reduceEq,Int.reduceNe,Int.reduceLT,Int.reduceLE,Nat.reduceAdd,Nat.reduceLeDiff,↓reduceIte,Nat.reduceLT,Nat.reduceMul,Nat.reduceSub,reduceCtorEq,frzLoc,rowCells,vAppM,beq_iff_eq,bne_iff_ne,vf270_res,vf270_keep]))))
theorem e127 (f h a:Int):CV VP 269 [.agg [.d (I f),.d (U h),.d (U a)]] []=some ⟨.agg [.d (I f),.d (U h),.d (U a)],[],[],0⟩:=by
 refine CV_run (vf:=vf269) rfl rfl ?_
 rw [vf269_start]
 (repeat (first|refine RX_seq ?_|((first|refine sG rfl ?_|refine RX_draw rfl ?_);try (simp only [go_sem,Int.reduceToNat,Nat.reducePow,Int.reduceEq,Int.reduceNe,Int.reduceLT,Int.reduceLE,Nat.reduceAdd,Nat.reduceLeDiff,↓reduceIte,Nat.reduceLT,Nat.reduceMul,Nat.reduceSub,reduceCtorEq,frzLoc,rowCells,vAppM,beq_iff_eq,bne_iff_ne,vf269_res,vf269_keep]))))
theorem e124 (f h a:Int):CV VP 266 [.agg [.d (I f),.d (U h),.d (U a)]] []=some ⟨.agg [.d (I f),.d (U h),.d (U a)],[],[],0⟩:=by
 refine CV_run (vf:=vf266) rfl rfl ?_
 rw [vf266_start]
 (repeat (first|refine RX_seq ?_|((first|refine sG rfl ?_|refine RX_draw rfl ?_);try (simp only [go_sem,Int.reduceToNat,Nat.reducePow,Int.reduceEq,Int.reduceNe,Int.reduceLT,Int.reduceLE,Nat.reduceAdd,Nat.reduceLeDiff,↓reduceIte,Nat.reduceLT,Nat.reduceMul,Nat.reduceSub,reduceCtorEq,frzLoc,rowCells,vAppM,beq_iff_eq,bne_iff_ne,vf266_res,vf266_keep]))))
theorem e125 (m n:Int):CV VP 267 [.d (I m),.d (I n)] []=some ⟨.agg [.d (I 0),.d (U 0),.d (U (IntKind.u64.wrap (IntKind.i64.wrap (m+1)))),.d (I 0),.d (U 0),.d (U (IntKind.u64.wrap (IntKind.i64.wrap (n+1))))],[],[],0⟩:=by
 refine CV_run (vf:=vf267) rfl rfl ?_
 rw [vf267_start]
 (repeat (first|refine RX_seq ?_|((first|refine sG rfl ?_|refine RX_draw rfl ?_);try (simp only [go_sem,Int.reduceToNat,Nat.reducePow,Int.reduceEq,Int.reduceNe,Int.reduceLT,Int.reduceLE,Nat.reduceAdd,Nat.reduceLeDiff,↓reduceIte,Nat.reduceLT,Nat.reduceMul,Nat.reduceSub,reduceCtorEq,frzLoc,rowCells,vAppM,beq_iff_eq,bne_iff_ne,vf267_res,vf267_keep,e130]))))
theorem e109t (f h a f' h' b:Int):CV VP 235 [.agg [.d (I f),.d (U h),.d (U a)],.agg [.d (I f'),.d (U h'),.d (U b)]] []=some ⟨.d (B (if f≠f' then decide (f<f') else if h≠h' then decide (h<h') else decide (a<b))),[],[],0⟩:=by
 refine CV_run (vf:=vf235) rfl rfl ?_
 rw [vf235_start]
 by_cases h1:f=f'
 ·by_cases h2:h=h'
  ·(repeat (first|refine RX_seq ?_|((first|refine sG rfl ?_|refine RX_draw rfl ?_);try (simp only [go_sem,Int.reduceToNat,Nat.reducePow,Int.reduceEq,Int.reduceNe,Int.reduceLT,Int.reduceLE,Nat.reduceAdd,Nat.reduceLeDiff,↓reduceIte,Nat.reduceLT,Nat.reduceMul,Nat.reduceSub,reduceCtorEq,frzLoc,rowCells,vAppM,beq_iff_eq,bne_iff_ne,vf235_res,vf235_keep,h1,h2]))))
  ·(repeat (first|refine RX_seq ?_|((first|refine sG rfl ?_|refine RX_draw rfl ?_);try (simp only [go_sem,Int.reduceToNat,Nat.reducePow,Int.reduceEq,Int.reduceNe,Int.reduceLT,Int.reduceLE,Nat.reduceAdd,Nat.reduceLeDiff,↓reduceIte,Nat.reduceLT,Nat.reduceMul,Nat.reduceSub,reduceCtorEq,frzLoc,rowCells,vAppM,beq_iff_eq,bne_iff_ne,vf235_res,vf235_keep,h1,h2]))))
 ·(repeat (first|refine RX_seq ?_|((first|refine sG rfl ?_|refine RX_draw rfl ?_);try (simp only [go_sem,Int.reduceToNat,Nat.reducePow,Int.reduceEq,Int.reduceNe,Int.reduceLT,Int.reduceLE,Nat.reduceAdd,Nat.reduceLeDiff,↓reduceIte,Nat.reduceLT,Nat.reduceMul,Nat.reduceSub,reduceCtorEq,frzLoc,rowCells,vAppM,beq_iff_eq,bne_iff_ne,vf235_res,vf235_keep,h1]))))
theorem cmpI_self (a:Int):cmpI a a=0:=by simp [cmpI]
theorem or3_00 (x:Int):or3 0 0 x=x:=by simp [or3]
theorem cmpI_pos {a b:Int}:(0<cmpI a b)↔(b<a):=by
 unfold cmpI
 split
 ·omega
 ·split<;>omega
theorem cmpI_neg {a b:Int}:(cmpI a b<0)↔(a<b):=by
 unfold cmpI
 split
 ·omega
 ·split<;>omega
theorem cmpI_le {a b:Int}:(cmpI a b≤0)↔(a≤b):=by
 unfold cmpI
 split
 ·omega
 ·split<;>omega
theorem or3_lt {a b:Int} (h:a<b) (y z:Int):or3 (cmpI a b) y z=-1:=by simp [or3,cmpI,h]
theorem or3_gt {a b:Int} (h:b<a) (y z:Int):or3 (cmpI a b) y z=1:=by
 have:¬a<b:=by omega
 simp [or3,cmpI,h,this]
theorem e126 (f h a b c d:Int):CV VP 268 [.agg [.d (I f),.d (U h),.d (U a),.d (I f),.d (U h),.d (U b)],.agg [.d (I f),.d (U h),.d (U c),.d (I f),.d (U h),.d (U d)]] []=some ⟨.tup [.agg [.d (I f),.d (U h),.d (U (max a c)),.d (I f),.d (U h),.d (U (min b d))],.d (B (decide (max a c≤min b d)))],[],[],0⟩:=by
 refine CV_run (vf:=vf268) rfl rfl ?_
 rw [vf268_start]
 by_cases h1:a<c
 ·have m1:max a c=c:=by omega
  by_cases h2:d<b
  ·have m2:min b d=d:=by omega
   (repeat (first|refine RX_seq ?_|((first|refine sG rfl ?_|refine RX_draw rfl ?_);try (simp only [go_sem,Int.reduceToNat,Nat.reducePow,Int.reduceEq,Int.reduceNe,Int.reduceLT,Int.reduceLE,Nat.reduceAdd,Nat.reduceLeDiff,↓reduceIte,Nat.reduceLT,Nat.reduceMul,Nat.reduceSub,reduceCtorEq,frzLoc,rowCells,vAppM,beq_iff_eq,bne_iff_ne,vf268_res,vf268_keep,e131,cmpI_self,or3_00,cmpI_pos,cmpI_neg,cmpI_le,gt_iff_lt,h1,h2,m1,m2]))))
  ·have m2:min b d=b:=by omega
   (repeat (first|refine RX_seq ?_|((first|refine sG rfl ?_|refine RX_draw rfl ?_);try (simp only [go_sem,Int.reduceToNat,Nat.reducePow,Int.reduceEq,Int.reduceNe,Int.reduceLT,Int.reduceLE,Nat.reduceAdd,Nat.reduceLeDiff,↓reduceIte,Nat.reduceLT,Nat.reduceMul,Nat.reduceSub,reduceCtorEq,frzLoc,rowCells,vAppM,beq_iff_eq,bne_iff_ne,vf268_res,vf268_keep,e131,cmpI_self,or3_00,cmpI_pos,cmpI_neg,cmpI_le,gt_iff_lt,h1,h2,m1,m2]))))
 ·have m1:max a c=a:=by omega
  by_cases h2:d<b
  ·have m2:min b d=d:=by omega
   (repeat (first|refine RX_seq ?_|((first|refine sG rfl ?_|refine RX_draw rfl ?_);try (simp only [go_sem,Int.reduceToNat,Nat.reducePow,Int.reduceEq,Int.reduceNe,Int.reduceLT,Int.reduceLE,Nat.reduceAdd,Nat.reduceLeDiff,↓reduceIte,Nat.reduceLT,Nat.reduceMul,Nat.reduceSub,reduceCtorEq,frzLoc,rowCells,vAppM,beq_iff_eq,bne_iff_ne,vf268_res,vf268_keep,e131,cmpI_self,or3_00,cmpI_pos,cmpI_neg,cmpI_le,gt_iff_lt,h1,h2,m1,m2]))))
  ·have m2:min b d=b:=by omega
   (repeat (first|refine RX_seq ?_|((first|refine sG rfl ?_|refine RX_draw rfl ?_);try (simp only [go_sem,Int.reduceToNat,Nat.reducePow,Int.reduceEq,Int.reduceNe,Int.reduceLT,Int.reduceLE,Nat.reduceAdd,Nat.reduceLeDiff,↓reduceIte,Nat.reduceLT,Nat.reduceMul,Nat.reduceSub,reduceCtorEq,frzLoc,rowCells,vAppM,beq_iff_eq,bne_iff_ne,vf268_res,vf268_keep,e131,cmpI_self,or3_00,cmpI_pos,cmpI_neg,cmpI_le,gt_iff_lt,h1,h2,m1,m2]))))
theorem e126l (f h a b f' h' c d:Int) (hf:f<f'):CV VP 268 [.agg [.d (I f),.d (U h),.d (U a),.d (I f),.d (U h),.d (U b)],.agg [.d (I f'),.d (U h'),.d (U c),.d (I f'),.d (U h'),.d (U d)]] []=some ⟨.tup [.agg [.d (I f'),.d (U h'),.d (U c),.d (I f),.d (U h),.d (U b)],.d (B false)],[],[],0⟩:=by
 refine CV_run (vf:=vf268) rfl rfl ?_
 rw [vf268_start]
 (repeat (first|refine RX_seq ?_|((first|refine sG rfl ?_|refine RX_draw rfl ?_);try (simp only [go_sem,Int.reduceToNat,Nat.reducePow,Int.reduceEq,Int.reduceNe,Int.reduceLT,Int.reduceLE,Nat.reduceAdd,Nat.reduceLeDiff,↓reduceIte,Nat.reduceLT,Nat.reduceMul,Nat.reduceSub,reduceCtorEq,frzLoc,rowCells,vAppM,beq_iff_eq,bne_iff_ne,vf268_res,vf268_keep,e131,or3_lt hf,or3_gt hf,gt_iff_lt]))))
theorem e126g (f h a b f' h' c d:Int) (hf:f'<f):CV VP 268 [.agg [.d (I f),.d (U h),.d (U a),.d (I f),.d (U h),.d (U b)],.agg [.d (I f'),.d (U h'),.d (U c),.d (I f'),.d (U h'),.d (U d)]] []=some ⟨.tup [.agg [.d (I f),.d (U h),.d (U a),.d (I f'),.d (U h'),.d (U d)],.d (B false)],[],[],0⟩:=by
 refine CV_run (vf:=vf268) rfl rfl ?_
 rw [vf268_start]
 (repeat (first|refine RX_seq ?_|((first|refine sG rfl ?_|refine RX_draw rfl ?_);try (simp only [go_sem,Int.reduceToNat,Nat.reducePow,Int.reduceEq,Int.reduceNe,Int.reduceLT,Int.reduceLE,Nat.reduceAdd,Nat.reduceLeDiff,↓reduceIte,Nat.reduceLT,Nat.reduceMul,Nat.reduceSub,reduceCtorEq,frzLoc,rowCells,vAppM,beq_iff_eq,bne_iff_ne,vf268_res,vf268_keep,e131,or3_lt hf,or3_gt hf,gt_iff_lt]))))
theorem e112 (f h a0 a1 a2 a3 a4 b0 b1 b2 b3 b4 c0 c1 c2 c3 c4 d0 d1 d2 d3 d4:Int):CV VP 228 [.agg [.d (I f),.d (U h),.d (U a0),.d (I f),.d (U h),.d (U b0),.d (I f),.d (U h),.d (U a1),.d (I f),.d (U h),.d (U b1),.d (I 0),.d (U 0),.d (U a2),.d (I 0),.d (U 0),.d (U b2),.d (I 0),.d (U 0),.d (U a3),.d (I 0),.d (U 0),.d (U b3),.d (I 0),.d (U 0),.d (U a4),.d (I 0),.d (U 0),.d (U b4)],.agg [.d (I f),.d (U h),.d (U c0),.d (I f),.d (U h),.d (U d0),.d (I f),.d (U h),.d (U c1),.d (I f),.d (U h),.d (U d1),.d (I 0),.d (U 0),.d (U c2),.d (I 0),.d (U 0),.d (U d2),.d (I 0),.d (U 0),.d (U c3),.d (I 0),.d (U 0),.d (U d3),.d (I 0),.d (U 0),.d (U c4),.d (I 0),.d (U 0),.d (U d4)]] []=some (if max a0 c0≤min b0 d0∧max a1 c1≤min b1 d1∧max a2 c2≤min b2 d2∧max a3 c3≤min b3 d3∧max a4 c4≤min b4 d4 then ⟨.tup [.agg [.d (I f),.d (U h),.d (U (max a0 c0)),.d (I f),.d (U h),.d (U (min b0 d0)),.d (I f),.d (U h),.d (U (max a1 c1)),.d (I f),.d (U h),.d (U (min b1 d1)),.d (I 0),.d (U 0),.d (U (max a2 c2)),.d (I 0),.d (U 0),.d (U (min b2 d2)),.d (I 0),.d (U 0),.d (U (max a3 c3)),.d (I 0),.d (U 0),.d (U (min b3 d3)),.d (I 0),.d (U 0),.d (U (max a4 c4)),.d (I 0),.d (U 0),.d (U (min b4 d4))],.d (B true)],[],[],0⟩ else ⟨.tup [.agg [.d (I 0),.d (U 0),.d (U 0),.d (I 0),.d (U 0),.d (U 0),.d (I 0),.d (U 0),.d (U 0),.d (I 0),.d (U 0),.d (U 0),.d (I 0),.d (U 0),.d (U 0),.d (I 0),.d (U 0),.d (U 0),.d (I 0),.d (U 0),.d (U 0),.d (I 0),.d (U 0),.d (U 0),.d (I 0),.d (U 0),.d (U 0),.d (I 0),.d (U 0),.d (U 0)],.d (B false)],[],[],0⟩):=by
 have w1:IntKind.i64.wrap (0+1)=1:=rfl
 have w2:IntKind.i64.wrap (1+1)=2:=rfl
 have w3:IntKind.i64.wrap (2+1)=3:=rfl
 have w4:IntKind.i64.wrap (3+1)=4:=rfl
 have w5:IntKind.i64.wrap (4+1)=5:=rfl
 refine CV_run (vf:=vf228) rfl rfl ?_
 rw [vf228_start]
 (repeat (first|refine RX_seq ?_|((first|refine sG rfl ?_|refine RX_draw rfl ?_);try (simp only [go_sem,Int.reduceToNat,Nat.reducePow,Int.reduceEq,Int.reduceNe,Int.reduceLT,Int.reduceLE,Nat.reduceAdd,Nat.reduceLeDiff,↓reduceIte,Nat.reduceLT,Nat.reduceMul,Nat.reduceSub,reduceCtorEq,frzLoc,rowCells,vAppM,beq_iff_eq,bne_iff_ne,vf228_res,vf228_keep,e126]))))
 refine RX_loop ?_
 by_cases h0:max a0 c0≤min b0 d0
 ·(refine RL_head ?_;(simp only [go_sem,Int.reduceToNat,Nat.reducePow,Int.reduceEq,Int.reduceNe,Int.reduceLT,Int.reduceLE,Nat.reduceAdd,Nat.reduceLeDiff,↓reduceIte,Nat.reduceLT,Nat.reduceMul,Nat.reduceSub,reduceCtorEq,frzLoc,rowCells,vAppM,beq_iff_eq,bne_iff_ne,St.head,forget,vf228K0,RLK_some,vf228_res,vf228_keep,e126,h0,w1,true_and,and_true,false_and,and_false]);refine vf228L0_go ?_;((repeat (first|refine RX_seq ?_|((first|refine sG rfl ?_|refine RX_draw rfl ?_);try (simp only [go_sem,Int.reduceToNat,Nat.reducePow,Int.reduceEq,Int.reduceNe,Int.reduceLT,Int.reduceLE,Nat.reduceAdd,Nat.reduceLeDiff,↓reduceIte,Nat.reduceLT,Nat.reduceMul,Nat.reduceSub,reduceCtorEq,frzLoc,rowCells,vAppM,beq_iff_eq,bne_iff_ne,vf228_res,vf228_keep,e126,h0,w1,true_and,and_true,false_and,and_false]))))))
  by_cases h1:max a1 c1≤min b1 d1
  ·(refine RL_head ?_;(simp only [go_sem,Int.reduceToNat,Nat.reducePow,Int.reduceEq,Int.reduceNe,Int.reduceLT,Int.reduceLE,Nat.reduceAdd,Nat.reduceLeDiff,↓reduceIte,Nat.reduceLT,Nat.reduceMul,Nat.reduceSub,reduceCtorEq,frzLoc,rowCells,vAppM,beq_iff_eq,bne_iff_ne,St.head,forget,vf228K0,RLK_some,vf228_res,vf228_keep,e126,h0,h1,w2,true_and,and_true,false_and,and_false]);refine vf228L0_go ?_;((repeat (first|refine RX_seq ?_|((first|refine sG rfl ?_|refine RX_draw rfl ?_);try (simp only [go_sem,Int.reduceToNat,Nat.reducePow,Int.reduceEq,Int.reduceNe,Int.reduceLT,Int.reduceLE,Nat.reduceAdd,Nat.reduceLeDiff,↓reduceIte,Nat.reduceLT,Nat.reduceMul,Nat.reduceSub,reduceCtorEq,frzLoc,rowCells,vAppM,beq_iff_eq,bne_iff_ne,vf228_res,vf228_keep,e126,h0,h1,w2,true_and,and_true,false_and,and_false]))))))
   by_cases h2:max a2 c2≤min b2 d2
   ·(refine RL_head ?_;(simp only [go_sem,Int.reduceToNat,Nat.reducePow,Int.reduceEq,Int.reduceNe,Int.reduceLT,Int.reduceLE,Nat.reduceAdd,Nat.reduceLeDiff,↓reduceIte,Nat.reduceLT,Nat.reduceMul,Nat.reduceSub,reduceCtorEq,frzLoc,rowCells,vAppM,beq_iff_eq,bne_iff_ne,St.head,forget,vf228K0,RLK_some,vf228_res,vf228_keep,e126,h0,h1,h2,w3,true_and,and_true,false_and,and_false]);refine vf228L0_go ?_;((repeat (first|refine RX_seq ?_|((first|refine sG rfl ?_|refine RX_draw rfl ?_);try (simp only [go_sem,Int.reduceToNat,Nat.reducePow,Int.reduceEq,Int.reduceNe,Int.reduceLT,Int.reduceLE,Nat.reduceAdd,Nat.reduceLeDiff,↓reduceIte,Nat.reduceLT,Nat.reduceMul,Nat.reduceSub,reduceCtorEq,frzLoc,rowCells,vAppM,beq_iff_eq,bne_iff_ne,vf228_res,vf228_keep,e126,h0,h1,h2,w3,true_and,and_true,false_and,and_false]))))))
    by_cases h3:max a3 c3≤min b3 d3
    ·(refine RL_head ?_;(simp only [go_sem,Int.reduceToNat,Nat.reducePow,Int.reduceEq,Int.reduceNe,Int.reduceLT,Int.reduceLE,Nat.reduceAdd,Nat.reduceLeDiff,↓reduceIte,Nat.reduceLT,Nat.reduceMul,Nat.reduceSub,reduceCtorEq,frzLoc,rowCells,vAppM,beq_iff_eq,bne_iff_ne,St.head,forget,vf228K0,RLK_some,vf228_res,vf228_keep,e126,h0,h1,h2,h3,w4,true_and,and_true,false_and,and_false]);refine vf228L0_go ?_;((repeat (first|refine RX_seq ?_|((first|refine sG rfl ?_|refine RX_draw rfl ?_);try (simp only [go_sem,Int.reduceToNat,Nat.reducePow,Int.reduceEq,Int.reduceNe,Int.reduceLT,Int.reduceLE,Nat.reduceAdd,Nat.reduceLeDiff,↓reduceIte,Nat.reduceLT,Nat.reduceMul,Nat.reduceSub,reduceCtorEq,frzLoc,rowCells,vAppM,beq_iff_eq,bne_iff_ne,vf228_res,vf228_keep,e126,h0,h1,h2,h3,w4,true_and,and_true,false_and,and_false]))))))
     by_cases h4:max a4 c4≤min b4 d4
     ·(refine RL_head ?_;(simp only [go_sem,Int.reduceToNat,Nat.reducePow,Int.reduceEq,Int.reduceNe,Int.reduceLT,Int.reduceLE,Nat.reduceAdd,Nat.reduceLeDiff,↓reduceIte,Nat.reduceLT,Nat.reduceMul,Nat.reduceSub,reduceCtorEq,frzLoc,rowCells,vAppM,beq_iff_eq,bne_iff_ne,St.head,forget,vf228K0,RLK_some,vf228_res,vf228_keep,e126,h0,h1,h2,h3,h4,w5,true_and,and_true,false_and,and_false]);refine vf228L0_go ?_;((repeat (first|refine RX_seq ?_|((first|refine sG rfl ?_|refine RX_draw rfl ?_);try (simp only [go_sem,Int.reduceToNat,Nat.reducePow,Int.reduceEq,Int.reduceNe,Int.reduceLT,Int.reduceLE,Nat.reduceAdd,Nat.reduceLeDiff,↓reduceIte,Nat.reduceLT,Nat.reduceMul,Nat.reduceSub,reduceCtorEq,frzLoc,rowCells,vAppM,beq_iff_eq,bne_iff_ne,vf228_res,vf228_keep,e126,h0,h1,h2,h3,h4,w5,true_and,and_true,false_and,and_false]))))))
      (refine RL_head ?_;(simp only [go_sem,Int.reduceToNat,Nat.reducePow,Int.reduceEq,Int.reduceNe,Int.reduceLT,Int.reduceLE,Nat.reduceAdd,Nat.reduceLeDiff,↓reduceIte,Nat.reduceLT,Nat.reduceMul,Nat.reduceSub,reduceCtorEq,frzLoc,rowCells,vAppM,beq_iff_eq,bne_iff_ne,St.head,forget,vf228K0,RLK_some,vf228_res,vf228_keep,e126,h0,h1,h2,h3,h4,true_and,and_true,false_and,and_false]);refine vf228L0_go ?_;((repeat (first|refine RX_seq ?_|((first|refine sG rfl ?_|refine RX_draw rfl ?_);try (simp only [go_sem,Int.reduceToNat,Nat.reducePow,Int.reduceEq,Int.reduceNe,Int.reduceLT,Int.reduceLE,Nat.reduceAdd,Nat.reduceLeDiff,↓reduceIte,Nat.reduceLT,Nat.reduceMul,Nat.reduceSub,reduceCtorEq,frzLoc,rowCells,vAppM,beq_iff_eq,bne_iff_ne,vf228_res,vf228_keep,e126,h0,h1,h2,h3,h4,true_and,and_true,false_and,and_false]))))))
     ·(refine RL_head ?_;(simp only [go_sem,Int.reduceToNat,Nat.reducePow,Int.reduceEq,Int.reduceNe,Int.reduceLT,Int.reduceLE,Nat.reduceAdd,Nat.reduceLeDiff,↓reduceIte,Nat.reduceLT,Nat.reduceMul,Nat.reduceSub,reduceCtorEq,frzLoc,rowCells,vAppM,beq_iff_eq,bne_iff_ne,St.head,forget,vf228K0,RLK_some,vf228_res,vf228_keep,e126,h0,h1,h2,h3,h4,w5,true_and,and_true,false_and,and_false]);refine vf228L0_go ?_;((repeat (first|refine RX_seq ?_|((first|refine sG rfl ?_|refine RX_draw rfl ?_);try (simp only [go_sem,Int.reduceToNat,Nat.reducePow,Int.reduceEq,Int.reduceNe,Int.reduceLT,Int.reduceLE,Nat.reduceAdd,Nat.reduceLeDiff,↓reduceIte,Nat.reduceLT,Nat.reduceMul,Nat.reduceSub,reduceCtorEq,frzLoc,rowCells,vAppM,beq_iff_eq,bne_iff_ne,vf228_res,vf228_keep,e126,h0,h1,h2,h3,h4,w5,true_and,and_true,false_and,and_false]))))))
    ·(refine RL_head ?_;(simp only [go_sem,Int.reduceToNat,Nat.reducePow,Int.reduceEq,Int.reduceNe,Int.reduceLT,Int.reduceLE,Nat.reduceAdd,Nat.reduceLeDiff,↓reduceIte,Nat.reduceLT,Nat.reduceMul,Nat.reduceSub,reduceCtorEq,frzLoc,rowCells,vAppM,beq_iff_eq,bne_iff_ne,St.head,forget,vf228K0,RLK_some,vf228_res,vf228_keep,e126,h0,h1,h2,h3,w4,true_and,and_true,false_and,and_false]);refine vf228L0_go ?_;((repeat (first|refine RX_seq ?_|((first|refine sG rfl ?_|refine RX_draw rfl ?_);try (simp only [go_sem,Int.reduceToNat,Nat.reducePow,Int.reduceEq,Int.reduceNe,Int.reduceLT,Int.reduceLE,Nat.reduceAdd,Nat.reduceLeDiff,↓reduceIte,Nat.reduceLT,Nat.reduceMul,Nat.reduceSub,reduceCtorEq,frzLoc,rowCells,vAppM,beq_iff_eq,bne_iff_ne,vf228_res,vf228_keep,e126,h0,h1,h2,h3,w4,true_and,and_true,false_and,and_false]))))))
   ·(refine RL_head ?_;(simp only [go_sem,Int.reduceToNat,Nat.reducePow,Int.reduceEq,Int.reduceNe,Int.reduceLT,Int.reduceLE,Nat.reduceAdd,Nat.reduceLeDiff,↓reduceIte,Nat.reduceLT,Nat.reduceMul,Nat.reduceSub,reduceCtorEq,frzLoc,rowCells,vAppM,beq_iff_eq,bne_iff_ne,St.head,forget,vf228K0,RLK_some,vf228_res,vf228_keep,e126,h0,h1,h2,w3,true_and,and_true,false_and,and_false]);refine vf228L0_go ?_;((repeat (first|refine RX_seq ?_|((first|refine sG rfl ?_|refine RX_draw rfl ?_);try (simp only [go_sem,Int.reduceToNat,Nat.reducePow,Int.reduceEq,Int.reduceNe,Int.reduceLT,Int.reduceLE,Nat.reduceAdd,Nat.reduceLeDiff,↓reduceIte,Nat.reduceLT,Nat.reduceMul,Nat.reduceSub,reduceCtorEq,frzLoc,rowCells,vAppM,beq_iff_eq,bne_iff_ne,vf228_res,vf228_keep,e126,h0,h1,h2,w3,true_and,and_true,false_and,and_false]))))))
  ·(refine RL_head ?_;(simp only [go_sem,Int.reduceToNat,Nat.reducePow,Int.reduceEq,Int.reduceNe,Int.reduceLT,Int.reduceLE,Nat.reduceAdd,Nat.reduceLeDiff,↓reduceIte,Nat.reduceLT,Nat.reduceMul,Nat.reduceSub,reduceCtorEq,frzLoc,rowCells,vAppM,beq_iff_eq,bne_iff_ne,St.head,forget,vf228K0,RLK_some,vf228_res,vf228_keep,e126,h0,h1,w2,true_and,and_true,false_and,and_false]);refine vf228L0_go ?_;((repeat (first|refine RX_seq ?_|((first|refine sG rfl ?_|refine RX_draw rfl ?_);try (simp only [go_sem,Int.reduceToNat,Nat.reducePow,Int.reduceEq,Int.reduceNe,Int.reduceLT,Int.reduceLE,Nat.reduceAdd,Nat.reduceLeDiff,↓reduceIte,Nat.reduceLT,Nat.reduceMul,Nat.reduceSub,reduceCtorEq,frzLoc,rowCells,vAppM,beq_iff_eq,bne_iff_ne,vf228_res,vf228_keep,e126,h0,h1,w2,true_and,and_true,false_and,and_false]))))))
 ·(refine RL_head ?_;(simp only [go_sem,Int.reduceToNat,Nat.reducePow,Int.reduceEq,Int.reduceNe,Int.reduceLT,Int.reduceLE,Nat.reduceAdd,Nat.reduceLeDiff,↓reduceIte,Nat.reduceLT,Nat.reduceMul,Nat.reduceSub,reduceCtorEq,frzLoc,rowCells,vAppM,beq_iff_eq,bne_iff_ne,St.head,forget,vf228K0,RLK_some,vf228_res,vf228_keep,e126,h0,w1,true_and,and_true,false_and,and_false]);refine vf228L0_go ?_;((repeat (first|refine RX_seq ?_|((first|refine sG rfl ?_|refine RX_draw rfl ?_);try (simp only [go_sem,Int.reduceToNat,Nat.reducePow,Int.reduceEq,Int.reduceNe,Int.reduceLT,Int.reduceLE,Nat.reduceAdd,Nat.reduceLeDiff,↓reduceIte,Nat.reduceLT,Nat.reduceMul,Nat.reduceSub,reduceCtorEq,frzLoc,rowCells,vAppM,beq_iff_eq,bne_iff_ne,vf228_res,vf228_keep,e126,h0,w1,true_and,and_true,false_and,and_false]))))))
theorem e112d (f h f' h' a0 a1 a2 a3 a4 b0 b1 b2 b3 b4 c0 c1 c2 c3 c4 d0 d1 d2 d3 d4:Int) (hf:f≠f'):CV VP 228 [.agg [.d (I f),.d (U h),.d (U a0),.d (I f),.d (U h),.d (U b0),.d (I f),.d (U h),.d (U a1),.d (I f),.d (U h),.d (U b1),.d (I 0),.d (U 0),.d (U a2),.d (I 0),.d (U 0),.d (U b2),.d (I 0),.d (U 0),.d (U a3),.d (I 0),.d (U 0),.d (U b3),.d (I 0),.d (U 0),.d (U a4),.d (I 0),.d (U 0),.d (U b4)],.agg [.d (I f'),.d (U h'),.d (U c0),.d (I f'),.d (U h'),.d (U d0),.d (I f'),.d (U h'),.d (U c1),.d (I f'),.d (U h'),.d (U d1),.d (I 0),.d (U 0),.d (U c2),.d (I 0),.d (U 0),.d (U d2),.d (I 0),.d (U 0),.d (U c3),.d (I 0),.d (U 0),.d (U d3),.d (I 0),.d (U 0),.d (U c4),.d (I 0),.d (U 0),.d (U d4)]] []=some ⟨.tup [.agg [.d (I 0),.d (U 0),.d (U 0),.d (I 0),.d (U 0),.d (U 0),.d (I 0),.d (U 0),.d (U 0),.d (I 0),.d (U 0),.d (U 0),.d (I 0),.d (U 0),.d (U 0),.d (I 0),.d (U 0),.d (U 0),.d (I 0),.d (U 0),.d (U 0),.d (I 0),.d (U 0),.d (U 0),.d (I 0),.d (U 0),.d (U 0),.d (I 0),.d (U 0),.d (U 0)],.d (B false)],[],[],0⟩:=by
 rcases Int.lt_or_gt_of_ne hf with h0|h0
 ·have q:=e126l f h a0 b0 f' h' c0 d0 h0
  refine CV_run (vf:=vf228) rfl rfl ?_
  rw [vf228_start]
  (repeat (first|refine RX_seq ?_|((first|refine sG rfl ?_|refine RX_draw rfl ?_);try (simp only [go_sem,Int.reduceToNat,Nat.reducePow,Int.reduceEq,Int.reduceNe,Int.reduceLT,Int.reduceLE,Nat.reduceAdd,Nat.reduceLeDiff,↓reduceIte,Nat.reduceLT,Nat.reduceMul,Nat.reduceSub,reduceCtorEq,frzLoc,rowCells,vAppM,beq_iff_eq,bne_iff_ne,vf228_res,vf228_keep]))))
  refine RX_loop ?_
  (refine RL_head ?_;(simp only [go_sem,Int.reduceToNat,Nat.reducePow,Int.reduceEq,Int.reduceNe,Int.reduceLT,Int.reduceLE,Nat.reduceAdd,Nat.reduceLeDiff,↓reduceIte,Nat.reduceLT,Nat.reduceMul,Nat.reduceSub,reduceCtorEq,frzLoc,rowCells,vAppM,beq_iff_eq,bne_iff_ne,St.head,forget,vf228K0,RLK_some,vf228_res,vf228_keep,q]);refine vf228L0_go ?_;((repeat (first|refine RX_seq ?_|((first|refine sG rfl ?_|refine RX_draw rfl ?_);try (simp only [go_sem,Int.reduceToNat,Nat.reducePow,Int.reduceEq,Int.reduceNe,Int.reduceLT,Int.reduceLE,Nat.reduceAdd,Nat.reduceLeDiff,↓reduceIte,Nat.reduceLT,Nat.reduceMul,Nat.reduceSub,reduceCtorEq,frzLoc,rowCells,vAppM,beq_iff_eq,bne_iff_ne,vf228_res,vf228_keep,q]))))))
 ·have q:=e126g f h a0 b0 f' h' c0 d0 h0
  refine CV_run (vf:=vf228) rfl rfl ?_
  rw [vf228_start]
  (repeat (first|refine RX_seq ?_|((first|refine sG rfl ?_|refine RX_draw rfl ?_);try (simp only [go_sem,Int.reduceToNat,Nat.reducePow,Int.reduceEq,Int.reduceNe,Int.reduceLT,Int.reduceLE,Nat.reduceAdd,Nat.reduceLeDiff,↓reduceIte,Nat.reduceLT,Nat.reduceMul,Nat.reduceSub,reduceCtorEq,frzLoc,rowCells,vAppM,beq_iff_eq,bne_iff_ne,vf228_res,vf228_keep]))))
  refine RX_loop ?_
  (refine RL_head ?_;(simp only [go_sem,Int.reduceToNat,Nat.reducePow,Int.reduceEq,Int.reduceNe,Int.reduceLT,Int.reduceLE,Nat.reduceAdd,Nat.reduceLeDiff,↓reduceIte,Nat.reduceLT,Nat.reduceMul,Nat.reduceSub,reduceCtorEq,frzLoc,rowCells,vAppM,beq_iff_eq,bne_iff_ne,St.head,forget,vf228K0,RLK_some,vf228_res,vf228_keep,q]);refine vf228L0_go ?_;((repeat (first|refine RX_seq ?_|((first|refine sG rfl ?_|refine RX_draw rfl ?_);try (simp only [go_sem,Int.reduceToNat,Nat.reducePow,Int.reduceEq,Int.reduceNe,Int.reduceLT,Int.reduceLE,Nat.reduceAdd,Nat.reduceLeDiff,↓reduceIte,Nat.reduceLT,Nat.reduceMul,Nat.reduceSub,reduceCtorEq,frzLoc,rowCells,vAppM,beq_iff_eq,bne_iff_ne,vf228_res,vf228_keep,q]))))))
theorem num_u {n:Int} (h:num n):IntKind.u64.wrap (IntKind.i64.wrap (n+1))=n+1:=by
 obtain ⟨h1,h2⟩:=h
 rw [w_in (by omega) (by omega)]
 simp [IntKind.wrap,IntKind.signed,IntKind.bits]
 omega
theorem num_d {n:Int} (h1:0≤n) (h2:n≤65536):IntKind.i64.wrap (IntKind.i64.wrap n-1)=n-1:=by
 rw [w_in (x:=n) (by omega) (by omega),w_in (by omega) (by omega)]
theorem e111 (f h a0 b0 a1 b1 p0 p1 l0 l1 r0 r1:Int) (h1:num p0) (h2:num p1) (h3:num l0) (h4:num l1) (h5:num r0) (h6:num r1) :
  CV VP 227 [bxV f h a0 b0 a1 b1 p0 p1 l0 l1 r0 r1] []=some ⟨.agg [.d (I f),.d (U h),.d (U a0),.d (I f),.d (U h),.d (U b0),.d (I f),.d (U h),.d (U a1),.d (I f),.d (U h),.d (U b1),.d (I 0),.d (U 0),.d (U (p0+1)),.d (I 0),.d (U 0),.d (U (p1+1)),.d (I 0),.d (U 0),.d (U (l0+1)),.d (I 0),.d (U 0),.d (U (l1+1)),.d (I 0),.d (U 0),.d (U (r0+1)),.d (I 0),.d (U 0),.d (U (r1+1))],[],[],0⟩:=by
 refine CV_run (vf:=vf227) rfl rfl ?_
 rw [vf227_start]
 (repeat (first|refine RX_seq ?_|((first|refine sG rfl ?_|refine RX_draw rfl ?_);try (simp only [go_sem,simprocAttr,frzLoc,rowCells,vAppM,beq_iff_eq,bne_iff_ne,vf227_res,vf227_keep,e124,e125,num_u h1,num_u h2,num_u h3,num_u h4,num_u h5,num_u h6]))))
theorem e113 (f h a0 b0 a1 b1 p0 p1 l0 l1 r0 r1:Int) (h1:num (p0-1)) (h2:num (p1-1)) (h3:num (l0-1)) (h4:num (l1-1)) (h5:num (r0-1)) (h6:num (r1-1)) :
  CV VP 229 [.agg [.d (I f),.d (U h),.d (U a0),.d (I f),.d (U h),.d (U b0),.d (I f),.d (U h),.d (U a1),.d (I f),.d (U h),.d (U b1),.d (I 0),.d (U 0),.d (U p0),.d (I 0),.d (U 0),.d (U p1),.d (I 0),.d (U 0),.d (U l0),.d (I 0),.d (U 0),.d (U l1),.d (I 0),.d (U 0),.d (U r0),.d (I 0),.d (U 0),.d (U r1)]] []=some ⟨bxV f h a0 b0 a1 b1 (p0-1) (p1-1) (l0-1) (l1-1) (r0-1) (r1-1),[],[],0⟩:=by
 have n1:=num_d (n:=p0) (by unfold num at h1;omega) (by unfold num at h1;omega)
 have n2:=num_d (n:=p1) (by unfold num at h2;omega) (by unfold num at h2;omega)
 have n3:=num_d (n:=l0) (by unfold num at h3;omega) (by unfold num at h3;omega)
 have n4:=num_d (n:=l1) (by unfold num at h4;omega) (by unfold num at h4;omega)
 have n5:=num_d (n:=r0) (by unfold num at h5;omega) (by unfold num at h5;omega)
 have n6:=num_d (n:=r1) (by unfold num at h6;omega) (by unfold num at h6;omega)
 refine CV_run (vf:=vf229) rfl rfl ?_
 rw [vf229_start]
 (repeat (first|refine RX_seq ?_|((first|refine sG rfl ?_|refine RX_draw rfl ?_);try (simp only [go_sem,simprocAttr,frzLoc,rowCells,vAppM,beq_iff_eq,bne_iff_ne,vf229_res,vf229_keep,e127,e128,n1,n2,n3,n4,n5,n6]))))
open Classical in
noncomputable def Bx.meetR (x y:Bx):Ret:=if x.f=y.f∧x.over y then ⟨.tup [(x.meet y).ag,.d (B true)],[],[],0⟩ else ⟨.tup [Bx.zero.ag,.d (B false)],[],[],0⟩
theorem num_max {a b:Int} (h:num a) (h':num b):num (max (a+1) (b+1)-1):=by unfold num at *;omega
theorem num_min {a b:Int} (h:num a) (h':num b):num (min (a+1) (b+1)-1):=by unfold num at *;omega
theorem max1 (a b:Int):max (a+1) (b+1)-1=max a b:=by omega
theorem min1 (a b:Int):min (a+1) (b+1)-1=min a b:=by omega
theorem mm1 (a b c d:Int):max (a+1) (b+1)≤min (c+1) (d+1)↔max a b≤min c d:=by omega
set_option maxHeartbeats 1000000 in
theorem e92 (x y:Bx) (hx:x.ok) (hy:y.ok):CV VP 204 [x.ag,y.ag] []=some (x.meetR y):=by
 have x1:=e111 x.f x.h x.a0 x.b0 x.a1 x.b1 x.p0 x.p1 x.l0 x.l1 x.r0 x.r1 hx.p0 hx.p1 hx.l0 hx.l1 hx.r0 hx.r1
 have y1:=e111 y.f y.h y.a0 y.b0 y.a1 y.b1 y.p0 y.p1 y.l0 y.l1 y.r0 y.r1 hy.p0 hy.p1 hy.l0 hy.l1 hy.r0 hy.r1
 unfold Bx.meetR
 by_cases hf:x.f=y.f
 ·have hh:x.h=y.h:=by have a:=hx.fam;have b:=hy.fam;omega
  rw [← hf,← hh] at y1
  have m1:=e112 x.f x.h x.a0 x.a1 (x.p0+1) (x.l0+1) (x.r0+1) x.b0 x.b1 (x.p1+1) (x.l1+1) (x.r1+1) y.a0 y.a1 (y.p0+1) (y.l0+1) (y.r0+1) y.b0 y.b1 (y.p1+1) (y.l1+1) (y.r1+1)
  by_cases ho:x.over y
  ·rw [if_pos (by rw [mm1,mm1,mm1];exact ho)] at m1
   rw [if_pos ⟨hf,ho⟩]
   have k1:=e113 x.f x.h (max x.a0 y.a0) (min x.b0 y.b0) (max x.a1 y.a1) (min x.b1 y.b1) (max (x.p0+1) (y.p0+1)) (min (x.p1+1) (y.p1+1)) (max (x.l0+1) (y.l0+1)) (min (x.l1+1) (y.l1+1)) (max (x.r0+1) (y.r0+1)) (min (x.r1+1) (y.r1+1))
    (num_max hx.p0 hy.p0) (num_min hx.p1 hy.p1) (num_max hx.l0 hy.l0) (num_min hx.l1 hy.l1) (num_max hx.r0 hy.r0) (num_min hx.r1 hy.r1)
   rw [max1,max1,max1,min1,min1,min1] at k1
   refine CV_run (vf:=vf204) rfl rfl ?_
   rw [vf204_start]
   simp only [Bx.meet]
   rw [hf,hh] at x1 y1 m1 k1
   (repeat (first|refine RX_seq ?_|((first|refine sG rfl ?_|refine RX_draw rfl ?_);try (simp only [go_sem,simprocAttr,frzLoc,rowCells,vAppM,beq_iff_eq,bne_iff_ne,vf204_res,vf204_keep,hf,hh,x1,y1,m1,k1]))))
  ·rw [if_neg (by rw [mm1,mm1,mm1];exact ho)] at m1
   rw [if_neg (fun q=>ho q.2)]
   refine CV_run (vf:=vf204) rfl rfl ?_
   rw [vf204_start]
   rw [hf,hh] at x1 y1 m1
   (repeat (first|refine RX_seq ?_|((first|refine sG rfl ?_|refine RX_draw rfl ?_);try (simp only [go_sem,simprocAttr,frzLoc,rowCells,vAppM,beq_iff_eq,bne_iff_ne,vf204_res,vf204_keep,hf,hh,x1,y1,m1]))))
 ·rw [if_neg (fun q=>hf q.1)]
  have m1:=e112d x.f x.h y.f y.h x.a0 x.a1 (x.p0+1) (x.l0+1) (x.r0+1) x.b0 x.b1 (x.p1+1) (x.l1+1) (x.r1+1) y.a0 y.a1 (y.p0+1) (y.l0+1) (y.r0+1) y.b0 y.b1 (y.p1+1) (y.l1+1) (y.r1+1) hf
  refine CV_run (vf:=vf204) rfl rfl ?_
  rw [vf204_start]
  (repeat (first|refine RX_seq ?_|((first|refine sG rfl ?_|refine RX_draw rfl ?_);try (simp only [go_sem,simprocAttr,frzLoc,rowCells,vAppM,beq_iff_eq,bne_iff_ne,vf204_res,vf204_keep,x1,y1,m1]))))
theorem num_d2 {n:Int} (h:num n):IntKind.i64.wrap (IntKind.i64.wrap (n+1)-1)=n:=by
 unfold num at h
 rw [num_d (by omega) (by omega)];omega
theorem maxp (a b:Int):max (a+1) (b+1)=max a b+1:=by omega
theorem minp (a b:Int):min (a+1) (b+1)=min a b+1:=by omega
theorem num_mx {a b:Int} (h:num a) (h':num b):num (max a b):=by unfold num at *;omega
theorem num_mn {a b:Int} (h:num a) (h':num b):num (min a b):=by unfold num at *;omega
theorem lt1 (a b:Int):(a+1<b+1)↔(a<b):=by omega
theorem e114 (f h a b:Int):CV VP 231 [.agg [.d (I f),.d (U h),.d (U a)],.agg [.d (I f),.d (U h),.d (U b)]] []=some ⟨.agg [.d (I f),.d (U h),.d (U (max a b))],[],[],0⟩:=by
 refine CV_run (vf:=vf231) rfl rfl ?_
 rw [vf231_start]
 by_cases h1:a<b
 ·have m:max a b=b:=by omega
  (repeat (first|refine RX_seq ?_|((first|refine sG rfl ?_|refine RX_draw rfl ?_);try (simp only [go_sem,Int.reduceToNat,Nat.reducePow,Int.reduceEq,Int.reduceNe,Int.reduceLT,Int.reduceLE,Nat.reduceAdd,Nat.reduceLeDiff,↓reduceIte,Nat.reduceLT,Nat.reduceMul,Nat.reduceSub,reduceCtorEq,frzLoc,rowCells,vAppM,beq_iff_eq,bne_iff_ne,vf231_res,vf231_keep,e109t,h1,m]))))
 ·have m:max a b=a:=by omega
  (repeat (first|refine RX_seq ?_|((first|refine sG rfl ?_|refine RX_draw rfl ?_);try (simp only [go_sem,Int.reduceToNat,Nat.reducePow,Int.reduceEq,Int.reduceNe,Int.reduceLT,Int.reduceLE,Nat.reduceAdd,Nat.reduceLeDiff,↓reduceIte,Nat.reduceLT,Nat.reduceMul,Nat.reduceSub,reduceCtorEq,frzLoc,rowCells,vAppM,beq_iff_eq,bne_iff_ne,vf231_res,vf231_keep,e109t,h1,m]))))
theorem e116 (f h a b:Int):CV VP 233 [.agg [.d (I f),.d (U h),.d (U a)],.agg [.d (I f),.d (U h),.d (U b)]] []=some ⟨.agg [.d (I f),.d (U h),.d (U (min a b))],[],[],0⟩:=by
 refine CV_run (vf:=vf233) rfl rfl ?_
 rw [vf233_start]
 by_cases h1:b<a
 ·have m:min a b=b:=by omega
  (repeat (first|refine RX_seq ?_|((first|refine sG rfl ?_|refine RX_draw rfl ?_);try (simp only [go_sem,Int.reduceToNat,Nat.reducePow,Int.reduceEq,Int.reduceNe,Int.reduceLT,Int.reduceLE,Nat.reduceAdd,Nat.reduceLeDiff,↓reduceIte,Nat.reduceLT,Nat.reduceMul,Nat.reduceSub,reduceCtorEq,frzLoc,rowCells,vAppM,beq_iff_eq,bne_iff_ne,vf233_res,vf233_keep,e109t,h1,m]))))
 ·have m:min a b=a:=by omega
  (repeat (first|refine RX_seq ?_|((first|refine sG rfl ?_|refine RX_draw rfl ?_);try (simp only [go_sem,Int.reduceToNat,Nat.reducePow,Int.reduceEq,Int.reduceNe,Int.reduceLT,Int.reduceLE,Nat.reduceAdd,Nat.reduceLeDiff,↓reduceIte,Nat.reduceLT,Nat.reduceMul,Nat.reduceSub,reduceCtorEq,frzLoc,rowCells,vAppM,beq_iff_eq,bne_iff_ne,vf233_res,vf233_keep,e109t,h1,m]))))
theorem e115_0 (f h a0 b0 a1 b1 p0 p1 l0 l1 r0 r1:Int):CV VP 232 [bxV f h a0 b0 a1 b1 p0 p1 l0 l1 r0 r1,.d (I 0)] []=some ⟨.agg [.d (I f),.d (U h),.d (U a0)],[],[],0⟩:=by
 refine CV_run (vf:=vf232) rfl rfl ?_
 rw [vf232_start]
 (repeat (first|refine RX_seq ?_|((first|refine sG rfl ?_|refine RX_draw rfl ?_);try (simp only [go_sem,Int.reduceToNat,Nat.reducePow,Int.reduceEq,Int.reduceNe,Int.reduceLT,Int.reduceLE,Nat.reduceAdd,Nat.reduceLeDiff,↓reduceIte,Nat.reduceLT,Nat.reduceMul,Nat.reduceSub,reduceCtorEq,frzLoc,rowCells,vAppM,beq_iff_eq,bne_iff_ne,vf232_res,vf232_keep]))))
theorem e117_0 (f h a0 b0 a1 b1 p0 p1 l0 l1 r0 r1:Int):CV VP 234 [bxV f h a0 b0 a1 b1 p0 p1 l0 l1 r0 r1,.d (I 0)] []=some ⟨.agg [.d (I f),.d (U h),.d (U b0)],[],[],0⟩:=by
 refine CV_run (vf:=vf234) rfl rfl ?_
 rw [vf234_start]
 (repeat (first|refine RX_seq ?_|((first|refine sG rfl ?_|refine RX_draw rfl ?_);try (simp only [go_sem,Int.reduceToNat,Nat.reducePow,Int.reduceEq,Int.reduceNe,Int.reduceLT,Int.reduceLE,Nat.reduceAdd,Nat.reduceLeDiff,↓reduceIte,Nat.reduceLT,Nat.reduceMul,Nat.reduceSub,reduceCtorEq,frzLoc,rowCells,vAppM,beq_iff_eq,bne_iff_ne,vf234_res,vf234_keep]))))
theorem e118_0 (f h a0 b0 a1 b1 p0 p1 l0 l1 r0 r1 a b:Int):CV VP 236 [bxV f h a0 b0 a1 b1 p0 p1 l0 l1 r0 r1,.d (I 0),.agg [.d (I f),.d (U h),.d (U a)],.agg [.d (I f),.d (U h),.d (U b)]] []=some ⟨bxV f h a b a1 b1 p0 p1 l0 l1 r0 r1,[],[],0⟩:=by
 refine CV_run (vf:=vf236) rfl rfl ?_
 rw [vf236_start]
 (repeat (first|refine RX_seq ?_|((first|refine sG rfl ?_|refine RX_draw rfl ?_);try (simp only [go_sem,Int.reduceToNat,Nat.reducePow,Int.reduceEq,Int.reduceNe,Int.reduceLT,Int.reduceLE,Nat.reduceAdd,Nat.reduceLeDiff,↓reduceIte,Nat.reduceLT,Nat.reduceMul,Nat.reduceSub,reduceCtorEq,frzLoc,rowCells,vAppM,beq_iff_eq,bne_iff_ne,vf236_res,vf236_keep]))))
theorem e115_1 (f h a0 b0 a1 b1 p0 p1 l0 l1 r0 r1:Int):CV VP 232 [bxV f h a0 b0 a1 b1 p0 p1 l0 l1 r0 r1,.d (I 1)] []=some ⟨.agg [.d (I f),.d (U h),.d (U a1)],[],[],0⟩:=by
 refine CV_run (vf:=vf232) rfl rfl ?_
 rw [vf232_start]
 (repeat (first|refine RX_seq ?_|((first|refine sG rfl ?_|refine RX_draw rfl ?_);try (simp only [go_sem,Int.reduceToNat,Nat.reducePow,Int.reduceEq,Int.reduceNe,Int.reduceLT,Int.reduceLE,Nat.reduceAdd,Nat.reduceLeDiff,↓reduceIte,Nat.reduceLT,Nat.reduceMul,Nat.reduceSub,reduceCtorEq,frzLoc,rowCells,vAppM,beq_iff_eq,bne_iff_ne,vf232_res,vf232_keep]))))
theorem e117_1 (f h a0 b0 a1 b1 p0 p1 l0 l1 r0 r1:Int):CV VP 234 [bxV f h a0 b0 a1 b1 p0 p1 l0 l1 r0 r1,.d (I 1)] []=some ⟨.agg [.d (I f),.d (U h),.d (U b1)],[],[],0⟩:=by
 refine CV_run (vf:=vf234) rfl rfl ?_
 rw [vf234_start]
 (repeat (first|refine RX_seq ?_|((first|refine sG rfl ?_|refine RX_draw rfl ?_);try (simp only [go_sem,Int.reduceToNat,Nat.reducePow,Int.reduceEq,Int.reduceNe,Int.reduceLT,Int.reduceLE,Nat.reduceAdd,Nat.reduceLeDiff,↓reduceIte,Nat.reduceLT,Nat.reduceMul,Nat.reduceSub,reduceCtorEq,frzLoc,rowCells,vAppM,beq_iff_eq,bne_iff_ne,vf234_res,vf234_keep]))))
theorem e118_1 (f h a0 b0 a1 b1 p0 p1 l0 l1 r0 r1 a b:Int):CV VP 236 [bxV f h a0 b0 a1 b1 p0 p1 l0 l1 r0 r1,.d (I 1),.agg [.d (I f),.d (U h),.d (U a)],.agg [.d (I f),.d (U h),.d (U b)]] []=some ⟨bxV f h a0 b0 a b p0 p1 l0 l1 r0 r1,[],[],0⟩:=by
 refine CV_run (vf:=vf236) rfl rfl ?_
 rw [vf236_start]
 (repeat (first|refine RX_seq ?_|((first|refine sG rfl ?_|refine RX_draw rfl ?_);try (simp only [go_sem,Int.reduceToNat,Nat.reducePow,Int.reduceEq,Int.reduceNe,Int.reduceLT,Int.reduceLE,Nat.reduceAdd,Nat.reduceLeDiff,↓reduceIte,Nat.reduceLT,Nat.reduceMul,Nat.reduceSub,reduceCtorEq,frzLoc,rowCells,vAppM,beq_iff_eq,bne_iff_ne,vf236_res,vf236_keep]))))
theorem e115_2 (f h a0 b0 a1 b1 p0 p1 l0 l1 r0 r1:Int) (hn:num p0):CV VP 232 [bxV f h a0 b0 a1 b1 p0 p1 l0 l1 r0 r1,.d (I 2)] []=some ⟨.agg [.d (I 0),.d (U 0),.d (U (p0+1))],[],[],0⟩:=by
 refine CV_run (vf:=vf232) rfl rfl ?_
 rw [vf232_start]
 (repeat (first|refine RX_seq ?_|((first|refine sG rfl ?_|refine RX_draw rfl ?_);try (simp only [go_sem,Int.reduceToNat,Nat.reducePow,Int.reduceEq,Int.reduceNe,Int.reduceLT,Int.reduceLE,Nat.reduceAdd,Nat.reduceLeDiff,↓reduceIte,Nat.reduceLT,Nat.reduceMul,Nat.reduceSub,reduceCtorEq,frzLoc,rowCells,vAppM,beq_iff_eq,bne_iff_ne,vf232_res,vf232_keep,e129,num_u hn]))))
theorem e117_2 (f h a0 b0 a1 b1 p0 p1 l0 l1 r0 r1:Int) (hn:num p1):CV VP 234 [bxV f h a0 b0 a1 b1 p0 p1 l0 l1 r0 r1,.d (I 2)] []=some ⟨.agg [.d (I 0),.d (U 0),.d (U (p1+1))],[],[],0⟩:=by
 refine CV_run (vf:=vf234) rfl rfl ?_
 rw [vf234_start]
 (repeat (first|refine RX_seq ?_|((first|refine sG rfl ?_|refine RX_draw rfl ?_);try (simp only [go_sem,Int.reduceToNat,Nat.reducePow,Int.reduceEq,Int.reduceNe,Int.reduceLT,Int.reduceLE,Nat.reduceAdd,Nat.reduceLeDiff,↓reduceIte,Nat.reduceLT,Nat.reduceMul,Nat.reduceSub,reduceCtorEq,frzLoc,rowCells,vAppM,beq_iff_eq,bne_iff_ne,vf234_res,vf234_keep,e129,num_u hn]))))
theorem e118_2 (f h a0 b0 a1 b1 p0 p1 l0 l1 r0 r1 a b:Int) (hn:num a) (hm:num b):CV VP 236 [bxV f h a0 b0 a1 b1 p0 p1 l0 l1 r0 r1,.d (I 2),.agg [.d (I 0),.d (U 0),.d (U (a+1))],.agg [.d (I 0),.d (U 0),.d (U (b+1))]] []=some ⟨bxV f h a0 b0 a1 b1 a b l0 l1 r0 r1,[],[],0⟩:=by
 have n1:=num_d2 hn
 have n2:=num_d2 hm
 refine CV_run (vf:=vf236) rfl rfl ?_
 rw [vf236_start]
 (repeat (first|refine RX_seq ?_|((first|refine sG rfl ?_|refine RX_draw rfl ?_);try (simp only [go_sem,Int.reduceToNat,Nat.reducePow,Int.reduceEq,Int.reduceNe,Int.reduceLT,Int.reduceLE,Nat.reduceAdd,Nat.reduceLeDiff,↓reduceIte,Nat.reduceLT,Nat.reduceMul,Nat.reduceSub,reduceCtorEq,frzLoc,rowCells,vAppM,beq_iff_eq,bne_iff_ne,vf236_res,vf236_keep,n1,n2]))))
theorem e115_3 (f h a0 b0 a1 b1 p0 p1 l0 l1 r0 r1:Int) (hn:num l0):CV VP 232 [bxV f h a0 b0 a1 b1 p0 p1 l0 l1 r0 r1,.d (I 3)] []=some ⟨.agg [.d (I 0),.d (U 0),.d (U (l0+1))],[],[],0⟩:=by
 refine CV_run (vf:=vf232) rfl rfl ?_
 rw [vf232_start]
 (repeat (first|refine RX_seq ?_|((first|refine sG rfl ?_|refine RX_draw rfl ?_);try (simp only [go_sem,Int.reduceToNat,Nat.reducePow,Int.reduceEq,Int.reduceNe,Int.reduceLT,Int.reduceLE,Nat.reduceAdd,Nat.reduceLeDiff,↓reduceIte,Nat.reduceLT,Nat.reduceMul,Nat.reduceSub,reduceCtorEq,frzLoc,rowCells,vAppM,beq_iff_eq,bne_iff_ne,vf232_res,vf232_keep,e129,num_u hn]))))
theorem e117_3 (f h a0 b0 a1 b1 p0 p1 l0 l1 r0 r1:Int) (hn:num l1):CV VP 234 [bxV f h a0 b0 a1 b1 p0 p1 l0 l1 r0 r1,.d (I 3)] []=some ⟨.agg [.d (I 0),.d (U 0),.d (U (l1+1))],[],[],0⟩:=by
 refine CV_run (vf:=vf234) rfl rfl ?_
 rw [vf234_start]
 (repeat (first|refine RX_seq ?_|((first|refine sG rfl ?_|refine RX_draw rfl ?_);try (simp only [go_sem,Int.reduceToNat,Nat.reducePow,Int.reduceEq,Int.reduceNe,Int.reduceLT,Int.reduceLE,Nat.reduceAdd,Nat.reduceLeDiff,↓reduceIte,Nat.reduceLT,Nat.reduceMul,Nat.reduceSub,reduceCtorEq,frzLoc,rowCells,vAppM,beq_iff_eq,bne_iff_ne,vf234_res,vf234_keep,e129,num_u hn]))))
theorem e118_3 (f h a0 b0 a1 b1 p0 p1 l0 l1 r0 r1 a b:Int) (hn:num a) (hm:num b):CV VP 236 [bxV f h a0 b0 a1 b1 p0 p1 l0 l1 r0 r1,.d (I 3),.agg [.d (I 0),.d (U 0),.d (U (a+1))],.agg [.d (I 0),.d (U 0),.d (U (b+1))]] []=some ⟨bxV f h a0 b0 a1 b1 p0 p1 a b r0 r1,[],[],0⟩:=by
 have n1:=num_d2 hn
 have n2:=num_d2 hm
 refine CV_run (vf:=vf236) rfl rfl ?_
 rw [vf236_start]
 (repeat (first|refine RX_seq ?_|((first|refine sG rfl ?_|refine RX_draw rfl ?_);try (simp only [go_sem,Int.reduceToNat,Nat.reducePow,Int.reduceEq,Int.reduceNe,Int.reduceLT,Int.reduceLE,Nat.reduceAdd,Nat.reduceLeDiff,↓reduceIte,Nat.reduceLT,Nat.reduceMul,Nat.reduceSub,reduceCtorEq,frzLoc,rowCells,vAppM,beq_iff_eq,bne_iff_ne,vf236_res,vf236_keep,n1,n2]))))
theorem e115_4 (f h a0 b0 a1 b1 p0 p1 l0 l1 r0 r1:Int) (hn:num r0):CV VP 232 [bxV f h a0 b0 a1 b1 p0 p1 l0 l1 r0 r1,.d (I 4)] []=some ⟨.agg [.d (I 0),.d (U 0),.d (U (r0+1))],[],[],0⟩:=by
 refine CV_run (vf:=vf232) rfl rfl ?_
 rw [vf232_start]
 (repeat (first|refine RX_seq ?_|((first|refine sG rfl ?_|refine RX_draw rfl ?_);try (simp only [go_sem,Int.reduceToNat,Nat.reducePow,Int.reduceEq,Int.reduceNe,Int.reduceLT,Int.reduceLE,Nat.reduceAdd,Nat.reduceLeDiff,↓reduceIte,Nat.reduceLT,Nat.reduceMul,Nat.reduceSub,reduceCtorEq,frzLoc,rowCells,vAppM,beq_iff_eq,bne_iff_ne,vf232_res,vf232_keep,e129,num_u hn]))))
theorem e117_4 (f h a0 b0 a1 b1 p0 p1 l0 l1 r0 r1:Int) (hn:num r1):CV VP 234 [bxV f h a0 b0 a1 b1 p0 p1 l0 l1 r0 r1,.d (I 4)] []=some ⟨.agg [.d (I 0),.d (U 0),.d (U (r1+1))],[],[],0⟩:=by
 refine CV_run (vf:=vf234) rfl rfl ?_
 rw [vf234_start]
 (repeat (first|refine RX_seq ?_|((first|refine sG rfl ?_|refine RX_draw rfl ?_);try (simp only [go_sem,Int.reduceToNat,Nat.reducePow,Int.reduceEq,Int.reduceNe,Int.reduceLT,Int.reduceLE,Nat.reduceAdd,Nat.reduceLeDiff,↓reduceIte,Nat.reduceLT,Nat.reduceMul,Nat.reduceSub,reduceCtorEq,frzLoc,rowCells,vAppM,beq_iff_eq,bne_iff_ne,vf234_res,vf234_keep,e129,num_u hn]))))
theorem e118_4 (f h a0 b0 a1 b1 p0 p1 l0 l1 r0 r1 a b:Int) (hn:num a) (hm:num b):CV VP 236 [bxV f h a0 b0 a1 b1 p0 p1 l0 l1 r0 r1,.d (I 4),.agg [.d (I 0),.d (U 0),.d (U (a+1))],.agg [.d (I 0),.d (U 0),.d (U (b+1))]] []=some ⟨bxV f h a0 b0 a1 b1 p0 p1 l0 l1 a b,[],[],0⟩:=by
 have n1:=num_d2 hn
 have n2:=num_d2 hm
 refine CV_run (vf:=vf236) rfl rfl ?_
 rw [vf236_start]
 (repeat (first|refine RX_seq ?_|((first|refine sG rfl ?_|refine RX_draw rfl ?_);try (simp only [go_sem,Int.reduceToNat,Nat.reducePow,Int.reduceEq,Int.reduceNe,Int.reduceLT,Int.reduceLE,Nat.reduceAdd,Nat.reduceLeDiff,↓reduceIte,Nat.reduceLT,Nat.reduceMul,Nat.reduceSub,reduceCtorEq,frzLoc,rowCells,vAppM,beq_iff_eq,bne_iff_ne,vf236_res,vf236_keep,n1,n2]))))
set_option maxHeartbeats 4000000 in
theorem e93s (f h a0 b0 a1 b1 p0 p1 l0 l1 r0 r1 a0' b0' a1' b1' p0' p1' l0' l1' r0' r1':Int) (n0:num p0) (n1:num p1) (n2:num l0) (n3:num l1) (n4:num r0) (n5:num r1) (n6:num p0') (n7:num p1') (n8:num l0') (n9:num l1') (n10:num r0') (n11:num r1'):CV VP 206 [bxV f h a0 b0 a1 b1 p0 p1 l0 l1 r0 r1,bxV f h a0' b0' a1' b1' p0' p1' l0' l1' r0' r1'] []=some (if max a0 a0'≤min b0 b0'∧max a1 a1'≤min b1 b1'∧max p0 p0'≤min p1 p1'∧max l0 l0'≤min l1 l1'∧max r0 r0'≤min r1 r1' then ⟨.tup [bxV f h (max a0 a0') (min b0 b0') (max a1 a1') (min b1 b1') (max p0 p0') (min p1 p1') (max l0 l0') (min l1 l1') (max r0 r0') (min r1 r1'),.d (B true)],[],[],0⟩ else ⟨.tup [Bx.zero.ag,.d (B false)],[],[],0⟩):=by
 have w1:IntKind.i64.wrap (0+1)=1:=rfl
 have w2:IntKind.i64.wrap (1+1)=2:=rfl
 have w3:IntKind.i64.wrap (2+1)=3:=rfl
 have w4:IntKind.i64.wrap (3+1)=4:=rfl
 have w5:IntKind.i64.wrap (4+1)=5:=rfl
 have x2:=e115_2 f h a0 b0 a1 b1 p0 p1 l0 l1 r0 r1 n0
 have y2:=e117_2 f h a0 b0 a1 b1 p0 p1 l0 l1 r0 r1 n1
 have u2:=e115_2 f h a0' b0' a1' b1' p0' p1' l0' l1' r0' r1' n6
 have v2:=e117_2 f h a0' b0' a1' b1' p0' p1' l0' l1' r0' r1' n7
 have z2:=e118_2 f h (max a0 a0') (min b0 b0') (max a1 a1') (min b1 b1') p0 p1 l0 l1 r0 r1 (max p0 p0') (min p1 p1') (num_mx n0 n6) (num_mn n1 n7)
 have x3:=e115_3 f h a0 b0 a1 b1 p0 p1 l0 l1 r0 r1 n2
 have y3:=e117_3 f h a0 b0 a1 b1 p0 p1 l0 l1 r0 r1 n3
 have u3:=e115_3 f h a0' b0' a1' b1' p0' p1' l0' l1' r0' r1' n8
 have v3:=e117_3 f h a0' b0' a1' b1' p0' p1' l0' l1' r0' r1' n9
 have z3:=e118_3 f h (max a0 a0') (min b0 b0') (max a1 a1') (min b1 b1') (max p0 p0') (min p1 p1') l0 l1 r0 r1 (max l0 l0') (min l1 l1') (num_mx n2 n8) (num_mn n3 n9)
 have x4:=e115_4 f h a0 b0 a1 b1 p0 p1 l0 l1 r0 r1 n4
 have y4:=e117_4 f h a0 b0 a1 b1 p0 p1 l0 l1 r0 r1 n5
 have u4:=e115_4 f h a0' b0' a1' b1' p0' p1' l0' l1' r0' r1' n10
 have v4:=e117_4 f h a0' b0' a1' b1' p0' p1' l0' l1' r0' r1' n11
 have z4:=e118_4 f h (max a0 a0') (min b0 b0') (max a1 a1') (min b1 b1') (max p0 p0') (min p1 p1') (max l0 l0') (min l1 l1') r0 r1 (max r0 r0') (min r1 r1') (num_mx n4 n10) (num_mn n5 n11)
 refine CV_run (vf:=vf206) rfl rfl ?_
 rw [vf206_start]
 (repeat (first|refine RX_seq ?_|((first|refine sG rfl ?_|refine RX_draw rfl ?_);try (simp only [go_sem,Int.reduceToNat,Nat.reducePow,Int.reduceEq,Int.reduceNe,Int.reduceLT,Int.reduceLE,Nat.reduceAdd,Nat.reduceLeDiff,↓reduceIte,Nat.reduceLT,Nat.reduceMul,Nat.reduceSub,reduceCtorEq,frzLoc,rowCells,vAppM,beq_iff_eq,bne_iff_ne,vf206_res,vf206_keep]))))
 refine RX_loop ?_
 by_cases h0:max a0 a0'≤min b0 b0'
 ·have g0:¬(min b0 b0'<max a0 a0'):=by omega
  (refine RL_head ?_;(simp only [go_sem,Int.reduceToNat,Nat.reducePow,Int.reduceEq,Int.reduceNe,Int.reduceLT,Int.reduceLE,Nat.reduceAdd,Nat.reduceLeDiff,↓reduceIte,Nat.reduceLT,Nat.reduceMul,Nat.reduceSub,reduceCtorEq,frzLoc,rowCells,vAppM,beq_iff_eq,bne_iff_ne,St.head,forget,vf206K0,RLK_some,vf206_res,vf206_keep,e114,e116,e109t,maxp,minp,lt1,e115_0,e117_0,e118_0,e115_1,e117_1,e118_1,x2,y2,u2,v2,z2,x3,y3,u3,v3,z3,x4,y4,u4,v4,z4,h0,g0,w1,true_and,and_true,false_and,and_false]);refine vf206L0_go ?_;((repeat (first|refine RX_seq ?_|((first|refine sG rfl ?_|refine RX_draw rfl ?_);try (simp only [go_sem,Int.reduceToNat,Nat.reducePow,Int.reduceEq,Int.reduceNe,Int.reduceLT,Int.reduceLE,Nat.reduceAdd,Nat.reduceLeDiff,↓reduceIte,Nat.reduceLT,Nat.reduceMul,Nat.reduceSub,reduceCtorEq,frzLoc,rowCells,vAppM,beq_iff_eq,bne_iff_ne,vf206_res,vf206_keep,e114,e116,e109t,maxp,minp,lt1,e115_0,e117_0,e118_0,e115_1,e117_1,e118_1,x2,y2,u2,v2,z2,x3,y3,u3,v3,z3,x4,y4,u4,v4,z4,h0,g0,w1,true_and,and_true,false_and,and_false]))))))
  by_cases h1:max a1 a1'≤min b1 b1'
  ·have g1:¬(min b1 b1'<max a1 a1'):=by omega
   (refine RL_head ?_;(simp only [go_sem,Int.reduceToNat,Nat.reducePow,Int.reduceEq,Int.reduceNe,Int.reduceLT,Int.reduceLE,Nat.reduceAdd,Nat.reduceLeDiff,↓reduceIte,Nat.reduceLT,Nat.reduceMul,Nat.reduceSub,reduceCtorEq,frzLoc,rowCells,vAppM,beq_iff_eq,bne_iff_ne,St.head,forget,vf206K0,RLK_some,vf206_res,vf206_keep,e114,e116,e109t,maxp,minp,lt1,e115_0,e117_0,e118_0,e115_1,e117_1,e118_1,x2,y2,u2,v2,z2,x3,y3,u3,v3,z3,x4,y4,u4,v4,z4,h0,h1,g0,g1,w2,true_and,and_true,false_and,and_false]);refine vf206L0_go ?_;((repeat (first|refine RX_seq ?_|((first|refine sG rfl ?_|refine RX_draw rfl ?_);try (simp only [go_sem,Int.reduceToNat,Nat.reducePow,Int.reduceEq,Int.reduceNe,Int.reduceLT,Int.reduceLE,Nat.reduceAdd,Nat.reduceLeDiff,↓reduceIte,Nat.reduceLT,Nat.reduceMul,Nat.reduceSub,reduceCtorEq,frzLoc,rowCells,vAppM,beq_iff_eq,bne_iff_ne,vf206_res,vf206_keep,e114,e116,e109t,maxp,minp,lt1,e115_0,e117_0,e118_0,e115_1,e117_1,e118_1,x2,y2,u2,v2,z2,x3,y3,u3,v3,z3,x4,y4,u4,v4,z4,h0,h1,g0,g1,w2,true_and,and_true,false_and,and_false]))))))
   by_cases h2:max p0 p0'≤min p1 p1'
   ·have g2:¬(min p1 p1'<max p0 p0'):=by omega
    (refine RL_head ?_;(simp only [go_sem,Int.reduceToNat,Nat.reducePow,Int.reduceEq,Int.reduceNe,Int.reduceLT,Int.reduceLE,Nat.reduceAdd,Nat.reduceLeDiff,↓reduceIte,Nat.reduceLT,Nat.reduceMul,Nat.reduceSub,reduceCtorEq,frzLoc,rowCells,vAppM,beq_iff_eq,bne_iff_ne,St.head,forget,vf206K0,RLK_some,vf206_res,vf206_keep,e114,e116,e109t,maxp,minp,lt1,e115_0,e117_0,e118_0,e115_1,e117_1,e118_1,x2,y2,u2,v2,z2,x3,y3,u3,v3,z3,x4,y4,u4,v4,z4,h0,h1,h2,g0,g1,g2,w3,true_and,and_true,false_and,and_false]);refine vf206L0_go ?_;((repeat (first|refine RX_seq ?_|((first|refine sG rfl ?_|refine RX_draw rfl ?_);try (simp only [go_sem,Int.reduceToNat,Nat.reducePow,Int.reduceEq,Int.reduceNe,Int.reduceLT,Int.reduceLE,Nat.reduceAdd,Nat.reduceLeDiff,↓reduceIte,Nat.reduceLT,Nat.reduceMul,Nat.reduceSub,reduceCtorEq,frzLoc,rowCells,vAppM,beq_iff_eq,bne_iff_ne,vf206_res,vf206_keep,e114,e116,e109t,maxp,minp,lt1,e115_0,e117_0,e118_0,e115_1,e117_1,e118_1,x2,y2,u2,v2,z2,x3,y3,u3,v3,z3,x4,y4,u4,v4,z4,h0,h1,h2,g0,g1,g2,w3,true_and,and_true,false_and,and_false]))))))
    by_cases h3:max l0 l0'≤min l1 l1'
    ·have g3:¬(min l1 l1'<max l0 l0'):=by omega
     (refine RL_head ?_;(simp only [go_sem,Int.reduceToNat,Nat.reducePow,Int.reduceEq,Int.reduceNe,Int.reduceLT,Int.reduceLE,Nat.reduceAdd,Nat.reduceLeDiff,↓reduceIte,Nat.reduceLT,Nat.reduceMul,Nat.reduceSub,reduceCtorEq,frzLoc,rowCells,vAppM,beq_iff_eq,bne_iff_ne,St.head,forget,vf206K0,RLK_some,vf206_res,vf206_keep,e114,e116,e109t,maxp,minp,lt1,e115_0,e117_0,e118_0,e115_1,e117_1,e118_1,x2,y2,u2,v2,z2,x3,y3,u3,v3,z3,x4,y4,u4,v4,z4,h0,h1,h2,h3,g0,g1,g2,g3,w4,true_and,and_true,false_and,and_false]);refine vf206L0_go ?_;((repeat (first|refine RX_seq ?_|((first|refine sG rfl ?_|refine RX_draw rfl ?_);try (simp only [go_sem,Int.reduceToNat,Nat.reducePow,Int.reduceEq,Int.reduceNe,Int.reduceLT,Int.reduceLE,Nat.reduceAdd,Nat.reduceLeDiff,↓reduceIte,Nat.reduceLT,Nat.reduceMul,Nat.reduceSub,reduceCtorEq,frzLoc,rowCells,vAppM,beq_iff_eq,bne_iff_ne,vf206_res,vf206_keep,e114,e116,e109t,maxp,minp,lt1,e115_0,e117_0,e118_0,e115_1,e117_1,e118_1,x2,y2,u2,v2,z2,x3,y3,u3,v3,z3,x4,y4,u4,v4,z4,h0,h1,h2,h3,g0,g1,g2,g3,w4,true_and,and_true,false_and,and_false]))))))
     by_cases h4:max r0 r0'≤min r1 r1'
     ·have g4:¬(min r1 r1'<max r0 r0'):=by omega
      (refine RL_head ?_;(simp only [go_sem,Int.reduceToNat,Nat.reducePow,Int.reduceEq,Int.reduceNe,Int.reduceLT,Int.reduceLE,Nat.reduceAdd,Nat.reduceLeDiff,↓reduceIte,Nat.reduceLT,Nat.reduceMul,Nat.reduceSub,reduceCtorEq,frzLoc,rowCells,vAppM,beq_iff_eq,bne_iff_ne,St.head,forget,vf206K0,RLK_some,vf206_res,vf206_keep,e114,e116,e109t,maxp,minp,lt1,e115_0,e117_0,e118_0,e115_1,e117_1,e118_1,x2,y2,u2,v2,z2,x3,y3,u3,v3,z3,x4,y4,u4,v4,z4,h0,h1,h2,h3,h4,g0,g1,g2,g3,g4,w5,true_and,and_true,false_and,and_false]);refine vf206L0_go ?_;((repeat (first|refine RX_seq ?_|((first|refine sG rfl ?_|refine RX_draw rfl ?_);try (simp only [go_sem,Int.reduceToNat,Nat.reducePow,Int.reduceEq,Int.reduceNe,Int.reduceLT,Int.reduceLE,Nat.reduceAdd,Nat.reduceLeDiff,↓reduceIte,Nat.reduceLT,Nat.reduceMul,Nat.reduceSub,reduceCtorEq,frzLoc,rowCells,vAppM,beq_iff_eq,bne_iff_ne,vf206_res,vf206_keep,e114,e116,e109t,maxp,minp,lt1,e115_0,e117_0,e118_0,e115_1,e117_1,e118_1,x2,y2,u2,v2,z2,x3,y3,u3,v3,z3,x4,y4,u4,v4,z4,h0,h1,h2,h3,h4,g0,g1,g2,g3,g4,w5,true_and,and_true,false_and,and_false]))))))
      (refine RL_head ?_;(simp only [go_sem,Int.reduceToNat,Nat.reducePow,Int.reduceEq,Int.reduceNe,Int.reduceLT,Int.reduceLE,Nat.reduceAdd,Nat.reduceLeDiff,↓reduceIte,Nat.reduceLT,Nat.reduceMul,Nat.reduceSub,reduceCtorEq,frzLoc,rowCells,vAppM,beq_iff_eq,bne_iff_ne,St.head,forget,vf206K0,RLK_some,vf206_res,vf206_keep,e114,e116,e109t,maxp,minp,lt1,e115_0,e117_0,e118_0,e115_1,e117_1,e118_1,x2,y2,u2,v2,z2,x3,y3,u3,v3,z3,x4,y4,u4,v4,z4,h0,h1,h2,h3,h4,g0,g1,g2,g3,g4,true_and,and_true,false_and,and_false]);refine vf206L0_go ?_;((repeat (first|refine RX_seq ?_|((first|refine sG rfl ?_|refine RX_draw rfl ?_);try (simp only [go_sem,Int.reduceToNat,Nat.reducePow,Int.reduceEq,Int.reduceNe,Int.reduceLT,Int.reduceLE,Nat.reduceAdd,Nat.reduceLeDiff,↓reduceIte,Nat.reduceLT,Nat.reduceMul,Nat.reduceSub,reduceCtorEq,frzLoc,rowCells,vAppM,beq_iff_eq,bne_iff_ne,vf206_res,vf206_keep,e114,e116,e109t,maxp,minp,lt1,e115_0,e117_0,e118_0,e115_1,e117_1,e118_1,x2,y2,u2,v2,z2,x3,y3,u3,v3,z3,x4,y4,u4,v4,z4,h0,h1,h2,h3,h4,g0,g1,g2,g3,g4,true_and,and_true,false_and,and_false]))))))
     ·have g4:min r1 r1'<max r0 r0':=by omega
      (refine RL_head ?_;(simp only [go_sem,Int.reduceToNat,Nat.reducePow,Int.reduceEq,Int.reduceNe,Int.reduceLT,Int.reduceLE,Nat.reduceAdd,Nat.reduceLeDiff,↓reduceIte,Nat.reduceLT,Nat.reduceMul,Nat.reduceSub,reduceCtorEq,frzLoc,rowCells,vAppM,beq_iff_eq,bne_iff_ne,St.head,forget,vf206K0,RLK_some,vf206_res,vf206_keep,e114,e116,e109t,maxp,minp,lt1,e115_0,e117_0,e118_0,e115_1,e117_1,e118_1,x2,y2,u2,v2,z2,x3,y3,u3,v3,z3,x4,y4,u4,v4,z4,h0,h1,h2,h3,h4,g0,g1,g2,g3,g4,w5,true_and,and_true,false_and,and_false]);refine vf206L0_go ?_;((repeat (first|refine RX_seq ?_|((first|refine sG rfl ?_|refine RX_draw rfl ?_);try (simp only [go_sem,Int.reduceToNat,Nat.reducePow,Int.reduceEq,Int.reduceNe,Int.reduceLT,Int.reduceLE,Nat.reduceAdd,Nat.reduceLeDiff,↓reduceIte,Nat.reduceLT,Nat.reduceMul,Nat.reduceSub,reduceCtorEq,frzLoc,rowCells,vAppM,beq_iff_eq,bne_iff_ne,vf206_res,vf206_keep,e114,e116,e109t,maxp,minp,lt1,e115_0,e117_0,e118_0,e115_1,e117_1,e118_1,x2,y2,u2,v2,z2,x3,y3,u3,v3,z3,x4,y4,u4,v4,z4,h0,h1,h2,h3,h4,g0,g1,g2,g3,g4,w5,true_and,and_true,false_and,and_false]))))))
    ·have g3:min l1 l1'<max l0 l0':=by omega
     (refine RL_head ?_;(simp only [go_sem,Int.reduceToNat,Nat.reducePow,Int.reduceEq,Int.reduceNe,Int.reduceLT,Int.reduceLE,Nat.reduceAdd,Nat.reduceLeDiff,↓reduceIte,Nat.reduceLT,Nat.reduceMul,Nat.reduceSub,reduceCtorEq,frzLoc,rowCells,vAppM,beq_iff_eq,bne_iff_ne,St.head,forget,vf206K0,RLK_some,vf206_res,vf206_keep,e114,e116,e109t,maxp,minp,lt1,e115_0,e117_0,e118_0,e115_1,e117_1,e118_1,x2,y2,u2,v2,z2,x3,y3,u3,v3,z3,x4,y4,u4,v4,z4,h0,h1,h2,h3,g0,g1,g2,g3,w4,true_and,and_true,false_and,and_false]);refine vf206L0_go ?_;((repeat (first|refine RX_seq ?_|((first|refine sG rfl ?_|refine RX_draw rfl ?_);try (simp only [go_sem,Int.reduceToNat,Nat.reducePow,Int.reduceEq,Int.reduceNe,Int.reduceLT,Int.reduceLE,Nat.reduceAdd,Nat.reduceLeDiff,↓reduceIte,Nat.reduceLT,Nat.reduceMul,Nat.reduceSub,reduceCtorEq,frzLoc,rowCells,vAppM,beq_iff_eq,bne_iff_ne,vf206_res,vf206_keep,e114,e116,e109t,maxp,minp,lt1,e115_0,e117_0,e118_0,e115_1,e117_1,e118_1,x2,y2,u2,v2,z2,x3,y3,u3,v3,z3,x4,y4,u4,v4,z4,h0,h1,h2,h3,g0,g1,g2,g3,w4,true_and,and_true,false_and,and_false]))))))
   ·have g2:min p1 p1'<max p0 p0':=by omega
    (refine RL_head ?_;(simp only [go_sem,Int.reduceToNat,Nat.reducePow,Int.reduceEq,Int.reduceNe,Int.reduceLT,Int.reduceLE,Nat.reduceAdd,Nat.reduceLeDiff,↓reduceIte,Nat.reduceLT,Nat.reduceMul,Nat.reduceSub,reduceCtorEq,frzLoc,rowCells,vAppM,beq_iff_eq,bne_iff_ne,St.head,forget,vf206K0,RLK_some,vf206_res,vf206_keep,e114,e116,e109t,maxp,minp,lt1,e115_0,e117_0,e118_0,e115_1,e117_1,e118_1,x2,y2,u2,v2,z2,x3,y3,u3,v3,z3,x4,y4,u4,v4,z4,h0,h1,h2,g0,g1,g2,w3,true_and,and_true,false_and,and_false]);refine vf206L0_go ?_;((repeat (first|refine RX_seq ?_|((first|refine sG rfl ?_|refine RX_draw rfl ?_);try (simp only [go_sem,Int.reduceToNat,Nat.reducePow,Int.reduceEq,Int.reduceNe,Int.reduceLT,Int.reduceLE,Nat.reduceAdd,Nat.reduceLeDiff,↓reduceIte,Nat.reduceLT,Nat.reduceMul,Nat.reduceSub,reduceCtorEq,frzLoc,rowCells,vAppM,beq_iff_eq,bne_iff_ne,vf206_res,vf206_keep,e114,e116,e109t,maxp,minp,lt1,e115_0,e117_0,e118_0,e115_1,e117_1,e118_1,x2,y2,u2,v2,z2,x3,y3,u3,v3,z3,x4,y4,u4,v4,z4,h0,h1,h2,g0,g1,g2,w3,true_and,and_true,false_and,and_false]))))))
  ·have g1:min b1 b1'<max a1 a1':=by omega
   (refine RL_head ?_;(simp only [go_sem,Int.reduceToNat,Nat.reducePow,Int.reduceEq,Int.reduceNe,Int.reduceLT,Int.reduceLE,Nat.reduceAdd,Nat.reduceLeDiff,↓reduceIte,Nat.reduceLT,Nat.reduceMul,Nat.reduceSub,reduceCtorEq,frzLoc,rowCells,vAppM,beq_iff_eq,bne_iff_ne,St.head,forget,vf206K0,RLK_some,vf206_res,vf206_keep,e114,e116,e109t,maxp,minp,lt1,e115_0,e117_0,e118_0,e115_1,e117_1,e118_1,x2,y2,u2,v2,z2,x3,y3,u3,v3,z3,x4,y4,u4,v4,z4,h0,h1,g0,g1,w2,true_and,and_true,false_and,and_false]);refine vf206L0_go ?_;((repeat (first|refine RX_seq ?_|((first|refine sG rfl ?_|refine RX_draw rfl ?_);try (simp only [go_sem,Int.reduceToNat,Nat.reducePow,Int.reduceEq,Int.reduceNe,Int.reduceLT,Int.reduceLE,Nat.reduceAdd,Nat.reduceLeDiff,↓reduceIte,Nat.reduceLT,Nat.reduceMul,Nat.reduceSub,reduceCtorEq,frzLoc,rowCells,vAppM,beq_iff_eq,bne_iff_ne,vf206_res,vf206_keep,e114,e116,e109t,maxp,minp,lt1,e115_0,e117_0,e118_0,e115_1,e117_1,e118_1,x2,y2,u2,v2,z2,x3,y3,u3,v3,z3,x4,y4,u4,v4,z4,h0,h1,g0,g1,w2,true_and,and_true,false_and,and_false]))))))
 ·have g0:min b0 b0'<max a0 a0':=by omega
  (refine RL_head ?_;(simp only [go_sem,Int.reduceToNat,Nat.reducePow,Int.reduceEq,Int.reduceNe,Int.reduceLT,Int.reduceLE,Nat.reduceAdd,Nat.reduceLeDiff,↓reduceIte,Nat.reduceLT,Nat.reduceMul,Nat.reduceSub,reduceCtorEq,frzLoc,rowCells,vAppM,beq_iff_eq,bne_iff_ne,St.head,forget,vf206K0,RLK_some,vf206_res,vf206_keep,e114,e116,e109t,maxp,minp,lt1,e115_0,e117_0,e118_0,e115_1,e117_1,e118_1,x2,y2,u2,v2,z2,x3,y3,u3,v3,z3,x4,y4,u4,v4,z4,h0,g0,w1,true_and,and_true,false_and,and_false]);refine vf206L0_go ?_;((repeat (first|refine RX_seq ?_|((first|refine sG rfl ?_|refine RX_draw rfl ?_);try (simp only [go_sem,Int.reduceToNat,Nat.reducePow,Int.reduceEq,Int.reduceNe,Int.reduceLT,Int.reduceLE,Nat.reduceAdd,Nat.reduceLeDiff,↓reduceIte,Nat.reduceLT,Nat.reduceMul,Nat.reduceSub,reduceCtorEq,frzLoc,rowCells,vAppM,beq_iff_eq,bne_iff_ne,vf206_res,vf206_keep,e114,e116,e109t,maxp,minp,lt1,e115_0,e117_0,e118_0,e115_1,e117_1,e118_1,x2,y2,u2,v2,z2,x3,y3,u3,v3,z3,x4,y4,u4,v4,z4,h0,g0,w1,true_and,and_true,false_and,and_false]))))))
theorem e93 (x y:Bx) (hx:x.ok) (hy:y.ok):CV VP 206 [x.ag,y.ag] []=some (x.meetR y):=by
 unfold Bx.meetR
 by_cases hf:x.f=y.f
 ·have hh:x.h=y.h:=by have a:=hx.fam;have b:=hy.fam;omega
  have m1:=e93s x.f x.h x.a0 x.b0 x.a1 x.b1 x.p0 x.p1 x.l0 x.l1 x.r0 x.r1 y.a0 y.b0 y.a1 y.b1 y.p0 y.p1 y.l0 y.l1 y.r0 y.r1 hx.p0 hx.p1 hx.l0 hx.l1 hx.r0 hx.r1 hy.p0 hy.p1 hy.l0 hy.l1 hy.r0 hy.r1
  show CV VP 206 [bxV x.f x.h x.a0 x.b0 x.a1 x.b1 x.p0 x.p1 x.l0 x.l1 x.r0 x.r1,bxV y.f y.h y.a0 y.b0 y.a1 y.b1 y.p0 y.p1 y.l0 y.l1 y.r0 y.r1] []=_
  rw [← hf,← hh,m1]
  by_cases ho:x.over y
  ·have ho2:=ho
   unfold Bx.over at ho2
   rw [if_pos ho2,if_pos ⟨rfl,ho⟩];rfl
  ·have ho2:=ho
   unfold Bx.over at ho2
   rw [if_neg ho2,if_neg (fun q=>ho q.2)]
 ·rw [if_neg (fun q=>hf q.1)]
  refine CV_run (vf:=vf206) rfl rfl ?_
  rw [vf206_start]
  (repeat (first|refine RX_seq ?_|((first|refine sG rfl ?_|refine RX_draw rfl ?_);try (simp only [go_sem,Int.reduceToNat,Nat.reducePow,Int.reduceEq,Int.reduceNe,Int.reduceLT,Int.reduceLE,Nat.reduceAdd,Nat.reduceLeDiff,↓reduceIte,Nat.reduceLT,Nat.reduceMul,Nat.reduceSub,reduceCtorEq,frzLoc,rowCells,vAppM,beq_iff_eq,bne_iff_ne,vf206_res,vf206_keep,hf]))))
def Bx.beq (x y:Bx):Bool:=decide (x.f=y.f)&&(decide (x.h=y.h)&&(decide (x.a0=y.a0)&&(decide (x.b0=y.b0)&&(decide (x.a1=y.a1)&&(decide (x.b1=y.b1)&&(decide (x.p0=y.p0)&&(decide (x.p1=y.p1)&&(decide (x.l0=y.l0)&&(decide (x.l1=y.l1)&&(decide (x.r0=y.r0)&&decide (x.r1=y.r1)))))))))))
theorem Bx.swap_ok {x:Bx} (h:x.ok):x.swap.ok:=⟨h.fam,h.p0,h.p1,h.r0,h.r1,h.l0,h.l1⟩
theorem Bx.meet_ok {x y:Bx} (h:x.ok) (k:y.ok):(x.meet y).ok:=⟨h.fam,num_mx h.p0 k.p0,num_mn h.p1 k.p1,num_mx h.l0 k.l0,num_mn h.l1 k.l1,num_mx h.r0 k.r0,num_mn h.r1 k.r1⟩
def Bx.within (x y:Bx):Prop:=x.f=y.f∧x.over y∧x.meet y=x
instance (x y:Bx):Decidable (x.over y):=by unfold Bx.over;infer_instance
def fbx (b:Bx):List Bx→Option Bx
 |[]=>none
 |x::xs=>if b.f=x.f∧b.over x then some (b.meet x) else fbx b xs
theorem fbx_drop {b:Bx} {xs:List Bx} {i:Nat} {x:Bx} (h:xs[i]?=some x):fbx b (xs.drop i)=if b.f=x.f∧b.over x then some (b.meet x) else fbx b (xs.drop (i+1)):=by
 obtain ⟨h1,h2⟩:=List.getElem?_eq_some_iff.1 h
 rw [List.drop_eq_getElem_cons h1,h2,fbx]
def nar (b:Bx) (t:ByteArray):Nat→List Ru→Option (Nat×Bx)
 |_,[]=>none
 |i,r::rs=>if r.act=2∧(r.tm.toList==t.toList)=true then (match fbx b r.bs with|some m=>some (i,m)|none=>nar b t (i+1) rs) else nar b t (i+1) rs
theorem nar_drop {b:Bx} {t:ByteArray} {rs:List Ru} {i:Nat} {r:Ru} (h:rs[i]?=some r) :
  nar b t i (rs.drop i)=if r.act=2∧(r.tm.toList==t.toList)=true then (match fbx b r.bs with|some m=>some (i,m)|none=>nar b t (i+1) (rs.drop (i+1))) else nar b t (i+1) (rs.drop (i+1)):=by
 obtain ⟨h1,h2⟩:=List.getElem?_eq_some_iff.1 h
 rw [List.drop_eq_getElem_cons h1,h2,nar]
def narV (o:Option (Nat×Bx)):V:=match o with
 |some (i,m)=>.tup [.d (I i),m.ag,.d (B true)]
 |none=>.tup [.d (I 0),Bx.zero.ag,.d (B false)]
theorem e49 (rs:List Ru) (b:Bx) (t:ByteArray) (hl:rs.length<1000) (hr:∀ r∈rs,r.ok) (hb:b.ok) :
  CV VP 176 [.d (.sl (rs.map Ru.row)),b.ag,.d (.lit (.string t))] []=some ⟨narV (nar b.swap t 0 rs),[],[],0⟩:=by
 have hsw:=e51 b
 have hbs:=Bx.swap_ok hb
 generalize b.swap=c at *
 refine CV_run (vf:=vf176) rfl rfl ?_
 rw [vf176_start]
 (repeat (first|refine RX_seq ?_|((first|refine sG rfl ?_|refine RX_draw rfl ?_);try (simp only [go_sem,simprocAttr,frzLoc,rowCells,vAppM,beq_iff_eq,bne_iff_ne,vf176_res,vf176_keep,List.length_map,hsw]))))
 refine RX_loopN (n:=3) rfl ?_
 refine RL_ind (fun m st=>∃ (i:Nat),i+m=rs.length∧nar c t i (rs.drop i)=nar c t 0 rs ∧
  At vf176K0 3 st ((.d (.sl (rs.map Ru.row))::.any::.d (.lit (.string t))::.any::.any::.any::.any::.ptr 1 0::.any::.ptr 2 0::.d (I (i:Nat))::.any::.any::.any::.any::.any::.any::.any::.any::.any::.any::.any::.any::.any::.any::.any::.any::.any::.any::.any::.any::.any::.any::.any::.any::.any::.any::.any::.any::.any::.any::.any::.any::.any::.any::.any::.any::.any::.any::.any::.any::.any::.any::.any::.any::.any::.any::.any::.any::.any::.any::.any::.any::.any::[])) [b.row.map .d,Bx.zero.row.map .d,c.row.map .d] [] 0 0) ?_ rs.length _ ⟨0,Nat.zero_add _,rfl,rfl,rfl,rfl,rfl,rfl,rfl⟩
 rintro m st ⟨i,hi,hf,hat⟩ ih
 refine RL_at hat rfl rfl (vf176L0_go ?_)
 cases m with
 |zero=>
  have h1:¬i<rs.length:=by omega
  rw [List.drop_eq_nil_of_le (by omega)] at hf
  rw [← hf]
  simp only [nar,narV]
  (repeat (first|refine RX_seq ?_|((first|refine sG rfl ?_|refine RX_draw rfl ?_);try (simp only [go_sem,simprocAttr,frzLoc,rowCells,vAppM,beq_iff_eq,bne_iff_ne,vf176_res,vf176_keep,h1,List.length_map]))))
 |succ m=>
  have h1:i<rs.length:=by omega
  obtain ⟨r,hri⟩:∃ r,rs[i]?=some r:=⟨_,List.getElem?_eq_getElem h1⟩
  rw [nar_drop hri] at hf
  have hrow:(rs.map Ru.row)[i]?=some r.row:=by rw [List.getElem?_map,hri];rfl
  have hrok:=hr r (List.mem_of_getElem? hri)
  have hwi:=w_nat (i:=i) (by omega)
  have next:=fun (hp:nar c t (i+1) (rs.drop (i+1))=nar c t 0 rs) st hat=>ih m st (Nat.lt_succ_self m) ⟨i+1,by omega,hp,hat⟩
  clear ih
  by_cases c1:r.act=2
  ·cases c2:r.tm.toList==t.toList with
   |true=>
    rw [if_pos ⟨c1,c2⟩] at hf
    (repeat (first|refine RX_seq ?_|((first|refine sG rfl ?_|refine RX_draw rfl ?_);try (simp only [go_sem,simprocAttr,frzLoc,rowCells,vAppM,beq_iff_eq,bne_iff_ne,vf176_res,vf176_keep,h1,hrow,c1,c2,List.length_map,hwi,vStr]))))
    refine RX_loopN (n:=3) rfl ?_
    have hres:narV (nar c t 0 rs)=narV (match fbx c r.bs with|some m=>some (i,m)|none=>nar c t 0 rs):=by
     rw [← hf]
     cases fbx c r.bs<;>rfl
    rw [hres]
    refine RL_ind (fun q st=>∃ (j:Nat),j+q=r.bs.length∧fbx c (r.bs.drop j)=fbx c r.bs ∧
     At vf176K1 3 st ((.d (.sl (rs.map Ru.row))::.any::.d (.lit (.string t))::.any::.any::.any::.any::.ptr 1 0::.any::.ptr 2 0::.d (I (i:Nat))::.d (I (j:Nat))::.any::.any::.any::.any::.any::.any::.any::.any::.any::.any::.any::.any::.any::.any::.any::.any::.any::.any::.any::.any::.any::.any::.any::.any::.any::.any::.any::.any::.any::.any::.any::.any::.any::.any::.any::.any::.any::.any::.any::.any::.any::.any::.any::.any::.any::.any::.any::.any::.any::.any::.any::.any::[]))
      [b.row.map .d,Bx.zero.row.map .d,c.row.map .d] [] 0 0) ?_ r.bs.length _ ⟨0,Nat.zero_add _,rfl,rfl,rfl,rfl,rfl,rfl,rfl⟩
    rintro q st ⟨j,hj,hg,hat2⟩ ih2
    refine RL_at hat2 rfl rfl (vf176L1_go ?_)
    cases q with
    |zero=>
     have g1:¬j<r.bs.length:=by omega
     rw [List.drop_eq_nil_of_le (by omega),fbx] at hg
     rw [← hg] at hf ⊢
     simp only at hf ⊢
     (repeat (first|refine RX_seq ?_|((first|refine sG rfl ?_|refine RX_draw rfl ?_);try (simp only [go_sem,simprocAttr,frzLoc,rowCells,vAppM,beq_iff_eq,bne_iff_ne,vf176_res,vf176_keep,h1,hrow,g1,hwi,List.length_map]))))
     exact next hf _ ⟨rfl,rfl,rfl,rfl,rfl,rfl⟩
    |succ q=>
     have g1:j<r.bs.length:=by omega
     obtain ⟨x,hxj⟩:∃ x,r.bs[j]?=some x:=⟨_,List.getElem?_eq_getElem g1⟩
     rw [fbx_drop hxj] at hg
     have hxrow:(r.bs.map Bx.row)[j]?=some x.row:=by rw [List.getElem?_map,hxj];rfl
     have h93:=e93 c x hbs (hrok.bs x (List.mem_of_getElem? hxj))
     have hrl:=hrok.len
     have hwj:=w_nat (i:=j) (by omega)
     unfold Bx.meetR at h93
     by_cases d1:c.f=x.f∧c.over x
     ·rw [if_pos d1] at h93 hg
      rw [← hg]
      simp only [narV]
      (repeat (first|refine RX_seq ?_|((first|refine sG rfl ?_|refine RX_draw rfl ?_);try (simp only [go_sem,simprocAttr,frzLoc,rowCells,vAppM,beq_iff_eq,bne_iff_ne,vf176_res,vf176_keep,h1,hrow,g1,hxrow,hwj,h93,List.length_map]))))
     ·rw [if_neg d1] at h93 hg
      (repeat (first|refine RX_seq ?_|((first|refine sG rfl ?_|refine RX_draw rfl ?_);try (simp only [go_sem,simprocAttr,frzLoc,rowCells,vAppM,beq_iff_eq,bne_iff_ne,vf176_res,vf176_keep,h1,hrow,g1,hxrow,hwj,h93,List.length_map]))))
      exact ih2 q _ (Nat.lt_succ_self q) ⟨j+1,by omega,hg,rfl,rfl,rfl,rfl,rfl,rfl⟩
   |false=>
    rw [if_neg (by rintro ⟨_,h⟩;rw [c2] at h;cases h)] at hf
    (repeat (first|refine RX_seq ?_|((first|refine sG rfl ?_|refine RX_draw rfl ?_);try (simp only [go_sem,simprocAttr,frzLoc,rowCells,vAppM,beq_iff_eq,bne_iff_ne,vf176_res,vf176_keep,h1,hrow,c1,c2,List.length_map,hwi,vStr]))))
    exact next hf _ ⟨rfl,rfl,rfl,rfl,rfl,rfl⟩
  ·rw [if_neg (fun h=>c1 h.1)] at hf
   have c1n:(r.act != 2)=true:=by simpa using c1
   (repeat (first|refine RX_seq ?_|((first|refine sG rfl ?_|refine RX_draw rfl ?_);try (simp only [go_sem,simprocAttr,frzLoc,rowCells,vAppM,beq_iff_eq,bne_iff_ne,vf176_res,vf176_keep,h1,hrow,c1n,List.length_map,hwi,vStr]))))
   exact next hf _ ⟨rfl,rfl,rfl,rfl,rfl,rfl⟩
def pT (n:Int) (ts:List Tm):Tm:=.mk 3 0 (nT n::ts)
theorem nT_row (n:Int):(nT n).row=[I 1,I n,.sl []]:=by simp [nT,Tm.row_mk]
theorem e40 (n:Int) (ts:List Tm) (h:ts.length<1000000):CV VP 72 [.d (I n),.d (.sl (ts.map Tm.row))] []=some ⟨(pT n ts).ag,[],[],0⟩:=by
 have h1:=Tm.rows3 (nT n::ts) (by simp only [List.length_cons];omega)
 have h2:=Tm.rows3 ts (by omega)
 have h33:=e33 h1
 have hra:(ts.map Tm.row).all (fun r=>r.length==3)=true:=h2.2
 have hl:ts.length≤4294967296:=by omega
 have hl2:ts.length+1≤4294967296:=by omega
 simp only [pT,Tm.ag,Tm.op_mk,Tm.val_mk,Tm.args_mk,List.map_cons,nT_row] at h33 ⊢
 refine CV_run (vf:=vf72) rfl rfl ?_
 rw [vf72_start]
 (repeat (first|refine RX_seq ?_|((first|refine sG rfl ?_|refine RX_draw rfl ?_);try (simp only [go_sem,simprocAttr,frzLoc,rowCells,vAppM,beq_iff_eq,bne_iff_ne,vf72_res,vf72_keep,e75,h33,hra,hl,hl2,List.length_map,Nat.add_comm 1]))))
def bqN (f0 h0 a0 f1 h1 a1 f2 h2 a2 f3 h3 a3 p0 p1 l0 l1 r0 r1:Int):List Tm:=
 [nT f0,nT (w h0),nT (w a0),nT f1,nT (w h1),nT (w a1),nT f2,nT (w h2),nT (w a2),nT f3,nT (w h3),nT (w a3),nT p0,nT p1,nT l0,nT l1,nT r0,nT r1]
def byT (t:List UInt8):List Tm:=t.map fun c=>nT (c.toNat:Int)
set_option maxHeartbeats 4000000 in
theorem e64 (f0 h0 a0 f1 h1 a1 f2 h2 a2 f3 h3 a3 p0 p1 l0 l1 r0 r1:Int) (t:ByteArray) (ht:t.size<100000) :
  CV VP 77 [.agg [.d (I f0),.d (U h0),.d (U a0),.d (I f1),.d (U h1),.d (U a1),.d (I f2),.d (U h2),.d (U a2),.d (I f3),.d (U h3),.d (U a3),.d (I p0),.d (I p1),.d (I l0),.d (I l1),.d (I r0),.d (I r1)],.d (.lit (.string t))] [] =
   some ⟨(pT 11 (bqN f0 h0 a0 f1 h1 a1 f2 h2 a2 f3 h3 a3 p0 p1 l0 l1 r0 r1++byT t.data.toList)).ag,[],[],0⟩:=by
 have w0:IntKind.i64.wrap (0+1)=1:=rfl
 have w1:IntKind.i64.wrap (1+1)=2:=rfl
 have w2:IntKind.i64.wrap (2+1)=3:=rfl
 have w3:IntKind.i64.wrap (3+1)=4:=rfl
 generalize hN:bqN f0 h0 a0 f1 h1 a1 f2 h2 a2 f3 h3 a3 p0 p1 l0 l1 r0 r1=N
 have hNr:N.map Tm.row=[[I 1,I f0,.sl []],[I 1,I (w h0),.sl []],[I 1,I (w a0),.sl []],[I 1,I f1,.sl []],[I 1,I (w h1),.sl []],[I 1,I (w a1),.sl []],[I 1,I f2,.sl []],[I 1,I (w h2),.sl []],[I 1,I (w a2),.sl []],[I 1,I f3,.sl []],[I 1,I (w h3),.sl []],[I 1,I (w a3),.sl []],[I 1,I p0,.sl []],[I 1,I p1,.sl []],[I 1,I l0,.sl []],[I 1,I l1,.sl []],[I 1,I r0,.sl []],[I 1,I r1,.sl []]]:=by
  rw [← hN];simp only [bqN,List.map_cons,List.map_nil,nT_row]
 have hNl:N.length=18:=by rw [← hN];rfl
 refine CV_run (vf:=vf77) rfl rfl ?_
 rw [vf77_start]
 (repeat' (first
  |refine RX_seq ?_
  |((first|refine sG rfl ?_|refine RX_draw rfl ?_|refine ite_ngo (fun _=>?_) (fun _=>?_)|refine ite_go (fun _=>?_) (fun _=>?_))<;>try (simp only [go_sem,Int.reduceToNat,Nat.reducePow,Int.reduceEq,Int.reduceNe,Int.reduceLT,Int.reduceLE,Nat.reduceAdd,Nat.reduceLeDiff,↓reduceIte,Nat.reduceLT,Nat.reduceMul,Nat.reduceSub,reduceCtorEq,frzLoc,rowCells,vAppM,ibeq,ibne,bbeq,decide_eq_false_iff_not,decide_not,Bool.not_not,Decidable.not_not,Bool.not_eq_eq_eq_not,gt_iff_lt,ge_iff_le,and_false,false_and,or_self,and_self,vf77_res,vf77_keep,e75, *]))
  |(refine RL_head ?_;simp only [go_sem,Int.reduceToNat,Nat.reducePow,Int.reduceEq,Int.reduceNe,Int.reduceLT,Int.reduceLE,Nat.reduceAdd,Nat.reduceLeDiff,↓reduceIte,Nat.reduceLT,Nat.reduceMul,Nat.reduceSub,reduceCtorEq,frzLoc,rowCells,vAppM,ibeq,ibne,bbeq,decide_eq_false_iff_not,decide_not,Bool.not_not,Decidable.not_not,Bool.not_eq_eq_eq_not,gt_iff_lt,ge_iff_le,and_false,false_and,or_self,and_self,vf77_res,vf77_keep,e75, *,St.head,forget,vf77K0,RLK_some];refine vf77L0_go ?_)
  |refine RX_loop ?_))
 refine (?_:RL VP vf77K1 vf77L1 2 _ _)
 refine RL_ind (fun m st=>∃ (i g gn:Nat) (rows:List (List D)),i+m=t.size∧rows=(N++byT (t.data.toList.take i)).map Tm.row ∧
  At vf77K1 2 st ((.any::.d (.lit (.string t))::.any::.any::.ptr 1 0::.sl 3 rows (.own 0 g)::.any::.any::.d (I (i:Nat))::.any::.any::.any::.any::.any::.any::.any::.any::.any::.any::.any::.any::.any::.any::.any::.any::.any::.any::.any::.any::.any::.any::.any::.any::.any::.any::.any::.any::.any::.any::.any::.any::.any::.any::.any::.any::.any::.any::.any::.any::.any::.any::.any::.any::.any::.any::.any::.any::.any::.any::.any::.any::.any::.any::.any::.any::.any::.any::.any::.any::.any::.any::.any::.any::.any::.any::.any::.any::.any::.any::[]))
   [[.d (I f0),.d (U h0),.d (U a0),.d (I f1),.d (U h1),.d (U a1),.d (I f2),.d (U h2),.d (U a2),.d (I f3),.d (U h3),.d (U a3),.d (I p0),.d (I p1),.d (I l0),.d (I l1),.d (I r0),.d (I r1)],[.d (I 0),.d (I 0),.nil]] [g] gn 0) ?_ t.size _
  ⟨0,_,_,_,Nat.zero_add _,?_,rfl,rfl,rfl,rfl,rfl,rfl⟩
 case refine_2=>simp only [List.take_zero,byT,List.map_nil,List.append_nil];exact hNr.symm
 rintro m st ⟨i,g,gn,rows,hi,hrows,hat⟩ ih
 refine RL_at hat rfl rfl (vf77L1_go ?_)
 clear hat
 have hsz:t.data.toList.length=t.size:=Array.length_toList
 have hrl:rows.length≤200000:=by rw [hrows,List.length_map,List.length_append,hNl,byT,List.length_map,List.length_take];omega
 cases m with
 |zero=>
  have h1:¬i<t.size:=by omega
  rw [List.take_of_length_le (by omega)] at hrows
  have h40:=e40 11 (N++byT t.data.toList) (by rw [List.length_append,hNl,byT,List.length_map];omega)
  rw [← hrows] at h40
  simp only [pT,Tm.ag,Tm.op_mk,Tm.val_mk,Tm.args_mk] at h40 ⊢
  generalize N++byT t.data.toList=A at *
  (repeat (first|refine RX_seq ?_|((first|refine sG rfl ?_|refine RX_draw rfl ?_);try (simp only [go_sem,simprocAttr,frzLoc,rowCells,vAppM,beq_iff_eq,bne_iff_ne,vf77_res,vf77_keep,h1,h40,V.str]))))
 |succ m=>
  have h1:i<t.size:=by omega
  have hb:t[i]?=some t[i]:=getElem?_pos t i h1
  have hb2:t.data.toList[i]?=some t[i]:=by rw [Array.getElem?_toList];exact Array.getElem?_eq_getElem h1
  generalize t[i]=b at *
  have wb:IntKind.i64.wrap (b.toNat:Int)=(b.toNat:Int):=w_in (by omega) (by have:=b.toNat_lt;omega)
  have hwi:=w_nat (i:=i) (by omega)
  have hr1:rows.length+1≤4294967296:=by omega
  (repeat (first|refine RX_seq ?_|((first|refine sG rfl ?_|refine RX_draw rfl ?_);try (simp only [go_sem,simprocAttr,frzLoc,rowCells,vAppM,beq_iff_eq,bne_iff_ne,vf77_res,vf77_keep,h1,hb,wb,V.str,e75,hwi,hr1]))))
  refine ih m _ (Nat.lt_succ_self m) ⟨i+1,_,_,_,by omega,?_,rfl,rfl,rfl,rfl,rfl,rfl⟩
  rw [hrows,List.take_add_one,hb2]
  simp [byT,nT_row]
abbrev nR (n:Int):List D:=[I 1,I n,.sl []]
abbrev goldS:D:=.lit (.string ⟨#[103,111,108,100]⟩)
def A37:Orc:=fun f _ _=>match Nat.beq f 226 with
 |true=>some ⟨.d (I 0),[],[],0⟩
 |false=>none
theorem u64_in {n:Int} (h1:0≤n) (h2:n≤18446744073709551615):IntKind.u64.wrap n=n:=IntWalk.u64_in n ⟨h1,h2⟩
theorem fam_in {x:Bx} (h:x.ok):0≤x.h∧x.h≤2305843009213693952:=by rcases h.fam with ⟨_,h⟩|⟨_,h⟩<;>omega
theorem k37g (f h a0 b0 a1 b1 p0 p1 l0 l1 s0 s1:Int) (h94:CV VP 226 [.agg [.d (I f),.d (U (IntKind.u64.wrap h)),.d (U (IntKind.u64.wrap a0)),.d (I f),.d (U (IntKind.u64.wrap h)),.d (U (IntKind.u64.wrap b0)),.d (I f),.d (U (IntKind.u64.wrap h)),.d (U (IntKind.u64.wrap a1)),.d (I f),.d (U (IntKind.u64.wrap h)),.d (U (IntKind.u64.wrap b1)),.d (I p0),.d (I p1),.d (I l0),.d (I l1),.d (I s0),.d (I s1)]] []=some ⟨.d (I 0),[],[],0⟩) :
  CV VP 203 [.d (.sl [nR f,nR h,nR a0,nR f,nR h,nR b0,nR f,nR h,nR a1,nR f,nR h,nR b1,nR p0,nR p1,nR l0,nR l1,nR s0,nR s1,nR 103,nR 111,nR 108,nR 100])] []=some ⟨.tup [.agg [.d (I f),.d (U (IntKind.u64.wrap h)),.d (U (IntKind.u64.wrap a0)),.d (I f),.d (U (IntKind.u64.wrap h)),.d (U (IntKind.u64.wrap b0)),.d (I f),.d (U (IntKind.u64.wrap h)),.d (U (IntKind.u64.wrap a1)),.d (I f),.d (U (IntKind.u64.wrap h)),.d (U (IntKind.u64.wrap b1)),.d (I p0),.d (I p1),.d (I l0),.d (I l1),.d (I s0),.d (I s1)],.d (.lit (.string ⟨#[103,111,108,100]⟩)),.d (B true)],[],[],0⟩:=
 CV_R (cA_ok vft_ok A37 400 60) 400 [(31,true),(15,true),(32,true),(15,true),(32,true),(15,true),(32,true),(15,true)] [] rfl rfl (ob:=[(prB (CV VP 226 [.agg [.d (I f),.d (U (IntKind.u64.wrap h)),.d (U (IntKind.u64.wrap a0)),.d (I f),.d (U (IntKind.u64.wrap h)),.d (U (IntKind.u64.wrap b0)),.d (I f),.d (U (IntKind.u64.wrap h)),.d (U (IntKind.u64.wrap a1)),.d (I f),.d (U (IntKind.u64.wrap h)),.d (U (IntKind.u64.wrap b1)),.d (I p0),.d (I p1),.d (I l0),.d (I l1),.d (I s0),.d (I s1)]] []=some ⟨.d (I 0),[],[],0⟩),true)]) (by kernel_rfl) (.cons (prB_of h94) .nil)
theorem h37g (x:Bx) (ho:x.ok) (hf:x.fine):CV VP 203 [.d (.sl [nR x.f,nR x.h,nR x.a0,nR x.f,nR x.h,nR x.b0,nR x.f,nR x.h,nR x.a1,nR x.f,nR x.h,nR x.b1,nR x.p0,nR x.p1,nR x.l0,nR x.l1,nR x.r0,nR x.r1,nR 103,nR 111,nR 108,nR 100])] []=some ⟨.tup [x.ag,.d (.lit (.string ⟨#[103,111,108,100]⟩)),.d (B true)],[],[],0⟩:=by
 obtain ⟨f1,f2⟩:=fam_in ho
 have h:=k37g x.f x.h x.a0 x.b0 x.a1 x.b1 x.p0 x.p1 x.l0 x.l1 x.r0 x.r1
 have g0:=hf.a0
 have g1:=hf.b0
 have g2:=hf.a1
 have g3:=hf.b1
 have g4:=hf.ab0
 have g5:=hf.ab1
 rw [u64_in f1 (by omega),u64_in (n:=x.a0) (by omega) (by omega),u64_in (n:=x.b0) (by omega) (by omega),u64_in (n:=x.a1) (by omega) (by omega),u64_in (n:=x.b1) (by omega) (by omega)] at h
 refine h ?_
 have h88:=e88 x.f x.h x.a0 x.f x.h x.b0 x.f x.h x.a1 x.f x.h x.b1 x.p0 x.p1 x.l0 x.l1 x.r0 x.r1
 rw [chk_fine ho hf] at h88
 exact h88
theorem k37s (f h a0 b0 a1 b1 p0 p1 l0 l1 s0 s1:Int) (h94:CV VP 226 [.agg [.d (I f),.d (U (IntKind.u64.wrap h)),.d (U (IntKind.u64.wrap a0)),.d (I f),.d (U (IntKind.u64.wrap h)),.d (U (IntKind.u64.wrap b0)),.d (I f),.d (U (IntKind.u64.wrap h)),.d (U (IntKind.u64.wrap a1)),.d (I f),.d (U (IntKind.u64.wrap h)),.d (U (IntKind.u64.wrap b1)),.d (I p0),.d (I p1),.d (I l0),.d (I l1),.d (I s0),.d (I s1)]] []=some ⟨.d (I 0),[],[],0⟩) :
  CV VP 203 [.d (.sl [nR f,nR h,nR a0,nR f,nR h,nR b0,nR f,nR h,nR a1,nR f,nR h,nR b1,nR p0,nR p1,nR l0,nR l1,nR s0,nR s1,nR 115,nR 105,nR 108,nR 118,nR 101,nR 114])] []=some ⟨.tup [.agg [.d (I f),.d (U (IntKind.u64.wrap h)),.d (U (IntKind.u64.wrap a0)),.d (I f),.d (U (IntKind.u64.wrap h)),.d (U (IntKind.u64.wrap b0)),.d (I f),.d (U (IntKind.u64.wrap h)),.d (U (IntKind.u64.wrap a1)),.d (I f),.d (U (IntKind.u64.wrap h)),.d (U (IntKind.u64.wrap b1)),.d (I p0),.d (I p1),.d (I l0),.d (I l1),.d (I s0),.d (I s1)],.d (.lit (.string ⟨#[115,105,108,118,101,114]⟩)),.d (B true)],[],[],0⟩:=
 CV_R (cA_ok vft_ok A37 400 60) 400 [(31,true),(15,true),(32,true),(15,true),(32,true),(15,true),(32,true),(15,true)] [] rfl rfl (ob:=[(prB (CV VP 226 [.agg [.d (I f),.d (U (IntKind.u64.wrap h)),.d (U (IntKind.u64.wrap a0)),.d (I f),.d (U (IntKind.u64.wrap h)),.d (U (IntKind.u64.wrap b0)),.d (I f),.d (U (IntKind.u64.wrap h)),.d (U (IntKind.u64.wrap a1)),.d (I f),.d (U (IntKind.u64.wrap h)),.d (U (IntKind.u64.wrap b1)),.d (I p0),.d (I p1),.d (I l0),.d (I l1),.d (I s0),.d (I s1)]] []=some ⟨.d (I 0),[],[],0⟩),true)]) (by kernel_rfl) (.cons (prB_of h94) .nil)
theorem h37s (x:Bx) (ho:x.ok) (hf:x.fine):CV VP 203 [.d (.sl [nR x.f,nR x.h,nR x.a0,nR x.f,nR x.h,nR x.b0,nR x.f,nR x.h,nR x.a1,nR x.f,nR x.h,nR x.b1,nR x.p0,nR x.p1,nR x.l0,nR x.l1,nR x.r0,nR x.r1,nR 115,nR 105,nR 108,nR 118,nR 101,nR 114])] []=some ⟨.tup [x.ag,.d (.lit (.string ⟨#[115,105,108,118,101,114]⟩)),.d (B true)],[],[],0⟩:=by
 obtain ⟨f1,f2⟩:=fam_in ho
 have h:=k37s x.f x.h x.a0 x.b0 x.a1 x.b1 x.p0 x.p1 x.l0 x.l1 x.r0 x.r1
 have g0:=hf.a0
 have g1:=hf.b0
 have g2:=hf.a1
 have g3:=hf.b1
 have g4:=hf.ab0
 have g5:=hf.ab1
 rw [u64_in f1 (by omega),u64_in (n:=x.a0) (by omega) (by omega),u64_in (n:=x.b0) (by omega) (by omega),u64_in (n:=x.a1) (by omega) (by omega),u64_in (n:=x.b1) (by omega) (by omega)] at h
 refine h ?_
 have h88:=e88 x.f x.h x.a0 x.f x.h x.b0 x.f x.h x.a1 x.f x.h x.b1 x.p0 x.p1 x.l0 x.l1 x.r0 x.r1
 rw [chk_fine ho hf] at h88
 exact h88
def bytsR:List UInt8→List (List D)
 |[]=>[]
 |b::bs=>nR (Int.ofNat b.toNat)::bytsR bs
def bxP (f0 h0 a0 f1 h1 a1 f2 h2 a2 f3 h3 a3 p0 p1 l0 l1 r0 r1:Int) (t:ByteArray):V:=.agg [.d (I 3),.d (I 0),.d (.sl (nR 11::nR f0::nR h0::nR a0::nR f1::nR h1::nR a1::nR f2::nR h2::nR a2::nR f3::nR h3::nR a3::nR p0::nR p1::nR l0::nR l1::nR r0::nR r1::bytsR t.data.toList))]
theorem byT_row:∀ l:List UInt8,(byT l).map Tm.row=bytsR l
 |[]=>rfl
 |b::bs=>by
  have ih:=byT_row bs
  simp only [byT,List.map_cons,nT_row,bytsR] at ih ⊢
  rw [ih];rfl
theorem h34 (x:Bx) (ho:x.ok) (hf:x.fine) (t:ByteArray) (ht:t.size<100000):CV VP 77 [x.ag,.d (.lit (.string t))] []=some ⟨bxP x.f x.h x.a0 x.f x.h x.b0 x.f x.h x.a1 x.f x.h x.b1 x.p0 x.p1 x.l0 x.l1 x.r0 x.r1 t,[],[],0⟩:=by
 obtain ⟨f1,f2⟩:=fam_in ho
 have g0:=hf.a0
 have g1:=hf.b0
 have g2:=hf.a1
 have g3:=hf.b1
 have g4:=hf.ab0
 have g5:=hf.ab1
 have h:=e64 x.f x.h x.a0 x.f x.h x.b0 x.f x.h x.a1 x.f x.h x.b1 x.p0 x.p1 x.l0 x.l1 x.r0 x.r1 t ht
 rw [h]
 simp only [pT,Tm.ag,Tm.op_mk,Tm.val_mk,Tm.args_mk,List.map_cons,List.map_append,bqN,nT_row,byT_row,List.map_nil,List.cons_append,List.nil_append,bxP]
 have e1:w x.h=x.h:=w_in (by omega) (by omega)
 have e2:w x.a0=x.a0:=w_in (by omega) (by omega)
 have e3:w x.b0=x.b0:=w_in (by omega) (by omega)
 have e4:w x.a1=x.a1:=w_in (by omega) (by omega)
 have e5:w x.b1=x.b1:=w_in (by omega) (by omega)
 rw [e1,e2,e3,e4,e5]
def Bx.beqB (m x:Bx):Bool:=m.f==x.f&&(m.h==x.h&&(m.a0==x.a0&&(m.f==x.f&&(m.h==x.h&&(m.b0==x.b0&&(m.f==x.f&&(m.h==x.h&&(m.a1==x.a1&&(m.f==x.f&&(m.h==x.h&&(m.b1==x.b1&&(m.p0==x.p0&&(m.p1==x.p1&&(m.l0==x.l0&&(m.l1==x.l1&&(m.r0==x.r0&&m.r1==x.r1))))))))))))))))
theorem Bx.beqB_iff {m x:Bx}:m.beqB x=true↔m=x:=by
 obtain ⟨a1,a2,a3,a4,a5,a6,a7,a8,a9,a10,a11,a12⟩:=m
 obtain ⟨b1,b2,b3,b4,b5,b6,b7,b8,b9,b10,b11,b12⟩:=x
 simp only [Bx.beqB,Bool.and_eq_true,beq_iff_eq,Bx.mk.injEq]
 constructor
 ·rintro ⟨h1,h2,h3,_,_,h4,_,_,h5,_,_,h6,h7,h8,h9,h10,h11,h12⟩
  exact ⟨h1,h2,h3,h4,h5,h6,h7,h8,h9,h10,h11,h12⟩
 ·rintro ⟨h1,h2,h3,h4,h5,h6,h7,h8,h9,h10,h11,h12⟩
  exact ⟨h1,h2,h3,h1,h2,h4,h1,h2,h5,h1,h2,h6,h7,h8,h9,h10,h11,h12⟩
set_option maxHeartbeats 4000000 in
theorem e100t (x y:Bx) (hx:x.ok) (hy:y.ok) (hw:x.f=y.f∧x.over y):CV VP 183 [x.ag,y.ag] []=some ⟨.d (B ((x.meet y).beqB x)),[],[],0⟩:=by
 have h92:=e92 x y hx hy
 unfold Bx.meetR at h92
 rw [if_pos hw] at h92
 unfold Bx.beqB
 refine CV_run (vf:=vf183) rfl rfl ?_
 rw [vf183_start]
 (repeat (first|refine RX_seq ?_|((first|refine sG rfl ?_|refine RX_draw rfl ?_);try (simp only [go_sem,simprocAttr,frzLoc,rowCells,vAppM,beq_iff_eq,bne_iff_ne,vf183_res,vf183_keep,h92,vCellsEq,vCellEq]))))
theorem e100f (x y:Bx) (hx:x.ok) (hy:y.ok) (hw:¬(x.f=y.f∧x.over y)):CV VP 183 [x.ag,y.ag] []=some ⟨.d (B false),[],[],0⟩:=by
 have h92:=e92 x y hx hy
 unfold Bx.meetR at h92
 rw [if_neg hw] at h92
 refine CV_run (vf:=vf183) rfl rfl ?_
 rw [vf183_start]
 (repeat (first|refine RX_seq ?_|((first|refine sG rfl ?_|refine RX_draw rfl ?_);try (simp only [go_sem,simprocAttr,frzLoc,rowCells,vAppM,beq_iff_eq,bne_iff_ne,vf183_res,vf183_keep,h92,vCellsEq,vCellEq]))))
theorem h100 (x y:Bx) (hx:x.ok) (hy:y.ok):CV VP 183 [x.ag,y.ag] []=some ⟨.d (B (ansB VP 183 [x.ag,y.ag])),[],[],0⟩:=by
 refine ansB_spec ?_
 by_cases hw:x.f=y.f∧x.over y
 ·exact ⟨_,e100t x y hx hy hw⟩
 ·exact ⟨_,e100f x y hx hy hw⟩
theorem ins_iff (x y:Bx) (hx:x.ok) (hy:y.ok):ansB VP 183 [x.ag,y.ag]=true↔(x.f=y.f∧x.over y)∧x.meet y=x:=by
 by_cases hw:x.f=y.f∧x.over y
 ·rw [ansB_eq (e100t x y hx hy hw),Bx.beqB_iff]
  exact ⟨fun h=>⟨hw,h⟩,fun h=>h.2⟩
 ·rw [ansB_eq (e100f x y hx hy hw)]
  exact ⟨fun h=>absurd h (by decide),fun h=>absurd h.1 hw⟩
theorem ins_self (x:Bx) (hx:x.ok) (hf:x.fine):ansB VP 183 [x.ag,x.ag]=true:=by
 rw [ins_iff x x hx hx]
 have g4:=hf.ab0
 have g5:=hf.ab1
 have g6:=hf.p01
 have g7:=hf.l01
 have g8:=hf.r01
 refine ⟨⟨rfl,?_⟩,?_⟩
 ·unfold Bx.over;omega
 ·obtain ⟨b1,b2,b3,b4,b5,b6,b7,b8,b9,b10,b11,b12⟩:=x
  simp only [Bx.meet,Bx.mk.injEq,true_and]
  omega
theorem Bx.swap_both {x:Bx} (ho:x.ok) (hf:x.fine):x.swap.ok∧x.swap.fine:=
 ⟨⟨ho.fam,ho.p0,ho.p1,ho.r0,ho.r1,ho.l0,ho.l1⟩,⟨hf.a1,hf.b1,hf.a0,hf.b0,hf.ab1,hf.ab0,hf.p0,hf.p01,hf.p1,hf.r01,hf.l01⟩⟩
theorem k32g (f h a0 b0 a1 b1 p0 p1 l0 l1 s0 s1:Int):CV VP 197 [.agg [.d (I f),.d (U h),.d (U a0),.d (I f),.d (U h),.d (U b0),.d (I f),.d (U h),.d (U a1),.d (I f),.d (U h),.d (U b1),.d (I p0),.d (I p1),.d (I l0),.d (I l1),.d (I s0),.d (I s1)],.d goldS] [] =
  some ⟨.agg [.d (I 3),.d (I 0),.d (.sl [nR 11,nR f,nR (wF h),nR (wF a0),nR f,nR (wF h),nR (wF b0),nR f,nR (wF h),nR (wF a1),nR f,nR (wF h),nR (wF b1),nR p0,nR p1,nR l0,nR l1,nR s0,nR s1,nR 103,nR 111,nR 108,nR 100])],[],[],0⟩:=
 CV_R (C:=cA VP vft.get noNat 400 60) (cA_ok vft_ok noNat 400 60) 400 [(1,true),(0,true),(3,true),(0,true),(3,true),(0,true),(3,true),(0,true)] [] rfl rfl (ob:=[]) (by kernel_rfl) .nil
theorem h32g (x:Bx) (ho:x.ok) (hf:x.fine):CV VP 197 [x.ag,.d goldS] []=some ⟨.agg [.d (I 3),.d (I 0),.d (.sl [nR 11,nR x.f,nR x.h,nR x.a0,nR x.f,nR x.h,nR x.b0,nR x.f,nR x.h,nR x.a1,nR x.f,nR x.h,nR x.b1,nR x.p0,nR x.p1,nR x.l0,nR x.l1,nR x.r0,nR x.r1,nR 103,nR 111,nR 108,nR 100])],[],[],0⟩:=by
 obtain ⟨f1,f2⟩:=fam_in ho
 have g0:=hf.a0
 have g1:=hf.b0
 have g2:=hf.a1
 have g3:=hf.b1
 have g4:=hf.ab0
 have g5:=hf.ab1
 have h:=k32g x.f x.h x.a0 x.b0 x.a1 x.b1 x.p0 x.p1 x.l0 x.l1 x.r0 x.r1
 rw [wF_in (n:=x.h) (by omega) (by omega),wF_in (n:=x.a0) (by omega) (by omega),wF_in (n:=x.b0) (by omega) (by omega),wF_in (n:=x.a1) (by omega) (by omega),wF_in (n:=x.b1) (by omega) (by omega)] at h
 exact h
theorem tm_gold {r:Ru} (hf:r.fine) (h:(r.tm.toList==gold.toList)=true):r.tm=gold:=by
 rcases hf.act with ⟨_,h1|h1⟩|⟨_,h1⟩
 ·exact h1
 ·rw [h1] at h;exact absurd h (by decide +kernel)
 ·rw [h1] at h;exact absurd h (by decide +kernel)
theorem fbx_some {b m:Bx}:∀ {xs:List Bx},fbx b xs=some m→∃ y∈xs,b.f=y.f∧b.over y∧m=b.meet y
 |[],h=>by cases h
 |x::xs,h=>by
  rw [fbx] at h
  split at h
  ·rename_i hc
   simp only [Option.some.injEq] at h
   exact ⟨x,List.mem_cons_self,hc.1,hc.2,h.symm⟩
  ·obtain ⟨y,h1,h2⟩:=fbx_some h
   exact ⟨y,List.mem_cons_of_mem _ h1,h2⟩
theorem nar_some {b m:Bx} {t:ByteArray} {j:Nat}:∀ {rs:List Ru} {i:Nat},nar b t i rs=some (j,m)→∃ r,i≤j∧rs[j-i]?=some r∧(r.tm.toList==t.toList)=true∧r.act=2∧fbx b r.bs=some m
 |[],i,h=>by cases h
 |r::rs,i,h=>by
  rw [nar] at h
  split at h
  ·rename_i hc
   split at h
   ·rename_i m' hm
    simp only [Option.some.injEq,Prod.mk.injEq] at h
    obtain ⟨rfl,rfl⟩:=h
    exact ⟨r,Nat.le_refl _,by simp,hc.2,hc.1,hm⟩
   ·obtain ⟨r',h1,h2,h3⟩:=nar_some h
    refine ⟨r',by omega,?_,h3⟩
    rw [show j-i=(j-(i+1))+1 by omega]
    simpa using h2
  ·obtain ⟨r',h1,h2,h3⟩:=nar_some h
   refine ⟨r',by omega,?_,h3⟩
   rw [show j-i=(j-(i+1))+1 by omega]
   simpa using h2
theorem meet_fine {x y:Bx} (hx:x.ok) (fx:x.fine) (hy:y.ok) (fy:y.fine) (ho:x.over y):(x.meet y).ok∧(x.meet y).fine:=by
 have h1:=fx.a0
 have h2:=fx.b0
 have h3:=fx.a1
 have h4:=fx.b1
 have h5:=fy.a0
 have h6:=fy.b0
 have h7:=fy.a1
 have h8:=fy.b1
 have h9:=fx.p0
 have h10:=fx.p1
 have h11:=fy.p0
 have h12:=fy.p1
 unfold Bx.over at ho
 exact ⟨Bx.meet_ok hx hy,⟨by simp only [Bx.meet];omega,by simp only [Bx.meet];omega,by simp only [Bx.meet];omega,by simp only [Bx.meet];omega,by simp only [Bx.meet];omega,by simp only [Bx.meet];omega,by simp only [Bx.meet];omega,by simp only [Bx.meet];omega,by simp only [Bx.meet];omega,by simp only [Bx.meet];omega,by simp only [Bx.meet];omega⟩⟩
def Bx.eqb (m x:Bx):Bool:=m.f==x.f&&(m.h==x.h&&(m.a0==x.a0&&(m.f==x.f&&(m.h==x.h&&(m.b0==x.b0&&(m.f==x.f&&(m.h==x.h&&(m.a1==x.a1&&(m.f==x.f&&(m.h==x.h&&(m.b1==x.b1&&(m.p0==x.p0&&(m.p1==x.p1&&(m.l0==x.l0&&(m.l1==x.l1&&(m.r0==x.r0&&(m.r1==x.r1)))))))))))))))))
theorem Bx.eqb_refl (x:Bx):x.eqb x=true:=by simp [Bx.eqb]
theorem e50g (x y:Bx) (hx:x.ok) (hy:y.ok):∃ r:Bool,CV VP 185 [x.ag,y.ag] []=some ⟨.d (B r),[],[],0⟩∧(x.within y→r=true):=by
 have h93:=e93 x y hx hy
 unfold Bx.meetR at h93
 by_cases h:x.f=y.f∧x.over y
 ·rw [if_pos h] at h93
  generalize hm:x.meet y=m at h93
  refine ⟨m.eqb x,?_,fun hw=>?_⟩
  ·unfold Bx.eqb
   refine CV_run (vf:=vf185) rfl rfl ?_
   rw [vf185_start]
   (repeat (first|refine RX_seq ?_|((first|refine sG rfl ?_|refine RX_draw rfl ?_);try (simp only [go_sem,simprocAttr,frzLoc,rowCells,vAppM,beq_iff_eq,bne_iff_ne,vf185_res,vf185_keep,h93,vCellsEq,vCellEq]))))
  ·obtain ⟨_,_,hw⟩:=hw
   rw [← hm,hw];exact Bx.eqb_refl x
 ·rw [if_neg h] at h93
  refine ⟨false,?_,fun hw=>absurd ⟨hw.1,hw.2.1⟩ h⟩
  refine CV_run (vf:=vf185) rfl rfl ?_
  rw [vf185_start]
  (repeat (first|refine RX_seq ?_|((first|refine sG rfl ?_|refine RX_draw rfl ?_);try (simp only [go_sem,simprocAttr,frzLoc,rowCells,vAppM,beq_iff_eq,bne_iff_ne,vf185_res,vf185_keep,h93]))))
abbrev silvS:D:=.lit (.string ⟨#[115,105,108,118,101,114]⟩)
theorem k32s (f h a0 b0 a1 b1 p0 p1 l0 l1 s0 s1:Int):CV VP 197 [.agg [.d (I f),.d (U h),.d (U a0),.d (I f),.d (U h),.d (U b0),.d (I f),.d (U h),.d (U a1),.d (I f),.d (U h),.d (U b1),.d (I p0),.d (I p1),.d (I l0),.d (I l1),.d (I s0),.d (I s1)],.d silvS] [] =
  some ⟨.agg [.d (I 3),.d (I 0),.d (.sl [nR 11,nR f,nR (wF h),nR (wF a0),nR f,nR (wF h),nR (wF b0),nR f,nR (wF h),nR (wF a1),nR f,nR (wF h),nR (wF b1),nR p0,nR p1,nR l0,nR l1,nR s0,nR s1,nR 115,nR 105,nR 108,nR 118,nR 101,nR 114])],[],[],0⟩:=
 CV_R (C:=cA VP vft.get noNat 400 60) (cA_ok vft_ok noNat 400 60) 400 [(1,true),(0,true),(3,true),(0,true),(3,true),(0,true),(3,true),(0,true)] [] rfl rfl (ob:=[]) (by kernel_rfl) .nil
theorem h32s (x:Bx) (ho:x.ok) (hf:x.fine):CV VP 197 [x.ag,.d silvS] []=some ⟨.agg [.d (I 3),.d (I 0),.d (.sl [nR 11,nR x.f,nR x.h,nR x.a0,nR x.f,nR x.h,nR x.b0,nR x.f,nR x.h,nR x.a1,nR x.f,nR x.h,nR x.b1,nR x.p0,nR x.p1,nR x.l0,nR x.l1,nR x.r0,nR x.r1,nR 115,nR 105,nR 108,nR 118,nR 101,nR 114])],[],[],0⟩:=by
 obtain ⟨f1,f2⟩:=fam_in ho
 have g0:=hf.a0
 have g1:=hf.b0
 have g2:=hf.a1
 have g3:=hf.b1
 have g4:=hf.ab0
 have g5:=hf.ab1
 have h:=k32s x.f x.h x.a0 x.b0 x.a1 x.b1 x.p0 x.p1 x.l0 x.l1 x.r0 x.r1
 rw [wF_in (n:=x.h) (by omega) (by omega),wF_in (n:=x.a0) (by omega) (by omega),wF_in (n:=x.b0) (by omega) (by omega),wF_in (n:=x.a1) (by omega) (by omega),wF_in (n:=x.b1) (by omega) (by omega)] at h
 exact h
theorem tm_silver {r:Ru} (hf:r.fine) (h:(r.tm.toList==silver.toList)=true):r.tm=silver:=by
 rcases hf.act with ⟨_,h1|h1⟩|⟨_,h1⟩
 ·rw [h1] at h;exact absurd h (by decide +kernel)
 ·exact h1
 ·rw [h1] at h;exact absurd h (by decide +kernel)
theorem swap_within {x y:Bx} (hx:x.fine) (ho:x.swap.over y):(x.swap.meet y).swap.within x:=by
 have h1:=hx.ab0
 have h2:=hx.ab1
 have h3:=hx.p01
 have h4:=hx.l01
 have h5:=hx.r01
 obtain ⟨b1,b2,b3,b4,b5,b6,b7,b8,b9,b10,b11,b12⟩:=x
 obtain ⟨y1,y2,y3,y4,y5,y6,y7,y8,y9,y10,y11,y12⟩:=y
 simp only [Bx.within,Bx.over,Bx.swap,Bx.meet,Bx.mk.injEq,true_and] at *
 omega
theorem ruF_what {l:List Int} (hB:Bytes l) (s:Int) (k:Nat):((ruF l s k).1.act=2∧(ruF l s k).1.tm=silver∨((ruF l s k).1.act=0∨(ruF l s k).1.act=1))∧∃ x,(ruF l s k).1.bs=[x]:=by
 have r:=nxV_range hB (k:=k) (n:=2) (by decide)
 unfold ruF
 split
 ·exact ⟨.inl ⟨rfl,rfl⟩,_,rfl⟩
 ·refine ⟨.inr ?_,_,rfl⟩
  simp only
  omega
theorem ruS_pre {l:List Int} (hB:Bytes l) {s:Int} (h0:0≤s) (h1:s≤1) (k:Nat):∃ (pre:List Ru) (x:Bx) (more:List Bx) (tail:List Ru),(ruS l s k).1=pre++[⟨2,gold,x::more⟩]++tail∧pre.length≤2∧more.length≤1 ∧
  (tail=[]∨tail=[⟨1,⟨#[]⟩,[bypass]⟩])∧x.ok∧x.fine∧∀ r∈pre,(r.act=2∧r.tm=silver∨(r.act=0∨r.act=1))∧∃ x,r.bs=[x]∧x.ok∧x.fine:=by
 have r:=nxV_range hB (k:=k) (n:=3) (by decide)
 unfold ruS goldF endF
 simp only
 generalize hp:drL (ruF l s) (nxV l k 3).toNat (nxA l k)=p
 have hlen:p.1.length≤2:=by rw [← hp,drL_len];omega
 have hall:∀ r∈p.1,(r.act=2∧r.tm=silver∨(r.act=0∨r.act=1))∧∃ x,r.bs=[x]∧x.ok∧x.fine:=by
  rw [← hp]
  refine drL_all (P:=fun (r:Ru)=>(r.act=2∧r.tm=silver∨(r.act=0∨r.act=1))∧∃ x:Bx,r.bs=[x]∧x.ok∧x.fine) (fun k=>?_) _ _
  obtain ⟨h2,x,hx⟩:=ruF_what hB s k
  have hb:=(ruF_fine hB h0 h1 k).bs x (by rw [hx];exact List.mem_cons_self)
  exact ⟨h2,x,hx,hb.1,hb.2⟩
 split
 ·have hb:=bxF_both hB h0 h1 (nxA l p.2)
  refine ⟨p.1,_,[(bxF [] s 0).1],_,rfl,hlen,by simp,?_,hb.1,hb.2,hall⟩
  split
  ·exact .inr rfl
  ·exact .inl rfl
 ·have hb:=bxF_both bytes_nil h0 h1 0
  refine ⟨p.1,_,[],_,rfl,hlen,by simp,?_,hb.1,hb.2,hall⟩
  split
  ·exact .inr rfl
  ·exact .inl rfl
def shR:List (List D)→Bool
 |[[.lit (.int .i64 o),.lit (.int .i64 a),.sl []],[.lit (.int .i64 p),.lit (.int .i64 b),.sl []]]=>decide (o=2)&&(decide (p=2)&&decide (a≤b))
 |_=>false
def formR (o v:Int) (args:List (List D)):Bool:=
 if o=1 then args.isEmpty
 else if o=2 then args.isEmpty&&decide (0≤v)
 else if o=3 then decide (v=0)
 else if o=6 then decide (0≤v)
 else if o=4 then decide (args.length=1)&&decide (v=0)
 else if o=8 then decide (args.length=1)&&decide (0≤v)
 else if o=5 then shR args&&decide (v=0)
 else if o=7 then decide (args.length=2)&&decide (v=0)
 else false
def rowOk:Nat→List D→Bool
 |n+1,[.lit (.int .i64 o),.lit (.int .i64 v),.sl args]=>args.all (rowOk n)&&(formR o v args&&decide (args.length≤600))
 |_,_=>false
def sumSz (f:List D→Nat):List (List D)→Nat
 |[]=>0
 |r::rs=>f r+sumSz f rs
def rowSz:Nat→List D→Nat
 |n+1,[_,_,.sl args]=>1+sumSz (rowSz n) args
 |_,_=>0
theorem rowOk_succ {n:Nat} {r:List D} (h:rowOk (n+1) r=true):∃ o v args,r=[I o,I v,.sl args]∧(∀ x∈args,rowOk n x=true)∧formR o v args=true∧args.length≤600:=by
 unfold rowOk at h
 split at h
 ·rename_i o v args heq
  simp only [Bool.and_eq_true,List.all_eq_true,decide_eq_true_eq] at h
  cases heq
  exact ⟨o,v,args,rfl,h.1,h.2.1,h.2.2⟩
 ·cases h
theorem rowOk_row {n:Nat} {r:List D} (h:rowOk n r=true):∃ o v args,r=[I o,I v,.sl args]:=by
 cases n with
 |zero=>simp [rowOk] at h
 |succ n=>obtain ⟨o,v,args,h,_⟩:=rowOk_succ h;exact ⟨o,v,args,h⟩
theorem sumSz_take (f:List D→Nat):∀ (l:List (List D)) (i:Nat) (r:List D),l[i]?=some r→sumSz f (l.take (i+1))=sumSz f (l.take i)+f r
 |[],i,r,h=>by simp at h
 |a::l,0,r,h=>by simp at h;subst h;simp [sumSz]
 |a::l,i+1,r,h=>by
  have:=sumSz_take f l i r (by simpa using h)
  simp only [List.take_succ_cons,sumSz,this];omega
theorem sumSz_le (f:List D→Nat):∀ (l:List (List D)) (i:Nat),sumSz f (l.take i)≤sumSz f l
 |[],i=>by simp [sumSz]
 |a::l,0=>by simp [sumSz]
 |a::l,i+1=>by have:=sumSz_le f l i;simp only [List.take_succ_cons,sumSz];omega
theorem e223n {a b:Int} (h:a≤b):∃ k:Int,0≤k∧CV VP 223 [.agg [.d (I 2),.d (I b),.d (.sl [])],.agg [.d (I 2),.d (I a),.d (.sl [])]] []=some ⟨.d (I k),[],[],0⟩:=by
 rcases Int.lt_or_eq_of_le h with h|h
 ·refine ⟨1,by decide,?_⟩
  have h1:¬b<a:=by omega
  refine CV_run (vf:=vf223) rfl rfl ?_
  rw [vf223_start]
  (repeat (first|refine RX_seq ?_|((first|refine sG rfl ?_|refine RX_draw rfl ?_);try (simp only [go_sem,simprocAttr,frzLoc,rowCells,vAppM,beq_iff_eq,bne_iff_ne,vf223_res,vf223_keep,h,h1,gt_iff_lt,Int.lt_irrefl]))))
 ·refine ⟨0,by decide,?_⟩
  subst h
  refine CV_run (vf:=vf223) rfl rfl ?_
  rw [vf223_start]
  (repeat (first|refine RX_seq ?_|((first|refine sG rfl ?_|refine RX_draw rfl ?_);try (simp only [go_sem,simprocAttr,frzLoc,rowCells,vAppM,beq_iff_eq,bne_iff_ne,vf223_res,vf223_keep,gt_iff_lt,Int.lt_irrefl]))))
  refine RX_loopN (n:=2) rfl ?_
  refine RL_head ?_
  (simp only [St.head,forget,vf223K0,RLK_some])
  refine vf223L0_go ?_
  (repeat (first|refine RX_seq ?_|((first|refine sG rfl ?_|refine RX_draw rfl ?_);try (simp only [go_sem,simprocAttr,frzLoc,rowCells,vAppM,beq_iff_eq,bne_iff_ne,vf223_res,vf223_keep,gt_iff_lt,Int.lt_irrefl]))))
theorem e198n {a b:Int} (h:a≤b):CV VP 198 [.agg [.d (I 2),.d (I b),.d (.sl [])],.agg [.d (I 2),.d (I a),.d (.sl [])]] []=some ⟨.d (B false),[],[],0⟩:=by
 obtain ⟨k,hk,h223⟩:=e223n h
 have h1:¬k<0:=by omega
 refine CV_run (vf:=vf198) rfl rfl ?_
 rw [vf198_start]
 (repeat (first|refine RX_seq ?_|((first|refine sG rfl ?_|refine RX_draw rfl ?_);try (simp only [go_sem,simprocAttr,frzLoc,rowCells,vAppM,beq_iff_eq,bne_iff_ne,vf198_res,vf198_keep,h223,h1]))))
theorem shR_some {args:List (List D)} (h:shR args=true):∃ a b:Int,args=[[I 2,I a,.sl []],[I 2,I b,.sl []]]∧a≤b:=by
 unfold shR at h
 split at h
 ·rename_i o a p b
  simp only [Bool.and_eq_true,decide_eq_true_eq] at h
  obtain ⟨rfl,rfl,h⟩:=h
  exact ⟨a,b,rfl,h⟩
 ·cases h
theorem e239 (o v:Int) (args:List (List D)) (h:formR o v args=true) (hl:args.length≤600):CV VP 239 [.agg [.d (I o),.d (I v),.d (.sl args)]] []=some ⟨.d (B true),[],[],0⟩:=by
 unfold formR at h
 by_cases h1:o=1
 ·subst h1
  simp only [if_true,List.isEmpty_iff] at h
  subst h
  refine CV_run (vf:=vf239) rfl rfl ?_
  rw [vf239_start]
  (repeat (first|refine RX_seq ?_|((first|refine sG rfl ?_|refine RX_draw rfl ?_);try (simp only [go_sem,simprocAttr,frzLoc,rowCells,vAppM,beq_iff_eq,bne_iff_ne,vf239_res,vf239_keep]))))
 by_cases h2:o=2
 ·subst h2
  simp only [h1,if_false,if_true,Bool.and_eq_true,List.isEmpty_iff,decide_eq_true_eq] at h
  obtain ⟨rfl,h⟩:=h
  refine CV_run (vf:=vf239) rfl rfl ?_
  rw [vf239_start]
  (repeat (first|refine RX_seq ?_|((first|refine sG rfl ?_|refine RX_draw rfl ?_);try (simp only [go_sem,simprocAttr,frzLoc,rowCells,vAppM,beq_iff_eq,bne_iff_ne,vf239_res,vf239_keep,h,ge_iff_le]))))
 by_cases h3:o=3
 ·subst h3
  simp only [h1,h2,if_false,if_true,decide_eq_true_eq] at h
  subst h
  refine CV_run (vf:=vf239) rfl rfl ?_
  rw [vf239_start]
  (repeat (first|refine RX_seq ?_|((first|refine sG rfl ?_|refine RX_draw rfl ?_);try (simp only [go_sem,simprocAttr,frzLoc,rowCells,vAppM,beq_iff_eq,bne_iff_ne,vf239_res,vf239_keep]))))
 by_cases h6:o=6
 ·subst h6
  simp only [h1,h2,h3,if_false,if_true,decide_eq_true_eq] at h
  refine CV_run (vf:=vf239) rfl rfl ?_
  rw [vf239_start]
  (repeat (first|refine RX_seq ?_|((first|refine sG rfl ?_|refine RX_draw rfl ?_);try (simp only [go_sem,simprocAttr,frzLoc,rowCells,vAppM,beq_iff_eq,bne_iff_ne,vf239_res,vf239_keep,h,ge_iff_le]))))
 by_cases h4:o=4
 ·subst h4
  simp only [h1,h2,h3,h6,if_false,if_true,Bool.and_eq_true,decide_eq_true_eq] at h
  obtain ⟨h,rfl⟩:=h
  have h':((args.length:Nat):Int)=1:=by omega
  refine CV_run (vf:=vf239) rfl rfl ?_
  rw [vf239_start]
  (repeat (first|refine RX_seq ?_|((first|refine sG rfl ?_|refine RX_draw rfl ?_);try (simp only [go_sem,simprocAttr,frzLoc,rowCells,vAppM,beq_iff_eq,bne_iff_ne,vf239_res,vf239_keep,h']))))
 by_cases h8:o=8
 ·subst h8
  simp only [h1,h2,h3,h6,h4,if_false,if_true,Bool.and_eq_true,decide_eq_true_eq] at h
  obtain ⟨h,h0⟩:=h
  have h':((args.length:Nat):Int)=1:=by omega
  refine CV_run (vf:=vf239) rfl rfl ?_
  rw [vf239_start]
  (repeat (first|refine RX_seq ?_|((first|refine sG rfl ?_|refine RX_draw rfl ?_);try (simp only [go_sem,simprocAttr,frzLoc,rowCells,vAppM,beq_iff_eq,bne_iff_ne,vf239_res,vf239_keep,h',h0,ge_iff_le]))))
 by_cases h5:o=5
 ·subst h5
  simp only [h1,h2,h3,h6,h4,h8,if_false,if_true,Bool.and_eq_true,decide_eq_true_eq] at h
  obtain ⟨h,rfl⟩:=h
  obtain ⟨a,b,rfl,hab⟩:=shR_some h
  refine CV_run (vf:=vf239) rfl rfl ?_
  rw [vf239_start]
  (repeat (first|refine RX_seq ?_|((first|refine sG rfl ?_|refine RX_draw rfl ?_);try (simp only [go_sem,simprocAttr,frzLoc,rowCells,vAppM,beq_iff_eq,bne_iff_ne,vf239_res,vf239_keep,e198n hab]))))
 by_cases h7:o=7
 ·subst h7
  simp only [h1,h2,h3,h6,h4,h8,h5,if_false,if_true,Bool.and_eq_true,decide_eq_true_eq] at h
  obtain ⟨h,rfl⟩:=h
  have h':((args.length:Nat):Int)=2:=by omega
  refine CV_run (vf:=vf239) rfl rfl ?_
  rw [vf239_start]
  (repeat (first|refine RX_seq ?_|((first|refine sG rfl ?_|refine RX_draw rfl ?_);try (simp only [go_sem,simprocAttr,frzLoc,rowCells,vAppM,beq_iff_eq,bne_iff_ne,vf239_res,vf239_keep,h']))))
 ·simp only [h1,h2,h3,h6,h4,h8,h5,h7,if_false] at h
  cases h
theorem e211r:∀ (n:Nat) (r:List D),rowOk n r=true→rowSz n r≤600→CV VP 211 [.agg (r.map .d)] []=some ⟨.d (I (rowSz n r:Nat)),[],[],0⟩
 |0,r,h,_=>by simp [rowOk] at h
 |n+1,r,h,hs=>by
  obtain ⟨o,v,args,rfl,hall,_,hlen⟩:=rowOk_succ h
  simp only [rowSz] at hs
  have ih0:=fun (i:Nat) (x:List D) (hx:args[i]?=some x)=>e211r n x (hall x (List.mem_of_getElem? hx)) (by
   have h1:=sumSz_take (rowSz n) args i x hx
   have h2:=sumSz_le (rowSz n) args (i+1)
   omega)
  have hk:rowSz (n+1) [I o,I v,.sl args]=1+sumSz (rowSz n) args:=rfl
  rw [hk]
  generalize hf:rowSz n=f at *
  refine CV_run (vf:=vf211) rfl rfl ?_
  rw [vf211_start]
  simp only [List.map_cons,List.map_nil]
  (repeat (first|refine RX_seq ?_|((first|refine sG rfl ?_|refine RX_draw rfl ?_);try (simp only [go_sem,simprocAttr,frzLoc,rowCells,vAppM,beq_iff_eq,bne_iff_ne,vf211_res,vf211_keep]))))
  refine RX_loopN (n:=1) rfl ?_
  refine RL_ind (fun m st=>∃ i:Nat,i+m=args.length∧At vf211K0 1 st ((.any::.ptr 0 0::.any::.d (I ((1+sumSz f (args.take i):Nat):Int))::.d (I (i:Nat))::.any::.any::.any::.any::.any::.any::.any::.any::.any::.any::.any::.any::.any::.any::.any::.any::.any::.any::.any::.any::.any::[])) [[.d (I o),.d (I v),.d (.sl args)]] [] 0 0) ?_ args.length _ ⟨0,Nat.zero_add _,rfl,rfl,rfl,rfl,rfl,rfl⟩
  rintro m st ⟨i,hi,hat⟩ ih
  refine RL_at hat rfl rfl (vf211L0_go ?_)
  clear hat
  have hS:=sumSz_le f args i
  cases m with
  |zero=>
   have h1:¬i<args.length:=by omega
   have h2:args.take i=args:=List.take_of_length_le (by omega)
   have h3:¬(601:Int)<((1+sumSz f args:Nat):Int):=by omega
   clear ih
   rw [h2]
   (repeat (first|refine RX_seq ?_|((first|refine sG rfl ?_|refine RX_draw rfl ?_);try (simp only [go_sem,simprocAttr,frzLoc,rowCells,vAppM,beq_iff_eq,bne_iff_ne,vf211_res,vf211_keep,h1,h3]))))
  |succ m=>
   have h1:i<args.length:=by omega
   obtain ⟨x,hx⟩:∃ x,args[i]?=some x:=⟨_,List.getElem?_eq_getElem h1⟩
   have hc:=ih0 i x hx
   have hT:=sumSz_take f args i x hx
   have hT2:=sumSz_le f args (i+1)
   obtain ⟨xo,xv,xa,rfl⟩:=rowOk_row (hall x (List.mem_of_getElem? hx))
   simp only [List.map_cons,List.map_nil] at hc
   have hwi:=w_nat (i:=i) (by omega)
   have h3:((1+sumSz f (args.take i):Nat):Int)≤600:=by omega
   have hw:IntKind.i64.wrap (((1+sumSz f (args.take i):Nat):Int)+((f [I xo,I xv,.sl xa]:Nat):Int))=((1+sumSz f (args.take (i+1)):Nat):Int):=by
    rw [w_in (by omega) (by omega)];omega
   have next:=fun st hat=>ih m st (Nat.lt_succ_self m) ⟨i+1,by omega,hat⟩
   clear ih ih0
   (repeat (first|refine RX_seq ?_|((first|refine sG rfl ?_|refine RX_draw rfl ?_);try (simp only [go_sem,simprocAttr,frzLoc,rowCells,vAppM,beq_iff_eq,bne_iff_ne,vf211_res,vf211_keep,h1,h3,hx,hc,hw,hwi]))))
   exact next _ ⟨rfl,rfl,rfl,rfl,rfl,rfl⟩
theorem e212r:∀ (n:Nat) (r:List D),rowOk n r=true→∀ k:Int,(n:Int)≤k→k≤60→CV VP 212 [.agg (r.map .d),.d (I k)] []=some ⟨.d (B true),[],[],0⟩
 |0,r,h=>by simp [rowOk] at h
 |n+1,r,h=>by
  intro k hk hk2
  obtain ⟨o,v,args,rfl,hall,_,hlen⟩:=rowOk_succ h
  have ih0:=fun (i:Nat) (x:List D) (hx:args[i]?=some x)=>e212r n x (hall x (List.mem_of_getElem? hx)) (k-1) (by omega) (by omega)
  have hk0:¬k<1:=by omega
  have hkw:IntKind.i64.wrap (k-1)=k-1:=w_in (by omega) (by omega)
  refine CV_run (vf:=vf212) rfl rfl ?_
  rw [vf212_start]
  simp only [List.map_cons,List.map_nil]
  (repeat (first|refine RX_seq ?_|((first|refine sG rfl ?_|refine RX_draw rfl ?_);try (simp only [go_sem,simprocAttr,frzLoc,rowCells,vAppM,beq_iff_eq,bne_iff_ne,vf212_res,vf212_keep,hk0]))))
  refine RX_loopN (n:=1) rfl ?_
  refine RL_ind (fun m st=>∃ i:Nat,i+m=args.length∧At vf212K0 1 st ((.any::.d (I k)::.ptr 0 0::.any::.any::.d (I (i:Nat))::.any::.any::.any::.any::.any::.any::.any::.any::.any::.any::.any::.any::.any::.any::.any::.any::.any::.any::[])) [[.d (I o),.d (I v),.d (.sl args)]] [] 0 0) ?_ args.length _ ⟨0,Nat.zero_add _,rfl,rfl,rfl,rfl,rfl,rfl⟩
  rintro m st ⟨i,hi,hat⟩ ih
  refine RL_at hat rfl rfl (vf212L0_go ?_)
  clear hat
  cases m with
  |zero=>
   have h1:¬i<args.length:=by omega
   clear ih
   (repeat (first|refine RX_seq ?_|((first|refine sG rfl ?_|refine RX_draw rfl ?_);try (simp only [go_sem,simprocAttr,frzLoc,rowCells,vAppM,beq_iff_eq,bne_iff_ne,vf212_res,vf212_keep,h1]))))
  |succ m=>
   have h1:i<args.length:=by omega
   obtain ⟨x,hx⟩:∃ x,args[i]?=some x:=⟨_,List.getElem?_eq_getElem h1⟩
   have hc:=ih0 i x hx
   obtain ⟨xo,xv,xa,rfl⟩:=rowOk_row (hall x (List.mem_of_getElem? hx))
   simp only [List.map_cons,List.map_nil] at hc
   have hwi:=w_nat (i:=i) (by omega)
   have next:=fun st hat=>ih m st (Nat.lt_succ_self m) ⟨i+1,by omega,hat⟩
   clear ih ih0
   (repeat (first|refine RX_seq ?_|((first|refine sG rfl ?_|refine RX_draw rfl ?_);try (simp only [go_sem,simprocAttr,frzLoc,rowCells,vAppM,beq_iff_eq,bne_iff_ne,vf212_res,vf212_keep,h1,hx,hc,hkw,hwi]))))
   exact next _ ⟨rfl,rfl,rfl,rfl,rfl,rfl⟩
theorem e213r:∀ (n:Nat) (r:List D),rowOk n r=true→CV VP 213 [.agg (r.map .d)] []=some ⟨.d (B true),[],[],0⟩
 |0,r,h=>by simp [rowOk] at h
 |n+1,r,h=>by
  obtain ⟨o,v,args,rfl,hall,hform,hlen⟩:=rowOk_succ h
  have ih0:=fun (i:Nat) (x:List D) (hx:args[i]?=some x)=>e213r n x (hall x (List.mem_of_getElem? hx))
  have h239:=e239 o v args hform hlen
  refine CV_run (vf:=vf213) rfl rfl ?_
  rw [vf213_start]
  simp only [List.map_cons,List.map_nil]
  (repeat (first|refine RX_seq ?_|((first|refine sG rfl ?_|refine RX_draw rfl ?_);try (simp only [go_sem,simprocAttr,frzLoc,rowCells,vAppM,beq_iff_eq,bne_iff_ne,vf213_res,vf213_keep]))))
  refine RX_loopN (n:=1) rfl ?_
  refine RL_ind (fun m st=>∃ i:Nat,i+m=args.length∧At vf213K0 1 st ((.any::.ptr 0 0::.any::.d (I (i:Nat))::.any::.any::.any::.any::.any::.any::.any::.any::.any::.any::.any::.any::.any::.any::.any::.any::[])) [[.d (I o),.d (I v),.d (.sl args)]] [] 0 0) ?_ args.length _ ⟨0,Nat.zero_add _,rfl,rfl,rfl,rfl,rfl,rfl⟩
  rintro m st ⟨i,hi,hat⟩ ih
  refine RL_at hat rfl rfl (vf213L0_go ?_)
  clear hat
  cases m with
  |zero=>
   have h1:¬i<args.length:=by omega
   clear ih
   (repeat (first|refine RX_seq ?_|((first|refine sG rfl ?_|refine RX_draw rfl ?_);try (simp only [go_sem,simprocAttr,frzLoc,rowCells,vAppM,beq_iff_eq,bne_iff_ne,vf213_res,vf213_keep,h1,h239]))))
  |succ m=>
   have h1:i<args.length:=by omega
   obtain ⟨x,hx⟩:∃ x,args[i]?=some x:=⟨_,List.getElem?_eq_getElem h1⟩
   have hc:=ih0 i x hx
   obtain ⟨xo,xv,xa,rfl⟩:=rowOk_row (hall x (List.mem_of_getElem? hx))
   simp only [List.map_cons,List.map_nil] at hc
   have hwi:=w_nat (i:=i) (by omega)
   have next:=fun st hat=>ih m st (Nat.lt_succ_self m) ⟨i+1,by omega,hat⟩
   clear ih ih0
   (repeat (first|refine RX_seq ?_|((first|refine sG rfl ?_|refine RX_draw rfl ?_);try (simp only [go_sem,simprocAttr,frzLoc,rowCells,vAppM,beq_iff_eq,bne_iff_ne,vf213_res,vf213_keep,h1,hx,hc,hwi]))))
   exact next _ ⟨rfl,rfl,rfl,rfl,rfl,rfl⟩
theorem e192r {a b c:D} (n:Nat) (hn:n≤60) (h:rowOk n [a,b,c]=true) (hs:Nat.ble (rowSz n [a,b,c]) 600=true):CV VP 192 [.agg [.d a,.d b,.d c]] []=some ⟨.d (B true),[],[],0⟩:=by
 have h1:=e211r n _ h (Nat.le_of_ble_eq_true hs)
 have h2:=e212r n _ h 60 (by omega) (by decide)
 have h3:=e213r n _ h
 have h4:((rowSz n [a,b,c]:Nat):Int)≤600:=by have:=Nat.le_of_ble_eq_true hs;omega
 simp only [List.map_cons,List.map_nil] at h1 h2 h3
 refine CV_run (vf:=vf192) rfl rfl ?_
 rw [vf192_start]
 (repeat (first|refine RX_seq ?_|((first|refine sG rfl ?_|refine RX_draw rfl ?_);try (simp only [go_sem,simprocAttr,frzLoc,rowCells,vAppM,beq_iff_eq,bne_iff_ne,vf192_res,vf192_keep,h1,h2,h3,h4]))))
theorem e255 {c0 c1 c2 c3 c5 c6 c7 c8 c9 c10 c11 c12 c13 c14 c15 c16 c17 c18:D} (pre:List Ru) (t:ByteArray) (x:Bx) (more:List Bx) (tail:List Ru) (hp:∀ p∈pre,p.act≠2) (hl:pre.length<1000) :
  CV VP 255 [.agg [.d c0,.d c1,.d c2,.d c3,.d (.sl ((pre++⟨2,t,x::more⟩::tail).map Ru.row)),.d c5,.d c6,.d c7,.d c8,.d c9,.d c10,.d c11,.d c12,.d c13,.d c14,.d c15,.d c16,.d c17,.d c18]] []=some ⟨.tup [.d (I (pre.length:Nat)),x.ag,.d (B true)],[],[],0⟩:=by
 have hrs:pre.length<((pre++⟨2,t,x::more⟩::tail).map Ru.row).length:=by simp
 have hget:((pre++⟨2,t,x::more⟩::tail).map Ru.row)[pre.length]?=some [I 2,.lit (.string t),.sl ((x::more).map Bx.row)]:=by
  rw [List.getElem?_map];simp [Ru.row]
 have hgetp:∀ i,i<pre.length→∃ a b c,((pre++⟨2,t,x::more⟩::tail).map Ru.row)[i]?=some [I a,b,c]∧a≠2:=fun i hi=>by
  refine ⟨pre[i].act,.lit (.string pre[i].tm),.sl (pre[i].bs.map Bx.row),?_,hp _ (List.getElem_mem hi)⟩
  rw [List.getElem?_map,List.getElem?_append_left hi,List.getElem?_eq_getElem hi]
  rfl
 obtain ⟨f,h,a0,b0,a1,b1,p0,p1,l0,l1,r0,r1⟩:=x
 simp only [List.map_cons,Bx.row,bxL] at hget
 generalize (pre++⟨2,t,_::more⟩::tail).map Ru.row=rs at *
 generalize pre.length=N at *
 clear hp pre tail
 refine CV_run (vf:=vf255) rfl rfl ?_
 rw [vf255_start]
 (repeat (first|refine RX_seq ?_|((first|refine sG rfl ?_|refine RX_draw rfl ?_);try (simp only [go_sem,simprocAttr,frzLoc,rowCells,vAppM,beq_iff_eq,bne_iff_ne,vf255_res,vf255_keep]))))
 refine RX_loopN (n:=2) rfl ?_
 refine RL_ind (fun m st=>∃ i:Nat,i+m=N∧At vf255K0 2 st ((.any::.ptr 0 0::.any::.ptr 1 0::.any::.d (I (i:Nat))::.any::.any::.any::.any::.any::.any::.any::.any::.any::.any::.any::.any::.any::.any::.any::.any::.any::.any::.any::.any::.any::.any::.any::.any::[])) [[.d c0,.d c1,.d c2,.d c3,.d (.sl rs),.d c5,.d c6,.d c7,.d c8,.d c9,.d c10,.d c11,.d c12,.d c13,.d c14,.d c15,.d c16,.d c17,.d c18],[.d (I 0),.d (.lit (.int .u64 0)),.d (.lit (.int .u64 0)),.d (I 0),.d (.lit (.int .u64 0)),.d (.lit (.int .u64 0)),.d (I 0),.d (.lit (.int .u64 0)),.d (.lit (.int .u64 0)),.d (I 0),.d (.lit (.int .u64 0)),.d (.lit (.int .u64 0)),.d (I 0),.d (I 0),.d (I 0),.d (I 0),.d (I 0),.d (I 0)]] [] 0 0) ?_ N _ ⟨0,Nat.zero_add _,rfl,rfl,rfl,rfl,rfl,rfl⟩
 rintro m st ⟨i,hi,hat⟩ ih
 refine RL_at hat rfl rfl (vf255L0_go ?_)
 clear hat
 cases m with
 |zero=>
  obtain rfl:i=N:=by omega
  clear ih hgetp
  have hm:(0:Int)<((List.length (List.map Bx.row more)+1:Nat):Int):=by omega
  (repeat (first|refine RX_seq ?_|((first|refine sG rfl ?_|refine RX_draw rfl ?_);try (simp only [go_sem,simprocAttr,frzLoc,rowCells,vAppM,beq_iff_eq,bne_iff_ne,vf255_res,vf255_keep,hrs,hget,hm,bxV,Bx.ag]))))
 |succ m=>
  obtain ⟨a,b,c,h1,h2⟩:=hgetp i (by omega)
  have h3:i<rs.length:=by omega
  have hwi:=w_nat (i:=i) (by omega)
  have next:=fun st hat=>ih m st (Nat.lt_succ_self m) ⟨i+1,by omega,hat⟩
  clear ih hgetp
  (repeat (first|refine RX_seq ?_|((first|refine sG rfl ?_|refine RX_draw rfl ?_);try (simp only [go_sem,simprocAttr,frzLoc,rowCells,vAppM,beq_iff_eq,bne_iff_ne,vf255_res,vf255_keep,h1,h2,h3,hwi]))))
  exact next _ ⟨rfl,rfl,rfl,rfl,rfl,rfl⟩
theorem h20 (n:Int):CV VP 20 [.d (I n)] []=some ⟨.agg [.d (I 1),.d (I n),.d (.sl [])],[],[],0⟩:=by
 have h73:CV VP 73 [.d (I n)] []=some ⟨.agg [.d (I 1),.d (I n),.d (.sl [])],[],[],0⟩:=by
  refine CV_run (vf:=vf73) rfl rfl ?_
  rw [vf73_start]
  (repeat (first|refine RX_seq ?_|((first|refine sG rfl ?_|refine RX_draw rfl ?_);try (simp only [go_sem,simprocAttr,frzLoc,rowCells,vAppM,beq_iff_eq,bne_iff_ne,vf73_res,vf73_keep]))))
 refine CV_run (vf:=vf20) rfl rfl ?_
 rw [vf20_start]
 (repeat (first|refine RX_seq ?_|((first|refine sG rfl ?_|refine RX_draw rfl ?_);try (simp only [go_sem,simprocAttr,frzLoc,rowCells,vAppM,beq_iff_eq,bne_iff_ne,vf20_res,vf20_keep,h73]))))
theorem h80 {rows:List (List D)} (h:Rows3 rows):CV VP 80 [.d (.sl rows)] []=some ⟨.agg [.d (I 3),.d (I 0),.d (.sl rows)],[],[],0⟩:=by
 refine CV_run (vf:=vf80) rfl rfl ?_
 rw [vf80_start]
 (repeat (first|refine RX_seq ?_|((first|refine sG rfl ?_|refine RX_draw rfl ?_);try (simp only [go_sem,simprocAttr,frzLoc,rowCells,vAppM,beq_iff_eq,bne_iff_ne,vf80_res,vf80_keep,h.1,h.2]))))
theorem h72 (n:Int) (a b c:D):CV VP 72 [.d (I n),.d (.sl [[a,b,c]])] []=some ⟨.agg [.d (I 3),.d (I 0),.d (.sl [[I 1,I n,.sl []],[a,b,c]])],[],[],0⟩:=by
 have h20':=h20 n
 have h:=h80 (rows:=[[I 1,I n,.sl []],[a,b,c]]) ⟨Nat.le_of_ble_eq_true rfl,by rfl⟩
 refine CV_run (vf:=vf72) rfl rfl ?_
 rw [vf72_start]
 (repeat (first|refine RX_seq ?_|((first|refine sG rfl ?_|refine RX_draw rfl ?_);try (simp only [go_sem,simprocAttr,frzLoc,rowCells,vAppM,beq_iff_eq,bne_iff_ne,vf72_res,vf72_keep,h20',h]))))
theorem h19 (n:Int) (a b c:D):CV VP 19 [.d (I n),.d (.sl [[a,b,c]])] []=some ⟨.agg [.d (I 3),.d (I 0),.d (.sl [[I 1,I n,.sl []],[a,b,c]])],[],[],0⟩:=by
 have h:=h72 n a b c
 refine CV_run (vf:=vf19) rfl rfl ?_
 rw [vf19_start]
 (repeat (first|refine RX_seq ?_|((first|refine sG rfl ?_|refine RX_draw rfl ?_);try (simp only [go_sem,simprocAttr,frzLoc,rowCells,vAppM,beq_iff_eq,bne_iff_ne,vf19_res,vf19_keep,h]))))
theorem h71d {c0 c1 c2 c3 c5 c6 c7 c8 c9 c10 c11 c12 c13 c14 c15 c16 c17 c18:D} {rows:List (List D)} {sp n:Int} {t:ByteArray} {a b:D} {x:Bx} {B0 B1 B2:D} (i:Nat) (hn:n=(i:Int)) (h:rows[i]?=some [a,.lit (.string t),b])
  (h77:CV VP 77 [x.ag,.d (.lit (.string t))] []=some ⟨.agg [.d B0,.d B1,.d B2],[],[],0⟩) :
  CV VP 71 [.agg [.d c0,.d c1,.d c2,.d c3,.d (.sl rows),.d c5,.d c6,.d c7,.d c8,.d c9,.d c10,.d c11,.d c12,.d c13,.d c14,.d c15,.d c16,.d c17,.d c18],.d (I sp),.d (I n),x.ag] []=some ⟨.d (.sl [[I 3,I 0,.sl [[I 1,I 10,.sl []],[I 1,I sp,.sl []]]],[B0,B1,B2]]),[],[],0⟩:=by
 subst hn
 have hl:=(List.getElem?_eq_some_iff.1 h).1
 refine CV_run (vf:=vf71) rfl rfl ?_
 rw [vf71_start]
 simp only [Bx.ag,bxV] at h77 ⊢
 (repeat (first|refine RX_seq ?_|((first|refine sG rfl ?_|refine RX_draw rfl ?_);try (simp only [go_sem,simprocAttr,frzLoc,rowCells,vAppM,beq_iff_eq,bne_iff_ne,vf71_res,vf71_keep,hl,h,h20,h19,h77]))))
theorem h71l {c0 c1 c2 c3 c5 c6 c7 c8 c9 c10 c11 c12 c13 c14 c15 c18:D} {i1 o1 n1 s1 i2:Nat} {r2:List (List D)} {w2:Tag} {rows:List (List D)} {sp n:Int} {t:ByteArray} {a b:D} {x:Bx} {B0 B1 B2:D} (bl:List (List V)) (hb:bl.all (V.ltbL bl.length)=true) (i:Nat) (hn:n=(i:Int)) (h:rows[i]?=some [a,.lit (.string t),b])
  (h77:CV VP 77 [x.ag,.d (.lit (.string t))] []=some ⟨.agg [.d B0,.d B1,.d B2],[],[],0⟩) :
  CV VP 71 [.agg [.d c0,.d c1,.d c2,.d c3,.d (.sl rows),.d c5,.d c6,.d c7,.d c8,.d c9,.d c10,.d c11,.d c12,.d c13,.d c14,.d c15,.loc i1 o1 n1 s1,.sl i2 r2 w2,.d c18],.d (I sp),.d (I n),x.ag] bl=some ⟨.d (.sl [[I 3,I 0,.sl [[I 1,I 10,.sl []],[I 1,I sp,.sl []]]],[B0,B1,B2]]),bl,[],0⟩:=by
 subst hn
 have hl:=(List.getElem?_eq_some_iff.1 h).1
 have ht:bl.take bl.length=bl:=List.take_length
 have hg:∀ x y:List V,(bl++[x]++[y])[bl.length]?=some x:=fun x y=>by simp
 have hg1:∀ x y:List V,(bl++[x]++[y])[bl.length+1]?=some y:=fun x y=>by simp
 have hk:∀ x y:List V,(bl++[x]++[y]).take bl.length=bl:=fun x y=>by simp
 have hL:∀ x:List V,(bl++[x]).length=bl.length+1:=fun x=>by simp
 refine CV_run (vf:=vf71) rfl rfl ?_
 rw [vf71_start]
 simp only [Bx.ag,bxV] at h77 ⊢
 (repeat (first|refine RX_seq ?_|((first|refine sG rfl ?_|refine RX_draw rfl ?_);try (simp only [go_sem,simprocAttr,frzLoc,rowCells,vAppM,beq_iff_eq,bne_iff_ne,vf71_res,vf71_keep,hl,h,h20,h19,h77,hb,ht,hg,hg1,hk,hL]))))
def A205:Orc:=fun f _ _=>match Nat.beq f 210 with
 |true=>some ⟨.d (I 0),[],[],0⟩
 |false=>none
theorem k205g (f h a0 b0 a1 b1 p0 p1 l0 l1 s0 s1:Int) (h94:CV VP 210 [.agg [.d (I f),.d (U (IntKind.wrap .u64 h)),.d (U (IntKind.wrap .u64 a0)),.d (I f),.d (U (IntKind.wrap .u64 h)),.d (U (IntKind.wrap .u64 b0)),.d (I f),.d (U (IntKind.wrap .u64 h)),.d (U (IntKind.wrap .u64 a1)),.d (I f),.d (U (IntKind.wrap .u64 h)),.d (U (IntKind.wrap .u64 b1)),.d (I p0),.d (I p1),.d (I l0),.d (I l1),.d (I s0),.d (I s1)]] []=some ⟨.d (I 0),[],[],0⟩):CV VP 205 [.d (.sl [nR f,nR h,nR a0,nR f,nR h,nR b0,nR f,nR h,nR a1,nR f,nR h,nR b1,nR p0,nR p1,nR l0,nR l1,nR s0,nR s1,nR 103,nR 111,nR 108,nR 100])] []=some ⟨.tup [.agg [.d (I f),.d (U (IntKind.wrap .u64 h)),.d (U (IntKind.wrap .u64 a0)),.d (I f),.d (U (IntKind.wrap .u64 h)),.d (U (IntKind.wrap .u64 b0)),.d (I f),.d (U (IntKind.wrap .u64 h)),.d (U (IntKind.wrap .u64 a1)),.d (I f),.d (U (IntKind.wrap .u64 h)),.d (U (IntKind.wrap .u64 b1)),.d (I p0),.d (I p1),.d (I l0),.d (I l1),.d (I s0),.d (I s1)],.d (.lit (.string ⟨#[103,111,108,100]⟩)),.d (B true)],[],[],0⟩:=
 CV_R (cA_ok vft_ok A205 400 60) 400 [(135,true),(1,true),(1,true),(1,true),(1,true),(1,true),(1,true),(1,true)] [] rfl rfl (ob:=[((prB (CV VP 210 [.agg [.d (I f),.d (U (IntKind.wrap .u64 h)),.d (U (IntKind.wrap .u64 a0)),.d (I f),.d (U (IntKind.wrap .u64 h)),.d (U (IntKind.wrap .u64 b0)),.d (I f),.d (U (IntKind.wrap .u64 h)),.d (U (IntKind.wrap .u64 a1)),.d (I f),.d (U (IntKind.wrap .u64 h)),.d (U (IntKind.wrap .u64 b1)),.d (I p0),.d (I p1),.d (I l0),.d (I l1),.d (I s0),.d (I s1)]] []=some ⟨.d (I 0),[],[],0⟩)),true)]) (by kernel_rfl) (.cons (prB_of h94) .nil)
theorem h205g (x:Bx) (ho:x.ok) (hf:x.fine):CV VP 205 [.d (.sl [nR x.f,nR x.h,nR x.a0,nR x.f,nR x.h,nR x.b0,nR x.f,nR x.h,nR x.a1,nR x.f,nR x.h,nR x.b1,nR x.p0,nR x.p1,nR x.l0,nR x.l1,nR x.r0,nR x.r1,nR 103,nR 111,nR 108,nR 100])] []=some ⟨.tup [x.ag,.d (.lit (.string ⟨#[103,111,108,100]⟩)),.d (B true)],[],[],0⟩:=by
 obtain ⟨f1,f2⟩:=fam_in ho
 have h:=k205g x.f x.h x.a0 x.b0 x.a1 x.b1 x.p0 x.p1 x.l0 x.l1 x.r0 x.r1
 have g0:=hf.a0
 have g1:=hf.b0
 have g2:=hf.a1
 have g3:=hf.b1
 have g4:=hf.ab0
 have g5:=hf.ab1
 rw [u64_in f1 (by omega),u64_in (n:=x.a0) (by omega) (by omega),u64_in (n:=x.b0) (by omega) (by omega),u64_in (n:=x.a1) (by omega) (by omega),u64_in (n:=x.b1) (by omega) (by omega)] at h
 refine h ?_
 have h88:=e90 x.f x.h x.a0 x.f x.h x.b0 x.f x.h x.a1 x.f x.h x.b1 x.p0 x.p1 x.l0 x.l1 x.r0 x.r1
 rw [chk_fine ho hf] at h88
 exact h88
theorem k205s (f h a0 b0 a1 b1 p0 p1 l0 l1 s0 s1:Int) (h94:CV VP 210 [.agg [.d (I f),.d (U (IntKind.wrap .u64 h)),.d (U (IntKind.wrap .u64 a0)),.d (I f),.d (U (IntKind.wrap .u64 h)),.d (U (IntKind.wrap .u64 b0)),.d (I f),.d (U (IntKind.wrap .u64 h)),.d (U (IntKind.wrap .u64 a1)),.d (I f),.d (U (IntKind.wrap .u64 h)),.d (U (IntKind.wrap .u64 b1)),.d (I p0),.d (I p1),.d (I l0),.d (I l1),.d (I s0),.d (I s1)]] []=some ⟨.d (I 0),[],[],0⟩):CV VP 205 [.d (.sl [nR f,nR h,nR a0,nR f,nR h,nR b0,nR f,nR h,nR a1,nR f,nR h,nR b1,nR p0,nR p1,nR l0,nR l1,nR s0,nR s1,nR 115,nR 105,nR 108,nR 118,nR 101,nR 114])] []=some ⟨.tup [.agg [.d (I f),.d (U (IntKind.wrap .u64 h)),.d (U (IntKind.wrap .u64 a0)),.d (I f),.d (U (IntKind.wrap .u64 h)),.d (U (IntKind.wrap .u64 b0)),.d (I f),.d (U (IntKind.wrap .u64 h)),.d (U (IntKind.wrap .u64 a1)),.d (I f),.d (U (IntKind.wrap .u64 h)),.d (U (IntKind.wrap .u64 b1)),.d (I p0),.d (I p1),.d (I l0),.d (I l1),.d (I s0),.d (I s1)],.d (.lit (.string ⟨#[115,105,108,118,101,114]⟩)),.d (B true)],[],[],0⟩:=
 CV_R (cA_ok vft_ok A205 400 60) 400 [(163,true),(1,true),(1,true),(1,true),(1,true),(1,true),(1,true),(1,true)] [] rfl rfl (ob:=[((prB (CV VP 210 [.agg [.d (I f),.d (U (IntKind.wrap .u64 h)),.d (U (IntKind.wrap .u64 a0)),.d (I f),.d (U (IntKind.wrap .u64 h)),.d (U (IntKind.wrap .u64 b0)),.d (I f),.d (U (IntKind.wrap .u64 h)),.d (U (IntKind.wrap .u64 a1)),.d (I f),.d (U (IntKind.wrap .u64 h)),.d (U (IntKind.wrap .u64 b1)),.d (I p0),.d (I p1),.d (I l0),.d (I l1),.d (I s0),.d (I s1)]] []=some ⟨.d (I 0),[],[],0⟩)),true)]) (by kernel_rfl) (.cons (prB_of h94) .nil)
theorem h205s (x:Bx) (ho:x.ok) (hf:x.fine):CV VP 205 [.d (.sl [nR x.f,nR x.h,nR x.a0,nR x.f,nR x.h,nR x.b0,nR x.f,nR x.h,nR x.a1,nR x.f,nR x.h,nR x.b1,nR x.p0,nR x.p1,nR x.l0,nR x.l1,nR x.r0,nR x.r1,nR 115,nR 105,nR 108,nR 118,nR 101,nR 114])] []=some ⟨.tup [x.ag,.d (.lit (.string ⟨#[115,105,108,118,101,114]⟩)),.d (B true)],[],[],0⟩:=by
 obtain ⟨f1,f2⟩:=fam_in ho
 have h:=k205s x.f x.h x.a0 x.b0 x.a1 x.b1 x.p0 x.p1 x.l0 x.l1 x.r0 x.r1
 have g0:=hf.a0
 have g1:=hf.b0
 have g2:=hf.a1
 have g3:=hf.b1
 have g4:=hf.ab0
 have g5:=hf.ab1
 rw [u64_in f1 (by omega),u64_in (n:=x.a0) (by omega) (by omega),u64_in (n:=x.b0) (by omega) (by omega),u64_in (n:=x.a1) (by omega) (by omega),u64_in (n:=x.b1) (by omega) (by omega)] at h
 refine h ?_
 have h88:=e90 x.f x.h x.a0 x.f x.h x.b0 x.f x.h x.a1 x.f x.h x.b1 x.p0 x.p1 x.l0 x.l1 x.r0 x.r1
 rw [chk_fine ho hf] at h88
 exact h88
def tB:Bool→ByteArray
 |true=>⟨#[103,111,108,100]⟩
 |false=>⟨#[115,105,108,118,101,114]⟩
def A175 (t:ByteArray):Orc:=fun f a _=>match Nat.beq f 205 with
 |true=>match a with
  |[.d (.sl ([_,.lit (.int _ f0),_]::[_,.lit (.int _ h0),_]::[_,.lit (.int _ a0),_]::[_,.lit (.int _ f1),_]::[_,.lit (.int _ h1),_]::[_,.lit (.int _ a1),_]::[_,.lit (.int _ f2),_]::[_,.lit (.int _ h2),_]::[_,.lit (.int _ a2),_]::[_,.lit (.int _ f3),_]::[_,.lit (.int _ h3),_]::[_,.lit (.int _ a3),_]::[_,.lit (.int _ p0),_]::[_,.lit (.int _ p1),_]::[_,.lit (.int _ l0),_]::[_,.lit (.int _ l1),_]::[_,.lit (.int _ r0),_]::[_,.lit (.int _ r1),_]::_))]=>some ⟨.tup [.agg [.d (I f0),.d (U h0),.d (U a0),.d (I f1),.d (U h1),.d (U a1),.d (I f2),.d (U h2),.d (U a2),.d (I f3),.d (U h3),.d (U a3),.d (I p0),.d (I p1),.d (I l0),.d (I l1),.d (I r0),.d (I r1)],.d (.lit (.string t)),.d (B true)],[],[],0⟩
  |_=>none
 |false=>none
theorem h175_4g (x:Bx) (ho:x.ok) (hf:x.fine) {sp:Int} (hs:0<sp) {p q:List D}:CV VP 175 [.d (.sl [[I 3,I 0,.sl [nR 8,p]],[I 3,I 0,.sl [nR 9,q]],[I 3,I 0,.sl [nR 10,nR sp]],[I 3,I 0,.sl (nR 11::nR x.f::nR x.h::nR x.a0::nR x.f::nR x.h::nR x.b0::nR x.f::nR x.h::nR x.a1::nR x.f::nR x.h::nR x.b1::nR x.p0::nR x.p1::nR x.l0::nR x.l1::nR x.r0::nR x.r1::[nR 103,nR 111,nR 108,nR 100])]])] []=some ⟨.tup [.d (I sp),x.ag,.d (.lit (.string ⟨#[103,111,108,100]⟩)),.d (B true)],[],[],0⟩:=
 CV_R (cA_ok vft_ok (A175 ⟨#[103,111,108,100]⟩) 400 60) 400 [(183,false)] [] rfl rfl (ob:=[(prB (CV VP 205 [.d (.sl (nR x.f::nR x.h::nR x.a0::nR x.f::nR x.h::nR x.b0::nR x.f::nR x.h::nR x.a1::nR x.f::nR x.h::nR x.b1::nR x.p0::nR x.p1::nR x.l0::nR x.l1::nR x.r0::nR x.r1::[nR 103,nR 111,nR 108,nR 100]))] []=some ⟨.tup [x.ag,.d (.lit (.string ⟨#[103,111,108,100]⟩)),.d (B true)],[],[],0⟩),true),(leF sp 0,false)]) (by kernel_rfl) (.cons (prB_of (h205g x ho hf)) (.cons (leN hs) .nil))
theorem h175_4s (x:Bx) (ho:x.ok) (hf:x.fine) {sp:Int} (hs:0<sp) {p q:List D}:CV VP 175 [.d (.sl [[I 3,I 0,.sl [nR 8,p]],[I 3,I 0,.sl [nR 9,q]],[I 3,I 0,.sl [nR 10,nR sp]],[I 3,I 0,.sl (nR 11::nR x.f::nR x.h::nR x.a0::nR x.f::nR x.h::nR x.b0::nR x.f::nR x.h::nR x.a1::nR x.f::nR x.h::nR x.b1::nR x.p0::nR x.p1::nR x.l0::nR x.l1::nR x.r0::nR x.r1::[nR 115,nR 105,nR 108,nR 118,nR 101,nR 114])]])] []=some ⟨.tup [.d (I sp),x.ag,.d (.lit (.string ⟨#[115,105,108,118,101,114]⟩)),.d (B true)],[],[],0⟩:=
 CV_R (cA_ok vft_ok (A175 ⟨#[115,105,108,118,101,114]⟩) 400 60) 400 [(183,false)] [] rfl rfl (ob:=[(prB (CV VP 205 [.d (.sl (nR x.f::nR x.h::nR x.a0::nR x.f::nR x.h::nR x.b0::nR x.f::nR x.h::nR x.a1::nR x.f::nR x.h::nR x.b1::nR x.p0::nR x.p1::nR x.l0::nR x.l1::nR x.r0::nR x.r1::[nR 115,nR 105,nR 108,nR 118,nR 101,nR 114]))] []=some ⟨.tup [x.ag,.d (.lit (.string ⟨#[115,105,108,118,101,114]⟩)),.d (B true)],[],[],0⟩),true),(leF sp 0,false)]) (by kernel_rfl) (.cons (prB_of (h205s x ho hf)) (.cons (leN hs) .nil))
theorem h175_4 (b:Bool) (x:Bx) (ho:x.ok) (hf:x.fine) {sp:Int} (hs:0<sp) {p q:List D}:CV VP 175 [.d (.sl [[I 3,I 0,.sl [nR 8,p]],[I 3,I 0,.sl [nR 9,q]],[I 3,I 0,.sl [nR 10,nR sp]],[I 3,I 0,.sl (nR 11::nR x.f::nR x.h::nR x.a0::nR x.f::nR x.h::nR x.b0::nR x.f::nR x.h::nR x.a1::nR x.f::nR x.h::nR x.b1::nR x.p0::nR x.p1::nR x.l0::nR x.l1::nR x.r0::nR x.r1::bytsR (tB b).data.toList)]])] []=some ⟨.tup [.d (I sp),x.ag,.d (.lit (.string (tB b))),.d (B true)],[],[],0⟩:=by
 cases b
 ·exact h175_4s x ho hf hs
 ·exact h175_4g x ho hf hs
theorem h175_5g (x:Bx) (ho:x.ok) (hf:x.fine) {sp:Int} (hs:0<sp) {p q z:List D}:CV VP 175 [.d (.sl [[I 3,I 0,.sl [nR 8,p]],[I 3,I 0,.sl [nR 9,q]],[I 3,I 0,.sl [nR 10,nR sp]],[I 3,I 0,.sl (nR 11::nR x.f::nR x.h::nR x.a0::nR x.f::nR x.h::nR x.b0::nR x.f::nR x.h::nR x.a1::nR x.f::nR x.h::nR x.b1::nR x.p0::nR x.p1::nR x.l0::nR x.l1::nR x.r0::nR x.r1::[nR 103,nR 111,nR 108,nR 100])],z])] []=some ⟨.tup [.d (I sp),x.ag,.d (.lit (.string ⟨#[103,111,108,100]⟩)),.d (B true)],[],[],0⟩:=
 CV_R (cA_ok vft_ok (A175 ⟨#[103,111,108,100]⟩) 400 60) 400 [(183,false)] [] rfl rfl (ob:=[(prB (CV VP 205 [.d (.sl (nR x.f::nR x.h::nR x.a0::nR x.f::nR x.h::nR x.b0::nR x.f::nR x.h::nR x.a1::nR x.f::nR x.h::nR x.b1::nR x.p0::nR x.p1::nR x.l0::nR x.l1::nR x.r0::nR x.r1::[nR 103,nR 111,nR 108,nR 100]))] []=some ⟨.tup [x.ag,.d (.lit (.string ⟨#[103,111,108,100]⟩)),.d (B true)],[],[],0⟩),true),(leF sp 0,false)]) (by kernel_rfl) (.cons (prB_of (h205g x ho hf)) (.cons (leN hs) .nil))
theorem h175_5s (x:Bx) (ho:x.ok) (hf:x.fine) {sp:Int} (hs:0<sp) {p q z:List D}:CV VP 175 [.d (.sl [[I 3,I 0,.sl [nR 8,p]],[I 3,I 0,.sl [nR 9,q]],[I 3,I 0,.sl [nR 10,nR sp]],[I 3,I 0,.sl (nR 11::nR x.f::nR x.h::nR x.a0::nR x.f::nR x.h::nR x.b0::nR x.f::nR x.h::nR x.a1::nR x.f::nR x.h::nR x.b1::nR x.p0::nR x.p1::nR x.l0::nR x.l1::nR x.r0::nR x.r1::[nR 115,nR 105,nR 108,nR 118,nR 101,nR 114])],z])] []=some ⟨.tup [.d (I sp),x.ag,.d (.lit (.string ⟨#[115,105,108,118,101,114]⟩)),.d (B true)],[],[],0⟩:=
 CV_R (cA_ok vft_ok (A175 ⟨#[115,105,108,118,101,114]⟩) 400 60) 400 [(183,false)] [] rfl rfl (ob:=[(prB (CV VP 205 [.d (.sl (nR x.f::nR x.h::nR x.a0::nR x.f::nR x.h::nR x.b0::nR x.f::nR x.h::nR x.a1::nR x.f::nR x.h::nR x.b1::nR x.p0::nR x.p1::nR x.l0::nR x.l1::nR x.r0::nR x.r1::[nR 115,nR 105,nR 108,nR 118,nR 101,nR 114]))] []=some ⟨.tup [x.ag,.d (.lit (.string ⟨#[115,105,108,118,101,114]⟩)),.d (B true)],[],[],0⟩),true),(leF sp 0,false)]) (by kernel_rfl) (.cons (prB_of (h205s x ho hf)) (.cons (leN hs) .nil))
theorem h175_5 (b:Bool) (x:Bx) (ho:x.ok) (hf:x.fine) {sp:Int} (hs:0<sp) {p q z:List D}:CV VP 175 [.d (.sl [[I 3,I 0,.sl [nR 8,p]],[I 3,I 0,.sl [nR 9,q]],[I 3,I 0,.sl [nR 10,nR sp]],[I 3,I 0,.sl (nR 11::nR x.f::nR x.h::nR x.a0::nR x.f::nR x.h::nR x.b0::nR x.f::nR x.h::nR x.a1::nR x.f::nR x.h::nR x.b1::nR x.p0::nR x.p1::nR x.l0::nR x.l1::nR x.r0::nR x.r1::bytsR (tB b).data.toList)],z])] []=some ⟨.tup [.d (I sp),x.ag,.d (.lit (.string (tB b))),.d (B true)],[],[],0⟩:=by
 cases b
 ·exact h175_5s x ho hf hs
 ·exact h175_5g x ho hf hs
abbrev A (n:Int):V:=.d (I n)
abbrev C (n:Int):V:=.d (U n)
abbrev E (l:List (List D)):V:=.d (.sl l)
abbrev Z:V:=.d (.sl [])
abbrev N (n:Int):List D:=[I 1,I n,.sl []]
abbrev M (a b:Int):List D:=[I a,I b,.sl []]
abbrev R (a b:Int) (l:List (List D)):List D:=[I a,I b,.sl l]
theorem h77g (x:Bx) (ho:x.ok) (hf:x.fine):CV VP 77 [x.ag,.d (.lit (.string ⟨#[103,111,108,100]⟩))] []=some ⟨.agg [.d (I 3),.d (I 0),.d (.sl [nR 11,nR x.f,nR x.h,nR x.a0,nR x.f,nR x.h,nR x.b0,nR x.f,nR x.h,nR x.a1,nR x.f,nR x.h,nR x.b1,nR x.p0,nR x.p1,nR x.l0,nR x.l1,nR x.r0,nR x.r1,nR 103,nR 111,nR 108,nR 100])],[],[],0⟩:=h34 x ho hf _ (by decide)
theorem h77s (x:Bx) (ho:x.ok) (hf:x.fine):CV VP 77 [x.ag,.d (.lit (.string ⟨#[115,105,108,118,101,114]⟩))] []=some ⟨.agg [.d (I 3),.d (I 0),.d (.sl [nR 11,nR x.f,nR x.h,nR x.a0,nR x.f,nR x.h,nR x.b0,nR x.f,nR x.h,nR x.a1,nR x.f,nR x.h,nR x.b1,nR x.p0,nR x.p1,nR x.l0,nR x.l1,nR x.r0,nR x.r1,nR 115,nR 105,nR 108,nR 118,nR 101,nR 114])],[],[],0⟩:=h34 x ho hf _ (by decide)
theorem h185 (x y:Bx) (hx:x.ok) (hy:y.ok):CV VP 185 [x.ag,y.ag] []=some ⟨.d (B (ansB VP 185 [x.ag,y.ag])),[],[],0⟩:=by
 obtain ⟨r,h,_⟩:=e50g x y hx hy
 exact ansB_spec ⟨r,h⟩
theorem h185t (x y:Bx) (hx:x.ok) (hy:y.ok) (hw:x.within y):ansB VP 185 [x.ag,y.ag]=true:=by
 obtain ⟨r,h,hr⟩:=e50g x y hx hy
 rw [ansB_eq h,hr hw]
structure VaT where
 R:List (List D)
 X:List (List D)
 Rb:List (List D)
 gk:Int
 f:Int
 h:Int
 a0:Int
 b0:Int
 a1:Int
 b1:Int
 p0:Int
 p1:Int
 l0:Int
 l1:Int
 s0:Int
 s1:Int
 rr:Int
 mf:Int
 mh:Int
 c0:Int
 d0:Int
 c1:Int
 d1:Int
 q0:Int
 q1:Int
 k0:Int
 k1:Int
 t0:Int
 t1:Int
abbrev VaT.x (v:VaT):Bx:=⟨v.f,v.h,v.a0,v.b0,v.a1,v.b1,v.p0,v.p1,v.l0,v.l1,v.s0,v.s1⟩
abbrev VaT.m (v:VaT):Bx:=⟨v.mf,v.mh,v.c0,v.d0,v.c1,v.d1,v.q0,v.q1,v.k0,v.k1,v.t0,v.t1⟩
abbrev VaT.ms (v:VaT):Bx:=⟨v.mf,v.mh,v.c1,v.d1,v.c0,v.d0,v.q0,v.q1,v.t0,v.t1,v.k0,v.k1⟩
abbrev prT (v:VaT) (ri:Int):V:=(.tup [.d (I ri),.agg [.d (I v.f),.d (U v.h),.d (U v.a0),.d (I v.f),.d (U v.h),.d (U v.b0),.d (I v.f),.d (U v.h),.d (U v.a1),.d (I v.f),.d (U v.h),.d (U v.b1),.d (I v.p0),.d (I v.p1),.d (I v.l0),.d (I v.l1),.d (I v.s0),.d (I v.s1)],.d (B true)])
abbrev nrT (v:VaT):V:=(.tup [.d (I v.rr),.agg [.d (I v.mf),.d (U v.mh),.d (U v.c0),.d (I v.mf),.d (U v.mh),.d (U v.d0),.d (I v.mf),.d (U v.mh),.d (U v.c1),.d (I v.mf),.d (U v.mh),.d (U v.d1),.d (I v.q0),.d (I v.q1),.d (I v.k0),.d (I v.k1),.d (I v.t0),.d (I v.t1)],.d (B true)])
abbrev nzT:V:=(.tup [.d (I 0),.agg [.d (I 0),.d (U 0),.d (U 0),.d (I 0),.d (U 0),.d (U 0),.d (I 0),.d (U 0),.d (U 0),.d (I 0),.d (U 0),.d (U 0),.d (I 0),.d (I 0),.d (I 0),.d (I 0),.d (I 0),.d (I 0)],.d (B false)])
abbrev gwT (Ra:List (List D)) (G:D) (Rb:List (List D)) (G2:D):V:=.tup [.agg [.d (I 0),.d (I 1),.d (I 1),.d (I 2),.d (.sl Ra),.d G,.d (I 0),.d (I 2),.d (I 2),.d (I 1),.d (.sl []),.d (I 2),.d (I 2),.d (.sl []),.d (I 0),.d (.sl []),.d (.sl []),.d (.sl []),.d (.sl [])],.agg [.d (I 1),.d (I 0),.d (I 2),.d (I 1),.d (.sl Rb),.d G2,.d (I 0),.d (I 2),.d (I 2),.d (I 1048577),.d (.sl []),.d (I 2),.d (I 1048578),.d (.sl []),.d (I 0),.d (.sl []),.d (.sl []),.d (.sl []),.d (.sl [])]]
abbrev bxR (f0 h0 a0 f1 h1 a1 f2 h2 a2 f3 h3 a3 p0 p1 l0 l1 r0 r1:Int) (t:ByteArray):List D:=[I 3,I 0,.sl (nR 11::nR f0::nR h0::nR a0::nR f1::nR h1::nR a1::nR f2::nR h2::nR a2::nR f3::nR h3::nR a3::nR p0::nR p1::nR l0::nR l1::nR r0::nR r1::bytsR t.data.toList)]
noncomputable def AT (R:List (List D)) (gk:Int) (Ra:List (List D)) (G G2:D) (Rb:List (List D)) (t:ByteArray) (pr nr:V):Orc:=fun f a b=>match Nat.beq f 37 with
 |true=>match b with
  |[_,.d (.lit (.int _ k))]::bs=>some ⟨.tup [.agg [.d (I 0),.d (I 1),.d (I 1),.d (I 2),.d (.sl Ra),.d G,.d (I 0),.d (I 2),.d (I 2),.d (I 1),.d (.sl []),.d (I 2),.d (I 2),.d (.sl []),.d (I 0),.d (.sl []),.d (.sl []),.d (.sl []),.d (.sl [])],.agg [.d (I 1),.d (I 0),.d (I 2),.d (I 1),.d (.sl Rb),.d G2,.d (I 0),.d (I 2),.d (I 2),.d (I 1048577),.d (.sl []),.d (I 2),.d (I 1048578),.d (.sl []),.d (I 0),.d (.sl []),.d (.sl []),.d (.sl []),.d (.sl [])]],[.d (.sl R),.d (I gk)]::bs,[],0⟩
  |_=>none
 |false=>match Nat.beq f 255 with
  |true=>some ⟨pr,[],[],0⟩
  |false=>match Nat.beq f 192 with
   |true=>some ⟨.d (B true),[],[],0⟩
   |false=>match Nat.beq f 71 with
    |true=>match a with
     |[_,.d (.lit (.int _ sp)),_,.agg [.d (.lit (.int _ f0)),.d (.lit (.int _ h0)),.d (.lit (.int _ a0)),.d (.lit (.int _ f1)),.d (.lit (.int _ h1)),.d (.lit (.int _ a1)),.d (.lit (.int _ f2)),.d (.lit (.int _ h2)),.d (.lit (.int _ a2)),.d (.lit (.int _ f3)),.d (.lit (.int _ h3)),.d (.lit (.int _ a3)),.d (.lit (.int _ p0)),.d (.lit (.int _ p1)),.d (.lit (.int _ l0)),.d (.lit (.int _ l1)),.d (.lit (.int _ r0)),.d (.lit (.int _ r1))]]=>some ⟨.d (.sl [[I 3,I 0,.sl [nR 10,nR sp]],bxR f0 h0 a0 f1 h1 a1 f2 h2 a2 f3 h3 a3 p0 p1 l0 l1 r0 r1 t]),b,[],0⟩
     |_=>none
    |false=>match Nat.beq f 175 with
     |true=>match a with
      |[.d (.sl [_,_,[_,_,.sl [_,[_,.lit (.int _ sp),_]]],[_,_,.sl (_::[_,.lit (.int _ f0),_]::[_,.lit (.int _ h0),_]::[_,.lit (.int _ a0),_]::[_,.lit (.int _ f1),_]::[_,.lit (.int _ h1),_]::[_,.lit (.int _ a1),_]::[_,.lit (.int _ f2),_]::[_,.lit (.int _ h2),_]::[_,.lit (.int _ a2),_]::[_,.lit (.int _ f3),_]::[_,.lit (.int _ h3),_]::[_,.lit (.int _ a3),_]::[_,.lit (.int _ p0),_]::[_,.lit (.int _ p1),_]::[_,.lit (.int _ l0),_]::[_,.lit (.int _ l1),_]::[_,.lit (.int _ r0),_]::[_,.lit (.int _ r1),_]::_)]])]=>some ⟨.tup [.d (I sp),.agg [.d (I f0),.d (U h0),.d (U a0),.d (I f1),.d (U h1),.d (U a1),.d (I f2),.d (U h2),.d (U a2),.d (I f3),.d (U h3),.d (U a3),.d (I p0),.d (I p1),.d (I l0),.d (I l1),.d (I r0),.d (I r1)],.d (.lit (.string t)),.d (B true)],[],[],0⟩
      |[.d (.sl [_,_,[_,_,.sl [_,[_,.lit (.int _ sp),_]]],[_,_,.sl (_::[_,.lit (.int _ f0),_]::[_,.lit (.int _ h0),_]::[_,.lit (.int _ a0),_]::[_,.lit (.int _ f1),_]::[_,.lit (.int _ h1),_]::[_,.lit (.int _ a1),_]::[_,.lit (.int _ f2),_]::[_,.lit (.int _ h2),_]::[_,.lit (.int _ a2),_]::[_,.lit (.int _ f3),_]::[_,.lit (.int _ h3),_]::[_,.lit (.int _ a3),_]::[_,.lit (.int _ p0),_]::[_,.lit (.int _ p1),_]::[_,.lit (.int _ l0),_]::[_,.lit (.int _ l1),_]::[_,.lit (.int _ r0),_]::[_,.lit (.int _ r1),_]::_)],_])]=>some ⟨.tup [.d (I sp),.agg [.d (I f0),.d (U h0),.d (U a0),.d (I f1),.d (U h1),.d (U a1),.d (I f2),.d (U h2),.d (U a2),.d (I f3),.d (U h3),.d (U a3),.d (I p0),.d (I p1),.d (I l0),.d (I l1),.d (I r0),.d (I r1)],.d (.lit (.string t)),.d (B true)],[],[],0⟩
      |_=>none
     |false=>match Nat.beq f 205 with
     |true=>match a with
      |[.d (.sl ([_,.lit (.int _ f0),_]::[_,.lit (.int _ h0),_]::[_,.lit (.int _ a0),_]::[_,.lit (.int _ f1),_]::[_,.lit (.int _ h1),_]::[_,.lit (.int _ a1),_]::[_,.lit (.int _ f2),_]::[_,.lit (.int _ h2),_]::[_,.lit (.int _ a2),_]::[_,.lit (.int _ f3),_]::[_,.lit (.int _ h3),_]::[_,.lit (.int _ a3),_]::[_,.lit (.int _ p0),_]::[_,.lit (.int _ p1),_]::[_,.lit (.int _ l0),_]::[_,.lit (.int _ l1),_]::[_,.lit (.int _ r0),_]::[_,.lit (.int _ r1),_]::_))]=>
       some ⟨.tup [.agg [.d (I f0),.d (U h0),.d (U a0),.d (I f1),.d (U h1),.d (U a1),.d (I f2),.d (U h2),.d (U a2),.d (I f3),.d (U h3),.d (U a3),.d (I p0),.d (I p1),.d (I l0),.d (I l1),.d (I r0),.d (I r1)],.d (.lit (.string t)),.d (B true)],[],[],0⟩
      |_=>none
     |false=>match Nat.beq f 176 with
      |true=>some ⟨nr,[],[],0⟩
      |false=>match Nat.beq f 185 with
       |true=>some ⟨.d (B (ansB VP 185 a)),[],[],0⟩
       |false=>none
theorem AT_ok (R:List (List D)) (gk:Int) (Ra:List (List D)) (G G2:D) (Rb:List (List D)) (t:ByteArray) (pr nr:V):CFok VP (cA VP vft.get (AT R gk Ra G G2 Rb t pr nr) 400 60):=cA_ok vft_ok _ 400 60
structure HT0 (v:VaT) (Ra:List (List D)) (ri:Int) (G G2:D) (t:ByteArray):Prop where
 h37:∀ own:List (List V),own.map V.erL=own→own.all (V.ltbL (1+own.length))=true→CV VP 37 [.ptr 0 0] ([.d (.sl v.R),.d (I 0)]::own)=some ⟨gwT Ra G v.Rb G2,[.d (.sl v.R),.d (I v.gk)]::own,[],0⟩
 xok:v.x.ok
 xfine:v.x.fine
 hpr:∀ (c0 c1 c2 c3 c5 c6 c7 c8 c9 c10 c11 c12 c13 c14 c15 c16 c17 c18:D),CV VP 255 [.agg [.d c0,.d c1,.d c2,.d c3,.d (.sl Ra),.d c5,.d c6,.d c7,.d c8,.d c9,.d c10,.d c11,.d c12,.d c13,.d c14,.d c15,.d c16,.d c17,.d c18]] []=some ⟨prT v ri,[],[],0⟩
 hra:∃ (i:Nat) (a b:D),ri=(i:Int)∧Ra[i]?=some [a,.lit (.string t),b]
structure HTz (v:VaT) (Ra:List (List D)) (ri:Int) (G G2:D) (t:ByteArray):Prop where
 b:HT0 v Ra ri G G2 t
 h176:CV VP 176 [.d (.sl v.Rb),v.x.ag,.d (.lit (.string t))] []=some ⟨nzT,[],[],0⟩
structure HTs (v:VaT) (Ra:List (List D)) (ri:Int) (G G2:D) (t:ByteArray):Prop where
 b:HT0 v Ra ri G G2 t
 h176:CV VP 176 [.d (.sl v.Rb),v.x.ag,.d (.lit (.string t))] []=some ⟨nrT v,[],[],0⟩
 mok:v.m.ok
 mfine:v.m.fine
 msok:v.ms.ok
 msfine:v.ms.fine
 hrow:∃ (i:Nat) (a b:D),v.rr=(i:Int)∧v.Rb[i]?=some [a,.lit (.string t),b]
 hv:ansB VP 185 [v.ms.ag,v.x.ag]=true
noncomputable abbrev Q (p:Prop):Bool×Bool:=(prB p,true)
noncomputable abbrev V6 (l:List V):Bool×Bool:=(prB (CV VP 192 l []=some ⟨.d (B true),[],[],0⟩),true)
theorem e6 {a b c:D} (h:(rowOk 60 [a,b,c]&&Nat.ble (rowSz 60 [a,b,c]) 600)=true):prB (CV VP 192 [.agg [.d a,.d b,.d c]] []=some ⟨.d (B true),[],[],0⟩)=true:=
 prB_of (e192r 60 (Nat.le_refl _) (Bool.and_eq_true_iff.1 h).1 (Bool.and_eq_true_iff.1 h).2)
abbrev RA0 (t:ByteArray) (bs Rt:List (List D)):List (List D):=[[I 2,.lit (.string t),.sl bs]]++Rt
abbrev RA1 (t:ByteArray) (ro:List D) (bs Rt:List (List D)):List (List D):=[ro,[I 2,.lit (.string t),.sl bs]]++Rt
abbrev RA2 (t:ByteArray) (rp ro:List D) (bs Rt:List (List D)):List (List D):=[rp,ro,[I 2,.lit (.string t),.sl bs]]++Rt
abbrev bR (t:ByteArray):List (List D):=bytsR t.data.toList
theorem h77t (b:Bool) (x:Bx) (ho:x.ok) (hf:x.fine):CV VP 77 [x.ag,.d (.lit (.string (tB b)))] []=some ⟨.agg [.d (I 3),.d (I 0),.d (.sl (nR 11::nR x.f::nR x.h::nR x.a0::nR x.f::nR x.h::nR x.b0::nR x.f::nR x.h::nR x.a1::nR x.f::nR x.h::nR x.b1::nR x.p0::nR x.p1::nR x.l0::nR x.l1::nR x.r0::nR x.r1::bR (tB b)))],[],[],0⟩:=by
 cases b
 ·exact h77s x ho hf
 ·exact h77g x ho hf
abbrev nE (b:Bool):Bool×Bool:=(!((tB b).toList==(tB b).toList),false)
theorem nE_ok (b:Bool):(!((tB b).toList==(tB b).toList))=false:=by simp
def rpE:Nat→Bool→List (Bool×Bool)→List (Bool×Bool)
 |0,_,l=>l
 |n+1,b,l=>nE b::rpE n b l
theorem rpE_ok (b:Bool) {l:List (Bool×Bool)} (h:OKs l):∀ n,OKs (rpE n b l)
 |0=>h
 |n+1=>.cons (nE_ok b) (rpE_ok b h n)
end Go.Proofs.YtlcbgdnfkmbhkaaGreat
