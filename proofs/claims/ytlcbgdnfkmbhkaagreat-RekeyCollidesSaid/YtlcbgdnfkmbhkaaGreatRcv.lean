/- Two gateways behind an undisturbed connection, on the machine: its runs, continued. Conditions: how the policies meet. -/
import Derived.Test.YtlcbgdnfkmbhkaaGreatVd
import Derived.Test.YtlcbgdnfkmbhkaaGreatRcy
set_option linter.unusedSimpArgs false
set_option linter.unusedVariables false
set_option maxRecDepth 100000
set_option maxHeartbeats 4000000
namespace Go.Proofs.YtlcbgdnfkmbhkaaGreat
open Go.VM
abbrev y3_0:List D:=(M 2 1048580)
abbrev y3_1:List D:=(M 2 1048581)
abbrev y3_2:List (List D):=[R 6 1 [(M 2 4),y3_0,R 5 0 [(M 2 6),y3_1]],N 1003,N 2003]
abbrev y3_3:List D:=(R 3 0 [(N 1),N 1024,N 31])
abbrev y3_4:List D:=(R 3 0 [(N 3),M 2 4])
abbrev y3_5:List D:=(R 6 8 [(N 1003),N 1])
abbrev y3_6:List D:=(R 6 8 [(N 1003),N 2])
abbrev y3_7:List D:=(R 3 0 [(N 7),y3_5,y3_6])
abbrev y3_8:List (List D):=[N 34,N 1003,N 0,N 2,N 0,R 3 0 [y3_3,R 3 0 [(N 2),N 31,R 4 0 [(M 2 6)]],y3_4,y3_7]]
abbrev y3_9:List (List D):=[N 34,N 1003,N 2003,N 1,N 0,R 3 0 [(R 3 0 [(N 1),N 31]),R 3 0 [(N 2),N 31,R 4 0 [y3_1]],R 3 0 [(N 3),y3_0],R 3 0 [(N 7),y3_6,y3_5]]]
abbrev y3_10:List (List D):=[[I 1003,I 2003,B true,I 3,I 1,I 2,I 6,I 2,.sl y3_2,I 6,I 3,.sl y3_2,I 6,I 4,.sl y3_2,I 2,I 4,.sl [],I 2,I 1048580,.sl [],I 3,I 0,.sl y3_8,I 3,I 0,.sl y3_9,I 2,I 0,I 0,I 0,I 0,I 0,.sl [],I 0,I 0,I 0,I 0,I 0,.sl [],I 0,I 0,.sl [],I 0,I 0,I 0,I 0,U 0,U 0,I 0,U 0,U 0,I 0,U 0,U 0,I 0,U 0,U 0,I 0,I 0,I 0,I 0,I 0,I 0,I 0,I 0,.sl [],.sl [],I (-1),I 0,I 0,.sl [],I 0,I 0,I 0,I 0,I 1,B false,I 0,B false,I 0]]
abbrev y3_11:List D:=[I 6,I 2,.sl y3_2]
abbrev y3_12:List (List D):=[y3_11,M 2 4,y3_0]
abbrev y3_13:List (List D):=[M 2 1048578,R 3 0 [y3_11,N 0,N 40]]
abbrev y3_14:List (List D):=[[I 7,I 0,.sl y3_13,I 6,I 2,.sl y3_2]]
abbrev y3_15:List D:=[I 6,I 4,.sl y3_2]
abbrev y3_16:List D:=(R 3 0 [(N 8),N 1])
abbrev y3_17:List D:=(R 3 0 [(N 9),R 8 1 [(R 3 0 [[I 3,I 0,.sl y3_9],M 2 4,N 1])]])
abbrev y3_18:List D:=(R 3 0 [(N 10),N 2006])
abbrev y3_19 (v:VaT) (t:ByteArray):List D:=[I 3,I 0,.sl ([N 11,N v.mf,N v.mh,N v.c0,N v.mf,N v.mh,N v.d0,N v.mf,N v.mh,N v.c1,N v.mf,N v.mh,N v.d1,N v.q0,N v.q1,N v.k0,N v.k1,N v.t0,N v.t1]++(bR t))]
abbrev y3_20:List D:=(R 3 0 [(N 18),[I 7,I 0,.sl y3_13]])
abbrev y3_21 (v:VaT) (t:ByteArray):List (List D):=[y3_16,y3_17,y3_18,(y3_19 v t),y3_20]
abbrev y3_22 (v:VaT) (t:ByteArray):List (List D):=[N 35,N 1003,N 2003,N 1,N 1,R 7 0 [y3_15,R 3 0 [(N 35),N 1003,N 2003,N 1,N 1,[I 3,I 0,.sl (y3_21 v t)]]]]
abbrev y3_23 (v:VaT):List (List D):=[[I 2006,I 1007,I 2003,I v.rr,I v.mf,U v.mh,U v.c0,I v.mf,U v.mh,U v.d0,I v.mf,U v.mh,U v.c1,I v.mf,U v.mh,U v.d1,I v.q0,I v.q1,I v.k0,I v.k1,I v.t0,I v.t1,I 6,I 5,.sl y3_12,I 6,I 6,.sl y3_12,B false,I 2,I 1048580,.sl [],I 2,I 4,.sl [],I 1,I 0,I 6,U 0,.sl [[U 0]],I 0,I 0]]
abbrev y3_24:List (List D):=[N 35,N 1003,N 2003,N 1,N 1,R 7 0 [y3_15,R 3 0 [(N 35),N 1003,N 2003,N 1,N 1,R 3 0 [y3_16,y3_17,R 3 0 [(N 12),N 38],y3_20]]]]
abbrev y3_25:List V:=[A 0,A 0,A 0,A 0,Z,Z,A 0,A 0,A 0,A 0,Z,A 0,A 0,Z,A 0,Z,Z,Z,Z]
abbrev y3_26 (v:VaT):List (List V):=[[E v.R,A 0],y3_25,y3_25]
abbrev y3_27 (Ra:List (List D)):List V:=[A 0,A 1,A 1,A 2,E Ra,E [[I 1024],[I 31]],A 0,A 2,A 2,A 1,Z,A 2,A 2,Z,A 0,Z,Z,Z,Z]
abbrev y3_28 (v:VaT) (Ra:List (List D)):List V:=[.agg (y3_27 Ra),.agg [A 1,A 0,A 2,A 1,E v.Rb,E [[I 31],[I 1024]],A 0,A 2,A 2,A 1048577,Z,A 2,A 1048578,Z,A 0,Z,Z,Z,Z]]
abbrev y3_29 (v:VaT):List (List V):=[[E v.R,A v.gk],y3_25,y3_25]
abbrev y3_30 (Ra:List (List D)):List V:=[.agg (y3_27 Ra)]
abbrev y3_31 (v:VaT):List V:=[A v.f,C v.h,C v.a0,A v.f,C v.h,C v.b0,A v.f,C v.h,C v.a1,A v.f,C v.h,C v.b1,A v.p0,A v.p1,A v.l0,A v.l1,A v.s0,A v.s1]
abbrev y3_32 (v:VaT) (ri:Int):List V:=[A ri,.agg (y3_31 v),.d (B true)]
abbrev y3_33 (Ra:List (List D)):List V:=[A 0,A 1,A 1,A 2,E Ra,E [[I 1024],[I 31]],A 0,A 5,A 2,A 1,Z,A 2,A 2,Z,A 0,Z,.loc 7 0 1 81,.sl 42 [] .full,Z]
abbrev y3_34:List V:=[.agg [A 3,A 0,E [N 34,N 1003,N 0,N 2,N 0,R 3 0 [y3_3,R 3 0 [(N 2),N 1024,R 4 0 [(M 2 5)]],y3_4,y3_7]]]]
abbrev y3_35:List V:=[.agg [A 3,A 0,E [N 34,N 1003,N 0,N 1,N 0,R 3 0 [(R 3 0 [(N 5),N 31])]]]]
abbrev y3_36:List V:=[.agg [A 3,A 0,E y3_8]]
abbrev y3_37:List V:=[.agg [A 3,A 0,E y3_9]]
abbrev y3_38 (Ra:List (List D)):List V:=[A 0,A 1,A 1,A 2,E Ra,E [[I 1024],[I 31]],A 0,A 7,A 2,A 1,Z,A 2,A 2,Z,A 0,Z,.loc 4 0 1 81,.sl 42 [] .full,Z]
abbrev y3_39 (v:VaT) (Ra:List (List D)) (ri:Int):List V:=[.agg (y3_38 Ra),A 1007,A ri,.agg (y3_31 v)]
abbrev y3_40 (Ra:List (List D)):List V:=[A 0,A 1,A 1,A 2,E Ra,E [[I 1024],[I 31]],A 0,A 6,A 2,A 1,Z,A 2,A 2,Z,A 0,Z,.loc 4 0 1 81,.sl 42 [] .full,Z]
abbrev y3_41 (v:VaT) (Ra:List (List D)) (ri:Int):List (List V):=[(y3_38 Ra),y3_25,(y3_40 Ra),(y3_40 Ra),[A 1003,A 2003,.d (B true),A 1,A 1,A 2,A 6,A 2,E y3_2,A 6,A 3,E y3_2,A 6,A 4,E y3_2,A 2,A 4,Z,A 2,A 1048580,Z,A 3,A 0,E y3_8,A 3,A 0,E y3_9,A 1,A 0,A 1,A 0,A 3,A 0,E y3_8,A 2,A 1,A 2,A 2,A 4,Z,A 2,A 6,Z,A 0,A 0,A ri,A v.f,C v.h,C v.a0,A v.f,C v.h,C v.b0,A v.f,C v.h,C v.a1,A v.f,C v.h,C v.b1,A v.p0,A v.p1,A v.l0,A v.l1,A v.s0,A v.s1,A 0,A 0,Z,Z,A (-1),A 0,A 0,Z,A 0,A 0,A 0,A 0,A 1,.d (B false),A 0,.d (B false),A 0]]
abbrev y3_42:List D:=(R 3 0 [(N 10),N 1007])
abbrev y3_43 (v:VaT) (t:ByteArray):List D:=[I 3,I 0,.sl ([N 11,N v.f,N v.h,N v.a0,N v.f,N v.h,N v.b0,N v.f,N v.h,N v.a1,N v.f,N v.h,N v.b1,N v.p0,N v.p1,N v.l0,N v.l1,N v.s0,N v.s1]++(bR t))]
abbrev y3_44 (v:VaT) (t:ByteArray):List (List D):=[y3_42,(y3_43 v t)]
abbrev y3_45 (v:VaT) (t:ByteArray):List (List D):=[R 3 0 [(N 8),N 0],R 3 0 [(N 9),R 8 0 [(R 3 0 [[I 3,I 0,.sl y3_8],y3_0,N 0])]],y3_42,(y3_43 v t)]
abbrev y3_46 (v:VaT) (t:ByteArray):List V:=[.agg [A 3,A 0,E [N 35,N 1003,N 2003,N 2,N 1,R 7 0 [[I 6,I 3,.sl y3_2],R 3 0 [(N 35),N 1003,N 2003,N 2,N 1,[I 3,I 0,.sl (y3_45 v t)]]]]]]
abbrev y3_47 (v:VaT) (t:ByteArray):List V:=[E (y3_45 v t)]
abbrev y3_48 (v:VaT) (t:ByteArray):List V:=[A 1007,.agg (y3_31 v),.d (.lit (.string t)),.d (B true)]
abbrev y3_49 (v:VaT) (t:ByteArray):List V:=[E v.Rb,.agg (y3_31 v),.d (.lit (.string t))]
abbrev y3_50 (v:VaT):List V:=[A v.mf,C v.mh,C v.c0,A v.mf,C v.mh,C v.d0,A v.mf,C v.mh,C v.c1,A v.mf,C v.mh,C v.d1,A v.q0,A v.q1,A v.k0,A v.k1,A v.t0,A v.t1]
abbrev y3_51 (v:VaT) (t:ByteArray):List V:=[.agg [A 3,A 0,E (y3_22 v t)]]
abbrev y3_52 (v:VaT):List V:=[.agg [A v.mf,C v.mh,C v.c1,A v.mf,C v.mh,C v.d1,A v.mf,C v.mh,C v.c0,A v.mf,C v.mh,C v.d0,A v.q0,A v.q1,A v.t0,A v.t1,A v.k0,A v.k1],.agg (y3_31 v)]
abbrev y3_53:List V:=[.agg [A 3,A 0,E y3_24]]
abbrev twS3 (v:VaT) (Ra:List (List D)) (ri:Int) (t:ByteArray):V:=.tup [.agg [A 0,A 1,A 1,A 2,E Ra,E [[I 1024],[I 31]],A 0,A 7,A 2,A 1,Z,A 2,A 2,Z,A 0,Z,E y3_10,E [[I 1007,I 2006,I 1003,I ri,I v.mf,U v.mh,U v.c1,I v.mf,U v.mh,U v.d1,I v.mf,U v.mh,U v.c0,I v.mf,U v.mh,U v.d0,I v.q0,I v.q1,I v.t0,I v.t1,I v.k0,I v.k1,I 6,I 6,.sl y3_12,I 6,I 5,.sl y3_12,B true,I 2,I 4,.sl [],I 2,I 1048580,.sl [],I 1,I 0,I 6,U 0,.sl [[U 0]],I 0,I 0]],E y3_14],.agg [A 1,A 0,A 2,A 1,E v.Rb,E [[I 31],[I 1024]],A 0,A 6,A 2,A 1048577,Z,A 2,A 1048578,Z,A 0,Z,E [[I 2003,I 1003,B false,I 3,I 2,I 1,I 6,I 2,.sl y3_2,I 6,I 4,.sl y3_2,I 6,I 3,.sl y3_2,I 2,I 1048580,.sl [],I 2,I 4,.sl [],I 3,I 0,.sl y3_8,I 3,I 0,.sl y3_9,I 0,I 2,I 0,I 0,I 0,I 0,.sl [],I 0,I 0,I 0,I 0,I 0,.sl [],I 0,I 0,.sl [],I 0,I 0,I 0,I 0,U 0,U 0,I 0,U 0,U 0,I 0,U 0,U 0,I 0,U 0,U 0,I 0,I 0,I 0,I 0,I 0,I 0,I 0,I 0,.sl [],.sl [],I 1,I 3,I 0,.sl (y3_22 v t),I 0,I 0,I 0,I 0,I 0,B false,I 0,B false,I 0]],E (y3_23 v),Z],.d (B true)]
abbrev twZ3 (v:VaT) (Ra:List (List D)) (ri:Int) (t:ByteArray):V:=.tup [.agg [A 0,A 1,A 1,A 2,E Ra,E [[I 1024],[I 31]],A 0,A 7,A 2,A 1,Z,A 2,A 2,Z,A 0,Z,E y3_10,.sl 42 [] .full,E y3_14],.agg [A 1,A 0,A 2,A 1,E v.Rb,E [[I 31],[I 1024]],A 0,A 5,A 2,A 1048577,Z,A 2,A 1048578,Z,A 0,Z,E [[I 2003,I 1003,B false,I 3,I 2,I 1,I 6,I 2,.sl y3_2,I 6,I 4,.sl y3_2,I 6,I 3,.sl y3_2,I 2,I 1048580,.sl [],I 2,I 4,.sl [],I 3,I 0,.sl y3_8,I 3,I 0,.sl y3_9,I 0,I 2,I 0,I 0,I 0,I 0,.sl [],I 0,I 0,I 0,I 0,I 0,.sl [],I 0,I 0,.sl [],I 0,I 0,I 0,I 0,U 0,U 0,I 0,U 0,U 0,I 0,U 0,U 0,I 0,U 0,U 0,I 0,I 0,I 0,I 0,I 0,I 0,I 0,I 0,.sl [],.sl [],I 1,I 3,I 0,.sl y3_24,I 0,I 0,I 0,I 0,I 0,B false,I 0,B false,I 0]],.sl 42 [] .full,Z],.d (B false)]
noncomputable abbrev obS3 (v:VaT) (Ra:List (List D)) (ri:Int) (b:Bool):List (Bool×Bool):=((!(ansB VP 185 (y3_52 v))),false)::rpE 2 b (Q (CV VP 185 (y3_52 v) []=some ⟨.d (B (ansB VP 185 (y3_52 v))),[],[],0⟩)::rpE 5 b (Q (CV VP 175 [E (y3_21 v (tB b))] []=some ⟨.tup [A 2006,.agg (y3_50 v),.d (.lit (.string (tB b))),.d (B true)],[],[],0⟩)::Q (CV VP 192 (y3_51 v (tB b)) []=some ⟨.d (B true),[],[],0⟩)::Q (CV VP 192 (y3_51 v (tB b)) []=some ⟨.d (B true),[],[],0⟩)::Q (CV VP 71 [.agg [A 1,A 0,A 2,A 1,E v.Rb,E [[I 31],[I 1024]],A 0,A 6,A 2,A 1048577,Z,A 2,A 1048578,Z,A 0,Z,E [[I 2003,I 1003,B false,I 3,I 2,I 1,I 6,I 2,.sl y3_2,I 6,I 4,.sl y3_2,I 6,I 3,.sl y3_2,I 2,I 1048580,.sl [],I 2,I 4,.sl [],I 3,I 0,.sl y3_8,I 3,I 0,.sl y3_9,I 0,I 2,I 0,I 0,I 0,I 0,.sl [],I 0,I 0,I 0,I 0,I 0,.sl [],I 0,I 0,.sl [],I 0,I 0,I 0,I 0,U 0,U 0,I 0,U 0,U 0,I 0,U 0,U 0,I 0,U 0,U 0,I 0,I 0,I 0,I 0,I 0,I 0,I 0,I 0,.sl [],.sl [],I 1,I 0,I 0,.sl [],I 0,I 0,I 0,I 0,I 0,B false,I 0,B false,I 0]],E (y3_23 v),Z],A 2006,A v.rr,.agg (y3_50 v)] []=some ⟨E [y3_18,(y3_19 v (tB b))],[],[],0⟩)::Q (CV VP 176 (y3_49 v (tB b)) []=some ⟨.tup [A v.rr,.agg (y3_50 v),.d (B true)],[],[],0⟩)::Q (CV VP 175 (y3_47 v (tB b)) []=some ⟨.tup (y3_48 v (tB b)),[],[],0⟩)::Q (CV VP 192 (y3_46 v (tB b)) []=some ⟨.d (B true),[],[],0⟩)::Q (CV VP 192 (y3_46 v (tB b)) []=some ⟨.d (B true),[],[],0⟩)::Q (CV VP 71 (y3_39 v Ra ri) (y3_41 v Ra ri)=some ⟨E (y3_44 v (tB b)),(y3_41 v Ra ri),[],0⟩)::Q ((y3_38 Ra)=(y3_38 Ra))::V6 y3_37::V6 y3_37::V6 y3_36::V6 y3_36::V6 y3_35::V6 y3_35::V6 y3_34::V6 y3_34::Q ((y3_33 Ra)=(y3_33 Ra))::Q ((y3_33 Ra)=(y3_33 Ra))::Q (CV VP 255 (y3_30 Ra) []=some ⟨.tup (y3_32 v ri),[],[],0⟩)::Q (CV VP 37 [.ptr 0 0] (y3_26 v)=some ⟨.tup (y3_28 v Ra),(y3_29 v),[],0⟩)::[]))
theorem obS3_ok {v:VaT} {Ra:List (List D)} {ri:Int} {b:Bool} (H:HTs v Ra ri (.sl [[I 1024],[I 31]]) (.sl [[I 31],[I 1024]]) (tB b)):OKs (obS3 v Ra ri b):=
 .cons ((congrArg Bool.not H.hv))<|rpE_ok b (.cons (prB_of (h185 _ _ H.msok H.b.xok))<|rpE_ok b (.cons (prB_of (h175_5 b v.m H.mok H.mfine (by decide)))<|.cons (e6 (by cases b<;>kernel_rfl))<|.cons (e6 (by cases b<;>kernel_rfl))<|.cons (prB_of (H.hrow.elim fun i h=>h.elim fun a h=>h.elim fun d h=>h71d i h.1 h.2 (h77t b v.m H.mok H.mfine)))<|.cons (prB_of H.h176)<|.cons (prB_of (h175_4 b v.x H.b.xok H.b.xfine (by decide)))<|.cons (e6 (by cases b<;>kernel_rfl))<|.cons (e6 (by cases b<;>kernel_rfl))<|.cons (prB_of (H.b.hra.elim fun i h=>h.elim fun a h=>h.elim fun d h=>h71l _ (by kernel_rfl) i h.1 h.2 (h77t b v.x H.b.xok H.b.xfine)))<|.cons (prB_of rfl)<|.cons (e6 (by kernel_rfl))<|.cons (e6 (by kernel_rfl))<|.cons (e6 (by kernel_rfl))<|.cons (e6 (by kernel_rfl))<|.cons (e6 (by kernel_rfl))<|.cons (e6 (by kernel_rfl))<|.cons (e6 (by kernel_rfl))<|.cons (e6 (by kernel_rfl))<|.cons (prB_of rfl)<|.cons (prB_of rfl)<|.cons (prB_of (H.b.hpr _ _ _ _ _ _ _ _ _ _ _ _ _ _ _ _ _ _))<|.cons (prB_of (H.b.h37 _ (by kernel_rfl) (by kernel_rfl)))<|.nil) 5) 2
theorem two3_s0 {v:VaT} {bs Rt:List (List D)} {b:Bool} (H:HTs v (RA0 (tB b) bs Rt) 0 (.sl [[I 1024],[I 31]]) (.sl [[I 31],[I 1024]]) (tB b)):CV VP 10 [.ptr 0 0] [[E v.R,A 0]]=some ⟨twS3 v (RA0 (tB b) bs Rt) 0 (tB b),[[E v.R,A v.gk]],[],0⟩:=
 CV_R (AT_ok v.R v.gk (RA0 (tB b) bs Rt) (.sl [[I 1024],[I 31]]) (.sl [[I 31],[I 1024]]) v.Rb (tB b) (prT v 0) (nrT v)) 400 [(6150,false),(0,false),(0,false),(0,false),(0,false),(0,false),(0,false),(0,false)] [] rfl rfl (ob:=obS3 v (RA0 (tB b) bs Rt) 0 b) (by kernel_rfl) (obS3_ok H)
theorem two3_s1 {v:VaT} {bs Rt:List (List D)} {ro:List D} {b:Bool} (H:HTs v (RA1 (tB b) ro bs Rt) 1 (.sl [[I 1024],[I 31]]) (.sl [[I 31],[I 1024]]) (tB b)):CV VP 10 [.ptr 0 0] [[E v.R,A 0]]=some ⟨twS3 v (RA1 (tB b) ro bs Rt) 1 (tB b),[[E v.R,A v.gk]],[],0⟩:=
 CV_R (AT_ok v.R v.gk (RA1 (tB b) ro bs Rt) (.sl [[I 1024],[I 31]]) (.sl [[I 31],[I 1024]]) v.Rb (tB b) (prT v 1) (nrT v)) 400 [(6150,false),(0,false),(0,false),(0,false),(0,false),(0,false),(0,false),(0,false)] [] rfl rfl (ob:=obS3 v (RA1 (tB b) ro bs Rt) 1 b) (by kernel_rfl) (obS3_ok H)
theorem two3_s2 {v:VaT} {bs Rt:List (List D)} {rp ro:List D} {b:Bool} (H:HTs v (RA2 (tB b) rp ro bs Rt) 2 (.sl [[I 1024],[I 31]]) (.sl [[I 31],[I 1024]]) (tB b)):CV VP 10 [.ptr 0 0] [[E v.R,A 0]]=some ⟨twS3 v (RA2 (tB b) rp ro bs Rt) 2 (tB b),[[E v.R,A v.gk]],[],0⟩:=
 CV_R (AT_ok v.R v.gk (RA2 (tB b) rp ro bs Rt) (.sl [[I 1024],[I 31]]) (.sl [[I 31],[I 1024]]) v.Rb (tB b) (prT v 2) (nrT v)) 400 [(6150,false),(0,false),(0,false),(0,false),(0,false),(0,false),(0,false),(0,false)] [] rfl rfl (ob:=obS3 v (RA2 (tB b) rp ro bs Rt) 2 b) (by kernel_rfl) (obS3_ok H)
noncomputable abbrev obZ3 (v:VaT) (Ra:List (List D)) (ri:Int) (b:Bool):List (Bool×Bool):=V6 y3_53::V6 y3_53::Q (CV VP 176 (y3_49 v (tB b)) []=some ⟨.tup [A 0,.agg [A 0,C 0,C 0,A 0,C 0,C 0,A 0,C 0,C 0,A 0,C 0,C 0,A 0,A 0,A 0,A 0,A 0,A 0],.d (B false)],[],[],0⟩)::Q (CV VP 175 (y3_47 v (tB b)) []=some ⟨.tup (y3_48 v (tB b)),[],[],0⟩)::Q (CV VP 192 (y3_46 v (tB b)) []=some ⟨.d (B true),[],[],0⟩)::Q (CV VP 192 (y3_46 v (tB b)) []=some ⟨.d (B true),[],[],0⟩)::Q (CV VP 71 (y3_39 v Ra ri) (y3_41 v Ra ri)=some ⟨E (y3_44 v (tB b)),(y3_41 v Ra ri),[],0⟩)::Q ((y3_38 Ra)=(y3_38 Ra))::V6 y3_37::V6 y3_37::V6 y3_36::V6 y3_36::V6 y3_35::V6 y3_35::V6 y3_34::V6 y3_34::Q ((y3_33 Ra)=(y3_33 Ra))::Q ((y3_33 Ra)=(y3_33 Ra))::Q (CV VP 255 (y3_30 Ra) []=some ⟨.tup (y3_32 v ri),[],[],0⟩)::Q (CV VP 37 [.ptr 0 0] (y3_26 v)=some ⟨.tup (y3_28 v Ra),(y3_29 v),[],0⟩)::[]
theorem obZ3_ok {v:VaT} {Ra:List (List D)} {ri:Int} {b:Bool} (H:HTz v Ra ri (.sl [[I 1024],[I 31]]) (.sl [[I 31],[I 1024]]) (tB b)):OKs (obZ3 v Ra ri b):=
 .cons (e6 (by kernel_rfl))<|.cons (e6 (by kernel_rfl))<|.cons (prB_of H.h176)<|.cons (prB_of (h175_4 b v.x H.b.xok H.b.xfine (by decide)))<|.cons (e6 (by cases b<;>kernel_rfl))<|.cons (e6 (by cases b<;>kernel_rfl))<|.cons (prB_of (H.b.hra.elim fun i h=>h.elim fun a h=>h.elim fun d h=>h71l _ (by kernel_rfl) i h.1 h.2 (h77t b v.x H.b.xok H.b.xfine)))<|.cons (prB_of rfl)<|.cons (e6 (by kernel_rfl))<|.cons (e6 (by kernel_rfl))<|.cons (e6 (by kernel_rfl))<|.cons (e6 (by kernel_rfl))<|.cons (e6 (by kernel_rfl))<|.cons (e6 (by kernel_rfl))<|.cons (e6 (by kernel_rfl))<|.cons (e6 (by kernel_rfl))<|.cons (prB_of rfl)<|.cons (prB_of rfl)<|.cons (prB_of (H.b.hpr _ _ _ _ _ _ _ _ _ _ _ _ _ _ _ _ _ _))<|.cons (prB_of (H.b.h37 _ (by kernel_rfl) (by kernel_rfl)))<|.nil
theorem two3_zv {v:VaT} {Ra:List (List D)} {ri:Int} {b:Bool} (H:HTz v Ra ri (.sl [[I 1024],[I 31]]) (.sl [[I 31],[I 1024]]) (tB b)):CV VP 10 [.ptr 0 0] [[E v.R,A 0]]=some ⟨twZ3 v Ra ri (tB b),[[E v.R,A v.gk]],[],0⟩:=
 CV_R (AT_ok v.R v.gk Ra (.sl [[I 1024],[I 31]]) (.sl [[I 31],[I 1024]]) v.Rb (tB b) (prT v ri) nzT) 400 [] [] rfl rfl (ob:=obZ3 v Ra ri b) (by kernel_rfl) (obZ3_ok H)
abbrev y4_0:List D:=(M 2 1048580)
abbrev y4_1:List D:=(M 2 1048581)
abbrev y4_2:List (List D):=[R 6 1 [(M 2 4),y4_0,R 5 0 [(M 2 5),y4_1]],N 1003,N 2003]
abbrev y4_3:List D:=(R 6 8 [(N 1003),N 1])
abbrev y4_4:List D:=(R 6 8 [(N 1003),N 2])
abbrev y4_5:List (List D):=[N 34,N 1003,N 0,N 2,N 0,R 3 0 [(R 3 0 [(N 1),N 31,N 1024]),R 3 0 [(N 2),N 31,R 4 0 [(M 2 5)]],R 3 0 [(N 3),M 2 4],R 3 0 [(N 7),y4_3,y4_4]]]
abbrev y4_6:List (List D):=[N 34,N 1003,N 2003,N 1,N 0,R 3 0 [(R 3 0 [(N 1),N 31]),R 3 0 [(N 2),N 31,R 4 0 [y4_1]],R 3 0 [(N 3),y4_0],R 3 0 [(N 7),y4_4,y4_3]]]
abbrev y4_7:List (List D):=[[I 1003,I 2003,B true,I 3,I 1,I 2,I 6,I 2,.sl y4_2,I 6,I 3,.sl y4_2,I 6,I 4,.sl y4_2,I 2,I 4,.sl [],I 2,I 1048580,.sl [],I 3,I 0,.sl y4_5,I 3,I 0,.sl y4_6,I 2,I 0,I 0,I 0,I 0,I 0,.sl [],I 0,I 0,I 0,I 0,I 0,.sl [],I 0,I 0,.sl [],I 0,I 0,I 0,I 0,U 0,U 0,I 0,U 0,U 0,I 0,U 0,U 0,I 0,U 0,U 0,I 0,I 0,I 0,I 0,I 0,I 0,I 0,I 0,.sl [],.sl [],I (-1),I 0,I 0,.sl [],I 0,I 0,I 0,I 0,I 0,B false,I 0,B false,I 0]]
abbrev y4_8:List D:=[I 6,I 2,.sl y4_2]
abbrev y4_9:List (List D):=[y4_8,M 2 4,y4_0]
abbrev y4_10:List (List D):=[M 2 1048578,R 3 0 [y4_8,N 0,N 40]]
abbrev y4_11:List (List D):=[[I 7,I 0,.sl y4_10,I 6,I 2,.sl y4_2]]
abbrev y4_12:List D:=[I 6,I 4,.sl y4_2]
abbrev y4_13:List D:=(R 3 0 [(N 8),N 1])
abbrev y4_14:List D:=(R 3 0 [(N 9),R 8 1 [(R 3 0 [[I 3,I 0,.sl y4_6],M 2 4,N 1])]])
abbrev y4_15:List D:=(R 3 0 [(N 10),N 2006])
abbrev y4_16 (v:VaT) (t:ByteArray):List D:=[I 3,I 0,.sl ([N 11,N v.mf,N v.mh,N v.c0,N v.mf,N v.mh,N v.d0,N v.mf,N v.mh,N v.c1,N v.mf,N v.mh,N v.d1,N v.q0,N v.q1,N v.k0,N v.k1,N v.t0,N v.t1]++(bR t))]
abbrev y4_17:List D:=(R 3 0 [(N 18),[I 7,I 0,.sl y4_10]])
abbrev y4_18 (v:VaT) (t:ByteArray):List (List D):=[y4_13,y4_14,y4_15,(y4_16 v t),y4_17]
abbrev y4_19 (v:VaT) (t:ByteArray):List (List D):=[N 35,N 1003,N 2003,N 1,N 1,R 7 0 [y4_12,R 3 0 [(N 35),N 1003,N 2003,N 1,N 1,[I 3,I 0,.sl (y4_18 v t)]]]]
abbrev y4_20 (v:VaT):List (List D):=[[I 2006,I 1006,I 2003,I v.rr,I v.mf,U v.mh,U v.c0,I v.mf,U v.mh,U v.d0,I v.mf,U v.mh,U v.c1,I v.mf,U v.mh,U v.d1,I v.q0,I v.q1,I v.k0,I v.k1,I v.t0,I v.t1,I 6,I 5,.sl y4_9,I 6,I 6,.sl y4_9,B false,I 2,I 1048580,.sl [],I 2,I 4,.sl [],I 1,I 0,I 6,U 0,.sl [[U 0]],I 0,I 0]]
abbrev y4_21:List (List D):=[N 35,N 1003,N 2003,N 1,N 1,R 7 0 [y4_12,R 3 0 [(N 35),N 1003,N 2003,N 1,N 1,R 3 0 [y4_13,y4_14,R 3 0 [(N 12),N 38],y4_17]]]]
abbrev y4_22:List V:=[A 0,A 0,A 0,A 0,Z,Z,A 0,A 0,A 0,A 0,Z,A 0,A 0,Z,A 0,Z,Z,Z,Z]
abbrev y4_23 (v:VaT):List (List V):=[[E v.R,A 0],y4_22,y4_22]
abbrev y4_24 (Ra:List (List D)):List V:=[A 0,A 1,A 1,A 2,E Ra,E [[I 31],[I 1024]],A 0,A 2,A 2,A 1,Z,A 2,A 2,Z,A 0,Z,Z,Z,Z]
abbrev y4_25 (v:VaT) (Ra:List (List D)):List V:=[.agg (y4_24 Ra),.agg [A 1,A 0,A 2,A 1,E v.Rb,E [[I 31]],A 0,A 2,A 2,A 1048577,Z,A 2,A 1048578,Z,A 0,Z,Z,Z,Z]]
abbrev y4_26 (v:VaT):List (List V):=[[E v.R,A v.gk],y4_22,y4_22]
abbrev y4_27 (Ra:List (List D)):List V:=[.agg (y4_24 Ra)]
abbrev y4_28 (v:VaT):List V:=[A v.f,C v.h,C v.a0,A v.f,C v.h,C v.b0,A v.f,C v.h,C v.a1,A v.f,C v.h,C v.b1,A v.p0,A v.p1,A v.l0,A v.l1,A v.s0,A v.s1]
abbrev y4_29 (v:VaT) (ri:Int):List V:=[A ri,.agg (y4_28 v),.d (B true)]
abbrev y4_30 (Ra:List (List D)):List V:=[A 0,A 1,A 1,A 2,E Ra,E [[I 31],[I 1024]],A 0,A 5,A 2,A 1,Z,A 2,A 2,Z,A 0,Z,.loc 7 0 1 81,.sl 42 [] .full,Z]
abbrev y4_31:List V:=[.agg [A 3,A 0,E y4_5]]
abbrev y4_32:List V:=[.agg [A 3,A 0,E y4_6]]
abbrev y4_33 (Ra:List (List D)):List V:=[A 0,A 1,A 1,A 2,E Ra,E [[I 31],[I 1024]],A 0,A 6,A 2,A 1,Z,A 2,A 2,Z,A 0,Z,.loc 4 0 1 81,.sl 42 [] .full,Z]
abbrev y4_34 (v:VaT) (Ra:List (List D)) (ri:Int):List V:=[.agg (y4_33 Ra),A 1006,A ri,.agg (y4_28 v)]
abbrev y4_35 (Ra:List (List D)):List V:=[A 0,A 1,A 1,A 2,E Ra,E [[I 31],[I 1024]],A 0,A 5,A 2,A 1,Z,A 2,A 2,Z,A 0,Z,.loc 4 0 1 81,.sl 42 [] .full,Z]
abbrev y4_36 (v:VaT) (Ra:List (List D)) (ri:Int):List (List V):=[(y4_33 Ra),y4_22,(y4_35 Ra),(y4_35 Ra),[A 1003,A 2003,.d (B true),A 1,A 1,A 2,A 6,A 2,E y4_2,A 6,A 3,E y4_2,A 6,A 4,E y4_2,A 2,A 4,Z,A 2,A 1048580,Z,A 3,A 0,E y4_5,A 3,A 0,E y4_6,A 1,A 0,A 1,A 0,A 3,A 0,E y4_5,A 2,A 1,A 2,A 2,A 4,Z,A 2,A 5,Z,A 0,A 0,A ri,A v.f,C v.h,C v.a0,A v.f,C v.h,C v.b0,A v.f,C v.h,C v.a1,A v.f,C v.h,C v.b1,A v.p0,A v.p1,A v.l0,A v.l1,A v.s0,A v.s1,A 0,A 0,Z,Z,A (-1),A 0,A 0,Z,A 0,A 0,A 0,A 0,A 0,.d (B false),A 0,.d (B false),A 0]]
abbrev y4_37:List D:=(R 3 0 [(N 10),N 1006])
abbrev y4_38 (v:VaT) (t:ByteArray):List D:=[I 3,I 0,.sl ([N 11,N v.f,N v.h,N v.a0,N v.f,N v.h,N v.b0,N v.f,N v.h,N v.a1,N v.f,N v.h,N v.b1,N v.p0,N v.p1,N v.l0,N v.l1,N v.s0,N v.s1]++(bR t))]
abbrev y4_39 (v:VaT) (t:ByteArray):List (List D):=[y4_37,(y4_38 v t)]
abbrev y4_40 (v:VaT) (t:ByteArray):List (List D):=[R 3 0 [(N 8),N 0],R 3 0 [(N 9),R 8 0 [(R 3 0 [[I 3,I 0,.sl y4_5],y4_0,N 0])]],y4_37,(y4_38 v t)]
abbrev y4_41 (v:VaT) (t:ByteArray):List V:=[.agg [A 3,A 0,E [N 35,N 1003,N 2003,N 2,N 1,R 7 0 [[I 6,I 3,.sl y4_2],R 3 0 [(N 35),N 1003,N 2003,N 2,N 1,[I 3,I 0,.sl (y4_40 v t)]]]]]]
abbrev y4_42 (v:VaT) (t:ByteArray):List V:=[E (y4_40 v t)]
abbrev y4_43 (v:VaT) (t:ByteArray):List V:=[A 1006,.agg (y4_28 v),.d (.lit (.string t)),.d (B true)]
abbrev y4_44 (v:VaT) (t:ByteArray):List V:=[E v.Rb,.agg (y4_28 v),.d (.lit (.string t))]
abbrev y4_45 (v:VaT):List V:=[A v.mf,C v.mh,C v.c0,A v.mf,C v.mh,C v.d0,A v.mf,C v.mh,C v.c1,A v.mf,C v.mh,C v.d1,A v.q0,A v.q1,A v.k0,A v.k1,A v.t0,A v.t1]
abbrev y4_46 (v:VaT) (t:ByteArray):List V:=[.agg [A 3,A 0,E (y4_19 v t)]]
abbrev y4_47 (v:VaT):List V:=[.agg [A v.mf,C v.mh,C v.c1,A v.mf,C v.mh,C v.d1,A v.mf,C v.mh,C v.c0,A v.mf,C v.mh,C v.d0,A v.q0,A v.q1,A v.t0,A v.t1,A v.k0,A v.k1],.agg (y4_28 v)]
abbrev y4_48:List V:=[.agg [A 3,A 0,E y4_21]]
abbrev twS4 (v:VaT) (Ra:List (List D)) (ri:Int) (t:ByteArray):V:=.tup [.agg [A 0,A 1,A 1,A 2,E Ra,E [[I 31],[I 1024]],A 0,A 6,A 2,A 1,Z,A 2,A 2,Z,A 0,Z,E y4_7,E [[I 1006,I 2006,I 1003,I ri,I v.mf,U v.mh,U v.c1,I v.mf,U v.mh,U v.d1,I v.mf,U v.mh,U v.c0,I v.mf,U v.mh,U v.d0,I v.q0,I v.q1,I v.t0,I v.t1,I v.k0,I v.k1,I 6,I 6,.sl y4_9,I 6,I 5,.sl y4_9,B true,I 2,I 4,.sl [],I 2,I 1048580,.sl [],I 1,I 0,I 6,U 0,.sl [[U 0]],I 0,I 0]],E y4_11],.agg [A 1,A 0,A 2,A 1,E v.Rb,E [[I 31]],A 0,A 6,A 2,A 1048577,Z,A 2,A 1048578,Z,A 0,Z,E [[I 2003,I 1003,B false,I 3,I 2,I 1,I 6,I 2,.sl y4_2,I 6,I 4,.sl y4_2,I 6,I 3,.sl y4_2,I 2,I 1048580,.sl [],I 2,I 4,.sl [],I 3,I 0,.sl y4_5,I 3,I 0,.sl y4_6,I 0,I 2,I 0,I 0,I 0,I 0,.sl [],I 0,I 0,I 0,I 0,I 0,.sl [],I 0,I 0,.sl [],I 0,I 0,I 0,I 0,U 0,U 0,I 0,U 0,U 0,I 0,U 0,U 0,I 0,U 0,U 0,I 0,I 0,I 0,I 0,I 0,I 0,I 0,I 0,.sl [],.sl [],I 1,I 3,I 0,.sl (y4_19 v t),I 0,I 0,I 0,I 0,I 0,B false,I 0,B false,I 0]],E (y4_20 v),Z],.d (B true)]
abbrev twZ4 (v:VaT) (Ra:List (List D)) (ri:Int) (t:ByteArray):V:=.tup [.agg [A 0,A 1,A 1,A 2,E Ra,E [[I 31],[I 1024]],A 0,A 6,A 2,A 1,Z,A 2,A 2,Z,A 0,Z,E y4_7,.sl 42 [] .full,E y4_11],.agg [A 1,A 0,A 2,A 1,E v.Rb,E [[I 31]],A 0,A 5,A 2,A 1048577,Z,A 2,A 1048578,Z,A 0,Z,E [[I 2003,I 1003,B false,I 3,I 2,I 1,I 6,I 2,.sl y4_2,I 6,I 4,.sl y4_2,I 6,I 3,.sl y4_2,I 2,I 1048580,.sl [],I 2,I 4,.sl [],I 3,I 0,.sl y4_5,I 3,I 0,.sl y4_6,I 0,I 2,I 0,I 0,I 0,I 0,.sl [],I 0,I 0,I 0,I 0,I 0,.sl [],I 0,I 0,.sl [],I 0,I 0,I 0,I 0,U 0,U 0,I 0,U 0,U 0,I 0,U 0,U 0,I 0,U 0,U 0,I 0,I 0,I 0,I 0,I 0,I 0,I 0,I 0,.sl [],.sl [],I 1,I 3,I 0,.sl y4_21,I 0,I 0,I 0,I 0,I 0,B false,I 0,B false,I 0]],.sl 42 [] .full,Z],.d (B false)]
noncomputable abbrev obS4 (v:VaT) (Ra:List (List D)) (ri:Int) (b:Bool):List (Bool×Bool):=((!(ansB VP 185 (y4_47 v))),false)::rpE 2 b (Q (CV VP 185 (y4_47 v) []=some ⟨.d (B (ansB VP 185 (y4_47 v))),[],[],0⟩)::rpE 5 b (Q (CV VP 175 [E (y4_18 v (tB b))] []=some ⟨.tup [A 2006,.agg (y4_45 v),.d (.lit (.string (tB b))),.d (B true)],[],[],0⟩)::Q (CV VP 192 (y4_46 v (tB b)) []=some ⟨.d (B true),[],[],0⟩)::Q (CV VP 192 (y4_46 v (tB b)) []=some ⟨.d (B true),[],[],0⟩)::Q (CV VP 71 [.agg [A 1,A 0,A 2,A 1,E v.Rb,E [[I 31]],A 0,A 6,A 2,A 1048577,Z,A 2,A 1048578,Z,A 0,Z,E [[I 2003,I 1003,B false,I 3,I 2,I 1,I 6,I 2,.sl y4_2,I 6,I 4,.sl y4_2,I 6,I 3,.sl y4_2,I 2,I 1048580,.sl [],I 2,I 4,.sl [],I 3,I 0,.sl y4_5,I 3,I 0,.sl y4_6,I 0,I 2,I 0,I 0,I 0,I 0,.sl [],I 0,I 0,I 0,I 0,I 0,.sl [],I 0,I 0,.sl [],I 0,I 0,I 0,I 0,U 0,U 0,I 0,U 0,U 0,I 0,U 0,U 0,I 0,U 0,U 0,I 0,I 0,I 0,I 0,I 0,I 0,I 0,I 0,.sl [],.sl [],I 1,I 0,I 0,.sl [],I 0,I 0,I 0,I 0,I 0,B false,I 0,B false,I 0]],E (y4_20 v),Z],A 2006,A v.rr,.agg (y4_45 v)] []=some ⟨E [y4_15,(y4_16 v (tB b))],[],[],0⟩)::Q (CV VP 176 (y4_44 v (tB b)) []=some ⟨.tup [A v.rr,.agg (y4_45 v),.d (B true)],[],[],0⟩)::Q (CV VP 175 (y4_42 v (tB b)) []=some ⟨.tup (y4_43 v (tB b)),[],[],0⟩)::Q (CV VP 192 (y4_41 v (tB b)) []=some ⟨.d (B true),[],[],0⟩)::Q (CV VP 192 (y4_41 v (tB b)) []=some ⟨.d (B true),[],[],0⟩)::Q (CV VP 71 (y4_34 v Ra ri) (y4_36 v Ra ri)=some ⟨E (y4_39 v (tB b)),(y4_36 v Ra ri),[],0⟩)::Q ((y4_33 Ra)=(y4_33 Ra))::V6 y4_32::V6 y4_32::V6 y4_31::V6 y4_31::Q ((y4_30 Ra)=(y4_30 Ra))::Q ((y4_30 Ra)=(y4_30 Ra))::Q (CV VP 255 (y4_27 Ra) []=some ⟨.tup (y4_29 v ri),[],[],0⟩)::Q (CV VP 37 [.ptr 0 0] (y4_23 v)=some ⟨.tup (y4_25 v Ra),(y4_26 v),[],0⟩)::[]))
theorem obS4_ok {v:VaT} {Ra:List (List D)} {ri:Int} {b:Bool} (H:HTs v Ra ri (.sl [[I 31],[I 1024]]) (.sl [[I 31]]) (tB b)):OKs (obS4 v Ra ri b):=
 .cons ((congrArg Bool.not H.hv))<|rpE_ok b (.cons (prB_of (h185 _ _ H.msok H.b.xok))<|rpE_ok b (.cons (prB_of (h175_5 b v.m H.mok H.mfine (by decide)))<|.cons (e6 (by cases b<;>kernel_rfl))<|.cons (e6 (by cases b<;>kernel_rfl))<|.cons (prB_of (H.hrow.elim fun i h=>h.elim fun a h=>h.elim fun d h=>h71d i h.1 h.2 (h77t b v.m H.mok H.mfine)))<|.cons (prB_of H.h176)<|.cons (prB_of (h175_4 b v.x H.b.xok H.b.xfine (by decide)))<|.cons (e6 (by cases b<;>kernel_rfl))<|.cons (e6 (by cases b<;>kernel_rfl))<|.cons (prB_of (H.b.hra.elim fun i h=>h.elim fun a h=>h.elim fun d h=>h71l _ (by kernel_rfl) i h.1 h.2 (h77t b v.x H.b.xok H.b.xfine)))<|.cons (prB_of rfl)<|.cons (e6 (by kernel_rfl))<|.cons (e6 (by kernel_rfl))<|.cons (e6 (by kernel_rfl))<|.cons (e6 (by kernel_rfl))<|.cons (prB_of rfl)<|.cons (prB_of rfl)<|.cons (prB_of (H.b.hpr _ _ _ _ _ _ _ _ _ _ _ _ _ _ _ _ _ _))<|.cons (prB_of (H.b.h37 _ (by kernel_rfl) (by kernel_rfl)))<|.nil) 5) 2
theorem two4_s0 {v:VaT} {bs Rt:List (List D)} {b:Bool} (H:HTs v (RA0 (tB b) bs Rt) 0 (.sl [[I 31],[I 1024]]) (.sl [[I 31]]) (tB b)):CV VP 10 [.ptr 0 0] [[E v.R,A 0]]=some ⟨twS4 v (RA0 (tB b) bs Rt) 0 (tB b),[[E v.R,A v.gk]],[],0⟩:=
 CV_R (AT_ok v.R v.gk (RA0 (tB b) bs Rt) (.sl [[I 31],[I 1024]]) (.sl [[I 31]]) v.Rb (tB b) (prT v 0) (nrT v)) 400 [(4961,false),(0,false),(0,false),(0,false),(0,false),(0,false),(0,false),(0,false)] [] rfl rfl (ob:=obS4 v (RA0 (tB b) bs Rt) 0 b) (by kernel_rfl) (obS4_ok H)
theorem two4_s1 {v:VaT} {bs Rt:List (List D)} {ro:List D} {b:Bool} (H:HTs v (RA1 (tB b) ro bs Rt) 1 (.sl [[I 31],[I 1024]]) (.sl [[I 31]]) (tB b)):CV VP 10 [.ptr 0 0] [[E v.R,A 0]]=some ⟨twS4 v (RA1 (tB b) ro bs Rt) 1 (tB b),[[E v.R,A v.gk]],[],0⟩:=
 CV_R (AT_ok v.R v.gk (RA1 (tB b) ro bs Rt) (.sl [[I 31],[I 1024]]) (.sl [[I 31]]) v.Rb (tB b) (prT v 1) (nrT v)) 400 [(4961,false),(0,false),(0,false),(0,false),(0,false),(0,false),(0,false),(0,false)] [] rfl rfl (ob:=obS4 v (RA1 (tB b) ro bs Rt) 1 b) (by kernel_rfl) (obS4_ok H)
theorem two4_s2 {v:VaT} {bs Rt:List (List D)} {rp ro:List D} {b:Bool} (H:HTs v (RA2 (tB b) rp ro bs Rt) 2 (.sl [[I 31],[I 1024]]) (.sl [[I 31]]) (tB b)):CV VP 10 [.ptr 0 0] [[E v.R,A 0]]=some ⟨twS4 v (RA2 (tB b) rp ro bs Rt) 2 (tB b),[[E v.R,A v.gk]],[],0⟩:=
 CV_R (AT_ok v.R v.gk (RA2 (tB b) rp ro bs Rt) (.sl [[I 31],[I 1024]]) (.sl [[I 31]]) v.Rb (tB b) (prT v 2) (nrT v)) 400 [(4961,false),(0,false),(0,false),(0,false),(0,false),(0,false),(0,false),(0,false)] [] rfl rfl (ob:=obS4 v (RA2 (tB b) rp ro bs Rt) 2 b) (by kernel_rfl) (obS4_ok H)
noncomputable abbrev obZ4 (v:VaT) (Ra:List (List D)) (ri:Int) (b:Bool):List (Bool×Bool):=V6 y4_48::V6 y4_48::Q (CV VP 176 (y4_44 v (tB b)) []=some ⟨.tup [A 0,.agg [A 0,C 0,C 0,A 0,C 0,C 0,A 0,C 0,C 0,A 0,C 0,C 0,A 0,A 0,A 0,A 0,A 0,A 0],.d (B false)],[],[],0⟩)::Q (CV VP 175 (y4_42 v (tB b)) []=some ⟨.tup (y4_43 v (tB b)),[],[],0⟩)::Q (CV VP 192 (y4_41 v (tB b)) []=some ⟨.d (B true),[],[],0⟩)::Q (CV VP 192 (y4_41 v (tB b)) []=some ⟨.d (B true),[],[],0⟩)::Q (CV VP 71 (y4_34 v Ra ri) (y4_36 v Ra ri)=some ⟨E (y4_39 v (tB b)),(y4_36 v Ra ri),[],0⟩)::Q ((y4_33 Ra)=(y4_33 Ra))::V6 y4_32::V6 y4_32::V6 y4_31::V6 y4_31::Q ((y4_30 Ra)=(y4_30 Ra))::Q ((y4_30 Ra)=(y4_30 Ra))::Q (CV VP 255 (y4_27 Ra) []=some ⟨.tup (y4_29 v ri),[],[],0⟩)::Q (CV VP 37 [.ptr 0 0] (y4_23 v)=some ⟨.tup (y4_25 v Ra),(y4_26 v),[],0⟩)::[]
theorem obZ4_ok {v:VaT} {Ra:List (List D)} {ri:Int} {b:Bool} (H:HTz v Ra ri (.sl [[I 31],[I 1024]]) (.sl [[I 31]]) (tB b)):OKs (obZ4 v Ra ri b):=
 .cons (e6 (by kernel_rfl))<|.cons (e6 (by kernel_rfl))<|.cons (prB_of H.h176)<|.cons (prB_of (h175_4 b v.x H.b.xok H.b.xfine (by decide)))<|.cons (e6 (by cases b<;>kernel_rfl))<|.cons (e6 (by cases b<;>kernel_rfl))<|.cons (prB_of (H.b.hra.elim fun i h=>h.elim fun a h=>h.elim fun d h=>h71l _ (by kernel_rfl) i h.1 h.2 (h77t b v.x H.b.xok H.b.xfine)))<|.cons (prB_of rfl)<|.cons (e6 (by kernel_rfl))<|.cons (e6 (by kernel_rfl))<|.cons (e6 (by kernel_rfl))<|.cons (e6 (by kernel_rfl))<|.cons (prB_of rfl)<|.cons (prB_of rfl)<|.cons (prB_of (H.b.hpr _ _ _ _ _ _ _ _ _ _ _ _ _ _ _ _ _ _))<|.cons (prB_of (H.b.h37 _ (by kernel_rfl) (by kernel_rfl)))<|.nil
theorem two4_zv {v:VaT} {Ra:List (List D)} {ri:Int} {b:Bool} (H:HTz v Ra ri (.sl [[I 31],[I 1024]]) (.sl [[I 31]]) (tB b)):CV VP 10 [.ptr 0 0] [[E v.R,A 0]]=some ⟨twZ4 v Ra ri (tB b),[[E v.R,A v.gk]],[],0⟩:=
 CV_R (AT_ok v.R v.gk Ra (.sl [[I 31],[I 1024]]) (.sl [[I 31]]) v.Rb (tB b) (prT v ri) nzT) 400 [] [] rfl rfl (ob:=obZ4 v Ra ri b) (by kernel_rfl) (obZ4_ok H)
abbrev y5_0:List (List D):=[N 34,N 1003,N 0,N 2,N 0,R 3 0 [(R 3 0 [(N 1),N 1024]),R 3 0 [(N 2),N 1024,R 4 0 [(M 2 5)]],R 3 0 [(N 3),M 2 4],R 3 0 [(N 7),R 6 8 [(N 1003),N 1],R 6 8 [(N 1003),N 2]]]]
abbrev y5_1 (v:VaT):List V:=[A 1,A 0,A 2,A 1,E v.Rb,E [[I 31]],A 0,A 2,A 2,A 1048577,Z,A 2,A 1048578,Z,A 0,Z,Z,Z,Z]
abbrev y5_2:List V:=[A 0,A 0,A 0,A 0,Z,Z,A 0,A 0,A 0,A 0,Z,A 0,A 0,Z,A 0,Z,Z,Z,Z]
abbrev y5_3 (Ra:List (List D)):List V:=[A 0,A 1,A 1,A 2,E Ra,E [[I 1024]],A 0,A 2,A 2,A 1,Z,A 2,A 2,Z,A 0,Z,Z,Z,Z]
abbrev y5_4 (Ra:List (List D)):List V:=[A 0,A 1,A 1,A 2,E Ra,E [[I 1024]],A 0,A 5,A 2,A 1,Z,A 2,A 2,Z,A 0,Z,.loc 7 0 1 81,.sl 42 [] .full,Z]
abbrev y5_5:List V:=[.agg [A 3,A 0,E y5_0]]
abbrev y5_6:List V:=[.agg [A 3,A 0,E [N 34,N 1003,N 0,N 1,N 0,R 3 0 [(R 3 0 [(N 12),N 14])]]]]
abbrev twZ5 (v:VaT) (Ra:List (List D)) (ri:Int) (t:ByteArray):V:=.tup [.agg [A 0,A 1,A 1,A 2,E Ra,E [[I 1024]],A 0,A 5,A 2,A 1,Z,A 2,A 2,Z,A 0,Z,E [[I 1003,I 0,B true,I 1,I 1,I 2,I 0,I 0,.sl [],I 0,I 0,.sl [],I 0,I 0,.sl [],I 2,I 4,.sl [],I 0,I 0,.sl [],I 3,I 0,.sl y5_0,I 0,I 0,.sl [],I 1,I 0,I 1,I 0,I 3,I 0,.sl y5_0,I 2,I 1,I 2,I 2,I 4,.sl [],I 2,I 5,.sl [],I 0,I 0,I ri,I v.f,U v.h,U v.a0,I v.f,U v.h,U v.b0,I v.f,U v.h,U v.a1,I v.f,U v.h,U v.b1,I v.p0,I v.p1,I v.l0,I v.l1,I v.s0,I v.s1,I 0,I 0,.sl [],.sl [],I (-1),I 0,I 0,.sl [],I 0,I 0,I 0,I 0,I 0,B false,I 0,B false,I 0]],.sl 42 [] .full,Z],.agg (y5_1 v),.d (B false)]
noncomputable abbrev obZ5 (v:VaT) (Ra:List (List D)) (ri:Int) (b:Bool):List (Bool×Bool):=V6 y5_6::V6 y5_6::V6 y5_5::V6 y5_5::Q ((y5_4 Ra)=(y5_4 Ra))::Q ((y5_4 Ra)=(y5_4 Ra))::Q (CV VP 255 [.agg (y5_3 Ra)] []=some ⟨.tup [A ri,.agg [A v.f,C v.h,C v.a0,A v.f,C v.h,C v.b0,A v.f,C v.h,C v.a1,A v.f,C v.h,C v.b1,A v.p0,A v.p1,A v.l0,A v.l1,A v.s0,A v.s1],.d (B true)],[],[],0⟩)::Q (CV VP 37 [.ptr 0 0] [[E v.R,A 0],y5_2,y5_2]=some ⟨.tup [.agg (y5_3 Ra),.agg (y5_1 v)],[[E v.R,A v.gk],y5_2,y5_2],[],0⟩)::[]
theorem obZ5_ok {v:VaT} {Ra:List (List D)} {ri:Int} {b:Bool} (H:HT0 v Ra ri (.sl [[I 1024]]) (.sl [[I 31]]) (tB b)):OKs (obZ5 v Ra ri b):=
 .cons (e6 (by kernel_rfl))<|.cons (e6 (by kernel_rfl))<|.cons (e6 (by kernel_rfl))<|.cons (e6 (by kernel_rfl))<|.cons (prB_of rfl)<|.cons (prB_of rfl)<|.cons (prB_of (H.hpr _ _ _ _ _ _ _ _ _ _ _ _ _ _ _ _ _ _))<|.cons (prB_of (H.h37 _ (by kernel_rfl) (by kernel_rfl)))<|.nil
theorem two5_zv {v:VaT} {Ra:List (List D)} {ri:Int} {b:Bool} (H:HT0 v Ra ri (.sl [[I 1024]]) (.sl [[I 31]]) (tB b)):CV VP 10 [.ptr 0 0] [[E v.R,A 0]]=some ⟨twZ5 v Ra ri (tB b),[[E v.R,A v.gk]],[],0⟩:=
 CV_R (AT_ok v.R v.gk Ra (.sl [[I 1024]]) (.sl [[I 31]]) v.Rb (tB b) (prT v ri) nzT) 400 [] [] rfl rfl (ob:=obZ5 v Ra ri b) (by kernel_rfl) (obZ5_ok H)
end Go.Proofs.YtlcbgdnfkmbhkaaGreat
