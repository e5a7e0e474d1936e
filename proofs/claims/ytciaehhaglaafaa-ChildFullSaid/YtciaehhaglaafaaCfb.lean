/- Children on the machine: the literals of the functions. Conditions: none. -/
import Derived.Test.YtciaehhaglaafaaVd
import Derived.Test.YtciaehhaglaafaaProg
import Derived.ProofKit
import Derived.Test.YtciaehhaglaafaaCfa
set_option linter.unusedSimpArgs false
set_option maxRecDepth 8000
namespace Go.Proofs.Ytciaehhaglaafaa
open Go.VM
def vf217 : VFunc := ⟨7, .seq (.reg [⟨some 1, .boxv 3 (.t 0), none⟩, ⟨some 2, .mov (.c (.d (.lit (.int .i64 0)))), none⟩]) (.seq (.reg [⟨some 3, .fieldA (.t 1) 2, none⟩, ⟨some 4, .load (.t 3) 1 false, none⟩, ⟨some 5, .convI .i64 (.t 4), none⟩, ⟨some 6, .bin .sub (.t 5) (.c (.d (.lit (.int .i64 1)))), none⟩, ⟨some 2, .mov (.t 6), none⟩]) .ret), [.tmp 2], false⟩
theorem vf217_ok : compS Try.prog [] 217 false = some vf217 := by kernel_rfl
theorem vf217_start (bl : List (List V)) (x0 : V) : vf217.start [x0] bl = ⟨[x0, .any, .any, .any, .any, .any, .any], bl, [], 0, bl.length, 0⟩ := rfl
theorem vf217_res : vf217.res = [.tmp 2] := rfl
theorem vf217_keep : vf217.keep = false := rfl
def vf218 : VFunc := ⟨20, .seq (.reg [⟨some 1, .boxv 7 (.t 0), none⟩, ⟨some 2, .box [.d (.lit (.int .i64 0)), .d (.lit (.int .i64 0)), .d (.lit (.int .i64 0)), .d (.lit (.int .i64 0)), .d (.lit (.int .i64 0))], none⟩]) (.seq (.reg [⟨some 3, .mov (.c (.d (.lit (.int .i64 0)))), none⟩]) (.seq (.seq (.reg [⟨some 4, .fieldA (.t 1) 3, none⟩, ⟨some 5, .load (.t 4) 1 false, none⟩]) (.cond (.t 5) (.reg [⟨some 3, .mov (.c (.d (.lit (.int .i64 1)))), none⟩]) .skip)) (.seq (.seq (.reg [⟨some 6, .fieldA (.t 1) 4, none⟩, ⟨some 7, .load (.t 6) 1 false, none⟩]) (.cond (.t 7) (.reg [⟨some 8, .mov (.t 3), none⟩, ⟨some 9, .bin .add (.t 8) (.c (.d (.lit (.int .i64 2)))), none⟩, ⟨some 3, .mov (.t 9), none⟩]) .skip)) (.seq (.reg [⟨some 10, .fieldA (.t 1) 0, none⟩, ⟨some 11, .load (.t 10) 1 false, none⟩, ⟨some 12, .fieldA (.t 1) 1, none⟩, ⟨some 13, .load (.t 12) 1 false, none⟩, ⟨some 14, .fieldA (.t 1) 2, none⟩, ⟨some 15, .load (.t 14) 1 false, none⟩, ⟨some 16, .mov (.t 3), none⟩, ⟨some 17, .fieldA (.t 1) 5, none⟩, ⟨some 18, .load (.t 17) 1 false, none⟩, ⟨some 19, .build [.d (.lit (.int .i64 0)), .d (.lit (.int .i64 0)), .d (.lit (.int .i64 0)), .d (.lit (.int .i64 0)), .d (.lit (.int .i64 0))] [(0, (1, .t 11)), (1, (1, .t 13)), (2, (1, .t 15)), (3, (1, .t 16)), (4, (1, .t 18))], none⟩, ⟨none, .store (.t 2) (.t 19) 5, none⟩]) .ret)))), [.cell 2 5 true], false⟩
theorem vf218_ok : compS Try.prog [] 218 false = some vf218 := by kernel_rfl
theorem vf218_start (bl : List (List V)) (x0 : V) : vf218.start [x0] bl = ⟨[x0, .any, .any, .any, .any, .any, .any, .any, .any, .any, .any, .any, .any, .any, .any, .any, .any, .any, .any, .any], bl, [], 0, bl.length, 0⟩ := rfl
theorem vf218_res : vf218.res = [.cell 2 5 true] := rfl
theorem vf218_keep : vf218.keep = false := rfl
def vf232 : VFunc := ⟨7, .seq (.reg [⟨some 2, .box [.d (.lit (.int .i64 0)), .d (.lit (.int .u64 0)), .d (.lit (.int .u64 0))], none⟩]) (.seq (.reg [⟨some 3, .mov (.t 0), none⟩, ⟨some 4, .bin .add (.t 3) (.c (.d (.lit (.int .i64 1)))), none⟩, ⟨some 5, .convI .u64 (.t 4), none⟩, ⟨some 6, .build [.d (.lit (.int .i64 0)), .d (.lit (.int .u64 0)), .d (.lit (.int .u64 0))] [(2, (1, .t 5))], none⟩, ⟨none, .store (.t 2) (.t 6) 3, none⟩]) .ret), [.cell 2 3 true], false⟩
theorem vf232_ok : compS Try.prog [] 232 false = some vf232 := by kernel_rfl
theorem vf232_start (bl : List (List V)) (x0 : V) : vf232.start [x0] bl = ⟨[x0, .any, .any, .any, .any, .any, .any], bl, [], 0, bl.length, 0⟩ := rfl
theorem vf232_res : vf232.res = [.cell 2 3 true] := rfl
theorem vf232_keep : vf232.keep = false := rfl
def vf233 : VFunc := ⟨22, .seq (.reg [⟨some 2, .boxv 3 (.t 0), none⟩, ⟨some 3, .boxv 3 (.t 1), none⟩, ⟨some 4, .mov (.c (.d (.lit (.int .i64 0)))), none⟩]) (.seq (.draw [⟨some 5, .fieldA (.t 2) 0, none⟩, ⟨some 6, .load (.t 5) 1 false, none⟩, ⟨some 7, .fieldA (.t 3) 0, none⟩, ⟨some 8, .load (.t 7) 1 false, none⟩, ⟨some 9, .call 241 [.t 6, .t 8], none⟩, ⟨some 10, .fieldA (.t 2) 1, none⟩, ⟨some 11, .load (.t 10) 1 false, none⟩, ⟨some 12, .fieldA (.t 3) 1, none⟩, ⟨some 13, .load (.t 12) 1 false, none⟩, ⟨some 14, .call 242 [.t 11, .t 13], none⟩, ⟨some 15, .fieldA (.t 2) 2, none⟩, ⟨some 16, .load (.t 15) 1 false, none⟩, ⟨some 17, .fieldA (.t 3) 2, none⟩, ⟨some 18, .load (.t 17) 1 false, none⟩, ⟨some 19, .call 242 [.t 16, .t 18], none⟩, ⟨some 20, .buildSl 3 1 [.d (.lit (.int .i64 0))] [(0, .t 9), (1, .t 14), (2, .t 19)] false, none⟩, ⟨some 21, .call 240 [.t 20], none⟩, ⟨some 4, .mov (.t 21), none⟩] [(6, 4), (8, 4), (11, 4), (11, 9), (13, 4), (13, 9)]) .ret), [.tmp 4], false⟩
theorem vf233_ok : compS Try.prog [] 233 false = some vf233 := by kernel_rfl
theorem vf233_start (bl : List (List V)) (x0 : V) (x1 : V) : vf233.start [x0, x1] bl = ⟨[x0, x1, .any, .any, .any, .any, .any, .any, .any, .any, .any, .any, .any, .any, .any, .any, .any, .any, .any, .any, .any, .any], bl, [], 0, bl.length, 0⟩ := rfl
theorem vf233_res : vf233.res = [.tmp 4] := rfl
theorem vf233_keep : vf233.keep = false := rfl
def vf240K0 : List Bool := [false, false, false, true, false, false, true, true, true, false, false, false, false, false, false, false, false, false]
def vf240L0 : VCode := .seq (.reg [⟨some 9, .bin .lss (.t 8) (.t 7), none⟩]) (.seq (.cond (.t 9) .skip (.exit 0)) (.seq (.block 1 (.seq (.reg [⟨some 10, .idxA 1 (.t 6) (.t 8), none⟩, ⟨some 11, .load (.t 10) 1 false, none⟩, ⟨some 5, .mov (.t 11), none⟩]) (.seq (.reg [⟨some 12, .mov (.t 5), none⟩, ⟨some 13, .mov (.t 3), none⟩, ⟨some 14, .bin .neq (.t 12) (.t 13), none⟩]) (.cond (.t 14) (.seq (.reg [⟨some 15, .mov (.t 5), none⟩, ⟨some 2, .mov (.t 15), none⟩]) .ret) .skip)))) (.reg [⟨some 16, .bin .add (.t 8) (.c (.d (.lit (.int .i64 1)))), none⟩, ⟨some 8, .mov (.t 16), none⟩])))
theorem vf240L0_go {VP : VProg} {st : St} {Q : VExit → St → Prop} (h : RX VP (.seq (.reg [⟨some 9, .bin .lss (.t 8) (.t 7), none⟩]) (.seq (.cond (.t 9) .skip (.exit 0)) (.seq (.block 1 (.seq (.reg [⟨some 10, .idxA 1 (.t 6) (.t 8), none⟩, ⟨some 11, .load (.t 10) 1 false, none⟩, ⟨some 5, .mov (.t 11), none⟩]) (.seq (.reg [⟨some 12, .mov (.t 5), none⟩, ⟨some 13, .mov (.t 3), none⟩, ⟨some 14, .bin .neq (.t 12) (.t 13), none⟩]) (.cond (.t 14) (.seq (.reg [⟨some 15, .mov (.t 5), none⟩, ⟨some 2, .mov (.t 15), none⟩]) .ret) .skip)))) (.reg [⟨some 16, .bin .add (.t 8) (.c (.d (.lit (.int .i64 1)))), none⟩, ⟨some 8, .mov (.t 16), none⟩])))) st Q) : RX VP vf240L0 st Q := h
def vf240 : VFunc := ⟨18, .seq (.reg [⟨some 2, .mov (.c (.d (.lit (.int .i64 0)))), none⟩]) (.seq (.reg [⟨some 3, .mov (.c (.d (.lit (.int .i64 0)))), none⟩]) (.seq (.seq (.reg [⟨some 6, .mov (.t 0), none⟩, ⟨some 7, .len (.t 6), none⟩, ⟨some 8, .mov (.c (.d (.lit (.int .i64 0)))), none⟩]) (.block 0 (.loop vf240K0 vf240L0))) (.seq (.reg [⟨some 17, .mov (.t 3), none⟩, ⟨some 2, .mov (.t 17), none⟩]) .ret))), [.tmp 2], false⟩
theorem vf240_ok : compS Try.prog [] 240 false = some vf240 := by kernel_rfl
theorem vf240_start (bl : List (List V)) (x0 : V) : vf240.start [x0] bl = ⟨[x0, .any, .any, .any, .any, .any, .any, .any, .any, .any, .any, .any, .any, .any, .any, .any, .any, .any], bl, [], 0, bl.length, 0⟩ := rfl
theorem vf240_res : vf240.res = [.tmp 2] := rfl
theorem vf240_keep : vf240.keep = false := rfl
def vf241 : VFunc := ⟨20, .seq (.reg [⟨some 4, .mov (.c (.d (.lit (.int .i64 0)))), none⟩]) (.seq (.reg [⟨some 7, .mov (.t 0), none⟩, ⟨some 8, .call 245 [.t 7], none⟩, ⟨some 5, .mov (.t 8), none⟩]) (.seq (.reg [⟨some 9, .mov (.t 1), none⟩, ⟨some 10, .call 245 [.t 9], none⟩, ⟨some 6, .mov (.t 10), none⟩]) (.seq (.seq (.reg [⟨some 11, .mov (.t 5), none⟩]) (.cond (.t 11) (.seq (.seq (.reg [⟨some 12, .mov (.t 6), none⟩]) (.cond (.t 12) (.seq (.reg [⟨some 4, .mov (.c (.d (.lit (.int .i64 0)))), none⟩]) .ret) .skip)) (.seq (.reg [⟨some 4, .mov (.c (.d (.lit (.int .i64 (-1))))), none⟩]) .ret)) .skip)) (.seq (.seq (.reg [⟨some 13, .mov (.t 6), none⟩]) (.cond (.t 13) (.seq (.reg [⟨some 4, .mov (.c (.d (.lit (.int .i64 1)))), none⟩]) .ret) .skip)) (.seq (.seq (.reg [⟨some 14, .mov (.t 0), none⟩, ⟨some 15, .mov (.t 1), none⟩, ⟨some 16, .bin .lss (.t 14) (.t 15), none⟩]) (.cond (.t 16) (.seq (.reg [⟨some 4, .mov (.c (.d (.lit (.int .i64 (-1))))), none⟩]) .ret) .skip)) (.seq (.seq (.reg [⟨some 17, .mov (.t 0), none⟩, ⟨some 18, .mov (.t 1), none⟩, ⟨some 19, .bin .gtr (.t 17) (.t 18), none⟩]) (.cond (.t 19) (.seq (.reg [⟨some 4, .mov (.c (.d (.lit (.int .i64 1)))), none⟩]) .ret) .skip)) (.seq (.reg [⟨some 4, .mov (.c (.d (.lit (.int .i64 0)))), none⟩]) .ret))))))), [.tmp 4], false⟩
theorem vf241_ok : compS Try.prog [] 241 false = some vf241 := by kernel_rfl
theorem vf241_start (bl : List (List V)) (x0 : V) (x1 : V) : vf241.start [x0, x1] bl = ⟨[x0, x1, .any, .any, .any, .any, .any, .any, .any, .any, .any, .any, .any, .any, .any, .any, .any, .any, .any, .any], bl, [], 0, bl.length, 0⟩ := rfl
theorem vf241_res : vf241.res = [.tmp 4] := rfl
theorem vf241_keep : vf241.keep = false := rfl
def vf242 : VFunc := ⟨20, .seq (.reg [⟨some 4, .mov (.c (.d (.lit (.int .i64 0)))), none⟩]) (.seq (.reg [⟨some 7, .mov (.t 0), none⟩, ⟨some 8, .call 246 [.t 7], none⟩, ⟨some 5, .mov (.t 8), none⟩]) (.seq (.reg [⟨some 9, .mov (.t 1), none⟩, ⟨some 10, .call 246 [.t 9], none⟩, ⟨some 6, .mov (.t 10), none⟩]) (.seq (.seq (.reg [⟨some 11, .mov (.t 5), none⟩]) (.cond (.t 11) (.seq (.seq (.reg [⟨some 12, .mov (.t 6), none⟩]) (.cond (.t 12) (.seq (.reg [⟨some 4, .mov (.c (.d (.lit (.int .i64 0)))), none⟩]) .ret) .skip)) (.seq (.reg [⟨some 4, .mov (.c (.d (.lit (.int .i64 (-1))))), none⟩]) .ret)) .skip)) (.seq (.seq (.reg [⟨some 13, .mov (.t 6), none⟩]) (.cond (.t 13) (.seq (.reg [⟨some 4, .mov (.c (.d (.lit (.int .i64 1)))), none⟩]) .ret) .skip)) (.seq (.seq (.reg [⟨some 14, .mov (.t 0), none⟩, ⟨some 15, .mov (.t 1), none⟩, ⟨some 16, .bin .lss (.t 14) (.t 15), none⟩]) (.cond (.t 16) (.seq (.reg [⟨some 4, .mov (.c (.d (.lit (.int .i64 (-1))))), none⟩]) .ret) .skip)) (.seq (.seq (.reg [⟨some 17, .mov (.t 0), none⟩, ⟨some 18, .mov (.t 1), none⟩, ⟨some 19, .bin .gtr (.t 17) (.t 18), none⟩]) (.cond (.t 19) (.seq (.reg [⟨some 4, .mov (.c (.d (.lit (.int .i64 1)))), none⟩]) .ret) .skip)) (.seq (.reg [⟨some 4, .mov (.c (.d (.lit (.int .i64 0)))), none⟩]) .ret))))))), [.tmp 4], false⟩
theorem vf242_ok : compS Try.prog [] 242 false = some vf242 := by kernel_rfl
theorem vf242_start (bl : List (List V)) (x0 : V) (x1 : V) : vf242.start [x0, x1] bl = ⟨[x0, x1, .any, .any, .any, .any, .any, .any, .any, .any, .any, .any, .any, .any, .any, .any, .any, .any, .any, .any], bl, [], 0, bl.length, 0⟩ := rfl
theorem vf242_res : vf242.res = [.tmp 4] := rfl
theorem vf242_keep : vf242.keep = false := rfl
def vf245 : VFunc := ⟨6, .seq (.reg [⟨some 2, .mov (.c (.d (.lit (.bool false)))), none⟩]) (.seq (.reg [⟨some 3, .mov (.t 0), none⟩, ⟨some 4, .mov (.t 0), none⟩, ⟨some 5, .bin .neq (.t 3) (.t 4), none⟩, ⟨some 2, .mov (.t 5), none⟩]) .ret), [.tmp 2], false⟩
theorem vf245_ok : compS Try.prog [] 245 false = some vf245 := by kernel_rfl
theorem vf245_start (bl : List (List V)) (x0 : V) : vf245.start [x0] bl = ⟨[x0, .any, .any, .any, .any, .any], bl, [], 0, bl.length, 0⟩ := rfl
theorem vf245_res : vf245.res = [.tmp 2] := rfl
theorem vf245_keep : vf245.keep = false := rfl
def vf246 : VFunc := ⟨6, .seq (.reg [⟨some 2, .mov (.c (.d (.lit (.bool false)))), none⟩]) (.seq (.reg [⟨some 3, .mov (.t 0), none⟩, ⟨some 4, .mov (.t 0), none⟩, ⟨some 5, .bin .neq (.t 3) (.t 4), none⟩, ⟨some 2, .mov (.t 5), none⟩]) .ret), [.tmp 2], false⟩
theorem vf246_ok : compS Try.prog [] 246 false = some vf246 := by kernel_rfl
theorem vf246_start (bl : List (List V)) (x0 : V) : vf246.start [x0] bl = ⟨[x0, .any, .any, .any, .any, .any], bl, [], 0, bl.length, 0⟩ := rfl
theorem vf246_res : vf246.res = [.tmp 2] := rfl
theorem vf246_keep : vf246.keep = false := rfl
def vft : FT := .nd 119 (.nd 68 (.nd 41 (.nd 31 (.nd 17 (.nd 9 (.fn 9 vf9) (.fn 17 vf17)) (.nd 18 (.fn 18 vf18) (.nd 22 (.fn 22 vf22) (.fn 31 vf31)))) (.nd 35 (.nd 32 (.fn 32 vf32) (.fn 35 vf35)) (.nd 37 (.fn 37 vf37) (.nd 40 (.fn 40 vf40) (.fn 41 vf41))))) (.nd 57 (.nd 47 (.nd 44 (.fn 44 vf44) (.fn 47 vf47)) (.nd 50 (.fn 50 vf50) (.nd 51 (.fn 51 vf51) (.fn 57 vf57)))) (.nd 65 (.nd 58 (.fn 58 vf58) (.nd 59 (.fn 59 vf59) (.fn 65 vf65))) (.nd 66 (.fn 66 vf66) (.nd 67 (.fn 67 vf67) (.fn 68 vf68)))))) (.nd 97 (.nd 83 (.nd 74 (.nd 72 (.fn 72 vf72) (.fn 74 vf74)) (.nd 75 (.fn 75 vf75) (.nd 76 (.fn 76 vf76) (.fn 83 vf83)))) (.nd 93 (.nd 90 (.fn 90 vf90) (.nd 91 (.fn 91 vf91) (.fn 93 vf93))) (.nd 94 (.fn 94 vf94) (.nd 96 (.fn 96 vf96) (.fn 97 vf97))))) (.nd 102 (.nd 99 (.nd 98 (.fn 98 vf98) (.fn 99 vf99)) (.nd 100 (.fn 100 vf100) (.nd 101 (.fn 101 vf101) (.fn 102 vf102)))) (.nd 112 (.nd 110 (.fn 110 vf110) (.nd 111 (.fn 111 vf111) (.fn 112 vf112))) (.nd 114 (.fn 114 vf114) (.nd 116 (.fn 116 vf116) (.fn 119 vf119))))))) (.nd 176 (.nd 149 (.nd 141 (.nd 131 (.nd 130 (.fn 130 vf130) (.fn 131 vf131)) (.nd 132 (.fn 132 vf132) (.nd 133 (.fn 133 vf133) (.fn 141 vf141)))) (.nd 144 (.nd 143 (.fn 143 vf143) (.fn 144 vf144)) (.nd 146 (.fn 146 vf146) (.nd 148 (.fn 148 vf148) (.fn 149 vf149))))) (.nd 154 (.nd 151 (.nd 150 (.fn 150 vf150) (.fn 151 vf151)) (.nd 152 (.fn 152 vf152) (.nd 153 (.fn 153 vf153) (.fn 154 vf154)))) (.nd 157 (.nd 155 (.fn 155 vf155) (.nd 156 (.fn 156 vf156) (.fn 157 vf157))) (.nd 158 (.fn 158 vf158) (.nd 167 (.fn 167 vf167) (.fn 176 vf176)))))) (.nd 214 (.nd 194 (.nd 178 (.nd 177 (.fn 177 vf177) (.fn 178 vf178)) (.nd 179 (.fn 179 vf179) (.nd 192 (.fn 192 vf192) (.fn 194 vf194)))) (.nd 197 (.nd 195 (.fn 195 vf195) (.nd 196 (.fn 196 vf196) (.fn 197 vf197))) (.nd 200 (.fn 200 vf200) (.nd 213 (.fn 213 vf213) (.fn 214 vf214))))) (.nd 232 (.nd 216 (.nd 215 (.fn 215 vf215) (.fn 216 vf216)) (.nd 217 (.fn 217 vf217) (.nd 218 (.fn 218 vf218) (.fn 232 vf232)))) (.nd 241 (.nd 233 (.fn 233 vf233) (.nd 240 (.fn 240 vf240) (.fn 241 vf241))) (.nd 242 (.fn 242 vf242) (.nd 245 (.fn 245 vf245) (.fn 246 vf246)))))))
theorem vft_cf : vft.all (fun k v => CFunc Try.prog k v) := ⟨⟨⟨⟨⟨⟨compS_ok vf9_ok, compS_ok vf17_ok⟩, ⟨compS_ok vf18_ok, ⟨compS_ok vf22_ok, compS_ok vf31_ok⟩⟩⟩, ⟨⟨compS_ok vf32_ok, compS_ok vf35_ok⟩, ⟨compS_ok vf37_ok, ⟨compS_ok vf40_ok, compS_ok vf41_ok⟩⟩⟩⟩, ⟨⟨⟨compS_ok vf44_ok, compS_ok vf47_ok⟩, ⟨compS_ok vf50_ok, ⟨compS_ok vf51_ok, compS_ok vf57_ok⟩⟩⟩, ⟨⟨compS_ok vf58_ok, ⟨compS_ok vf59_ok, compS_ok vf65_ok⟩⟩, ⟨compS_ok vf66_ok, ⟨compS_ok vf67_ok, compS_ok vf68_ok⟩⟩⟩⟩⟩, ⟨⟨⟨⟨compS_ok vf72_ok, compS_ok vf74_ok⟩, ⟨compS_ok vf75_ok, ⟨compS_ok vf76_ok, compS_ok vf83_ok⟩⟩⟩, ⟨⟨compS_ok vf90_ok, ⟨compS_ok vf91_ok, compS_ok vf93_ok⟩⟩, ⟨compS_ok vf94_ok, ⟨compS_ok vf96_ok, compS_ok vf97_ok⟩⟩⟩⟩, ⟨⟨⟨compS_ok vf98_ok, compS_ok vf99_ok⟩, ⟨compS_ok vf100_ok, ⟨compS_ok vf101_ok, compS_ok vf102_ok⟩⟩⟩, ⟨⟨compS_ok vf110_ok, ⟨compS_ok vf111_ok, compS_ok vf112_ok⟩⟩, ⟨compS_ok vf114_ok, ⟨compS_ok vf116_ok, compS_ok vf119_ok⟩⟩⟩⟩⟩⟩, ⟨⟨⟨⟨⟨compS_ok vf130_ok, compS_ok vf131_ok⟩, ⟨compS_ok vf132_ok, ⟨compS_ok vf133_ok, compS_ok vf141_ok⟩⟩⟩, ⟨⟨compS_ok vf143_ok, compS_ok vf144_ok⟩, ⟨compS_ok vf146_ok, ⟨compS_ok vf148_ok, compS_ok vf149_ok⟩⟩⟩⟩, ⟨⟨⟨compS_ok vf150_ok, compS_ok vf151_ok⟩, ⟨compS_ok vf152_ok, ⟨compS_ok vf153_ok, compS_ok vf154_ok⟩⟩⟩, ⟨⟨compS_ok vf155_ok, ⟨compS_ok vf156_ok, compS_ok vf157_ok⟩⟩, ⟨compS_ok vf158_ok, ⟨compS_ok vf167_ok, compS_ok vf176_ok⟩⟩⟩⟩⟩, ⟨⟨⟨⟨compS_ok vf177_ok, compS_ok vf178_ok⟩, ⟨compS_ok vf179_ok, ⟨compS_ok vf192_ok, compS_ok vf194_ok⟩⟩⟩, ⟨⟨compS_ok vf195_ok, ⟨compS_ok vf196_ok, compS_ok vf197_ok⟩⟩, ⟨compS_ok vf200_ok, ⟨compS_ok vf213_ok, compS_ok vf214_ok⟩⟩⟩⟩, ⟨⟨⟨compS_ok vf215_ok, compS_ok vf216_ok⟩, ⟨compS_ok vf217_ok, ⟨compS_ok vf218_ok, compS_ok vf232_ok⟩⟩⟩, ⟨⟨compS_ok vf233_ok, ⟨compS_ok vf240_ok, compS_ok vf241_ok⟩⟩, ⟨compS_ok vf242_ok, ⟨compS_ok vf245_ok, compS_ok vf246_ok⟩⟩⟩⟩⟩⟩⟩
noncomputable def VP0 : VProg := ⟨vft.get, noNat⟩
theorem VP0_ok : CProg Try.prog VP0 := cprogT_of vft_cf
theorem vf141_nil : VC Try.prog 141 [.d (.sl [])] [] ⟨.d (.sl []), [], [], 0⟩ := by
  refine nil_nat VP0_ok (by kernel_rfl) (compS_ok vf141_ok) (p0 := [⟨some 2, .mov (.c .nil), none⟩]) (pre := [⟨some 3, .mov (.t 0), none⟩]) (os := []) rfl rfl (fun b => rfl) (fun b => ?_) (fun G x h => slice_of h)
  cases b <;>
  · simp only [vf141_start]
    (repeat (first
    | refine RX_seq ?_
    | refine RX_block ?_
    | ((first | refine RX_reg ?_ | refine RX_cond' ?_ | refine RX_draw0 ?_ | refine RX_draw rfl ?_ | refine RX_skip ?_ | refine RX_exit ?_ | refine RX_ret ?_); try (simp only [go_sem, Int.reduceToNat, Nat.reducePow, Int.reduceEq, Int.reduceNe, Int.reduceLT, Int.reduceLE, Nat.reduceAdd, Nat.reduceLeDiff, ↓reduceIte, Nat.reduceLT, Nat.reduceMul, Nat.reduceSub, reduceCtorEq, frzLoc, rowCells, vAppM, beq_iff_eq, bne_iff_ne, bne_self_eq_false, beq_self_eq_true, beq_true, beq_false, I, B, w, vf141_res, vf141_keep]))))
theorem vf116_nil : VC Try.prog 116 [.d (.sl [])] [] ⟨.sl 81 [] .full, [], [], 0⟩ := by
  refine nil_natW VP0_ok (by kernel_rfl) (compS_ok vf116_ok) (p0 := [⟨some 2, .mov (.c .nil), none⟩]) (pre := [⟨some 3, .mov (.t 0), none⟩]) (os := []) rfl (fun b => match b with | true => ⟨.nil, [], [], 0⟩ | false => ⟨.sl 81 [] .full, [], [], 0⟩) (fun b => by cases b <;> exact ⟨rfl, rfl, rfl⟩) (fun b G v h => by cases b; exact h; exact full_of_nil h) rfl (fun b => rfl) (fun b => ?_) (fun G x h => slice_of h)
  cases b <;>
  · simp only [vf116_start]
    (repeat (first
    | refine RX_seq ?_
    | refine RX_block ?_
    | ((first | refine RX_reg ?_ | refine RX_cond' ?_ | refine RX_draw0 ?_ | refine RX_draw rfl ?_ | refine RX_skip ?_ | refine RX_exit ?_ | refine RX_ret ?_); try (simp only [go_sem, Int.reduceToNat, Nat.reducePow, Int.reduceEq, Int.reduceNe, Int.reduceLT, Int.reduceLE, Nat.reduceAdd, Nat.reduceLeDiff, ↓reduceIte, Nat.reduceLT, Nat.reduceMul, Nat.reduceSub, reduceCtorEq, frzLoc, rowCells, vAppM, beq_iff_eq, bne_iff_ne, bne_self_eq_false, beq_self_eq_true, beq_true, beq_false, I, B, w, vf116_res, vf116_keep]))))
theorem vf130_nil : VC Try.prog 130 [.d (.sl [])] [] ⟨.sl 42 [] .full, [], [], 0⟩ := by
  refine nil_natW VP0_ok (by kernel_rfl) (compS_ok vf130_ok) (p0 := [⟨some 2, .mov (.c .nil), none⟩]) (pre := [⟨some 3, .mov (.t 0), none⟩]) (os := []) rfl (fun b => match b with | true => ⟨.nil, [], [], 0⟩ | false => ⟨.sl 42 [] .full, [], [], 0⟩) (fun b => by cases b <;> exact ⟨rfl, rfl, rfl⟩) (fun b G v h => by cases b; exact h; exact full_of_nil h) rfl (fun b => rfl) (fun b => ?_) (fun G x h => slice_of h)
  cases b <;>
  · simp only [vf130_start]
    (repeat (first
    | refine RX_seq ?_
    | refine RX_block ?_
    | ((first | refine RX_reg ?_ | refine RX_cond' ?_ | refine RX_draw0 ?_ | refine RX_draw rfl ?_ | refine RX_skip ?_ | refine RX_exit ?_ | refine RX_ret ?_); try (simp only [go_sem, Int.reduceToNat, Nat.reducePow, Int.reduceEq, Int.reduceNe, Int.reduceLT, Int.reduceLE, Nat.reduceAdd, Nat.reduceLeDiff, ↓reduceIte, Nat.reduceLT, Nat.reduceMul, Nat.reduceSub, reduceCtorEq, frzLoc, rowCells, vAppM, beq_iff_eq, bne_iff_ne, bne_self_eq_false, beq_self_eq_true, beq_true, beq_false, I, B, w, vf130_res, vf130_keep]))))
noncomputable def VP : VProg := ⟨vft.get, cloneNat2 [141] [(116, 81), (130, 42)]⟩
theorem VP_ok : CProg Try.prog VP := by
  refine cprogT_clone2 vft_cf (fun f hf => ?_) (fun f hf => ?_)
  · simp only [List.mem_cons, List.not_mem_nil, or_false] at hf
    rcases hf with rfl
    · exact ⟨vf141_nil, _, compS_ok vf141_ok⟩
  · simp only [List.mem_cons, List.not_mem_nil, or_false] at hf
    rcases hf with rfl | rfl
    · exact ⟨vf116_nil, _, compS_ok vf116_ok⟩
    · exact ⟨vf130_nil, _, compS_ok vf130_ok⟩
theorem vft_ok : ∀ f vf, vft.get f = some vf → VP.fn f = some vf := fun _ _ h => h
theorem vf116_cnil : CV VP 116 [.d (.sl [])] [] = some ⟨.sl 81 [] .full, [], [], 0⟩ := CV_nat rfl
theorem vf130_cnil : CV VP 130 [.d (.sl [])] [] = some ⟨.sl 42 [] .full, [], [], 0⟩ := CV_nat rfl
theorem vf141_cnil : CV VP 141 [.d (.sl [])] [] = some ⟨.d (.sl []), [], [], 0⟩ := CV_nat rfl
end Go.Proofs.Ytciaehhaglaafaa
