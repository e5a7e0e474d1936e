/- Rekeying on the machine: the literals of the functions. Conditions: none. -/
import Derived.Test.YtlcbgdnfkmbhkaaGreatVd
import Derived.Test.YtlcbgdnfkmbhkaaGreatProg
import Derived.ProofKit
import Derived.Test.YtlcbgdnfkmbhkaaGreatRca
set_option linter.unusedSimpArgs false
set_option maxRecDepth 8000
namespace Go.Proofs.YtlcbgdnfkmbhkaaGreat
open Go.VM
def vf267:VFunc:=⟨10,.seq (.reg [oo 4 (.box [zi,zu,zu,zi,zu,zu])]) (.seq (.reg [oM 5 0,oC 6 291 [.t 5],oM 7 1,oC 8 291 [.t 7],oo 9 (.build [zi,zu,zu,zi,zu,zu] [(0,(3,.t 6)),(3,(3,.t 8))]),oS 4 9 6]) .ret),[.cell 4 6 true],false⟩
theorem vf267_ok:cO [] 267 false=some vf267:=by kernel_rfl
theorem vf267_start (bl:List (List V)) (x0:V) (x1:V):vf267.start [x0,x1] bl=⟨[x0,x1,.any,.any,.any,.any,.any,.any,.any,.any],bl,[],0,bl.length,0⟩:=rfl
theorem vf267_res:vf267.res=[.cell 4 6 true]:=rfl
theorem vf267_keep:vf267.keep=false:=rfl
def vf268:VFunc:=⟨31,.seq (.reg [oV 2 6 0,oV 3 6 1,oo 4 (.box [zi,zu,zu,zi,zu,zu]),oT 5 false]) (.seq (.seq (.reg [oA 6 3 0,oL 7 6 3,oA 8 2 0,oL 9 8 3,oC 10 292 [.t 7,.t 9],oo 11 (.bin .gtr (.t 10) (ki 0))]) (.cond (.t 11) (.reg [oA 12 3 0,oL 13 12 3,oA 14 2 0,oS 14 13 3]) .skip)) (.seq (.seq (.reg [oA 15 3 3,oL 16 15 3,oA 17 2 3,oL 18 17 3,oC 19 292 [.t 16,.t 18],oo 20 (.bin .lss (.t 19) (ki 0))]) (.cond (.t 20) (.reg [oA 21 3 3,oL 22 21 3,oA 23 2 3,oS 23 22 3]) .skip)) (.seq (.draw [oL 24 2 6,oA 25 2 0,oL 26 25 3,oA 27 2 3,oL 28 27 3,oC 29 292 [.t 26,.t 28],oo 30 (.bin .leq (.t 29) (ki 0)),oS 4 24 6,oM 5 30] [(0,5)]) .ret))),[.cell 4 6 true,.tmp 5],false⟩
theorem vf268_ok:cO [] 268 false=some vf268:=by kernel_rfl
theorem vf268_start (bl:List (List V)) (x0:V) (x1:V):vf268.start [x0,x1] bl=⟨[x0,x1,.any,.any,.any,.any,.any,.any,.any,.any,.any,.any,.any,.any,.any,.any,.any,.any,.any,.any,.any,.any,.any,.any,.any,.any,.any,.any,.any,.any,.any],bl,[],0,bl.length,0⟩:=rfl
theorem vf268_res:vf268.res=[.cell 4 6 true,.tmp 5]:=rfl
theorem vf268_keep:vf268.keep=false:=rfl
def vf269:VFunc:=⟨10,.seq (.reg [oV 1 3 0,oo 2 (.box [zi,zu,zu])]) (.seq (.reg [oA 3 1 0,oF 4 3 1,oA 5 1 1,oF 6 5 1,oA 7 1 2,oF 8 7 1,oo 9 (.build [zi,zu,zu] [(0,(1,.t 4)),(1,(1,.t 6)),(2,(1,.t 8))]),oS 2 9 3]) .ret),[.cell 2 3 true],false⟩
theorem vf269_ok:cO [] 269 false=some vf269:=by kernel_rfl
theorem vf269_start (bl:List (List V)) (x0:V):vf269.start [x0] bl=⟨[x0,.any,.any,.any,.any,.any,.any,.any,.any,.any],bl,[],0,bl.length,0⟩:=rfl
theorem vf269_res:vf269.res=[.cell 2 3 true]:=rfl
theorem vf269_keep:vf269.keep=false:=rfl
def vf270:VFunc:=⟨7,.seq (.reg [oV 1 3 0,oI 2 0]) (.seq (.reg [oA 3 1 2,oF 4 3 1,oo 5 (.convI .i64 (.t 4)),oo 6 (.bin .sub (.t 5) (ki 1)),oM 2 6]) .ret),[.tmp 2],false⟩
theorem vf270_ok:cO [] 270 false=some vf270:=by kernel_rfl
theorem vf270_start (bl:List (List V)) (x0:V):vf270.start [x0] bl=⟨[x0,.any,.any,.any,.any,.any,.any],bl,[],0,bl.length,0⟩:=rfl
theorem vf270_res:vf270.res=[.tmp 2]:=rfl
theorem vf270_keep:vf270.keep=false:=rfl
def vf271:VFunc:=⟨7,.seq (.reg [oo 2 (.box [zi,zu,zu])]) (.seq (.reg [oM 3 0,oo 4 (.bin .add (.t 3) (ki 1)),oo 5 (.convI .u64 (.t 4)),oo 6 (.build [zi,zu,zu] [(2,(1,.t 5))]),oS 2 6 3]) .ret),[.cell 2 3 true],false⟩
theorem vf271_ok:cO [] 271 false=some vf271:=by kernel_rfl
theorem vf271_start (bl:List (List V)) (x0:V):vf271.start [x0] bl=⟨[x0,.any,.any,.any,.any,.any,.any],bl,[],0,bl.length,0⟩:=rfl
theorem vf271_res:vf271.res=[.cell 2 3 true]:=rfl
theorem vf271_keep:vf271.keep=false:=rfl
def vf290:VFunc:=⟨42,.seq (.reg [oV 2 3 0,oV 3 3 1,oT 4 false]) (.seq (.block 0 (.seq (.reg [oA 6 2 0,oA 7 6 0,oF 8 7 1,oA 9 3 0,oA 10 9 0,oF 11 10 1,oo 12 (.bin .neq (.t 8) (.t 11)),oM 5 12]) (.cond (.t 5) (.seq (.reg [oA 13 2 0,oA 14 13 0,oF 15 14 1,oA 16 3 0,oA 17 16 0,oF 18 17 1,oo 19 (.bin .lss (.t 15) (.t 18)),oM 4 19]) .ret) (.seq (.reg [oA 21 2 0,oA 22 21 1,oF 23 22 1,oA 24 3 0,oA 25 24 1,oF 26 25 1,oo 27 (.bin .neq (.t 23) (.t 26)),oM 20 27]) (.cond (.t 20) (.seq (.reg [oA 28 2 0,oA 29 28 1,oF 30 29 1,oA 31 3 0,oA 32 31 1,oF 33 32 1,oo 34 (.bin .lss (.t 30) (.t 33)),oM 4 34]) .ret) .skip))))) (.seq (.reg [oA 35 2 0,oA 36 35 2,oF 37 36 1,oA 38 3 0,oA 39 38 2,oF 40 39 1,oo 41 (.bin .lss (.t 37) (.t 40)),oM 4 41]) .ret)),[.tmp 4],false⟩
theorem vf290_ok:cO [] 290 false=some vf290:=by kernel_rfl
theorem vf290_start (bl:List (List V)) (x0:V) (x1:V):vf290.start [x0,x1] bl=⟨[x0,x1,.any,.any,.any,.any,.any,.any,.any,.any,.any,.any,.any,.any,.any,.any,.any,.any,.any,.any,.any,.any,.any,.any,.any,.any,.any,.any,.any,.any,.any,.any,.any,.any,.any,.any,.any,.any,.any,.any,.any,.any],bl,[],0,bl.length,0⟩:=rfl
theorem vf290_res:vf290.res=[.tmp 4]:=rfl
theorem vf290_keep:vf290.keep=false:=rfl
def vf291:VFunc:=⟨7,.seq (.reg [oo 2 (.box [zi,zu,zu])]) (.seq (.reg [oM 3 0,oo 4 (.bin .add (.t 3) (ki 1)),oo 5 (.convI .u64 (.t 4)),oo 6 (.build [zi,zu,zu] [(2,(1,.t 5))]),oS 2 6 3]) .ret),[.cell 2 3 true],false⟩
theorem vf291_ok:cO [] 291 false=some vf291:=by kernel_rfl
theorem vf291_start (bl:List (List V)) (x0:V):vf291.start [x0] bl=⟨[x0,.any,.any,.any,.any,.any,.any],bl,[],0,bl.length,0⟩:=rfl
theorem vf291_res:vf291.res=[.cell 2 3 true]:=rfl
theorem vf291_keep:vf291.keep=false:=rfl
def vf292:VFunc:=⟨22,.seq (.reg [oV 2 3 0,oV 3 3 1,oI 4 0]) (.seq (.draw [oA 5 2 0,oF 6 5 1,oA 7 3 0,oF 8 7 1,oC 9 310 [.t 6,.t 8],oA 10 2 1,oF 11 10 1,oA 12 3 1,oF 13 12 1,oC 14 311 [.t 11,.t 13],oA 15 2 2,oF 16 15 1,oA 17 3 2,oF 18 17 1,oC 19 311 [.t 16,.t 18],oo 20 (.buildSl 3 1 [zi] [(0,.t 9),(1,.t 14),(2,.t 19)] false),oC 21 309 [.t 20],oM 4 21] [(6,4),(8,4),(11,4),(11,9),(13,4),(13,9)]) .ret),[.tmp 4],false⟩
theorem vf292_ok:cO [] 292 false=some vf292:=by kernel_rfl
theorem vf292_start (bl:List (List V)) (x0:V) (x1:V):vf292.start [x0,x1] bl=⟨[x0,x1,.any,.any,.any,.any,.any,.any,.any,.any,.any,.any,.any,.any,.any,.any,.any,.any,.any,.any,.any,.any],bl,[],0,bl.length,0⟩:=rfl
theorem vf292_res:vf292.res=[.tmp 4]:=rfl
theorem vf292_keep:vf292.keep=false:=rfl
def vf309K0:List Bool:=[false,false,false,true,false,false,true,true,true,false,false,false,false,false,false,false,false,false]
def vf309L0:VCode:=.seq (.reg [oo 9 (.bin .lss (.t 8) (.t 7))]) (.seq (.cond (.t 9) .skip (.exit 0)) (.seq (.block 1 (.seq (.reg [oX 10 1 6 8,oF 11 10 1,oM 5 11]) (.seq (.reg [oM 12 5,oM 13 3,oo 14 (.bin .neq (.t 12) (.t 13))]) (.cond (.t 14) (.seq (.reg [oM 15 5,oM 2 15]) .ret) .skip)))) (.reg [oo 16 (.bin .add (.t 8) (ki 1)),oM 8 16])))
theorem vf309L0_go {VP:VProg} {st:St} {Q:VExit→St→Prop} (h:RX VP (.seq (.reg [oo 9 (.bin .lss (.t 8) (.t 7))]) (.seq (.cond (.t 9) .skip (.exit 0)) (.seq (.block 1 (.seq (.reg [oX 10 1 6 8,oF 11 10 1,oM 5 11]) (.seq (.reg [oM 12 5,oM 13 3,oo 14 (.bin .neq (.t 12) (.t 13))]) (.cond (.t 14) (.seq (.reg [oM 15 5,oM 2 15]) .ret) .skip)))) (.reg [oo 16 (.bin .add (.t 8) (ki 1)),oM 8 16])))) st Q):RX VP vf309L0 st Q:=h
def vf309:VFunc:=⟨18,.seq (.reg [oI 2 0]) (.seq (.reg [oI 3 0]) (.seq (.seq (.reg [oM 6 0,oo 7 (.len (.t 6)),oI 8 0]) (.block 0 (.loop vf309K0 vf309L0))) (.seq (.reg [oM 17 3,oM 2 17]) .ret))),[.tmp 2],false⟩
theorem vf309_ok:cO [] 309 false=some vf309:=by kernel_rfl
theorem vf309_start (bl:List (List V)) (x0:V):vf309.start [x0] bl=⟨[x0,.any,.any,.any,.any,.any,.any,.any,.any,.any,.any,.any,.any,.any,.any,.any,.any,.any],bl,[],0,bl.length,0⟩:=rfl
theorem vf309_res:vf309.res=[.tmp 2]:=rfl
theorem vf309_keep:vf309.keep=false:=rfl
def vf310:VFunc:=⟨20,.seq (.reg [oI 4 0]) (.seq (.reg [oM 7 0,oC 8 321 [.t 7],oM 5 8]) (.seq (.reg [oM 9 1,oC 10 321 [.t 9],oM 6 10]) (.seq (.seq (.reg [oM 11 5]) (.cond (.t 11) (.seq (.seq (.reg [oM 12 6]) (.cond (.t 12) (.seq (.reg [oI 4 0]) .ret) .skip)) (.seq (.reg [oI 4 (-1)]) .ret)) .skip)) (.seq (.seq (.reg [oM 13 6]) (.cond (.t 13) (.seq (.reg [oI 4 1]) .ret) .skip)) (.seq (.seq (.reg [oM 14 0,oM 15 1,oo 16 (.bin .lss (.t 14) (.t 15))]) (.cond (.t 16) (.seq (.reg [oI 4 (-1)]) .ret) .skip)) (.seq (.seq (.reg [oM 17 0,oM 18 1,oo 19 (.bin .gtr (.t 17) (.t 18))]) (.cond (.t 19) (.seq (.reg [oI 4 1]) .ret) .skip)) (.seq (.reg [oI 4 0]) .ret))))))),[.tmp 4],false⟩
theorem vf310_ok:cO [] 310 false=some vf310:=by kernel_rfl
theorem vf310_start (bl:List (List V)) (x0:V) (x1:V):vf310.start [x0,x1] bl=⟨[x0,x1,.any,.any,.any,.any,.any,.any,.any,.any,.any,.any,.any,.any,.any,.any,.any,.any,.any,.any],bl,[],0,bl.length,0⟩:=rfl
theorem vf310_res:vf310.res=[.tmp 4]:=rfl
theorem vf310_keep:vf310.keep=false:=rfl
def vf311:VFunc:=⟨20,.seq (.reg [oI 4 0]) (.seq (.reg [oM 7 0,oC 8 322 [.t 7],oM 5 8]) (.seq (.reg [oM 9 1,oC 10 322 [.t 9],oM 6 10]) (.seq (.seq (.reg [oM 11 5]) (.cond (.t 11) (.seq (.seq (.reg [oM 12 6]) (.cond (.t 12) (.seq (.reg [oI 4 0]) .ret) .skip)) (.seq (.reg [oI 4 (-1)]) .ret)) .skip)) (.seq (.seq (.reg [oM 13 6]) (.cond (.t 13) (.seq (.reg [oI 4 1]) .ret) .skip)) (.seq (.seq (.reg [oM 14 0,oM 15 1,oo 16 (.bin .lss (.t 14) (.t 15))]) (.cond (.t 16) (.seq (.reg [oI 4 (-1)]) .ret) .skip)) (.seq (.seq (.reg [oM 17 0,oM 18 1,oo 19 (.bin .gtr (.t 17) (.t 18))]) (.cond (.t 19) (.seq (.reg [oI 4 1]) .ret) .skip)) (.seq (.reg [oI 4 0]) .ret))))))),[.tmp 4],false⟩
theorem vf311_ok:cO [] 311 false=some vf311:=by kernel_rfl
theorem vf311_start (bl:List (List V)) (x0:V) (x1:V):vf311.start [x0,x1] bl=⟨[x0,x1,.any,.any,.any,.any,.any,.any,.any,.any,.any,.any,.any,.any,.any,.any,.any,.any,.any,.any],bl,[],0,bl.length,0⟩:=rfl
theorem vf311_res:vf311.res=[.tmp 4]:=rfl
theorem vf311_keep:vf311.keep=false:=rfl
def vf321:VFunc:=⟨6,.seq (.reg [oT 2 false]) (.seq (.reg [oM 3 0,oM 4 0,oo 5 (.bin .neq (.t 3) (.t 4)),oM 2 5]) .ret),[.tmp 2],false⟩
theorem vf321_ok:cO [] 321 false=some vf321:=by kernel_rfl
theorem vf321_start (bl:List (List V)) (x0:V):vf321.start [x0] bl=⟨[x0,.any,.any,.any,.any,.any],bl,[],0,bl.length,0⟩:=rfl
theorem vf321_res:vf321.res=[.tmp 2]:=rfl
theorem vf321_keep:vf321.keep=false:=rfl
def vf322:VFunc:=⟨6,.seq (.reg [oT 2 false]) (.seq (.reg [oM 3 0,oM 4 0,oo 5 (.bin .neq (.t 3) (.t 4)),oM 2 5]) .ret),[.tmp 2],false⟩
theorem vf322_ok:cO [] 322 false=some vf322:=by kernel_rfl
theorem vf322_start (bl:List (List V)) (x0:V):vf322.start [x0] bl=⟨[x0,.any,.any,.any,.any,.any],bl,[],0,bl.length,0⟩:=rfl
theorem vf322_res:vf322.res=[.tmp 2]:=rfl
theorem vf322_keep:vf322.keep=false:=rfl
def vft:FT:=.nd 137 (.nd 67 (.nd 38 (.nd 20 (.nd 12 (.nd 9 (.nd 6 (.fn 6 vf6) (.nd 8 (.fn 8 vf8) (.fn 9 vf9))) (.nd 10 (.fn 10 vf10) (.nd 11 (.fn 11 vf11) (.fn 12 vf12)))) (.nd 17 (.nd 13 (.fn 13 vf13) (.nd 14 (.fn 14 vf14) (.fn 17 vf17))) (.nd 18 (.fn 18 vf18) (.nd 19 (.fn 19 vf19) (.fn 20 vf20))))) (.nd 32 (.nd 26 (.nd 21 (.fn 21 vf21) (.nd 24 (.fn 24 vf24) (.fn 26 vf26))) (.nd 30 (.fn 30 vf30) (.nd 31 (.fn 31 vf31) (.fn 32 vf32)))) (.nd 35 (.nd 33 (.fn 33 vf33) (.nd 34 (.fn 34 vf34) (.fn 35 vf35))) (.nd 36 (.fn 36 vf36) (.nd 37 (.fn 37 vf37) (.fn 38 vf38)))))) (.nd 50 (.nd 44 (.nd 41 (.nd 39 (.fn 39 vf39) (.nd 40 (.fn 40 vf40) (.fn 41 vf41))) (.nd 42 (.fn 42 vf42) (.nd 43 (.fn 43 vf43) (.fn 44 vf44)))) (.nd 47 (.nd 45 (.fn 45 vf45) (.nd 46 (.fn 46 vf46) (.fn 47 vf47))) (.nd 48 (.fn 48 vf48) (.nd 49 (.fn 49 vf49) (.fn 50 vf50))))) (.nd 58 (.nd 54 (.nd 51 (.fn 51 vf51) (.nd 52 (.fn 52 vf52) (.fn 54 vf54))) (.nd 56 (.fn 56 vf56) (.nd 57 (.fn 57 vf57) (.fn 58 vf58)))) (.nd 62 (.nd 59 (.fn 59 vf59) (.nd 61 (.fn 61 vf61) (.fn 62 vf62))) (.nd 65 (.nd 63 (.fn 63 vf63) (.fn 65 vf65)) (.nd 66 (.fn 66 vf66) (.fn 67 vf67))))))) (.nd 101 (.nd 80 (.nd 73 (.nd 70 (.nd 68 (.fn 68 vf68) (.nd 69 (.fn 69 vf69) (.fn 70 vf70))) (.nd 71 (.fn 71 vf71) (.nd 72 (.fn 72 vf72) (.fn 73 vf73)))) (.nd 76 (.nd 74 (.fn 74 vf74) (.nd 75 (.fn 75 vf75) (.fn 76 vf76))) (.nd 77 (.fn 77 vf77) (.nd 78 (.fn 78 vf78) (.fn 80 vf80))))) (.nd 93 (.nd 83 (.nd 81 (.fn 81 vf81) (.nd 82 (.fn 82 vf82) (.fn 83 vf83))) (.nd 88 (.fn 88 vf88) (.nd 91 (.fn 91 vf91) (.fn 93 vf93)))) (.nd 98 (.nd 94 (.fn 94 vf94) (.nd 97 (.fn 97 vf97) (.fn 98 vf98))) (.nd 99 (.fn 99 vf99) (.nd 100 (.fn 100 vf100) (.fn 101 vf101)))))) (.nd 123 (.nd 116 (.nd 111 (.nd 102 (.fn 102 vf102) (.nd 110 (.fn 110 vf110) (.fn 111 vf111))) (.nd 113 (.fn 113 vf113) (.nd 114 (.fn 114 vf114) (.fn 116 vf116)))) (.nd 119 (.nd 117 (.fn 117 vf117) (.nd 118 (.fn 118 vf118) (.fn 119 vf119))) (.nd 120 (.fn 120 vf120) (.nd 121 (.fn 121 vf121) (.fn 123 vf123))))) (.nd 130 (.nd 127 (.nd 124 (.fn 124 vf124) (.nd 125 (.fn 125 vf125) (.fn 127 vf127))) (.nd 128 (.fn 128 vf128) (.nd 129 (.fn 129 vf129) (.fn 130 vf130)))) (.nd 133 (.nd 131 (.fn 131 vf131) (.nd 132 (.fn 132 vf132) (.fn 133 vf133))) (.nd 135 (.nd 134 (.fn 134 vf134) (.fn 135 vf135)) (.nd 136 (.fn 136 vf136) (.fn 137 vf137)))))))) (.nd 202 (.nd 170 (.nd 150 (.nd 144 (.nd 140 (.nd 138 (.fn 138 vf138) (.nd 139 (.fn 139 vf139) (.fn 140 vf140))) (.nd 141 (.fn 141 vf141) (.nd 142 (.fn 142 vf142) (.fn 144 vf144)))) (.nd 147 (.nd 145 (.fn 145 vf145) (.nd 146 (.fn 146 vf146) (.fn 147 vf147))) (.nd 148 (.fn 148 vf148) (.nd 149 (.fn 149 vf149) (.fn 150 vf150))))) (.nd 156 (.nd 153 (.nd 151 (.fn 151 vf151) (.nd 152 (.fn 152 vf152) (.fn 153 vf153))) (.nd 154 (.fn 154 vf154) (.nd 155 (.fn 155 vf155) (.fn 156 vf156)))) (.nd 159 (.nd 157 (.fn 157 vf157) (.nd 158 (.fn 158 vf158) (.fn 159 vf159))) (.nd 160 (.fn 160 vf160) (.nd 166 (.fn 166 vf166) (.fn 170 vf170)))))) (.nd 187 (.nd 177 (.nd 174 (.nd 171 (.fn 171 vf171) (.nd 172 (.fn 172 vf172) (.fn 174 vf174))) (.nd 175 (.fn 175 vf175) (.nd 176 (.fn 176 vf176) (.fn 177 vf177)))) (.nd 183 (.nd 178 (.fn 178 vf178) (.nd 182 (.fn 182 vf182) (.fn 183 vf183))) (.nd 184 (.fn 184 vf184) (.nd 185 (.fn 185 vf185) (.fn 187 vf187))))) (.nd 195 (.nd 190 (.nd 188 (.fn 188 vf188) (.nd 189 (.fn 189 vf189) (.fn 190 vf190))) (.nd 191 (.fn 191 vf191) (.nd 192 (.fn 192 vf192) (.fn 195 vf195)))) (.nd 198 (.nd 196 (.fn 196 vf196) (.nd 197 (.fn 197 vf197) (.fn 198 vf198))) (.nd 200 (.nd 199 (.fn 199 vf199) (.fn 200 vf200)) (.nd 201 (.fn 201 vf201) (.fn 202 vf202))))))) (.nd 232 (.nd 217 (.nd 208 (.nd 205 (.nd 203 (.fn 203 vf203) (.nd 204 (.fn 204 vf204) (.fn 205 vf205))) (.nd 206 (.fn 206 vf206) (.nd 207 (.fn 207 vf207) (.fn 208 vf208)))) (.nd 211 (.nd 209 (.fn 209 vf209) (.nd 210 (.fn 210 vf210) (.fn 211 vf211))) (.nd 212 (.fn 212 vf212) (.nd 213 (.fn 213 vf213) (.fn 217 vf217))))) (.nd 226 (.nd 223 (.nd 221 (.fn 221 vf221) (.nd 222 (.fn 222 vf222) (.fn 223 vf223))) (.nd 224 (.fn 224 vf224) (.nd 225 (.fn 225 vf225) (.fn 226 vf226)))) (.nd 229 (.nd 227 (.fn 227 vf227) (.nd 228 (.fn 228 vf228) (.fn 229 vf229))) (.nd 230 (.fn 230 vf230) (.nd 231 (.fn 231 vf231) (.fn 232 vf232)))))) (.nd 266 (.nd 238 (.nd 235 (.nd 233 (.fn 233 vf233) (.nd 234 (.fn 234 vf234) (.fn 235 vf235))) (.nd 236 (.fn 236 vf236) (.nd 237 (.fn 237 vf237) (.fn 238 vf238)))) (.nd 255 (.nd 239 (.fn 239 vf239) (.nd 242 (.fn 242 vf242) (.fn 255 vf255))) (.nd 264 (.fn 264 vf264) (.nd 265 (.fn 265 vf265) (.fn 266 vf266))))) (.nd 290 (.nd 269 (.nd 267 (.fn 267 vf267) (.nd 268 (.fn 268 vf268) (.fn 269 vf269))) (.nd 270 (.fn 270 vf270) (.nd 271 (.fn 271 vf271) (.fn 290 vf290)))) (.nd 309 (.nd 291 (.fn 291 vf291) (.nd 292 (.fn 292 vf292) (.fn 309 vf309))) (.nd 311 (.nd 310 (.fn 310 vf310) (.fn 311 vf311)) (.nd 321 (.fn 321 vf321) (.fn 322 vf322))))))))
theorem vft_cf:vft.all (fun k v=>CFunc Tryz.prog k v):=⟨⟨⟨⟨⟨⟨⟨compS_ok vf6_ok,⟨compS_ok vf8_ok,compS_ok vf9_ok⟩⟩,⟨compS_ok vf10_ok,⟨compS_ok vf11_ok,compS_ok vf12_ok⟩⟩⟩,⟨⟨compS_ok vf13_ok,⟨compS_ok vf14_ok,compS_ok vf17_ok⟩⟩,⟨compS_ok vf18_ok,⟨compS_ok vf19_ok,compS_ok vf20_ok⟩⟩⟩⟩,⟨⟨⟨compS_ok vf21_ok,⟨compS_ok vf24_ok,compS_ok vf26_ok⟩⟩,⟨compS_ok vf30_ok,⟨compS_ok vf31_ok,compS_ok vf32_ok⟩⟩⟩,⟨⟨compS_ok vf33_ok,⟨compS_ok vf34_ok,compS_ok vf35_ok⟩⟩,⟨compS_ok vf36_ok,⟨compS_ok vf37_ok,compS_ok vf38_ok⟩⟩⟩⟩⟩,⟨⟨⟨⟨compS_ok vf39_ok,⟨compS_ok vf40_ok,compS_ok vf41_ok⟩⟩,⟨compS_ok vf42_ok,⟨compS_ok vf43_ok,compS_ok vf44_ok⟩⟩⟩,⟨⟨compS_ok vf45_ok,⟨compS_ok vf46_ok,compS_ok vf47_ok⟩⟩,⟨compS_ok vf48_ok,⟨compS_ok vf49_ok,compS_ok vf50_ok⟩⟩⟩⟩,⟨⟨⟨compS_ok vf51_ok,⟨compS_ok vf52_ok,compS_ok vf54_ok⟩⟩,⟨compS_ok vf56_ok,⟨compS_ok vf57_ok,compS_ok vf58_ok⟩⟩⟩,⟨⟨compS_ok vf59_ok,⟨compS_ok vf61_ok,compS_ok vf62_ok⟩⟩,⟨⟨compS_ok vf63_ok,compS_ok vf65_ok⟩,⟨compS_ok vf66_ok,compS_ok vf67_ok⟩⟩⟩⟩⟩⟩,⟨⟨⟨⟨⟨compS_ok vf68_ok,⟨compS_ok vf69_ok,compS_ok vf70_ok⟩⟩,⟨compS_ok vf71_ok,⟨compS_ok vf72_ok,compS_ok vf73_ok⟩⟩⟩,⟨⟨compS_ok vf74_ok,⟨compS_ok vf75_ok,compS_ok vf76_ok⟩⟩,⟨compS_ok vf77_ok,⟨compS_ok vf78_ok,compS_ok vf80_ok⟩⟩⟩⟩,⟨⟨⟨compS_ok vf81_ok,⟨compS_ok vf82_ok,compS_ok vf83_ok⟩⟩,⟨compS_ok vf88_ok,⟨compS_ok vf91_ok,compS_ok vf93_ok⟩⟩⟩,⟨⟨compS_ok vf94_ok,⟨compS_ok vf97_ok,compS_ok vf98_ok⟩⟩,⟨compS_ok vf99_ok,⟨compS_ok vf100_ok,compS_ok vf101_ok⟩⟩⟩⟩⟩,⟨⟨⟨⟨compS_ok vf102_ok,⟨compS_ok vf110_ok,compS_ok vf111_ok⟩⟩,⟨compS_ok vf113_ok,⟨compS_ok vf114_ok,compS_ok vf116_ok⟩⟩⟩,⟨⟨compS_ok vf117_ok,⟨compS_ok vf118_ok,compS_ok vf119_ok⟩⟩,⟨compS_ok vf120_ok,⟨compS_ok vf121_ok,compS_ok vf123_ok⟩⟩⟩⟩,⟨⟨⟨compS_ok vf124_ok,⟨compS_ok vf125_ok,compS_ok vf127_ok⟩⟩,⟨compS_ok vf128_ok,⟨compS_ok vf129_ok,compS_ok vf130_ok⟩⟩⟩,⟨⟨compS_ok vf131_ok,⟨compS_ok vf132_ok,compS_ok vf133_ok⟩⟩,⟨⟨compS_ok vf134_ok,compS_ok vf135_ok⟩,⟨compS_ok vf136_ok,compS_ok vf137_ok⟩⟩⟩⟩⟩⟩⟩,⟨⟨⟨⟨⟨⟨compS_ok vf138_ok,⟨compS_ok vf139_ok,compS_ok vf140_ok⟩⟩,⟨compS_ok vf141_ok,⟨compS_ok vf142_ok,compS_ok vf144_ok⟩⟩⟩,⟨⟨compS_ok vf145_ok,⟨compS_ok vf146_ok,compS_ok vf147_ok⟩⟩,⟨compS_ok vf148_ok,⟨compS_ok vf149_ok,compS_ok vf150_ok⟩⟩⟩⟩,⟨⟨⟨compS_ok vf151_ok,⟨compS_ok vf152_ok,compS_ok vf153_ok⟩⟩,⟨compS_ok vf154_ok,⟨compS_ok vf155_ok,compS_ok vf156_ok⟩⟩⟩,⟨⟨compS_ok vf157_ok,⟨compS_ok vf158_ok,compS_ok vf159_ok⟩⟩,⟨compS_ok vf160_ok,⟨compS_ok vf166_ok,compS_ok vf170_ok⟩⟩⟩⟩⟩,⟨⟨⟨⟨compS_ok vf171_ok,⟨compS_ok vf172_ok,compS_ok vf174_ok⟩⟩,⟨compS_ok vf175_ok,⟨compS_ok vf176_ok,compS_ok vf177_ok⟩⟩⟩,⟨⟨compS_ok vf178_ok,⟨compS_ok vf182_ok,compS_ok vf183_ok⟩⟩,⟨compS_ok vf184_ok,⟨compS_ok vf185_ok,compS_ok vf187_ok⟩⟩⟩⟩,⟨⟨⟨compS_ok vf188_ok,⟨compS_ok vf189_ok,compS_ok vf190_ok⟩⟩,⟨compS_ok vf191_ok,⟨compS_ok vf192_ok,compS_ok vf195_ok⟩⟩⟩,⟨⟨compS_ok vf196_ok,⟨compS_ok vf197_ok,compS_ok vf198_ok⟩⟩,⟨⟨compS_ok vf199_ok,compS_ok vf200_ok⟩,⟨compS_ok vf201_ok,compS_ok vf202_ok⟩⟩⟩⟩⟩⟩,⟨⟨⟨⟨⟨compS_ok vf203_ok,⟨compS_ok vf204_ok,compS_ok vf205_ok⟩⟩,⟨compS_ok vf206_ok,⟨compS_ok vf207_ok,compS_ok vf208_ok⟩⟩⟩,⟨⟨compS_ok vf209_ok,⟨compS_ok vf210_ok,compS_ok vf211_ok⟩⟩,⟨compS_ok vf212_ok,⟨compS_ok vf213_ok,compS_ok vf217_ok⟩⟩⟩⟩,⟨⟨⟨compS_ok vf221_ok,⟨compS_ok vf222_ok,compS_ok vf223_ok⟩⟩,⟨compS_ok vf224_ok,⟨compS_ok vf225_ok,compS_ok vf226_ok⟩⟩⟩,⟨⟨compS_ok vf227_ok,⟨compS_ok vf228_ok,compS_ok vf229_ok⟩⟩,⟨compS_ok vf230_ok,⟨compS_ok vf231_ok,compS_ok vf232_ok⟩⟩⟩⟩⟩,⟨⟨⟨⟨compS_ok vf233_ok,⟨compS_ok vf234_ok,compS_ok vf235_ok⟩⟩,⟨compS_ok vf236_ok,⟨compS_ok vf237_ok,compS_ok vf238_ok⟩⟩⟩,⟨⟨compS_ok vf239_ok,⟨compS_ok vf242_ok,compS_ok vf255_ok⟩⟩,⟨compS_ok vf264_ok,⟨compS_ok vf265_ok,compS_ok vf266_ok⟩⟩⟩⟩,⟨⟨⟨compS_ok vf267_ok,⟨compS_ok vf268_ok,compS_ok vf269_ok⟩⟩,⟨compS_ok vf270_ok,⟨compS_ok vf271_ok,compS_ok vf290_ok⟩⟩⟩,⟨⟨compS_ok vf291_ok,⟨compS_ok vf292_ok,compS_ok vf309_ok⟩⟩,⟨⟨compS_ok vf310_ok,compS_ok vf311_ok⟩,⟨compS_ok vf321_ok,compS_ok vf322_ok⟩⟩⟩⟩⟩⟩⟩⟩
noncomputable def VP0:VProg:=⟨vft.get,noNat⟩
theorem VP0_ok:CProg Tryz.prog VP0:=cprogT_of vft_cf
theorem vf174_nil:VC Tryz.prog 174 [.d (.sl [])] [] ⟨.d (.sl []),[],[],0⟩:=by
 refine nil_nat VP0_ok (by kernel_rfl) (compS_ok vf174_ok) (p0:=[⟨some 2,.mov (.c .nil),none⟩]) (pre:=[⟨some 3,.mov (.t 0),none⟩]) (os:=[]) rfl rfl (fun b=>rfl) (fun b=>?_) (fun G x h=>slice_of h)
 cases b <;>
 ·simp only [vf174_start]
  (repeat (first|refine RX_seq ?_|((first|refine sG rfl ?_|refine RX_draw rfl ?_);try (simp only [go_sem,simprocAttr,frzLoc,rowCells,vAppM,beq_iff_eq,bne_iff_ne,vf174_res,vf174_keep]))))
theorem vf91_nil:VC Tryz.prog 91 [.d (.sl [])] [] ⟨.sl 81 [] .full,[],[],0⟩:=by
 refine nil_natW VP0_ok (by kernel_rfl) (compS_ok vf91_ok) (p0:=[⟨some 2,.mov (.c .nil),none⟩]) (pre:=[⟨some 3,.mov (.t 0),none⟩]) (os:=[]) rfl (fun b=>match b with|true=>⟨.nil,[],[],0⟩|false=>⟨.sl 81 [] .full,[],[],0⟩) (fun b=>by cases b<;>exact ⟨rfl,rfl,rfl⟩) (fun b G v h=>by cases b;exact h;exact full_of_nil h) rfl (fun b=>rfl) (fun b=>?_) (fun G x h=>slice_of h)
 cases b <;>
 ·simp only [vf91_start]
  (repeat (first|refine RX_seq ?_|((first|refine sG rfl ?_|refine RX_draw rfl ?_);try (simp only [go_sem,simprocAttr,frzLoc,rowCells,vAppM,beq_iff_eq,bne_iff_ne,vf91_res,vf91_keep]))))
theorem vf117_nil:VC Tryz.prog 117 [.d (.sl [])] [] ⟨.sl 42 [] .full,[],[],0⟩:=by
 refine nil_natW VP0_ok (by kernel_rfl) (compS_ok vf117_ok) (p0:=[⟨some 2,.mov (.c .nil),none⟩]) (pre:=[⟨some 3,.mov (.t 0),none⟩]) (os:=[]) rfl (fun b=>match b with|true=>⟨.nil,[],[],0⟩|false=>⟨.sl 42 [] .full,[],[],0⟩) (fun b=>by cases b<;>exact ⟨rfl,rfl,rfl⟩) (fun b G v h=>by cases b;exact h;exact full_of_nil h) rfl (fun b=>rfl) (fun b=>?_) (fun G x h=>slice_of h)
 cases b <;>
 ·simp only [vf117_start]
  (repeat (first|refine RX_seq ?_|((first|refine sG rfl ?_|refine RX_draw rfl ?_);try (simp only [go_sem,simprocAttr,frzLoc,rowCells,vAppM,beq_iff_eq,bne_iff_ne,vf117_res,vf117_keep]))))
noncomputable def VP:VProg:=⟨vft.get,cloneNat2 [174] [(91,81),(117,42)]⟩
theorem VP_ok:CProg Tryz.prog VP:=by
 refine cprogT_clone2 vft_cf (fun f hf=>?_) (fun f hf=>?_)
 ·simp only [List.mem_cons,List.not_mem_nil,or_false] at hf
  rcases hf with rfl
  ·exact ⟨vf174_nil,_,compS_ok vf174_ok⟩
 ·simp only [List.mem_cons,List.not_mem_nil,or_false] at hf
  rcases hf with rfl|rfl
  ·exact ⟨vf91_nil,_,compS_ok vf91_ok⟩
  ·exact ⟨vf117_nil,_,compS_ok vf117_ok⟩
theorem vft_ok:∀ f vf,vft.get f=some vf→VP.fn f=some vf:=fun _ _ h=>h
theorem vf91_cnil:CV VP 91 [.d (.sl [])] []=some ⟨.sl 81 [] .full,[],[],0⟩:=CV_nat rfl
theorem vf117_cnil:CV VP 117 [.d (.sl [])] []=some ⟨.sl 42 [] .full,[],[],0⟩:=CV_nat rfl
theorem vf174_cnil:CV VP 174 [.d (.sl [])] []=some ⟨.d (.sl []),[],[],0⟩:=CV_nat rfl
end Go.Proofs.YtlcbgdnfkmbhkaaGreat
