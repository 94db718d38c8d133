/- Texts DTab to DTab. -/
import Derived.Test.YtmaeadedikngoaaGreatDoorA9
set_option linter.unusedVariables false
set_option linter.unusedSimpArgs false
set_option linter.defProp false
set_option maxRecDepth 100000
set_option maxHeartbeats 8000000
namespace Go.Proofs.YtmaeadedikngoaaGreatDoor
noncomputable section
open Go Go.TI
abbrev FJ:Ty:=Mm .i64 8
abbrev FI:Ty:=Mm .i64 8
abbrev Xo:Ty:=tyB
abbrev ty5:Ty:=Mm .u8 1
abbrev ty9:Ty:=tyZ
abbrev abH:Ty:=Mm .i32 4
abbrev X0:Ty:=Aq 5
abbrev XY:Ty:=sr [(0,22),(1,22),(2,22),(3,5),(4,5)] 5 80 false [dx,dx,dx,.int .u8 0,.int .u8 0]
abbrev XW:Ty:=Aq 126
abbrev XV:Ty:=Aq 129
abbrev XT:Ty:=Aq 131
abbrev Qh:Ty:=Aq 9
abbrev XQ:Ty:=Aq 133
abbrev XN:Ty:=sr [(0,25),(1,26),(2,27),(3,28),(4,28),(5,29)] 6 144 false [dx,dx,dx,dx,dx,dx]
abbrev XM:Ty:=Aq 137
abbrev XH:Ty:=Aq 4
abbrev KJ:Ty:=Aq 113
abbrev Qg:Ty:=sr [(0,32),(1,3),(2,33),(3,34)] 4 80 false [dx,dw 0,dx,dx]
abbrev Qf:Ty:=Aq 2
abbrev pX:Ty:=Aq 3
abbrev Xn:Ty:=sr [(0,36),(4,37),(5,37),(6,38)] 7 152 false [dx,dw 0,dx,dx,dx,dx,dx]
abbrev TL:Ty:=Aq 80
abbrev Xm:Ty:=sr [(0,31),(6,3),(7,40),(14,41)] 15 328 false [dx,dx,dx,dx,dx,dx,dw 0,dx,dw 0,dx,dx,dx,dx,dx,dx]
abbrev Xl:Ty:=Aq 54
abbrev Xk:Ty:=sr [(0,3),(1,3),(2,3),(3,3),(4,3),(5,38)] 6 64 false [dw 0,dw 0,dw 0,dw 0,dw 0,dx]
abbrev Xj:Ty:=sr [(0,31),(6,41)] 7 168 false [dx,dx,dx,dx,dx,dx,dx]
abbrev Xi:Ty:=Aq 43
abbrev Xh:Ty:=Mm .i64 8
abbrev Xg:Ty:=Aq 36
abbrev Xf:Ty:=sr [(0,43),(15,67)] 16 352 false [dx,dx,dx,dx,dx,dx,dw 0,dx,dw 0,dx,dx,dx,dx,dx,dx,dx]
abbrev Xe:Ty:=A4 (.func) 8 (.kq)
abbrev Mn:Ty:=Aq 38
abbrev Xd:Ty:=sr [(0,3),(1,3),(2,3),(3,2),(4,3),(5,38),(6,38)] 7 88 false [dw 0,dw 0,dw 0,dw 0,dw 0,dx,dx]
abbrev Xc:Ty:=L9 86
abbrev Xb:Ty:=sr [(0,22),(1,3)] 2 32 false [dx,dw 0]
abbrev Xa:Ty:=Aq 202
abbrev W9:Ty:=sr [(0,36),(4,37),(5,37),(6,92)] 7 152 false [dx,dw 0,dx,dx,dx,dx,dx]
abbrev W8:Ty:=Aq 183
abbrev W7:Ty:=sr [(0,31),(6,97)] 7 168 false [dx,dx,dx,dx,dx,dx,dx]
abbrev Sp:Ty:=Aq 151
abbrev So:Ty:=A4 (.func) 8 (.kq)
abbrev zG:Ty:=sr [(0,3),(1,3),(2,4)] 3 24 false [dw 0,dw 0,.bool false]
abbrev Sl:Ty:=Aq 232
abbrev Sk:Ty:=Aq 174
abbrev Sj:Ty:=sr [(0,116),(1,117)] 2 48 false [dx,dx]
abbrev Sh:Ty:=sr [(0,9),(1,3),(2,3),(3,4),(4,2)] 5 48 false [.str [],dw 0,dw 0,.bool false,dw 0]
abbrev Sg:Ty:=sr [(0,9),(1,4)] 2 24 false [.str [],.bool false]
abbrev Sf:Ty:=sr [(0,9),(1,3)] 2 24 false [.str [],dw 0]
abbrev Se:Ty:=sr [(0,3),(1,3),(2,3)] 3 24 false [dw 0,dw 0,dw 0]
abbrev FN:Ty:=sr [(0,3),(1,38)] 2 32 false [dw 0,dx]
abbrev Sd:Ty:=sr [(0,3),(1,3)] 2 16 false [dw 0,dw 0]
abbrev X6:Ty:=A4 (.func) 8 (.kq)
abbrev X5:Ty:=Aq 227
abbrev X4:Ty:=L9 164
abbrev X3:Ty:=sr [(0,159),(1,3)] 2 32 false [dx,dw 0]
abbrev X2:Ty:=L9 177
abbrev FM:Ty:=Aq 211
abbrev Sb:Ty:=sr [(0,9),(1,3),(2,28),(3,172)] 4 72 false [.str [],dw 0,dx,dx]
abbrev Sa:Ty:=Aq 181
abbrev R9:Ty:=sr [(0,31),(6,28),(7,175),(8,3),(9,3)] 10 208 false [dx,dx,dx,dx,dx,dx,dx,dx,dw 0,dw 0]
abbrev R8:Ty:=sr [(0,3),(1,3),(2,3),(3,3),(4,2),(5,3)] 6 48 false [dw 0,dw 0,dw 0,dw 0,dw 0,dw 0]
abbrev R7:Ty:=sr [(0,3),(1,175)] 2 32 false [dw 0,dx]
abbrev Jv:Ty:=sr [(0,3),(1,37),(2,77),(3,3)] 4 64 false [dw 0,dx,dx,dw 0]
abbrev X1:Ty:=L9 205
abbrev R6:Ty:=sr [(0,84),(1,3),(2,3),(3,4),(4,4),(5,4),(6,4),(7,28)] 8 56 false [.j4,dw 0,dw 0,.bool false,.bool false,.bool false,.bool false,dx]
abbrev R5:Ty:=Aq 209
abbrev R4:Ty:=sr [(0,3),(1,2),(2,9),(3,207)] 4 56 false [dw 0,dw 0,.str [],dx]
abbrev FL:Ty:=sr [(0,3),(1,3),(2,9),(3,9),(4,207),(5,209),(9,172),(10,172)] 11 176 false [dw 0,dw 0,.str [],.str [],dx,dw 0,dw 0,.str [],dx,dx,dx]
abbrev Mo:Ty:=Mm .u64 8
abbrev XZ:Ty:=sr [(0,3),(1,9),(2,3)] 3 32 false [dw 0,.str [],dw 0]
abbrev R3:Ty:=sr [(0,3),(1,3),(2,9),(3,3),(4,2),(5,9)] 6 64 false [dw 0,dw 0,.str [],dw 0,dw 0,.str []]
abbrev XX:Ty:=L9 242
abbrev R2:Ty:=sr [(0,119),(2,3),(3,172),(4,28),(5,28)] 6 128 false [dx,dx,dw 0,dx,dx,dx]
abbrev XU:Ty:=Mm .i64 8
abbrev XS:Ty:=Mm .u32 4
abbrev R1:Ty:=Mm .u64 8
abbrev XR:Ty:=L9 232
abbrev XP:Ty:=Mm .u64 8
abbrev XO:Ty:=L9 3
abbrev XL:Ty:=Qe 22 9 22 352 false (List.replicate 22 (T.str []))
abbrev XJ:Ty:=Qe 256 4 256 256 false (List.replicate 256 (T.bool false))
abbrev XI:Ty:=L9 324
abbrev XG:Ty:=A4 (.iface) 16 (.ko)
abbrev XF:Ty:=L9 211
abbrev XE:Ty:=A4 (.func) 8 (.kq)
abbrev XD:Ty:=Mm .i64 8
abbrev XC:Ty:=L9 365
abbrev XB:Ty:=Qe 256 5 256 256 false (List.replicate 256 (T.int .u8 0))
abbrev XA:Ty:=sr [(0,5),(1,5)] 2 2 false [.int .u8 0,.int .u8 0]
abbrev Xz:Ty:=Qe 16 358 32 32 false (List.replicate 32 (T.int .u8 0))
abbrev Xy:Ty:=sr [(0,9),(1,9),(2,330)] 3 48 false [.str [],.str [],.ko]
abbrev Xx:Ty:=L9 5
abbrev Xw:Ty:=L9 371
abbrev Xv:Ty:=sr [(0,9)] 1 16 false [.str []]
abbrev Xu:Ty:=Qe 24 5 24 24 false (List.replicate 24 (T.int .u8 0))
abbrev Xs:Ty:=Qe 20 272 20 160 false (List.replicate 20 (T.int .u64 0))
abbrev Xr:Ty:=Qe 65 5 65 65 false (List.replicate 65 (T.int .u8 0))
abbrev Xq:Ty:=Qe 32 5 32 32 false (List.replicate 32 (T.int .u8 0))
abbrev Xp:Ty:=Qe 64 5 64 64 false (List.replicate 64 (T.int .u8 0))
def iH:Tree Ty:=(.node (.node (.node (.node (.node (.node (.node .nil 2 (FJ) .nil) 3 (FI) (.node .nil 4 (Xo) .nil)) 5 (ty5) (.node (.node .nil 9 (ty9) .nil) 21 (abH) .nil)) 22 (X0) (.node (.node (.node .nil 24 (XY) .nil) 25 (XW) .nil) 26 (XV) (.node (.node .nil 27 (XT) .nil) 28 (Qh) .nil))) 29 (XQ) (.node (.node (.node (.node .nil 31 (XN) .nil) 32 (XM) .nil) 33 (XH) (.node (.node .nil 34 (KJ) .nil) 36 (Qg) .nil)) 37 (Qf) (.node (.node (.node .nil 38 (pX) .nil) 40 (Xn) .nil) 41 (TL) (.node (.node .nil 43 (Xm) .nil) 46 (Xl) .nil)))) 54 (Xk) (.node (.node (.node (.node (.node .nil 61 (Xj) .nil) 63 (Xi) (.node .nil 64 (Xh) .nil)) 67 (Xg) (.node (.node .nil 69 (Xf) .nil) 73 (Xe) .nil)) 77 (Mn) (.node (.node (.node .nil 80 (Xd) .nil) 84 (Xc) .nil) 86 (Xb) (.node (.node .nil 92 (Xa) .nil) 94 (W9) .nil))) 97 (W8) (.node (.node (.node (.node .nil 99 (W7) .nil) 101 (Sp) .nil) 110 (So) (.node (.node .nil 113 (zG) .nil) 116 (Sl) .nil)) 117 (Sk) (.node (.node (.node .nil 119 (Sj) .nil) 126 (Sh) .nil) 129 (Sg) (.node (.node .nil 131 (Sf) .nil) 133 (Se) .nil))))) 137 (FN) (.node (.node (.node (.node (.node (.node .nil 151 (Sd) .nil) 156 (X6) (.node .nil 159 (X5) .nil)) 162 (X4) (.node (.node .nil 164 (X3) .nil) 171 (X2) .nil)) 172 (FM) (.node (.node (.node .nil 174 (Sb) .nil) 175 (Sa) .nil) 177 (R9) (.node (.node .nil 181 (R8) .nil) 183 (R7) .nil))) 202 (Jv) (.node (.node (.node (.node .nil 203 (X1) .nil) 205 (R6) .nil) 207 (R5) (.node (.node .nil 209 (R4) .nil) 211 (FL) .nil)) 220 (Mo) (.node (.node (.node .nil 227 (XZ) .nil) 232 (R3) .nil) 240 (XX) (.node (.node .nil 242 (R2) .nil) 262 (XU) .nil)))) 270 (XS) (.node (.node (.node (.node (.node .nil 272 (R1) .nil) 277 (XR) (.node .nil 296 (XP) .nil)) 300 (XO) (.node (.node .nil 321 (XL) .nil) 324 (XJ) .nil)) 328 (XI) (.node (.node (.node .nil 330 (XG) .nil) 334 (XF) .nil) 335 (XE) (.node (.node .nil 349 (XD) .nil) 352 (XC) .nil))) 356 (XB) (.node (.node (.node (.node .nil 358 (XA) .nil) 359 (Xz) .nil) 365 (Xy) (.node (.node .nil 368 (Xx) .nil) 369 (Xw) .nil)) 371 (Xv) (.node (.node (.node .nil 374 (Xu) .nil) 379 (Xs) .nil) 380 (Xr) (.node (.node .nil 381 (Xq) .nil) 382 (Xp) .nil))))))
def gl0:List T:=[T.str [118,97,114],T.str [118,111,108,97,116,105,108,101],T.str [109,117,116,101,120],T.str [114,119,108,111,99,107],T.str [99,111,110,100],T.str [102,117,116,117,114,101],T.str [116,104,114,101,97,100],T.str [105,102],T.str [101,108,115,101],T.str [119,104,105,108,101],T.str [108,111,99,107],T.str [114,101,97,100],T.str [119,114,105,116,101],T.str [116,114,97,110,115,97,99,116,105,111,110],T.str [97,116,111,109,105,99],T.str [119,97,105,116],T.str [110,111,116,105,102,121],T.str [110,111,116,105,102,121,97,108,108],T.str [115,112,97,119,110],T.str [106,111,105,110],T.str [115,101,116],T.str [103,101,116]]
def gl6:List T:=[T.int .u64 1,T.int .u64 10,T.int .u64 100,T.int .u64 1000,T.int .u64 10000,T.int .u64 100000,T.int .u64 1000000,T.int .u64 10000000,T.int .u64 100000000,T.int .u64 1000000000,T.int .u64 10000000000,T.int .u64 100000000000,T.int .u64 1000000000000,T.int .u64 10000000000000,T.int .u64 100000000000000,T.int .u64 1000000000000000,T.int .u64 10000000000000000,T.int .u64 100000000000000000,T.int .u64 1000000000000000000,T.int .u64 10000000000000000000]
def gl7:List T:=[T.int .u8 0,T.int .u8 1,T.int .u8 28,T.int .u8 2,T.int .u8 29,T.int .u8 14,T.int .u8 24,T.int .u8 3,T.int .u8 30,T.int .u8 22,T.int .u8 20,T.int .u8 15,T.int .u8 25,T.int .u8 17,T.int .u8 4,T.int .u8 8,T.int .u8 31,T.int .u8 27,T.int .u8 13,T.int .u8 23,T.int .u8 21,T.int .u8 19,T.int .u8 16,T.int .u8 7,T.int .u8 26,T.int .u8 12,T.int .u8 18,T.int .u8 6,T.int .u8 11,T.int .u8 5,T.int .u8 10,T.int .u8 9]
def gl8:List T:=[T.int .u8 0,T.int .u8 1,T.int .u8 56,T.int .u8 2,T.int .u8 57,T.int .u8 49,T.int .u8 28,T.int .u8 3,T.int .u8 61,T.int .u8 58,T.int .u8 42,T.int .u8 50,T.int .u8 38,T.int .u8 29,T.int .u8 17,T.int .u8 4,T.int .u8 62,T.int .u8 47,T.int .u8 59,T.int .u8 36,T.int .u8 45,T.int .u8 43,T.int .u8 51,T.int .u8 22,T.int .u8 53,T.int .u8 39,T.int .u8 33,T.int .u8 30,T.int .u8 24,T.int .u8 18,T.int .u8 12,T.int .u8 5,T.int .u8 63,T.int .u8 55,T.int .u8 48,T.int .u8 27,T.int .u8 60,T.int .u8 41,T.int .u8 37,T.int .u8 16,T.int .u8 46,T.int .u8 35,T.int .u8 44,T.int .u8 21,T.int .u8 52,T.int .u8 32,T.int .u8 23,T.int .u8 11,T.int .u8 54,T.int .u8 26,T.int .u8 40,T.int .u8 15,T.int .u8 34,T.int .u8 20,T.int .u8 31,T.int .u8 10,T.int .u8 25,T.int .u8 14,T.int .u8 19,T.int .u8 9,T.int .u8 13,T.int .u8 8,T.int .u8 7,T.int .u8 6]
def gls:Tree (List T):=(.node (.node (.node .nil 0 (gl0) .nil) 6 (gl6) .nil) 7 (gl7) (.node .nil 8 (gl8) .nil))
def cx:Ctx:={ty:=λb=>iH.find b,fn:=λ_=>none,gl:=λa=>gls.find a}
@[simp] theorem yh:cx.ty 2=some FJ:=by kernel_rfl
@[simp] theorem nM:cx.ty 3=some FI:=by kernel_rfl
@[simp] theorem OL:cx.ty 4=some Xo:=by kernel_rfl
@[simp] theorem OJ:cx.ty 5=some ty5:=by kernel_rfl
@[simp] theorem u5:cx.ty 9=some ty9:=by kernel_rfl
@[simp] theorem Vb:cx.ty 22=some X0:=by kernel_rfl
@[simp] theorem ON:cx.ty 24=some XY:=by kernel_rfl
@[simp] theorem Va:cx.ty 25=some XW:=by kernel_rfl
@[simp] theorem OM:cx.ty 26=some XV:=by kernel_rfl
@[simp] theorem U9:cx.ty 27=some XT:=by kernel_rfl
@[simp] theorem pO:cx.ty 28=some Qh:=by kernel_rfl
@[simp] theorem U8:cx.ty 29=some XQ:=by kernel_rfl
@[simp] theorem ac0:cx.ty 31=some XN:=by kernel_rfl
@[simp] theorem I3:cx.ty 32=some XM:=by kernel_rfl
@[simp] theorem Fe:cx.ty 33=some XH:=by kernel_rfl
@[simp] theorem Cf:cx.ty 34=some KJ:=by kernel_rfl
@[simp] theorem U7:cx.ty 36=some Qg:=by kernel_rfl
@[simp] theorem og:cx.ty 37=some Qf:=by kernel_rfl
@[simp] theorem kG:cx.ty 38=some pX:=by kernel_rfl
@[simp] theorem acZ:cx.ty 40=some Xn:=by kernel_rfl
@[simp] theorem OK:cx.ty 41=some TL:=by kernel_rfl
@[simp] theorem U6:cx.ty 43=some Xm:=by kernel_rfl
@[simp] theorem acY:cx.ty 46=some Xl:=by kernel_rfl
@[simp] theorem OI:cx.ty 54=some Xk:=by kernel_rfl
@[simp] theorem acX:cx.ty 61=some Xj:=by kernel_rfl
@[simp] theorem U5:cx.ty 63=some Xi:=by kernel_rfl
@[simp] theorem acW:cx.ty 64=some Xh:=by kernel_rfl
@[simp] theorem U4:cx.ty 67=some Xg:=by kernel_rfl
@[simp] theorem acV:cx.ty 69=some Xf:=by kernel_rfl
@[simp] theorem acU:cx.ty 73=some Xe:=by kernel_rfl
@[simp] theorem U3:cx.ty 77=some Mn:=by kernel_rfl
@[simp] theorem OH:cx.ty 80=some Xd:=by kernel_rfl
@[simp] theorem acT:cx.ty 84=some Xc:=by kernel_rfl
@[simp] theorem acS:cx.ty 86=some Xb:=by kernel_rfl
@[simp] theorem OG:cx.ty 92=some Xa:=by kernel_rfl
@[simp] theorem acR:cx.ty 94=some W9:=by kernel_rfl
@[simp] theorem U2:cx.ty 97=some W8:=by kernel_rfl
@[simp] theorem acQ:cx.ty 99=some W7:=by kernel_rfl
@[simp] theorem Rm:cx.ty 101=some Sp:=by kernel_rfl
@[simp] theorem abf:cx.ty 110=some So:=by kernel_rfl
@[simp] theorem AR:cx.ty 113=some zG:=by kernel_rfl
@[simp] theorem abe:cx.ty 116=some Sl:=by kernel_rfl
@[simp] theorem Rl:cx.ty 117=some Sk:=by kernel_rfl
@[simp] theorem abd:cx.ty 119=some Sj:=by kernel_rfl
@[simp] theorem Rk:cx.ty 126=some Sh:=by kernel_rfl
@[simp] theorem Kc:cx.ty 129=some Sg:=by kernel_rfl
@[simp] theorem Rj:cx.ty 131=some Sf:=by kernel_rfl
@[simp] theorem Ri:cx.ty 133=some Se:=by kernel_rfl
@[simp] theorem Ff:cx.ty 137=some FN:=by kernel_rfl
@[simp] theorem Rh:cx.ty 151=some Sd:=by kernel_rfl
@[simp] theorem yi:cx.ty 172=some FM:=by kernel_rfl
@[simp] theorem Rg:cx.ty 174=some Sb:=by kernel_rfl
@[simp] theorem Kb:cx.ty 175=some Sa:=by kernel_rfl
@[simp] theorem abc:cx.ty 177=some R9:=by kernel_rfl
@[simp] theorem Rf:cx.ty 181=some R8:=by kernel_rfl
@[simp] theorem Re:cx.ty 183=some R7:=by kernel_rfl
@[simp] theorem Ka:cx.ty 202=some Jv:=by kernel_rfl
@[simp] theorem abb:cx.ty 205=some R6:=by kernel_rfl
@[simp] theorem aba:cx.ty 207=some R5:=by kernel_rfl
@[simp] theorem aa9:cx.ty 209=some R4:=by kernel_rfl
@[simp] theorem yg:cx.ty 211=some FL:=by kernel_rfl
@[simp] theorem Rc:cx.ty 220=some Mo:=by kernel_rfl
@[simp] theorem aa8:cx.ty 232=some R3:=by kernel_rfl
@[simp] theorem aa7:cx.ty 242=some R2:=by kernel_rfl
@[simp] theorem aa6:cx.ty 272=some R1:=by kernel_rfl
end
end Go.Proofs.YtmaeadedikngoaaGreatDoor
