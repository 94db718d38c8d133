/- Texts DTab to DTab. -/
import Derived.Test.YtmaeadedikngoaaGreatDoorA8
set_option linter.all false
set_option maxRecDepth 100000
set_option maxHeartbeats 8000000
namespace Go.Proofs.YtmaeadedikngoaaGreatDoor
noncomputable section
open Go Go.TI
abbrev GE:Ty:=Nz .i64 8
abbrev Ed:Ty:=Nz .i64 8
abbrev YW:Ty:=tyB
abbrev ty5:Ty:=Nz .u8 1
abbrev ty9:Ty:=tyZ
abbrev adn:Ty:=Nz .i32 4
abbrev Zy:Ty:=AX 5
abbrev Zw:Ty:=tL [(0,22),(1,22),(2,22),(3,5),(4,5)] 5 80 false [dH,dH,dH,.int .u8 0,.int .u8 0]
abbrev Zu:Ty:=AX 126
abbrev Zt:Ty:=AX 129
abbrev Zr:Ty:=AX 131
abbrev Rv:Ty:=AX 9
abbrev Zo:Ty:=AX 133
abbrev Zl:Ty:=tL [(0,25),(1,26),(2,27),(3,28),(4,28),(5,29)] 6 144 false [dH,dH,dH,dH,dH,dH]
abbrev Zk:Ty:=AX 137
abbrev Zg:Ty:=AX 4
abbrev NB:Ty:=AX 113
abbrev U6:Ty:=tL [(0,32),(1,3),(2,33),(3,34)] 4 80 false [dH,dG 0,dH,dH]
abbrev Ru:Ty:=AX 2
abbrev nL:Ty:=AX 3
abbrev YV:Ty:=tL [(0,36),(4,37),(5,37),(6,38)] 7 152 false [dH,dG 0,dH,dH,dH,dH,dH]
abbrev U5:Ty:=AX 80
abbrev YU:Ty:=tL [(0,31),(6,3),(7,40),(14,41)] 15 328 false [dH,dH,dH,dH,dH,dH,dG 0,dH,dG 0,dH,dH,dH,dH,dH,dH]
abbrev YT:Ty:=AX 54
abbrev U4:Ty:=tL [(0,3),(1,3),(2,3),(3,3),(4,3),(5,38)] 6 64 false [dG 0,dG 0,dG 0,dG 0,dG 0,dH]
abbrev YS:Ty:=tL [(0,31),(6,41)] 7 168 false [dH,dH,dH,dH,dH,dH,dH]
abbrev YR:Ty:=AX 43
abbrev YQ:Ty:=Nz .i64 8
abbrev YP:Ty:=AX 36
abbrev YO:Ty:=tL [(0,43),(15,67)] 16 352 false [dH,dH,dH,dH,dH,dH,dG 0,dH,dG 0,dH,dH,dH,dH,dH,dH,dH]
abbrev YN:Ty:=AY (.func) 8 (.kK)
abbrev NA:Ty:=AX 38
abbrev YM:Ty:=tL [(0,3),(1,3),(2,3),(3,2),(4,3),(5,38),(6,38)] 7 88 false [dG 0,dG 0,dG 0,dG 0,dG 0,dH,dH]
abbrev YL:Ty:=Nl 86
abbrev YK:Ty:=tL [(0,22),(1,3)] 2 32 false [dH,dG 0]
abbrev YJ:Ty:=AX 202
abbrev YI:Ty:=tL [(0,36),(4,37),(5,37),(6,92)] 7 152 false [dH,dG 0,dH,dH,dH,dH,dH]
abbrev YH:Ty:=AX 183
abbrev YG:Ty:=tL [(0,31),(6,97)] 7 168 false [dH,dH,dH,dH,dH,dH,dH]
abbrev T3:Ty:=AX 151
abbrev T2:Ty:=AY (.func) 8 (.kK)
abbrev Av:Ty:=tL [(0,3),(1,3),(2,4)] 3 24 false [dG 0,dG 0,.bool false]
abbrev T1:Ty:=AX 232
abbrev T0:Ty:=AX 174
abbrev TZ:Ty:=tL [(0,116),(1,117)] 2 48 false [dH,dH]
abbrev TY:Ty:=tL [(0,9),(1,3),(2,3),(3,4),(4,2)] 5 48 false [.str [],dG 0,dG 0,.bool false,dG 0]
abbrev TX:Ty:=tL [(0,9),(1,4)] 2 24 false [.str [],.bool false]
abbrev TW:Ty:=tL [(0,9),(1,3)] 2 24 false [.str [],dG 0]
abbrev TV:Ty:=tL [(0,3),(1,3),(2,3)] 3 24 false [dG 0,dG 0,dG 0]
abbrev GJ:Ty:=tL [(0,3),(1,38)] 2 32 false [dG 0,dH]
abbrev TU:Ty:=tL [(0,3),(1,3)] 2 16 false [dG 0,dG 0]
abbrev ZE:Ty:=AY (.func) 8 (.kK)
abbrev ZD:Ty:=AX 227
abbrev ZC:Ty:=Nl 164
abbrev ZB:Ty:=tL [(0,159),(1,3)] 2 32 false [dH,dG 0]
abbrev ZA:Ty:=Nl 177
abbrev GI:Ty:=AX 211
abbrev TT:Ty:=tL [(0,9),(1,3),(2,28),(3,172)] 4 72 false [.str [],dG 0,dH,dH]
abbrev TS:Ty:=AX 181
abbrev TR:Ty:=tL [(0,31),(6,28),(7,175),(8,3),(9,3)] 10 208 false [dH,dH,dH,dH,dH,dH,dH,dH,dG 0,dG 0]
abbrev TQ:Ty:=tL [(0,3),(1,3),(2,3),(3,3),(4,2),(5,3)] 6 48 false [dG 0,dG 0,dG 0,dG 0,dG 0,dG 0]
abbrev TP:Ty:=tL [(0,3),(1,175)] 2 32 false [dG 0,dH]
abbrev KB:Ty:=tL [(0,3),(1,37),(2,77),(3,3)] 4 64 false [dG 0,dH,dH,dG 0]
abbrev Zz:Ty:=Nl 205
abbrev TO:Ty:=tL [(0,84),(1,3),(2,3),(3,4),(4,4),(5,4),(6,4),(7,28)] 8 56 false [.kw,dG 0,dG 0,.bool false,.bool false,.bool false,.bool false,dH]
abbrev TN:Ty:=AX 209
abbrev TM:Ty:=tL [(0,3),(1,2),(2,9),(3,207)] 4 56 false [dG 0,dG 0,.str [],dH]
abbrev GH:Ty:=tL [(0,3),(1,3),(2,9),(3,9),(4,207),(5,209),(9,172),(10,172)] 11 176 false [dG 0,dG 0,.str [],.str [],dH,dG 0,dG 0,.str [],dH,dH,dH]
abbrev ND:Ty:=Nz .u64 8
abbrev Zx:Ty:=tL [(0,3),(1,9),(2,3)] 3 32 false [dG 0,.str [],dG 0]
abbrev TL:Ty:=tL [(0,3),(1,3),(2,9),(3,3),(4,2),(5,9)] 6 64 false [dG 0,dG 0,.str [],dG 0,dG 0,.str []]
abbrev Zv:Ty:=Nl 242
abbrev TK:Ty:=tL [(0,119),(2,3),(3,172),(4,28),(5,28)] 6 128 false [dH,dH,dG 0,dH,dH,dH]
abbrev Zs:Ty:=Nz .i64 8
abbrev Zq:Ty:=Nz .u32 4
abbrev TJ:Ty:=Nz .u64 8
abbrev Zp:Ty:=Nl 232
abbrev Zn:Ty:=Nz .u64 8
abbrev Zm:Ty:=Nl 3
abbrev Zj:Ty:=Rt 22 9 22 352 false (List.replicate 22 (T.str []))
abbrev Zi:Ty:=Rt 256 4 256 256 false (List.replicate 256 (T.bool false))
abbrev Zh:Ty:=Nl 324
abbrev Zf:Ty:=AY (.iface) 16 (.kM)
abbrev Ze:Ty:=Nl 211
abbrev Zd:Ty:=AY (.func) 8 (.kK)
abbrev Zc:Ty:=Nz .i64 8
abbrev Zb:Ty:=Nl 365
abbrev Za:Ty:=Rt 256 5 256 256 false (List.replicate 256 (T.int .u8 0))
abbrev Y9:Ty:=tL [(0,5),(1,5)] 2 2 false [.int .u8 0,.int .u8 0]
abbrev Y8:Ty:=Rt 16 358 32 32 false (List.replicate 32 (T.int .u8 0))
abbrev Y7:Ty:=tL [(0,9),(1,9),(2,330)] 3 48 false [.str [],.str [],.kM]
abbrev Y6:Ty:=Nl 5
abbrev Y5:Ty:=Nl 371
abbrev Y4:Ty:=tL [(0,9)] 1 16 false [.str []]
abbrev Y3:Ty:=Rt 24 5 24 24 false (List.replicate 24 (T.int .u8 0))
abbrev Y2:Ty:=Rt 20 272 20 160 false (List.replicate 20 (T.int .u64 0))
abbrev YZ:Ty:=Rt 65 5 65 65 false (List.replicate 65 (T.int .u8 0))
abbrev YY:Ty:=Rt 32 5 32 32 false (List.replicate 32 (T.int .u8 0))
abbrev YX:Ty:=Rt 64 5 64 64 false (List.replicate 64 (T.int .u8 0))
def iZ:Tree Ty:=(.node (.node (.node (.node (.node (.node (.node .nil 2 (GE) .nil) 3 (Ed) (.node .nil 4 (YW) .nil)) 5 (ty5) (.node (.node .nil 9 (ty9) .nil) 21 (adn) .nil)) 22 (Zy) (.node (.node (.node .nil 24 (Zw) .nil) 25 (Zu) .nil) 26 (Zt) (.node (.node .nil 27 (Zr) .nil) 28 (Rv) .nil))) 29 (Zo) (.node (.node (.node (.node .nil 31 (Zl) .nil) 32 (Zk) .nil) 33 (Zg) (.node (.node .nil 34 (NB) .nil) 36 (U6) .nil)) 37 (Ru) (.node (.node (.node .nil 38 (nL) .nil) 40 (YV) .nil) 41 (U5) (.node (.node .nil 43 (YU) .nil) 46 (YT) .nil)))) 54 (U4) (.node (.node (.node (.node (.node .nil 61 (YS) .nil) 63 (YR) (.node .nil 64 (YQ) .nil)) 67 (YP) (.node (.node .nil 69 (YO) .nil) 73 (YN) .nil)) 77 (NA) (.node (.node (.node .nil 80 (YM) .nil) 84 (YL) .nil) 86 (YK) (.node (.node .nil 92 (YJ) .nil) 94 (YI) .nil))) 97 (YH) (.node (.node (.node (.node .nil 99 (YG) .nil) 101 (T3) .nil) 110 (T2) (.node (.node .nil 113 (Av) .nil) 116 (T1) .nil)) 117 (T0) (.node (.node (.node .nil 119 (TZ) .nil) 126 (TY) .nil) 129 (TX) (.node (.node .nil 131 (TW) .nil) 133 (TV) .nil))))) 137 (GJ) (.node (.node (.node (.node (.node (.node .nil 151 (TU) .nil) 156 (ZE) (.node .nil 159 (ZD) .nil)) 162 (ZC) (.node (.node .nil 164 (ZB) .nil) 171 (ZA) .nil)) 172 (GI) (.node (.node (.node .nil 174 (TT) .nil) 175 (TS) .nil) 177 (TR) (.node (.node .nil 181 (TQ) .nil) 183 (TP) .nil))) 202 (KB) (.node (.node (.node (.node .nil 203 (Zz) .nil) 205 (TO) .nil) 207 (TN) (.node (.node .nil 209 (TM) .nil) 211 (GH) .nil)) 220 (ND) (.node (.node (.node .nil 227 (Zx) .nil) 232 (TL) .nil) 240 (Zv) (.node (.node .nil 242 (TK) .nil) 262 (Zs) .nil)))) 270 (Zq) (.node (.node (.node (.node (.node .nil 272 (TJ) .nil) 277 (Zp) (.node .nil 296 (Zn) .nil)) 300 (Zm) (.node (.node .nil 321 (Zj) .nil) 324 (Zi) .nil)) 328 (Zh) (.node (.node (.node .nil 330 (Zf) .nil) 334 (Ze) .nil) 335 (Zd) (.node (.node .nil 349 (Zc) .nil) 352 (Zb) .nil))) 356 (Za) (.node (.node (.node (.node .nil 358 (Y9) .nil) 359 (Y8) .nil) 365 (Y7) (.node (.node .nil 368 (Y6) .nil) 369 (Y5) .nil)) 371 (Y4) (.node (.node (.node .nil 374 (Y3) .nil) 379 (Y2) .nil) 380 (YZ) (.node (.node .nil 381 (YY) .nil) 382 (YX) .nil))))))
def gl0:List T:=[T.str [118,97,114],T.str [118,111,108,97,116,105,108,101],T.str [109,117,116,101,120],T.str [114,119,108,111,99,107],T.str [99,111,110,100],T.str [102,117,116,117,114,101],T.str [116,104,114,101,97,100],T.str [105,102],T.str [101,108,115,101],T.str [119,104,105,108,101],T.str [108,111,99,107],T.str [114,101,97,100],T.str [119,114,105,116,101],T.str [116,114,97,110,115,97,99,116,105,111,110],T.str [97,116,111,109,105,99],T.str [119,97,105,116],T.str [110,111,116,105,102,121],T.str [110,111,116,105,102,121,97,108,108],T.str [115,112,97,119,110],T.str [106,111,105,110],T.str [115,101,116],T.str [103,101,116]]
def gl6:List T:=[T.int .u64 1,T.int .u64 10,T.int .u64 100,T.int .u64 1000,T.int .u64 10000,T.int .u64 100000,T.int .u64 1000000,T.int .u64 10000000,T.int .u64 100000000,T.int .u64 1000000000,T.int .u64 10000000000,T.int .u64 100000000000,T.int .u64 1000000000000,T.int .u64 10000000000000,T.int .u64 100000000000000,T.int .u64 1000000000000000,T.int .u64 10000000000000000,T.int .u64 100000000000000000,T.int .u64 1000000000000000000,T.int .u64 10000000000000000000]
def gl7:List T:=[T.int .u8 0,T.int .u8 1,T.int .u8 28,T.int .u8 2,T.int .u8 29,T.int .u8 14,T.int .u8 24,T.int .u8 3,T.int .u8 30,T.int .u8 22,T.int .u8 20,T.int .u8 15,T.int .u8 25,T.int .u8 17,T.int .u8 4,T.int .u8 8,T.int .u8 31,T.int .u8 27,T.int .u8 13,T.int .u8 23,T.int .u8 21,T.int .u8 19,T.int .u8 16,T.int .u8 7,T.int .u8 26,T.int .u8 12,T.int .u8 18,T.int .u8 6,T.int .u8 11,T.int .u8 5,T.int .u8 10,T.int .u8 9]
def gl8:List T:=[T.int .u8 0,T.int .u8 1,T.int .u8 56,T.int .u8 2,T.int .u8 57,T.int .u8 49,T.int .u8 28,T.int .u8 3,T.int .u8 61,T.int .u8 58,T.int .u8 42,T.int .u8 50,T.int .u8 38,T.int .u8 29,T.int .u8 17,T.int .u8 4,T.int .u8 62,T.int .u8 47,T.int .u8 59,T.int .u8 36,T.int .u8 45,T.int .u8 43,T.int .u8 51,T.int .u8 22,T.int .u8 53,T.int .u8 39,T.int .u8 33,T.int .u8 30,T.int .u8 24,T.int .u8 18,T.int .u8 12,T.int .u8 5,T.int .u8 63,T.int .u8 55,T.int .u8 48,T.int .u8 27,T.int .u8 60,T.int .u8 41,T.int .u8 37,T.int .u8 16,T.int .u8 46,T.int .u8 35,T.int .u8 44,T.int .u8 21,T.int .u8 52,T.int .u8 32,T.int .u8 23,T.int .u8 11,T.int .u8 54,T.int .u8 26,T.int .u8 40,T.int .u8 15,T.int .u8 34,T.int .u8 20,T.int .u8 31,T.int .u8 10,T.int .u8 25,T.int .u8 14,T.int .u8 19,T.int .u8 9,T.int .u8 13,T.int .u8 8,T.int .u8 7,T.int .u8 6]
def gls:Tree (List T):=(.node (.node (.node .nil 0 (gl0) .nil) 6 (gl6) .nil) 7 (gl7) (.node .nil 8 (gl8) .nil))
def cx:Ctx:={ty:=λb=>iZ.find b,fn:=λ_=>none,gl:=λa=>gls.find a}
@[simp] theorem yT:cx.ty 2=some GE:=dK
@[simp] theorem mM:cx.ty 3=some Ed:=dK
@[simp] theorem P7:cx.ty 4=some YW:=dK
@[simp] theorem PZ:cx.ty 5=some ty5:=dK
@[simp] theorem wa:cx.ty 9=some ty9:=dK
@[simp] theorem WC:cx.ty 22=some Zy:=dK
@[simp] theorem P9:cx.ty 24=some Zw:=dK
@[simp] theorem WB:cx.ty 25=some Zu:=dK
@[simp] theorem P8:cx.ty 26=some Zt:=dK
@[simp] theorem WA:cx.ty 27=some Zr:=dK
@[simp] theorem qx:cx.ty 28=some Rv:=dK
@[simp] theorem Wy:cx.ty 29=some Zo:=dK
@[simp] theorem aeF:cx.ty 31=some Zl:=dK
@[simp] theorem J8:cx.ty 32=some Zk:=dK
@[simp] theorem Gd:cx.ty 33=some Zg:=dK
@[simp] theorem CX:cx.ty 34=some NB:=dK
@[simp] theorem Wx:cx.ty 36=some U6:=dK
@[simp] theorem oR:cx.ty 37=some Ru:=dK
@[simp] theorem kz:cx.ty 38=some nL:=dK
@[simp] theorem aeE:cx.ty 40=some YV:=dK
@[simp] theorem P5:cx.ty 41=some U5:=dK
@[simp] theorem Ww:cx.ty 43=some YU:=dK
@[simp] theorem Wv:cx.ty 46=some YT:=dK
@[simp] theorem J7:cx.ty 54=some U4:=dK
@[simp] theorem aeD:cx.ty 61=some YS:=dK
@[simp] theorem Wu:cx.ty 63=some YR:=dK
@[simp] theorem aeC:cx.ty 64=some YQ:=dK
@[simp] theorem Wt:cx.ty 67=some YP:=dK
@[simp] theorem aeB:cx.ty 69=some YO:=dK
@[simp] theorem aeA:cx.ty 73=some YN:=dK
@[simp] theorem Ws:cx.ty 77=some NA:=dK
@[simp] theorem PY:cx.ty 80=some YM:=dK
@[simp] theorem aez:cx.ty 84=some YL:=dK
@[simp] theorem aey:cx.ty 86=some YK:=dK
@[simp] theorem PX:cx.ty 92=some YJ:=dK
@[simp] theorem aex:cx.ty 94=some YI:=dK
@[simp] theorem Wr:cx.ty 97=some YH:=dK
@[simp] theorem aew:cx.ty 99=some YG:=dK
@[simp] theorem SR:cx.ty 101=some T3:=dK
@[simp] theorem acS:cx.ty 110=some T2:=dK
@[simp] theorem Br:cx.ty 113=some Av:=dK
@[simp] theorem acR:cx.ty 116=some T1:=dK
@[simp] theorem SQ:cx.ty 117=some T0:=dK
@[simp] theorem acQ:cx.ty 119=some TZ:=dK
@[simp] theorem SP:cx.ty 126=some TY:=dK
@[simp] theorem Lg:cx.ty 129=some TX:=dK
@[simp] theorem SO:cx.ty 131=some TW:=dK
@[simp] theorem SN:cx.ty 133=some TV:=dK
@[simp] theorem Ge:cx.ty 137=some GJ:=dK
@[simp] theorem SK:cx.ty 151=some TU:=dK
@[simp] theorem yU:cx.ty 172=some GI:=dK
@[simp] theorem SI:cx.ty 174=some TT:=dK
@[simp] theorem Lf:cx.ty 175=some TS:=dK
@[simp] theorem acP:cx.ty 177=some TR:=dK
@[simp] theorem SH:cx.ty 181=some TQ:=dK
@[simp] theorem SF:cx.ty 183=some TP:=dK
@[simp] theorem Le:cx.ty 202=some KB:=dK
@[simp] theorem acO:cx.ty 205=some TO:=dK
@[simp] theorem acN:cx.ty 207=some TN:=dK
@[simp] theorem acM:cx.ty 209=some TM:=dK
@[simp] theorem yS:cx.ty 211=some GH:=dK
@[simp] theorem SE:cx.ty 220=some ND:=dK
@[simp] theorem acL:cx.ty 232=some TL:=dK
@[simp] theorem acK:cx.ty 242=some TK:=dK
@[simp] theorem acJ:cx.ty 272=some TJ:=dK
end
end Go.Proofs.YtmaeadedikngoaaGreatDoor
