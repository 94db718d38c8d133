/- Texts DTab to DTab. -/
import Derived.Test.YtmaeadedikngoaaGreatDoorA8
set_option linter.all false
set_option maxRecDepth 100000
set_option maxHeartbeats 8000000
namespace Go.Proofs.YtmaeadedikngoaaGreatDoor
noncomputable section
open Go Go.TI
abbrev GR:Ty:=NO .i64 8
abbrev Dw:Ty:=NO .i64 8
abbrev Y8:Ty:=tyB
abbrev ty5:Ty:=NO .u8 1
abbrev ty9:Ty:=tyZ
abbrev adA:Ty:=NO .i32 4
abbrev ZI:Ty:=A8 5
abbrev ZG:Ty:=tK [(0,22),(1,22),(2,22),(3,5),(4,5)] 5 80 false [dF,dF,dF,.int .u8 0,.int .u8 0]
abbrev ZE:Ty:=A8 126
abbrev ZD:Ty:=A8 129
abbrev ZB:Ty:=A8 131
abbrev RJ:Ty:=A8 9
abbrev Zy:Ty:=A8 133
abbrev Zv:Ty:=tK [(0,25),(1,26),(2,27),(3,28),(4,28),(5,29)] 6 144 false [dF,dF,dF,dF,dF,dF]
abbrev Zu:Ty:=A8 137
abbrev Zq:Ty:=A8 4
abbrev L7:Ty:=A8 113
abbrev RI:Ty:=tK [(0,32),(1,3),(2,33),(3,34)] 4 80 false [dF,dE 0,dF,dF]
abbrev RH:Ty:=A8 2
abbrev nH:Ty:=A8 3
abbrev Y7:Ty:=tK [(0,36),(4,37),(5,37),(6,38)] 7 152 false [dF,dE 0,dF,dF,dF,dF,dF]
abbrev Vn:Ty:=A8 80
abbrev Y6:Ty:=tK [(0,31),(6,3),(7,40),(14,41)] 15 328 false [dF,dF,dF,dF,dF,dF,dE 0,dF,dE 0,dF,dF,dF,dF,dF,dF]
abbrev Y5:Ty:=A8 54
abbrev Vm:Ty:=tK [(0,3),(1,3),(2,3),(3,3),(4,3),(5,38)] 6 64 false [dE 0,dE 0,dE 0,dE 0,dE 0,dF]
abbrev Y4:Ty:=tK [(0,31),(6,41)] 7 168 false [dF,dF,dF,dF,dF,dF,dF]
abbrev Y3:Ty:=A8 43
abbrev Y2:Ty:=NO .i64 8
abbrev Y1:Ty:=A8 36
abbrev Y0:Ty:=tK [(0,43),(15,67)] 16 352 false [dF,dF,dF,dF,dF,dF,dE 0,dF,dE 0,dF,dF,dF,dF,dF,dF,dF]
abbrev YZ:Ty:=A9 (.func) 8 (.kN)
abbrev IZ:Ty:=A8 38
abbrev YY:Ty:=tK [(0,3),(1,3),(2,3),(3,2),(4,3),(5,38),(6,38)] 7 88 false [dE 0,dE 0,dE 0,dE 0,dE 0,dF,dF]
abbrev YX:Ty:=ND 86
abbrev YW:Ty:=tK [(0,22),(1,3)] 2 32 false [dF,dE 0]
abbrev YV:Ty:=A8 202
abbrev YU:Ty:=tK [(0,36),(4,37),(5,37),(6,92)] 7 152 false [dF,dE 0,dF,dF,dF,dF,dF]
abbrev YT:Ty:=A8 183
abbrev YS:Ty:=tK [(0,31),(6,97)] 7 168 false [dF,dF,dF,dF,dF,dF,dF]
abbrev Uh:Ty:=A8 151
abbrev Ug:Ty:=A9 (.func) 8 (.kN)
abbrev AE:Ty:=tK [(0,3),(1,3),(2,4)] 3 24 false [dE 0,dE 0,.bool false]
abbrev Uf:Ty:=A8 232
abbrev Ue:Ty:=A8 174
abbrev Ud:Ty:=tK [(0,116),(1,117)] 2 48 false [dF,dF]
abbrev Uc:Ty:=tK [(0,9),(1,3),(2,3),(3,4),(4,2)] 5 48 false [.str [],dE 0,dE 0,.bool false,dE 0]
abbrev Ub:Ty:=tK [(0,9),(1,4)] 2 24 false [.str [],.bool false]
abbrev Ua:Ty:=tK [(0,9),(1,3)] 2 24 false [.str [],dE 0]
abbrev T9:Ty:=tK [(0,3),(1,3),(2,3)] 3 24 false [dE 0,dE 0,dE 0]
abbrev GV:Ty:=tK [(0,3),(1,38)] 2 32 false [dE 0,dF]
abbrev T8:Ty:=tK [(0,3),(1,3)] 2 16 false [dE 0,dE 0]
abbrev ZO:Ty:=A9 (.func) 8 (.kN)
abbrev ZN:Ty:=A8 227
abbrev ZM:Ty:=ND 164
abbrev ZL:Ty:=tK [(0,159),(1,3)] 2 32 false [dF,dE 0]
abbrev ZK:Ty:=ND 177
abbrev GU:Ty:=A8 211
abbrev T7:Ty:=tK [(0,9),(1,3),(2,28),(3,172)] 4 72 false [.str [],dE 0,dF,dF]
abbrev T6:Ty:=A8 181
abbrev T5:Ty:=tK [(0,31),(6,28),(7,175),(8,3),(9,3)] 10 208 false [dF,dF,dF,dF,dF,dF,dF,dF,dE 0,dE 0]
abbrev T4:Ty:=tK [(0,3),(1,3),(2,3),(3,3),(4,2),(5,3)] 6 48 false [dE 0,dE 0,dE 0,dE 0,dE 0,dE 0]
abbrev T3:Ty:=tK [(0,3),(1,175)] 2 32 false [dE 0,dF]
abbrev KM:Ty:=tK [(0,3),(1,37),(2,77),(3,3)] 4 64 false [dE 0,dF,dF,dE 0]
abbrev ZJ:Ty:=ND 205
abbrev T2:Ty:=tK [(0,84),(1,3),(2,3),(3,4),(4,4),(5,4),(6,4),(7,28)] 8 56 false [.kx,dE 0,dE 0,.bool false,.bool false,.bool false,.bool false,dF]
abbrev T1:Ty:=A8 209
abbrev T0:Ty:=tK [(0,3),(1,2),(2,9),(3,207)] 4 56 false [dE 0,dE 0,.str [],dF]
abbrev GT:Ty:=tK [(0,3),(1,3),(2,9),(3,9),(4,207),(5,209),(9,172),(10,172)] 11 176 false [dE 0,dE 0,.str [],.str [],dF,dE 0,dE 0,.str [],dF,dF,dF]
abbrev NP:Ty:=NO .u64 8
abbrev ZH:Ty:=tK [(0,3),(1,9),(2,3)] 3 32 false [dE 0,.str [],dE 0]
abbrev TZ:Ty:=tK [(0,3),(1,3),(2,9),(3,3),(4,2),(5,9)] 6 64 false [dE 0,dE 0,.str [],dE 0,dE 0,.str []]
abbrev ZF:Ty:=ND 242
abbrev TY:Ty:=tK [(0,119),(2,3),(3,172),(4,28),(5,28)] 6 128 false [dF,dF,dE 0,dF,dF,dF]
abbrev ZC:Ty:=NO .i64 8
abbrev ZA:Ty:=NO .u32 4
abbrev TX:Ty:=NO .u64 8
abbrev Zz:Ty:=ND 232
abbrev Zx:Ty:=NO .u64 8
abbrev Zw:Ty:=ND 3
abbrev Zt:Ty:=RG 22 9 22 352 false (List.replicate 22 (T.str []))
abbrev Zs:Ty:=RG 256 4 256 256 false (List.replicate 256 (T.bool false))
abbrev Zr:Ty:=ND 324
abbrev Zp:Ty:=A9 (.iface) 16 (.kP)
abbrev Zo:Ty:=ND 211
abbrev Zn:Ty:=A9 (.func) 8 (.kN)
abbrev Zm:Ty:=NO .i64 8
abbrev Zl:Ty:=ND 365
abbrev Zk:Ty:=RG 256 5 256 256 false (List.replicate 256 (T.int .u8 0))
abbrev Zj:Ty:=tK [(0,5),(1,5)] 2 2 false [.int .u8 0,.int .u8 0]
abbrev Zi:Ty:=RG 16 358 32 32 false (List.replicate 32 (T.int .u8 0))
abbrev Zh:Ty:=tK [(0,9),(1,9),(2,330)] 3 48 false [.str [],.str [],.kP]
abbrev Zg:Ty:=ND 5
abbrev Zf:Ty:=ND 371
abbrev Ze:Ty:=tK [(0,9)] 1 16 false [.str []]
abbrev Zd:Ty:=RG 24 5 24 24 false (List.replicate 24 (T.int .u8 0))
abbrev Zc:Ty:=RG 20 272 20 160 false (List.replicate 20 (T.int .u64 0))
abbrev Zb:Ty:=RG 65 5 65 65 false (List.replicate 65 (T.int .u8 0))
abbrev Za:Ty:=RG 32 5 32 32 false (List.replicate 32 (T.int .u8 0))
abbrev Y9:Ty:=RG 64 5 64 64 false (List.replicate 64 (T.int .u8 0))
def ja:Tree Ty:=(.node (.node (.node (.node (.node (.node (.node .nil 2 (GR) .nil) 3 (Dw) (.node .nil 4 (Y8) .nil)) 5 (ty5) (.node (.node .nil 9 (ty9) .nil) 21 (adA) .nil)) 22 (ZI) (.node (.node (.node .nil 24 (ZG) .nil) 25 (ZE) .nil) 26 (ZD) (.node (.node .nil 27 (ZB) .nil) 28 (RJ) .nil))) 29 (Zy) (.node (.node (.node (.node .nil 31 (Zv) .nil) 32 (Zu) .nil) 33 (Zq) (.node (.node .nil 34 (L7) .nil) 36 (RI) .nil)) 37 (RH) (.node (.node (.node .nil 38 (nH) .nil) 40 (Y7) .nil) 41 (Vn) (.node (.node .nil 43 (Y6) .nil) 46 (Y5) .nil)))) 54 (Vm) (.node (.node (.node (.node (.node .nil 61 (Y4) .nil) 63 (Y3) (.node .nil 64 (Y2) .nil)) 67 (Y1) (.node (.node .nil 69 (Y0) .nil) 73 (YZ) .nil)) 77 (IZ) (.node (.node (.node .nil 80 (YY) .nil) 84 (YX) .nil) 86 (YW) (.node (.node .nil 92 (YV) .nil) 94 (YU) .nil))) 97 (YT) (.node (.node (.node (.node .nil 99 (YS) .nil) 101 (Uh) .nil) 110 (Ug) (.node (.node .nil 113 (AE) .nil) 116 (Uf) .nil)) 117 (Ue) (.node (.node (.node .nil 119 (Ud) .nil) 126 (Uc) .nil) 129 (Ub) (.node (.node .nil 131 (Ua) .nil) 133 (T9) .nil))))) 137 (GV) (.node (.node (.node (.node (.node (.node .nil 151 (T8) .nil) 156 (ZO) (.node .nil 159 (ZN) .nil)) 162 (ZM) (.node (.node .nil 164 (ZL) .nil) 171 (ZK) .nil)) 172 (GU) (.node (.node (.node .nil 174 (T7) .nil) 175 (T6) .nil) 177 (T5) (.node (.node .nil 181 (T4) .nil) 183 (T3) .nil))) 202 (KM) (.node (.node (.node (.node .nil 203 (ZJ) .nil) 205 (T2) .nil) 207 (T1) (.node (.node .nil 209 (T0) .nil) 211 (GT) .nil)) 220 (NP) (.node (.node (.node .nil 227 (ZH) .nil) 232 (TZ) .nil) 240 (ZF) (.node (.node .nil 242 (TY) .nil) 262 (ZC) .nil)))) 270 (ZA) (.node (.node (.node (.node (.node .nil 272 (TX) .nil) 277 (Zz) (.node .nil 296 (Zx) .nil)) 300 (Zw) (.node (.node .nil 321 (Zt) .nil) 324 (Zs) .nil)) 328 (Zr) (.node (.node (.node .nil 330 (Zp) .nil) 334 (Zo) .nil) 335 (Zn) (.node (.node .nil 349 (Zm) .nil) 352 (Zl) .nil))) 356 (Zk) (.node (.node (.node (.node .nil 358 (Zj) .nil) 359 (Zi) .nil) 365 (Zh) (.node (.node .nil 368 (Zg) .nil) 369 (Zf) .nil)) 371 (Ze) (.node (.node (.node .nil 374 (Zd) .nil) 379 (Zc) .nil) 380 (Zb) (.node (.node .nil 381 (Za) .nil) 382 (Y9) .nil))))))
def gl0:List T:=[T.str [118,97,114],T.str [118,111,108,97,116,105,108,101],T.str [109,117,116,101,120],T.str [114,119,108,111,99,107],T.str [99,111,110,100],T.str [102,117,116,117,114,101],T.str [116,104,114,101,97,100],T.str [105,102],T.str [101,108,115,101],T.str [119,104,105,108,101],T.str [108,111,99,107],T.str [114,101,97,100],T.str [119,114,105,116,101],T.str [116,114,97,110,115,97,99,116,105,111,110],T.str [97,116,111,109,105,99],T.str [119,97,105,116],T.str [110,111,116,105,102,121],T.str [110,111,116,105,102,121,97,108,108],T.str [115,112,97,119,110],T.str [106,111,105,110],T.str [115,101,116],T.str [103,101,116]]
def gl6:List T:=[T.int .u64 1,T.int .u64 10,T.int .u64 100,T.int .u64 1000,T.int .u64 10000,T.int .u64 100000,T.int .u64 1000000,T.int .u64 10000000,T.int .u64 100000000,T.int .u64 1000000000,T.int .u64 10000000000,T.int .u64 100000000000,T.int .u64 1000000000000,T.int .u64 10000000000000,T.int .u64 100000000000000,T.int .u64 1000000000000000,T.int .u64 10000000000000000,T.int .u64 100000000000000000,T.int .u64 1000000000000000000,T.int .u64 10000000000000000000]
def gl7:List T:=[T.int .u8 0,T.int .u8 1,T.int .u8 28,T.int .u8 2,T.int .u8 29,T.int .u8 14,T.int .u8 24,T.int .u8 3,T.int .u8 30,T.int .u8 22,T.int .u8 20,T.int .u8 15,T.int .u8 25,T.int .u8 17,T.int .u8 4,T.int .u8 8,T.int .u8 31,T.int .u8 27,T.int .u8 13,T.int .u8 23,T.int .u8 21,T.int .u8 19,T.int .u8 16,T.int .u8 7,T.int .u8 26,T.int .u8 12,T.int .u8 18,T.int .u8 6,T.int .u8 11,T.int .u8 5,T.int .u8 10,T.int .u8 9]
def gl8:List T:=[T.int .u8 0,T.int .u8 1,T.int .u8 56,T.int .u8 2,T.int .u8 57,T.int .u8 49,T.int .u8 28,T.int .u8 3,T.int .u8 61,T.int .u8 58,T.int .u8 42,T.int .u8 50,T.int .u8 38,T.int .u8 29,T.int .u8 17,T.int .u8 4,T.int .u8 62,T.int .u8 47,T.int .u8 59,T.int .u8 36,T.int .u8 45,T.int .u8 43,T.int .u8 51,T.int .u8 22,T.int .u8 53,T.int .u8 39,T.int .u8 33,T.int .u8 30,T.int .u8 24,T.int .u8 18,T.int .u8 12,T.int .u8 5,T.int .u8 63,T.int .u8 55,T.int .u8 48,T.int .u8 27,T.int .u8 60,T.int .u8 41,T.int .u8 37,T.int .u8 16,T.int .u8 46,T.int .u8 35,T.int .u8 44,T.int .u8 21,T.int .u8 52,T.int .u8 32,T.int .u8 23,T.int .u8 11,T.int .u8 54,T.int .u8 26,T.int .u8 40,T.int .u8 15,T.int .u8 34,T.int .u8 20,T.int .u8 31,T.int .u8 10,T.int .u8 25,T.int .u8 14,T.int .u8 19,T.int .u8 9,T.int .u8 13,T.int .u8 8,T.int .u8 7,T.int .u8 6]
def gls:Tree (List T):=(.node (.node (.node .nil 0 (gl0) .nil) 6 (gl6) .nil) 7 (gl7) (.node .nil 8 (gl8) .nil))
def cx:Ctx:={ty:=λb=>ja.find b,fn:=λ_=>none,gl:=λa=>gls.find a}
@[simp] theorem yV:cx.ty 2=some GR:=dI
@[simp] theorem nc:cx.ty 3=some Dw:=dI
@[simp] theorem Qn:cx.ty 4=some Y8:=dI
@[simp] theorem Ql:cx.ty 5=some ty5:=dI
@[simp] theorem v7:cx.ty 9=some ty9:=dI
@[simp] theorem WU:cx.ty 22=some ZI:=dI
@[simp] theorem Qp:cx.ty 24=some ZG:=dI
@[simp] theorem WT:cx.ty 25=some ZE:=dI
@[simp] theorem Qo:cx.ty 26=some ZD:=dI
@[simp] theorem WS:cx.ty 27=some ZB:=dI
@[simp] theorem qA:cx.ty 28=some RJ:=dI
@[simp] theorem WQ:cx.ty 29=some Zy:=dI
@[simp] theorem aeO:cx.ty 31=some Zv:=dI
@[simp] theorem Kk:cx.ty 32=some Zu:=dI
@[simp] theorem Gl:cx.ty 33=some Zq:=dI
@[simp] theorem C6:cx.ty 34=some L7:=dI
@[simp] theorem WP:cx.ty 36=some RI:=dI
@[simp] theorem o6:cx.ty 37=some RH:=dI
@[simp] theorem ko:cx.ty 38=some nH:=dI
@[simp] theorem aeN:cx.ty 40=some Y7:=dI
@[simp] theorem Qm:cx.ty 41=some Vn:=dI
@[simp] theorem WO:cx.ty 43=some Y6:=dI
@[simp] theorem Kj:cx.ty 46=some Y5:=dI
@[simp] theorem Ki:cx.ty 54=some Vm:=dI
@[simp] theorem aeM:cx.ty 61=some Y4:=dI
@[simp] theorem WN:cx.ty 63=some Y3:=dI
@[simp] theorem aeL:cx.ty 64=some Y2:=dI
@[simp] theorem WM:cx.ty 67=some Y1:=dI
@[simp] theorem aeK:cx.ty 69=some Y0:=dI
@[simp] theorem aeJ:cx.ty 73=some YZ:=dI
@[simp] theorem Qk:cx.ty 77=some IZ:=dI
@[simp] theorem Qj:cx.ty 80=some YY:=dI
@[simp] theorem aeI:cx.ty 84=some YX:=dI
@[simp] theorem aeH:cx.ty 86=some YW:=dI
@[simp] theorem Qi:cx.ty 92=some YV:=dI
@[simp] theorem aeG:cx.ty 94=some YU:=dI
@[simp] theorem WL:cx.ty 97=some YT:=dI
@[simp] theorem aeF:cx.ty 99=some YS:=dI
@[simp] theorem Tb:cx.ty 101=some Uh:=dI
@[simp] theorem ac8:cx.ty 110=some Ug:=dI
@[simp] theorem BB:cx.ty 113=some AE:=dI
@[simp] theorem ac7:cx.ty 116=some Uf:=dI
@[simp] theorem Ta:cx.ty 117=some Ue:=dI
@[simp] theorem ac6:cx.ty 119=some Ud:=dI
@[simp] theorem S9:cx.ty 126=some Uc:=dI
@[simp] theorem Lv:cx.ty 129=some Ub:=dI
@[simp] theorem S8:cx.ty 131=some Ua:=dI
@[simp] theorem S7:cx.ty 133=some T9:=dI
@[simp] theorem Gm:cx.ty 137=some GV:=dI
@[simp] theorem SZ:cx.ty 151=some T8:=dI
@[simp] theorem yW:cx.ty 172=some GU:=dI
@[simp] theorem SY:cx.ty 174=some T7:=dI
@[simp] theorem Lu:cx.ty 175=some T6:=dI
@[simp] theorem ac5:cx.ty 177=some T5:=dI
@[simp] theorem SX:cx.ty 181=some T4:=dI
@[simp] theorem SW:cx.ty 183=some T3:=dI
@[simp] theorem Lt:cx.ty 202=some KM:=dI
@[simp] theorem ac4:cx.ty 205=some T2:=dI
@[simp] theorem ac3:cx.ty 207=some T1:=dI
@[simp] theorem ac1:cx.ty 209=some T0:=dI
@[simp] theorem yU:cx.ty 211=some GT:=dI
@[simp] theorem SU:cx.ty 220=some NP:=dI
@[simp] theorem acZ:cx.ty 232=some TZ:=dI
@[simp] theorem acY:cx.ty 242=some TY:=dI
@[simp] theorem acW:cx.ty 272=some TX:=dI
end
end Go.Proofs.YtmaeadedikngoaaGreatDoor
