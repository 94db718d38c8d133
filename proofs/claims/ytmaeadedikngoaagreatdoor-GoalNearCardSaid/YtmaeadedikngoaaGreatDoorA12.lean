/- Texts DTab to DTab. -/
import Derived.Test.YtmaeadedikngoaaGreatDoorA9
set_option linter.all false
set_option maxRecDepth 100000
set_option maxHeartbeats 8000000
namespace Go.Proofs.YtmaeadedikngoaaGreatDoor
noncomputable section
open Go Go.TI
abbrev FG:Ty:=My .i64 8
abbrev FF:Ty:=My .i64 8
abbrev Xz:Ty:=tyB
abbrev ty5:Ty:=My .u8 1
abbrev ty9:Ty:=tyZ
abbrev abR:Ty:=My .i32 4
abbrev Ya:Ty:=Ay 5
abbrev X8:Ty:=sL [(0,22),(1,22),(2,22),(3,5),(4,5)] 5 80 false [dz,dz,dz,.int .u8 0,.int .u8 0]
abbrev X6:Ty:=Ay 126
abbrev X5:Ty:=Ay 129
abbrev X3:Ty:=Ay 131
abbrev Qr:Ty:=Ay 9
abbrev X0:Ty:=Ay 133
abbrev XX:Ty:=sL [(0,25),(1,26),(2,27),(3,28),(4,28),(5,29)] 6 144 false [dz,dz,dz,dz,dz,dz]
abbrev XW:Ty:=Ay 137
abbrev XS:Ty:=Ay 4
abbrev KS:Ty:=Ay 113
abbrev Qq:Ty:=sL [(0,32),(1,3),(2,33),(3,34)] 4 80 false [dz,dy 0,dz,dz]
abbrev Qp:Ty:=Ay 2
abbrev p8:Ty:=Ay 3
abbrev Xy:Ty:=sL [(0,36),(4,37),(5,37),(6,38)] 7 152 false [dz,dy 0,dz,dz,dz,dz,dz]
abbrev TW:Ty:=Ay 80
abbrev Xx:Ty:=sL [(0,31),(6,3),(7,40),(14,41)] 15 328 false [dz,dz,dz,dz,dz,dz,dy 0,dz,dy 0,dz,dz,dz,dz,dz,dz]
abbrev Xw:Ty:=Ay 54
abbrev Xv:Ty:=sL [(0,3),(1,3),(2,3),(3,3),(4,3),(5,38)] 6 64 false [dy 0,dy 0,dy 0,dy 0,dy 0,dz]
abbrev Xu:Ty:=sL [(0,31),(6,41)] 7 168 false [dz,dz,dz,dz,dz,dz,dz]
abbrev Xs:Ty:=Ay 43
abbrev Xr:Ty:=My .i64 8
abbrev Xq:Ty:=Ay 36
abbrev Xp:Ty:=sL [(0,43),(15,67)] 16 352 false [dz,dz,dz,dz,dz,dz,dy 0,dz,dy 0,dz,dz,dz,dz,dz,dz,dz]
abbrev Xo:Ty:=Bc (.func) 8 (.kv)
abbrev Mz:Ty:=Ay 38
abbrev Xn:Ty:=sL [(0,3),(1,3),(2,3),(3,2),(4,3),(5,38),(6,38)] 7 88 false [dy 0,dy 0,dy 0,dy 0,dy 0,dz,dz]
abbrev Xm:Ty:=Mj 86
abbrev Xl:Ty:=sL [(0,22),(1,3)] 2 32 false [dz,dy 0]
abbrev Xk:Ty:=Ay 202
abbrev Xj:Ty:=sL [(0,36),(4,37),(5,37),(6,92)] 7 152 false [dz,dy 0,dz,dz,dz,dz,dz]
abbrev Xi:Ty:=Ay 183
abbrev Xh:Ty:=sL [(0,31),(6,97)] 7 168 false [dz,dz,dz,dz,dz,dz,dz]
abbrev SB:Ty:=Ay 151
abbrev SA:Ty:=Bc (.func) 8 (.kv)
abbrev zQ:Ty:=sL [(0,3),(1,3),(2,4)] 3 24 false [dy 0,dy 0,.bool false]
abbrev Sz:Ty:=Ay 232
abbrev Sy:Ty:=Ay 174
abbrev Sx:Ty:=sL [(0,116),(1,117)] 2 48 false [dz,dz]
abbrev Sw:Ty:=sL [(0,9),(1,3),(2,3),(3,4),(4,2)] 5 48 false [.str [],dy 0,dy 0,.bool false,dy 0]
abbrev Sv:Ty:=sL [(0,9),(1,4)] 2 24 false [.str [],.bool false]
abbrev Su:Ty:=sL [(0,9),(1,3)] 2 24 false [.str [],dy 0]
abbrev Ss:Ty:=sL [(0,3),(1,3),(2,3)] 3 24 false [dy 0,dy 0,dy 0]
abbrev FL:Ty:=sL [(0,3),(1,38)] 2 32 false [dy 0,dz]
abbrev Sr:Ty:=sL [(0,3),(1,3)] 2 16 false [dy 0,dy 0]
abbrev Yg:Ty:=Bc (.func) 8 (.kv)
abbrev Yf:Ty:=Ay 227
abbrev Ye:Ty:=Mj 164
abbrev Yd:Ty:=sL [(0,159),(1,3)] 2 32 false [dz,dy 0]
abbrev Yc:Ty:=Mj 177
abbrev FK:Ty:=Ay 211
abbrev Sq:Ty:=sL [(0,9),(1,3),(2,28),(3,172)] 4 72 false [.str [],dy 0,dz,dz]
abbrev Sp:Ty:=Ay 181
abbrev So:Ty:=sL [(0,31),(6,28),(7,175),(8,3),(9,3)] 10 208 false [dz,dz,dz,dz,dz,dz,dz,dz,dy 0,dy 0]
abbrev Sl:Ty:=sL [(0,3),(1,3),(2,3),(3,3),(4,2),(5,3)] 6 48 false [dy 0,dy 0,dy 0,dy 0,dy 0,dy 0]
abbrev Sk:Ty:=sL [(0,3),(1,175)] 2 32 false [dy 0,dz]
abbrev JF:Ty:=sL [(0,3),(1,37),(2,77),(3,3)] 4 64 false [dy 0,dz,dz,dy 0]
abbrev Yb:Ty:=Mj 205
abbrev Sj:Ty:=sL [(0,84),(1,3),(2,3),(3,4),(4,4),(5,4),(6,4),(7,28)] 8 56 false [.ka,dy 0,dy 0,.bool false,.bool false,.bool false,.bool false,dz]
abbrev Sh:Ty:=Ay 209
abbrev Sg:Ty:=sL [(0,3),(1,2),(2,9),(3,207)] 4 56 false [dy 0,dy 0,.str [],dz]
abbrev FJ:Ty:=sL [(0,3),(1,3),(2,9),(3,9),(4,207),(5,209),(9,172),(10,172)] 11 176 false [dy 0,dy 0,.str [],.str [],dz,dy 0,dy 0,.str [],dz,dz,dz]
abbrev MA:Ty:=My .u64 8
abbrev X9:Ty:=sL [(0,3),(1,9),(2,3)] 3 32 false [dy 0,.str [],dy 0]
abbrev Sf:Ty:=sL [(0,3),(1,3),(2,9),(3,3),(4,2),(5,9)] 6 64 false [dy 0,dy 0,.str [],dy 0,dy 0,.str []]
abbrev X7:Ty:=Mj 242
abbrev Se:Ty:=sL [(0,119),(2,3),(3,172),(4,28),(5,28)] 6 128 false [dz,dz,dy 0,dz,dz,dz]
abbrev X4:Ty:=My .i64 8
abbrev X2:Ty:=My .u32 4
abbrev Sd:Ty:=My .u64 8
abbrev X1:Ty:=Mj 232
abbrev XZ:Ty:=My .u64 8
abbrev XY:Ty:=Mj 3
abbrev XV:Ty:=Qo 22 9 22 352 false (List.replicate 22 (T.str []))
abbrev XU:Ty:=Qo 256 4 256 256 false (List.replicate 256 (T.bool false))
abbrev XT:Ty:=Mj 324
abbrev XR:Ty:=Bc (.iface) 16 (.ku)
abbrev XQ:Ty:=Mj 211
abbrev XP:Ty:=Bc (.func) 8 (.kv)
abbrev XO:Ty:=My .i64 8
abbrev XN:Ty:=Mj 365
abbrev XM:Ty:=Qo 256 5 256 256 false (List.replicate 256 (T.int .u8 0))
abbrev XL:Ty:=sL [(0,5),(1,5)] 2 2 false [.int .u8 0,.int .u8 0]
abbrev XJ:Ty:=Qo 16 358 32 32 false (List.replicate 32 (T.int .u8 0))
abbrev XI:Ty:=sL [(0,9),(1,9),(2,330)] 3 48 false [.str [],.str [],.ku]
abbrev XH:Ty:=Mj 5
abbrev XG:Ty:=Mj 371
abbrev XF:Ty:=sL [(0,9)] 1 16 false [.str []]
abbrev XE:Ty:=Qo 24 5 24 24 false (List.replicate 24 (T.int .u8 0))
abbrev XD:Ty:=Qo 20 272 20 160 false (List.replicate 20 (T.int .u64 0))
abbrev XC:Ty:=Qo 65 5 65 65 false (List.replicate 65 (T.int .u8 0))
abbrev XB:Ty:=Qo 32 5 32 32 false (List.replicate 32 (T.int .u8 0))
abbrev XA:Ty:=Qo 64 5 64 64 false (List.replicate 64 (T.int .u8 0))
def iG:Tree Ty:=(.node (.node (.node (.node (.node (.node (.node .nil 2 (FG) .nil) 3 (FF) (.node .nil 4 (Xz) .nil)) 5 (ty5) (.node (.node .nil 9 (ty9) .nil) 21 (abR) .nil)) 22 (Ya) (.node (.node (.node .nil 24 (X8) .nil) 25 (X6) .nil) 26 (X5) (.node (.node .nil 27 (X3) .nil) 28 (Qr) .nil))) 29 (X0) (.node (.node (.node (.node .nil 31 (XX) .nil) 32 (XW) .nil) 33 (XS) (.node (.node .nil 34 (KS) .nil) 36 (Qq) .nil)) 37 (Qp) (.node (.node (.node .nil 38 (p8) .nil) 40 (Xy) .nil) 41 (TW) (.node (.node .nil 43 (Xx) .nil) 46 (Xw) .nil)))) 54 (Xv) (.node (.node (.node (.node (.node .nil 61 (Xu) .nil) 63 (Xs) (.node .nil 64 (Xr) .nil)) 67 (Xq) (.node (.node .nil 69 (Xp) .nil) 73 (Xo) .nil)) 77 (Mz) (.node (.node (.node .nil 80 (Xn) .nil) 84 (Xm) .nil) 86 (Xl) (.node (.node .nil 92 (Xk) .nil) 94 (Xj) .nil))) 97 (Xi) (.node (.node (.node (.node .nil 99 (Xh) .nil) 101 (SB) .nil) 110 (SA) (.node (.node .nil 113 (zQ) .nil) 116 (Sz) .nil)) 117 (Sy) (.node (.node (.node .nil 119 (Sx) .nil) 126 (Sw) .nil) 129 (Sv) (.node (.node .nil 131 (Su) .nil) 133 (Ss) .nil))))) 137 (FL) (.node (.node (.node (.node (.node (.node .nil 151 (Sr) .nil) 156 (Yg) (.node .nil 159 (Yf) .nil)) 162 (Ye) (.node (.node .nil 164 (Yd) .nil) 171 (Yc) .nil)) 172 (FK) (.node (.node (.node .nil 174 (Sq) .nil) 175 (Sp) .nil) 177 (So) (.node (.node .nil 181 (Sl) .nil) 183 (Sk) .nil))) 202 (JF) (.node (.node (.node (.node .nil 203 (Yb) .nil) 205 (Sj) .nil) 207 (Sh) (.node (.node .nil 209 (Sg) .nil) 211 (FJ) .nil)) 220 (MA) (.node (.node (.node .nil 227 (X9) .nil) 232 (Sf) .nil) 240 (X7) (.node (.node .nil 242 (Se) .nil) 262 (X4) .nil)))) 270 (X2) (.node (.node (.node (.node (.node .nil 272 (Sd) .nil) 277 (X1) (.node .nil 296 (XZ) .nil)) 300 (XY) (.node (.node .nil 321 (XV) .nil) 324 (XU) .nil)) 328 (XT) (.node (.node (.node .nil 330 (XR) .nil) 334 (XQ) .nil) 335 (XP) (.node (.node .nil 349 (XO) .nil) 352 (XN) .nil))) 356 (XM) (.node (.node (.node (.node .nil 358 (XL) .nil) 359 (XJ) .nil) 365 (XI) (.node (.node .nil 368 (XH) .nil) 369 (XG) .nil)) 371 (XF) (.node (.node (.node .nil 374 (XE) .nil) 379 (XD) .nil) 380 (XC) (.node (.node .nil 381 (XB) .nil) 382 (XA) .nil))))))
def gl0:List T:=[T.str [118,97,114],T.str [118,111,108,97,116,105,108,101],T.str [109,117,116,101,120],T.str [114,119,108,111,99,107],T.str [99,111,110,100],T.str [102,117,116,117,114,101],T.str [116,104,114,101,97,100],T.str [105,102],T.str [101,108,115,101],T.str [119,104,105,108,101],T.str [108,111,99,107],T.str [114,101,97,100],T.str [119,114,105,116,101],T.str [116,114,97,110,115,97,99,116,105,111,110],T.str [97,116,111,109,105,99],T.str [119,97,105,116],T.str [110,111,116,105,102,121],T.str [110,111,116,105,102,121,97,108,108],T.str [115,112,97,119,110],T.str [106,111,105,110],T.str [115,101,116],T.str [103,101,116]]
def gl6:List T:=[T.int .u64 1,T.int .u64 10,T.int .u64 100,T.int .u64 1000,T.int .u64 10000,T.int .u64 100000,T.int .u64 1000000,T.int .u64 10000000,T.int .u64 100000000,T.int .u64 1000000000,T.int .u64 10000000000,T.int .u64 100000000000,T.int .u64 1000000000000,T.int .u64 10000000000000,T.int .u64 100000000000000,T.int .u64 1000000000000000,T.int .u64 10000000000000000,T.int .u64 100000000000000000,T.int .u64 1000000000000000000,T.int .u64 10000000000000000000]
def gl7:List T:=[T.int .u8 0,T.int .u8 1,T.int .u8 28,T.int .u8 2,T.int .u8 29,T.int .u8 14,T.int .u8 24,T.int .u8 3,T.int .u8 30,T.int .u8 22,T.int .u8 20,T.int .u8 15,T.int .u8 25,T.int .u8 17,T.int .u8 4,T.int .u8 8,T.int .u8 31,T.int .u8 27,T.int .u8 13,T.int .u8 23,T.int .u8 21,T.int .u8 19,T.int .u8 16,T.int .u8 7,T.int .u8 26,T.int .u8 12,T.int .u8 18,T.int .u8 6,T.int .u8 11,T.int .u8 5,T.int .u8 10,T.int .u8 9]
def gl8:List T:=[T.int .u8 0,T.int .u8 1,T.int .u8 56,T.int .u8 2,T.int .u8 57,T.int .u8 49,T.int .u8 28,T.int .u8 3,T.int .u8 61,T.int .u8 58,T.int .u8 42,T.int .u8 50,T.int .u8 38,T.int .u8 29,T.int .u8 17,T.int .u8 4,T.int .u8 62,T.int .u8 47,T.int .u8 59,T.int .u8 36,T.int .u8 45,T.int .u8 43,T.int .u8 51,T.int .u8 22,T.int .u8 53,T.int .u8 39,T.int .u8 33,T.int .u8 30,T.int .u8 24,T.int .u8 18,T.int .u8 12,T.int .u8 5,T.int .u8 63,T.int .u8 55,T.int .u8 48,T.int .u8 27,T.int .u8 60,T.int .u8 41,T.int .u8 37,T.int .u8 16,T.int .u8 46,T.int .u8 35,T.int .u8 44,T.int .u8 21,T.int .u8 52,T.int .u8 32,T.int .u8 23,T.int .u8 11,T.int .u8 54,T.int .u8 26,T.int .u8 40,T.int .u8 15,T.int .u8 34,T.int .u8 20,T.int .u8 31,T.int .u8 10,T.int .u8 25,T.int .u8 14,T.int .u8 19,T.int .u8 9,T.int .u8 13,T.int .u8 8,T.int .u8 7,T.int .u8 6]
def gls:Tree (List T):=(.node (.node (.node .nil 0 (gl0) .nil) 6 (gl6) .nil) 7 (gl7) (.node .nil 8 (gl8) .nil))
def cx:Ctx:={ty:=λb=>iG.find b,fn:=λ_=>none,gl:=λa=>gls.find a}
@[simp] theorem yp:cx.ty 2=some FG:=dC
@[simp] theorem oq:cx.ty 3=some FF:=dC
@[simp] theorem OU:cx.ty 4=some Xz:=dC
@[simp] theorem Aq:cx.ty 5=some ty5:=dC
@[simp] theorem vi:cx.ty 9=some ty9:=dC
@[simp] theorem OX:cx.ty 22=some Ya:=dC
@[simp] theorem OW:cx.ty 24=some X8:=dC
@[simp] theorem Vm:cx.ty 25=some X6:=dC
@[simp] theorem OV:cx.ty 26=some X5:=dC
@[simp] theorem Vl:cx.ty 27=some X3:=dC
@[simp] theorem pS:cx.ty 28=some Qr:=dC
@[simp] theorem Vk:cx.ty 29=some X0:=dC
@[simp] theorem ac8:cx.ty 31=some XX:=dC
@[simp] theorem Ja:cx.ty 32=some XW:=dC
@[simp] theorem Fc:cx.ty 33=some XS:=dC
@[simp] theorem Co:cx.ty 34=some KS:=dC
@[simp] theorem Vj:cx.ty 36=some Qq:=dC
@[simp] theorem oo:cx.ty 37=some Qp:=dC
@[simp] theorem kK:cx.ty 38=some p8:=dC
@[simp] theorem ac7:cx.ty 40=some Xy:=dC
@[simp] theorem OT:cx.ty 41=some TW:=dC
@[simp] theorem Vi:cx.ty 43=some Xx:=dC
@[simp] theorem ac6:cx.ty 46=some Xw:=dC
@[simp] theorem ac5:cx.ty 54=some Xv:=dC
@[simp] theorem ac4:cx.ty 61=some Xu:=dC
@[simp] theorem Vh:cx.ty 63=some Xs:=dC
@[simp] theorem ac3:cx.ty 64=some Xr:=dC
@[simp] theorem Vg:cx.ty 67=some Xq:=dC
@[simp] theorem ac2:cx.ty 69=some Xp:=dC
@[simp] theorem ac1:cx.ty 73=some Xo:=dC
@[simp] theorem Vf:cx.ty 77=some Mz:=dC
@[simp] theorem OS:cx.ty 80=some Xn:=dC
@[simp] theorem ac0:cx.ty 84=some Xm:=dC
@[simp] theorem acZ:cx.ty 86=some Xl:=dC
@[simp] theorem OR:cx.ty 92=some Xk:=dC
@[simp] theorem acY:cx.ty 94=some Xj:=dC
@[simp] theorem Ve:cx.ty 97=some Xi:=dC
@[simp] theorem acX:cx.ty 99=some Xh:=dC
@[simp] theorem Rx:cx.ty 101=some SB:=dC
@[simp] theorem abp:cx.ty 110=some SA:=dC
@[simp] theorem AZ:cx.ty 113=some zQ:=dC
@[simp] theorem abo:cx.ty 116=some Sz:=dC
@[simp] theorem Rw:cx.ty 117=some Sy:=dC
@[simp] theorem abn:cx.ty 119=some Sx:=dC
@[simp] theorem Rv:cx.ty 126=some Sw:=dC
@[simp] theorem Kl:cx.ty 129=some Sv:=dC
@[simp] theorem Ru:cx.ty 131=some Su:=dC
@[simp] theorem Rt:cx.ty 133=some Ss:=dC
@[simp] theorem Fd:cx.ty 137=some FL:=dC
@[simp] theorem Rs:cx.ty 151=some Sr:=dC
@[simp] theorem yq:cx.ty 172=some FK:=dC
@[simp] theorem Rr:cx.ty 174=some Sq:=dC
@[simp] theorem Kk:cx.ty 175=some Sp:=dC
@[simp] theorem abm:cx.ty 177=some So:=dC
@[simp] theorem Rq:cx.ty 181=some Sl:=dC
@[simp] theorem Rp:cx.ty 183=some Sk:=dC
@[simp] theorem Kj:cx.ty 202=some JF:=dC
@[simp] theorem abl:cx.ty 205=some Sj:=dC
@[simp] theorem abk:cx.ty 207=some Sh:=dC
@[simp] theorem abj:cx.ty 209=some Sg:=dC
@[simp] theorem yo:cx.ty 211=some FJ:=dC
@[simp] theorem Ro:cx.ty 220=some MA:=dC
@[simp] theorem abi:cx.ty 232=some Sf:=dC
@[simp] theorem abh:cx.ty 242=some Se:=dC
@[simp] theorem abg:cx.ty 272=some Sd:=dC
end
end Go.Proofs.YtmaeadedikngoaaGreatDoor
