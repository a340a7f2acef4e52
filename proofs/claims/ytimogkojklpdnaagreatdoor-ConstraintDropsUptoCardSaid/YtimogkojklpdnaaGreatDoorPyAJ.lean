/-
  A part of the library Pm (joined by program). Conditions: none.
-/
import Derived.Test.YtimogkojklpdnaaGreatDoorPyAA
import Derived.Test.YtimogkojklpdnaaGreatDoorPyAH
import Derived.Test.YtimogkojklpdnaaGreatDoorPyAI
set_option linter.unusedVariables false
set_option linter.unusedSimpArgs false
set_option linter.unnecessarySimpa false
namespace Go.Pm.bP.Yk
open Go.Proofs
set_option maxRecDepth 100000
def a0:PV:=.agg [.str ⟨#[112,97,105,114]⟩,.int .i64 2,.int .i64 2,.int .i64 1]
def a1:PV:=.agg [.str ⟨#[101,110,99]⟩,.int .i64 2,.int .i64 2,.int .i64 1]
def a2:PV:=.agg [.str ⟨#[97,101,110,99]⟩,.int .i64 2,.int .i64 2,.int .i64 1]
def a3:PV:=.agg [.str ⟨#[112,107]⟩,.int .i64 1,.int .i64 1,.int .i64 1]
def a4:PV:=.agg [.str ⟨#[115,105,103,110]⟩,.int .i64 2,.int .i64 2,.int .i64 1]
def a5:PV:=.agg [.str ⟨#[104,97,115,104]⟩,.int .i64 1,.int .i64 1,.int .i64 1]
def a6:PV:=.agg [.str ⟨#[120,111,114]⟩,.int .i64 2,.int .i64 8,.int .i64 1]
def a7:PV:=.agg [.str ⟨#[122,101,114,111]⟩,.int .i64 0,.int .i64 0,.int .i64 1]
def a8:PV:=.agg [.str ⟨#[101,120,112]⟩,.int .i64 2,.int .i64 2,.int .i64 1]
def a9:PV:=.agg [.str ⟨#[109,117,108]⟩,.int .i64 2,.int .i64 8,.int .i64 1]
def a10:PV:=.agg [.str ⟨#[105,110,118]⟩,.int .i64 1,.int .i64 1,.int .i64 1]
def a11:PV:=.agg [.str ⟨#[111,110,101]⟩,.int .i64 0,.int .i64 0,.int .i64 1]
def a12:PV:=.agg [.str ⟨#[115,107]⟩,.int .i64 1,.int .i64 1,.int .i64 2]
def a13:PV:=.agg [.str ⟨#[115,104,107]⟩,.int .i64 2,.int .i64 2,.int .i64 2]
def a14:PV:=.agg [.str ⟨#[110,101,119]⟩,.int .i64 1,.int .i64 8,.int .i64 2]
def a15:PV:=.agg [.str ⟨#[102,115,116]⟩,.int .i64 1,.int .i64 1,.int .i64 3]
def a16:PV:=.agg [.str ⟨#[115,110,100]⟩,.int .i64 1,.int .i64 1,.int .i64 3]
def a17:PV:=.agg [.str ⟨#[100,101,99]⟩,.int .i64 2,.int .i64 2,.int .i64 3]
def a18:PV:=.agg [.str ⟨#[97,100,101,99]⟩,.int .i64 2,.int .i64 2,.int .i64 3]
def a19:PV:=.agg [.str ⟨#[111,112,101,110]⟩,.int .i64 2,.int .i64 2,.int .i64 3]
def a20:PV:=.agg [.str ⟨#[114,101,97,100]⟩,.int .i64 1,.int .i64 1,.int .i64 3]
def a21:PV:=.agg [.int .i64 2,.str ⟨#[110]⟩,.int .i64 2,.aa false []]
def a22:PV:=.agg [.int .i64 2,.str ⟨#[107]⟩,.int .i64 3,.aa false []]
def a23:PV:=.agg [.int .i64 3,.str ⟨#[101,110,99]⟩,.int .i64 0,.aa false [a21,a22]]
def a24:PV:=.agg [.int .i64 1,.str ⟨#[120]⟩,.int .i64 0,.aa false []]
def a25:PV:=.agg [.int .i64 2,.str ⟨#[108]⟩,.int .i64 3,.aa false []]
def a26:PV:=.agg [.int .i64 3,.str ⟨#[101,110,99]⟩,.int .i64 0,.aa false [a24,a25]]
def sI:PV:=.agg [.int .i64 2,.str ⟨#[113,48]⟩,.int .i64 0,.aa false []]
def a28:PV:=.agg [.int .i64 3,.str ⟨#[101,110,99]⟩,.int .i64 0,.aa false [sI,a25]]
def sF:PV:=.agg [.int .i64 2,.str ⟨#[101,35,48]⟩,.int .i64 0,.aa false []]
def uH:PV:=.agg [.int .i64 3,.str ⟨#[101,110,99]⟩,.int .i64 0,.aa false [sF,a25]]
def a31:PV:=.agg [.int .i64 2,.str ⟨#[107]⟩,.int .i64 3,.aa false [],.int .i64 1]
def a32:PV:=.agg [.int .i64 2,.str ⟨#[110]⟩,.int .i64 2,.aa false [],.int .i64 1]
def a33:PV:=.agg [.int .i64 2,.str ⟨#[113,48]⟩,.int .i64 0,.aa false [],.int .i64 1]
def a34:PV:=.agg [.int .i64 2,.str ⟨#[108]⟩,.int .i64 3,.aa false [],.int .i64 1]
def m0:kQ:=[]
theorem U2:ka C.P C.mode m0:=λx hx=>by cases hx
def r1:kQ:=[(156,[],.aa false [a0,a1,a2,a3,a4,a5,a6,a7,a8,a9,a10,a11,a12,a13,a14,a15,a16,a17,a18,a19,a20])]
def m1:kQ:=r1++m0
theorem Ra:lT C.P (kS m0 C.mode) 1000 r1=true:=by kernel_rfl
theorem U3:ka C.P C.mode m1:=kT U2 Ra (by kernel_rfl)
def r2:kQ:=[(193,[.str ⟨#[101,110,99]⟩],.bool true),(193,[.str ⟨#[110]⟩],.bool true),(193,[.str ⟨#[107]⟩],.bool true),(193,[.str ⟨#[120]⟩],.bool true),(193,[.str ⟨#[108]⟩],.bool true),(193,[.str ⟨#[113,48]⟩],.bool true),(193,[.str ⟨#[101,35,48]⟩],.bool true),(111,[.str ⟨#[101,110,99]⟩],a1),(102,[a21],.int .i64 1),(102,[a22],.int .i64 1),(102,[a23],.int .i64 3),(102,[a24],.int .i64 1),(102,[a25],.int .i64 1),(102,[a26],.int .i64 3),(102,[sI],.int .i64 1),(102,[a28],.int .i64 3),(102,[sF],.int .i64 1),(102,[uH],.int .i64 3)]
def m2:kQ:=r2++m1
theorem Rb:lT C.P (kS m1 C.mode) 1000 r2=true:=by kernel_rfl
theorem U4:ka C.P C.mode m2:=kT U3 Rb (by kernel_rfl)
def r3:kQ:=[(52,[a21,a21],.int .i64 0),(52,[a22,a22],.int .i64 0),(52,[a23,a23],.int .i64 0),(52,[a24,a24],.int .i64 0),(52,[a22,a24],.int .i64 1),(52,[a25,a22],.int .i64 1),(52,[a25,a25],.int .i64 0),(52,[a21,a25],.int .i64 1),(52,[a26,a21],.int .i64 1),(52,[a26,a26],.int .i64 0),(52,[a21,a24],.int .i64 1),(52,[a23,a26],.int .i64 1),(52,[a24,sI],.int .i64 (-1)),(52,[sI,sI],.int .i64 0),(52,[a21,a22],.int .i64 1),(52,[sI,a21],.int .i64 1),(52,[a23,sI],.int .i64 1),(52,[a23,a22],.int .i64 1),(52,[a22,a23],.int .i64 (-1)),(52,[a23,a21],.int .i64 1),(52,[a21,a23],.int .i64 (-1)),(52,[a21,sI],.int .i64 (-1)),(52,[sI,a23],.int .i64 (-1)),(52,[a28,a28],.int .i64 0),(52,[a28,a23],.int .i64 1),(52,[sI,a22],.int .i64 1),(52,[a22,sI],.int .i64 (-1)),(52,[a22,a28],.int .i64 (-1)),(52,[a23,a25],.int .i64 1),(52,[sI,a25],.int .i64 1),(52,[a25,sI],.int .i64 (-1)),(52,[a25,a23],.int .i64 (-1)),(52,[a25,a28],.int .i64 (-1)),(52,[a21,a28],.int .i64 (-1)),(52,[a23,a28],.int .i64 (-1)),(52,[a24,sF],.int .i64 (-1)),(52,[sF,sF],.int .i64 0),(52,[a22,sF],.int .i64 1),(52,[a23,sF],.int .i64 1),(52,[sF,a22],.int .i64 (-1)),(52,[sF,a21],.int .i64 (-1)),(52,[a21,sF],.int .i64 1),(52,[sF,a23],.int .i64 (-1)),(52,[uH,uH],.int .i64 0),(52,[uH,a21],.int .i64 1),(52,[a23,uH],.int .i64 1),(52,[uH,sF],.int .i64 1),(52,[uH,a22],.int .i64 1),(52,[a22,uH],.int .i64 (-1)),(52,[uH,a25],.int .i64 1),(52,[sF,a25],.int .i64 (-1)),(52,[a25,sF],.int .i64 1),(52,[a25,uH],.int .i64 (-1)),(52,[a21,uH],.int .i64 (-1)),(52,[sF,uH],.int .i64 (-1)),(52,[uH,a23],.int .i64 (-1)),(98,[a23],.int .i64 0),(98,[a24],.int .i64 0),(98,[a26],.int .i64 0),(98,[sI],.int .i64 0),(98,[a22],.int .i64 0),(98,[a21],.int .i64 0),(98,[a28],.int .i64 0),(98,[a25],.int .i64 0),(98,[sF],.int .i64 0),(98,[uH],.int .i64 0)]
def m3:kQ:=r3++m2
theorem Rc:lT C.P (kS m2 C.mode) 1000 r3=true:=by kernel_rfl
theorem U5:ka C.P C.mode m3:=kT U4 Rc (by kernel_rfl)
def r4:kQ:=[(139,[a23],.int .i64 0),(139,[a24],.int .i64 0),(139,[a26],.int .i64 0),(139,[sI],.int .i64 0),(139,[a28],.int .i64 0),(139,[sF],.int .i64 0),(139,[uH],.int .i64 0),(54,[a23],.aa false []),(54,[a24],.aa false [a24]),(54,[a26],.aa false [a24]),(54,[sI],.aa false []),(54,[a28],.aa false []),(54,[sF],.aa false []),(54,[uH],.aa false []),(274,[a23],.cx [a22,.int .i64 0]),(274,[a28],.cx [a25,.int .i64 0]),(274,[uH],.cx [a25,.int .i64 0]),(55,[a23],.bool true),(55,[sI],.bool true),(55,[a28],.bool true),(55,[sF],.bool true),(55,[uH],.bool true)]
def m4:kQ:=r4++m3
theorem Re:lT C.P (kS m3 C.mode) 1000 r4=true:=by kernel_rfl
theorem U6:ka C.P C.mode m4:=kT U5 Re (by kernel_rfl)
def r5:kQ:=[(85,[a23],.int .i64 0),(85,[a24],.int .i64 0),(85,[a26],.int .i64 0),(204,[a23],.int .i64 0),(204,[sI],.int .i64 0),(204,[a28],.int .i64 0),(204,[sF],.int .i64 0),(204,[uH],.int .i64 0),(276,[.aa false [],a22],.cx [.aa false [],.int .i64 4]),(276,[.aa false [],a21],.cx [.aa false [],.int .i64 4]),(276,[.aa false [],sI],.cx [.aa false [],.int .i64 4]),(276,[.aa false [],a25],.cx [.aa false [],.int .i64 4]),(328,[.aa false [],.aa false [a31]],.cx [.aa false [],.int .i64 4]),(328,[.aa false [],.aa false [a32]],.cx [.aa false [],.int .i64 4]),(328,[.aa false [],.aa false [a33]],.cx [.aa false [],.int .i64 4]),(328,[.aa false [],.aa false [a34]],.cx [.aa false [],.int .i64 4]),(275,[a22],.cx [.aa false [a22],.int .i64 0]),(275,[a21],.cx [.aa false [a21],.int .i64 0]),(275,[sI],.cx [.aa false [sI],.int .i64 0]),(275,[a25],.cx [.aa false [a25],.int .i64 0])]
def m5:kQ:=r5++m4
theorem Rg:lT C.P (kS m4 C.mode) 1000 r5=true:=by kernel_rfl
theorem U7:ka C.P C.mode m5:=kT U6 Rg (by kernel_rfl)
def r6:kQ:=[(164,[.aa false [a23],a22],.bool false),(164,[.aa false [a23],a21],.bool false),(164,[.aa false [a23],sI],.bool false),(164,[.aa false [sI,a23,a28],a22],.bool false),(164,[.aa false [sI,a23,a28],a25],.bool false),(164,[.aa false [sI,a23,a28],a21],.bool false),(164,[.aa false [a23],sF],.bool true),(164,[.aa false [sF,a23],a22],.bool false),(164,[.aa false [sF,a23],a21],.bool false),(164,[.aa false [uH,a23],sF],.bool true),(164,[.aa false [sF,uH,a23],a22],.bool false),(164,[.aa false [sF,uH,a23],a25],.bool false),(164,[.aa false [sF,uH,a23],a21],.bool false)]
def m6:kQ:=r6++m5
theorem Rh:lT C.P (kS m5 C.mode) 1000 r6=true:=by kernel_rfl
theorem U8:ka C.P C.mode m6:=kT U7 Rh (by kernel_rfl)
def r7:kQ:=[(58,[.aa false [a23],sI],.cx [.bool false,.int .i64 0]),(58,[.aa false [a23,a28,sI],a28],.cx [.bool true,.int .i64 0]),(58,[.aa false [a23],sF],.cx [.bool true,.int .i64 0]),(58,[.aa false [a23,uH],uH],.cx [.bool true,.int .i64 0])]
def m7:kQ:=r7++m6
theorem Ri:lT C.P (kS m6 C.mode) 1000 r7=true:=by kernel_rfl
theorem U9:ka C.P C.mode m7:=kT U8 Ri (by kernel_rfl)
theorem run:oC ⟨C.P,kS m7 C.mode⟩ 1000 11 []=some (.bool true):=by kernel_rfl
end Go.Pm.bP.Yk
namespace Go.Pm
namespace bP
set_option maxRecDepth 100000
theorem Hr:aO C 11 [] (.bool true):=aO.Va Yk.U9 (aO.kb Yk.run)
end bP
end Go.Pm
