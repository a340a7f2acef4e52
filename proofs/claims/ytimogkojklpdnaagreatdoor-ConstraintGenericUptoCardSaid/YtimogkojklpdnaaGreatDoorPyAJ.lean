/-
  Pm, a part. Conditions: none.
-/
import Derived.Test.YtimogkojklpdnaaGreatDoorPyAI
set_option linter.unusedVariables false
set_option linter.unusedSimpArgs false
set_option linter.unnecessarySimpa false
set_option linter.unusedSectionVars false
namespace Go.Pm.bh.Awk
open Go.Proofs
set_option maxRecDepth 100000
def a0:PV:=.agg [.str ⟨#[112,97,105,114]⟩,.int .i64 2,.int .i64 2,.int .i64 1]
def a1:PV:=.agg [.str ⟨#[101,110,99]⟩,.int .i64 2,.int .i64 2,.int .i64 1]
def a2:PV:=.agg [.str ⟨#[97,101,110,99]⟩,.int .i64 2,.int .i64 2,.int .i64 1]
def a3:PV:=.agg [.str ⟨#[112,107]⟩,.int .i64 1,.int .i64 1,.int .i64 1]
def a4:PV:=.agg [.str ⟨#[115,105,103,110]⟩,.int .i64 2,.int .i64 2,.int .i64 1]
def a5:PV:=.agg [.str ⟨#[104,97,115,104]⟩,.int .i64 1,.int .i64 1,.int .i64 1]
def a6:PV:=.agg [.str ⟨#[120,111,114]⟩,.int .i64 2,.int .i64 8,.int .i64 1]
def a7:PV:=.agg [.str ⟨#[122,101,114,111]⟩,.int .i64 0,.int .i64 0,.int .i64 1]
def a8:PV:=.agg [.str ⟨#[101,120,112]⟩,.int .i64 2,.int .i64 2,.int .i64 1]
def a9:PV:=.agg [.str ⟨#[109,117,108]⟩,.int .i64 2,.int .i64 8,.int .i64 1]
def a10:PV:=.agg [.str ⟨#[105,110,118]⟩,.int .i64 1,.int .i64 1,.int .i64 1]
def a11:PV:=.agg [.str ⟨#[111,110,101]⟩,.int .i64 0,.int .i64 0,.int .i64 1]
def a12:PV:=.agg [.str ⟨#[115,107]⟩,.int .i64 1,.int .i64 1,.int .i64 2]
def a13:PV:=.agg [.str ⟨#[115,104,107]⟩,.int .i64 2,.int .i64 2,.int .i64 2]
def a14:PV:=.agg [.str ⟨#[110,101,119]⟩,.int .i64 1,.int .i64 8,.int .i64 2]
def a15:PV:=.agg [.str ⟨#[102,115,116]⟩,.int .i64 1,.int .i64 1,.int .i64 3]
def a16:PV:=.agg [.str ⟨#[115,110,100]⟩,.int .i64 1,.int .i64 1,.int .i64 3]
def a17:PV:=.agg [.str ⟨#[100,101,99]⟩,.int .i64 2,.int .i64 2,.int .i64 3]
def a18:PV:=.agg [.str ⟨#[97,100,101,99]⟩,.int .i64 2,.int .i64 2,.int .i64 3]
def a19:PV:=.agg [.str ⟨#[111,112,101,110]⟩,.int .i64 2,.int .i64 2,.int .i64 3]
def a20:PV:=.agg [.str ⟨#[114,101,97,100]⟩,.int .i64 1,.int .i64 1,.int .i64 3]
def a21:PV:=.agg [.int .i64 2,.str ⟨#[110]⟩,.int .i64 2,.aa false []]
def a22:PV:=.agg [.int .i64 2,.str ⟨#[107]⟩,.int .i64 3,.aa false []]
def a23:PV:=.agg [.int .i64 3,.str ⟨#[101,110,99]⟩,.int .i64 0,.aa false [a21,a22]]
def a24:PV:=.agg [.int .i64 1,.str ⟨#[120]⟩,.int .i64 0,.aa false []]
def a25:PV:=.agg [.int .i64 2,.str ⟨#[108]⟩,.int .i64 3,.aa false []]
def a26:PV:=.agg [.int .i64 3,.str ⟨#[101,110,99]⟩,.int .i64 0,.aa false [a24,a25]]
def tJ:PV:=.agg [.int .i64 2,.str ⟨#[113,48]⟩,.int .i64 0,.aa false []]
def a28:PV:=.agg [.int .i64 3,.str ⟨#[101,110,99]⟩,.int .i64 0,.aa false [tJ,a25]]
def tE:PV:=.agg [.int .i64 2,.str ⟨#[101,35,48]⟩,.int .i64 0,.aa false []]
def vy:PV:=.agg [.int .i64 3,.str ⟨#[101,110,99]⟩,.int .i64 0,.aa false [tE,a25]]
def a31:PV:=.agg [.int .i64 2,.str ⟨#[107]⟩,.int .i64 3,.aa false [],.int .i64 1]
def a32:PV:=.agg [.int .i64 2,.str ⟨#[110]⟩,.int .i64 2,.aa false [],.int .i64 1]
def a33:PV:=.agg [.int .i64 2,.str ⟨#[113,48]⟩,.int .i64 0,.aa false [],.int .i64 1]
def a34:PV:=.agg [.int .i64 2,.str ⟨#[108]⟩,.int .i64 3,.aa false [],.int .i64 1]
def m0:lm:=[]
theorem Xd:kH C.P C.mode m0:=λx hx=>by cases hx
def r1:lm:=[(156,[],.aa false [a0,a1,a2,a3,a4,a5,a6,a7,a8,a9,a10,a11,a12,a13,a14,a15,a16,a17,a18,a19,a20])]
def m1:lm:=r1++m0
theorem TX:ma C.P (lq m0 C.mode) 1000 r1=true:=by kernel_rfl
theorem Xe:kH C.P C.mode m1:=ls Xd TX (by kernel_rfl)
def r2:lm:=[(193,[.str ⟨#[101,110,99]⟩],.bool true),(193,[.str ⟨#[110]⟩],.bool true),(193,[.str ⟨#[107]⟩],.bool true),(193,[.str ⟨#[120]⟩],.bool true),(193,[.str ⟨#[108]⟩],.bool true),(193,[.str ⟨#[113,48]⟩],.bool true),(193,[.str ⟨#[101,35,48]⟩],.bool true),(111,[.str ⟨#[101,110,99]⟩],a1),(102,[a21],.int .i64 1),(102,[a22],.int .i64 1),(102,[a23],.int .i64 3),(102,[a24],.int .i64 1),(102,[a25],.int .i64 1),(102,[a26],.int .i64 3),(102,[tJ],.int .i64 1),(102,[a28],.int .i64 3),(102,[tE],.int .i64 1),(102,[vy],.int .i64 3)]
def m2:lm:=r2++m1
theorem TY:ma C.P (lq m1 C.mode) 1000 r2=true:=by kernel_rfl
theorem Xf:kH C.P C.mode m2:=ls Xe TY (by kernel_rfl)
def r3:lm:=[(52,[a21,a21],.int .i64 0),(52,[a22,a22],.int .i64 0),(52,[a23,a23],.int .i64 0),(52,[a24,a24],.int .i64 0),(52,[a22,a24],.int .i64 1),(52,[a25,a22],.int .i64 1),(52,[a25,a25],.int .i64 0),(52,[a21,a25],.int .i64 1),(52,[a26,a21],.int .i64 1),(52,[a26,a26],.int .i64 0),(52,[a21,a24],.int .i64 1),(52,[a23,a26],.int .i64 1),(52,[a24,tJ],.int .i64 (-1)),(52,[tJ,tJ],.int .i64 0),(52,[a21,a22],.int .i64 1),(52,[tJ,a21],.int .i64 1),(52,[a23,tJ],.int .i64 1),(52,[a23,a22],.int .i64 1),(52,[a22,a23],.int .i64 (-1)),(52,[a23,a21],.int .i64 1),(52,[a21,a23],.int .i64 (-1)),(52,[a21,tJ],.int .i64 (-1)),(52,[tJ,a23],.int .i64 (-1)),(52,[a28,a28],.int .i64 0),(52,[a28,a23],.int .i64 1),(52,[tJ,a22],.int .i64 1),(52,[a22,tJ],.int .i64 (-1)),(52,[a22,a28],.int .i64 (-1)),(52,[a23,a25],.int .i64 1),(52,[tJ,a25],.int .i64 1),(52,[a25,tJ],.int .i64 (-1)),(52,[a25,a23],.int .i64 (-1)),(52,[a25,a28],.int .i64 (-1)),(52,[a21,a28],.int .i64 (-1)),(52,[a23,a28],.int .i64 (-1)),(52,[a24,tE],.int .i64 (-1)),(52,[tE,tE],.int .i64 0),(52,[a22,tE],.int .i64 1),(52,[a23,tE],.int .i64 1),(52,[tE,a22],.int .i64 (-1)),(52,[tE,a21],.int .i64 (-1)),(52,[a21,tE],.int .i64 1),(52,[tE,a23],.int .i64 (-1)),(52,[vy,vy],.int .i64 0),(52,[vy,a21],.int .i64 1),(52,[a23,vy],.int .i64 1),(52,[vy,tE],.int .i64 1),(52,[vy,a22],.int .i64 1),(52,[a22,vy],.int .i64 (-1)),(52,[vy,a25],.int .i64 1),(52,[tE,a25],.int .i64 (-1)),(52,[a25,tE],.int .i64 1),(52,[a25,vy],.int .i64 (-1)),(52,[a21,vy],.int .i64 (-1)),(52,[tE,vy],.int .i64 (-1)),(52,[vy,a23],.int .i64 (-1)),(98,[a23],.int .i64 0),(98,[a24],.int .i64 0),(98,[a26],.int .i64 0),(98,[tJ],.int .i64 0),(98,[a22],.int .i64 0),(98,[a21],.int .i64 0),(98,[a28],.int .i64 0),(98,[a25],.int .i64 0),(98,[tE],.int .i64 0),(98,[vy],.int .i64 0)]
def m3:lm:=r3++m2
theorem TZ:ma C.P (lq m2 C.mode) 1000 r3=true:=by kernel_rfl
theorem Xg:kH C.P C.mode m3:=ls Xf TZ (by kernel_rfl)
def r4:lm:=[(139,[a23],.int .i64 0),(139,[a24],.int .i64 0),(139,[a26],.int .i64 0),(139,[tJ],.int .i64 0),(139,[a28],.int .i64 0),(139,[tE],.int .i64 0),(139,[vy],.int .i64 0),(54,[a23],.aa false []),(54,[a24],.aa false [a24]),(54,[a26],.aa false [a24]),(54,[tJ],.aa false []),(54,[a28],.aa false []),(54,[tE],.aa false []),(54,[vy],.aa false []),(274,[a23],.cy [a22,.int .i64 0]),(274,[a28],.cy [a25,.int .i64 0]),(274,[vy],.cy [a25,.int .i64 0]),(55,[a23],.bool true),(55,[tJ],.bool true),(55,[a28],.bool true),(55,[tE],.bool true),(55,[vy],.bool true)]
def m4:lm:=r4++m3
theorem T0:ma C.P (lq m3 C.mode) 1000 r4=true:=by kernel_rfl
theorem Xh:kH C.P C.mode m4:=ls Xg T0 (by kernel_rfl)
def r5:lm:=[(85,[a23],.int .i64 0),(85,[a24],.int .i64 0),(85,[a26],.int .i64 0),(204,[a23],.int .i64 0),(204,[tJ],.int .i64 0),(204,[a28],.int .i64 0),(204,[tE],.int .i64 0),(204,[vy],.int .i64 0),(276,[.aa false [],a22],.cy [.aa false [],.int .i64 4]),(276,[.aa false [],a21],.cy [.aa false [],.int .i64 4]),(276,[.aa false [],tJ],.cy [.aa false [],.int .i64 4]),(276,[.aa false [],a25],.cy [.aa false [],.int .i64 4]),(328,[.aa false [],.aa false [a31]],.cy [.aa false [],.int .i64 4]),(328,[.aa false [],.aa false [a32]],.cy [.aa false [],.int .i64 4]),(328,[.aa false [],.aa false [a33]],.cy [.aa false [],.int .i64 4]),(328,[.aa false [],.aa false [a34]],.cy [.aa false [],.int .i64 4]),(275,[a22],.cy [.aa false [a22],.int .i64 0]),(275,[a21],.cy [.aa false [a21],.int .i64 0]),(275,[tJ],.cy [.aa false [tJ],.int .i64 0]),(275,[a25],.cy [.aa false [a25],.int .i64 0])]
def m5:lm:=r5++m4
theorem T1:ma C.P (lq m4 C.mode) 1000 r5=true:=by kernel_rfl
theorem Xi:kH C.P C.mode m5:=ls Xh T1 (by kernel_rfl)
def r6:lm:=[(164,[.aa false [a23],a22],.bool false),(164,[.aa false [a23],a21],.bool false),(164,[.aa false [a23],tJ],.bool false),(164,[.aa false [tJ,a23,a28],a22],.bool false),(164,[.aa false [tJ,a23,a28],a25],.bool false),(164,[.aa false [tJ,a23,a28],a21],.bool false),(164,[.aa false [a23],tE],.bool true),(164,[.aa false [tE,a23],a22],.bool false),(164,[.aa false [tE,a23],a21],.bool false),(164,[.aa false [vy,a23],tE],.bool true),(164,[.aa false [tE,vy,a23],a22],.bool false),(164,[.aa false [tE,vy,a23],a25],.bool false),(164,[.aa false [tE,vy,a23],a21],.bool false)]
def m6:lm:=r6++m5
theorem T2:ma C.P (lq m5 C.mode) 1000 r6=true:=by kernel_rfl
theorem Xj:kH C.P C.mode m6:=ls Xi T2 (by kernel_rfl)
def r7:lm:=[(58,[.aa false [a23],tJ],.cy [.bool false,.int .i64 0]),(58,[.aa false [a23,a28,tJ],a28],.cy [.bool true,.int .i64 0]),(58,[.aa false [a23],tE],.cy [.bool true,.int .i64 0]),(58,[.aa false [a23,vy],vy],.cy [.bool true,.int .i64 0])]
def m7:lm:=r7++m6
theorem T3:ma C.P (lq m6 C.mode) 1000 r7=true:=by kernel_rfl
theorem Xk:kH C.P C.mode m7:=ls Xj T3 (by kernel_rfl)
theorem run:pg ⟨C.P,lq m7 C.mode⟩ 1000 11 []=some (.bool true):=by kernel_rfl
end Go.Pm.bh.Awk
namespace Go.Pm
namespace bh
set_option maxRecDepth 100000
theorem IZ:aL C 11 [] (.bool true):=aL.Xl Awk.Xk (aL.iE Awk.run)
end bh
end Go.Pm
