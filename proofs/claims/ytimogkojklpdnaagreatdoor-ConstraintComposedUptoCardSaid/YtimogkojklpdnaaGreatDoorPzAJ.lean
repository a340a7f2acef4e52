/-
  A part of the library Pm (joined by program). Conditions: none.
-/
import Derived.Test.YtimogkojklpdnaaGreatDoorPzAA
import Derived.Test.YtimogkojklpdnaaGreatDoorPzAH
import Derived.Test.YtimogkojklpdnaaGreatDoorPzAI
set_option linter.unusedVariables false
set_option linter.unusedSimpArgs false
set_option linter.unnecessarySimpa false
namespace Go.Pm.bO.Xb
open Go.Proofs
set_option maxRecDepth 100000
def a0:PV:=.agg [.str ⟨#[112,97,105,114]⟩,.int .i64 2,.int .i64 2,.int .i64 1]
def a1:PV:=.agg [.str ⟨#[101,110,99]⟩,.int .i64 2,.int .i64 2,.int .i64 1]
def a2:PV:=.agg [.str ⟨#[97,101,110,99]⟩,.int .i64 2,.int .i64 2,.int .i64 1]
def a3:PV:=.agg [.str ⟨#[112,107]⟩,.int .i64 1,.int .i64 1,.int .i64 1]
def a4:PV:=.agg [.str ⟨#[115,105,103,110]⟩,.int .i64 2,.int .i64 2,.int .i64 1]
def a5:PV:=.agg [.str ⟨#[104,97,115,104]⟩,.int .i64 1,.int .i64 1,.int .i64 1]
def a6:PV:=.agg [.str ⟨#[120,111,114]⟩,.int .i64 2,.int .i64 8,.int .i64 1]
def a7:PV:=.agg [.str ⟨#[122,101,114,111]⟩,.int .i64 0,.int .i64 0,.int .i64 1]
def a8:PV:=.agg [.str ⟨#[101,120,112]⟩,.int .i64 2,.int .i64 2,.int .i64 1]
def a9:PV:=.agg [.str ⟨#[109,117,108]⟩,.int .i64 2,.int .i64 8,.int .i64 1]
def a10:PV:=.agg [.str ⟨#[105,110,118]⟩,.int .i64 1,.int .i64 1,.int .i64 1]
def a11:PV:=.agg [.str ⟨#[111,110,101]⟩,.int .i64 0,.int .i64 0,.int .i64 1]
def a12:PV:=.agg [.str ⟨#[115,107]⟩,.int .i64 1,.int .i64 1,.int .i64 2]
def a13:PV:=.agg [.str ⟨#[115,104,107]⟩,.int .i64 2,.int .i64 2,.int .i64 2]
def a14:PV:=.agg [.str ⟨#[110,101,119]⟩,.int .i64 1,.int .i64 8,.int .i64 2]
def a15:PV:=.agg [.str ⟨#[102,115,116]⟩,.int .i64 1,.int .i64 1,.int .i64 3]
def a16:PV:=.agg [.str ⟨#[115,110,100]⟩,.int .i64 1,.int .i64 1,.int .i64 3]
def a17:PV:=.agg [.str ⟨#[100,101,99]⟩,.int .i64 2,.int .i64 2,.int .i64 3]
def a18:PV:=.agg [.str ⟨#[97,100,101,99]⟩,.int .i64 2,.int .i64 2,.int .i64 3]
def a19:PV:=.agg [.str ⟨#[111,112,101,110]⟩,.int .i64 2,.int .i64 2,.int .i64 3]
def a20:PV:=.agg [.str ⟨#[114,101,97,100]⟩,.int .i64 1,.int .i64 1,.int .i64 3]
def a21:PV:=.agg [.int .i64 2,.str ⟨#[110]⟩,.int .i64 2,.aa false []]
def a22:PV:=.agg [.int .i64 2,.str ⟨#[107]⟩,.int .i64 3,.aa false []]
def a23:PV:=.agg [.int .i64 3,.str ⟨#[101,110,99]⟩,.int .i64 0,.aa false [a21,a22]]
def a24:PV:=.agg [.int .i64 1,.str ⟨#[120]⟩,.int .i64 0,.aa false []]
def a25:PV:=.agg [.int .i64 2,.str ⟨#[108]⟩,.int .i64 3,.aa false []]
def a26:PV:=.agg [.int .i64 3,.str ⟨#[101,110,99]⟩,.int .i64 0,.aa false [a24,a25]]
def rX:PV:=.agg [.int .i64 2,.str ⟨#[113,48]⟩,.int .i64 0,.aa false []]
def a28:PV:=.agg [.int .i64 3,.str ⟨#[101,110,99]⟩,.int .i64 0,.aa false [rX,a25]]
def rT:PV:=.agg [.int .i64 2,.str ⟨#[101,35,48]⟩,.int .i64 0,.aa false []]
def tZ:PV:=.agg [.int .i64 3,.str ⟨#[101,110,99]⟩,.int .i64 0,.aa false [rT,a25]]
def a31:PV:=.agg [.int .i64 2,.str ⟨#[107]⟩,.int .i64 3,.aa false [],.int .i64 1]
def a32:PV:=.agg [.int .i64 2,.str ⟨#[110]⟩,.int .i64 2,.aa false [],.int .i64 1]
def a33:PV:=.agg [.int .i64 2,.str ⟨#[113,48]⟩,.int .i64 0,.aa false [],.int .i64 1]
def a34:PV:=.agg [.int .i64 2,.str ⟨#[108]⟩,.int .i64 3,.aa false [],.int .i64 1]
def m0:kC:=[]
theorem T8:jS C.P C.mode m0:=λx hx=>by cases hx
def r1:kC:=[(156,[],.aa false [a0,a1,a2,a3,a4,a5,a6,a7,a8,a9,a10,a11,a12,a13,a14,a15,a16,a17,a18,a19,a20])]
def m1:kC:=r1++m0
theorem Qh:lH C.P (kD m0 C.mode) 1000 r1=true:=by kernel_rfl
theorem T9:jS C.P C.mode m1:=kE T8 Qh (by kernel_rfl)
def r2:kC:=[(193,[.str ⟨#[101,110,99]⟩],.bool true),(193,[.str ⟨#[110]⟩],.bool true),(193,[.str ⟨#[107]⟩],.bool true),(193,[.str ⟨#[120]⟩],.bool true),(193,[.str ⟨#[108]⟩],.bool true),(193,[.str ⟨#[113,48]⟩],.bool true),(193,[.str ⟨#[101,35,48]⟩],.bool true),(111,[.str ⟨#[101,110,99]⟩],a1),(102,[a21],.int .i64 1),(102,[a22],.int .i64 1),(102,[a23],.int .i64 3),(102,[a24],.int .i64 1),(102,[a25],.int .i64 1),(102,[a26],.int .i64 3),(102,[rX],.int .i64 1),(102,[a28],.int .i64 3),(102,[rT],.int .i64 1),(102,[tZ],.int .i64 3)]
def m2:kC:=r2++m1
theorem Qi:lH C.P (kD m1 C.mode) 1000 r2=true:=by kernel_rfl
theorem T':jS C.P C.mode m2:=kE T9 Qi (by kernel_rfl)
def r3:kC:=[(52,[a21,a21],.int .i64 0),(52,[a22,a22],.int .i64 0),(52,[a23,a23],.int .i64 0),(52,[a24,a24],.int .i64 0),(52,[a22,a24],.int .i64 1),(52,[a25,a22],.int .i64 1),(52,[a25,a25],.int .i64 0),(52,[a21,a25],.int .i64 1),(52,[a26,a21],.int .i64 1),(52,[a26,a26],.int .i64 0),(52,[a21,a24],.int .i64 1),(52,[a23,a26],.int .i64 1),(52,[a24,rX],.int .i64 (-1)),(52,[rX,rX],.int .i64 0),(52,[a21,a22],.int .i64 1),(52,[rX,a21],.int .i64 1),(52,[a23,rX],.int .i64 1),(52,[a23,a22],.int .i64 1),(52,[a22,a23],.int .i64 (-1)),(52,[a23,a21],.int .i64 1),(52,[a21,a23],.int .i64 (-1)),(52,[a21,rX],.int .i64 (-1)),(52,[rX,a23],.int .i64 (-1)),(52,[a28,a28],.int .i64 0),(52,[a28,a23],.int .i64 1),(52,[rX,a22],.int .i64 1),(52,[a22,rX],.int .i64 (-1)),(52,[a22,a28],.int .i64 (-1)),(52,[a23,a25],.int .i64 1),(52,[rX,a25],.int .i64 1),(52,[a25,rX],.int .i64 (-1)),(52,[a25,a23],.int .i64 (-1)),(52,[a25,a28],.int .i64 (-1)),(52,[a21,a28],.int .i64 (-1)),(52,[a23,a28],.int .i64 (-1)),(52,[a24,rT],.int .i64 (-1)),(52,[rT,rT],.int .i64 0),(52,[a22,rT],.int .i64 1),(52,[a23,rT],.int .i64 1),(52,[rT,a22],.int .i64 (-1)),(52,[rT,a21],.int .i64 (-1)),(52,[a21,rT],.int .i64 1),(52,[rT,a23],.int .i64 (-1)),(52,[tZ,tZ],.int .i64 0),(52,[tZ,a21],.int .i64 1),(52,[a23,tZ],.int .i64 1),(52,[tZ,rT],.int .i64 1),(52,[tZ,a22],.int .i64 1),(52,[a22,tZ],.int .i64 (-1)),(52,[tZ,a25],.int .i64 1),(52,[rT,a25],.int .i64 (-1)),(52,[a25,rT],.int .i64 1),(52,[a25,tZ],.int .i64 (-1)),(52,[a21,tZ],.int .i64 (-1)),(52,[rT,tZ],.int .i64 (-1)),(52,[tZ,a23],.int .i64 (-1)),(98,[a23],.int .i64 0),(98,[a24],.int .i64 0),(98,[a26],.int .i64 0),(98,[rX],.int .i64 0),(98,[a22],.int .i64 0),(98,[a21],.int .i64 0),(98,[a28],.int .i64 0),(98,[a25],.int .i64 0),(98,[rT],.int .i64 0),(98,[tZ],.int .i64 0)]
def m3:kC:=r3++m2
theorem Qj:lH C.P (kD m2 C.mode) 1000 r3=true:=by kernel_rfl
theorem Ua:jS C.P C.mode m3:=kE T' Qj (by kernel_rfl)
def r4:kC:=[(139,[a23],.int .i64 0),(139,[a24],.int .i64 0),(139,[a26],.int .i64 0),(139,[rX],.int .i64 0),(139,[a28],.int .i64 0),(139,[rT],.int .i64 0),(139,[tZ],.int .i64 0),(54,[a23],.aa false []),(54,[a24],.aa false [a24]),(54,[a26],.aa false [a24]),(54,[rX],.aa false []),(54,[a28],.aa false []),(54,[rT],.aa false []),(54,[tZ],.aa false []),(274,[a23],.cm [a22,.int .i64 0]),(274,[a28],.cm [a25,.int .i64 0]),(274,[tZ],.cm [a25,.int .i64 0]),(55,[a23],.bool true),(55,[rX],.bool true),(55,[a28],.bool true),(55,[rT],.bool true),(55,[tZ],.bool true)]
def m4:kC:=r4++m3
theorem Qk:lH C.P (kD m3 C.mode) 1000 r4=true:=by kernel_rfl
theorem Ub:jS C.P C.mode m4:=kE Ua Qk (by kernel_rfl)
def r5:kC:=[(85,[a23],.int .i64 0),(85,[a24],.int .i64 0),(85,[a26],.int .i64 0),(204,[a23],.int .i64 0),(204,[rX],.int .i64 0),(204,[a28],.int .i64 0),(204,[rT],.int .i64 0),(204,[tZ],.int .i64 0),(276,[.aa false [],a22],.cm [.aa false [],.int .i64 4]),(276,[.aa false [],a21],.cm [.aa false [],.int .i64 4]),(276,[.aa false [],rX],.cm [.aa false [],.int .i64 4]),(276,[.aa false [],a25],.cm [.aa false [],.int .i64 4]),(328,[.aa false [],.aa false [a31]],.cm [.aa false [],.int .i64 4]),(328,[.aa false [],.aa false [a32]],.cm [.aa false [],.int .i64 4]),(328,[.aa false [],.aa false [a33]],.cm [.aa false [],.int .i64 4]),(328,[.aa false [],.aa false [a34]],.cm [.aa false [],.int .i64 4]),(275,[a22],.cm [.aa false [a22],.int .i64 0]),(275,[a21],.cm [.aa false [a21],.int .i64 0]),(275,[rX],.cm [.aa false [rX],.int .i64 0]),(275,[a25],.cm [.aa false [a25],.int .i64 0])]
def m5:kC:=r5++m4
theorem Ql:lH C.P (kD m4 C.mode) 1000 r5=true:=by kernel_rfl
theorem Uc:jS C.P C.mode m5:=kE Ub Ql (by kernel_rfl)
def r6:kC:=[(164,[.aa false [a23],a22],.bool false),(164,[.aa false [a23],a21],.bool false),(164,[.aa false [a23],rX],.bool false),(164,[.aa false [rX,a23,a28],a22],.bool false),(164,[.aa false [rX,a23,a28],a25],.bool false),(164,[.aa false [rX,a23,a28],a21],.bool false),(164,[.aa false [a23],rT],.bool true),(164,[.aa false [rT,a23],a22],.bool false),(164,[.aa false [rT,a23],a21],.bool false),(164,[.aa false [tZ,a23],rT],.bool true),(164,[.aa false [rT,tZ,a23],a22],.bool false),(164,[.aa false [rT,tZ,a23],a25],.bool false),(164,[.aa false [rT,tZ,a23],a21],.bool false)]
def m6:kC:=r6++m5
theorem Qm:lH C.P (kD m5 C.mode) 1000 r6=true:=by kernel_rfl
theorem Ud:jS C.P C.mode m6:=kE Uc Qm (by kernel_rfl)
def r7:kC:=[(58,[.aa false [a23],rX],.cm [.bool false,.int .i64 0]),(58,[.aa false [a23,a28,rX],a28],.cm [.bool true,.int .i64 0]),(58,[.aa false [a23],rT],.cm [.bool true,.int .i64 0]),(58,[.aa false [a23,tZ],tZ],.cm [.bool true,.int .i64 0])]
def m7:kC:=r7++m6
theorem Qn:lH C.P (kD m6 C.mode) 1000 r7=true:=by kernel_rfl
theorem Ue:jS C.P C.mode m7:=kE Ud Qn (by kernel_rfl)
theorem run:nZ ⟨C.P,kD m7 C.mode⟩ 1000 11 []=some (.bool true):=by kernel_rfl
end Go.Pm.bO.Xb
namespace Go.Pm
namespace bO
set_option maxRecDepth 100000
theorem GF:aO C 11 [] (.bool true):=aO.Uf Xb.Ue (aO.od Xb.run)
end bO
end Go.Pm
