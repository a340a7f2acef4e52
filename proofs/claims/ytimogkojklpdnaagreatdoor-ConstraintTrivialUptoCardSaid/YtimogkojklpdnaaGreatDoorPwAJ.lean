/-
  Pm, a part. Conditions: none.
-/
import Derived.Test.YtimogkojklpdnaaGreatDoorPwAI
set_option linter.unusedVariables false
set_option linter.unusedSimpArgs false
set_option linter.unnecessarySimpa false
namespace Go.Pm.bC.Awk
open Go.Proofs
set_option maxRecDepth 100000
def a0:PV:=.agg [.str ⟨#[112,97,105,114]⟩,.int .i64 2,.int .i64 2,.int .i64 1]
def a1:PV:=.agg [.str ⟨#[101,110,99]⟩,.int .i64 2,.int .i64 2,.int .i64 1]
def a2:PV:=.agg [.str ⟨#[97,101,110,99]⟩,.int .i64 2,.int .i64 2,.int .i64 1]
def a3:PV:=.agg [.str ⟨#[112,107]⟩,.int .i64 1,.int .i64 1,.int .i64 1]
def a4:PV:=.agg [.str ⟨#[115,105,103,110]⟩,.int .i64 2,.int .i64 2,.int .i64 1]
def a5:PV:=.agg [.str ⟨#[104,97,115,104]⟩,.int .i64 1,.int .i64 1,.int .i64 1]
def a6:PV:=.agg [.str ⟨#[120,111,114]⟩,.int .i64 2,.int .i64 8,.int .i64 1]
def a7:PV:=.agg [.str ⟨#[122,101,114,111]⟩,.int .i64 0,.int .i64 0,.int .i64 1]
def a8:PV:=.agg [.str ⟨#[101,120,112]⟩,.int .i64 2,.int .i64 2,.int .i64 1]
def a9:PV:=.agg [.str ⟨#[109,117,108]⟩,.int .i64 2,.int .i64 8,.int .i64 1]
def a10:PV:=.agg [.str ⟨#[105,110,118]⟩,.int .i64 1,.int .i64 1,.int .i64 1]
def a11:PV:=.agg [.str ⟨#[111,110,101]⟩,.int .i64 0,.int .i64 0,.int .i64 1]
def a12:PV:=.agg [.str ⟨#[115,107]⟩,.int .i64 1,.int .i64 1,.int .i64 2]
def a13:PV:=.agg [.str ⟨#[115,104,107]⟩,.int .i64 2,.int .i64 2,.int .i64 2]
def a14:PV:=.agg [.str ⟨#[110,101,119]⟩,.int .i64 1,.int .i64 8,.int .i64 2]
def a15:PV:=.agg [.str ⟨#[102,115,116]⟩,.int .i64 1,.int .i64 1,.int .i64 3]
def a16:PV:=.agg [.str ⟨#[115,110,100]⟩,.int .i64 1,.int .i64 1,.int .i64 3]
def a17:PV:=.agg [.str ⟨#[100,101,99]⟩,.int .i64 2,.int .i64 2,.int .i64 3]
def a18:PV:=.agg [.str ⟨#[97,100,101,99]⟩,.int .i64 2,.int .i64 2,.int .i64 3]
def a19:PV:=.agg [.str ⟨#[111,112,101,110]⟩,.int .i64 2,.int .i64 2,.int .i64 3]
def a20:PV:=.agg [.str ⟨#[114,101,97,100]⟩,.int .i64 1,.int .i64 1,.int .i64 3]
def a21:PV:=.agg [.int .i64 2,.str ⟨#[110]⟩,.int .i64 2,.aa false []]
def a22:PV:=.agg [.int .i64 2,.str ⟨#[107]⟩,.int .i64 3,.aa false []]
def a23:PV:=.agg [.int .i64 3,.str ⟨#[101,110,99]⟩,.int .i64 0,.aa false [a21,a22]]
def a24:PV:=.agg [.int .i64 1,.str ⟨#[120]⟩,.int .i64 0,.aa false []]
def a25:PV:=.agg [.int .i64 2,.str ⟨#[108]⟩,.int .i64 3,.aa false []]
def a26:PV:=.agg [.int .i64 3,.str ⟨#[101,110,99]⟩,.int .i64 0,.aa false [a24,a25]]
def uu:PV:=.agg [.int .i64 2,.str ⟨#[113,48]⟩,.int .i64 0,.aa false []]
def a28:PV:=.agg [.int .i64 3,.str ⟨#[101,110,99]⟩,.int .i64 0,.aa false [uu,a25]]
def uh:PV:=.agg [.int .i64 2,.str ⟨#[101,35,48]⟩,.int .i64 0,.aa false []]
def wx:PV:=.agg [.int .i64 3,.str ⟨#[101,110,99]⟩,.int .i64 0,.aa false [uh,a25]]
def a31:PV:=.agg [.int .i64 2,.str ⟨#[107]⟩,.int .i64 3,.aa false [],.int .i64 1]
def a32:PV:=.agg [.int .i64 2,.str ⟨#[110]⟩,.int .i64 2,.aa false [],.int .i64 1]
def a33:PV:=.agg [.int .i64 2,.str ⟨#[113,48]⟩,.int .i64 0,.aa false [],.int .i64 1]
def a34:PV:=.agg [.int .i64 2,.str ⟨#[108]⟩,.int .i64 3,.aa false [],.int .i64 1]
def m0:lQ:=[]
theorem Yg:kX C.P C.mode m0:=λx hx=>by cases hx
def r1:lQ:=[(156,[],.aa false [a0,a1,a2,a3,a4,a5,a6,a7,a8,a9,a10,a11,a12,a13,a14,a15,a16,a17,a18,a19,a20])]
def m1:lQ:=r1++m0
theorem UJ:mI C.P (lR m0 C.mode) 1000 r1=true:=by kernel_rfl
theorem Yh:kX C.P C.mode m1:=lS Yg UJ (by kernel_rfl)
def r2:lQ:=[(193,[.str ⟨#[101,110,99]⟩],.bool true),(193,[.str ⟨#[110]⟩],.bool true),(193,[.str ⟨#[107]⟩],.bool true),(193,[.str ⟨#[120]⟩],.bool true),(193,[.str ⟨#[108]⟩],.bool true),(193,[.str ⟨#[113,48]⟩],.bool true),(193,[.str ⟨#[101,35,48]⟩],.bool true),(111,[.str ⟨#[101,110,99]⟩],a1),(102,[a21],.int .i64 1),(102,[a22],.int .i64 1),(102,[a23],.int .i64 3),(102,[a24],.int .i64 1),(102,[a25],.int .i64 1),(102,[a26],.int .i64 3),(102,[uu],.int .i64 1),(102,[a28],.int .i64 3),(102,[uh],.int .i64 1),(102,[wx],.int .i64 3)]
def m2:lQ:=r2++m1
theorem UK:mI C.P (lR m1 C.mode) 1000 r2=true:=by kernel_rfl
theorem Yi:kX C.P C.mode m2:=lS Yh UK (by kernel_rfl)
def r3:lQ:=[(52,[a21,a21],.int .i64 0),(52,[a22,a22],.int .i64 0),(52,[a23,a23],.int .i64 0),(52,[a24,a24],.int .i64 0),(52,[a22,a24],.int .i64 1),(52,[a25,a22],.int .i64 1),(52,[a25,a25],.int .i64 0),(52,[a21,a25],.int .i64 1),(52,[a26,a21],.int .i64 1),(52,[a26,a26],.int .i64 0),(52,[a21,a24],.int .i64 1),(52,[a23,a26],.int .i64 1),(52,[a24,uu],.int .i64 (-1)),(52,[uu,uu],.int .i64 0),(52,[a21,a22],.int .i64 1),(52,[uu,a21],.int .i64 1),(52,[a23,uu],.int .i64 1),(52,[a23,a22],.int .i64 1),(52,[a22,a23],.int .i64 (-1)),(52,[a23,a21],.int .i64 1),(52,[a21,a23],.int .i64 (-1)),(52,[a21,uu],.int .i64 (-1)),(52,[uu,a23],.int .i64 (-1)),(52,[a28,a28],.int .i64 0),(52,[a28,a23],.int .i64 1),(52,[uu,a22],.int .i64 1),(52,[a22,uu],.int .i64 (-1)),(52,[a22,a28],.int .i64 (-1)),(52,[a23,a25],.int .i64 1),(52,[uu,a25],.int .i64 1),(52,[a25,uu],.int .i64 (-1)),(52,[a25,a23],.int .i64 (-1)),(52,[a25,a28],.int .i64 (-1)),(52,[a21,a28],.int .i64 (-1)),(52,[a23,a28],.int .i64 (-1)),(52,[a24,uh],.int .i64 (-1)),(52,[uh,uh],.int .i64 0),(52,[a22,uh],.int .i64 1),(52,[a23,uh],.int .i64 1),(52,[uh,a22],.int .i64 (-1)),(52,[uh,a21],.int .i64 (-1)),(52,[a21,uh],.int .i64 1),(52,[uh,a23],.int .i64 (-1)),(52,[wx,wx],.int .i64 0),(52,[wx,a21],.int .i64 1),(52,[a23,wx],.int .i64 1),(52,[wx,uh],.int .i64 1),(52,[wx,a22],.int .i64 1),(52,[a22,wx],.int .i64 (-1)),(52,[wx,a25],.int .i64 1),(52,[uh,a25],.int .i64 (-1)),(52,[a25,uh],.int .i64 1),(52,[a25,wx],.int .i64 (-1)),(52,[a21,wx],.int .i64 (-1)),(52,[uh,wx],.int .i64 (-1)),(52,[wx,a23],.int .i64 (-1)),(98,[a23],.int .i64 0),(98,[a24],.int .i64 0),(98,[a26],.int .i64 0),(98,[uu],.int .i64 0),(98,[a22],.int .i64 0),(98,[a21],.int .i64 0),(98,[a28],.int .i64 0),(98,[a25],.int .i64 0),(98,[uh],.int .i64 0),(98,[wx],.int .i64 0)]
def m3:lQ:=r3++m2
theorem UL:mI C.P (lR m2 C.mode) 1000 r3=true:=by kernel_rfl
theorem Yj:kX C.P C.mode m3:=lS Yi UL (by kernel_rfl)
def r4:lQ:=[(139,[a23],.int .i64 0),(139,[a24],.int .i64 0),(139,[a26],.int .i64 0),(139,[uu],.int .i64 0),(139,[a28],.int .i64 0),(139,[uh],.int .i64 0),(139,[wx],.int .i64 0),(54,[a23],.aa false []),(54,[a24],.aa false [a24]),(54,[a26],.aa false [a24]),(54,[uu],.aa false []),(54,[a28],.aa false []),(54,[uh],.aa false []),(54,[wx],.aa false []),(274,[a23],.cA [a22,.int .i64 0]),(274,[a28],.cA [a25,.int .i64 0]),(274,[wx],.cA [a25,.int .i64 0]),(55,[a23],.bool true),(55,[uu],.bool true),(55,[a28],.bool true),(55,[uh],.bool true),(55,[wx],.bool true)]
def m4:lQ:=r4++m3
theorem UM:mI C.P (lR m3 C.mode) 1000 r4=true:=by kernel_rfl
theorem Yk:kX C.P C.mode m4:=lS Yj UM (by kernel_rfl)
def r5:lQ:=[(85,[a23],.int .i64 0),(85,[a24],.int .i64 0),(85,[a26],.int .i64 0),(204,[a23],.int .i64 0),(204,[uu],.int .i64 0),(204,[a28],.int .i64 0),(204,[uh],.int .i64 0),(204,[wx],.int .i64 0),(276,[.aa false [],a22],.cA [.aa false [],.int .i64 4]),(276,[.aa false [],a21],.cA [.aa false [],.int .i64 4]),(276,[.aa false [],uu],.cA [.aa false [],.int .i64 4]),(276,[.aa false [],a25],.cA [.aa false [],.int .i64 4]),(328,[.aa false [],.aa false [a31]],.cA [.aa false [],.int .i64 4]),(328,[.aa false [],.aa false [a32]],.cA [.aa false [],.int .i64 4]),(328,[.aa false [],.aa false [a33]],.cA [.aa false [],.int .i64 4]),(328,[.aa false [],.aa false [a34]],.cA [.aa false [],.int .i64 4]),(275,[a22],.cA [.aa false [a22],.int .i64 0]),(275,[a21],.cA [.aa false [a21],.int .i64 0]),(275,[uu],.cA [.aa false [uu],.int .i64 0]),(275,[a25],.cA [.aa false [a25],.int .i64 0])]
def m5:lQ:=r5++m4
theorem UN:mI C.P (lR m4 C.mode) 1000 r5=true:=by kernel_rfl
theorem Yl:kX C.P C.mode m5:=lS Yk UN (by kernel_rfl)
def r6:lQ:=[(164,[.aa false [a23],a22],.bool false),(164,[.aa false [a23],a21],.bool false),(164,[.aa false [a23],uu],.bool false),(164,[.aa false [uu,a23,a28],a22],.bool false),(164,[.aa false [uu,a23,a28],a25],.bool false),(164,[.aa false [uu,a23,a28],a21],.bool false),(164,[.aa false [a23],uh],.bool true),(164,[.aa false [uh,a23],a22],.bool false),(164,[.aa false [uh,a23],a21],.bool false),(164,[.aa false [wx,a23],uh],.bool true),(164,[.aa false [uh,wx,a23],a22],.bool false),(164,[.aa false [uh,wx,a23],a25],.bool false),(164,[.aa false [uh,wx,a23],a21],.bool false)]
def m6:lQ:=r6++m5
theorem UO:mI C.P (lR m5 C.mode) 1000 r6=true:=by kernel_rfl
theorem Ym:kX C.P C.mode m6:=lS Yl UO (by kernel_rfl)
def r7:lQ:=[(58,[.aa false [a23],uu],.cA [.bool false,.int .i64 0]),(58,[.aa false [a23,a28,uu],a28],.cA [.bool true,.int .i64 0]),(58,[.aa false [a23],uh],.cA [.bool true,.int .i64 0]),(58,[.aa false [a23,wx],wx],.cA [.bool true,.int .i64 0])]
def m7:lQ:=r7++m6
theorem UP:mI C.P (lR m6 C.mode) 1000 r7=true:=by kernel_rfl
theorem Yn:kX C.P C.mode m7:=lS Ym UP (by kernel_rfl)
theorem run:pR ⟨C.P,lR m7 C.mode⟩ 1000 11 []=some (.bool true):=by kernel_rfl
end Go.Pm.bC.Awk
namespace Go.Pm
namespace bC
set_option maxRecDepth 100000
theorem J3:aI C 11 [] (.bool true):=aI.Yo Awk.Yn (aI.iS Awk.run)
end bC
end Go.Pm
