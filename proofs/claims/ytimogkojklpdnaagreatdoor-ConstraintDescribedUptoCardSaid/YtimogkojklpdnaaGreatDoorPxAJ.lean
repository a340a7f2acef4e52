/-
  Pm, a part. Conditions: none.
-/
import Derived.Test.YtimogkojklpdnaaGreatDoorPxAI
set_option linter.unusedVariables false
set_option linter.unusedSimpArgs false
set_option linter.unnecessarySimpa false
namespace Go.Pm.bE.Awk
open Go.Proofs
set_option maxRecDepth 100000
def a0:PV:=.agg [.str ⟨#[112,97,105,114]⟩,.int .i64 2,.int .i64 2,.int .i64 1]
def a1:PV:=.agg [.str ⟨#[101,110,99]⟩,.int .i64 2,.int .i64 2,.int .i64 1]
def a2:PV:=.agg [.str ⟨#[97,101,110,99]⟩,.int .i64 2,.int .i64 2,.int .i64 1]
def a3:PV:=.agg [.str ⟨#[112,107]⟩,.int .i64 1,.int .i64 1,.int .i64 1]
def a4:PV:=.agg [.str ⟨#[115,105,103,110]⟩,.int .i64 2,.int .i64 2,.int .i64 1]
def a5:PV:=.agg [.str ⟨#[104,97,115,104]⟩,.int .i64 1,.int .i64 1,.int .i64 1]
def a6:PV:=.agg [.str ⟨#[120,111,114]⟩,.int .i64 2,.int .i64 8,.int .i64 1]
def a7:PV:=.agg [.str ⟨#[122,101,114,111]⟩,.int .i64 0,.int .i64 0,.int .i64 1]
def a8:PV:=.agg [.str ⟨#[101,120,112]⟩,.int .i64 2,.int .i64 2,.int .i64 1]
def a9:PV:=.agg [.str ⟨#[109,117,108]⟩,.int .i64 2,.int .i64 8,.int .i64 1]
def a10:PV:=.agg [.str ⟨#[105,110,118]⟩,.int .i64 1,.int .i64 1,.int .i64 1]
def a11:PV:=.agg [.str ⟨#[111,110,101]⟩,.int .i64 0,.int .i64 0,.int .i64 1]
def a12:PV:=.agg [.str ⟨#[115,107]⟩,.int .i64 1,.int .i64 1,.int .i64 2]
def a13:PV:=.agg [.str ⟨#[115,104,107]⟩,.int .i64 2,.int .i64 2,.int .i64 2]
def a14:PV:=.agg [.str ⟨#[110,101,119]⟩,.int .i64 1,.int .i64 8,.int .i64 2]
def a15:PV:=.agg [.str ⟨#[102,115,116]⟩,.int .i64 1,.int .i64 1,.int .i64 3]
def a16:PV:=.agg [.str ⟨#[115,110,100]⟩,.int .i64 1,.int .i64 1,.int .i64 3]
def a17:PV:=.agg [.str ⟨#[100,101,99]⟩,.int .i64 2,.int .i64 2,.int .i64 3]
def a18:PV:=.agg [.str ⟨#[97,100,101,99]⟩,.int .i64 2,.int .i64 2,.int .i64 3]
def a19:PV:=.agg [.str ⟨#[111,112,101,110]⟩,.int .i64 2,.int .i64 2,.int .i64 3]
def a20:PV:=.agg [.str ⟨#[114,101,97,100]⟩,.int .i64 1,.int .i64 1,.int .i64 3]
def a21:PV:=.agg [.int .i64 2,.str ⟨#[110]⟩,.int .i64 2,.aa false []]
def a22:PV:=.agg [.int .i64 2,.str ⟨#[107]⟩,.int .i64 3,.aa false []]
def a23:PV:=.agg [.int .i64 3,.str ⟨#[101,110,99]⟩,.int .i64 0,.aa false [a21,a22]]
def a24:PV:=.agg [.int .i64 1,.str ⟨#[120]⟩,.int .i64 0,.aa false []]
def a25:PV:=.agg [.int .i64 2,.str ⟨#[108]⟩,.int .i64 3,.aa false []]
def a26:PV:=.agg [.int .i64 3,.str ⟨#[101,110,99]⟩,.int .i64 0,.aa false [a24,a25]]
def ud:PV:=.agg [.int .i64 2,.str ⟨#[113,48]⟩,.int .i64 0,.aa false []]
def a28:PV:=.agg [.int .i64 3,.str ⟨#[101,110,99]⟩,.int .i64 0,.aa false [ud,a25]]
def tW:PV:=.agg [.int .i64 2,.str ⟨#[101,35,48]⟩,.int .i64 0,.aa false []]
def wa:PV:=.agg [.int .i64 3,.str ⟨#[101,110,99]⟩,.int .i64 0,.aa false [tW,a25]]
def a31:PV:=.agg [.int .i64 2,.str ⟨#[107]⟩,.int .i64 3,.aa false [],.int .i64 1]
def a32:PV:=.agg [.int .i64 2,.str ⟨#[110]⟩,.int .i64 2,.aa false [],.int .i64 1]
def a33:PV:=.agg [.int .i64 2,.str ⟨#[113,48]⟩,.int .i64 0,.aa false [],.int .i64 1]
def a34:PV:=.agg [.int .i64 2,.str ⟨#[108]⟩,.int .i64 3,.aa false [],.int .i64 1]
def m0:lN:=[]
theorem Xm:kW C.P C.mode m0:=λx hx=>by cases hx
def r1:lN:=[(156,[],.aa false [a0,a1,a2,a3,a4,a5,a6,a7,a8,a9,a10,a11,a12,a13,a14,a15,a16,a17,a18,a19,a20])]
def m1:lN:=r1++m0
theorem T3:mG C.P (lO m0 C.mode) 1000 r1=true:=by kernel_rfl
theorem Xn:kW C.P C.mode m1:=lP Xm T3 (by kernel_rfl)
def r2:lN:=[(193,[.str ⟨#[101,110,99]⟩],.bool true),(193,[.str ⟨#[110]⟩],.bool true),(193,[.str ⟨#[107]⟩],.bool true),(193,[.str ⟨#[120]⟩],.bool true),(193,[.str ⟨#[108]⟩],.bool true),(193,[.str ⟨#[113,48]⟩],.bool true),(193,[.str ⟨#[101,35,48]⟩],.bool true),(111,[.str ⟨#[101,110,99]⟩],a1),(102,[a21],.int .i64 1),(102,[a22],.int .i64 1),(102,[a23],.int .i64 3),(102,[a24],.int .i64 1),(102,[a25],.int .i64 1),(102,[a26],.int .i64 3),(102,[ud],.int .i64 1),(102,[a28],.int .i64 3),(102,[tW],.int .i64 1),(102,[wa],.int .i64 3)]
def m2:lN:=r2++m1
theorem T4:mG C.P (lO m1 C.mode) 1000 r2=true:=by kernel_rfl
theorem Xo:kW C.P C.mode m2:=lP Xn T4 (by kernel_rfl)
def r3:lN:=[(52,[a21,a21],.int .i64 0),(52,[a22,a22],.int .i64 0),(52,[a23,a23],.int .i64 0),(52,[a24,a24],.int .i64 0),(52,[a22,a24],.int .i64 1),(52,[a25,a22],.int .i64 1),(52,[a25,a25],.int .i64 0),(52,[a21,a25],.int .i64 1),(52,[a26,a21],.int .i64 1),(52,[a26,a26],.int .i64 0),(52,[a21,a24],.int .i64 1),(52,[a23,a26],.int .i64 1),(52,[a24,ud],.int .i64 (-1)),(52,[ud,ud],.int .i64 0),(52,[a21,a22],.int .i64 1),(52,[ud,a21],.int .i64 1),(52,[a23,ud],.int .i64 1),(52,[a23,a22],.int .i64 1),(52,[a22,a23],.int .i64 (-1)),(52,[a23,a21],.int .i64 1),(52,[a21,a23],.int .i64 (-1)),(52,[a21,ud],.int .i64 (-1)),(52,[ud,a23],.int .i64 (-1)),(52,[a28,a28],.int .i64 0),(52,[a28,a23],.int .i64 1),(52,[ud,a22],.int .i64 1),(52,[a22,ud],.int .i64 (-1)),(52,[a22,a28],.int .i64 (-1)),(52,[a23,a25],.int .i64 1),(52,[ud,a25],.int .i64 1),(52,[a25,ud],.int .i64 (-1)),(52,[a25,a23],.int .i64 (-1)),(52,[a25,a28],.int .i64 (-1)),(52,[a21,a28],.int .i64 (-1)),(52,[a23,a28],.int .i64 (-1)),(52,[a24,tW],.int .i64 (-1)),(52,[tW,tW],.int .i64 0),(52,[a22,tW],.int .i64 1),(52,[a23,tW],.int .i64 1),(52,[tW,a22],.int .i64 (-1)),(52,[tW,a21],.int .i64 (-1)),(52,[a21,tW],.int .i64 1),(52,[tW,a23],.int .i64 (-1)),(52,[wa,wa],.int .i64 0),(52,[wa,a21],.int .i64 1),(52,[a23,wa],.int .i64 1),(52,[wa,tW],.int .i64 1),(52,[wa,a22],.int .i64 1),(52,[a22,wa],.int .i64 (-1)),(52,[wa,a25],.int .i64 1),(52,[tW,a25],.int .i64 (-1)),(52,[a25,tW],.int .i64 1),(52,[a25,wa],.int .i64 (-1)),(52,[a21,wa],.int .i64 (-1)),(52,[tW,wa],.int .i64 (-1)),(52,[wa,a23],.int .i64 (-1)),(98,[a23],.int .i64 0),(98,[a24],.int .i64 0),(98,[a26],.int .i64 0),(98,[ud],.int .i64 0),(98,[a22],.int .i64 0),(98,[a21],.int .i64 0),(98,[a28],.int .i64 0),(98,[a25],.int .i64 0),(98,[tW],.int .i64 0),(98,[wa],.int .i64 0)]
def m3:lN:=r3++m2
theorem T5:mG C.P (lO m2 C.mode) 1000 r3=true:=by kernel_rfl
theorem Xp:kW C.P C.mode m3:=lP Xo T5 (by kernel_rfl)
def r4:lN:=[(139,[a23],.int .i64 0),(139,[a24],.int .i64 0),(139,[a26],.int .i64 0),(139,[ud],.int .i64 0),(139,[a28],.int .i64 0),(139,[tW],.int .i64 0),(139,[wa],.int .i64 0),(54,[a23],.aa false []),(54,[a24],.aa false [a24]),(54,[a26],.aa false [a24]),(54,[ud],.aa false []),(54,[a28],.aa false []),(54,[tW],.aa false []),(54,[wa],.aa false []),(274,[a23],.ct [a22,.int .i64 0]),(274,[a28],.ct [a25,.int .i64 0]),(274,[wa],.ct [a25,.int .i64 0]),(55,[a23],.bool true),(55,[ud],.bool true),(55,[a28],.bool true),(55,[tW],.bool true),(55,[wa],.bool true)]
def m4:lN:=r4++m3
theorem T7:mG C.P (lO m3 C.mode) 1000 r4=true:=by kernel_rfl
theorem Xq:kW C.P C.mode m4:=lP Xp T7 (by kernel_rfl)
def r5:lN:=[(85,[a23],.int .i64 0),(85,[a24],.int .i64 0),(85,[a26],.int .i64 0),(204,[a23],.int .i64 0),(204,[ud],.int .i64 0),(204,[a28],.int .i64 0),(204,[tW],.int .i64 0),(204,[wa],.int .i64 0),(276,[.aa false [],a22],.ct [.aa false [],.int .i64 4]),(276,[.aa false [],a21],.ct [.aa false [],.int .i64 4]),(276,[.aa false [],ud],.ct [.aa false [],.int .i64 4]),(276,[.aa false [],a25],.ct [.aa false [],.int .i64 4]),(328,[.aa false [],.aa false [a31]],.ct [.aa false [],.int .i64 4]),(328,[.aa false [],.aa false [a32]],.ct [.aa false [],.int .i64 4]),(328,[.aa false [],.aa false [a33]],.ct [.aa false [],.int .i64 4]),(328,[.aa false [],.aa false [a34]],.ct [.aa false [],.int .i64 4]),(275,[a22],.ct [.aa false [a22],.int .i64 0]),(275,[a21],.ct [.aa false [a21],.int .i64 0]),(275,[ud],.ct [.aa false [ud],.int .i64 0]),(275,[a25],.ct [.aa false [a25],.int .i64 0])]
def m5:lN:=r5++m4
theorem T8:mG C.P (lO m4 C.mode) 1000 r5=true:=by kernel_rfl
theorem Xr:kW C.P C.mode m5:=lP Xq T8 (by kernel_rfl)
def r6:lN:=[(164,[.aa false [a23],a22],.bool false),(164,[.aa false [a23],a21],.bool false),(164,[.aa false [a23],ud],.bool false),(164,[.aa false [ud,a23,a28],a22],.bool false),(164,[.aa false [ud,a23,a28],a25],.bool false),(164,[.aa false [ud,a23,a28],a21],.bool false),(164,[.aa false [a23],tW],.bool true),(164,[.aa false [tW,a23],a22],.bool false),(164,[.aa false [tW,a23],a21],.bool false),(164,[.aa false [wa,a23],tW],.bool true),(164,[.aa false [tW,wa,a23],a22],.bool false),(164,[.aa false [tW,wa,a23],a25],.bool false),(164,[.aa false [tW,wa,a23],a21],.bool false)]
def m6:lN:=r6++m5
theorem T9:mG C.P (lO m5 C.mode) 1000 r6=true:=by kernel_rfl
theorem Xs:kW C.P C.mode m6:=lP Xr T9 (by kernel_rfl)
def r7:lN:=[(58,[.aa false [a23],ud],.ct [.bool false,.int .i64 0]),(58,[.aa false [a23,a28,ud],a28],.ct [.bool true,.int .i64 0]),(58,[.aa false [a23],tW],.ct [.bool true,.int .i64 0]),(58,[.aa false [a23,wa],wa],.ct [.bool true,.int .i64 0])]
def m7:lN:=r7++m6
theorem T':mG C.P (lO m6 C.mode) 1000 r7=true:=by kernel_rfl
theorem Xt:kW C.P C.mode m7:=lP Xs T' (by kernel_rfl)
theorem run:pH ⟨C.P,lO m7 C.mode⟩ 1000 11 []=some (.bool true):=by kernel_rfl
end Go.Pm.bE.Awk
namespace Go.Pm
namespace bE
set_option maxRecDepth 100000
theorem JB:aI C 11 [] (.bool true):=aI.Xu Awk.Xt (aI.oF Awk.run)
end bE
end Go.Pm
