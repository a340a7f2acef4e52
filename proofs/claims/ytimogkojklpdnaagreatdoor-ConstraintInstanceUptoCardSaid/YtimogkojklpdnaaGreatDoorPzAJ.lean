/-
  A part of the library Pm and its contracts (joined by program): PmAwk36. Conditions: none.
-/
import Derived.Test.YtimogkojklpdnaaGreatDoorPzAI
set_option linter.unusedVariables false
set_option linter.unusedSimpArgs false
section
set_option maxRecDepth 100000
namespace Go.Pm.Nine.Awk
open Go.Proofs
def a0:PV:=.agg [.str ⟨#[112,97,105,114]⟩,.int .i64 2,.int .i64 2,.int .i64 1]
def a1:PV:=.agg [.str ⟨#[101,110,99]⟩,.int .i64 2,.int .i64 2,.int .i64 1]
def a2:PV:=.agg [.str ⟨#[97,101,110,99]⟩,.int .i64 2,.int .i64 2,.int .i64 1]
def a3:PV:=.agg [.str ⟨#[112,107]⟩,.int .i64 1,.int .i64 1,.int .i64 1]
def a4:PV:=.agg [.str ⟨#[115,105,103,110]⟩,.int .i64 2,.int .i64 2,.int .i64 1]
def a5:PV:=.agg [.str ⟨#[104,97,115,104]⟩,.int .i64 1,.int .i64 1,.int .i64 1]
def a6:PV:=.agg [.str ⟨#[120,111,114]⟩,.int .i64 2,.int .i64 8,.int .i64 1]
def a7:PV:=.agg [.str ⟨#[122,101,114,111]⟩,.int .i64 0,.int .i64 0,.int .i64 1]
def a8:PV:=.agg [.str ⟨#[101,120,112]⟩,.int .i64 2,.int .i64 2,.int .i64 1]
def a9:PV:=.agg [.str ⟨#[109,117,108]⟩,.int .i64 2,.int .i64 8,.int .i64 1]
def a10:PV:=.agg [.str ⟨#[105,110,118]⟩,.int .i64 1,.int .i64 1,.int .i64 1]
def a11:PV:=.agg [.str ⟨#[111,110,101]⟩,.int .i64 0,.int .i64 0,.int .i64 1]
def a12:PV:=.agg [.str ⟨#[115,107]⟩,.int .i64 1,.int .i64 1,.int .i64 2]
def a13:PV:=.agg [.str ⟨#[115,104,107]⟩,.int .i64 2,.int .i64 2,.int .i64 2]
def a14:PV:=.agg [.str ⟨#[110,101,119]⟩,.int .i64 1,.int .i64 8,.int .i64 2]
def a15:PV:=.agg [.str ⟨#[102,115,116]⟩,.int .i64 1,.int .i64 1,.int .i64 3]
def a16:PV:=.agg [.str ⟨#[115,110,100]⟩,.int .i64 1,.int .i64 1,.int .i64 3]
def a17:PV:=.agg [.str ⟨#[100,101,99]⟩,.int .i64 2,.int .i64 2,.int .i64 3]
def a18:PV:=.agg [.str ⟨#[97,100,101,99]⟩,.int .i64 2,.int .i64 2,.int .i64 3]
def a19:PV:=.agg [.str ⟨#[111,112,101,110]⟩,.int .i64 2,.int .i64 2,.int .i64 3]
def a20:PV:=.agg [.str ⟨#[114,101,97,100]⟩,.int .i64 1,.int .i64 1,.int .i64 3]
def a21:PV:=.agg [.int .i64 2,.str ⟨#[110]⟩,.int .i64 2,.snap false []]
def a22:PV:=.agg [.int .i64 2,.str ⟨#[107]⟩,.int .i64 3,.snap false []]
def a23:PV:=.agg [.int .i64 3,.str ⟨#[101,110,99]⟩,.int .i64 0,.snap false [a21,a22]]
def a24:PV:=.agg [.int .i64 1,.str ⟨#[120]⟩,.int .i64 0,.snap false []]
def a25:PV:=.agg [.int .i64 2,.str ⟨#[108]⟩,.int .i64 3,.snap false []]
def a26:PV:=.agg [.int .i64 3,.str ⟨#[101,110,99]⟩,.int .i64 0,.snap false [a24,a25]]
def a27:PV:=.agg [.int .i64 2,.str ⟨#[113,48]⟩,.int .i64 0,.snap false []]
def a28:PV:=.agg [.int .i64 3,.str ⟨#[101,110,99]⟩,.int .i64 0,.snap false [a27,a25]]
def a29:PV:=.agg [.int .i64 2,.str ⟨#[101,35,48]⟩,.int .i64 0,.snap false []]
def a30:PV:=.agg [.int .i64 3,.str ⟨#[101,110,99]⟩,.int .i64 0,.snap false [a29,a25]]
def a31:PV:=.agg [.int .i64 2,.str ⟨#[107]⟩,.int .i64 3,.snap false [],.int .i64 1]
def a32:PV:=.agg [.int .i64 2,.str ⟨#[110]⟩,.int .i64 2,.snap false [],.int .i64 1]
def a33:PV:=.agg [.int .i64 2,.str ⟨#[113,48]⟩,.int .i64 0,.snap false [],.int .i64 1]
def a34:PV:=.agg [.int .i64 2,.str ⟨#[108]⟩,.int .i64 3,.snap false [],.int .i64 1]
def m0:Memo:=[]
theorem m0_ok:MemoOk C.P C.mode m0:=fun x hx=>by cases hx
def r1:Memo:=[(156,[],.snap false [a0,a1,a2,a3,a4,a5,a6,a7,a8,a9,a10,a11,a12,a13,a14,a15,a16,a17,a18,a19,a20])]
def m1:Memo:=r1++m0
theorem r1_run:memoRun C.P (modeM m0 C.mode) 1000 r1=true:=by kernel_rfl
theorem m1_ok:MemoOk C.P C.mode m1:=memo_ext m0_ok r1_run (by kernel_rfl)
def r2:Memo:=[(193,[.str ⟨#[101,110,99]⟩],.bool true),(193,[.str ⟨#[110]⟩],.bool true),(193,[.str ⟨#[107]⟩],.bool true),(193,[.str ⟨#[120]⟩],.bool true),(193,[.str ⟨#[108]⟩],.bool true),(193,[.str ⟨#[113,48]⟩],.bool true),(193,[.str ⟨#[101,35,48]⟩],.bool true),(111,[.str ⟨#[101,110,99]⟩],a1),(102,[a21],.int .i64 1),(102,[a22],.int .i64 1),(102,[a23],.int .i64 3),(102,[a24],.int .i64 1),(102,[a25],.int .i64 1),(102,[a26],.int .i64 3),(102,[a27],.int .i64 1),(102,[a28],.int .i64 3),(102,[a29],.int .i64 1),(102,[a30],.int .i64 3)]
def m2:Memo:=r2++m1
theorem r2_run:memoRun C.P (modeM m1 C.mode) 1000 r2=true:=by kernel_rfl
theorem m2_ok:MemoOk C.P C.mode m2:=memo_ext m1_ok r2_run (by kernel_rfl)
def r3:Memo:=[(52,[a21,a21],.int .i64 0),(52,[a22,a22],.int .i64 0),(52,[a23,a23],.int .i64 0),(52,[a24,a24],.int .i64 0),(52,[a22,a24],.int .i64 1),(52,[a25,a22],.int .i64 1),(52,[a25,a25],.int .i64 0),(52,[a21,a25],.int .i64 1),(52,[a26,a21],.int .i64 1),(52,[a26,a26],.int .i64 0),(52,[a21,a24],.int .i64 1),(52,[a23,a26],.int .i64 1),(52,[a24,a27],.int .i64 (-1)),(52,[a27,a27],.int .i64 0),(52,[a21,a22],.int .i64 1),(52,[a27,a21],.int .i64 1),(52,[a23,a27],.int .i64 1),(52,[a23,a22],.int .i64 1),(52,[a22,a23],.int .i64 (-1)),(52,[a23,a21],.int .i64 1),(52,[a21,a23],.int .i64 (-1)),(52,[a21,a27],.int .i64 (-1)),(52,[a27,a23],.int .i64 (-1)),(52,[a28,a28],.int .i64 0),(52,[a28,a23],.int .i64 1),(52,[a27,a22],.int .i64 1),(52,[a22,a27],.int .i64 (-1)),(52,[a22,a28],.int .i64 (-1)),(52,[a23,a25],.int .i64 1),(52,[a27,a25],.int .i64 1),(52,[a25,a27],.int .i64 (-1)),(52,[a25,a23],.int .i64 (-1)),(52,[a25,a28],.int .i64 (-1)),(52,[a21,a28],.int .i64 (-1)),(52,[a23,a28],.int .i64 (-1)),(52,[a24,a29],.int .i64 (-1)),(52,[a29,a29],.int .i64 0),(52,[a22,a29],.int .i64 1),(52,[a23,a29],.int .i64 1),(52,[a29,a22],.int .i64 (-1)),(52,[a29,a21],.int .i64 (-1)),(52,[a21,a29],.int .i64 1),(52,[a29,a23],.int .i64 (-1)),(52,[a30,a30],.int .i64 0),(52,[a30,a21],.int .i64 1),(52,[a23,a30],.int .i64 1),(52,[a30,a29],.int .i64 1),(52,[a30,a22],.int .i64 1),(52,[a22,a30],.int .i64 (-1)),(52,[a30,a25],.int .i64 1),(52,[a29,a25],.int .i64 (-1)),(52,[a25,a29],.int .i64 1),(52,[a25,a30],.int .i64 (-1)),(52,[a21,a30],.int .i64 (-1)),(52,[a29,a30],.int .i64 (-1)),(52,[a30,a23],.int .i64 (-1)),(98,[a23],.int .i64 0),(98,[a24],.int .i64 0),(98,[a26],.int .i64 0),(98,[a27],.int .i64 0),(98,[a22],.int .i64 0),(98,[a21],.int .i64 0),(98,[a28],.int .i64 0),(98,[a25],.int .i64 0),(98,[a29],.int .i64 0),(98,[a30],.int .i64 0)]
def m3:Memo:=r3++m2
theorem r3_run:memoRun C.P (modeM m2 C.mode) 1000 r3=true:=by kernel_rfl
theorem m3_ok:MemoOk C.P C.mode m3:=memo_ext m2_ok r3_run (by kernel_rfl)
def r4:Memo:=[(139,[a23],.int .i64 0),(139,[a24],.int .i64 0),(139,[a26],.int .i64 0),(139,[a27],.int .i64 0),(139,[a28],.int .i64 0),(139,[a29],.int .i64 0),(139,[a30],.int .i64 0),(54,[a23],.snap false []),(54,[a24],.snap false [a24]),(54,[a26],.snap false [a24]),(54,[a27],.snap false []),(54,[a28],.snap false []),(54,[a29],.snap false []),(54,[a30],.snap false []),(274,[a23],.tup [a22,.int .i64 0]),(274,[a28],.tup [a25,.int .i64 0]),(274,[a30],.tup [a25,.int .i64 0]),(55,[a23],.bool true),(55,[a27],.bool true),(55,[a28],.bool true),(55,[a29],.bool true),(55,[a30],.bool true)]
def m4:Memo:=r4++m3
theorem r4_run:memoRun C.P (modeM m3 C.mode) 1000 r4=true:=by kernel_rfl
theorem m4_ok:MemoOk C.P C.mode m4:=memo_ext m3_ok r4_run (by kernel_rfl)
def r5:Memo:=[(85,[a23],.int .i64 0),(85,[a24],.int .i64 0),(85,[a26],.int .i64 0),(204,[a23],.int .i64 0),(204,[a27],.int .i64 0),(204,[a28],.int .i64 0),(204,[a29],.int .i64 0),(204,[a30],.int .i64 0),(276,[.snap false [],a22],.tup [.snap false [],.int .i64 4]),(276,[.snap false [],a21],.tup [.snap false [],.int .i64 4]),(276,[.snap false [],a27],.tup [.snap false [],.int .i64 4]),(276,[.snap false [],a25],.tup [.snap false [],.int .i64 4]),(328,[.snap false [],.snap false [a31]],.tup [.snap false [],.int .i64 4]),(328,[.snap false [],.snap false [a32]],.tup [.snap false [],.int .i64 4]),(328,[.snap false [],.snap false [a33]],.tup [.snap false [],.int .i64 4]),(328,[.snap false [],.snap false [a34]],.tup [.snap false [],.int .i64 4]),(275,[a22],.tup [.snap false [a22],.int .i64 0]),(275,[a21],.tup [.snap false [a21],.int .i64 0]),(275,[a27],.tup [.snap false [a27],.int .i64 0]),(275,[a25],.tup [.snap false [a25],.int .i64 0])]
def m5:Memo:=r5++m4
theorem r5_run:memoRun C.P (modeM m4 C.mode) 1000 r5=true:=by kernel_rfl
theorem m5_ok:MemoOk C.P C.mode m5:=memo_ext m4_ok r5_run (by kernel_rfl)
def r6:Memo:=[(164,[.snap false [a23],a22],.bool false),(164,[.snap false [a23],a21],.bool false),(164,[.snap false [a23],a27],.bool false),(164,[.snap false [a27,a23,a28],a22],.bool false),(164,[.snap false [a27,a23,a28],a25],.bool false),(164,[.snap false [a27,a23,a28],a21],.bool false),(164,[.snap false [a23],a29],.bool true),(164,[.snap false [a29,a23],a22],.bool false),(164,[.snap false [a29,a23],a21],.bool false),(164,[.snap false [a30,a23],a29],.bool true),(164,[.snap false [a29,a30,a23],a22],.bool false),(164,[.snap false [a29,a30,a23],a25],.bool false),(164,[.snap false [a29,a30,a23],a21],.bool false)]
def m6:Memo:=r6++m5
theorem r6_run:memoRun C.P (modeM m5 C.mode) 1000 r6=true:=by kernel_rfl
theorem m6_ok:MemoOk C.P C.mode m6:=memo_ext m5_ok r6_run (by kernel_rfl)
def r7:Memo:=[(58,[.snap false [a23],a27],.tup [.bool false,.int .i64 0]),(58,[.snap false [a23,a28,a27],a28],.tup [.bool true,.int .i64 0]),(58,[.snap false [a23],a29],.tup [.bool true,.int .i64 0]),(58,[.snap false [a23,a30],a30],.tup [.bool true,.int .i64 0])]
def m7:Memo:=r7++m6
theorem r7_run:memoRun C.P (modeM m6 C.mode) 1000 r7=true:=by kernel_rfl
theorem m7_ok:MemoOk C.P C.mode m7:=memo_ext m6_ok r7_run (by kernel_rfl)
theorem run:pureF ⟨C.P,modeM m7 C.mode⟩ 1000 11 []=some (.bool true):=by kernel_rfl
end Go.Pm.Nine.Awk
namespace Go.Pm.Nine
theorem awk36_fun:Fun C 11 [] (.bool true):=Fun.memo Awk.m7_ok (Fun.of_run Awk.run)
end Go.Pm.Nine
end
