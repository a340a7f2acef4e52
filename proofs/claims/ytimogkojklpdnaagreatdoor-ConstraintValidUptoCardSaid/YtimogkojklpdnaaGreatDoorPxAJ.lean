/-
  Pm, a part. Conditions: none.
-/
import Derived.Test.YtimogkojklpdnaaGreatDoorPxAI
set_option linter.unusedVariables false
set_option linter.unusedSimpArgs false
set_option linter.unnecessarySimpa false
set_option linter.unusedSectionVars false
namespace Go.Pm.bu.NK
open Go.Proofs
set_option maxRecDepth 100000
def a0:PV:=.agg [.str ⟨#[112,97,105,114]⟩,.int .i64 2,.int .i64 2,.int .i64 1]
def a1:PV:=.agg [.str ⟨#[101,110,99]⟩,.int .i64 2,.int .i64 2,.int .i64 1]
def a2:PV:=.agg [.str ⟨#[97,101,110,99]⟩,.int .i64 2,.int .i64 2,.int .i64 1]
def a3:PV:=.agg [.str ⟨#[112,107]⟩,.int .i64 1,.int .i64 1,.int .i64 1]
def a4:PV:=.agg [.str ⟨#[115,105,103,110]⟩,.int .i64 2,.int .i64 2,.int .i64 1]
def a5:PV:=.agg [.str ⟨#[104,97,115,104]⟩,.int .i64 1,.int .i64 1,.int .i64 1]
def a6:PV:=.agg [.str ⟨#[120,111,114]⟩,.int .i64 2,.int .i64 8,.int .i64 1]
def a7:PV:=.agg [.str ⟨#[122,101,114,111]⟩,.int .i64 0,.int .i64 0,.int .i64 1]
def a8:PV:=.agg [.str ⟨#[101,120,112]⟩,.int .i64 2,.int .i64 2,.int .i64 1]
def a9:PV:=.agg [.str ⟨#[109,117,108]⟩,.int .i64 2,.int .i64 8,.int .i64 1]
def QO:PV:=.agg [.str ⟨#[105,110,118]⟩,.int .i64 1,.int .i64 1,.int .i64 1]
def QP:PV:=.agg [.str ⟨#[111,110,101]⟩,.int .i64 0,.int .i64 0,.int .i64 1]
def a12:PV:=.agg [.str ⟨#[115,107]⟩,.int .i64 1,.int .i64 1,.int .i64 2]
def QQ:PV:=.agg [.str ⟨#[115,104,107]⟩,.int .i64 2,.int .i64 2,.int .i64 2]
def QR:PV:=.agg [.str ⟨#[110,101,119]⟩,.int .i64 1,.int .i64 8,.int .i64 2]
def QS:PV:=.agg [.str ⟨#[102,115,116]⟩,.int .i64 1,.int .i64 1,.int .i64 3]
def QT:PV:=.agg [.str ⟨#[115,110,100]⟩,.int .i64 1,.int .i64 1,.int .i64 3]
def a17:PV:=.agg [.str ⟨#[100,101,99]⟩,.int .i64 2,.int .i64 2,.int .i64 3]
def QU:PV:=.agg [.str ⟨#[97,100,101,99]⟩,.int .i64 2,.int .i64 2,.int .i64 3]
def QV:PV:=.agg [.str ⟨#[111,112,101,110]⟩,.int .i64 2,.int .i64 2,.int .i64 3]
def a20:PV:=.agg [.str ⟨#[114,101,97,100]⟩,.int .i64 1,.int .i64 1,.int .i64 3]
def a21:PV:=.agg [.int .i64 2,.str ⟨#[110]⟩,.int .i64 2,.ab false []]
def a22:PV:=.agg [.int .i64 2,.str ⟨#[107]⟩,.int .i64 3,.ab false []]
def a23:PV:=.agg [.int .i64 3,.str ⟨#[101,110,99]⟩,.int .i64 0,.ab false [a21,a22]]
def a24:PV:=.agg [.int .i64 1,.str ⟨#[120]⟩,.int .i64 0,.ab false []]
def a25:PV:=.agg [.int .i64 2,.str ⟨#[108]⟩,.int .i64 3,.ab false []]
def a26:PV:=.agg [.int .i64 3,.str ⟨#[101,110,99]⟩,.int .i64 0,.ab false [a24,a25]]
def oz:PV:=.agg [.int .i64 2,.str ⟨#[113,48]⟩,.int .i64 0,.ab false []]
def a28:PV:=.agg [.int .i64 3,.str ⟨#[101,110,99]⟩,.int .i64 0,.ab false [oz,a25]]
def ol:PV:=.agg [.int .i64 2,.str ⟨#[101,35,48]⟩,.int .i64 0,.ab false []]
def qa:PV:=.agg [.int .i64 3,.str ⟨#[101,110,99]⟩,.int .i64 0,.ab false [ol,a25]]
def a31:PV:=.agg [.int .i64 2,.str ⟨#[107]⟩,.int .i64 3,.ab false [],.int .i64 1]
def a32:PV:=.agg [.int .i64 2,.str ⟨#[110]⟩,.int .i64 2,.ab false [],.int .i64 1]
def a33:PV:=.agg [.int .i64 2,.str ⟨#[113,48]⟩,.int .i64 0,.ab false [],.int .i64 1]
def QW:PV:=.agg [.int .i64 2,.str ⟨#[108]⟩,.int .i64 3,.ab false [],.int .i64 1]
def m0:iJ:=[]
theorem KP:hZ C.P C.mode m0:=λx hx=>by cases hx
def r1:iJ:=[(156,[],.ab false [a0,a1,a2,a3,a4,a5,a6,a7,a8,a9,QO,QP,a12,QQ,QR,QS,QT,a17,QU,QV,a20])]
def m1:iJ:=r1++m0
theorem HQ:jo C.P (iK m0 C.mode) 1000 r1=true:=by kernel_rfl
theorem KQ:hZ C.P C.mode m1:=iL KP HQ (by kernel_rfl)
def r2:iJ:=[(193,[.str ⟨#[101,110,99]⟩],.bool true),(193,[.str ⟨#[110]⟩],.bool true),(193,[.str ⟨#[107]⟩],.bool true),(193,[.str ⟨#[120]⟩],.bool true),(193,[.str ⟨#[108]⟩],.bool true),(193,[.str ⟨#[113,48]⟩],.bool true),(193,[.str ⟨#[101,35,48]⟩],.bool true),(111,[.str ⟨#[101,110,99]⟩],a1),(102,[a21],.int .i64 1),(102,[a22],.int .i64 1),(102,[a23],.int .i64 3),(102,[a24],.int .i64 1),(102,[a25],.int .i64 1),(102,[a26],.int .i64 3),(102,[oz],.int .i64 1),(102,[a28],.int .i64 3),(102,[ol],.int .i64 1),(102,[qa],.int .i64 3)]
def m2:iJ:=r2++m1
theorem HS:jo C.P (iK m1 C.mode) 1000 r2=true:=by kernel_rfl
theorem KR:hZ C.P C.mode m2:=iL KQ HS (by kernel_rfl)
def r3:iJ:=[(52,[a21,a21],.int .i64 0),(52,[a22,a22],.int .i64 0),(52,[a23,a23],.int .i64 0),(52,[a24,a24],.int .i64 0),(52,[a22,a24],.int .i64 1),(52,[a25,a22],.int .i64 1),(52,[a25,a25],.int .i64 0),(52,[a21,a25],.int .i64 1),(52,[a26,a21],.int .i64 1),(52,[a26,a26],.int .i64 0),(52,[a21,a24],.int .i64 1),(52,[a23,a26],.int .i64 1),(52,[a24,oz],.int .i64 (-1)),(52,[oz,oz],.int .i64 0),(52,[a21,a22],.int .i64 1),(52,[oz,a21],.int .i64 1),(52,[a23,oz],.int .i64 1),(52,[a23,a22],.int .i64 1),(52,[a22,a23],.int .i64 (-1)),(52,[a23,a21],.int .i64 1),(52,[a21,a23],.int .i64 (-1)),(52,[a21,oz],.int .i64 (-1)),(52,[oz,a23],.int .i64 (-1)),(52,[a28,a28],.int .i64 0),(52,[a28,a23],.int .i64 1),(52,[oz,a22],.int .i64 1),(52,[a22,oz],.int .i64 (-1)),(52,[a22,a28],.int .i64 (-1)),(52,[a23,a25],.int .i64 1),(52,[oz,a25],.int .i64 1),(52,[a25,oz],.int .i64 (-1)),(52,[a25,a23],.int .i64 (-1)),(52,[a25,a28],.int .i64 (-1)),(52,[a21,a28],.int .i64 (-1)),(52,[a23,a28],.int .i64 (-1)),(52,[a24,ol],.int .i64 (-1)),(52,[ol,ol],.int .i64 0),(52,[a22,ol],.int .i64 1),(52,[a23,ol],.int .i64 1),(52,[ol,a22],.int .i64 (-1)),(52,[ol,a21],.int .i64 (-1)),(52,[a21,ol],.int .i64 1),(52,[ol,a23],.int .i64 (-1)),(52,[qa,qa],.int .i64 0),(52,[qa,a21],.int .i64 1),(52,[a23,qa],.int .i64 1),(52,[qa,ol],.int .i64 1),(52,[qa,a22],.int .i64 1),(52,[a22,qa],.int .i64 (-1)),(52,[qa,a25],.int .i64 1),(52,[ol,a25],.int .i64 (-1)),(52,[a25,ol],.int .i64 1),(52,[a25,qa],.int .i64 (-1)),(52,[a21,qa],.int .i64 (-1)),(52,[ol,qa],.int .i64 (-1)),(52,[qa,a23],.int .i64 (-1)),(98,[a23],.int .i64 0),(98,[a24],.int .i64 0),(98,[a26],.int .i64 0),(98,[oz],.int .i64 0),(98,[a22],.int .i64 0),(98,[a21],.int .i64 0),(98,[a28],.int .i64 0),(98,[a25],.int .i64 0),(98,[ol],.int .i64 0),(98,[qa],.int .i64 0)]
def m3:iJ:=r3++m2
theorem HT:jo C.P (iK m2 C.mode) 1000 r3=true:=by kernel_rfl
theorem KT:hZ C.P C.mode m3:=iL KR HT (by kernel_rfl)
def r4:iJ:=[(139,[a23],.int .i64 0),(139,[a24],.int .i64 0),(139,[a26],.int .i64 0),(139,[oz],.int .i64 0),(139,[a28],.int .i64 0),(139,[ol],.int .i64 0),(139,[qa],.int .i64 0),(54,[a23],.ab false []),(54,[a24],.ab false [a24]),(54,[a26],.ab false [a24]),(54,[oz],.ab false []),(54,[a28],.ab false []),(54,[ol],.ab false []),(54,[qa],.ab false []),(274,[a23],.cT [a22,.int .i64 0]),(274,[a28],.cT [a25,.int .i64 0]),(274,[qa],.cT [a25,.int .i64 0]),(55,[a23],.bool true),(55,[oz],.bool true),(55,[a28],.bool true),(55,[ol],.bool true),(55,[qa],.bool true)]
def m4:iJ:=r4++m3
theorem HU:jo C.P (iK m3 C.mode) 1000 r4=true:=by kernel_rfl
theorem KU:hZ C.P C.mode m4:=iL KT HU (by kernel_rfl)
def r5:iJ:=[(85,[a23],.int .i64 0),(85,[a24],.int .i64 0),(85,[a26],.int .i64 0),(204,[a23],.int .i64 0),(204,[oz],.int .i64 0),(204,[a28],.int .i64 0),(204,[ol],.int .i64 0),(204,[qa],.int .i64 0),(276,[.ab false [],a22],.cT [.ab false [],.int .i64 4]),(276,[.ab false [],a21],.cT [.ab false [],.int .i64 4]),(276,[.ab false [],oz],.cT [.ab false [],.int .i64 4]),(276,[.ab false [],a25],.cT [.ab false [],.int .i64 4]),(328,[.ab false [],.ab false [a31]],.cT [.ab false [],.int .i64 4]),(328,[.ab false [],.ab false [a32]],.cT [.ab false [],.int .i64 4]),(328,[.ab false [],.ab false [a33]],.cT [.ab false [],.int .i64 4]),(328,[.ab false [],.ab false [QW]],.cT [.ab false [],.int .i64 4]),(275,[a22],.cT [.ab false [a22],.int .i64 0]),(275,[a21],.cT [.ab false [a21],.int .i64 0]),(275,[oz],.cT [.ab false [oz],.int .i64 0]),(275,[a25],.cT [.ab false [a25],.int .i64 0])]
def m5:iJ:=r5++m4
theorem HW:jo C.P (iK m4 C.mode) 1000 r5=true:=by kernel_rfl
theorem KV:hZ C.P C.mode m5:=iL KU HW (by kernel_rfl)
def r6:iJ:=[(164,[.ab false [a23],a22],.bool false),(164,[.ab false [a23],a21],.bool false),(164,[.ab false [a23],oz],.bool false),(164,[.ab false [oz,a23,a28],a22],.bool false),(164,[.ab false [oz,a23,a28],a25],.bool false),(164,[.ab false [oz,a23,a28],a21],.bool false),(164,[.ab false [a23],ol],.bool true),(164,[.ab false [ol,a23],a22],.bool false),(164,[.ab false [ol,a23],a21],.bool false),(164,[.ab false [qa,a23],ol],.bool true),(164,[.ab false [ol,qa,a23],a22],.bool false),(164,[.ab false [ol,qa,a23],a25],.bool false),(164,[.ab false [ol,qa,a23],a21],.bool false)]
def m6:iJ:=r6++m5
theorem HX:jo C.P (iK m5 C.mode) 1000 r6=true:=by kernel_rfl
theorem KW:hZ C.P C.mode m6:=iL KV HX (by kernel_rfl)
def r7:iJ:=[(58,[.ab false [a23],oz],.cT [.bool false,.int .i64 0]),(58,[.ab false [a23,a28,oz],a28],.cT [.bool true,.int .i64 0]),(58,[.ab false [a23],ol],.cT [.bool true,.int .i64 0]),(58,[.ab false [a23,qa],qa],.cT [.bool true,.int .i64 0])]
def m7:iJ:=r7++m6
theorem HY:jo C.P (iK m6 C.mode) 1000 r7=true:=by kernel_rfl
theorem KX:hZ C.P C.mode m7:=iL KW HY (by kernel_rfl)
theorem run:k9 ⟨C.P,iK m7 C.mode⟩ 1000 11 []=some (.bool true):=by kernel_rfl
end Go.Pm.bu.NK
namespace Go.Pm
namespace bu
set_option maxRecDepth 100000
theorem A9:aW C 11 [] (.bool true):=aW.KY NK.KX (aW.qO NK.run)
end bu
end Go.Pm
