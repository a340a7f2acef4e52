/-
  Pm, a part. Conditions: none.
-/
import Derived.Test.YtiipafafbpaaoaaGreatDoorPsAN
set_option linter.unusedVariables false
set_option linter.unusedSimpArgs false
set_option linter.unnecessarySimpa false
set_option linter.unusedSectionVars false
namespace Go.Pm.tW.Awk
open Go.Proofs
set_option maxRecDepth 100000
def a0:PV:=.agg [.str ⟨#[112,97,105,114]⟩,.int .i64 2,.int .i64 2,.int .i64 1]
def a1:PV:=.agg [.str ⟨#[101,110,99]⟩,.int .i64 2,.int .i64 2,.int .i64 1]
def a2:PV:=.agg [.str ⟨#[97,101,110,99]⟩,.int .i64 2,.int .i64 2,.int .i64 1]
def a3:PV:=.agg [.str ⟨#[112,107]⟩,.int .i64 1,.int .i64 1,.int .i64 1]
def a4:PV:=.agg [.str ⟨#[115,105,103,110]⟩,.int .i64 2,.int .i64 2,.int .i64 1]
def a5:PV:=.agg [.str ⟨#[104,97,115,104]⟩,.int .i64 1,.int .i64 1,.int .i64 1]
def a6:PV:=.agg [.str ⟨#[120,111,114]⟩,.int .i64 2,.int .i64 8,.int .i64 1]
def a7:PV:=.agg [.str ⟨#[122,101,114,111]⟩,.int .i64 0,.int .i64 0,.int .i64 1]
def a8:PV:=.agg [.str ⟨#[101,120,112]⟩,.int .i64 2,.int .i64 2,.int .i64 1]
def a9:PV:=.agg [.str ⟨#[109,117,108]⟩,.int .i64 2,.int .i64 8,.int .i64 1]
def a10:PV:=.agg [.str ⟨#[105,110,118]⟩,.int .i64 1,.int .i64 1,.int .i64 1]
def a11:PV:=.agg [.str ⟨#[111,110,101]⟩,.int .i64 0,.int .i64 0,.int .i64 1]
def a12:PV:=.agg [.str ⟨#[115,107]⟩,.int .i64 1,.int .i64 1,.int .i64 2]
def a13:PV:=.agg [.str ⟨#[115,104,107]⟩,.int .i64 2,.int .i64 2,.int .i64 2]
def a14:PV:=.agg [.str ⟨#[110,101,119]⟩,.int .i64 1,.int .i64 8,.int .i64 2]
def a15:PV:=.agg [.str ⟨#[102,115,116]⟩,.int .i64 1,.int .i64 1,.int .i64 3]
def a16:PV:=.agg [.str ⟨#[115,110,100]⟩,.int .i64 1,.int .i64 1,.int .i64 3]
def a17:PV:=.agg [.str ⟨#[100,101,99]⟩,.int .i64 2,.int .i64 2,.int .i64 3]
def a18:PV:=.agg [.str ⟨#[97,100,101,99]⟩,.int .i64 2,.int .i64 2,.int .i64 3]
def a19:PV:=.agg [.str ⟨#[111,112,101,110]⟩,.int .i64 2,.int .i64 2,.int .i64 3]
def a20:PV:=.agg [.str ⟨#[114,101,97,100]⟩,.int .i64 1,.int .i64 1,.int .i64 3]
def a21:PV:=.agg [.int .i64 2,.str ⟨#[110]⟩,.int .i64 2,.aa false []]
def a22:PV:=.agg [.int .i64 2,.str ⟨#[107]⟩,.int .i64 3,.aa false []]
def a23:PV:=.agg [.int .i64 3,.str ⟨#[101,110,99]⟩,.int .i64 0,.aa false [a21,a22]]
def a24:PV:=.agg [.int .i64 1,.str ⟨#[120]⟩,.int .i64 2,.aa false []]
def a25:PV:=.agg [.int .i64 3,.str ⟨#[101,110,99]⟩,.int .i64 0,.aa false [a24,a22]]
def a26:PV:=.agg [.int .i64 2,.str ⟨#[113,48]⟩,.int .i64 2,.aa false []]
def IR:PV:=.agg [.int .i64 3,.str ⟨#[101,110,99]⟩,.int .i64 0,.aa false [a26,a22]]
def a28:PV:=.agg [.int .i64 2,.str ⟨#[108]⟩,.int .i64 3,.aa false []]
def a29:PV:=.agg [.int .i64 2,.str ⟨#[107]⟩,.int .i64 3,.aa false [],.int .i64 1]
def a30:PV:=.agg [.int .i64 2,.str ⟨#[110]⟩,.int .i64 2,.aa false [],.int .i64 1]
def a31:PV:=.agg [.int .i64 2,.str ⟨#[113,48]⟩,.int .i64 2,.aa false [],.int .i64 1]
def a32:PV:=.agg [.int .i64 3,.str ⟨#[101,110,99]⟩,.int .i64 0,.aa false [a26,a22],.int .i64 1]
def a33:PV:=.agg [.int .i64 2,.str ⟨#[108]⟩,.int .i64 3,.aa false [],.int .i64 1]
def a34:PV:=.agg [.int .i64 1,.str ⟨#[120]⟩,.int .i64 2,.aa false [],.int .i64 2,.str ⟨#[110]⟩,.int .i64 2,.aa false []]
def a35:PV:=.agg [.aa false [a23],.int .i64 3,.str ⟨#[101,110,99]⟩,.int .i64 0,.aa false [a24,a22]]
def a36:PV:=.agg [.aa false [a23],.int .i64 3,.str ⟨#[101,110,99]⟩,.int .i64 0,.aa false [a21,a22]]
def a37:PV:=.agg [.aa false [a22],.int .i64 2,.str ⟨#[108]⟩,.int .i64 3,.aa false []]
def a38:PV:=.agg [.aa false [a23],.int .i64 1,.str ⟨#[120]⟩,.int .i64 2,.aa false []]
def a39:PV:=.agg [.aa false [a23],.int .i64 2,.str ⟨#[107]⟩,.int .i64 3,.aa false []]
def m0:lc:=[]
theorem acd:ke C.P C.mode m0:=λx U=>by cases U
def r1:lc:=[(144,[],.aa false [a0,a1,a2,a3,a4,a5,a6,a7,a8,a9,a10,a11,a12,a13,a14,a15,a16,a17,a18,a19,a20])]
def m1:lc:=r1++m0
theorem Zm:lR C.P (kS m0 C.mode) 1000 r1=true:=by kernel_rfl
theorem ace:ke C.P C.mode m1:=kg acd Zm (by kernel_rfl)
def r2:lc:=[(184,[.str ⟨#[101,110,99]⟩],.bool true),(184,[.str ⟨#[110]⟩],.bool true),(184,[.str ⟨#[107]⟩],.bool true),(184,[.str ⟨#[120]⟩],.bool true),(184,[.str ⟨#[113,48]⟩],.bool true),(184,[.str ⟨#[108]⟩],.bool true),(117,[.str ⟨#[101,110,99]⟩],a1),(27,[a21],.int .i64 1),(27,[a22],.int .i64 1),(27,[a23],.int .i64 3),(27,[a24],.int .i64 1),(27,[a25],.int .i64 3),(27,[a26],.int .i64 1),(27,[IR],.int .i64 3),(27,[a28],.int .i64 1)]
def m2:lc:=r2++m1
theorem Zn:lR C.P (kS m1 C.mode) 1000 r2=true:=by kernel_rfl
theorem acf:ke C.P C.mode m2:=kg ace Zn (by kernel_rfl)
def r3:lc:=[(59,[a22,a24],.int .i64 1),(59,[a22,a22],.int .i64 0),(59,[a21,a22],.int .i64 1),(59,[a25,a21],.int .i64 1),(59,[a21,a24],.int .i64 1),(59,[a23,a25],.int .i64 1),(59,[a24,a26],.int .i64 (-1)),(59,[a24,a24],.int .i64 0),(59,[a21,a21],.int .i64 0),(59,[a23,a23],.int .i64 0),(59,[a26,a26],.int .i64 0),(59,[IR,IR],.int .i64 0),(59,[a26,a21],.int .i64 1),(59,[a23,a26],.int .i64 1),(59,[IR,a23],.int .i64 1),(59,[a23,a22],.int .i64 1),(59,[a22,a23],.int .i64 (-1)),(59,[a23,a21],.int .i64 1),(59,[a21,a23],.int .i64 (-1)),(59,[a21,a26],.int .i64 (-1)),(59,[a26,a23],.int .i64 (-1)),(59,[a23,IR],.int .i64 (-1)),(59,[a21,IR],.int .i64 (-1)),(59,[a22,a25],.int .i64 (-1)),(59,[a21,a25],.int .i64 (-1)),(59,[a24,a21],.int .i64 (-1)),(59,[a22,a21],.int .i64 (-1)),(59,[a28,a22],.int .i64 1),(59,[a28,a28],.int .i64 0),(59,[a22,a28],.int .i64 (-1)),(108,[a23],.int .i64 0),(108,[a25],.int .i64 0),(108,[a24],.int .i64 0),(108,[a26],.int .i64 0),(108,[IR],.int .i64 0),(108,[a22],.int .i64 0),(108,[a21],.int .i64 0),(108,[a28],.int .i64 0),(32,[.str ⟨#[101,110,99,40,110,58,110,111,110,99,101,44,32,107,58,107,101,121,41]⟩],.b8 [a23,.int .i64 0]),(32,[.str ⟨#[101,110,99,40,63,120,58,110,111,110,99,101,44,32,107,58,107,101,121,41]⟩],.b8 [a25,.int .i64 0]),(32,[.str ⟨#[107,58,107,101,121]⟩],.b8 [a22,.int .i64 0]),(32,[.str ⟨#[108,58,107,101,121]⟩],.b8 [a28,.int .i64 0])]
def m3:lc:=r3++m2
theorem Zo:lR C.P (kS m2 C.mode) 1000 r3=true:=by kernel_rfl
theorem acg:ke C.P C.mode m3:=kg acf Zo (by kernel_rfl)
def r4:lc:=[(76,[a23],.int .i64 0),(76,[a25],.int .i64 0),(76,[IR],.int .i64 0),(76,[a24],.int .i64 0),(76,[a22],.int .i64 0),(76,[a28],.int .i64 0),(44,[a23],.aa false []),(44,[a25],.aa false [a24]),(44,[IR],.aa false []),(44,[a24],.aa false [a24]),(44,[a22],.aa false []),(44,[a28],.aa false []),(202,[a23],.b8 [a22,.int .i64 0]),(194,[a23],.bool true),(194,[IR],.bool true),(194,[a22],.bool true),(194,[a28],.bool true)]
def m4:lc:=r4++m3
theorem Zp:lR C.P (kS m3 C.mode) 1000 r4=true:=by kernel_rfl
theorem ach:ke C.P C.mode m4:=kg acg Zp (by kernel_rfl)
def r5:lc:=[(40,[a23],.int .i64 0),(40,[a25],.int .i64 0),(40,[a24],.int .i64 0),(40,[a22],.int .i64 0),(40,[a28],.int .i64 0),(152,[a23],.int .i64 0),(152,[IR],.int .i64 0),(152,[a22],.int .i64 0),(152,[a28],.int .i64 0),(204,[.aa false [],a22],.b8 [.aa false [],.int .i64 4]),(204,[.aa false [],a21],.b8 [.aa false [],.int .i64 4]),(204,[.aa false [],a26],.b8 [.aa false [],.int .i64 4]),(204,[.aa false [],IR],.b8 [.aa false [],.int .i64 4]),(204,[.aa false [],a28],.b8 [.aa false [],.int .i64 4]),(248,[.aa false [],.aa false [a29]],.b8 [.aa false [],.int .i64 4]),(248,[.aa false [],.aa false [a30]],.b8 [.aa false [],.int .i64 4]),(248,[.aa false [],.aa false [a31]],.b8 [.aa false [],.int .i64 4]),(248,[.aa false [],.aa false [a32]],.b8 [.aa false [],.int .i64 4]),(248,[.aa false [],.aa false [a33]],.b8 [.aa false [],.int .i64 4]),(203,[a22],.b8 [.aa false [a22],.int .i64 0]),(203,[a21],.b8 [.aa false [a21],.int .i64 0]),(203,[a26],.b8 [.aa false [a26],.int .i64 0]),(203,[IR],.b8 [.aa false [IR],.int .i64 0]),(203,[a28],.b8 [.aa false [a28],.int .i64 0]),(60,[a22,a25],.b8 [.aa false [],.int .i64 11]),(60,[a21,a25],.b8 [.aa false [],.int .i64 11]),(60,[a23,a25],.b8 [.aa false [a34],.int .i64 0]),(60,[a22,a21],.b8 [.aa false [],.int .i64 11]),(60,[a22,a23],.b8 [.aa false [],.int .i64 11]),(60,[a21,a23],.b8 [.aa false [],.int .i64 11]),(60,[a22,a28],.b8 [.aa false [],.int .i64 11])]
def m5:lc:=r5++m4
theorem Zq:lR C.P (kS m4 C.mode) 1000 r5=true:=by kernel_rfl
theorem aci:ke C.P C.mode m5:=kg ach Zq (by kernel_rfl)
def r6:lc:=[(125,[.aa false [a23],a22],.bool false),(125,[.aa false [a23],a21],.bool false),(125,[.aa false [a23],a26],.bool false),(125,[.aa false [a23],IR],.bool false),(125,[.aa false [a22],a28],.bool false)]
def m6:lc:=r6++m5
theorem Zr:lR C.P (kS m5 C.mode) 1000 r6=true:=by kernel_rfl
theorem acj:ke C.P C.mode m6:=kg aci Zr (by kernel_rfl)
def r7:lc:=[(53,[.aa false [a23],IR],.b8 [.bool false,.int .i64 0]),(53,[.aa false [a23],a23],.b8 [.bool true,.int .i64 0]),(53,[.aa false [a22],a28],.b8 [.bool false,.int .i64 0])]
def m7:lc:=r7++m6
theorem Zs:lR C.P (kS m6 C.mode) 1000 r7=true:=by kernel_rfl
theorem ack:ke C.P C.mode m7:=kg acj Zs (by kernel_rfl)
def r8:lc:=[(19,[.aa false [a35],.int .i64 0],.b8 [.bool false,.int .i64 0]),(19,[.aa false [a36],.int .i64 0],.b8 [.bool true,.int .i64 0]),(19,[.aa false [a37],.int .i64 0],.b8 [.bool false,.int .i64 0]),(64,[.aa false [a35],.aa false [a34]],.b8 [.aa false [a36],.int .i64 0])]
def m8:lc:=r8++m7
theorem Zt:lR C.P (kS m7 C.mode) 1000 r8=true:=by kernel_rfl
theorem acm:ke C.P C.mode m8:=kg ack Zt (by kernel_rfl)
def r9:lc:=[(7,[.aa false [a35]],.b8 [.aa false [.agg [.int .i64 2,.aa false [a34],.aa false [a36]],.agg [.int .i64 4,.aa false [],.aa false [a38,a39]]],.int .i64 0]),(7,[.aa false [a36]],.b8 [.aa false [.agg [.int .i64 1,.aa false [],.aa false []]],.int .i64 0]),(7,[.aa false [a37]],.b8 [.aa false [],.int .i64 0])]
def m9:lc:=r9++m8
theorem Zu:lR C.P (kS m8 C.mode) 1000 r9=true:=by kernel_rfl
theorem acn:ke C.P C.mode m9:=kg acm Zu (by kernel_rfl)
theorem aco:rk ⟨C.P,kS m9 C.mode⟩ 1000 4 []=some (.bool true):=by kernel_rfl
end Go.Pm.tW.Awk
namespace Go.Pm
namespace tW
set_option maxRecDepth 100000
theorem xj:aT C 4 [] (.bool true):=aT.acp Awk.acn (aT.pw Awk.aco)
end tW
end Go.Pm
