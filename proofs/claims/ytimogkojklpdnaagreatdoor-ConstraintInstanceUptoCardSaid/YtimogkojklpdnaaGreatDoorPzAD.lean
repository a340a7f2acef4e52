/-
  A part of the library Pm and its contracts (joined by program): PmTab PmTerm PmSpec PmPow PmVal PmBack PmName PmSize PmValid PmCmp PmRef PmTCmp PmRef2 PmAdd PmBin PmClone PmIns PmRef3 PmCheck. Conditions: none.
-/
import Derived.Test.YtimogkojklpdnaaGreatDoorPzAC
import Derived.Test.YtimogkojklpdnaaGreatDoorPzAA
import Derived.Lib.Bytealg
set_option linter.unusedVariables false
set_option linter.unusedSimpArgs false
section
set_option maxRecDepth 20000
namespace Go.Pm
def tsL:List (Option Nat):=[some (1),some (1),some (1),some (1),some (1),some (1),some (1),some (4),some (4),some (1),some (1),some (1),some (1),some (2),some (2),some (1),some (1),some (1),some (1),some (1),some (1),some (1),some (1),some (1),some (1),some (1),some (1),some (1),some (1),some (1),some (1),some (1),some (4),some (4),some (5),some (5),some (1),some (8),some (8),some (1),some (1),some (1),some (1),some (1),some (1),some (1),some (1),some (1),some (1),some (1),some (1),some (1),some (1),some (1),some (1),some (1),some (1),some (1),some (1),some (1),some (2),some (2),some (1),some (1),some (1),some (1),some (1),some (1),some (1),some (1),some (1),some (1),some (1),some (1),some (1),some (1),some (1),some (1),some (1),some (1),some (1),some (1),some (1),some (1),some (1),some (1),some (1),some (1),some (1),some (1),some (1),some (1),some (1),some (1),some (1),some (1),some (1),some (1),some (1),some (1),some (1),some (1),some (2),some (2),some (1),some (1),some (1),some (1),some (1),some (1),some (1),some (1),some (1),some (1),some (1),some (1),some (1),some (1),some (1),some (1),some (1),some (1),some (1),some (1),some (1),some (1),some (1),some (1),some (4),some (4),some (1),some (1),some (1),some (1),some (1),some (1),some (1),some (1),some (1),some (1),some (1),some (1),some (1),some (1),some (1),some (1),some (1),some (1),some (1),some (1),some (1),some (1),some (1),some (1),some (1),some (1),some (1),some (1),some (1),some (1),some (1),some (1),some (1),some (1),some (1),some (1),some (1),some (1),some (1),some (1),some (1),some (1),some (1),some (1),some (1),some (1),some (1),some (1),some (1),some (1),some (1),some (1),some (1),some (1),some (1),some (1),some (5),some (5),some (1),some (1),some (1),some (1),some (1),some (1),some (1),some (1),some (1),some (1),some (2),some (2),some (1),some (24),some (1),some (1),some (1),some (1),some (1),some (1),some (1),some (1),some (1),some (1),some (1),some (1),some (1),some (1),some (1),some (1),some (1),some (1),some (1),some (1),some (1),some (1),some (1),some (1),some (1),some (1),some (1),some (1),some (1),some (1),some (1),some (1),some (1),some (1),some (1),some (1),some (1),some (20),some (65),some (1),some (1),some (1),some (1),some (1),some (1),some (1),some (1),some (1),some (1),some (1),some (1),some (1),some (1),some (1),some (1),some (1),some (1),some (1),some (1),some (5),some (5),some (1),some (1),some (1),some (1),some (1),some (1),some (1),some (1),some (2),some (2),some (1),some (1),some (1),some (1),some (1),some (1),some (1),some (1),some (1),some (1),some (1),some (1),some (1),some (1),some (1),some (1),some (256),some (256),some (1),some (1),some (1),some (1),some (1),some (1),some (1),some (1),some (1),some (1),some (1),some (1),some (3),some (3),some (1),some (1),some (1),some (1),some (3),some (3),some (1),some (1),some (32),some (64),some (1),some (1),some (1),some (1),some (1),some (1),some (1),some (1),some (1),some (1),some (4),some (4),some (1),some (1),some (1),some (1),some (1),some (1),some (1),some (1),some (1),some (1),some (1),some (1),some (1),some (1),some (1),some (256),some (2),some (2),some (32),some (1),some (2),some (1),some (4),some (4),some (0),some (0),some (0),some (1),some (1),some (1),some (1),some (1),some (1),some (11),some (11)]
def tbL:List (Option Nat):=[some (0),some (8),some (8),some (8),some (1),some (1),some (1),some (24),some (24),some (16),some (16),some (16),some (8),some (24),some (24),some (8),some (8),some (8),some (8),some (8),some (16),some (4),some (24),some (24),some (8),some (8),some (8),some (8),some (0),some (8),some (8),some (24),some (56),some (56),some (80),some (80),some (8),some (112),some (112),some (8),some (24),some (24),some (8),some (8),some (8),some (8),some (8),some (24),some (8),some (8),some (0),some (8),some (8),some (8),some (0),some (8),some (8),some (8),some (8),some (24),some (48),some (48),some (8),some (8),some (8),some (0),some (8),some (8),some (8),some (8),some (8),some (8),some (8),some (8),some (8),some (8),some (8),some (8),some (8),some (0),some (8),some (0),some (8),some (8),some (8),some (0),some (8),some (8),some (8),some (0),some (8),some (8),some (8),some (8),some (8),some (8),some (8),some (8),some (8),some (8),some (8),some (8),some (32),some (32),some (16),some (16),some (0),some (8),some (8),some (8),some (8),some (8),some (8),some (8),some (8),some (8),some (8),some (8),some (8),some (8),some (8),some (8),some (8),some (8),some (8),some (8),some (8),some (8),some (40),some (40),some (8),some (8),some (24),some (0),some (8),some (8),some (8),some (8),some (8),some (8),some (8),some (8),some (8),some (8),some (8),some (8),some (8),some (8),some (8),some (8),some (8),some (8),some (8),some (8),some (8),some (24),some (8),some (8),some (8),some (8),some (8),some (8),some (8),some (8),some (0),some (8),some (8),some (8),some (8),some (8),some (8),some (8),some (8),some (8),some (8),some (24),some (0),some (8),some (8),some (8),some (8),some (0),some (8),some (24),some (8),some (8),some (64),some (64),some (8),some (8),some (8),some (8),some (8),some (8),some (24),some (8),some (24),some (8),some (32),some (32),some (8),some (24),some (8),some (8),some (8),some (0),some (8),some (8),some (8),some (0),some (8),some (8),some (8),some (8),some (8),some (8),some (8),some (0),some (8),some (8),some (8),some (8),some (8),some (4),some (0),some (8),some (8),some (8),some (0),some (8),some (0),some (8),some (8),some (8),some (8),some (8),some (8),some (8),some (8),some (160),some (65),some (8),some (8),some (8),some (8),some (8),some (8),some (8),some (8),some (8),some (8),some (8),some (8),some (8),some (8),some (24),some (24),some (0),some (8),some (8),some (8),some (72),some (72),some (24),some (8),some (8),some (8),some (8),some (24),some (0),some (8),some (48),some (48),some (8),some (8),some (8),some (0),some (8),some (8),some (8),some (8),some (8),some (8),some (8),some (8),some (8),some (0),some (8),some (8),some (256),some (256),some (0),some (8),some (8),some (8),some (8),some (0),some (8),some (8),some (8),some (8),some (0),some (8),some (56),some (56),some (8),some (8),some (8),some (24),some (72),some (72),some (0),some (8),some (32),some (64),some (8),some (8),some (8),some (0),some (8),some (8),some (8),some (0),some (8),some (24),some (80),some (80),some (8),some (8),some (0),some (8),some (0),some (8),some (8),some (8),some (8),some (8),some (8),some (8),some (0),some (8),some (8),some (256),some (2),some (2),some (32),some (8),some (48),some (24),some (40),some (40),some (0),some (0),some (0),some (8),some (1),some (1),some (8),some (4),some (4),some (48),some (48)]
def taL:List (Option Bool):=[some (false),some (false),some (false),some (false),some (false),some (false),some (false),some (true),some (true),some (false),some (false),some (false),some (false),some (true),some (true),some (false),some (false),some (false),some (true),some (true),some (false),some (false),some (false),some (false),some (false),some (false),some (false),some (false),some (false),some (false),some (false),some (false),some (true),some (true),some (true),some (true),some (false),some (true),some (true),some (false),some (false),some (false),some (false),some (false),some (false),some (false),some (false),some (false),some (false),some (false),some (false),some (false),some (false),some (false),some (false),some (false),some (false),some (false),some (false),some (false),some (true),some (true),some (false),some (false),some (false),some (false),some (false),some (false),some (false),some (false),some (false),some (false),some (false),some (false),some (false),some (false),some (false),some (false),some (false),some (false),some (false),some (false),some (false),some (false),some (false),some (false),some (false),some (false),some (false),some (false),some (false),some (false),some (false),some (false),some (false),some (false),some (false),some (false),some (false),some (false),some (false),some (false),some (true),some (true),some (false),some (false),some (false),some (false),some (false),some (false),some (false),some (false),some (false),some (false),some (false),some (false),some (false),some (false),some (false),some (false),some (false),some (false),some (false),some (false),some (false),some (false),some (false),some (false),some (true),some (true),some (false),some (false),some (false),some (false),some (false),some (false),some (false),some (false),some (false),some (false),some (false),some (false),some (false),some (false),some (false),some (false),some (false),some (false),some (false),some (false),some (false),some (false),some (false),some (false),some (false),some (false),some (false),some (false),some (false),some (false),some (false),some (false),some (false),some (false),some (false),some (false),some (false),some (false),some (false),some (false),some (false),some (false),some (false),some (false),some (false),some (false),some (false),some (false),some (false),some (false),some (false),some (false),some (false),some (false),some (false),some (false),some (true),some (true),some (false),some (false),some (false),some (false),some (false),some (false),some (false),some (false),some (false),some (false),some (true),some (true),some (false),some (true),some (false),some (false),some (false),some (false),some (false),some (false),some (false),some (false),some (false),some (false),some (false),some (false),some (false),some (false),some (false),some (false),some (false),some (false),some (false),some (false),some (false),some (false),some (false),some (false),some (false),some (false),some (false),some (false),some (false),some (false),some (false),some (false),some (false),some (false),some (false),some (false),some (false),some (true),some (true),some (false),some (false),some (false),some (false),some (false),some (false),some (false),some (false),some (false),some (false),some (false),some (false),some (false),some (false),some (false),some (false),some (false),some (false),some (false),some (false),some (true),some (true),some (false),some (false),some (false),some (false),some (false),some (false),some (false),some (false),some (true),some (true),some (false),some (false),some (false),some (false),some (false),some (false),some (false),some (false),some (false),some (false),some (false),some (false),some (false),some (false),some (false),some (false),some (true),some (true),some (false),some (false),some (false),some (false),some (false),some (false),some (false),some (false),some (false),some (false),some (false),some (false),some (true),some (true),some (false),some (false),some (false),some (false),some (true),some (true),some (false),some (false),some (true),some (true),some (false),some (false),some (false),some (false),some (false),some (false),some (false),some (false),some (false),some (false),some (true),some (true),some (false),some (false),some (false),some (false),some (false),some (false),some (false),some (false),some (false),some (false),some (false),some (false),some (false),some (false),some (false),some (true),some (true),some (true),some (true),some (false),some (true),some (false),some (true),some (true),some (true),some (true),some (true),some (false),some (false),some (false),some (false),some (false),some (false),some (true),some (true)]
def kdL:List (Option Kd):=[some (.other),some (.other),some (.int .i64),some (.int .i64),some (.bool),some (.int .u8),some (.int .u8),some (.st [(0,2),(1,3),(2,4),(3,6)]),some (.st [(0,2),(1,3),(2,4),(3,6)]),some (.str),some (.str),some (.str),some (.int .u64),some (.st [(0,9),(1,12)]),some (.st [(0,9),(1,12)]),some (.other),some (.other),some (.other),some (.st [(0,17)]),some (.st [(0,17)]),some (.other),some (.int .i32),some (.sl 35),some (.sl 38),some (.other),some (.other),some (.other),some (.int .i64),some (.other),some (.other),some (.other),some (.sl 33),some (.st [(0,3),(1,9),(2,3),(3,31)]),some (.st [(0,3),(1,9),(2,3),(3,31)]),some (.st [(0,31),(1,33)]),some (.st [(0,31),(1,33)]),some (.other),some (.st [(0,33),(4,33)]),some (.st [(0,33),(4,33)]),some (.other),some (.sl 41),some (.sl 5),some (.other),some (.other),some (.other),some (.other),some (.other),some (.sl 3),some (.other),some (.other),some (.other),some (.other),some (.other),some (.other),some (.other),some (.other),some (.other),some (.other),some (.other),some (.sl 9),some (.st [(0,59),(1,59)]),some (.st [(0,59),(1,59)]),some (.other),some (.other),some (.other),some (.other),some (.other),some (.other),some (.other),some (.other),some (.other),some (.other),some (.other),some (.other),some (.other),some (.other),some (.other),some (.other),some (.other),some (.other),some (.other),some (.other),some (.other),some (.other),some (.other),some (.other),some (.other),some (.other),some (.other),some (.other),some (.other),some (.other),some (.other),some (.other),some (.other),some (.mp 9 4),some (.other),some (.other),some (.other),some (.other),some (.other),some (.other),some (.st [(0,101),(1,41)]),some (.st [(0,101),(1,41)]),some (.other),some (.other),some (.other),some (.other),some (.other),some (.other),some (.other),some (.other),some (.other),some (.other),some (.other),some (.other),some (.other),some (.mp 3 3),some (.other),some (.other),some (.other),some (.other),some (.other),some (.other),some (.other),some (.other),some (.other),some (.other),some (.st [(0,9),(1,3),(2,3),(3,3)]),some (.st [(0,9),(1,3),(2,3),(3,3)]),some (.other),some (.other),some (.sl 33),some (.other),some (.other),some (.other),some (.other),some (.other),some (.other),some (.other),some (.other),some (.other),some (.other),some (.other),some (.other),some (.other),some (.other),some (.other),some (.other),some (.other),some (.other),some (.other),some (.other),some (.other),some (.other),some (.sl 129),some (.other),some (.other),some (.other),some (.other),some (.other),some (.other),some (.other),some (.other),some (.other),some (.other),some (.other),some (.other),some (.other),some (.other),some (.other),some (.other),some (.other),some (.other),some (.other),some (.sl 187),some (.other),some (.other),some (.other),some (.other),some (.other),some (.other),some (.other),some (.sl 31),some (.other),some (.other),some (.st [(0,33),(4,3)]),some (.st [(0,33),(4,3)]),some (.other),some (.other),some (.int .u64),some (.other),some (.other),some (.mp 9 3),some (.sl 199),some (.other),some (.sl 4),some (.other),some (.st [(0,47),(1,3)]),some (.st [(0,47),(1,3)]),some (.other),some (.arr 24 5),some (.int .u64),some (.other),some (.other),some (.other),some (.other),some (.other),some (.other),some (.other),some (.other),some (.other),some (.other),some (.other),some (.other),some (.other),some (.int .i64),some (.other),some (.other),some (.other),some (.other),some (.other),some (.other),some (.int .u32),some (.other),some (.other),some (.other),some (.other),some (.other),some (.other),some (.other),some (.other),some (.other),some (.other),some (.other),some (.other),some (.other),some (.other),some (.other),some (.arr 20 202),some (.arr 65 5),some (.other),some (.other),some (.other),some (.other),some (.other),some (.int .u64),some (.other),some (.other),some (.other),some (.other),some (.other),some (.other),some (.other),some (.other),some (.sl 202),some (.sl 202),some (.other),some (.other),some (.other),some (.mp 3 256),some (.st [(0,31),(1,3),(2,260),(3,260),(4,47)]),some (.st [(0,31),(1,3),(2,260),(3,260),(4,47)]),some (.sl 175),some (.other),some (.other),some (.other),some (.other),some (.sl 272),some (.other),some (.other),some (.st [(0,31),(1,47)]),some (.st [(0,31),(1,47)]),some (.other),some (.other),some (.other),some (.other),some (.other),some (.other),some (.other),some (.other),some (.other),some (.other),some (.other),some (.other),some (.other),some (.other),some (.other),some (.other),some (.arr 256 4),some (.arr 256 4),some (.other),some (.other),some (.other),some (.other),some (.other),some (.other),some (.other),some (.other),some (.other),some (.other),some (.other),some (.other),some (.st [(0,47),(1,47),(2,4)]),some (.st [(0,47),(1,47),(2,4)]),some (.other),some (.other),some (.other),some (.sl 47),some (.st [(0,31),(1,308),(2,47)]),some (.st [(0,31),(1,308),(2,47)]),some (.other),some (.other),some (.arr 32 5),some (.arr 64 5),some (.other),some (.other),some (.other),some (.other),some (.other),some (.other),some (.other),some (.other),some (.other),some (.sl 300),some (.st [(0,31),(1,324),(2,47),(3,4)]),some (.st [(0,31),(1,324),(2,47),(3,4)]),some (.other),some (.other),some (.other),some (.other),some (.other),some (.other),some (.other),some (.other),some (.other),some (.other),some (.other),some (.other),some (.other),some (.other),some (.other),some (.arr 256 5),some (.st [(0,5),(1,5)]),some (.st [(0,5),(1,5)]),some (.arr 16 344),some (.other),some (.arr 2 47),some (.sl 347),some (.st [(0,17),(1,17),(2,17),(3,9)]),some (.st [(0,17),(1,17),(2,17),(3,9)]),some (.arr 0 16),some (.st [(0,351)]),some (.st [(0,351)]),some (.other),some (.int .u8),some (.int .u8),some (.other),some (.int .i32),some (.int .i32),some (.st [(0,12),(1,12),(2,223),(3,355),(4,5),(5,5),(6,356),(7,357),(8,147),(9,358),(10,359)]),some (.st [(0,12),(1,12),(2,223),(3,355),(4,5),(5,5),(6,356),(7,357),(8,147),(9,358),(10,359)])]
def tzL:List (Option PV):=[none,some (.nilf),some (.int .i64 (0)),some (.int .i64 (0)),some (.bool false),some (.int .u8 (0)),some (.int .u8 (0)),some (.agg [.int .i64 (0),.int .i64 (0),.bool false,.int .u8 (0)]),some (.agg [.int .i64 (0),.int .i64 (0),.bool false,.int .u8 (0)]),some (.str ByteArray.empty),some (.str ByteArray.empty),some (.str ByteArray.empty),some (.int .u64 (0)),some (.agg [.str ByteArray.empty,.int .u64 (0)]),some (.agg [.str ByteArray.empty,.int .u64 (0)]),some (.nilp),some (.nilp),some (.nilp),some (.agg [.nilp]),some (.agg [.nilp]),none,some (.int .i32 (0)),some (.snap true []),some (.snap true []),some (.nilf),some (.nilf),some (.nilf),some (.int .i64 (0)),none,some (.nilf),some (.nilf),some (.snap true []),some (.agg [.int .i64 (0),.str ByteArray.empty,.int .i64 (0),.snap true []]),some (.agg [.int .i64 (0),.str ByteArray.empty,.int .i64 (0),.snap true []]),some (.agg [.snap true [],.int .i64 (0),.str ByteArray.empty,.int .i64 (0),.snap true []]),some (.agg [.snap true [],.int .i64 (0),.str ByteArray.empty,.int .i64 (0),.snap true []]),some (.nilf),some (.agg [.int .i64 (0),.str ByteArray.empty,.int .i64 (0),.snap true [],.int .i64 (0),.str ByteArray.empty,.int .i64 (0),.snap true []]),some (.agg [.int .i64 (0),.str ByteArray.empty,.int .i64 (0),.snap true [],.int .i64 (0),.str ByteArray.empty,.int .i64 (0),.snap true []]),some (.nilf),some (.snap true []),some (.snap true []),some (.nilf),some (.nilf),some (.nilf),some (.nilf),some (.nilf),some (.snap true []),some (.nilf),some (.nilf),none,some (.nilf),some (.nilf),some (.nilf),none,some (.nilf),some (.nilf),some (.nilf),some (.nilf),some (.snap true []),some (.agg [.snap true [],.snap true []]),some (.agg [.snap true [],.snap true []]),some (.nilf),some (.nilf),some (.nilf),none,some (.nilf),some (.nilf),some (.nilf),some (.nilf),some (.nilf),some (.nilf),some (.nilf),some (.nilf),some (.nilf),some (.nilf),some (.nilf),some (.nilf),some (.nilf),none,some (.nilf),none,some (.nilf),some (.nilf),some (.nilf),none,some (.nilf),some (.nilf),some (.nilf),none,some (.nilf),some (.nilf),some (.nilf),some (.nilf),some (.nilf),some (.nilm),some (.nilf),some (.nilf),some (.nilf),some (.nilf),some (.nilf),some (.nilp),some (.agg [.nilp,.snap true []]),some (.agg [.nilp,.snap true []]),none,none,none,some (.nilf),some (.nilf),some (.nilf),some (.nilf),some (.nilf),some (.nilf),some (.nilf),some (.nilf),some (.nilf),some (.nilf),some (.nilm),some (.nilf),some (.nilf),some (.nilf),some (.nilf),some (.nilf),some (.nilf),some (.nilf),some (.nilf),some (.nilf),some (.nilf),some (.agg [.str ByteArray.empty,.int .i64 (0),.int .i64 (0),.int .i64 (0)]),some (.agg [.str ByteArray.empty,.int .i64 (0),.int .i64 (0),.int .i64 (0)]),some (.nilf),some (.nilf),some (.snap true []),none,some (.nilf),some (.nilf),some (.nilf),some (.nilf),some (.nilf),some (.nilf),some (.nilf),some (.nilf),some (.nilf),some (.nilf),some (.nilf),some (.nilf),some (.nilf),some (.nilp),some (.nilf),some (.nilf),some (.nilf),some (.nilf),some (.nilf),some (.nilf),some (.nilp),some (.snap true []),some (.nilf),some (.nilf),some (.nilf),some (.nilf),some (.nilf),some (.nilf),some (.nilf),some (.nilf),none,some (.nilf),some (.nilf),some (.nilf),some (.nilf),some (.nilf),some (.nilf),some (.nilp),some (.nilf),some (.nilf),some (.nilf),some (.snap true []),none,some (.nilf),some (.nilf),some (.nilf),some (.nilf),none,some (.nilf),some (.snap true []),some (.nilf),some (.nilf),some (.agg [.int .i64 (0),.str ByteArray.empty,.int .i64 (0),.snap true [],.int .i64 (0)]),some (.agg [.int .i64 (0),.str ByteArray.empty,.int .i64 (0),.snap true [],.int .i64 (0)]),some (.nilf),some (.nilf),some (.int .u64 (0)),some (.nilf),some (.nilf),some (.nilm),some (.snap true []),some (.nilf),some (.snap true []),some (.nilf),some (.agg [.snap true [],.int .i64 (0)]),some (.agg [.snap true [],.int .i64 (0)]),some (.nilf),none,some (.int .u64 (0)),some (.nilf),some (.nilf),none,some (.nilf),some (.nilf),some (.nilf),none,some (.nilf),some (.nilf),some (.nilf),some (.nilf),some (.nilf),some (.nilf),some (.int .i64 (0)),none,some (.nilf),some (.nilf),some (.nilf),some (.nilf),some (.nilf),some (.int .u32 (0)),none,some (.nilf),some (.nilf),some (.nilf),none,some (.nilf),none,some (.nilf),some (.nilf),some (.nilf),some (.nilf),some (.nilf),some (.nilf),some (.nilf),some (.nilf),none,none,some (.nilf),some (.nilf),some (.nilf),some (.nilf),some (.nilf),some (.int .u64 (0)),some (.nilf),some (.nilf),some (.nilf),some (.nilf),some (.nilf),some (.nilf),some (.nilp),some (.nilf),some (.snap true []),some (.snap true []),none,some (.nilf),some (.nilf),some (.nilm),some (.agg [.snap true [],.int .i64 (0),.nilm,.nilm,.snap true []]),some (.agg [.snap true [],.int .i64 (0),.nilm,.nilm,.snap true []]),some (.snap true []),some (.nilf),some (.nilf),some (.nilf),some (.nilf),some (.snap true []),none,some (.nilf),some (.agg [.snap true [],.snap true []]),some (.agg [.snap true [],.snap true []]),some (.nilf),some (.nilf),some (.nilf),none,some (.nilf),some (.nilp),some (.nilf),some (.nilf),some (.nilf),some (.nilf),some (.nilf),some (.nilf),some (.nilp),none,some (.nilf),some (.nilf),none,none,none,some (.nilf),some (.nilf),some (.nilp),some (.nilf),none,some (.nilf),some (.nilf),some (.nilp),some (.nilp),none,some (.nilf),some (.agg [.snap true [],.snap true [],.bool false]),some (.agg [.snap true [],.snap true [],.bool false]),some (.nilf),some (.nilf),some (.nilf),some (.snap true []),some (.agg [.snap true [],.snap true [],.snap true []]),some (.agg [.snap true [],.snap true [],.snap true []]),none,some (.nilf),none,none,some (.nilf),some (.nilf),some (.nilf),none,some (.nilf),some (.nilf),some (.nilf),none,some (.nilf),some (.snap true []),some (.agg [.snap true [],.snap true [],.snap true [],.bool false]),some (.agg [.snap true [],.snap true [],.snap true [],.bool false]),some (.nilf),some (.nilf),none,some (.nilf),none,some (.nilf),some (.nilf),some (.nilf),some (.nilf),some (.nilf),some (.nilf),some (.nilf),none,some (.nilf),some (.nilf),none,some (.agg [.int .u8 (0),.int .u8 (0)]),some (.agg [.int .u8 (0),.int .u8 (0)]),none,some (.nilf),some (.agg [.snap true [],.snap true []]),some (.snap true []),some (.agg [.nilp,.nilp,.nilp,.str ByteArray.empty]),some (.agg [.nilp,.nilp,.nilp,.str ByteArray.empty]),some (.agg []),some (.agg []),some (.agg []),some (.nilf),some (.int .u8 (0)),some (.int .u8 (0)),some (.nilf),some (.int .i32 (0)),some (.int .i32 (0)),some (.agg [.int .u64 (0),.int .u64 (0),.int .u32 (0),.int .u8 (0),.int .u8 (0),.int .u8 (0),.int .u8 (0),.nilf,.nilp,.int .i32 (0),.int .i32 (0)]),some (.agg [.int .u64 (0),.int .u64 (0),.int .u32 (0),.int .u8 (0),.int .u8 (0),.int .u8 (0),.int .u8 (0),.nilf,.nilp,.int .i32 (0),.int .i32 (0)])]
def tN:Nat:=362
theorem tsOk:(List.range tN).map (tsize C.P)=tsL:=by kernel_rfl
theorem taOk:(List.range tN).map (tagg C.P)=taL:=by kernel_rfl
theorem tbOk:(List.range tN).map (tbytes C.P)=tbL:=by kernel_rfl
theorem kdOk:(List.range tN).map (fun t=>(C.P.underlying t).map kdOf)=kdL:=by kernel_rfl
theorem tzOk:(List.range tN).map (fun t=>if (tzL.getD t none).isSome then tzero C.P t else none)=tzL:=by kernel_rfl
theorem tabGet {α:Type} {f:Nat→Option α} {l:List (Option α)} (h:(List.range tN).map f=l) (t:Nat) (n:α) (e:(l[t]?).bind id=some n):f t=some n:=by
 subst h
 rw [List.getElem?_map] at e
 cases hr:(List.range tN)[t]? with
 | none=>rw [hr] at e;simp at e
 | some k=>
  rw [hr] at e
  have hk:k=t:=by
   have:=List.getElem?_eq_some_iff.1 hr
   obtain ⟨h1,h2⟩:=this
   simp at h2
   exact h2.symm
  subst hk
  simpa using e
def T6:Tab C.P where
 ts t:=(tsL[t]?).bind id
 ta t:=(taL[t]?).bind id
 tb t:=(tbL[t]?).bind id
 kd t:=(kdL[t]?).bind id
 tz t:=(tzL[t]?).bind id
 hts:=tabGet tsOk
 hta:=tabGet taOk
 htb:=tabGet tbOk
 hkd:=tabGet kdOk
 htz t n e:=by
  have:=tabGet tzOk t n e
  split at this
  ·exact this
  ·cases this
end Go.Pm
end
section
namespace Go.Pm
inductive Tm where
 | mk (kind:Int) (name:ByteArray) (sort:Int) (kids:List Tm)
def Tm.kids:Tm→List Tm | .mk _ _ _ k=>k
mutual
def enc:Tm→PV
 | .mk k s o l=>.agg [.int .i64 k,.str s,.int .i64 o,.snap false (encs l)]
def encs:List Tm→List PV
 | []=>[]
 | t::l=>enc t::encs l
end
mutual
theorem isVal_enc:∀ t,isVal (enc t)=true
 | .mk k s o l=>by simp [enc,isVal,isVals]
end
theorem isVals_encs (l:List Tm):isVals (encs l)=true:=by
 induction l with
 | nil=>rfl
 | cons t l ih=>simp [encs,isVals,isVal_enc,ih]
mutual
theorem nrm_enc:∀ t,nrm (enc t)=enc t
 | .mk k s o l=>by simp [enc,nrm,nrms,nrms_encs l]
theorem nrms_encs:∀ l,nrms (encs l)=encs l
 | []=>rfl
 | t::l=>by simp [encs,nrms,nrm_enc t,nrms_encs l]
end
theorem encs_len (l:List Tm):(encs l).length=l.length:=by
 induction l with
 | nil=>rfl
 | cons t l ih=>simp [encs,ih]
theorem encs_eq (l:List Tm):encs l=l.map enc:=by
 induction l with
 | nil=>rfl
 | cons t l ih=>simp [encs,ih]
theorem enc_agg (t:Tm):∃ a b c d,enc t=.agg [a,b,c,d]:=by cases t;exact ⟨_,_,_,_,by rw [enc]⟩
mutual
def bulk:Tm→Nat
 | .mk k s o l=>1+s.size+bulks l
def bulks:List Tm→Nat
 | []=>0
 | t::l=>bulk t+bulks l
end
theorem bulk_pos (t:Tm):0<bulk t:=by cases t;simp [bulk];omega
theorem len_bulks (l:List Tm):l.length≤bulks l:=by
 induction l with
 | nil=>simp
 | cons t l ih=>have:=bulk_pos t;simp [bulks];omega
theorem bulk_mem {l:List Tm} {t:Tm} (h:t∈l):bulk t≤bulks l:=by
 induction l with
 | nil=>cases h
 | cons u l ih=>
  simp only [bulks]
  rcases List.mem_cons.1 h with rfl | h
  ·omega
  ·have:=ih h;omega
theorem Tm.ind {P:Tm→Prop} (h:∀ k s o l,(∀ t∈l,P t)→P (.mk k s o l)):∀ t,P t:=by
 intro t
 have key:∀ n t,bulk t≤n→P t:=by
  intro n
  induction n with
  | zero=>intro t ht;have:=bulk_pos t;omega
  | succ n ih=>
   intro t ht
   obtain ⟨k,s,o,l⟩:=t
   refine h k s o l (fun u hu=>ih u ?_)
   have:=bulk_mem hu
   simp [bulk] at ht
   omega
 exact key (bulk t) t (Nat.le_refl _)
theorem encs_at {l:List Tm} {i:Nat} (hc:(i:Int)<((encs l).length:Int)):∃ t a1 a2 a3 a4,t∈l∧enc t=.agg [a1,a2,a3,a4]∧(encs l)[i]?=some (.agg [a1,a2,a3,a4])∧l.drop i=t::l.drop (i+1)∧i<l.length∧l[i]?=some t:=by
 have hil:i<l.length:=by have:=encs_len l;omega
 obtain ⟨a1,a2,a3,a4,ha⟩:=enc_agg l[i]
 refine ⟨l[i],a1,a2,a3,a4,List.getElem_mem hil,ha,?_,List.drop_eq_getElem_cons hil,hil,List.getElem?_eq_getElem hil⟩
 rw [encs_eq,List.getElem?_map,List.getElem?_eq_getElem hil,← ha]
 rfl
theorem encs_end {l:List Tm} {i:Nat} (hc:¬ (i:Int)<((encs l).length:Int)):l.drop i=[]:=List.drop_eq_nil_of_le (by have:=encs_len l;omega)
theorem enc_mk (k:Int) (s:ByteArray) (o:Int) (l:List Tm):enc (.mk k s o l)=.agg [.int .i64 k,.str s,.int .i64 o,.snap false (encs l)]:=by rw [enc]
theorem encs_at' {l:List Tm} {i:Nat} (hc:(i:Int)<((encs l).length:Int)):∃ k s o l',.mk k s o l'∈l∧(encs l)[i]?=some (.agg [.int .i64 k,.str s,.int .i64 o,.snap false (encs l')])∧l.drop i=.mk k s o l'::l.drop (i+1)∧i<l.length∧l[i]?=some (.mk k s o l'):=by
 obtain ⟨t,a1,a2,a3,a4,h1,h2,h3,h4,h5,h6⟩:=encs_at hc
 obtain ⟨k,s,o,l'⟩:=t
 rw [enc_mk] at h2
 exact ⟨k,s,o,l',h1,by rw [h3,← h2],h4,h5,h6⟩
mutual
def size:Tm→Int
 | .mk _ _ _ l=>1+sizes l
def sizes:List Tm→Int
 | []=>0
 | t::l=>size t+sizes l
end
mutual
theorem size_bulk:∀ t,0<size t∧size t≤(bulk t:Int)
 | .mk k s o l=>by
  have:=sizes_bulk l
  simp only [size,bulk]
  omega
theorem sizes_bulk:∀ l,0≤sizes l∧sizes l≤(bulks l:Int)
 | []=>by simp [sizes,bulks]
 | t::l=>by
  have h1:=size_bulk t
  have h2:=sizes_bulk l
  simp only [sizes,bulks]
  omega
end
end Go.Pm
end
section
namespace Go.Pm
def cmpN (a b:Int):Int:=if a<b then -1 else if b<a then 1 else 0
mutual
def cmpT:Tm→Tm→Int
 | .mk k s o l,.mk k' s' o' l'=>
  if cmpN (size (.mk k s o l)) (size (.mk k' s' o' l'))≠0 then cmpN (size (.mk k s o l)) (size (.mk k' s' o' l')) else
  if cmpN k k'≠0 then cmpN k k' else
  if Op.bytesLess s.toList s'.toList=true then -1 else
  if (!(Op.bytesLess s.toList s'.toList || s.toList == s'.toList))=true then 1 else
  if cmpN o o'≠0 then cmpN o o' else
  if cmpN l.length l'.length≠0 then cmpN l.length l'.length else cmps l l'
def cmps:List Tm→List Tm→Int
 | [],_=>0
 | _::_,[]=>0
 | t::l,t'::l'=>if cmpT t t'≠0 then cmpT t t' else cmps l l'
end
def lexI (x y:Int):Int:=if x≠0 then x else y
def cmpBs:List UInt8→List UInt8→Int:=Lib.compareBytes
theorem bl_cmp:∀ a b:List UInt8,Op.bytesLess a b=decide (cmpBs a b<0)∧((a == b)=decide (cmpBs a b=0))
 | [],[]=>by simp [Op.bytesLess,cmpBs,Lib.compareBytes]
 | [],_::_=>by simp [Op.bytesLess,cmpBs,Lib.compareBytes]
 | _::_,[]=>by simp [Op.bytesLess,cmpBs,Lib.compareBytes]
 | a::x,b::y=>by
  obtain ⟨h1,h2⟩:=bl_cmp x y
  have hc:cmpBs (a::x) (b::y)=if a<b then -1 else if b<a then 1 else cmpBs x y:=rfl
  have key:a<b∨b<a∨a=b:=by
   rcases Nat.lt_trichotomy a.toNat b.toNat with h | h | h
   ·exact .inl (UInt8.lt_iff_toNat_lt.2 h)
   ·exact .inr (.inr (UInt8.toNat_inj.1 h))
   ·exact .inr (.inl (UInt8.lt_iff_toNat_lt.2 h))
  have asym:∀ p q:UInt8,p<q→¬ q<p:=fun p q h1 h2=>by
   have:=UInt8.lt_iff_toNat_lt.1 h1
   have:=UInt8.lt_iff_toNat_lt.1 h2
   omega
  have irr:∀ p:UInt8,¬ p<p:=fun p h1=>asym p p h1 h1
  rcases key with h | h | h
  ·have hne:a≠b:=fun e=>irr b (e ▸ h)
   rw [hc,if_pos h]
   simp [Op.bytesLess,h,hne]
  ·have hne:a≠b:=fun e=>irr b (e ▸ h)
   have hn:=asym _ _ h
   rw [hc,if_neg hn,if_pos h]
   simp [Op.bytesLess,hn,hne]
  ·subst h
   rw [hc,if_neg (irr a),if_neg (irr a)]
   simp only [Op.bytesLess,h1,irr,decide_false,Bool.false_or,BEq.rfl,Bool.true_and,true_and]
   rw [← h2]
   simp [List.cons_beq_cons]
structure Tri (x y z:Int):Prop where
 e1:x=0→z=y
 e2:y=0→z=x
 lt:x<0→y<0→z<0
theorem Tri.lex {x y z x' y' z':Int} (a:Tri x y z) (b:x=0→y=0→Tri x' y' z'):Tri (lexI x x') (lexI y y') (lexI z z'):=by
 obtain ⟨e1,e2,lt⟩:=a
 unfold lexI
 by_cases hx:x=0 <;> by_cases hy:y=0
 ·have hz:z=0:=by rw [e1 hx,hy]
  rw [if_neg (by simp [hx]),if_neg (by simp [hy]),if_neg (by simp [hz])]
  exact b hx hy
 ·have hz:z=y:=e1 hx
  rw [if_neg (by simp [hx]),if_pos hy,hz,if_pos hy]
  exact ⟨fun _=>rfl,fun h=>absurd h hy,fun _ h=>h⟩
 ·have hz:z=x:=e2 hy
  rw [if_neg (by simp [hy]:¬ y≠0),if_pos hx,hz,if_pos hx]
  exact ⟨fun h=>absurd h hx,fun _=>rfl,fun h _=>h⟩
 ·rw [if_pos hx,if_pos hy]
  refine ⟨fun h=>absurd h hx,fun h=>absurd h hy,fun h1 h2=>?_⟩
  have:=lt h1 h2
  rw [if_pos (by omega)]
  exact this
theorem lex_neg (x y:Int):lexI (-x) (-y)=- lexI x y:=by unfold lexI;split <;> split <;> omega
theorem lex_zero {x y:Int}:lexI x y=0↔x=0∧y=0:=by unfold lexI;split <;> omega
theorem lex_zero' {x y:Int} (h:lexI x y=0):x=0∧y=0:=lex_zero.1 h
theorem cmpN_tri (a b c:Int):Tri (cmpN a b) (cmpN b c) (cmpN a c):=by
 unfold cmpN
 constructor <;> (repeat' split) <;> omega
theorem cmpN_neg (a b:Int):cmpN b a=- cmpN a b:=by unfold cmpN;(repeat' split) <;> omega
theorem cmpN_zero {a b:Int} (h:cmpN a b=0):a=b:=by unfold cmpN at h;(repeat' split at h) <;> omega
theorem cmpN_rng (a b:Int):cmpN a b=-1∨cmpN a b=0∨cmpN a b=1:=by unfold cmpN;(repeat' split) <;> omega
theorem cmpBs_cons (a b:UInt8) (x y:List UInt8):cmpBs (a::x) (b::y)=lexI (cmpN a.toNat b.toNat) (cmpBs x y):=by
 have hc:cmpBs (a::x) (b::y)=if a<b then -1 else if b<a then 1 else cmpBs x y:=rfl
 rw [hc]
 by_cases h1:a<b
 ·have:=UInt8.lt_iff_toNat_lt.1 h1
  have e:cmpN a.toNat b.toNat=-1:=by unfold cmpN;rw [if_pos (by omega)]
  rw [if_pos h1,e];rfl
 ·by_cases h2:b<a
  ·have:=UInt8.lt_iff_toNat_lt.1 h2
   have e:cmpN a.toNat b.toNat=1:=by unfold cmpN;rw [if_neg (by omega),if_pos (by omega)]
   rw [if_neg h1,if_pos h2,e];rfl
  ·have h1':¬ a.toNat<b.toNat:=fun h=>h1 (UInt8.lt_iff_toNat_lt.2 h)
   have h2':¬ b.toNat<a.toNat:=fun h=>h2 (UInt8.lt_iff_toNat_lt.2 h)
   have e:cmpN a.toNat b.toNat=0:=by unfold cmpN;rw [if_neg (by omega),if_neg (by omega)]
   rw [if_neg h1,if_neg h2,e];rfl
theorem cmpBs_tri:∀ a b c:List UInt8,Tri (cmpBs a b) (cmpBs b c) (cmpBs a c)
 | [],[],[]=>by constructor <;> decide
 | [],[],_::_=>by constructor <;> intros <;> simp_all [cmpBs,Lib.compareBytes]
 | [],_::_,[]=>by constructor <;> intros <;> simp_all [cmpBs,Lib.compareBytes]
 | [],b::y,c::z=>by
  have e1:cmpBs [] (b::y)=-1:=rfl
  have e2:cmpBs [] (c::z)=-1:=rfl
  rw [e1,e2]
  constructor <;> intros <;> omega
 | _::_,[],[]=>by constructor <;> intros <;> simp_all [cmpBs,Lib.compareBytes]
 | a::x,[],c::z=>by
  have e1:cmpBs (a::x) []=1:=rfl
  have e2:cmpBs [] (c::z)=-1:=rfl
  rw [e1,e2]
  constructor <;> intros <;> omega
 | a::x,b::y,[]=>by
  have e1:cmpBs (a::x) []=1:=rfl
  have e2:cmpBs (b::y) []=1:=rfl
  rw [e1,e2]
  constructor <;> intros <;> omega
 | a::x,b::y,c::z=>by
  rw [cmpBs_cons,cmpBs_cons,cmpBs_cons]
  exact (cmpN_tri _ _ _).lex (fun _ _=>cmpBs_tri x y z)
theorem cmpBs_neg:∀ a b:List UInt8,cmpBs b a=- cmpBs a b
 | [],[]=>rfl
 | [],_::_=>rfl
 | _::_,[]=>rfl
 | a::x,b::y=>by rw [cmpBs_cons,cmpBs_cons,cmpBs_neg x y,cmpN_neg a.toNat b.toNat,lex_neg]
theorem cmpBs_zero:∀ {a b:List UInt8},cmpBs a b=0→a=b
 | [],[],_=>rfl
 | [],_::_,h=>by cases h
 | _::_,[],h=>by cases h
 | a::x,b::y,h=>by
  rw [cmpBs_cons] at h
  obtain ⟨h1,h2⟩:=lex_zero' h
  have:=cmpN_zero h1
  rw [cmpBs_zero h2,UInt8.toNat_inj.1 (by omega:a.toNat=b.toNat)]
def cmpS (s s':ByteArray):Int:=cmpBs s.toList s'.toList
theorem cmpBs_rng:∀ a b:List UInt8,cmpBs a b=-1∨cmpBs a b=0∨cmpBs a b=1
 | [],[]=>.inr (.inl rfl)
 | [],_::_=>.inl rfl
 | _::_,[]=>.inr (.inr rfl)
 | a::x,b::y=>by
  rw [cmpBs_cons]
  have h1:=cmpN_rng a.toNat b.toNat
  have h2:=cmpBs_rng x y
  unfold lexI
  split <;> omega
theorem bArr_eq {a b:ByteArray} (h:a.toList=b.toList):a=b:=by
 rw [ByteArray.toList_eq,ByteArray.toList_eq] at h
 cases a;cases b
 simp at h
 subst h
 rfl
theorem cmpT_lex (k s o l k' s' o' l'):cmpT (.mk k s o l) (.mk k' s' o' l')=lexI (cmpN (size (.mk k s o l)) (size (.mk k' s' o' l'))) (lexI (cmpN k k') (lexI (cmpS s s') (lexI (cmpN o o') (lexI (cmpN l.length l'.length) (cmps l l'))))):=by
 rw [cmpT]
 obtain ⟨b1,b2⟩:=bl_cmp s.toList s'.toList
 have b3:=cmpBs_rng s.toList s'.toList
 rw [b1,b2]
 unfold lexI cmpS
 split
 ·rfl
 ·split
  ·rfl
  ·rcases b3 with b3 | b3 | b3
   ·rw [if_pos (by simp [b3])];simp [b3]
   ·rw [if_neg (by simp [b3]),if_neg (by simp [b3])];simp [b3]
   ·rw [if_neg (by simp [b3]),if_pos (by simp [b3])];simp [b3]
theorem cmps_lex (t t' l l'):cmps (t::l) (t'::l')=lexI (cmpT t t') (cmps l l'):=by rw [cmps];rfl
theorem cmps_neg:∀ {l l':List Tm},l.length=l'.length→(∀ t∈l,∀ t',cmpT t' t=- cmpT t t')→cmps l' l=- cmps l l'
 | [],[],_,_=>by simp [cmps]
 | t::l,t'::l',hl,h=>by
  rw [cmps_lex,cmps_lex,h t (by simp) t',cmps_neg (by simpa using hl) (fun u hu=>h u (by simp [hu])),lex_neg]
theorem cmpT_neg (t:Tm):∀ t',cmpT t' t=- cmpT t t':=by
 induction t using Tm.ind with
 | h k s o l ih=>
  rintro ⟨k',s',o',l'⟩
  rw [cmpT_lex,cmpT_lex,cmpN_neg (size (.mk k s o l)),cmpN_neg k,show cmpS s' s=- cmpS s s' from cmpBs_neg _ _,cmpN_neg o,cmpN_neg (l.length:Int)]
  rw [← lex_neg,← lex_neg,← lex_neg,← lex_neg]
  congr 4
  unfold lexI
  split
  ·rw [if_pos (by omega)]
  ·rename_i h
   rw [if_neg (by omega)]
   refine cmps_neg ?_ ih
   have h':cmpN (l.length:Int) l'.length=0:=by omega
   have:=cmpN_zero h'
   omega
theorem cmps_zero:∀ {l l':List Tm},l.length=l'.length→(∀ t∈l,∀ t',cmpT t t'=0→t=t')→cmps l l'=0→l=l'
 | [],[],_,_,_=>rfl
 | t::l,t'::l',hl,h,e=>by
  rw [cmps_lex] at e
  obtain ⟨e1,e2⟩:=lex_zero' e
  rw [h t (by simp) t' e1,cmps_zero (by simpa using hl) (fun u hu=>h u (by simp [hu])) e2]
theorem cmpT_zero {t:Tm}:∀ {t':Tm},cmpT t t'=0→t=t':=by
 induction t using Tm.ind with
 | h k s o l ih=>
  rintro ⟨k',s',o',l'⟩ h
  rw [cmpT_lex] at h
  obtain ⟨_,h⟩:=lex_zero' h
  obtain ⟨h1,h⟩:=lex_zero' h
  obtain ⟨h2,h⟩:=lex_zero' h
  obtain ⟨h3,h⟩:=lex_zero' h
  obtain ⟨h4,h⟩:=lex_zero' h
  have h4':=cmpN_zero h4
  rw [cmpN_zero h1,bArr_eq (cmpBs_zero h2),cmpN_zero h3,cmps_zero (by omega) (fun t ht t' e=>ih t ht e) h]
theorem cmpT_self (t:Tm):cmpT t t=0:=by have:=cmpT_neg t t;omega
theorem cmps_tri:∀ {l l' l'':List Tm},l.length=l'.length→l'.length=l''.length→(∀ t∈l,∀ t' t'',Tri (cmpT t t') (cmpT t' t'') (cmpT t t''))→Tri (cmps l l') (cmps l' l'') (cmps l l'')
 | [],[],[],_,_,_=>by simp [cmps];constructor <;> omega
 | t::l,t'::l',t''::l'',h1,h2,h=>by
  rw [cmps_lex,cmps_lex,cmps_lex]
  exact (h t (by simp) t' t'').lex (fun _ _=>cmps_tri (by simpa using h1) (by simpa using h2) (fun u hu=>h u (by simp [hu])))
theorem cmpT_tri (t:Tm):∀ t' t'',Tri (cmpT t t') (cmpT t' t'') (cmpT t t''):=by
 induction t using Tm.ind with
 | h k s o l ih=>
  rintro ⟨k',s',o',l'⟩ ⟨k2,s2,o2,l2⟩
  rw [cmpT_lex,cmpT_lex,cmpT_lex]
  refine (cmpN_tri _ _ _).lex fun _ _=>(cmpN_tri _ _ _).lex fun _ _=>(cmpBs_tri _ _ _).lex fun _ _=>(cmpN_tri _ _ _).lex fun _ _=>(cmpN_tri _ _ _).lex fun h1 h2=>?_
  have h1':=cmpN_zero h1
  have h2':=cmpN_zero h2
  exact cmps_tri (by omega) (by omega) ih
theorem cmpT_trans {a b c:Tm} (h1:cmpT a b<0) (h2:cmpT b c<0):cmpT a c<0:=(cmpT_tri a b c).lt h1 h2
end Go.Pm
end
section
namespace Go.Pm
abbrev Pw:=Tm × Int
def encP:Pw→PV
 | (.mk k s o l,n)=>.agg [.int .i64 k,.str s,.int .i64 o,.snap false (encs l),.int .i64 n]
def encPs (l:List Pw):List PV:=l.map encP
end Go.Pm
end
section
namespace Go.Pm
def letterI (c:Int):Bool:=decide ((97≤c∧c≤122)∨(65≤c∧c≤90))
def digitI (c:Int):Bool:=decide (48≤c∧c≤57)
def partI (c:Int):Bool:=letterI c || digitI c || decide (c=95) || decide (c=35)
def allPart:List UInt8→Bool
 | []=>true
 | c::l=>partI c.toNat && allPart l
def isNameL:List UInt8→Bool
 | []=>false
 | c::l=>decide (l.length<24) && letterI c.toNat && allPart (c::l)
def isName (s:ByteArray):Bool:=isNameL s.toList
theorem bsize (s:ByteArray):s.toList.length=s.size:=by rw [ByteArray.toList_eq];exact Array.length_toList
theorem bget {s:ByteArray} {i:Nat} {c:UInt8} (h:s.toList[i]?=some c):s[i]?=some c:=by
 have hlt:=lt_of_some h
 rw [ByteArray.toList_eq,Array.getElem?_toList] at h
 have hlt':i<s.size:=by rw [← bsize];exact hlt
 rw [getElem?_pos s i hlt']
 rw [Array.getElem?_eq_getElem hlt'] at h
 exact h
def node:Tm→Int
 | .mk k s o l=>if (k≠1∧k≠2∧k≠3)∨o<0∨5<o∨(k=3∧o≠0)∨(k≠3∧0<l.length) then 1 else if isName s=false then 2 else if 8<l.length then 3 else 0
mutual
def nodes:Tm→Int
 | .mk k s o l=>if node (.mk k s o l)≠0 then node (.mk k s o l) else nodess l
def nodess:List Tm→Int
 | []=>0
 | t::l=>if nodes t≠0 then nodes t else nodess l
end
mutual
def depth:Tm→Int
 | .mk _ _ _ l=>depths l+1
def depths:List Tm→Int
 | []=>0
 | t::l=>max (depth t) (depths l)
end
def valid (t:Tm):Int:=if nodes t≠0 then nodes t else if 400<size t∨40<depth t then 3 else 0
mutual
theorem depth_size:∀ t,0<depth t∧depth t≤size t
 | .mk k s o l=>by have:=depths_sizes l;simp only [depth,size];omega
theorem depths_sizes:∀ l,0≤depths l∧depths l≤sizes l
 | []=>by simp [depths,sizes]
 | t::l=>by
  have h1:=depth_size t
  have h2:=depths_sizes l
  simp only [depths,sizes];omega
end
end Go.Pm
end
section
namespace Go.Pm
theorem nodess_mem:∀ {l:List Tm},nodess l=0→∀ t∈l,nodes t=0
 | [],_,t,h=>by cases h
 | u::l,e,t,h=>by
  rw [nodess] at e
  split at e
  ·rename_i hu;exact absurd e hu
  ·rename_i hu
   rcases List.mem_cons.1 h with rfl | h
   ·omega
   ·exact nodess_mem e t h
theorem depths_mem:∀ {l:List Tm},∀ t∈l,depth t≤depths l
 | [],t,h=>by cases h
 | u::l,t,h=>by
  rw [depths]
  rcases List.mem_cons.1 h with rfl | h
  ·omega
  ·have:=depths_mem t h;omega
def VQ (S D:Int) (t:Tm):Prop:=nodes t=0∧size t≤S∧depth t≤D
theorem valid_zero {t:Tm}:valid t=0↔VQ 400 40 t:=by
 unfold valid VQ
 constructor
 ·intro h
  split at h
  ·rename_i hn;exact absurd h hn
  ·rename_i hn
   split at h
   ·cases h
   ·exact ⟨by omega,by omega,by omega⟩
 ·rintro ⟨h1,h2,h3⟩
  rw [if_neg (by omega),if_neg (by omega)]
end Go.Pm
end
section
set_option maxRecDepth 4000
set_option maxHeartbeats 4000000
namespace Go.Pm
open Go.Proofs
attribute [local irreducible] thenQ blockQ loopQ bodyQ Ev EvOps CallEv FnEv EvD
theorem partI_eq (c:Int):partI c=decide ((97≤c∧c≤122)∨(65≤c∧c≤90)∨(48≤c∧c≤57)∨c=95∨c=35):=by
 unfold partI letterI digitI
 simp only [← Bool.decide_or]
 congr 1
 apply propext
 omega
theorem letter_fun (c:Int):Fun C 191 [.int .u8 c] (.bool (letterI c)):=by
 refine Fun.of (FnEv.bodyL Tryz.func191 rfl ?_)
 (repeat' (first | refine EvOps.nil ?_ | (apply R.gOn;exact rfl;exact rfl;exact rfl) | (apply R.gOff;exact rfl;exact rfl;exact rfl) | (apply R.gUn;exact rfl;exact rfl) | (apply R.move;exact rfl) | (apply R.assign;exact rfl) | (apply R.pickT;exact rfl;exact rfl) | (apply R.pickF;exact rfl;exact rfl) | (apply R.cmp;exact rfl;exact rfl;exact rfl;all_goals intro hc) | refine Ev.seq ?_ | refine Ev.region ?_ | refine Ev.ret ?_ | refine thenQ.normal ?_ | (apply bodyQ.ret;exact rfl) | fail))
 all_goals (refine ⟨_,rfl,congrArg PV.bool ?_⟩;unfold letterI;first | exact (decide_eq_true (by omega)).symm | exact (decide_eq_false (by omega)).symm)
theorem digit_fun (c:Int):Fun C 192 [.int .u8 c] (.bool (digitI c)):=by
 refine Fun.of (FnEv.bodyL Tryz.func192 rfl ?_)
 (repeat' (first | refine EvOps.nil ?_ | (apply R.gOn;exact rfl;exact rfl;exact rfl) | (apply R.gOff;exact rfl;exact rfl;exact rfl) | (apply R.move;exact rfl) | (apply R.assign;exact rfl) | (apply R.pickT;exact rfl;exact rfl) | (apply R.pickF;exact rfl;exact rfl) | (apply R.cmp;exact rfl;exact rfl;exact rfl;all_goals intro hc) | refine Ev.seq ?_ | refine Ev.region ?_ | refine Ev.ret ?_ | refine thenQ.normal ?_ | (apply bodyQ.ret;exact rfl) | fail))
 all_goals (refine ⟨_,rfl,congrArg PV.bool ?_⟩;unfold digitI;first | exact (decide_eq_true (by omega)).symm | exact (decide_eq_false (by omega)).symm)
theorem part_fun (c:Int):Fun C 244 [.int .u8 c] (.bool (partI c)):=by
 refine Fun.of (FnEv.bodyL Tryz.func244 rfl ?_)
 (repeat' (first | refine EvOps.nil ?_ | (apply R.gOn;exact rfl;exact rfl;exact rfl) | (apply R.gOff;exact rfl;exact rfl;exact rfl) | (apply R.gUn;exact rfl;exact rfl) | (apply R.move;exact rfl) | (apply R.assign;exact rfl) | (apply R.pickT;exact rfl;exact rfl) | (apply R.pickF;exact rfl;exact rfl) | (apply R.cmp;exact rfl;exact rfl;exact rfl;all_goals intro hc) | refine Ev.seq ?_ | refine Ev.region ?_ | refine Ev.ret ?_ | refine thenQ.normal ?_ | (apply bodyQ.ret;exact rfl) | fail))
 all_goals (refine ⟨_,rfl,congrArg PV.bool ?_⟩;rw [partI_eq];first | exact (decide_eq_true (by omega)).symm | exact (decide_eq_false (by omega)).symm)
theorem allPart_drop (s:ByteArray) (i:Nat) (h:i<s.toList.length):allPart (s.toList.drop i)=(partI (s.toList[i]).toNat && allPart (s.toList.drop (i+1))):=by
 rw [List.drop_eq_getElem_cons h,allPart]
theorem size_cases (s:ByteArray):(s.size=0∧s.toList=[])∨∃ c l,s.toList=c::l∧s[0]?=some c∧s.size=l.length+1:=by
 have hl:=bsize s
 cases h:s.toList with
 | nil=>rw [h] at hl;exact .inl ⟨by simpa using hl.symm,rfl⟩
 | cons c l=>exact .inr ⟨c,l,rfl,bget (i:=0) (by rw [h];rfl),by rw [← hl,h];rfl⟩
theorem risName_fun (s:ByteArray) (hb:s.size<1000000000):Fun C 149 [.str s] (.bool (isName s)):=by
 refine Fun.of (FnEv.bodyL Tryz.func149 rfl ?_)
 have hl:=bsize s
 rcases size_cases s with ⟨h0,hn⟩ | ⟨c,l,hcl,hc0,hsz⟩
 ·have hs:isName s=false:=by unfold isName;rw [hn];rfl
  (repeat' (first | refine EvOps.nil ?_ | (apply R.gOn;exact rfl;exact rfl;exact rfl) | (apply R.gOff;exact rfl;exact rfl;exact rfl) | (apply R.move;exact rfl) | (apply R.assign;exact rfl) | (apply R.pickT;exact rfl;exact rfl) | (apply R.pickF;exact rfl;exact rfl) | (apply R.cmp;exact rfl;exact rfl;exact rfl;all_goals intro hc) | (apply R.lenStr T6;exact rfl;exact rfl) | refine Ev.seq ?_ | refine Ev.region ?_ | (apply Ev.condB;exact rfl) | refine Ev.ret ?_ | refine thenQ.normal ?_ | refine thenQ.ret ?_ | (apply bodyQ.ret;exact rfl) | fail))
  ·exact ⟨_,rfl,by rw [hs];rfl⟩
  ·omega
  ·omega
 ·have hs:isName s=(decide (l.length<24) && letterI c.toNat && allPart s.toList):=by unfold isName;rw [hcl];rfl
  (repeat' (first | refine EvOps.nil ?_ | (apply R.gOn;exact rfl;exact rfl;exact rfl) | (apply R.gOff;exact rfl;exact rfl;exact rfl) | (apply R.move;exact rfl) | (apply R.assign;exact rfl) | (apply R.pickT;exact rfl;exact rfl) | (apply R.pickF;exact rfl;exact rfl) | (apply R.cmp;exact rfl;exact rfl;exact rfl;all_goals intro hc) | (apply R.lenStr T6;exact rfl;exact rfl) | refine Ev.seq ?_ | refine Ev.region ?_ | (apply Ev.condB;exact rfl) | refine Ev.ret ?_ | refine thenQ.normal ?_ | refine thenQ.ret ?_ | (apply bodyQ.ret;exact rfl) | fail))
  ·omega
  ·refine ⟨_,rfl,?_⟩
   rw [hs,decide_eq_false (by omega)];rfl
  ·refine R.indexStr T6 (i:=0) rfl rfl rfl hc0 ?_
   (repeat' (first | (apply R.gOn;exact rfl;exact rfl;exact rfl) | fail))
   refine R.call rfl rfl (CallEv.pure rfl rfl (letter_fun c.toNat) ?_)
   cases hlet:letterI c.toNat
   ·(repeat' (first | refine EvOps.nil ?_ | (apply R.gOn;exact rfl;exact rfl;exact rfl) | (apply R.assign;exact rfl) | (apply R.pickF;exact rfl;exact rfl) | (apply R.not;exact rfl;exact rfl) | refine Ev.seq ?_ | refine Ev.region ?_ | (apply Ev.condB;exact rfl) | refine Ev.ret ?_ | refine thenQ.normal ?_ | refine thenQ.ret ?_ | (apply bodyQ.ret;exact rfl) | fail))
    refine ⟨_,rfl,?_⟩
    rw [hs,hlet];simp [nrm,tupOf]
   ·(repeat' (first | refine EvOps.nil ?_ | (apply R.gOn;exact rfl;exact rfl;exact rfl) | (apply R.assign;exact rfl) | (apply R.pickF;exact rfl;exact rfl) | (apply R.not;exact rfl;exact rfl) | refine Ev.seq ?_ | refine Ev.region ?_ | (apply Ev.condB;exact rfl) | refine Ev.skip ?_ | refine Ev.block ?_ | refine thenQ.normal ?_ | fail))
    have hs':isName s=allPart (s.toList.drop 0):=by rw [hs,hlet,decide_eq_true (by omega)];simp
    refine Ev.loop (I:=fun k' st=>∃ (i:Nat) (ρ':Nat→PV),st=⟨al [(0,.str s),(3,.int .i64 i)] ρ',[]⟩∧k'+i=s.size∧isName s=allPart (s.toList.drop i)) s.size ?_ ?_
    ·exact ⟨0,_,St.keep ⟨rfl,rfl,trivial⟩,rfl,hs'⟩
    ·rintro k' _ ⟨i,ρ',rfl,hk,hb'⟩
     (repeat' (first | refine EvOps.nil ?_ | (apply R.move;exact rfl) | (apply R.assign;exact rfl) | (apply R.cmp;exact rfl;exact rfl;exact rfl;all_goals intro hc) | (apply R.lenStr T6;exact rfl;exact rfl) | refine Ev.seq ?_ | refine Ev.region ?_ | (apply Ev.condB;exact rfl) | refine Ev.ret ?_ | refine Ev.skip ?_ | refine Ev.exit ?_ | refine Ev.block ?_ | refine thenQ.normal ?_ | refine thenQ.exit ?_ | refine blockQ.hit ?_ | refine loopQ.exit ?_ | (apply bodyQ.ret;exact rfl) | fail))
     ·have hil:i<s.toList.length:=by omega
      have hat:=bget (List.getElem?_eq_getElem hil)
      rw [allPart_drop s i hil] at hb'
      refine R.indexStr T6 rfl rfl rfl hat ?_
      generalize hx:s.toList[i]=x at hb' hat
      have hpe:=partI_eq x.toNat
      skip
      refine R.call rfl rfl (CallEv.pure rfl rfl (letter_fun x.toNat) ?_)
      cases hlet:letterI x.toNat
      ·(repeat' (first | (apply R.gOn;exact rfl;exact rfl;exact rfl) | (apply R.move;exact rfl) | (apply R.not;exact rfl;exact rfl) | fail))
       refine R.indexStr T6 rfl rfl rfl hat ?_
       (repeat' (first | (apply R.gOn;exact rfl;exact rfl;exact rfl) | fail))
       refine R.call rfl rfl (CallEv.pure rfl rfl (digit_fun x.toNat) ?_)
       cases hdig:digitI x.toNat
       ·(repeat' (first | (apply R.gOn;exact rfl;exact rfl;exact rfl) | (apply R.move;exact rfl) | (apply R.pickT;exact rfl;exact rfl) | (apply R.not;exact rfl;exact rfl) | fail))
        refine R.indexStr T6 rfl rfl rfl hat ?_
        (repeat' (first | refine EvOps.nil ?_ | (apply R.gOn;exact rfl;exact rfl;exact rfl) | (apply R.gOff;exact rfl;exact rfl;exact rfl) | (apply R.move;exact rfl) | (apply R.assign;exact rfl) | (apply R.pickT;exact rfl;exact rfl) | (apply R.pickF;exact rfl;exact rfl) | (apply R.cmp;exact rfl;exact rfl;exact rfl;all_goals intro hc) | (apply R.arith;exact rfl;exact rfl;exact rfl;exact (wrapI (by omega) (by omega))) | refine Ev.region ?_ | (apply Ev.condB;exact rfl) | refine Ev.skip ?_ | refine thenQ.normal ?_ | refine blockQ.normal ?_ | refine loopQ.normal ?_ | fail))
        ·refine R.indexStr T6 rfl rfl rfl hat ?_
         (repeat' (first | refine EvOps.nil ?_ | (apply R.gOn;exact rfl;exact rfl;exact rfl) | (apply R.move;exact rfl) | (apply R.assign;exact rfl) | (apply R.pickT;exact rfl;exact rfl) | (apply R.cmp;exact rfl;exact rfl;exact rfl;all_goals intro hc) | (apply R.arith;exact rfl;exact rfl;exact rfl;exact (wrapI (by omega) (by omega))) | refine Ev.seq ?_ | refine Ev.region ?_ | (apply Ev.condB;exact rfl) | refine Ev.ret ?_ | refine Ev.skip ?_ | refine thenQ.normal ?_ | refine thenQ.ret ?_ | refine blockQ.normal ?_ | refine blockQ.ret ?_ | refine loopQ.normal ?_ | refine loopQ.ret ?_ | (apply bodyQ.ret;exact rfl) | fail))
         ·rename_i h95
          have h35:=hc
          refine ⟨_,rfl,?_⟩
          rw [hb']
          unfold partI
          rw [hlet,hdig,decide_eq_false (by omega),decide_eq_false (by omega)];rfl
         ·refine ⟨k' - 1,by omega,i+1,_,St.keep ⟨rfl,rfl,trivial⟩,by omega,?_⟩
          rw [hb']
          unfold partI
          rw [decide_eq_true (show (x.toNat:Int)=35 by omega)];simp
        ·refine ⟨k' - 1,by omega,i+1,_,St.keep ⟨rfl,rfl,trivial⟩,by omega,?_⟩
         rw [hb']
         unfold partI
         rw [decide_eq_true (show (x.toNat:Int)=95 by omega)];simp
       ·(repeat' (first | refine EvOps.nil ?_ | (apply R.gOn;exact rfl;exact rfl;exact rfl) | (apply R.gOff;exact rfl;exact rfl;exact rfl) | (apply R.move;exact rfl) | (apply R.assign;exact rfl) | (apply R.pickT;exact rfl;exact rfl) | (apply R.pickF;exact rfl;exact rfl) | (apply R.arith;exact rfl;exact rfl;exact rfl;exact (wrapI (by omega) (by omega))) | (apply R.not;exact rfl;exact rfl) | refine Ev.region ?_ | (apply Ev.condB;exact rfl) | refine Ev.skip ?_ | refine thenQ.normal ?_ | refine blockQ.normal ?_ | refine loopQ.normal ?_ | fail))
        refine ⟨k' - 1,by omega,i+1,_,St.keep ⟨rfl,rfl,trivial⟩,by omega,?_⟩
        rw [hb']
        unfold partI
        rw [hdig];simp
      ·(repeat' (first | refine EvOps.nil ?_ | (apply R.gOff;exact rfl;exact rfl;exact rfl) | (apply R.move;exact rfl) | (apply R.assign;exact rfl) | (apply R.pickF;exact rfl;exact rfl) | (apply R.arith;exact rfl;exact rfl;exact rfl;exact (wrapI (by omega) (by omega))) | (apply R.not;exact rfl;exact rfl) | refine Ev.region ?_ | (apply Ev.condB;exact rfl) | refine Ev.skip ?_ | refine thenQ.normal ?_ | refine blockQ.normal ?_ | refine loopQ.normal ?_ | fail))
       refine ⟨k' - 1,by omega,i+1,_,St.keep ⟨rfl,rfl,trivial⟩,by omega,?_⟩
       rw [hb']
       unfold partI
       rw [hlet];simp
     ·refine ⟨_,rfl,?_⟩
      rw [hb',List.drop_eq_nil_of_le (by omega)];rfl
theorem emp_l:(ByteArray.mk #[]).toList=[]:=by rw [ByteArray.toList_eq]
theorem isName_fun (s:ByteArray) (hb:s.size<1000000000):Fun C 193 [.str s] (.bool (isName s)):=by
 refine Fun.of (FnEv.bodyL Tryz.func193 rfl ?_)
 have hl:=bsize s
 rcases size_cases s with ⟨h0,hn⟩ | ⟨c,l,hcl,hc0,hsz⟩
 ·have hs:isName s=false:=by unfold isName;rw [hn];rfl
  have hemp:s.toList=(ByteArray.mk #[]).toList:=by rw [hn,emp_l]
  (repeat' (first | refine EvOps.nil ?_ | (apply R.gOff;exact rfl;exact rfl;exact rfl) | (apply R.gUn;exact rfl;exact rfl) | (apply R.move;exact rfl) | (apply R.assign;exact rfl) | (apply R.pickT;exact rfl;exact rfl) | (apply R.streqT;exact rfl;exact rfl;exact (by assumption)) | refine Ev.seq ?_ | refine Ev.region ?_ | (apply Ev.condB;exact rfl) | refine Ev.ret ?_ | refine thenQ.normal ?_ | refine thenQ.ret ?_ | (apply bodyQ.ret;exact rfl) | fail))
  exact ⟨_,rfl,by rw [hs];rfl⟩
 ·have hs:isName s=(decide (l.length<24) && letterI c.toNat && allPart s.toList):=by unfold isName;rw [hcl];rfl
  have hpe:=partI_eq c.toNat
  have hle:letterI c.toNat=decide ((97≤(c.toNat:Int)∧(c.toNat:Int)≤122)∨(65≤(c.toNat:Int)∧(c.toNat:Int)≤90)):=rfl
  (repeat' (first | (apply R.indexStr T6 (i:=0);exact rfl;exact rfl;exact rfl;assumption) | refine EvOps.nil ?_ | (apply R.gOn;exact rfl;exact rfl;exact rfl) | (apply R.gOff;exact rfl;exact rfl;exact rfl) | (apply R.gUn;exact rfl;exact rfl) | (apply R.move;exact rfl) | (apply R.assign;exact rfl) | (apply R.pickT;exact rfl;exact rfl) | (apply R.pickF;exact rfl;exact rfl) | (apply R.cmp;exact rfl;exact rfl;exact rfl;all_goals intro hc;all_goals (try (exfalso;omega))) | (apply R.streq;exact rfl;exact rfl;all_goals intro hc) | (apply R.lenStr T6;exact rfl;exact rfl) | refine Ev.seq ?_ | refine Ev.region ?_ | (apply Ev.condB;exact rfl) | refine Ev.ret ?_ | refine thenQ.normal ?_ | refine thenQ.ret ?_ | (apply bodyQ.ret;exact rfl) | fail))
  ·rw [hcl,emp_l] at hc;cases hc
  ·refine ⟨_,rfl,?_⟩
   rw [hs,decide_eq_false (by omega)];rfl
  ·have h24:=hc
   clear hc
   refine R.call rfl rfl (CallEv.pure rfl rfl (part_fun c.toNat) ?_)
   cases hpa:partI c.toNat
   ·(repeat' (first | refine EvOps.nil ?_ | (apply R.gOn;exact rfl;exact rfl;exact rfl) | (apply R.gOff;exact rfl;exact rfl;exact rfl) | (apply R.gUn;exact rfl;exact rfl) | (apply R.move;exact rfl) | (apply R.assign;exact rfl) | (apply R.pickT;exact rfl;exact rfl) | (apply R.pickF;exact rfl;exact rfl) | (apply R.not;exact rfl;exact rfl) | refine Ev.seq ?_ | refine Ev.region ?_ | (apply Ev.condB;exact rfl) | refine Ev.ret ?_ | refine thenQ.normal ?_ | refine thenQ.ret ?_ | (apply bodyQ.ret;exact rfl) | fail))
    refine ⟨_,rfl,?_⟩
    rw [hpa] at hpe
    have:=of_decide_eq_false hpe.symm
    rw [hs,hle,decide_eq_false (p:=(97≤(c.toNat:Int)∧(c.toNat:Int)≤122)∨(65≤(c.toNat:Int)∧(c.toNat:Int)≤90) ) (by omega)];simp [nrm,tupOf]
   ·rw [hpa] at hpe
    have hpe:=of_decide_eq_true hpe.symm
    by_cases hg:(97≤(c.toNat:Int)∧(c.toNat:Int)≤122)∨(65≤(c.toNat:Int)∧(c.toNat:Int)≤90)
    ·have hs':isName s=allPart (s.toList.drop 0):=by rw [hs,hle,decide_eq_true hg,decide_eq_true (by omega)];simp
     (repeat' (first | (apply R.indexStr T6 (i:=0);exact rfl;exact rfl;exact rfl;assumption) | refine EvOps.nil ?_ | (apply R.gOn;exact rfl;exact rfl;exact rfl) | (apply R.move;exact rfl) | (apply R.pickT;exact rfl;exact rfl) | (apply R.pickF;exact rfl;exact rfl) | (apply R.cmp;exact rfl;exact rfl;exact rfl;all_goals intro hc;all_goals (try (exfalso;omega))) | (apply R.not;exact rfl;exact rfl) | (apply R.lenStr T6;exact rfl;exact rfl) | refine Ev.seq ?_ | refine Ev.region ?_ | (apply Ev.condB;exact rfl) | refine Ev.skip ?_ | refine Ev.block ?_ | refine thenQ.normal ?_ | fail))
     refine Ev.loop (I:=fun k' st=>∃ (i:Nat) (ρ':Nat→PV),st=⟨al [(0,.str s),(38,.int .i64 s.size),(39,.int .i64 i)] ρ',[]⟩∧k'+i=s.size∧isName s=allPart (s.toList.drop i)) s.size ?_ ?_
     ·exact ⟨0,_,St.keep ⟨rfl,rfl,rfl,trivial⟩,rfl,hs'⟩
     ·rintro k' _ ⟨i,ρ',rfl,hk,hb'⟩
      (repeat' (first | refine EvOps.nil ?_ | (apply R.move;exact rfl) | (apply R.assign;exact rfl) | (apply R.cmp;exact rfl;exact rfl;exact rfl;all_goals intro hc) | refine Ev.seq ?_ | refine Ev.region ?_ | (apply Ev.condB;exact rfl) | refine Ev.ret ?_ | refine Ev.skip ?_ | refine Ev.exit ?_ | refine Ev.block ?_ | refine thenQ.normal ?_ | refine thenQ.exit ?_ | refine blockQ.hit ?_ | refine loopQ.exit ?_ | (apply bodyQ.ret;exact rfl) | fail))
      ·have hil:i<s.toList.length:=by omega
       have hat:=bget (List.getElem?_eq_getElem hil)
       rw [allPart_drop s i hil] at hb'
       refine R.indexStr T6 rfl rfl rfl hat ?_
       generalize hx:s.toList[i]=x at hb' hat
       skip
       refine R.call rfl rfl (CallEv.pure rfl rfl (part_fun x.toNat) ?_)
       cases hpx:partI x.toNat
       ·(repeat' (first | refine EvOps.nil ?_ | (apply R.assign;exact rfl) | (apply R.not;exact rfl;exact rfl) | refine Ev.seq ?_ | refine Ev.region ?_ | (apply Ev.condB;exact rfl) | refine Ev.ret ?_ | refine thenQ.normal ?_ | refine thenQ.ret ?_ | refine blockQ.ret ?_ | refine loopQ.ret ?_ | (apply bodyQ.ret;exact rfl) | fail))
        refine ⟨_,rfl,?_⟩
        rw [hb',hpx];rfl
       ·(repeat' (first | refine EvOps.nil ?_ | (apply R.move;exact rfl) | (apply R.arith;exact rfl;exact rfl;exact rfl;exact (wrapI (by omega) (by omega))) | (apply R.not;exact rfl;exact rfl) | refine Ev.region ?_ | (apply Ev.condB;exact rfl) | refine Ev.skip ?_ | refine thenQ.normal ?_ | refine blockQ.normal ?_ | refine loopQ.normal ?_ | fail))
        refine ⟨k' - 1,by omega,i+1,_,St.keep ⟨rfl,rfl,rfl,trivial⟩,by omega,?_⟩
        rw [hb',hpx];rfl
      ·refine ⟨_,rfl,?_⟩
       rw [hb',List.drop_eq_nil_of_le (by omega)];rfl
    ·have hs':isName s=false:=by rw [hs,hle,decide_eq_false hg];simp
     (repeat' (first | (apply R.indexStr T6 (i:=0);exact rfl;exact rfl;exact rfl;assumption) | refine EvOps.nil ?_ | (apply R.gOn;exact rfl;exact rfl;exact rfl) | (apply R.gOff;exact rfl;exact rfl;exact rfl) | (apply R.move;exact rfl) | (apply R.assign;exact rfl) | (apply R.pickT;exact rfl;exact rfl) | (apply R.pickF;exact rfl;exact rfl) | (apply R.cmp;exact rfl;exact rfl;exact rfl;all_goals intro hc;all_goals (try (exfalso;omega))) | (apply R.not;exact rfl;exact rfl) | refine Ev.seq ?_ | refine Ev.region ?_ | (apply Ev.condB;exact rfl) | refine Ev.ret ?_ | refine thenQ.normal ?_ | refine thenQ.ret ?_ | (apply bodyQ.ret;exact rfl) | fail))
     all_goals exact ⟨_,rfl,by rw [hs'];rfl⟩
end Go.Pm
end
section
set_option maxRecDepth 4000
set_option maxHeartbeats 4000000
namespace Go.Pm
open Go.Proofs
attribute [local irreducible] thenQ blockQ loopQ bodyQ Ev EvOps CallEv FnEv
theorem number_fun (a b:Int):Fun C 181 [.int .i64 a,.int .i64 b] (.int .i64 (cmpN a b)):=by
 refine Fun.of (FnEv.bodyL Tryz.func181 rfl ?_)
 (repeat' (first | refine EvOps.nil ?_ | (apply R.move;exact rfl) | (apply R.assign;exact rfl) | (apply R.cmp;exact rfl;exact rfl;exact rfl;all_goals intro hc) | refine Ev.seq ?_ | refine Ev.region ?_ | (apply Ev.condB;exact rfl) | refine Ev.ret ?_ | refine Ev.skip ?_ | refine thenQ.normal ?_ | refine thenQ.ret ?_ | (apply bodyQ.ret;exact rfl) | fail))
 all_goals (refine ⟨_,rfl,congrArg (PV.int .i64) ?_⟩;unfold cmpN;(repeat' split) <;> omega)
theorem sign_fun (a b:Int):Fun C 101 [.int .i64 a,.int .i64 b] (.int .i64 (cmpN a b)):=by
 refine Fun.of (FnEv.bodyL Tryz.func101 rfl ?_)
 (repeat' (first | refine EvOps.nil ?_ | (apply R.move;exact rfl) | (apply R.assign;exact rfl) | (apply R.cmp;exact rfl;exact rfl;exact rfl;all_goals intro hc) | refine Ev.seq ?_ | refine Ev.region ?_ | (apply Ev.condB;exact rfl) | refine Ev.ret ?_ | refine Ev.skip ?_ | refine Ev.block ?_ | refine thenQ.normal ?_ | refine thenQ.ret ?_ | refine blockQ.normal ?_ | refine blockQ.ret ?_ | (apply bodyQ.ret;exact rfl) | fail))
 all_goals (refine ⟨_,rfl,congrArg (PV.int .i64) ?_⟩;unfold cmpN;(repeat' split) <;> omega)
theorem size_ev (k s o l) (hbk:bulks l<1000000000) (ih:∀ t∈l,Fun C 176 [enc t] (.int .i64 (size t))):Fun C 176 [enc (.mk k s o l)] (.int .i64 (size (.mk k s o l))):=by
 refine Fun.of (FnEv.bodyL Tryz.func176 rfl ?_)
 rw [enc_mk]
 have hlen:=len_bulks l
 have hel:=encs_len l
 have hsz:=sizes_bulk l
 (repeat' (first | refine EvOps.nil ?_ | (apply R.assign;exact rfl) | (apply R.box;exact rfl;exact rfl;exact rfl;exact .nil) | refine Ev.seq ?_ | refine Ev.region ?_ | refine Ev.block ?_ | refine thenQ.normal ?_ | fail))
 refine Ev.loop (I:=fun k' st=>∃ (i:Nat) (n:Int) (ρ':Nat→PV),st=⟨al [(1,.ptr 0 0 0 0),(3,.int .i64 n),(4,.int .i64 i)] ρ',[⟨.m,0,4,[.agg [.int .i64 k,.str s,.int .i64 o,.snap false (encs l)]]⟩]⟩∧k'+i=l.length∧0≤n∧1+sizes l=n+sizes (l.drop i)) l.length ?_ ?_
 ·exact ⟨0,1,_,St.keep ⟨rfl,rfl,rfl,trivial⟩,rfl,by omega,rfl⟩
 ·rintro k' _ ⟨i,n,ρ',rfl,hk,hn,hb'⟩
  (repeat' (first | refine EvOps.nil ?_ | (apply R.move;exact rfl) | (apply R.assign;exact rfl) | (apply R.load1 T6;exact rfl;exact rfl;exact rfl;exact rfl) | (apply R.fieldAddr T6;exact rfl;exact rfl;exact rfl;exact rfl) | (apply R.cmp;exact rfl;exact rfl;exact rfl;all_goals intro hc) | (apply R.lenS T6;exact rfl;exact rfl) | refine Ev.seq ?_ | refine Ev.region ?_ | (apply Ev.condB;exact rfl) | refine Ev.ret ?_ | refine Ev.skip ?_ | refine Ev.exit ?_ | refine Ev.block ?_ | refine thenQ.normal ?_ | refine thenQ.exit ?_ | refine blockQ.hit ?_ | refine loopQ.exit ?_ | (apply bodyQ.ret;exact rfl) | fail))
  ·obtain ⟨k1,s1,o1,l1,hmem,hat,hd,hil,_⟩:=encs_at' hc
   refine R.indexS T6 rfl rfl rfl rfl hat rfl rfl ?_
   have hbm:=bulk_mem hmem
   have hsm:=size_bulk (.mk k1 s1 o1 l1)
   have hdr:=sizes_bulk (l.drop (i+1))
   rw [hd,sizes] at hb'
   (repeat' (first | (apply R.loadA T6;exact rfl;exact rfl;exact rfl;exact rfl;exact (by repeat constructor)) | fail))
   refine R.call rfl rfl ?_
   show CallEv C 2 _ [.agg [.int .i64 k1,.str s1,.int .i64 o1,.snap false (encs l1)]] _ _
   rw [← enc_mk]
   refine CallEv.pure (r:=.int .i64 (size (.mk k1 s1 o1 l1))) rfl (by simp [isVals,isVal_enc]) (by simpa [nrms,nrm_enc] using ih _ hmem) ?_
   (repeat' (first | refine EvOps.nil ?_ | (apply R.move;exact rfl) | (apply R.assign;exact rfl) | (apply R.arith;exact rfl;exact rfl;exact rfl;exact (wrapI (by omega) (by omega))) | refine Ev.region ?_ | refine thenQ.normal ?_ | refine blockQ.normal ?_ | refine loopQ.normal ?_ | fail))
   exact ⟨k' - 1,by omega,i+1,n+size (.mk k1 s1 o1 l1),_,St.keep ⟨rfl,rfl,rfl,trivial⟩,by omega,by omega,by omega⟩
  ·refine ⟨_,rfl,?_⟩
   simp only [nrm,tupOf,size]
   rw [encs_end hc,sizes] at hb'
   rw [hb'];simp
theorem size_fun (t:Tm) (hb:bulk t<1000000000):Fun C 176 [enc t] (.int .i64 (size t)):=by
 induction t using Tm.ind with
 | h k s o l ih=>
  simp only [bulk] at hb
  exact size_ev k s o l (by omega) (fun t ht=>ih t ht (by have:=bulk_mem ht;omega))
theorem tsize_ev (k s o l) (hbk:bulks l<1000000000) (ih:∀ t∈l,Fun C 102 [enc t] (.int .i64 (size t))):Fun C 102 [enc (.mk k s o l)] (.int .i64 (size (.mk k s o l))):=by
 refine Fun.of (FnEv.bodyL Tryz.func102 rfl ?_)
 rw [enc_mk]
 have hlen:=len_bulks l
 have hel:=encs_len l
 have hsz:=sizes_bulk l
 (repeat' (first | refine EvOps.nil ?_ | (apply R.move;exact rfl) | (apply R.assign;exact rfl) | (apply R.load1 T6;exact rfl;exact rfl;exact rfl;exact rfl) | (apply R.fieldAddr T6;exact rfl;exact rfl;exact rfl;exact rfl) | (apply R.lenS T6;exact rfl;exact rfl) | (apply R.box;exact rfl;exact rfl;exact rfl;exact .nil) | refine Ev.seq ?_ | refine Ev.region ?_ | refine Ev.block ?_ | refine thenQ.normal ?_ | fail))
 refine Ev.loop (I:=fun k' st=>∃ (i:Nat) (n:Int) (J:AHeap) (ρ':Nat→PV),st=⟨al [(1,.ptr 0 0 0 0),(3,.int .i64 n),(7,.snap false (encs l)),(8,.int .i64 (encs l).length),(9,.int .i64 i)] ρ',⟨.m,0,4,[.agg [.int .i64 k,.str s,.int .i64 o,.snap false (encs l)]]⟩::J⟩∧k'+i=l.length∧0≤n∧1+sizes l=n+sizes (l.drop i)) l.length ?_ ?_
 ·exact ⟨0,1,[],_,St.keep ⟨rfl,rfl,rfl,rfl,rfl,trivial⟩,rfl,by omega,rfl⟩
 ·rintro k' _ ⟨i,n,J,ρ',rfl,hk,hn,hb'⟩
  (repeat' (first | refine EvOps.nil ?_ | (apply R.move;exact rfl) | (apply R.assign;exact rfl) | (apply R.cmp;exact rfl;exact rfl;exact rfl;all_goals intro hc) | refine Ev.seq ?_ | refine Ev.region ?_ | (apply Ev.condB;exact rfl) | refine Ev.ret ?_ | refine Ev.skip ?_ | refine Ev.exit ?_ | refine Ev.block ?_ | refine thenQ.normal ?_ | refine thenQ.exit ?_ | refine blockQ.hit ?_ | refine loopQ.exit ?_ | (apply bodyQ.ret;exact rfl) | fail))
  ·obtain ⟨k1,s1,o1,l1,hmem,hat,hd,hil,_⟩:=encs_at' hc
   refine R.indexS T6 rfl rfl rfl rfl hat rfl rfl ?_
   have hbm:=bulk_mem hmem
   have hsm:=size_bulk (.mk k1 s1 o1 l1)
   have hdr:=sizes_bulk (l.drop (i+1))
   rw [hd,sizes] at hb'
   (repeat' (first | refine EvOps.nil ?_ | (apply R.move;exact rfl) | (apply R.loadA T6;exact rfl;exact rfl;exact rfl;exact rfl;exact (by repeat constructor)) | (apply R.allocN T6;exact rfl;exact rfl;exact rfl) | (apply R.storeN T6;exact rfl;exact rfl;exact rfl;exact rfl;exact rfl;exact rfl) | (apply R.loadAN T6;exact rfl;exact rfl;exact rfl;exact (by repeat constructor)) | refine Ev.region ?_ | refine thenQ.normal ?_ | fail))
   refine R.call rfl rfl ?_
   show CallEv C 2 _ [.agg [.int .i64 k1,.str s1,.int .i64 o1,.snap false (encs l1)]] _ _
   rw [← enc_mk]
   refine CallEv.pure (r:=.int .i64 (size (.mk k1 s1 o1 l1))) rfl (by simp [isVals,isVal_enc]) (by simpa [nrms,nrm_enc] using ih _ hmem) ?_
   (repeat' (first | refine EvOps.nil ?_ | (apply R.move;exact rfl) | (apply R.assign;exact rfl) | (apply R.arith;exact rfl;exact rfl;exact rfl;exact (wrapI (by omega) (by omega))) | refine Ev.region ?_ | refine thenQ.normal ?_ | refine blockQ.normal ?_ | refine loopQ.normal ?_ | fail))
   exact ⟨k' - 1,by omega,i+1,n+size (.mk k1 s1 o1 l1),_,_,St.keep ⟨rfl,rfl,rfl,rfl,rfl,trivial⟩,by omega,by omega,by omega⟩
  ·refine ⟨_,rfl,?_⟩
   simp only [nrm,tupOf,size]
   rw [encs_end hc,sizes] at hb'
   rw [hb'];simp
theorem tsize_fun (t:Tm) (hb:bulk t<1000000000):Fun C 102 [enc t] (.int .i64 (size t)):=by
 induction t using Tm.ind with
 | h k s o l ih=>
  simp only [bulk] at hb
  exact tsize_ev k s o l (by omega) (fun t ht=>ih t ht (by have:=bulk_mem ht;omega))
end Go.Pm
end
section
set_option maxRecDepth 4000
set_option maxHeartbeats 4000000
namespace Go.Pm
open Go.Proofs
attribute [local irreducible] thenQ blockQ loopQ bodyQ Ev EvOps CallEv FnEv EvD
theorem rnode_fun (k s o l) (hb:bulk (.mk k s o l)<1000000000):Fun C 235 [enc (.mk k s o l)] (.int .i64 (node (.mk k s o l))):=by
 refine Fun.of (FnEv.bodyL Tryz.func235 rfl ?_)
 rw [enc_mk]
 have hel:=encs_len l
 have hlen:=len_bulks l
 have hbs:s.size<1000000000:=by simp only [bulk] at hb;omega
 (repeat' (first | refine EvOps.nil ?_ | (apply R.gOn;exact rfl;exact rfl;exact rfl) | (apply R.gOff;exact rfl;exact rfl;exact rfl) | (apply R.gUn;exact rfl;exact rfl) | (apply R.move;exact rfl) | (apply R.assign;exact rfl) | (apply R.pickT;exact rfl;exact rfl) | (apply R.pickF;exact rfl;exact rfl) | (apply R.load1 T6;exact rfl;exact rfl;exact rfl;exact rfl) | (apply R.fieldAddr T6;exact rfl;exact rfl;exact rfl;exact rfl) | (apply R.cmp;exact rfl;exact rfl;exact rfl;all_goals intro hc;all_goals (try (exfalso;omega))) | (apply R.not;exact rfl;exact rfl) | (apply R.lenS T6;exact rfl;exact rfl) | (apply R.box;exact rfl;exact rfl;exact rfl;exact .nil) | refine Ev.seq ?_ | refine Ev.region ?_ | (apply Ev.condB;exact rfl) | refine Ev.ret ?_ | refine Ev.skip ?_ | refine thenQ.normal ?_ | refine thenQ.ret ?_ | (apply bodyQ.ret;exact rfl) | fail))
 all_goals first
  | (refine ⟨_,rfl,congrArg (PV.int .i64) ?_⟩;rw [node,if_pos (by omega)])
  | (refine R.call rfl rfl (CallEv.pure rfl rfl (risName_fun s hbs) ?_);cases hN:isName s <;> (repeat' (first | refine EvOps.nil ?_ | (apply R.assign;exact rfl) | (apply R.load1 T6;exact rfl;exact rfl;exact rfl;exact rfl) | (apply R.fieldAddr T6;exact rfl;exact rfl;exact rfl;exact rfl) | (apply R.cmp;exact rfl;exact rfl;exact rfl;all_goals intro hc;all_goals (try (exfalso;omega))) | (apply R.not;exact rfl;exact rfl) | (apply R.lenS T6;exact rfl;exact rfl) | refine Ev.seq ?_ | refine Ev.region ?_ | (apply Ev.condB;exact rfl) | refine Ev.ret ?_ | refine Ev.skip ?_ | refine thenQ.normal ?_ | refine thenQ.ret ?_ | (apply bodyQ.ret;exact rfl) | fail)))
 all_goals first
  | (refine ⟨_,rfl,congrArg (PV.int .i64) ?_⟩;rw [node,if_neg (by omega),if_pos hN])
  | (refine ⟨_,rfl,congrArg (PV.int .i64) ?_⟩;rw [node,if_neg (by omega),if_neg (by rw [hN];simp),if_pos (by omega)])
  | (refine ⟨_,rfl,congrArg (PV.int .i64) ?_⟩;rw [node,if_neg (by omega),if_neg (by rw [hN];simp),if_neg (by omega)])
theorem rnodes_ev (k s o l) (hb:bulk (.mk k s o l)<1000000000) (ih:∀ t∈l,Fun C 175 [enc t] (.int .i64 (nodes t))):Fun C 175 [enc (.mk k s o l)] (.int .i64 (nodes (.mk k s o l))):=by
 have hno:=rnode_fun k s o l hb
 refine Fun.of (FnEv.bodyL Tryz.func175 rfl ?_)
 rw [enc_mk] at hno ⊢
 have hlen:=len_bulks l
 have hel:=encs_len l
 simp only [bulk] at hb
 (repeat' (first | refine EvOps.nil ?_ | (apply R.assign;exact rfl) | (apply R.loadA T6;exact rfl;exact rfl;exact rfl;exact rfl;exact (by repeat constructor)) | (apply R.box;exact rfl;exact rfl;exact rfl;exact .nil) | refine Ev.seq ?_ | refine Ev.region ?_ | refine thenQ.normal ?_ | fail))
 refine R.call rfl rfl (CallEv.pure rfl (by simp [isVals,isVal]) (by simpa [nrms,nrm,nrms_encs] using hno) ?_)
 (repeat' (first | refine EvOps.nil ?_ | (apply R.move;exact rfl) | (apply R.assign;exact rfl) | (apply R.cmp;exact rfl;exact rfl;exact rfl;all_goals intro hc) | refine Ev.seq ?_ | refine Ev.region ?_ | (apply Ev.condB;exact rfl) | refine Ev.ret ?_ | refine Ev.skip ?_ | refine Ev.block ?_ | refine thenQ.normal ?_ | refine thenQ.ret ?_ | (apply bodyQ.ret;exact rfl) | fail))
 ·refine ⟨_,rfl,?_⟩
  rw [nodes,if_pos (by assumption)];rfl
 ·have h0:nodes (.mk k s o l)=nodess l:=by rw [nodes,if_neg (by assumption)]
  refine Ev.loop (I:=fun k' st=>∃ (i:Nat) (ρ':Nat→PV),st=⟨al [(1,.ptr 0 0 0 0),(4,.int .i64 i)] ρ',[⟨.m,0,4,[.agg [.int .i64 k,.str s,.int .i64 o,.snap false (encs l)]]⟩]⟩∧k'+i=l.length∧nodess l=nodess (l.drop i)) l.length ?_ ?_
  ·exact ⟨0,_,St.keep ⟨rfl,rfl,trivial⟩,rfl,rfl⟩
  ·rintro k' _ ⟨i,ρ',rfl,hk,hb'⟩
   (repeat' (first | refine EvOps.nil ?_ | (apply R.move;exact rfl) | (apply R.assign;exact rfl) | (apply R.load1 T6;exact rfl;exact rfl;exact rfl;exact rfl) | (apply R.fieldAddr T6;exact rfl;exact rfl;exact rfl;exact rfl) | (apply R.cmp;exact rfl;exact rfl;exact rfl;all_goals intro hc) | (apply R.lenS T6;exact rfl;exact rfl) | refine Ev.seq ?_ | refine Ev.region ?_ | (apply Ev.condB;exact rfl) | refine Ev.ret ?_ | refine Ev.skip ?_ | refine Ev.exit ?_ | refine Ev.block ?_ | refine thenQ.normal ?_ | refine thenQ.exit ?_ | refine blockQ.hit ?_ | refine loopQ.exit ?_ | (apply bodyQ.ret;exact rfl) | fail))
   ·obtain ⟨k1,s1,o1,l1,hmem,hat,hd,hil,_⟩:=encs_at' hc
    refine R.indexS T6 rfl rfl rfl rfl hat rfl rfl ?_
    have hih:=ih _ hmem
    rw [enc_mk] at hih
    rw [hd,nodess] at hb'
    (repeat' (first | (apply R.loadA T6;exact rfl;exact rfl;exact rfl;exact rfl;exact (by repeat constructor)) | fail))
    refine R.call rfl rfl (CallEv.pure rfl (by simp [isVals,isVal]) (by simpa [nrms,nrm,nrms_encs] using hih) ?_)
    (repeat' (first | refine EvOps.nil ?_ | (apply R.move;exact rfl) | (apply R.assign;exact rfl) | (apply R.cmp;exact rfl;exact rfl;exact rfl;all_goals intro hc) | (apply R.arith;exact rfl;exact rfl;exact rfl;exact (wrapI (by omega) (by omega))) | refine Ev.seq ?_ | refine Ev.region ?_ | (apply Ev.condB;exact rfl) | refine Ev.ret ?_ | refine Ev.skip ?_ | refine thenQ.normal ?_ | refine thenQ.ret ?_ | refine blockQ.normal ?_ | refine blockQ.ret ?_ | refine loopQ.normal ?_ | refine loopQ.ret ?_ | (apply bodyQ.ret;exact rfl) | fail))
    ·refine ⟨_,rfl,?_⟩
     rw [h0,hb',if_pos (by assumption)];rfl
    ·refine ⟨k' - 1,by omega,i+1,_,St.keep ⟨rfl,rfl,trivial⟩,by omega,?_⟩
     rw [hb',if_neg (by assumption)]
   ·refine ⟨_,rfl,?_⟩
    rw [h0,hb',encs_end hc];rfl
theorem rnodes_fun (t:Tm) (hb:bulk t<1000000000):Fun C 175 [enc t] (.int .i64 (nodes t)):=by
 induction t using Tm.ind with
 | h k s o l ih=>
  exact rnodes_ev k s o l hb (fun t ht=>ih t ht (by have:=bulk_mem ht;simp only [bulk] at hb;omega))
theorem rdepth_ev (k s o l) (hb:bulk (.mk k s o l)<1000000000) (ih:∀ t∈l,Fun C 177 [enc t] (.int .i64 (depth t))):Fun C 177 [enc (.mk k s o l)] (.int .i64 (depth (.mk k s o l))):=by
 refine Fun.of (FnEv.bodyL Tryz.func177 rfl ?_)
 rw [enc_mk]
 have hlen:=len_bulks l
 have hel:=encs_len l
 have hsz:=sizes_bulk l
 have hds:=depths_sizes l
 simp only [bulk] at hb
 (repeat' (first | refine EvOps.nil ?_ | (apply R.assign;exact rfl) | (apply R.box;exact rfl;exact rfl;exact rfl;exact .nil) | refine Ev.seq ?_ | refine Ev.region ?_ | refine Ev.block ?_ | refine thenQ.normal ?_ | fail))
 refine Ev.loop (I:=fun k' st=>∃ (i:Nat) (n:Int) (ρ':Nat→PV),st=⟨al [(1,.ptr 0 0 0 0),(3,.int .i64 n),(4,.int .i64 i)] ρ',[⟨.m,0,4,[.agg [.int .i64 k,.str s,.int .i64 o,.snap false (encs l)]]⟩]⟩∧k'+i=l.length∧0≤n∧depths l=max n (depths (l.drop i))) l.length ?_ ?_
 ·exact ⟨0,0,_,St.keep ⟨rfl,rfl,rfl,trivial⟩,rfl,by omega,by simp only [List.drop_zero];omega⟩
 ·rintro k' _ ⟨i,n,ρ',rfl,hk,hn,hb'⟩
  (repeat' (first | refine EvOps.nil ?_ | (apply R.move;exact rfl) | (apply R.assign;exact rfl) | (apply R.load1 T6;exact rfl;exact rfl;exact rfl;exact rfl) | (apply R.fieldAddr T6;exact rfl;exact rfl;exact rfl;exact rfl) | (apply R.cmp;exact rfl;exact rfl;exact rfl;all_goals intro hc) | (apply R.arith;exact rfl;exact rfl;exact rfl;exact (wrapI (by omega) (by omega))) | (apply R.lenS T6;exact rfl;exact rfl) | refine Ev.seq ?_ | refine Ev.region ?_ | (apply Ev.condB;exact rfl) | refine Ev.ret ?_ | refine Ev.skip ?_ | refine Ev.exit ?_ | refine Ev.block ?_ | refine thenQ.normal ?_ | refine thenQ.exit ?_ | refine blockQ.hit ?_ | refine loopQ.exit ?_ | (apply bodyQ.ret;exact rfl) | fail))
  ·obtain ⟨k1,s1,o1,l1,hmem,hat,hd,hil,_⟩:=encs_at' hc
   refine R.indexS T6 rfl rfl rfl rfl hat rfl rfl ?_
   have hih:=ih _ hmem
   rw [enc_mk] at hih
   rw [hd,depths] at hb'
   have hpo:=depth_size (.mk k1 s1 o1 l1)
   (repeat' (first | (apply R.loadA T6;exact rfl;exact rfl;exact rfl;exact rfl;exact (by repeat constructor)) | fail))
   refine R.call rfl rfl (CallEv.pure rfl (by simp [isVals,isVal]) (by simpa [nrms,nrm,nrms_encs] using hih) ?_)
   (repeat' (first | refine EvOps.nil ?_ | (apply R.move;exact rfl) | (apply R.assign;exact rfl) | (apply R.arith;exact rfl;exact rfl;exact rfl;exact (wrapI (by omega) (by omega))) | (apply R.max;exact rfl;exact rfl) | refine Ev.region ?_ | refine thenQ.normal ?_ | refine blockQ.normal ?_ | refine loopQ.normal ?_ | fail))
   exact ⟨k' - 1,by omega,i+1,_,_,St.keep ⟨rfl,rfl,rfl,trivial⟩,by omega,by omega,by omega⟩
  ·rw [encs_end hc,depths] at hb'
   skip
   refine ⟨_,rfl,congrArg (PV.int .i64) ?_⟩
   rw [depth];omega
theorem rdepth_fun (t:Tm) (hb:bulk t<1000000000):Fun C 177 [enc t] (.int .i64 (depth t)):=by
 induction t using Tm.ind with
 | h k s o l ih=>
  exact rdepth_ev k s o l hb (fun t ht=>ih t ht (by have:=bulk_mem ht;simp only [bulk] at hb;omega))
theorem rvalid_fun (t:Tm) (hb:bulk t<1000000000):Fun C 125 [enc t] (.int .i64 (valid t)):=by
 have h1:=rnodes_fun t hb
 have h2:=size_fun t hb
 have h3:=rdepth_fun t hb
 obtain ⟨k,s,o,l⟩:=t
 refine Fun.of (FnEv.bodyL Tryz.func125 rfl ?_)
 rw [enc_mk] at h1 h2 h3 ⊢
 (repeat' (first | refine EvOps.nil ?_ | (apply R.assign;exact rfl) | (apply R.loadA T6;exact rfl;exact rfl;exact rfl;exact rfl;exact (by repeat constructor)) | (apply R.box;exact rfl;exact rfl;exact rfl;exact .nil) | refine Ev.seq ?_ | refine Ev.region ?_ | refine thenQ.normal ?_ | fail))
 refine R.call rfl rfl (CallEv.pure rfl (by simp [isVals,isVal]) (by simpa [nrms,nrm,nrms_encs] using h1) ?_)
 (repeat' (first | refine EvOps.nil ?_ | (apply R.move;exact rfl) | (apply R.assign;exact rfl) | (apply R.loadA T6;exact rfl;exact rfl;exact rfl;exact rfl;exact (by repeat constructor)) | (apply R.cmp;exact rfl;exact rfl;exact rfl;all_goals intro hc) | refine Ev.seq ?_ | refine Ev.region ?_ | (apply Ev.condB;exact rfl) | refine Ev.ret ?_ | refine Ev.skip ?_ | refine thenQ.normal ?_ | refine thenQ.ret ?_ | (apply bodyQ.ret;exact rfl) | fail))
 ·refine ⟨_,rfl,?_⟩
  rw [valid,if_pos (by assumption)];rfl
 ·have h0:=hc
  clear hc
  refine R.call rfl rfl (CallEv.pure rfl (by simp [isVals,isVal]) (by simpa [nrms,nrm,nrms_encs] using h2) ?_)
  (repeat' (first | refine EvOps.nil ?_ | (apply R.gOn;exact rfl;exact rfl;exact rfl) | (apply R.gOff;exact rfl;exact rfl;exact rfl) | (apply R.move;exact rfl) | (apply R.assign;exact rfl) | (apply R.pickT;exact rfl;exact rfl) | (apply R.loadA T6;exact rfl;exact rfl;exact rfl;exact rfl;exact (by repeat constructor)) | (apply R.cmp;exact rfl;exact rfl;exact rfl;all_goals intro hc) | refine Ev.seq ?_ | refine Ev.region ?_ | (apply Ev.condB;exact rfl) | refine Ev.ret ?_ | refine thenQ.normal ?_ | refine thenQ.ret ?_ | (apply bodyQ.ret;exact rfl) | fail))
  ·refine ⟨_,rfl,?_⟩
   rw [valid,if_neg h0,if_pos (by omega)];rfl
  ·refine R.call rfl rfl (CallEv.pure rfl (by simp [isVals,isVal]) (by simpa [nrms,nrm,nrms_encs] using h3) ?_)
   (repeat' (first | refine EvOps.nil ?_ | (apply R.gOn;exact rfl;exact rfl;exact rfl) | (apply R.assign;exact rfl) | (apply R.pickF;exact rfl;exact rfl) | (apply R.cmp;exact rfl;exact rfl;exact rfl;all_goals intro hc) | refine Ev.seq ?_ | refine Ev.region ?_ | (apply Ev.condB;exact rfl) | refine Ev.ret ?_ | refine Ev.skip ?_ | refine thenQ.normal ?_ | refine thenQ.ret ?_ | (apply bodyQ.ret;exact rfl) | fail))
   ·refine ⟨_,rfl,?_⟩
    rw [valid,if_neg h0,if_pos (by omega)];rfl
   ·refine ⟨_,rfl,?_⟩
    rw [valid,if_neg h0,if_neg (by omega)];rfl
end Go.Pm
end
section
set_option maxRecDepth 4000
set_option maxHeartbeats 4000000
namespace Go.Pm
open Go.Proofs
attribute [local irreducible] thenQ blockQ loopQ bodyQ Ev EvOps CallEv FnEv EvD
set_option maxHeartbeats 2000000 in
theorem rcmp_ev (k s o l k' s' o' l') (hb:bulk (.mk k s o l)<1000000000) (hb':bulk (.mk k' s' o' l')<1000000000)
  (ih:∀ t∈l,∀ t'∈l',Fun C 134 [enc t,enc t'] (.int .i64 (cmpT t t'))):Fun C 134 [enc (.mk k s o l),enc (.mk k' s' o' l')] (.int .i64 (cmpT (.mk k s o l) (.mk k' s' o' l'))):=by
 refine Fun.of (FnEv.bodyL Tryz.func134 rfl ?_)
 rw [enc_mk,enc_mk]
 have z1:=size_fun _ hb
 have z2:=size_fun _ hb'
 have v1:isVals (encs l)=true:=isVals_encs l
 have v2:isVals (encs l')=true:=isVals_encs l'
 have e1:=encs_len l
 have e2:=encs_len l'
 have b1:l.length<1000000000:=by have:=len_bulks l;simp only [bulk] at hb;omega
 have b2:l'.length<1000000000:=by have:=len_bulks l';simp only [bulk] at hb';omega
 rw [enc_mk] at z1 z2
 (repeat' (first | refine EvOps.nil ?_ | (apply R.assign;exact rfl) | (apply R.box;exact rfl;exact rfl;exact rfl;exact .nil) | (apply R.box;exact rfl;exact rfl;exact rfl;exact (.cons .nil)) | refine Ev.seq ?_ | refine Ev.region ?_ | refine Ev.regionD ?_ | (apply D.loadA T6;exact (by first | exact rfl | assumption);exact rfl;exact rfl;exact rfl;exact rfl;exact rfl;exact (by repeat constructor)) | refine thenQ.normal ?_ | fail))
 refine D.callP rfl rfl rfl rfl (by simp [isVals,isVal,v1]) rfl rfl (by simpa [nrms,nrm,nrms_encs] using z1) ?_
 (repeat' (first | (apply D.loadA T6;exact (by first | exact rfl | assumption);exact rfl;exact rfl;exact rfl;exact rfl;exact rfl;exact (by repeat constructor)) | fail))
 refine D.callP rfl rfl rfl rfl (by simp [isVals,isVal,v2]) rfl rfl (by simpa [nrms,nrm,nrms_encs] using z2) ?_
 refine D.callP rfl rfl rfl rfl rfl rfl rfl (number_fun _ _) ?_
 (repeat' (first | refine EvOps.nil ?_ | (apply R.move;exact rfl) | (apply R.assign;exact rfl) | (apply R.load1 T6;exact rfl;exact rfl;exact rfl;exact rfl) | (apply R.fieldAddr T6;exact rfl;exact rfl;exact rfl;exact rfl) | (apply R.cmp;exact rfl;exact rfl;exact rfl;all_goals intro hc) | refine Ev.seq ?_ | refine Ev.region ?_ | refine EvD.nil ?_ | (apply D.assign;exact rfl) | (apply Ev.condB;exact rfl) | refine Ev.ret ?_ | refine Ev.skip ?_ | refine thenQ.normal ?_ | refine thenQ.ret ?_ | (apply bodyQ.ret;exact rfl) | fail))
 ·exact ⟨_,rfl,by simp only [nrm,tupOf,cmpT];rw [if_pos hc]⟩
 have h1:=hc
 clear hc
 refine R.call rfl rfl (CallEv.pure rfl rfl (number_fun k k') ?_)
 (repeat' (first | refine EvOps.nil ?_ | (apply R.move;exact rfl) | (apply R.assign;exact rfl) | (apply R.load1 T6;exact rfl;exact rfl;exact rfl;exact rfl) | (apply R.fieldAddr T6;exact rfl;exact rfl;exact rfl;exact rfl) | (apply R.cmp;exact rfl;exact rfl;exact rfl;all_goals intro hc) | (apply R.strcmp;exact rfl;exact rfl;exact rfl;all_goals intro hc) | refine Ev.seq ?_ | refine Ev.region ?_ | (apply Ev.condB;exact rfl) | refine Ev.ret ?_ | refine Ev.skip ?_ | refine thenQ.normal ?_ | refine thenQ.ret ?_ | (apply bodyQ.ret;exact rfl) | fail))
 ·exact ⟨_,rfl,by simp only [nrm,tupOf,cmpT];rw [if_neg h1,if_pos hc]⟩
 ·rename_i h2
  have h3:=hc
  exact ⟨_,rfl,by simp only [nrm,tupOf,cmpT];rw [if_neg h1,if_neg h2,if_pos h3]⟩
 ·rename_i h2 h3
  have h4:=hc
  exact ⟨_,rfl,by simp only [nrm,tupOf,cmpT];rw [if_neg h1,if_neg h2,if_neg (by rw [h3];simp),if_pos h4]⟩
 rename_i h2 h3
 have h4:=hc
 clear hc
 refine R.call rfl rfl (CallEv.pure rfl rfl (number_fun o o') ?_)
 (repeat' (first | refine EvOps.nil ?_ | (apply R.move;exact rfl) | (apply R.assign;exact rfl) | (apply R.load1 T6;exact rfl;exact rfl;exact rfl;exact rfl) | (apply R.fieldAddr T6;exact rfl;exact rfl;exact rfl;exact rfl) | (apply R.cmp;exact rfl;exact rfl;exact rfl;all_goals intro hc) | (apply R.lenS T6;exact rfl;exact rfl) | refine Ev.seq ?_ | refine Ev.region ?_ | (apply Ev.condB;exact rfl) | refine Ev.ret ?_ | refine Ev.skip ?_ | refine thenQ.normal ?_ | refine thenQ.ret ?_ | (apply bodyQ.ret;exact rfl) | fail))
 ·exact ⟨_,rfl,by simp only [nrm,tupOf,cmpT];rw [if_neg h1,if_neg h2,if_neg (by rw [h3];simp),if_neg (by rw [h4];simp),if_pos hc]⟩
 have h5:=hc
 clear hc
 refine R.call rfl rfl (CallEv.pure rfl rfl (number_fun (encs l).length (encs l').length) ?_)
 (repeat' (first | refine EvOps.nil ?_ | (apply R.move;exact rfl) | (apply R.assign;exact rfl) | (apply R.cmp;exact rfl;exact rfl;exact rfl;all_goals intro hc) | refine Ev.seq ?_ | refine Ev.region ?_ | (apply Ev.condB;exact rfl) | refine Ev.ret ?_ | refine Ev.skip ?_ | refine Ev.block ?_ | refine thenQ.normal ?_ | refine thenQ.ret ?_ | (apply bodyQ.ret;exact rfl) | fail))
 ·refine ⟨_,rfl,?_⟩
  simp only [nrm,tupOf,cmpT]
  rw [e1,e2] at hc ⊢
  rw [if_neg h1,if_neg h2,if_neg (by rw [h3];simp),if_neg (by rw [h4];simp),if_neg h5,if_pos hc]
 have h6:=hc
 clear hc
 have hll:l.length=l'.length:=by
  rw [e1,e2] at h6
  unfold cmpN at h6
  repeat' split at h6
  all_goals omega
 have hspec:cmpT (.mk k s o l) (.mk k' s' o' l')=cmps l l':=by
  rw [e1,e2] at h6
  rw [cmpT,if_neg h1,if_neg h2,if_neg (by rw [h3];simp),if_neg (by rw [h4];simp),if_neg h5,if_neg h6]
 refine Ev.loop (I:=fun k'' st=>∃ (i:Nat) (ρ':Nat→PV),st=⟨al [(2,.ptr 0 0 0 0),(3,.ptr 1 0 0 0),(9,.int .i64 i)] ρ',[⟨.m,0,4,[.agg [.int .i64 k,.str s,.int .i64 o,.snap false (encs l)]]⟩,⟨.m,0,4,[.agg [.int .i64 k',.str s',.int .i64 o',.snap false (encs l')]]⟩]⟩∧k''+i=l.length∧cmps l l'=cmps (l.drop i) (l'.drop i)) l.length ?_ ?_
 ·exact ⟨0,_,St.keep ⟨rfl,rfl,rfl,trivial⟩,rfl,rfl⟩
 ·rintro k'' _ ⟨i,ρ',rfl,hk,hb2⟩
  (repeat' (first | refine EvOps.nil ?_ | (apply R.move;exact rfl) | (apply R.assign;exact rfl) | (apply R.load1 T6;exact rfl;exact rfl;exact rfl;exact rfl) | (apply R.fieldAddr T6;exact rfl;exact rfl;exact rfl;exact rfl) | (apply R.cmp;exact rfl;exact rfl;exact rfl;all_goals intro hc) | (apply R.lenS T6;exact rfl;exact rfl) | refine Ev.seq ?_ | refine Ev.region ?_ | refine Ev.regionD ?_ | (apply D.move;exact rfl) | (apply D.fieldAddr T6;exact rfl;exact rfl;exact rfl;exact rfl) | (apply D.load1 T6;exact (by first | exact rfl | assumption);exact rfl;exact rfl;exact rfl;exact rfl;exact rfl) | (apply Ev.condB;exact rfl) | refine Ev.ret ?_ | refine Ev.skip ?_ | refine Ev.exit ?_ | refine Ev.block ?_ | refine thenQ.normal ?_ | refine thenQ.exit ?_ | refine blockQ.hit ?_ | refine loopQ.exit ?_ | (apply bodyQ.ret;exact rfl) | fail))
  ·obtain ⟨k1,s1,o1,l1,hmem,hat,hd,hil,_⟩:=encs_at' hc
   obtain ⟨k2,s2,o2,l2,hmem',hat',hd',hil',_⟩:=encs_at' (l:=l') (i:=i) (by omega)
   have w1:isVals (encs l1)=true:=isVals_encs l1
   have w2:isVals (encs l2)=true:=isVals_encs l2
   have hih:=ih _ hmem _ hmem'
   rw [enc_mk,enc_mk] at hih
   refine D.indexS T6 rfl rfl rfl rfl rfl hat rfl rfl ?_
   (repeat' (first | (apply D.move;exact rfl) | (apply D.fieldAddr T6;exact rfl;exact rfl;exact rfl;exact rfl) | (apply D.load1 T6;exact (by first | exact rfl | assumption);exact rfl;exact rfl;exact rfl;exact rfl;exact rfl) | (apply D.loadA T6;exact (by first | exact rfl | assumption);exact rfl;exact rfl;exact rfl;exact rfl;exact rfl;exact (by repeat constructor)) | fail))
   refine D.indexS T6 rfl rfl rfl rfl rfl hat' rfl rfl ?_
   (repeat' (first | (apply D.loadA T6;exact (by first | exact rfl | assumption);exact rfl;exact rfl;exact rfl;exact rfl;exact rfl;exact (by repeat constructor)) | fail))
   refine D.callP rfl rfl rfl rfl (by simp [isVals,isVal,w1,w2]) rfl rfl (by simpa [nrms,nrm,nrms_encs] using hih) ?_
   (repeat' (first | refine EvOps.nil ?_ | (apply R.move;exact rfl) | (apply R.assign;exact rfl) | (apply R.cmp;exact rfl;exact rfl;exact rfl;all_goals intro hc) | (apply R.arith;exact rfl;exact rfl;exact rfl;exact (wrapI (by omega) (by omega))) | refine Ev.seq ?_ | refine Ev.region ?_ | refine EvD.nil ?_ | (apply D.assign;exact rfl) | (apply Ev.condB;exact rfl) | refine Ev.ret ?_ | refine Ev.skip ?_ | refine thenQ.normal ?_ | refine thenQ.ret ?_ | refine blockQ.normal ?_ | refine blockQ.ret ?_ | refine loopQ.normal ?_ | refine loopQ.ret ?_ | (apply bodyQ.ret;exact rfl) | fail))
   ·refine ⟨_,rfl,?_⟩
    simp only [nrm,tupOf]
    rw [hspec,hb2,hd,hd',cmps,if_pos (by assumption)]
   ·refine ⟨k'' - 1,by omega,i+1,_,St.keep ⟨rfl,rfl,rfl,trivial⟩,by omega,?_⟩
    rw [hb2,hd,hd',cmps,if_neg (by assumption)]
  ·refine ⟨_,rfl,?_⟩
   simp only [nrm,tupOf]
   rw [hspec,hb2,encs_end hc,cmps]
end Go.Pm
end
section
set_option maxRecDepth 4000
set_option maxHeartbeats 4000000
namespace Go.Pm
open Go.Proofs
attribute [local irreducible] thenQ blockQ loopQ bodyQ Ev EvOps CallEv FnEv EvD
theorem rcmp_fun (t t':Tm) (hb:bulk t<1000000000) (hb':bulk t'<1000000000):Fun C 134 [enc t,enc t'] (.int .i64 (cmpT t t')):=by
 induction t using Tm.ind generalizing t' with
 | h k s o l ih=>
  obtain ⟨k',s',o',l'⟩:=t'
  refine rcmp_ev k s o l k' s' o' l' hb hb' (fun t ht t' ht'=>ih t ht t' ?_ ?_)
  ·have:=bulk_mem ht;simp only [bulk] at hb;omega
  ·have:=bulk_mem ht';simp only [bulk] at hb';omega
theorem rsame_fun (t t':Tm) (hb:bulk t<1000000000) (hb':bulk t'<1000000000):Fun C 78 [enc t,enc t'] (.bool (decide (cmpT t t'=0))):=by
 have h1:=rcmp_fun t t' hb hb'
 obtain ⟨k,s,o,l⟩:=t
 obtain ⟨k',s',o',l'⟩:=t'
 refine Fun.of (FnEv.bodyL Tryz.func78 rfl ?_)
 rw [enc_mk,enc_mk] at h1 ⊢
 (repeat' (first | refine EvOps.nil ?_ | (apply R.assign;exact rfl) | (apply R.loadA T6;exact rfl;exact rfl;exact rfl;exact rfl;exact (by repeat constructor)) | (apply R.box;exact rfl;exact rfl;exact rfl;exact .nil) | (apply R.box;exact rfl;exact rfl;exact rfl;exact (.cons .nil)) | refine Ev.seq ?_ | refine Ev.region ?_ | refine thenQ.normal ?_ | fail))
 refine R.call rfl rfl (CallEv.pure rfl (by simp [isVals,isVal]) (by simpa [nrms,nrm,nrms_encs] using h1) ?_)
 (repeat' (first | refine EvOps.nil ?_ | (apply R.assign;exact rfl) | (apply R.cmp;exact rfl;exact rfl;exact rfl;all_goals intro hc) | refine Ev.ret ?_ | refine thenQ.normal ?_ | (apply bodyQ.ret;exact rfl) | fail))
 ·exact ⟨_,rfl,congrArg PV.bool (decide_eq_true (by assumption)).symm⟩
 ·exact ⟨_,rfl,congrArg PV.bool (decide_eq_false (by assumption)).symm⟩
end Go.Pm
end
section
set_option maxRecDepth 4000
set_option maxHeartbeats 4000000
namespace Go.Pm
open Go.Proofs
attribute [local irreducible] thenQ blockQ loopQ bodyQ Ev EvOps CallEv FnEv EvD
theorem cmpstr_fun (a b:ByteArray):Fun C 153 [.str a,.str b] (.int .i64 (cmpS a b)):=by
 have e:cmpS a b=Lib.compareBytes a.data.toList b.data.toList:=by unfold cmpS cmpBs;rw [ByteArray.toList_eq,ByteArray.toList_eq]
 rw [e]
 refine Fun.of (FnEv.bodyL Tryz.func153 rfl ?_)
 (repeat' (first | refine EvOps.nil ?_ | (apply R.move;exact rfl) | (apply R.assign;exact rfl) | refine Ev.seq ?_ | refine Ev.region ?_ | refine thenQ.normal ?_ | fail))
 refine R.call rfl rfl (CallEv.ext rfl rfl rfl ?_)
 (repeat' (first | refine EvOps.nil ?_ | (apply R.assign;exact rfl) | refine Ev.ret ?_ | refine thenQ.normal ?_ | (apply bodyQ.ret;exact rfl) | fail))
 exact ⟨_,rfl,rfl⟩
theorem scmp_fun (a b:ByteArray):Fun C 103 [.str a,.str b] (.int .i64 (cmpS a b)):=by
 refine Fun.of (FnEv.bodyL Tryz.func103 rfl ?_)
 (repeat' (first | refine EvOps.nil ?_ | (apply R.move;exact rfl) | (apply R.assign;exact rfl) | refine Ev.seq ?_ | refine Ev.region ?_ | refine thenQ.normal ?_ | fail))
 refine R.call rfl rfl (CallEv.pure rfl rfl (cmpstr_fun a b) ?_)
 (repeat' (first | refine EvOps.nil ?_ | (apply R.assign;exact rfl) | refine Ev.ret ?_ | refine thenQ.normal ?_ | (apply bodyQ.ret;exact rfl) | fail))
 exact ⟨_,rfl,rfl⟩
theorem tcmp_ev (k s o l k' s' o' l') (hb:bulk (.mk k s o l)<1000000000) (hb':bulk (.mk k' s' o' l')<1000000000)
  (ih:∀ t∈l,∀ t'∈l',Fun C 52 [enc t,enc t'] (.int .i64 (cmpT t t'))):Fun C 52 [enc (.mk k s o l),enc (.mk k' s' o' l')] (.int .i64 (cmpT (.mk k s o l) (.mk k' s' o' l'))):=by
 refine Fun.of (FnEv.bodyL Tryz.func52 rfl ?_)
 have hlex:=cmpT_lex k s o l k' s' o' l'
 have z1:=tsize_fun _ hb
 have z2:=tsize_fun _ hb'
 rw [enc_mk] at z1 z2
 rw [enc_mk,enc_mk]
 generalize cmpT (.mk k s o l) (.mk k' s' o' l')=R0 at hlex ⊢
 have e1:=encs_len l
 have e2:=encs_len l'
 have b1:l.length<1000000000:=by have:=len_bulks l;simp only [bulk] at hb;omega
 have b2:l'.length<1000000000:=by have:=len_bulks l';simp only [bulk] at hb';omega
 have hll:cmpN (encs l).length (encs l').length=0→l.length=l'.length:=fun h=>by have:=cmpN_zero h;omega
 rw [← e1,← e2] at hlex
 (repeat' (first | refine EvOps.nil ?_ | (apply R.assign;exact rfl) | (apply R.box;exact rfl;exact rfl;exact rfl;exact .nil) | (apply R.box;exact rfl;exact rfl;exact rfl;exact (.cons .nil)) | refine Ev.seq ?_ | refine Ev.region ?_ | refine Ev.regionD ?_ | (apply D.loadA T6;exact (by first | exact rfl | assumption);exact rfl;exact rfl;exact rfl;exact rfl;exact rfl;exact (by repeat constructor)) | refine thenQ.normal ?_ | fail))
 refine D.callP rfl rfl rfl rfl (by simp [isVals,isVal]) rfl rfl (by simpa [nrms,nrm,nrms_encs] using z1) ?_
 (repeat' (first | (apply D.loadA T6;exact (by first | exact rfl | assumption);exact rfl;exact rfl;exact rfl;exact rfl;exact rfl;exact (by repeat constructor)) | fail))
 refine D.callP rfl rfl rfl rfl (by simp [isVals,isVal]) rfl rfl (by simpa [nrms,nrm,nrms_encs] using z2) ?_
 refine D.callP rfl rfl rfl rfl rfl rfl rfl (sign_fun _ _) ?_
 generalize cmpN (size (.mk k s o l)) (size (.mk k' s' o' l'))=X1 at hlex ⊢
 (repeat' (first | refine EvOps.nil ?_ | (apply R.move;exact rfl) | (apply R.assign;exact rfl) | (apply R.load1 T6;exact rfl;exact rfl;exact rfl;exact rfl) | (apply R.fieldAddr T6;exact rfl;exact rfl;exact rfl;exact rfl) | (apply R.cmp;exact rfl;exact rfl;exact rfl;all_goals intro hc;all_goals (try (exfalso;omega))) | refine Ev.seq ?_ | refine Ev.region ?_ | refine EvD.nil ?_ | (apply D.assign;exact rfl) | (apply Ev.condB;exact rfl) | refine Ev.skip ?_ | refine Ev.block ?_ | refine thenQ.normal ?_ | fail))
 all_goals try (refine R.call rfl rfl (CallEv.pure rfl rfl (sign_fun k k') ?_);generalize cmpN k k'=X2 at hlex ⊢;(repeat' (first | refine EvOps.nil ?_ | (apply R.move;exact rfl) | (apply R.assign;exact rfl) | (apply R.load1 T6;exact rfl;exact rfl;exact rfl;exact rfl) | (apply R.fieldAddr T6;exact rfl;exact rfl;exact rfl;exact rfl) | (apply R.cmp;exact rfl;exact rfl;exact rfl;all_goals intro hc;all_goals (try (exfalso;omega))) | refine Ev.seq ?_ | refine Ev.region ?_ | (apply Ev.condB;exact rfl) | refine Ev.skip ?_ | refine Ev.block ?_ | refine thenQ.normal ?_ | fail)))
 all_goals try (refine R.call rfl rfl (CallEv.pure rfl rfl (scmp_fun s s') ?_);generalize cmpS s s'=X3 at hlex ⊢;(repeat' (first | refine EvOps.nil ?_ | (apply R.move;exact rfl) | (apply R.assign;exact rfl) | (apply R.load1 T6;exact rfl;exact rfl;exact rfl;exact rfl) | (apply R.fieldAddr T6;exact rfl;exact rfl;exact rfl;exact rfl) | (apply R.cmp;exact rfl;exact rfl;exact rfl;all_goals intro hc;all_goals (try (exfalso;omega))) | refine Ev.seq ?_ | refine Ev.region ?_ | (apply Ev.condB;exact rfl) | refine Ev.skip ?_ | refine Ev.block ?_ | refine thenQ.normal ?_ | fail)))
 all_goals try (refine R.call rfl rfl (CallEv.pure rfl rfl (sign_fun o o') ?_);generalize cmpN o o'=X4 at hlex ⊢;(repeat' (first | refine EvOps.nil ?_ | (apply R.move;exact rfl) | (apply R.assign;exact rfl) | (apply R.load1 T6;exact rfl;exact rfl;exact rfl;exact rfl) | (apply R.fieldAddr T6;exact rfl;exact rfl;exact rfl;exact rfl) | (apply R.cmp;exact rfl;exact rfl;exact rfl;all_goals intro hc;all_goals (try (exfalso;omega))) | (apply R.lenS T6;exact rfl;exact rfl) | refine Ev.seq ?_ | refine Ev.region ?_ | (apply Ev.condB;exact rfl) | refine Ev.skip ?_ | refine Ev.block ?_ | refine thenQ.normal ?_ | fail)))
 all_goals try (refine R.call rfl rfl (CallEv.pure rfl rfl (sign_fun (encs l).length (encs l').length) ?_);generalize cmpN (encs l).length (encs l').length=X5 at hlex hll ⊢;(repeat' (first | refine EvOps.nil ?_ | (apply R.assign;exact rfl) | refine Ev.seq ?_ | refine Ev.region ?_ | refine Ev.block ?_ | refine thenQ.normal ?_ | fail)))
 all_goals (
  refine Ev.loop (I:=fun k'' st=>∃ (i:Nat) (c:Int) (ρ':Nat→PV),st=⟨al [(2,.ptr 0 0 0 0),(3,.ptr 1 0 0 0),(5,.int .i64 c),(6,.int .i64 i)] ρ',[⟨.m,0,4,[.agg [.int .i64 k,.str s,.int .i64 o,.snap false (encs l)]]⟩,⟨.m,0,4,[.agg [.int .i64 k',.str s',.int .i64 o',.snap false (encs l')]]⟩]⟩∧k''+i=l.length∧R0=lexI c (cmps (l.drop i) (l'.drop i))∧(c=0→l.length=l'.length)) l.length ?_ ?_
  ·refine ⟨0,_,_,St.keep ⟨rfl,rfl,rfl,rfl,trivial⟩,rfl,?_,?_⟩
   ·rw [hlex];unfold lexI;simp only [List.drop_zero];(repeat' split) <;> first | rfl | omega
   ·first | exact hll | (intro h;exfalso;omega)
  ·clear hlex hll
   rintro k'' _ ⟨i,c,ρ',rfl,hk,hb2,hll⟩
   (repeat' (first | refine EvOps.nil ?_ | (apply R.gOn;exact rfl;exact rfl;exact rfl) | (apply R.gOff;exact rfl;exact rfl;exact rfl) | (apply R.move;exact rfl) | (apply R.assign;exact rfl) | (apply R.pickT;exact rfl;exact rfl) | (apply R.pickF;exact rfl;exact rfl) | (apply R.load1 T6;exact rfl;exact rfl;exact rfl;exact rfl) | (apply R.fieldAddr T6;exact rfl;exact rfl;exact rfl;exact rfl) | (apply R.cmp;exact rfl;exact rfl;exact rfl;all_goals intro hc;all_goals (try (exfalso;omega))) | (apply R.lenS T6;exact rfl;exact rfl) | refine Ev.seq ?_ | refine Ev.region ?_ | refine Ev.regionD ?_ | (apply D.move;exact rfl) | (apply D.fieldAddr T6;exact rfl;exact rfl;exact rfl;exact rfl) | (apply D.load1 T6;exact (by first | exact rfl | assumption);exact rfl;exact rfl;exact rfl;exact rfl;exact rfl) | (apply Ev.condB;exact rfl) | refine Ev.ret ?_ | refine Ev.skip ?_ | refine Ev.exit ?_ | refine Ev.block ?_ | refine thenQ.normal ?_ | refine thenQ.exit ?_ | refine blockQ.hit ?_ | refine loopQ.exit ?_ | (apply bodyQ.ret;exact rfl) | fail))
   ·have hll:=hll (by assumption)
    obtain ⟨k1,s1,o1,l1,hmem,hat,hd,hil,_⟩:=encs_at' hc
    obtain ⟨k2,s2,o2,l2,hmem',hat',hd',hil',_⟩:=encs_at' (l:=l') (i:=i) (by omega)
    have hih:=ih _ hmem _ hmem'
    rw [enc_mk,enc_mk] at hih
    refine D.indexS T6 rfl rfl rfl rfl rfl hat rfl rfl ?_
    (repeat' (first | (apply D.move;exact rfl) | (apply D.fieldAddr T6;exact rfl;exact rfl;exact rfl;exact rfl) | (apply D.load1 T6;exact (by first | exact rfl | assumption);exact rfl;exact rfl;exact rfl;exact rfl;exact rfl) | (apply D.loadA T6;exact (by first | exact rfl | assumption);exact rfl;exact rfl;exact rfl;exact rfl;exact rfl;exact (by repeat constructor)) | fail))
    refine D.indexS T6 rfl rfl rfl rfl rfl hat' rfl rfl ?_
    (repeat' (first | (apply D.loadA T6;exact (by first | exact rfl | assumption);exact rfl;exact rfl;exact rfl;exact rfl;exact rfl;exact (by repeat constructor)) | fail))
    refine D.callP rfl rfl rfl rfl (by simp [isVals,isVal]) rfl rfl (by simpa [nrms,nrm,nrms_encs] using hih) ?_
    (repeat' (first | refine EvOps.nil ?_ | (apply R.move;exact rfl) | (apply R.assign;exact rfl) | (apply R.arith;exact rfl;exact rfl;exact rfl;exact (wrapI (by omega) (by omega))) | refine Ev.region ?_ | refine EvD.nil ?_ | (apply D.assign;exact rfl) | refine thenQ.normal ?_ | refine blockQ.normal ?_ | refine loopQ.normal ?_ | fail))
    refine ⟨k'' - 1,by omega,i+1,_,_,St.keep ⟨rfl,rfl,rfl,rfl,trivial⟩,by omega,?_,fun _=>hll⟩
    have hc0:c=0:=by assumption
    rw [hb2,hc0,hd,hd',cmps_lex];rfl
   ·refine ⟨_,rfl,congrArg (PV.int .i64) ?_⟩
    have hc0:c=0:=by assumption
    rw [hb2,hc0,encs_end hc,cmps];rfl
   ·refine ⟨_,rfl,congrArg (PV.int .i64) ?_⟩
    rw [hb2,lexI,if_pos (by assumption)])
theorem tcmp_fun (t t':Tm) (hb:bulk t<1000000000) (hb':bulk t'<1000000000):Fun C 52 [enc t,enc t'] (.int .i64 (cmpT t t')):=by
 induction t using Tm.ind generalizing t' with
 | h k s o l ih=>
  obtain ⟨k',s',o',l'⟩:=t'
  refine tcmp_ev k s o l k' s' o' l' hb hb' (fun t ht t' ht'=>ih t ht t' ?_ ?_)
  ·have:=bulk_mem ht;simp only [bulk] at hb;omega
  ·have:=bulk_mem ht';simp only [bulk] at hb';omega
end Go.Pm
end
section
set_option maxRecDepth 4000
set_option maxHeartbeats 4000000
namespace Go.Pm
open Go.Proofs
attribute [local irreducible] thenQ blockQ loopQ bodyQ Ev EvOps CallEv FnEv EvD
end Go.Pm
end
section
set_option maxRecDepth 4000
set_option maxHeartbeats 4000000
namespace Go.Pm
open Go.Proofs
attribute [local irreducible] thenQ blockQ loopQ bodyQ Ev EvOps CallEv FnEv EvD
theorem encP_mk (k s o l n):encP (.mk k s o l,n)=.agg [.int .i64 k,.str s,.int .i64 o,.snap false (encs l),.int .i64 n]:=rfl
theorem encPs_len (l:List Pw):(encPs l).length=l.length:=by simp [encPs]
theorem encPs_vals (l:List Pw):isVals (encPs l)=true:=by
 induction l with
 | nil=>rfl
 | cons p l ih=>
  obtain ⟨⟨k,s,o,l'⟩,n⟩:=p
  simp only [encPs,List.map_cons,isVals] at *
  rw [ih];rfl
theorem nrms_encPs (l:List Pw):nrms (encPs l)=encPs l:=by
 induction l with
 | nil=>rfl
 | cons p l ih=>
  obtain ⟨⟨k,s,o,l'⟩,n⟩:=p
  simp only [encPs,List.map_cons,nrms] at *
  rw [ih,encP_mk];simp [nrm,nrms,nrms_encs]
end Go.Pm
end
section
set_option maxRecDepth 4000
set_option maxHeartbeats 4000000
namespace Go.Pm
open Go.Proofs
attribute [local irreducible] thenQ blockQ loopQ bodyQ Ev EvOps CallEv FnEv EvD
theorem wrapU {n:Int} (h1:0≤n) (h2:n≤9223372036854775807):IntKind.u64.wrap n=n:=by
 have:IntKind.u64.wrap n=n % 18446744073709551616:=by simp [IntKind.wrap,IntKind.bits,IntKind.signed]
 rw [this];omega
end Go.Pm
end
section
set_option maxRecDepth 4000
set_option maxHeartbeats 4000000
namespace Go.Pm
open Go.Proofs
attribute [local irreducible] thenQ blockQ loopQ bodyQ Ev EvOps CallEv FnEv EvD
theorem encs_ok (l:List Tm):((encs l).all fun v=>decide ((cells v).length=4) && (cells v).all oneC)=true:=by
 rw [List.all_eq_true]
 intro v hv
 rw [encs_eq] at hv
 obtain ⟨⟨k,s,o,l'⟩,_,rfl⟩:=List.mem_map.1 hv
 rw [enc_mk];rfl
end Go.Pm
end
section
set_option maxRecDepth 4000
set_option maxHeartbeats 4000000
namespace Go.Pm
open Go.Proofs
attribute [local irreducible] thenQ blockQ loopQ bodyQ Ev EvOps CallEv FnEv EvD
end Go.Pm
end
section
set_option maxRecDepth 4000
set_option maxHeartbeats 4000000
namespace Go.Pm
open Go.Proofs
attribute [local irreducible] thenQ blockQ loopQ bodyQ Ev EvOps CallEv FnEv EvD
end Go.Pm
end
section
set_option maxRecDepth 4000
set_option maxHeartbeats 4000000
namespace Go.Pm
open Go.Proofs
attribute [local irreducible] thenQ blockQ loopQ bodyQ Ev EvOps CallEv FnEv EvD
structure CkH (H:AHeap) (n d:Int):Prop where
 f1:H[1]?=some ⟨.m,0,1,[.int .i64 n]⟩
 f2:H[2]?=some ⟨.m,0,1,[.int .i64 d]⟩
 hv:HV H
 len:3≤H.length
def CkP (H:AHeap) (t:Tm) (lvl n d:Int) (r:PV) (h':AHeap):Prop:=r=.int .i64 (nodes t)∧∃ n' d',CkH h' n' d'∧H.length≤h'.length∧(∀ j,j≠1→j≠2→j<H.length→h'[j]?=H[j]?)∧(nodes t=0→n'=n+size t∧d'=max d (lvl - 1+depth t))
theorem CkH.app {H:AHeap} {n d:Int} (c:CkH H n d) {K:AHeap} (hK:HV K):CkH (H++K) n d:=by
 have:=c.len
 exact ⟨by rw [List.getElem?_append_left (by omega)];exact c.f1,by rw [List.getElem?_append_left (by omega)];exact c.f2,c.hv.app hK,by simp;omega⟩
theorem CkH.set1 {H:AHeap} {n d:Int} (c:CkH H n d) (n':Int):CkH (H.set 1 ⟨.m,0,1,[.int .i64 n']⟩) n' d:=by
 have:=c.len
 exact ⟨List.getElem?_set_self (by omega),by rw [List.getElem?_set_ne (by omega)];exact c.f2,c.hv.set 1 (by simp) rfl,by simp;omega⟩
theorem CkH.set2 {H:AHeap} {n d:Int} (c:CkH H n d) (d':Int):CkH (H.set 2 ⟨.m,0,1,[.int .i64 d']⟩) n d':=by
 have:=c.len
 exact ⟨by rw [List.getElem?_set_ne (by omega)];exact c.f1,List.getElem?_set_self (by omega),c.hv.set 2 (by simp) rfl,by simp;omega⟩
theorem CkH.take {H:AHeap} {n d:Int} (c:CkH H n d) (m:Nat) (hm:3≤m):CkH (H.take m) n d:=by
 have:=c.len
 exact ⟨by rw [List.getElem?_take_of_lt (by omega)];exact c.f1,by rw [List.getElem?_take_of_lt (by omega)];exact c.f2,fun o ho=>c.hv o (List.mem_of_mem_take ho),by simp;omega⟩
theorem check_ev (k s o l) (hb:bulk (.mk k s o l)<1000000000)
  (ih:∀ t∈l,∀ (H:AHeap) (lvl n d:Int),CkH H n d→0≤n→n+size t≤1000000000→0≤d→d≤1000000000→0≤lvl→lvl+depth t≤1000000000→FnEv C 152 [enc t,.int .i64 lvl,.ptr 1 0 0 0,.ptr 2 0 0 0] H (CkP H t lvl n d))
  (H:AHeap) (lvl n d:Int) (hH:CkH H n d) (n0:0≤n) (n1:n+size (.mk k s o l)≤1000000000) (d0:0≤d) (d1:d≤1000000000) (l0:0≤lvl) (l1:lvl+depth (.mk k s o l)≤1000000000) :
  FnEv C 152 [enc (.mk k s o l),.int .i64 lvl,.ptr 1 0 0 0,.ptr 2 0 0 0] H (CkP H (.mk k s o l) lvl n d):=by
 refine FnEv.bodyL Tryz.func152 rfl ?_
 rw [enc_mk]
 have hlen:=len_bulks l
 have hel:=encs_len l
 have hsz:=sizes_bulk l
 have hds:=depths_sizes l
 have hbs:s.size<1000000000:=by simp only [bulk] at hb;omega
 have hbl:bulks l<1000000000:=by simp only [bulk] at hb;omega
 simp only [size] at n1
 simp only [depth] at l1
 have hHl:=hH.len
 (repeat' (first | refine EvOps.nil ?_ | (apply R.move;exact rfl) | (apply R.assign;exact rfl) | (apply R.boxN;exact rfl;exact rfl;exact rfl) | (apply R.nilCheck;exact rfl) | refine Ev.seq ?_ | refine Ev.region ?_ | refine thenQ.normal ?_ | fail))
 obtain ⟨H1,hH1⟩:∃ x,x=H++[⟨.m,0,4,[.agg [.int .i64 k,.str s,.int .i64 o,.snap false (encs l)]]⟩]:=⟨_,rfl⟩
 have c1:CkH H1 n d:=by rw [hH1];exact hH.app (HV.one rfl)
 have b1:H1[H.length]?=some ⟨.m,0,4,[.agg [.int .i64 k,.str s,.int .i64 o,.snap false (encs l)]]⟩:=by rw [hH1];simp
 have g1:H1.length=H.length+1:=by rw [hH1];simp
 have p1:∀ j,j<H.length→H1[j]?=H[j]?:=fun j hj=>by rw [hH1,List.getElem?_append_left hj]
 refine EvOps.heap hH1.symm ?_
 clear hH1
 have u1:=c1.f1
 have u2:=c1.f2
 (repeat' (first | (apply R.arith;exact rfl;exact rfl;exact rfl;exact (wrapI (by omega) (by omega))) | (apply R.load1H T6;exact rfl;exact rfl;exact rfl;exact (by assumption);exact rfl) | (apply R.nilCheck;exact rfl) | fail))
 refine R.storeH T6 (n:=0) (o:=⟨.m,0,1,[.int .i64 n]⟩) (i:=0) (e:=.int .i64 n) rfl rfl rfl (getM_at u1 rfl (by simp)) rfl rfl rfl rfl (Nat.le_refl 1) ?_
 obtain ⟨H2,hH2⟩:∃ x,x=H1.set 1 ⟨.m,0,1,[.int .i64 (n+1)]⟩:=⟨_,rfl⟩
 have c2:CkH H2 (n+1) d:=by rw [hH2];exact c1.set1 _
 have b2:H2[H.length]?=some ⟨.m,0,4,[.agg [.int .i64 k,.str s,.int .i64 o,.snap false (encs l)]]⟩:=by rw [hH2,List.getElem?_set_ne (by omega)];exact b1
 have g2:H2.length=H.length+1:=by rw [hH2];simp [g1]
 have p2:∀ j,j≠1→j<H.length→H2[j]?=H[j]?:=fun j h1 hj=>by rw [hH2,List.getElem?_set_ne (by omega)];exact p1 j hj
 refine EvOps.heap hH2.symm ?_
 clear hH2 c1 b1 g1 p1 u1 u2
 have u1:=c2.f1
 have u2:=c2.f2
 (repeat' (first | refine EvOps.nil ?_ | (apply R.move;exact rfl) | (apply R.max;exact rfl;exact rfl) | (apply R.load1H T6;exact rfl;exact rfl;exact rfl;exact (by assumption);exact rfl) | (apply R.nilCheck;exact rfl) | refine Ev.seq ?_ | refine Ev.region ?_ | refine thenQ.normal ?_ | fail))
 refine R.storeH T6 (n:=0) (o:=⟨.m,0,1,[.int .i64 d]⟩) (i:=0) (e:=.int .i64 d) rfl rfl rfl (getM_at u2 rfl (by simp)) rfl rfl rfl rfl (Nat.le_refl 1) ?_
 obtain ⟨H3,hH3⟩:∃ x,x=H2.set 2 ⟨.m,0,1,[.int .i64 (max d lvl)]⟩:=⟨_,rfl⟩
 have c3:CkH H3 (n+1) (max d lvl):=by rw [hH3];exact c2.set2 _
 have b3:H3[H.length]?=some ⟨.m,0,4,[.agg [.int .i64 k,.str s,.int .i64 o,.snap false (encs l)]]⟩:=by rw [hH3,List.getElem?_set_ne (by omega)];exact b2
 have g3:H3.length=H.length+1:=by rw [hH3];simp [g2]
 have p3:∀ j,j≠1→j≠2→j<H.length→H3[j]?=H[j]?:=fun j h1 h2 hj=>by rw [hH3,List.getElem?_set_ne (by omega)];exact p2 j h1 hj
 refine EvOps.heap hH3.symm ?_
 clear hH3 c2 b2 g2 p2 u1 u2
 have bad:∀ e:Int,node (.mk k s o l)=e→e≠0→CkP H (.mk k s o l) lvl n d (.int .i64 e) H3:=fun e h1 h2=>by
  have:nodes (.mk k s o l)=e:=by rw [nodes,if_pos (by rw [h1];exact h2),h1]
  exact ⟨by rw [this],_,_,c3,by omega,p3,fun h=>absurd (this ▸ h) h2⟩
 (repeat' (first | refine EvOps.nil ?_ | (apply R.gOn;exact rfl;exact rfl;exact rfl) | (apply R.gOff;exact rfl;exact rfl;exact rfl) | (apply R.move;exact rfl) | (apply R.assign;exact rfl) | (apply R.pickT;exact rfl;exact rfl) | (apply R.pickF;exact rfl;exact rfl) | (apply R.fieldAddr T6;exact rfl;exact rfl;exact rfl;exact rfl) | (apply R.cmp;exact rfl;exact rfl;exact rfl;all_goals intro hc;all_goals (try (exfalso;omega))) | (apply R.lenS T6;exact rfl;exact rfl) | (apply R.load1H T6;exact rfl;exact rfl;exact rfl;exact (by assumption);exact rfl) | refine Ev.seq ?_ | refine Ev.region ?_ | (apply Ev.condB;exact rfl) | refine Ev.ret ?_ | refine Ev.skip ?_ | refine Ev.block ?_ | refine thenQ.normal ?_ | refine thenQ.ret ?_ | refine blockQ.normal ?_ | refine blockQ.ret ?_ | (apply bodyQ.ret;exact rfl) | fail))
 all_goals try (refine bad 1 ?_ (by decide);rw [node,if_pos (by omega)])
 all_goals (refine R.call rfl rfl (CallEv.pure rfl rfl (isName_fun s hbs) ?_);cases hN:isName s <;> (repeat' (first | refine EvOps.nil ?_ | (apply R.move;exact rfl) | (apply R.assign;exact rfl) | (apply R.fieldAddr T6;exact rfl;exact rfl;exact rfl;exact rfl) | (apply R.cmp;exact rfl;exact rfl;exact rfl;all_goals intro hc;all_goals (try (exfalso;omega))) | (apply R.not;exact rfl;exact rfl) | (apply R.lenS T6;exact rfl;exact rfl) | (apply R.load1H T6;exact rfl;exact rfl;exact rfl;exact (by assumption);exact rfl) | refine Ev.seq ?_ | refine Ev.region ?_ | (apply Ev.condB;exact rfl) | refine Ev.ret ?_ | refine Ev.skip ?_ | refine Ev.block ?_ | refine thenQ.normal ?_ | refine thenQ.ret ?_ | (apply bodyQ.ret;exact rfl) | fail)))
 all_goals try (refine bad 2 ?_ (by decide);rw [node,if_neg (by omega),if_pos hN])
 all_goals try (refine bad 3 ?_ (by decide);rw [node,if_neg (by omega),if_neg (by rw [hN];simp),if_pos (by omega)])
 all_goals (
  have hno:node (.mk k s o l)=0:=by rw [node,if_neg (by omega),if_neg (by rw [hN];simp),if_neg (by omega)]
  have h0:nodes (.mk k s o l)=nodess l:=by rw [nodes,if_neg (by rw [hno];simp)]
  clear bad hc
  refine Ev.loop (I:=fun k' st=>∃ (i:Nat) (Hc:AHeap) (nc dc:Int) (ρ':Nat→PV),st=⟨al [(1,.int .i64 lvl),(2,.ptr 1 0 0 0),(3,.ptr 2 0 0 0),(4,.ptr H.length 0 0 0),(57,.snap false (encs l)),(58,.int .i64 (encs l).length),(59,.int .i64 i)] ρ',Hc⟩∧k'+i=l.length ∧
   CkH Hc nc dc∧Hc[H.length]?=some ⟨.m,0,4,[.agg [.int .i64 k,.str s,.int .i64 o,.snap false (encs l)]]⟩∧H.length<Hc.length∧(∀ j,j≠1→j≠2→j<H.length→Hc[j]?=H[j]?)∧0≤nc∧nc+sizes (l.drop i)=n+1+sizes l∧lvl≤dc∧dc≤1000000000∧max dc (lvl+depths (l.drop i))=max d (lvl+depths l)∧nodess l=nodess (l.drop i)) l.length ?_ ?_
  ·exact ⟨0,H3,_,_,_,St.keep ⟨rfl,rfl,rfl,rfl,rfl,rfl,rfl,trivial⟩,rfl,c3,b3,by omega,p3,by omega,rfl,by omega,by omega,by simp only [List.drop_zero];omega,rfl⟩
  ·clear c3 b3 g3 p3
   rintro k' _ ⟨i,Hc,nc,dc,ρ',rfl,hk,c4,b4,g4,p4,m0,m1,m2,m3,m4,hb'⟩
   (repeat' (first | refine EvOps.nil ?_ | (apply R.assign;exact rfl) | (apply R.cmp;exact rfl;exact rfl;exact rfl;all_goals intro hc) | refine Ev.seq ?_ | refine Ev.region ?_ | (apply Ev.condB;exact rfl) | refine Ev.ret ?_ | refine Ev.skip ?_ | refine Ev.exit ?_ | refine Ev.block ?_ | refine thenQ.normal ?_ | refine thenQ.exit ?_ | refine blockQ.hit ?_ | refine loopQ.exit ?_ | (apply bodyQ.ret;exact rfl) | fail))
   ·obtain ⟨k1,s1,o1,l1',hmem,hat,hd,hil,_⟩:=encs_at' hc
    refine R.indexS T6 rfl rfl rfl rfl hat rfl rfl ?_
    have hdr:=sizes_bulk (l.drop (i+1))
    have hddr:=depths_sizes (l.drop (i+1))
    have hdm:=depths_mem _ hmem
    have hs1:=size_bulk (.mk k1 s1 o1 l1')
    have hp1:=depth_size (.mk k1 s1 o1 l1')
    rw [hd,sizes] at m1
    rw [hd,depths] at m4
    rw [hd,nodess] at hb'
    (repeat' (first | refine EvOps.nil ?_ | (apply R.move;exact rfl) | (apply R.loadA T6;exact rfl;exact rfl;exact rfl;exact rfl;exact (by repeat constructor)) | (apply R.arith;exact rfl;exact rfl;exact rfl;exact (wrapI (by omega) (by omega))) | (apply R.allocN T6;exact rfl;exact rfl;exact rfl) | (apply R.storeN T6;exact rfl;exact rfl;exact rfl;exact rfl;exact rfl;exact rfl) | (apply R.loadAN T6;exact rfl;exact rfl;exact rfl;exact (by repeat constructor)) | refine Ev.seq ?_ | refine Ev.region ?_ | refine thenQ.normal ?_ | fail))
    obtain ⟨H5,hH5⟩:∃ x,x=Hc++[⟨.m,0,4,[.agg [.int .i64 k1,.str s1,.int .i64 o1,.snap false (encs l1')]]⟩]:=⟨_,rfl⟩
    have c5:CkH H5 nc dc:=by rw [hH5];exact c4.app (HV.one rfl)
    have b5:H5[H.length]?=some ⟨.m,0,4,[.agg [.int .i64 k,.str s,.int .i64 o,.snap false (encs l)]]⟩:=by rw [hH5,List.getElem?_append_left (by omega)];exact b4
    have g5:H5.length=Hc.length+1:=by rw [hH5];simp
    have p5:∀ j,j≠1→j≠2→j<H.length→H5[j]?=H[j]?:=fun j h1 h2 hj=>by rw [hH5,List.getElem?_append_left (by omega)];exact p4 j h1 h2 hj
    have hih:=ih _ hmem H5 (lvl+1) nc dc c5 m0 (by omega) (by omega) m3 (by omega) (by omega)
    rw [enc_mk] at hih
    refine R.call rfl rfl (CallEv.openedV rfl hH5.symm rfl rfl hih ?_)
    rintro r h' ⟨rfl,n',d',c6,g6,p6,e6⟩
    refine ⟨c6.hv,fun _=>?_,fun hf=>Bool.noConfusion hf⟩
    have c7:=c6.take H5.length (by omega)
    have b7:(h'.take H5.length)[H.length]?=some ⟨.m,0,4,[.agg [.int .i64 k,.str s,.int .i64 o,.snap false (encs l)]]⟩:=by rw [List.getElem?_take_of_lt (by omega),p6 _ (by omega) (by omega) (by omega)];exact b5
    have g7:(h'.take H5.length).length=H5.length:=by simp;omega
    have p7:∀ j,j≠1→j≠2→j<H.length→(h'.take H5.length)[j]?=H[j]?:=fun j h1 h2 hj=>by rw [List.getElem?_take_of_lt (by omega),p6 j h1 h2 (by omega)];exact p5 j h1 h2 hj
    generalize h'.take H5.length=H7 at c7 b7 g7 p7 ⊢
    clear c6 p6
    (repeat' (first | refine EvOps.nil ?_ | (apply R.move;exact rfl) | (apply R.assign;exact rfl) | (apply R.cmp;exact rfl;exact rfl;exact rfl;all_goals intro hc) | (apply R.arith;exact rfl;exact rfl;exact rfl;exact (wrapI (by omega) (by omega))) | refine Ev.seq ?_ | refine Ev.region ?_ | (apply Ev.condB;exact rfl) | refine Ev.ret ?_ | refine Ev.skip ?_ | refine thenQ.normal ?_ | refine thenQ.ret ?_ | refine blockQ.normal ?_ | refine blockQ.ret ?_ | refine loopQ.normal ?_ | refine loopQ.ret ?_ | (apply bodyQ.ret;exact rfl) | fail))
    ·have hne:=hc
     rw [if_pos hne] at hb'
     exact ⟨by rw [h0,hb'];rfl,_,_,c7,by omega,p7,fun h=>absurd (by rw [← hb',← h0];exact h) hne⟩
    ·rw [if_neg (by assumption)] at hb'
     obtain ⟨e7,e8⟩:=e6 (by omega)
     exact ⟨k' - 1,by omega,i+1,H7,n',d',_,St.keep ⟨rfl,rfl,rfl,rfl,rfl,rfl,rfl,trivial⟩,by omega,c7,b7,by omega,p7,by omega,by omega,by omega,by omega,by omega,hb'⟩
   ·rw [encs_end hc] at hb' m1 m4
    simp only [sizes,depths,nodess] at hb' m1 m4
    refine ⟨by rw [h0,hb'];rfl,_,_,c4,by omega,p4,fun _=>⟨?_,?_⟩⟩
    ·simp only [size];omega
    ·simp only [depth];omega)
theorem check_fun (t:Tm) (hb:bulk t<1000000000):∀ (H:AHeap) (lvl n d:Int),CkH H n d→0≤n→n+size t≤1000000000→0≤d→d≤1000000000→0≤lvl→lvl+depth t≤1000000000→FnEv C 152 [enc t,.int .i64 lvl,.ptr 1 0 0 0,.ptr 2 0 0 0] H (CkP H t lvl n d):=by
 induction t using Tm.ind with
 | h k s o l ih=>exact check_ev k s o l hb (fun t ht=>ih t ht (by have:=bulk_mem ht;simp only [bulk] at hb;omega))
theorem valid_fun (t:Tm) (hb:bulk t<100000000):Fun C 98 [enc t] (.int .i64 (valid t)):=by
 have hck:=check_fun t (by omega)
 have hsz:=size_bulk t
 have hdp:=depth_size t
 obtain ⟨k,s,o,l⟩:=t
 refine Fun.of (FnEv.bodyL Tryz.func98 rfl ?_)
 rw [enc_mk] at hck ⊢
 (repeat' (first | refine EvOps.nil ?_ | (apply R.assign;exact rfl) | (apply R.box;exact rfl;exact rfl;exact rfl;exact .nil) | (apply R.alloc T6;exact rfl;exact rfl;exact rfl;exact (.cons .nil)) | (apply R.alloc T6;exact rfl;exact rfl;exact rfl;exact (.cons (.cons .nil))) | refine Ev.seq ?_ | refine Ev.region ?_ | refine thenQ.normal ?_ | fail))
 refine R.storeH T6 (n:=0) (o:=⟨.m,0,1,[.int .i64 0]⟩) (i:=0) (e:=.int .i64 0) rfl rfl rfl rfl rfl rfl rfl rfl (Nat.le_refl 1) ?_
 skip
 refine R.storeH T6 (n:=0) (o:=⟨.m,0,1,[.int .i64 0]⟩) (i:=0) (e:=.int .i64 0) rfl rfl rfl rfl rfl rfl rfl rfl (Nat.le_refl 1) ?_
 refine EvOps.heap (h':=[⟨.m,0,4,[.agg [.int .i64 k,.str s,.int .i64 o,.snap false (encs l)]]⟩,⟨.m,0,1,[.int .i64 0]⟩,⟨.m,0,1,[.int .i64 0]⟩]) rfl ?_
 (repeat' (first | refine EvOps.nil ?_ | (apply R.loadA T6;exact rfl;exact rfl;exact rfl;exact rfl;exact (by repeat constructor)) | refine Ev.seq ?_ | refine Ev.region ?_ | refine thenQ.normal ?_ | fail))
 have c0:CkH [⟨.m,0,4,[.agg [.int .i64 k,.str s,.int .i64 o,.snap false (encs l)]]⟩,⟨.m,0,1,[.int .i64 0]⟩,⟨.m,0,1,[.int .i64 0]⟩] 0 0:=⟨rfl,rfl,fun o ho=>by
  simp at ho
  rcases ho with rfl | rfl <;> exact ⟨by simp,rfl⟩,by simp⟩
 refine R.call rfl rfl (CallEv.openedV rfl rfl rfl rfl (hck _ 1 0 0 c0 (by omega) (by omega) (by omega) (by omega) (by omega) (by omega)) ?_)
 rintro r h' ⟨rfl,n',d',c6,g6,p6,e6⟩
 refine ⟨c6.hv,fun _=>?_,fun hf=>Bool.noConfusion hf⟩
 have c7:=c6.take 3 (Nat.le_refl 3)
 refine EvOps.heap (h':=h'.take 3) rfl ?_
 generalize h'.take 3=H7 at c7 ⊢
 have u1:=c7.f1
 have u2:=c7.f2
 clear c6 p6 g6 hck
 have hv:nodes (.mk k s o l)≠0→valid (.mk k s o l)=nodes (.mk k s o l):=fun h=>by rw [valid,if_pos h]
 have hv2:nodes (.mk k s o l)=0→valid (.mk k s o l)=if 400<size (.mk k s o l)∨40<depth (.mk k s o l) then 3 else 0:=fun h=>by rw [valid,if_neg (by omega)]
 (repeat' (first | refine EvOps.nil ?_ | (apply R.gOn;exact rfl;exact rfl;exact rfl) | (apply R.gOff;exact rfl;exact rfl;exact rfl) | (apply R.move;exact rfl) | (apply R.assign;exact rfl) | (apply R.pickT;exact rfl;exact rfl) | (apply R.pickF;exact rfl;exact rfl) | (apply R.cmp;exact rfl;exact rfl;exact rfl;all_goals intro hc) | (apply R.load1H T6;exact rfl;exact rfl;exact rfl;exact (by assumption);exact rfl) | refine Ev.seq ?_ | refine Ev.region ?_ | (apply Ev.condB;exact rfl) | refine Ev.ret ?_ | refine Ev.skip ?_ | refine thenQ.normal ?_ | refine thenQ.ret ?_ | (apply bodyQ.ret;exact rfl) | fail))
 ·exact ⟨_,rfl,by rw [hv (by assumption)];rfl⟩
 ·have h0:nodes (.mk k s o l)=0:=by omega
  obtain ⟨e7,e8⟩:=e6 h0
  exact ⟨_,rfl,by rw [hv2 h0,if_pos (by omega)];rfl⟩
 ·have h0:nodes (.mk k s o l)=0:=by omega
  obtain ⟨e7,e8⟩:=e6 h0
  exact ⟨_,rfl,by rw [hv2 h0,if_pos (by omega)];rfl⟩
 ·have h0:nodes (.mk k s o l)=0:=by omega
  obtain ⟨e7,e8⟩:=e6 h0
  exact ⟨_,rfl,by rw [hv2 h0,if_neg (by omega)];rfl⟩
end Go.Pm
end
