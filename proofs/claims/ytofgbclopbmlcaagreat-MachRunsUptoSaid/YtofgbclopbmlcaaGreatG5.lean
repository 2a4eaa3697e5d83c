/- Part 5 of the proof: FwTy Fw29 Base Num BaseLaw Fw30 Chip Pick Serial Drive Fw33 Drive2 DriveActs Bit Ref Fw35. No statement is handed in here; conditions: none. -/
import Derived.Test.YtofgbclopbmlcaaGreatG4
import Derived.Test.YtofgbclopbmlcaaGreatProg
import Derived.Laws.Bits64
namespace Go.Fw
open Go.Proofs
@[reducible] def ty1:TI:={ desc:=.other,size:=1,bytes:=8,zero:=[.imm .nilFunc],ety:=none }
@[reducible] def ty2:TI:={ desc:=(.int .i64),size:=1,bytes:=8,zero:=[.imm (.int .i64 0)],ety:=(some (.int .i64)) }
@[reducible] def ty3:TI:={ desc:=(.int .i64),size:=1,bytes:=8,zero:=[.imm (.int .i64 0)],ety:=(some (.int .i64)) }
@[reducible] def ty4:TI:={ desc:=.bool,size:=1,bytes:=1,zero:=[.imm (.bool false)],ety:=(some .bool) }
@[reducible] def ty5:TI:={ desc:=(.int .u8),size:=1,bytes:=1,zero:=[.imm (.int .u8 0)],ety:=(some (.int .u8)) }
@[reducible] def ty6:TI:={ desc:=(.int .u8),size:=1,bytes:=1,zero:=[.imm (.int .u8 0)],ety:=(some (.int .u8)) }
@[reducible] def ty7:TI:={ desc:=(.struct [(2,0),(3,1),(4,2),(6,3)]),size:=4,bytes:=24,zero:=[.imm (.int .i64 0),.imm (.int .i64 0),.imm (.bool false),.imm (.int .u8 0)],ety:=(some (.pair (.int .i64) (.pair (.int .i64) (.pair .bool (.int .u8))))) }
@[reducible] def ty8:TI:={ desc:=(.struct [(2,0),(3,1),(4,2),(6,3)]),size:=4,bytes:=24,zero:=[.imm (.int .i64 0),.imm (.int .i64 0),.imm (.bool false),.imm (.int .u8 0)],ety:=(some (.pair (.int .i64) (.pair (.int .i64) (.pair .bool (.int .u8))))) }
@[reducible] def ty9:TI:={ desc:=.str,size:=1,bytes:=16,zero:=[.imm (.string ByteArray.empty)],ety:=(some .str) }
@[reducible] def QG9:TI:={ desc:=.str,size:=1,bytes:=16,zero:=[.imm (.string ByteArray.empty)],ety:=(some .str) }
@[reducible] def QHa:TI:={ desc:=.str,size:=1,bytes:=16,zero:=[.imm (.string ByteArray.empty)],ety:=(some .str) }
@[reducible] def QHb:TI:={ desc:=(.int .u64),size:=1,bytes:=8,zero:=[.imm (.int .u64 0)],ety:=(some (.int .u64)) }
@[reducible] def QHc:TI:={ desc:=(.struct [(9,0),(12,1)]),size:=2,bytes:=24,zero:=[.imm (.string ByteArray.empty),.imm (.int .u64 0)],ety:=(some (.pair .str (.int .u64))) }
@[reducible] def QHd:TI:={ desc:=(.struct [(9,0),(12,1)]),size:=2,bytes:=24,zero:=[.imm (.string ByteArray.empty),.imm (.int .u64 0)],ety:=(some (.pair .str (.int .u64))) }
@[reducible] def QHe:TI:={ desc:=(.ptr 270),size:=1,bytes:=8,zero:=[.imm (.pointer none)],ety:=none }
@[reducible] def QHf:TI:={ desc:=(.ptr 273),size:=1,bytes:=8,zero:=[.imm (.pointer none)],ety:=none }
@[reducible] def QHg:TI:={ desc:=(.ptr 281),size:=1,bytes:=8,zero:=[.imm (.pointer none)],ety:=none }
@[reducible] def QHh:TI:={ desc:=(.struct [(17,0)]),size:=1,bytes:=8,zero:=[.imm (.pointer none)],ety:=none }
@[reducible] def QHi:TI:={ desc:=(.struct [(17,0)]),size:=1,bytes:=8,zero:=[.imm (.pointer none)],ety:=none }
@[reducible] def QHj:TI:={ desc:=.iface,size:=1,bytes:=16,zero:=[.imm .nilIface],ety:=none }
@[reducible] def QHk:TI:={ desc:=(.int .i32),size:=1,bytes:=4,zero:=[.imm (.int .i32 0)],ety:=(some (.int .i32)) }
@[reducible] def QHl:TI:={ desc:=(.slice 85),size:=1,bytes:=24,zero:=[.imm (.slice none 0 0)],ety:=(some (.sl (.pair (.pair .str (.pair (.pair .str (.pair (.sl (.pair (.int .i64) (.pair .str (.pair (.int .i64) (.sl (.pair (.int .i64) (.pair (.int .i64) (.pair (.int .i64) (.sl (.pair (.int .i64) (.pair (.int .i64) (.pair (.int .i64) (.int .i64))))))))))))) (.pair (.sl (.pair (.int .i64) (.pair (.int .i64) (.pair (.int .i64) (.sl (.pair (.int .i64) (.pair (.int .i64) (.pair (.int .i64) (.int .i64))))))))) (.pair (.sl (.pair (.int .i64) (.pair (.int .i64) (.pair (.int .i64) (.sl (.pair (.int .i64) (.pair (.int .i64) (.pair (.int .i64) (.int .i64))))))))) (.sl (.pair (.int .i64) (.pair (.int .i64) (.pair (.int .i64) (.sl (.pair (.int .i64) (.pair (.int .i64) (.pair (.int .i64) (.int .i64))))))))))))) (.pair (.sl (.pair .str (.pair (.int .i64) (.pair (.int .i64) (.pair (.int .i64) (.sl (.int .u8))))))) (.sl (.pair .str .str))))) (.pair (.pair (.int .i64) (.pair (.pair (.ints .i64 9) (.pair (.int .i64) (.pair (.int .i64) .bool))) (.pair (.sl (.pair (.sl (.int .i64)) (.sl (.int .u8)))) (.pair (.int .i64) (.pair (.int .i64) (.int .i64)))))) (.sl (.pair (.int .i64) (.pair .str (.int .i64)))))))) }
@[reducible] def QHm:TI:={ desc:=(.slice 28),size:=1,bytes:=24,zero:=[.imm (.slice none 0 0)],ety:=(some (.sl (.pair (.int .i64) (.pair .str (.pair (.int .i64) (.pair .str (.int .i64))))))) }
@[reducible] def QHn:TI:={ desc:=.other,size:=1,bytes:=8,zero:=[.imm .nilFunc],ety:=none }
@[reducible] def QHo:TI:={ desc:=(.int .i64),size:=1,bytes:=8,zero:=[.imm (.int .i64 0)],ety:=(some (.int .i64)) }
@[reducible] def QHp:TI:={ desc:=.other,size:=1,bytes:=8,zero:=[.imm .nilFunc],ety:=none }
@[reducible] def QHq:TI:={ desc:=(.struct [(3,0),(9,1),(3,2),(9,3),(3,4)]),size:=5,bytes:=56,zero:=[.imm (.int .i64 0),.imm (.string ByteArray.empty),.imm (.int .i64 0),.imm (.string ByteArray.empty),.imm (.int .i64 0)],ety:=(some (.pair (.int .i64) (.pair .str (.pair (.int .i64) (.pair .str (.int .i64)))))) }
@[reducible] def QHr:TI:={ desc:=(.struct [(3,0),(9,1),(3,2),(9,3),(3,4)]),size:=5,bytes:=56,zero:=[.imm (.int .i64 0),.imm (.string ByteArray.empty),.imm (.int .i64 0),.imm (.string ByteArray.empty),.imm (.int .i64 0)],ety:=(some (.pair (.int .i64) (.pair .str (.pair (.int .i64) (.pair .str (.int .i64)))))),cmp:=true }
@[reducible] def QHs:TI:={ desc:=.other,size:=1,bytes:=8,zero:=[.imm .nilFunc],ety:=none }
@[reducible] def QHt:TI:={ desc:=(.slice 165),size:=1,bytes:=24,zero:=[.imm (.slice none 0 0)],ety:=(some (.sl (.pair (.int .i64) (.pair .str (.pair (.int .i64) (.sl (.pair (.int .i64) (.pair (.int .i64) (.pair (.int .i64) (.sl (.pair (.int .i64) (.pair (.int .i64) (.pair (.int .i64) (.int .i64)))))))))))))) }
@[reducible] def QHu:TI:={ desc:=(.slice 172),size:=1,bytes:=24,zero:=[.imm (.slice none 0 0)],ety:=(some (.sl (.pair (.int .i64) (.pair (.int .i64) (.pair (.int .i64) (.sl (.pair (.int .i64) (.pair (.int .i64) (.pair (.int .i64) (.int .i64)))))))))) }
@[reducible] def QHv:TI:={ desc:=(.struct [(9,0),(30,1),(31,2),(31,3),(31,4)]),size:=5,bytes:=112,zero:=[.imm (.string ByteArray.empty),.imm (.slice none 0 0),.imm (.slice none 0 0),.imm (.slice none 0 0),.imm (.slice none 0 0)],ety:=(some (.pair .str (.pair (.sl (.pair (.int .i64) (.pair .str (.pair (.int .i64) (.sl (.pair (.int .i64) (.pair (.int .i64) (.pair (.int .i64) (.sl (.pair (.int .i64) (.pair (.int .i64) (.pair (.int .i64) (.int .i64))))))))))))) (.pair (.sl (.pair (.int .i64) (.pair (.int .i64) (.pair (.int .i64) (.sl (.pair (.int .i64) (.pair (.int .i64) (.pair (.int .i64) (.int .i64))))))))) (.pair (.sl (.pair (.int .i64) (.pair (.int .i64) (.pair (.int .i64) (.sl (.pair (.int .i64) (.pair (.int .i64) (.pair (.int .i64) (.int .i64))))))))) (.sl (.pair (.int .i64) (.pair (.int .i64) (.pair (.int .i64) (.sl (.pair (.int .i64) (.pair (.int .i64) (.pair (.int .i64) (.int .i64)))))))))))))) }
@[reducible] def QHw:TI:={ desc:=(.struct [(9,0),(30,1),(31,2),(31,3),(31,4)]),size:=5,bytes:=112,zero:=[.imm (.string ByteArray.empty),.imm (.slice none 0 0),.imm (.slice none 0 0),.imm (.slice none 0 0),.imm (.slice none 0 0)],ety:=(some (.pair .str (.pair (.sl (.pair (.int .i64) (.pair .str (.pair (.int .i64) (.sl (.pair (.int .i64) (.pair (.int .i64) (.pair (.int .i64) (.sl (.pair (.int .i64) (.pair (.int .i64) (.pair (.int .i64) (.int .i64))))))))))))) (.pair (.sl (.pair (.int .i64) (.pair (.int .i64) (.pair (.int .i64) (.sl (.pair (.int .i64) (.pair (.int .i64) (.pair (.int .i64) (.int .i64))))))))) (.pair (.sl (.pair (.int .i64) (.pair (.int .i64) (.pair (.int .i64) (.sl (.pair (.int .i64) (.pair (.int .i64) (.pair (.int .i64) (.int .i64))))))))) (.sl (.pair (.int .i64) (.pair (.int .i64) (.pair (.int .i64) (.sl (.pair (.int .i64) (.pair (.int .i64) (.pair (.int .i64) (.int .i64)))))))))))))) }
@[reducible] def QHx:TI:={ desc:=(.slice 54),size:=1,bytes:=24,zero:=[.imm (.slice none 0 0)],ety:=(some (.sl (.pair .str (.pair (.int .i64) (.pair (.int .i64) (.pair (.int .i64) (.sl (.int .u8)))))))) }
@[reducible] def QHy:TI:={ desc:=(.slice 114),size:=1,bytes:=24,zero:=[.imm (.slice none 0 0)],ety:=(some (.sl (.pair .str .str))) }
@[reducible] def QHz:TI:={ desc:=(.struct [(9,0),(33,1),(34,6),(35,7)]),size:=8,bytes:=176,zero:=[.imm (.string ByteArray.empty),.imm (.string ByteArray.empty),.imm (.slice none 0 0),.imm (.slice none 0 0),.imm (.slice none 0 0),.imm (.slice none 0 0),.imm (.slice none 0 0),.imm (.slice none 0 0)],ety:=(some (.pair .str (.pair (.pair .str (.pair (.sl (.pair (.int .i64) (.pair .str (.pair (.int .i64) (.sl (.pair (.int .i64) (.pair (.int .i64) (.pair (.int .i64) (.sl (.pair (.int .i64) (.pair (.int .i64) (.pair (.int .i64) (.int .i64))))))))))))) (.pair (.sl (.pair (.int .i64) (.pair (.int .i64) (.pair (.int .i64) (.sl (.pair (.int .i64) (.pair (.int .i64) (.pair (.int .i64) (.int .i64))))))))) (.pair (.sl (.pair (.int .i64) (.pair (.int .i64) (.pair (.int .i64) (.sl (.pair (.int .i64) (.pair (.int .i64) (.pair (.int .i64) (.int .i64))))))))) (.sl (.pair (.int .i64) (.pair (.int .i64) (.pair (.int .i64) (.sl (.pair (.int .i64) (.pair (.int .i64) (.pair (.int .i64) (.int .i64))))))))))))) (.pair (.sl (.pair .str (.pair (.int .i64) (.pair (.int .i64) (.pair (.int .i64) (.sl (.int .u8))))))) (.sl (.pair .str .str)))))) }
@[reducible] def QHA:TI:={ desc:=(.struct [(9,0),(33,1),(34,6),(35,7)]),size:=8,bytes:=176,zero:=[.imm (.string ByteArray.empty),.imm (.string ByteArray.empty),.imm (.slice none 0 0),.imm (.slice none 0 0),.imm (.slice none 0 0),.imm (.slice none 0 0),.imm (.slice none 0 0),.imm (.slice none 0 0)],ety:=(some (.pair .str (.pair (.pair .str (.pair (.sl (.pair (.int .i64) (.pair .str (.pair (.int .i64) (.sl (.pair (.int .i64) (.pair (.int .i64) (.pair (.int .i64) (.sl (.pair (.int .i64) (.pair (.int .i64) (.pair (.int .i64) (.int .i64))))))))))))) (.pair (.sl (.pair (.int .i64) (.pair (.int .i64) (.pair (.int .i64) (.sl (.pair (.int .i64) (.pair (.int .i64) (.pair (.int .i64) (.int .i64))))))))) (.pair (.sl (.pair (.int .i64) (.pair (.int .i64) (.pair (.int .i64) (.sl (.pair (.int .i64) (.pair (.int .i64) (.pair (.int .i64) (.int .i64))))))))) (.sl (.pair (.int .i64) (.pair (.int .i64) (.pair (.int .i64) (.sl (.pair (.int .i64) (.pair (.int .i64) (.pair (.int .i64) (.int .i64))))))))))))) (.pair (.sl (.pair .str (.pair (.int .i64) (.pair (.int .i64) (.pair (.int .i64) (.sl (.int .u8))))))) (.sl (.pair .str .str)))))) }
@[reducible] def QHB:TI:={ desc:=(.array 9 3),size:=9,bytes:=72,zero:=[.run .i64 9 (List.replicate 9 0)],ety:=(some (.ints .i64 9)),cmp:=true }
@[reducible] def QHC:TI:={ desc:=(.array 9 3),size:=9,bytes:=72,zero:=[.run .i64 9 (List.replicate 9 0)],ety:=(some (.ints .i64 9)),cmp:=true }
@[reducible] def QHD:TI:={ desc:=(.struct [(39,0),(3,9),(3,10),(4,11)]),size:=12,bytes:=96,zero:=[.run .i64 9 (List.replicate 9 0),.imm (.int .i64 0),.imm (.int .i64 0),.imm (.bool false)],ety:=(some (.pair (.ints .i64 9) (.pair (.int .i64) (.pair (.int .i64) .bool)))) }
@[reducible] def QHE:TI:={ desc:=(.struct [(39,0),(3,9),(3,10),(4,11)]),size:=12,bytes:=96,zero:=[.run .i64 9 (List.replicate 9 0),.imm (.int .i64 0),.imm (.int .i64 0),.imm (.bool false)],ety:=(some (.pair (.ints .i64 9) (.pair (.int .i64) (.pair (.int .i64) .bool)))),cmp:=true }
@[reducible] def QHF:TI:={ desc:=(.slice 57),size:=1,bytes:=24,zero:=[.imm (.slice none 0 0)],ety:=(some (.sl (.pair (.sl (.int .i64)) (.sl (.int .u8))))) }
@[reducible] def QHG:TI:={ desc:=(.struct [(3,0),(3,1),(3,2)]),size:=3,bytes:=24,zero:=[.imm (.int .i64 0),.imm (.int .i64 0),.imm (.int .i64 0)],ety:=(some (.pair (.int .i64) (.pair (.int .i64) (.int .i64)))) }
@[reducible] def QHH:TI:={ desc:=(.struct [(3,0),(3,1),(3,2)]),size:=3,bytes:=24,zero:=[.imm (.int .i64 0),.imm (.int .i64 0),.imm (.int .i64 0)],ety:=(some (.pair (.int .i64) (.pair (.int .i64) (.int .i64)))),cmp:=true }
@[reducible] def QHI:TI:={ desc:=(.struct [(3,0),(41,1),(42,13),(44,14)]),size:=17,bytes:=152,zero:=[.imm (.int .i64 0),.run .i64 9 (List.replicate 9 0),.imm (.int .i64 0),.imm (.int .i64 0),.imm (.bool false),.imm (.slice none 0 0),.imm (.int .i64 0),.imm (.int .i64 0),.imm (.int .i64 0)],ety:=(some (.pair (.int .i64) (.pair (.pair (.ints .i64 9) (.pair (.int .i64) (.pair (.int .i64) .bool))) (.pair (.sl (.pair (.sl (.int .i64)) (.sl (.int .u8)))) (.pair (.int .i64) (.pair (.int .i64) (.int .i64))))))) }
@[reducible] def QHJ:TI:={ desc:=(.struct [(3,0),(41,1),(42,13),(44,14)]),size:=17,bytes:=152,zero:=[.imm (.int .i64 0),.run .i64 9 (List.replicate 9 0),.imm (.int .i64 0),.imm (.int .i64 0),.imm (.bool false),.imm (.slice none 0 0),.imm (.int .i64 0),.imm (.int .i64 0),.imm (.int .i64 0)],ety:=(some (.pair (.int .i64) (.pair (.pair (.ints .i64 9) (.pair (.int .i64) (.pair (.int .i64) .bool))) (.pair (.sl (.pair (.sl (.int .i64)) (.sl (.int .u8)))) (.pair (.int .i64) (.pair (.int .i64) (.int .i64))))))) }
@[reducible] def QHK:TI:={ desc:=(.slice 86),size:=1,bytes:=24,zero:=[.imm (.slice none 0 0)],ety:=(some (.sl (.pair (.int .i64) (.pair .str (.int .i64))))) }
@[reducible] def QHL:TI:={ desc:=.other,size:=1,bytes:=8,zero:=[.imm .nilFunc],ety:=none }
@[reducible] def QHM:TI:={ desc:=(.slice 4),size:=1,bytes:=24,zero:=[.imm (.slice none 0 0)],ety:=(some (.sl .bool)) }
@[reducible] def QHN:TI:={ desc:=.other,size:=1,bytes:=8,zero:=[.imm .nilFunc],ety:=none }
@[reducible] def QHO:TI:={ desc:=.other,size:=1,bytes:=8,zero:=[.imm .nilFunc],ety:=none }
@[reducible] def QHP:TI:={ desc:=(.slice 5),size:=1,bytes:=24,zero:=[.imm (.slice none 0 0)],ety:=(some (.sl (.int .u8))) }
@[reducible] def QHQ:TI:={ desc:=(.struct [(9,0),(3,1),(3,2),(3,3),(52,4)]),size:=5,bytes:=64,zero:=[.imm (.string ByteArray.empty),.imm (.int .i64 0),.imm (.int .i64 0),.imm (.int .i64 0),.imm (.slice none 0 0)],ety:=(some (.pair .str (.pair (.int .i64) (.pair (.int .i64) (.pair (.int .i64) (.sl (.int .u8))))))) }
@[reducible] def QHR:TI:={ desc:=(.slice 3),size:=1,bytes:=24,zero:=[.imm (.slice none 0 0)],ety:=(some (.sl (.int .i64))) }
@[reducible] def QHS:TI:={ desc:=(.struct [(55,0),(52,1)]),size:=2,bytes:=48,zero:=[.imm (.slice none 0 0),.imm (.slice none 0 0)],ety:=(some (.pair (.sl (.int .i64)) (.sl (.int .u8)))) }
@[reducible] def QHT:TI:={ desc:=(.struct [(55,0),(52,1)]),size:=2,bytes:=48,zero:=[.imm (.slice none 0 0),.imm (.slice none 0 0)],ety:=(some (.pair (.sl (.int .i64)) (.sl (.int .u8)))) }
@[reducible] def QHU:TI:={ desc:=.other,size:=1,bytes:=8,zero:=[.imm .nilFunc],ety:=none }
@[reducible] def QHV:TI:={ desc:=.other,size:=1,bytes:=8,zero:=[.imm .nilFunc],ety:=none }
@[reducible] def QHW:TI:={ desc:=.other,size:=1,bytes:=8,zero:=[.imm .nilFunc],ety:=none }
@[reducible] def QHX:TI:={ desc:=.other,size:=1,bytes:=8,zero:=[.imm .nilFunc],ety:=none }
@[reducible] def QHY:TI:={ desc:=.other,size:=1,bytes:=8,zero:=[.imm .nilFunc],ety:=none }
@[reducible] def QHZ:TI:={ desc:=.other,size:=1,bytes:=8,zero:=[.imm .nilFunc],ety:=none }
@[reducible] def QH0:TI:={ desc:=(.slice 70),size:=1,bytes:=24,zero:=[.imm (.slice none 0 0)],ety:=(some (.sl (.pair (.int .i64) (.pair .str (.int .i64))))) }
@[reducible] def QH1:TI:={ desc:=.other,size:=1,bytes:=8,zero:=[.imm .nilFunc],ety:=none }
@[reducible] def QH2:TI:={ desc:=.other,size:=1,bytes:=8,zero:=[.imm .nilFunc],ety:=none }
@[reducible] def QH3:TI:={ desc:=(.struct [(3,0),(9,1),(3,2)]),size:=3,bytes:=32,zero:=[.imm (.int .i64 0),.imm (.string ByteArray.empty),.imm (.int .i64 0)],ety:=(some (.pair (.int .i64) (.pair .str (.int .i64)))) }
@[reducible] def QH4:TI:={ desc:=(.struct [(3,0),(9,1),(3,2)]),size:=3,bytes:=32,zero:=[.imm (.int .i64 0),.imm (.string ByteArray.empty),.imm (.int .i64 0)],ety:=(some (.pair (.int .i64) (.pair .str (.int .i64)))),cmp:=true }
@[reducible] def QH5:TI:={ desc:=.other,size:=1,bytes:=8,zero:=[.imm .nilFunc],ety:=none }
@[reducible] def QH6:TI:={ desc:=.other,size:=1,bytes:=8,zero:=[.imm .nilFunc],ety:=none }
@[reducible] def QH7:TI:={ desc:=.other,size:=1,bytes:=8,zero:=[.imm .nilFunc],ety:=none }
@[reducible] def QH8:TI:={ desc:=(.slice 46),size:=1,bytes:=24,zero:=[.imm (.slice none 0 0)],ety:=(some (.sl (.pair (.int .i64) (.pair (.pair (.ints .i64 9) (.pair (.int .i64) (.pair (.int .i64) .bool))) (.pair (.sl (.pair (.sl (.int .i64)) (.sl (.int .u8)))) (.pair (.int .i64) (.pair (.int .i64) (.int .i64)))))))) }
@[reducible] def QH9:TI:={ desc:=(.slice 65),size:=1,bytes:=24,zero:=[.imm (.slice none 0 0)],ety:=(some (.sl (.sl (.pair (.int .i64) (.pair .str (.int .i64)))))) }
@[reducible] def QIa:TI:={ desc:=.other,size:=1,bytes:=8,zero:=[.imm .nilFunc],ety:=none }
@[reducible] def QIb:TI:={ desc:=(.slice 55),size:=1,bytes:=24,zero:=[.imm (.slice none 0 0)],ety:=(some (.sl (.sl (.int .i64)))) }
@[reducible] def QIc:TI:={ desc:=(.struct [(37,0),(46,8),(47,25)]),size:=26,bytes:=352,zero:=[.imm (.string ByteArray.empty),.imm (.string ByteArray.empty),.imm (.slice none 0 0),.imm (.slice none 0 0),.imm (.slice none 0 0),.imm (.slice none 0 0),.imm (.slice none 0 0),.imm (.slice none 0 0),.imm (.int .i64 0),.run .i64 9 (List.replicate 9 0),.imm (.int .i64 0),.imm (.int .i64 0),.imm (.bool false),.imm (.slice none 0 0),.imm (.int .i64 0),.imm (.int .i64 0),.imm (.int .i64 0),.imm (.slice none 0 0)],ety:=(some (.pair (.pair .str (.pair (.pair .str (.pair (.sl (.pair (.int .i64) (.pair .str (.pair (.int .i64) (.sl (.pair (.int .i64) (.pair (.int .i64) (.pair (.int .i64) (.sl (.pair (.int .i64) (.pair (.int .i64) (.pair (.int .i64) (.int .i64))))))))))))) (.pair (.sl (.pair (.int .i64) (.pair (.int .i64) (.pair (.int .i64) (.sl (.pair (.int .i64) (.pair (.int .i64) (.pair (.int .i64) (.int .i64))))))))) (.pair (.sl (.pair (.int .i64) (.pair (.int .i64) (.pair (.int .i64) (.sl (.pair (.int .i64) (.pair (.int .i64) (.pair (.int .i64) (.int .i64))))))))) (.sl (.pair (.int .i64) (.pair (.int .i64) (.pair (.int .i64) (.sl (.pair (.int .i64) (.pair (.int .i64) (.pair (.int .i64) (.int .i64))))))))))))) (.pair (.sl (.pair .str (.pair (.int .i64) (.pair (.int .i64) (.pair (.int .i64) (.sl (.int .u8))))))) (.sl (.pair .str .str))))) (.pair (.pair (.int .i64) (.pair (.pair (.ints .i64 9) (.pair (.int .i64) (.pair (.int .i64) .bool))) (.pair (.sl (.pair (.sl (.int .i64)) (.sl (.int .u8)))) (.pair (.int .i64) (.pair (.int .i64) (.int .i64)))))) (.sl (.pair (.int .i64) (.pair .str (.int .i64))))))) }
@[reducible] def QId:TI:={ desc:=(.struct [(37,0),(46,8),(47,25)]),size:=26,bytes:=352,zero:=[.imm (.string ByteArray.empty),.imm (.string ByteArray.empty),.imm (.slice none 0 0),.imm (.slice none 0 0),.imm (.slice none 0 0),.imm (.slice none 0 0),.imm (.slice none 0 0),.imm (.slice none 0 0),.imm (.int .i64 0),.run .i64 9 (List.replicate 9 0),.imm (.int .i64 0),.imm (.int .i64 0),.imm (.bool false),.imm (.slice none 0 0),.imm (.int .i64 0),.imm (.int .i64 0),.imm (.int .i64 0),.imm (.slice none 0 0)],ety:=(some (.pair (.pair .str (.pair (.pair .str (.pair (.sl (.pair (.int .i64) (.pair .str (.pair (.int .i64) (.sl (.pair (.int .i64) (.pair (.int .i64) (.pair (.int .i64) (.sl (.pair (.int .i64) (.pair (.int .i64) (.pair (.int .i64) (.int .i64))))))))))))) (.pair (.sl (.pair (.int .i64) (.pair (.int .i64) (.pair (.int .i64) (.sl (.pair (.int .i64) (.pair (.int .i64) (.pair (.int .i64) (.int .i64))))))))) (.pair (.sl (.pair (.int .i64) (.pair (.int .i64) (.pair (.int .i64) (.sl (.pair (.int .i64) (.pair (.int .i64) (.pair (.int .i64) (.int .i64))))))))) (.sl (.pair (.int .i64) (.pair (.int .i64) (.pair (.int .i64) (.sl (.pair (.int .i64) (.pair (.int .i64) (.pair (.int .i64) (.int .i64))))))))))))) (.pair (.sl (.pair .str (.pair (.int .i64) (.pair (.int .i64) (.pair (.int .i64) (.sl (.int .u8))))))) (.sl (.pair .str .str))))) (.pair (.pair (.int .i64) (.pair (.pair (.ints .i64 9) (.pair (.int .i64) (.pair (.int .i64) .bool))) (.pair (.sl (.pair (.sl (.int .i64)) (.sl (.int .u8)))) (.pair (.int .i64) (.pair (.int .i64) (.int .i64)))))) (.sl (.pair (.int .i64) (.pair .str (.int .i64))))))) }
@[reducible] def QIe:TI:={ desc:=(.struct [(3,0),(9,1),(3,2)]),size:=3,bytes:=32,zero:=[.imm (.int .i64 0),.imm (.string ByteArray.empty),.imm (.int .i64 0)],ety:=(some (.pair (.int .i64) (.pair .str (.int .i64)))),cmp:=true }
@[reducible] def QIf:TI:={ desc:=.other,size:=1,bytes:=8,zero:=[.imm .nilFunc],ety:=none }
@[reducible] def QIg:TI:={ desc:=.other,size:=1,bytes:=8,zero:=[.imm .nilFunc],ety:=none }
@[reducible] def QIh:TI:={ desc:=(.ptr 148),size:=1,bytes:=8,zero:=[.imm (.pointer none)],ety:=none }
@[reducible] def QIi:TI:={ desc:=.other,size:=1,bytes:=8,zero:=[.imm .nilFunc],ety:=none }
@[reducible] def QIj:TI:={ desc:=.other,size:=1,bytes:=8,zero:=[.imm .nilFunc],ety:=none }
@[reducible] def QIk:TI:={ desc:=.other,size:=1,bytes:=8,zero:=[.imm .nilFunc],ety:=none }
@[reducible] def QIl:TI:={ desc:=.other,size:=1,bytes:=8,zero:=[.imm .nilFunc],ety:=none }
@[reducible] def QIm:TI:={ desc:=.other,size:=1,bytes:=8,zero:=[.imm .nilFunc],ety:=none }
@[reducible] def QIn:TI:={ desc:=.other,size:=1,bytes:=8,zero:=[.imm .nilFunc],ety:=none }
@[reducible] def QEK:TI:={ desc:=.other,size:=1,bytes:=8,zero:=[.imm .nilFunc],ety:=none }
@[reducible] def QEL:TI:={ desc:=.other,size:=1,bytes:=8,zero:=[.imm .nilFunc],ety:=none }
@[reducible] def QEM:TI:={ desc:=.other,size:=1,bytes:=8,zero:=[.imm .nilFunc],ety:=none }
@[reducible] def QEN:TI:={ desc:=.other,size:=1,bytes:=8,zero:=[.imm .nilFunc],ety:=none }
@[reducible] def QEO:TI:={ desc:=.other,size:=1,bytes:=8,zero:=[.imm .nilFunc],ety:=none }
@[reducible] def QEP:TI:={ desc:=.other,size:=1,bytes:=8,zero:=[.imm .nilFunc],ety:=none }
@[reducible] def QEQ:TI:={ desc:=(.slice 9),size:=1,bytes:=24,zero:=[.imm (.slice none 0 0)],ety:=(some (.sl .str)) }
@[reducible] def QER:TI:={ desc:=.other,size:=1,bytes:=8,zero:=[.imm .nilFunc],ety:=none }
@[reducible] def QES:TI:={ desc:=.other,size:=1,bytes:=8,zero:=[.imm .nilFunc],ety:=none }
@[reducible] def QET:TI:={ desc:=(.struct [(9,0),(9,1)]),size:=2,bytes:=32,zero:=[.imm (.string ByteArray.empty),.imm (.string ByteArray.empty)],ety:=(some (.pair .str .str)) }
@[reducible] def QEU:TI:={ desc:=(.struct [(9,0),(9,1)]),size:=2,bytes:=32,zero:=[.imm (.string ByteArray.empty),.imm (.string ByteArray.empty)],ety:=(some (.pair .str .str)),cmp:=true }
@[reducible] def QEV:TI:={ desc:=.other,size:=1,bytes:=8,zero:=[.imm .nilFunc],ety:=none }
@[reducible] def QEW:TI:={ desc:=.other,size:=1,bytes:=8,zero:=[.imm .nilFunc],ety:=none }
@[reducible] def QEX:TI:={ desc:=.other,size:=1,bytes:=8,zero:=[.imm .nilFunc],ety:=none }
@[reducible] def QEY:TI:={ desc:=.other,size:=1,bytes:=8,zero:=[.imm .nilFunc],ety:=none }
@[reducible] def QEZ:TI:={ desc:=.other,size:=1,bytes:=8,zero:=[.imm .nilFunc],ety:=none }
@[reducible] def QE0:TI:={ desc:=(.map 114 4),size:=1,bytes:=8,zero:=[.imm (.map none)],ety:=none }
@[reducible] def QE1:TI:={ desc:=.other,size:=1,bytes:=8,zero:=[.imm .nilFunc],ety:=none }
@[reducible] def QE2:TI:={ desc:=.other,size:=1,bytes:=8,zero:=[.imm .nilFunc],ety:=none }
@[reducible] def QE3:TI:={ desc:=(.ptr 46),size:=1,bytes:=8,zero:=[.imm (.pointer none)],ety:=none }
@[reducible] def QE4:TI:={ desc:=.other,size:=1,bytes:=8,zero:=[.imm .nilFunc],ety:=none }
@[reducible] def QE5:TI:={ desc:=.other,size:=1,bytes:=8,zero:=[.imm .nilFunc],ety:=none }
@[reducible] def QE6:TI:={ desc:=.other,size:=1,bytes:=8,zero:=[.imm .nilFunc],ety:=none }
@[reducible] def QE7:TI:={ desc:=.other,size:=1,bytes:=8,zero:=[.imm .nilFunc],ety:=none }
@[reducible] def QE8:TI:={ desc:=.other,size:=1,bytes:=8,zero:=[.imm .nilFunc],ety:=none }
@[reducible] def QE9:TI:={ desc:=.other,size:=1,bytes:=8,zero:=[.imm .nilFunc],ety:=none }
@[reducible] def QFa:TI:={ desc:=.other,size:=1,bytes:=8,zero:=[.imm .nilFunc],ety:=none }
@[reducible] def QFb:TI:={ desc:=.other,size:=1,bytes:=8,zero:=[.imm .nilFunc],ety:=none }
@[reducible] def QFc:TI:={ desc:=(.struct [(37,0),(47,8),(79,9),(46,10),(3,27)]),size:=28,bytes:=384,zero:=[.imm (.string ByteArray.empty),.imm (.string ByteArray.empty),.imm (.slice none 0 0),.imm (.slice none 0 0),.imm (.slice none 0 0),.imm (.slice none 0 0),.imm (.slice none 0 0),.imm (.slice none 0 0),.imm (.slice none 0 0),.imm (.slice none 0 0),.imm (.int .i64 0),.run .i64 9 (List.replicate 9 0),.imm (.int .i64 0),.imm (.int .i64 0),.imm (.bool false),.imm (.slice none 0 0),.imm (.int .i64 0),.imm (.int .i64 0),.imm (.int .i64 0),.imm (.int .i64 0)],ety:=(some (.pair (.pair .str (.pair (.pair .str (.pair (.sl (.pair (.int .i64) (.pair .str (.pair (.int .i64) (.sl (.pair (.int .i64) (.pair (.int .i64) (.pair (.int .i64) (.sl (.pair (.int .i64) (.pair (.int .i64) (.pair (.int .i64) (.int .i64))))))))))))) (.pair (.sl (.pair (.int .i64) (.pair (.int .i64) (.pair (.int .i64) (.sl (.pair (.int .i64) (.pair (.int .i64) (.pair (.int .i64) (.int .i64))))))))) (.pair (.sl (.pair (.int .i64) (.pair (.int .i64) (.pair (.int .i64) (.sl (.pair (.int .i64) (.pair (.int .i64) (.pair (.int .i64) (.int .i64))))))))) (.sl (.pair (.int .i64) (.pair (.int .i64) (.pair (.int .i64) (.sl (.pair (.int .i64) (.pair (.int .i64) (.pair (.int .i64) (.int .i64))))))))))))) (.pair (.sl (.pair .str (.pair (.int .i64) (.pair (.int .i64) (.pair (.int .i64) (.sl (.int .u8))))))) (.sl (.pair .str .str))))) (.pair (.sl (.pair (.int .i64) (.pair .str (.int .i64)))) (.pair (.sl (.pair (.int .i64) (.pair (.pair (.ints .i64 9) (.pair (.int .i64) (.pair (.int .i64) .bool))) (.pair (.sl (.pair (.sl (.int .i64)) (.sl (.int .u8)))) (.pair (.int .i64) (.pair (.int .i64) (.int .i64))))))) (.pair (.pair (.int .i64) (.pair (.pair (.ints .i64 9) (.pair (.int .i64) (.pair (.int .i64) .bool))) (.pair (.sl (.pair (.sl (.int .i64)) (.sl (.int .u8)))) (.pair (.int .i64) (.pair (.int .i64) (.int .i64)))))) (.int .i64)))))) }
@[reducible] def QFd:TI:={ desc:=(.map 167 4),size:=1,bytes:=8,zero:=[.imm (.map none)],ety:=none }
@[reducible] def QFe:TI:={ desc:=(.struct [(3,0),(9,1),(3,2),(31,3)]),size:=4,bytes:=56,zero:=[.imm (.int .i64 0),.imm (.string ByteArray.empty),.imm (.int .i64 0),.imm (.slice none 0 0)],ety:=(some (.pair (.int .i64) (.pair .str (.pair (.int .i64) (.sl (.pair (.int .i64) (.pair (.int .i64) (.pair (.int .i64) (.sl (.pair (.int .i64) (.pair (.int .i64) (.pair (.int .i64) (.int .i64))))))))))))) }
@[reducible] def QFf:TI:={ desc:=(.struct [(9,0),(3,1)]),size:=2,bytes:=24,zero:=[.imm (.string ByteArray.empty),.imm (.int .i64 0)],ety:=(some (.pair .str (.int .i64))),cmp:=true }
@[reducible] def QFg:TI:={ desc:=(.slice 193),size:=1,bytes:=24,zero:=[.imm (.slice none 0 0)],ety:=(some (.sl (.pair (.int .i64) (.pair (.int .i64) (.pair (.int .i64) (.int .i64)))))) }
@[reducible] def QFh:TI:={ desc:=(.struct [(3,0),(3,1),(3,2),(170,3)]),size:=4,bytes:=48,zero:=[.imm (.int .i64 0),.imm (.int .i64 0),.imm (.int .i64 0),.imm (.slice none 0 0)],ety:=(some (.pair (.int .i64) (.pair (.int .i64) (.pair (.int .i64) (.sl (.pair (.int .i64) (.pair (.int .i64) (.pair (.int .i64) (.int .i64))))))))) }
@[reducible] def QFi:TI:={ desc:=(.struct [(3,0),(3,1),(3,2),(170,3)]),size:=4,bytes:=48,zero:=[.imm (.int .i64 0),.imm (.int .i64 0),.imm (.int .i64 0),.imm (.slice none 0 0)],ety:=(some (.pair (.int .i64) (.pair (.int .i64) (.pair (.int .i64) (.sl (.pair (.int .i64) (.pair (.int .i64) (.pair (.int .i64) (.int .i64))))))))) }
@[reducible] def QFj:TI:={ desc:=.other,size:=1,bytes:=8,zero:=[.imm .nilFunc],ety:=none }
@[reducible] def QFk:TI:={ desc:=.other,size:=1,bytes:=8,zero:=[.imm .nilFunc],ety:=none }
@[reducible] def QFl:TI:={ desc:=.other,size:=1,bytes:=8,zero:=[.imm .nilFunc],ety:=none }
@[reducible] def QFm:TI:={ desc:=.other,size:=1,bytes:=8,zero:=[.imm .nilFunc],ety:=none }
@[reducible] def QFn:TI:={ desc:=(.struct [(3,0),(3,1),(3,2),(3,3)]),size:=4,bytes:=32,zero:=[.imm (.int .i64 0),.imm (.int .i64 0),.imm (.int .i64 0),.imm (.int .i64 0)],ety:=(some (.pair (.int .i64) (.pair (.int .i64) (.pair (.int .i64) (.int .i64))))),cmp:=true }
@[reducible] def QFo:TI:={ desc:=(.ptr 31),size:=1,bytes:=8,zero:=[.imm (.pointer none)],ety:=none }
@[reducible] def QFp:TI:={ desc:=(.int .u64),size:=1,bytes:=8,zero:=[.imm (.int .u64 0)],ety:=(some (.int .u64)) }
@[reducible] def QFq:TI:={ desc:=(.slice 31),size:=1,bytes:=24,zero:=[.imm (.slice none 0 0)],ety:=(some (.sl (.sl (.pair (.int .i64) (.pair (.int .i64) (.pair (.int .i64) (.sl (.pair (.int .i64) (.pair (.int .i64) (.pair (.int .i64) (.int .i64))))))))))) }
@[reducible] def QFr:TI:={ desc:=(.int .u64),size:=1,bytes:=8,zero:=[.imm (.int .u64 0)],ety:=(some (.int .u64)) }
@[reducible] def QFs:TI:={ desc:=.other,size:=1,bytes:=8,zero:=[.imm .nilFunc],ety:=none }
@[reducible] def QFt:TI:={ desc:=.other,size:=1,bytes:=8,zero:=[.imm .nilFunc],ety:=none }
@[reducible] def QFu:TI:={ desc:=.other,size:=1,bytes:=8,zero:=[.imm .nilFunc],ety:=none }
@[reducible] def QFv:TI:={ desc:=.other,size:=1,bytes:=8,zero:=[.imm .nilFunc],ety:=none }
@[reducible] def QFw:TI:={ desc:=.other,size:=1,bytes:=8,zero:=[.imm .nilFunc],ety:=none }
@[reducible] def QFx:TI:={ desc:=(.array 8 3),size:=8,bytes:=64,zero:=[.run .i64 8 (List.replicate 8 0)],ety:=(some (.ints .i64 8)),cmp:=true }
@[reducible] def QFy:TI:={ desc:=(.array 10 3),size:=10,bytes:=80,zero:=[.run .i64 10 (List.replicate 10 0)],ety:=(some (.ints .i64 10)),cmp:=true }
@[reducible] def QFz:TI:={ desc:=(.map 4 3),size:=1,bytes:=8,zero:=[.imm (.map none)],ety:=none }
@[reducible] def QFA:TI:={ desc:=(.array 6 3),size:=6,bytes:=48,zero:=[.run .i64 6 (List.replicate 6 0)],ety:=(some (.ints .i64 6)),cmp:=true }
@[reducible] def QFB:TI:={ desc:=.other,size:=1,bytes:=8,zero:=[.imm .nilFunc],ety:=none }
@[reducible] def QFC:TI:={ desc:=.other,size:=1,bytes:=8,zero:=[.imm .nilFunc],ety:=none }
@[reducible] def QFD:TI:={ desc:=.other,size:=1,bytes:=8,zero:=[.imm .nilFunc],ety:=none }
@[reducible] def QFE:TI:={ desc:=(.int .u32),size:=1,bytes:=4,zero:=[.imm (.int .u32 0)],ety:=(some (.int .u32)) }
@[reducible] def QFF:TI:={ desc:=(.struct [(17,0),(17,1),(17,2),(9,3)]),size:=4,bytes:=40,zero:=[.imm (.pointer none),.imm (.pointer none),.imm (.pointer none),.imm (.string ByteArray.empty)],ety:=none }
@[reducible] def QFG:TI:={ desc:=(.array 0 16),size:=0,bytes:=0,zero:=[],ety:=none }
@[reducible] def QFH:TI:={ desc:=(.struct [(271,0)]),size:=0,bytes:=0,zero:=[],ety:=none }
@[reducible] def QFI:TI:={ desc:=(.int .u8),size:=1,bytes:=1,zero:=[.imm (.int .u8 0)],ety:=(some (.int .u8)) }
@[reducible] def QFJ:TI:={ desc:=(.int .u8),size:=1,bytes:=1,zero:=[.imm (.int .u8 0)],ety:=(some (.int .u8)) }
@[reducible] def QFK:TI:={ desc:=.other,size:=1,bytes:=8,zero:=[.imm .nilFunc],ety:=none }
@[reducible] def QFL:TI:={ desc:=(.ptr 5),size:=1,bytes:=8,zero:=[.imm (.pointer none)],ety:=none }
@[reducible] def QFM:TI:={ desc:=(.int .i32),size:=1,bytes:=4,zero:=[.imm (.int .i32 0)],ety:=(some (.int .i32)) }
@[reducible] def QFN:TI:={ desc:=(.int .i32),size:=1,bytes:=4,zero:=[.imm (.int .i32 0)],ety:=(some (.int .i32)) }
@[reducible] def QFO:TI:={ desc:=(.struct [(12,0),(12,1),(265,2),(274,3),(5,4),(5,5),(275,6),(276,7),(277,8),(278,9),(279,10)]),size:=11,bytes:=48,zero:=[.imm (.int .u64 0),.imm (.int .u64 0),.imm (.int .u32 0),.imm (.int .u8 0),.imm (.int .u8 0),.imm (.int .u8 0),.imm (.int .u8 0),.imm .nilFunc,.imm (.pointer none),.imm (.int .i32 0),.imm (.int .i32 0)],ety:=none }
def tree:Qgf:=(.node 86 QIe (.node 39 QHC (.node 20 QHj (.node 10 QG9 (.node 5 ty5 (.node 3 ty3 (.node 2 ty2 (.node 1 ty1 .leaf .leaf) .leaf) (.node 4 ty4 .leaf .leaf)) (.node 8 ty8 (.node 7 ty7 (.node 6 ty6 .leaf .leaf) .leaf) (.node 9 ty9 .leaf .leaf))) (.node 15 QHe (.node 13 QHc (.node 12 QHb (.node 11 QHa .leaf .leaf) .leaf) (.node 14 QHd .leaf .leaf)) (.node 18 QHh (.node 17 QHg (.node 16 QHf .leaf .leaf) .leaf) (.node 19 QHi .leaf .leaf)))) (.node 30 QHt (.node 25 QHo (.node 23 QHm (.node 22 QHl (.node 21 QHk .leaf .leaf) .leaf) (.node 24 QHn .leaf .leaf)) (.node 28 QHr (.node 27 QHq (.node 26 QHp .leaf .leaf) .leaf) (.node 29 QHs .leaf .leaf))) (.node 35 QHy (.node 33 QHw (.node 32 QHv (.node 31 QHu .leaf .leaf) .leaf) (.node 34 QHx .leaf .leaf)) (.node 37 QHA (.node 36 QHz .leaf .leaf) (.node 38 QHB .leaf .leaf))))) (.node 60 QHV (.node 49 QHM (.node 44 QHH (.node 42 QHF (.node 41 QHE (.node 40 QHD .leaf .leaf) .leaf) (.node 43 QHG .leaf .leaf)) (.node 47 QHK (.node 46 QHJ (.node 45 QHI .leaf .leaf) .leaf) (.node 48 QHL .leaf .leaf))) (.node 55 QHR (.node 52 QHP (.node 51 QHO (.node 50 QHN .leaf .leaf) .leaf) (.node 54 QHQ .leaf .leaf)) (.node 57 QHT (.node 56 QHS .leaf .leaf) (.node 59 QHU .leaf .leaf)))) (.node 76 QH5 (.node 65 QH0 (.node 63 QHY (.node 62 QHX (.node 61 QHW .leaf .leaf) .leaf) (.node 64 QHZ .leaf .leaf)) (.node 69 QH3 (.node 68 QH2 (.node 67 QH1 .leaf .leaf) .leaf) (.node 70 QH4 .leaf .leaf))) (.node 82 QIa (.node 79 QH8 (.node 78 QH7 (.node 77 QH6 .leaf .leaf) .leaf) (.node 80 QH9 .leaf .leaf)) (.node 84 QIc (.node 83 QIb .leaf .leaf) (.node 85 QId .leaf .leaf)))))) (.node 163 QFd (.node 114 QEU (.node 100 QEK (.node 93 QIj (.node 90 QIh (.node 89 QIg (.node 88 QIf .leaf .leaf) .leaf) (.node 92 QIi .leaf .leaf)) (.node 98 QIm (.node 97 QIl (.node 94 QIk .leaf .leaf) .leaf) (.node 99 QIn .leaf .leaf))) (.node 108 QEP (.node 103 QEN (.node 102 QEM (.node 101 QEL .leaf .leaf) .leaf) (.node 105 QEO .leaf .leaf)) (.node 112 QES (.node 111 QER (.node 109 QEQ .leaf .leaf) .leaf) (.node 113 QET .leaf .leaf)))) (.node 127 QE4 (.node 120 QEZ (.node 117 QEX (.node 116 QEW (.node 115 QEV .leaf .leaf) .leaf) (.node 119 QEY .leaf .leaf)) (.node 124 QE2 (.node 122 QE1 (.node 121 QE0 .leaf .leaf) .leaf) (.node 126 QE3 .leaf .leaf))) (.node 143 QE9 (.node 139 QE7 (.node 130 QE6 (.node 128 QE5 .leaf .leaf) .leaf) (.node 142 QE8 .leaf .leaf)) (.node 146 QFb (.node 144 QFa .leaf .leaf) (.node 148 QFc .leaf .leaf))))) (.node 246 QFw (.node 193 QFn (.node 172 QFi (.node 170 QFg (.node 167 QFf (.node 165 QFe .leaf .leaf) .leaf) (.node 171 QFh .leaf .leaf)) (.node 188 QFl (.node 184 QFk (.node 177 QFj .leaf .leaf) .leaf) (.node 191 QFm .leaf .leaf))) (.node 225 QFs (.node 217 QFq (.node 212 QFp (.node 210 QFo .leaf .leaf) .leaf) (.node 224 QFr .leaf .leaf)) (.node 240 QFu (.node 239 QFt .leaf .leaf) (.node 241 QFv .leaf .leaf)))) (.node 271 QFG (.node 257 QFB (.node 255 QFz (.node 250 QFy (.node 249 QFx .leaf .leaf) .leaf) (.node 256 QFA .leaf .leaf)) (.node 265 QFE (.node 259 QFD (.node 258 QFC .leaf .leaf) .leaf) (.node 270 QFF .leaf .leaf))) (.node 277 QFL (.node 275 QFJ (.node 274 QFI (.node 273 QFH .leaf .leaf) .leaf) (.node 276 QFK .leaf .leaf)) (.node 279 QFN (.node 278 QFM .leaf .leaf) (.node 281 QFO .leaf .leaf)))))))
theorem Qf:Qes Tryz.prog tree=true:=by kernel_rfl
open Go.RowKit
set_option linter.unusedVariables false
set_option linter.unusedSimpArgs false
def Qdl (W:World):Env:={ w:=W,ρ:=fun _=>none,S:=fun g=>g < W.heap.size,H:=fun _=>none,U:=fun _=>False }
theorem Qrq (W:World):Qt (Qdl W):=⟨fun b x h=>(by cases h),fun b b' x x' g h=>(by cases h),fun g h=>h⟩
theorem CSound.start {P:Program} {f:FuncId} {s:Qcm} (h:CSound P f s) {vs:Array Value} {args:List V1} {W:World} {p:Option Prop} {r:AV} {fresh:List Blk} (hv:VsR (Qdl W) args vs.toList)
 (hrun:s.run args []=some (p,r,[],fresh)) (hp:∀ q,p=some q→q):Calls P f vs W fun e w'=>(∃ v E',e=.returned v∧E'.w=w'∧AVR E' r v)∧Below W.heap.size W w':=by
 refine (h (Qdl W) vs args [] p r [] fresh (fun b=>by simp [Qdl]) (fun b=>by simp [Qdl]) (Qrq W) hv hrun hp).mono ?_
 rintro e w' ⟨v,E',rfl,rfl,hb⟩
 refine ⟨⟨v,E',rfl,rfl,hb.val⟩,hb.fr.os,hb.fr.tape,hb.fr.output,hb.fr.size,fun k hk=>hb.fr.old k hk ?_⟩
 rintro ⟨b,x,hx,_⟩
 cases hx
theorem Qk.law {P:Program} {f:FuncId} {s:Qk} (h:Qi P f s.spec) {vs:Array Value} {W:World} (xs:Args s.gs) (hv:VsR (Qdl W) (QaK s.gs xs) vs.toList) (hd:Qc6 s.gs (QaK s.gs xs)=some xs)
 {p:Option Prop} (ht:s.out xs=(p,.cell (bv true),[])) (hp:∀ q,p=some q→q):Calls P f vs W fun e w'=>e=.returned (.bool true)∧Below W.heap.size W w':=by
 have hrun:s.spec.run (QaK s.gs xs) []=some (p,.cell (bv true),[],[]):=by
  unfold Qk.spec
  simp only [hd,ht]
 refine (h.1.start hv hrun hp).mono ?_
 rintro e w' ⟨⟨v,E',rfl,rfl,hr⟩,hb⟩
 refine ⟨?_,hb⟩
 obtain ⟨e,_⟩:=hr
 injection e with e
 rw [e]
theorem VsR.cons {E:Env} {x:V1} {xs:List V1} {v:Value} {vs:List Value} (h:V1R E x v) (hs:VsR E xs vs):VsR E (x :: xs) (v :: vs):=⟨v,vs,rfl,h,hs⟩
theorem VsR.nil {E:Env}:VsR E [] []:=rfl
theorem V1R.int {E:Env} (k:IntKind) (n:Int):V1R E (.c (.imm (.int k n))) (.int k n):=⟨rfl,rfl⟩
theorem V1R.bool {E:Env} (b:Bool):V1R E (.c (.imm (.bool b))) (.bool b):=⟨rfl,rfl⟩
end Go.Fw

namespace Go.Proofs.YtofgbclopbmlcaaGreat
open Go.Fw
set_option linter.unusedVariables false
set_option linter.unusedSimpArgs false
set_option maxRecDepth 100000
abbrev gi:Sig:=⟨false,.int .i64⟩
abbrev I (n:Int):AV:=.cell (iv .i64 n)
abbrev I1 (n:Int):V1:=.c (iv .i64 n)
def Qat (a:Int):Int:=imax 0 (imin a 62)
def Qif:Qk:=⟨[gi],fun (a,_)=>(none,I (Qat a),[])⟩
theorem Qcr:Qi Tryz.prog 171 Qif.spec:=by
 refine Qif.good (fn:=Tryz.f171) (Qky (fs:=[]) Qf) Qc Tryz.func171 (by kernel_rfl) rfl fun (a:Int) _=>?_
 repeat' first
  |(refine Go.mk ?_;conv=>whnf)
  |refine Ql.go ?_ ?_
  |refine Br.dec (fun _=>?_) (fun _=>?_)
  |refine Br.go (fun _=>?_) (fun _=>?_)
 exact .mk [] [] _ R R R R R R R
def QlM (a b:Int):Int:=land .i64 a (IntKind.i64.wrap (shl .i64 1 (Qat b)-1))
def QGm:Qk:=⟨[gi,gi],fun (a,b,_)=>(none,I (QlM a b),[])⟩
theorem QxL:Qi Tryz.prog 94 QGm.spec:=by
 have hT:=Qky (fs:=[(171,Qif.spec)]) Qf
 have hP:Qe Tryz.prog (tab tree [(171,Qif.spec)]):=Qa Qcr Qc
 refine QGm.good (fn:=Tryz.f94) hT hP Tryz.func94 (by kernel_rfl) rfl fun (a b:Int) _=>?_
 repeat' first
  |(refine Go.mk ?_;conv=>whnf)
  |refine Ql.go ?_ ?_
  |refine Br.dec (fun _=>?_) (fun _=>?_)
  |refine Br.go (fun _=>?_) (fun _=>?_)
 ·show 0≤Qat b
  simp only [Qat,Q9];omega
 ·exact .mk [] [] _ R R R R R R R
def QcI (a b:Int):Int × Int:=(Qat a,imax 0 (imin b (IntKind.i64.wrap (62-Qat a))))
def QxM:Qk:=⟨[gi,gi],fun (a,b,_)=>(none,.tup [I1 (QcI a b).1,I1 (QcI a b).2],[])⟩
theorem QdY {a b c d:Int} (h1:a=c) (h2:b=d):AV.tup [I1 a,I1 b]=AV.tup [I1 c,I1 d]:=by rw [h1,h2]
theorem QnB:Qi Tryz.prog 260 QxM.spec:=by
 have hT:=Qky (fs:=[(171,Qif.spec)]) Qf
 have hP:Qe Tryz.prog (tab tree [(171,Qif.spec)]):=Qa Qcr Qc
 refine QxM.good (fn:=Tryz.f260) hT hP Tryz.func260 (by kernel_rfl) rfl fun (a b:Int) _=>?_
 repeat' first
  |(refine Go.mk ?_;conv=>whnf)
  |refine Ql.go ?_ ?_
  |refine Br.dec (fun _=>?_) (fun _=>?_)
  |refine Br.go (fun _=>?_) (fun _=>?_)
 exact .mk [] [] _ R R R R R R R
def QFP (n a s:Int):Int:=QlM (shr .i64 (QlM n 62) (QcI a s).1) (QcI a s).2
theorem QeU (a s:Int):0≤(QcI a s).1∧0≤(QcI a s).2:=by
 simp only [QcI,Qat,Q9]
 constructor<;>omega
def QFQ (n a s v:Int):Int :=
 lor .i64 (Q3 .i64 (QlM n 62) (shl .i64 (IntKind.i64.wrap (shl .i64 1 (QcI a s).2-1)) (QcI a s).1)) (shl .i64 (QlM v (QcI a s).2) (QcI a s).1)
theorem mixed:Tryz.prog.follows .mixedOrders=true:=by kernel_rfl
abbrev gl:Sig:=⟨false,.sl (.int .i64)⟩
theorem w64 {x:Int} (h1:-9223372036854775808≤x) (h2:x≤9223372036854775807):IntKind.i64.wrap x=x:=by
 rw [IntKind.wrap_i64];omega
def u64 (x:Int):Nat:=(x%18446744073709551616).toNat
theorem Qal {n:Nat} (h:n < 2 ^ 64):u64 (n:Int)=n:=by unfold u64;omega
theorem Qab (x:Int):(BitVec.ofInt 64 x).toNat=u64 x:=by
 rw [BitVec.toNat_ofInt];rfl
theorem QeV (x y:Int) (h:u64 x &&& u64 y < 2 ^ 63):land .i64 x y=((u64 x &&& u64 y:Nat):Int):=by
 show IntKind.i64.wrap (((BitVec.ofInt 64 x &&& BitVec.ofInt 64 y).toNat:Nat):Int)=_
 rw [BitVec.toNat_and,Qab,Qab]
 exact w64 (by omega) (by omega)
theorem QfA (x y:Int) (h:u64 x ||| u64 y < 2 ^ 63):lor .i64 x y=((u64 x ||| u64 y:Nat):Int):=by
 show IntKind.i64.wrap (((BitVec.ofInt 64 x ||| BitVec.ofInt 64 y).toNat:Nat):Int)=_
 rw [BitVec.toNat_or,Qab,Qab]
 exact w64 (by omega) (by omega)
theorem Qc9 (x y:Int) (h:u64 x < 2 ^ 63):Q3 .i64 x y=((u64 x ^^^ (u64 x &&& u64 y):Nat):Int):=by
 have e:(BitVec.ofInt 64 x &&& ~~~(BitVec.ofInt 64 y))=BitVec.ofInt 64 x ^^^ (BitVec.ofInt 64 x &&& BitVec.ofInt 64 y):=by
  apply BitVec.eq_of_getLsbD_eq
  intro i hi
  simp only [BitVec.getLsbD_and,BitVec.getLsbD_not,BitVec.getLsbD_xor,hi,decide_true,Bool.true_and]
  cases (BitVec.ofInt 64 x).getLsbD i<;>cases (BitVec.ofInt 64 y).getLsbD i<;>rfl
 show IntKind.i64.wrap (((BitVec.ofInt 64 x &&& ~~~(BitVec.ofInt 64 y)).toNat:Nat):Int)=_
 rw [e,BitVec.toNat_xor,BitVec.toNat_and,Qab,Qab]
 have h2:u64 x ^^^ (u64 x &&& u64 y) < 2 ^ 63:=Nat.xor_lt_two_pow h (Nat.lt_of_le_of_lt Nat.and_le_left h)
 exact w64 (by omega) (by omega)
theorem QkB {a b:Nat} (h:a≤b):2 ^ a≤2 ^ b:=Nat.pow_le_pow_right (by omega) h
theorem Qrr {b:Nat} (h:b≤62):IntKind.i64.wrap (shl .i64 1 b-1)=((2 ^ b-1:Nat):Int):=by
 have h1:2 ^ b≤2 ^ 62:=QkB h
 have h2:0 < 2 ^ b:=Nat.pow_pos (by omega)
 have e:shl .i64 1 (b:Int)=((2 ^ b:Nat):Int):=by
  show IntKind.i64.wrap (1*2 ^ (min ((b:Int).toNat) 64))=_
  have:min ((b:Int).toNat) 64=b:=by omega
  rw [this,Int.one_mul]
  have e2:(2:Int) ^ b=((2 ^ b:Nat):Int):=by simp
  rw [e2]
  exact w64 (by omega) (by omega)
 rw [e,w64 (by omega) (by omega)]
 omega
theorem Qrs {x b:Nat} (h:x*2 ^ b < 2 ^ 63) (hb:b≤62):shl .i64 (x:Int) (b:Int)=((x*2 ^ b:Nat):Int):=by
 show IntKind.i64.wrap ((x:Int)*2 ^ (min ((b:Int).toNat) 64))=_
 have:min ((b:Int).toNat) 64=b:=by omega
 rw [this]
 have e2:(x:Int)*2 ^ b=((x*2 ^ b:Nat):Int):=by simp
 rw [e2]
 exact w64 (by omega) (by omega)
theorem QxN {x b:Nat} (hb:b≤64):shr .i64 (x:Int) (b:Int)=((x/2 ^ b:Nat):Int):=by
 show (x:Int).fdiv (2 ^ (min ((b:Int).toNat) 64))=_
 have:min ((b:Int).toNat) 64=b:=by omega
 rw [this]
 have e2:(2:Int) ^ b=((2 ^ b:Nat):Int):=by simp
 rw [e2,Int.fdiv_eq_ediv_of_nonneg _ (Int.natCast_nonneg _)]
 simp
theorem QdC (x y i:Nat):(x ^^^ (x &&& y)).testBit i=(x.testBit i&&!y.testBit i):=by
 rw [Nat.testBit_xor,Nat.testBit_and]
 cases x.testBit i<;>cases y.testBit i<;>rfl
theorem Qrt (b:Int):0≤Qat b∧Qat b≤62:=by
 simp only [Qat,Q9,QbZ];omega
theorem QeW {b:Int} (h1:0≤b) (h2:b≤62):Qat b=b:=by
 simp only [Qat,Q9,QbZ];omega
theorem QfB (x b:Int):QlM x b=((u64 x%2 ^ (Qat b).toNat:Nat):Int):=by
 obtain ⟨h1,h2⟩:=Qrt b
 unfold QlM
 generalize Qat b=w at h1 h2
 obtain ⟨k,rfl⟩:=Int.eq_ofNat_of_zero_le h1
 have hk:k≤62:=by omega
 have h3:2 ^ k≤2 ^ 62:=QkB hk
 have h4:0 < 2 ^ k:=Nat.pow_pos (by omega)
 rw [Qrr hk]
 have e:u64 ((2 ^ k-1:Nat):Int)=2 ^ k-1:=Qal (by omega)
 have e2:u64 x &&& (2 ^ k-1)=u64 x%2 ^ k:=Nat.and_two_pow_sub_one_eq_mod _ _
 have h5:u64 x%2 ^ k < 2 ^ k:=Nat.mod_lt _ h4
 rw [QeV _ _ (by rw [e,e2];omega),e,e2]
 simp
end Go.Proofs.YtofgbclopbmlcaaGreat

namespace Go.Fw
set_option linter.unusedVariables false
set_option linter.unusedSimpArgs false
structure QaV where
 X:Type
 args:X→List V1
 bl:X→List Blk
 rd:List V1→List Blk→Option X
 out:X→Option Prop × AV × List (Option Blk) × List Blk
def QaV.spec (s:QaV):Qcm:={ wr:=true,run:=fun args bl=>match s.rd args bl with
 |some x=>some (s.out x)
 |none=>none }
theorem QaV.good {P:Program} {T:Tab} {f:FuncId} {fn:Func} (hT:Qae P T) (hP:Qe P T) (hf:P.funcs[f]?=some fn) (hn:(fn.name == "runtime.NumGoroutine")=false) (s:QaV) (hb:fn.body.isSome=true)
 (hrd:∀ a b x,s.rd a b=some x→a=s.args x∧b=s.bl x)
 (h:∀ x,(∀ q,(s.out x).1=some q→q)→Go (QkA P T fn (s.args x) (s.bl x) (s.out x).2.1 (s.out x).2.2.1 (s.out x).2.2.2)):Qi P f s.spec:=by
 refine ⟨?_,fn,hf,hn,hb⟩
 obtain ⟨c,hc⟩:=Option.isSome_iff_exists.1 hb
 refine QiV hT hf hc _ fun args bl p r upd fresh hrun hp=>?_
 unfold QaV.spec at hrun
 simp only at hrun
 split at hrun
 ·rename_i x hx
  obtain ⟨rfl,rfl⟩:=hrd _ _ _ hx
  injection hrun with hrun
  have h1:=(h x (by rw [hrun];exact hp)).out
  rw [hrun,Qg0] at h1
  refine ⟨_,fun E vs _ _ hv=>hv,?_⟩
  unfold Qic at h1
  rw [hc] at h1
  simp only [QgD,QeL,QaW] at h1
  exact Qgj hT hP c h1
 ·cases hrun
end Go.Fw

namespace Go.Proofs.YtofgbclopbmlcaaGreat
open Go.Fw
set_option linter.unusedVariables false
set_option linter.unusedSimpArgs false
set_option maxRecDepth 100000
abbrev gD:Sig:=⟨true,.pair (.sl (.int .i64)) (.sl (.int .u8))⟩
abbrev gC:Sig:=⟨true,.pair .str (.pair (.int .i64) (.pair (.int .i64) (.pair (.int .i64) (.sl (.int .u8)))))⟩
abbrev gb:Sig:=⟨false,.sl (.int .u8)⟩
abbrev Dv:=List Int × List Int
abbrev Cv:=ByteArray × Int × Int × Int × List Int
theorem Qi5 (n b:Int) (h1:0≤b) (h2:b≤62):QlM n b=n%2 ^ b.toNat:=by
 rw [QfB,QeW h1 h2]
 obtain ⟨k,rfl⟩:=Int.eq_ofNat_of_zero_le h1
 have hk:k≤62:=by omega
 have e:(18446744073709551616:Int)=((2 ^ k:Nat):Int)*((2 ^ (64-k):Nat):Int):=by
  have:(18446744073709551616:Nat)=2 ^ k*2 ^ (64-k):=by
   rw [← Nat.pow_add]
   have:k+(64-k)=64:=by omega
   rw [this]
  rw [← Int.natCast_mul,← this];rfl
 have e2:(2:Int) ^ k=((2 ^ k:Nat):Int):=by simp
 show ((u64 n%2 ^ k:Nat):Int)=n%2 ^ k
 rw [e2,Int.natCast_emod]
 have:((u64 n:Nat):Int)=n%18446744073709551616:=by unfold u64;omega
 rw [this]
 exact Int.emod_emod_of_dvd n ⟨_,e⟩
def QGn:Qk:=⟨[gi,gi],fun (n,b,_)=>(some (0≤b∧b≤62),I (n%2 ^ b.toNat),[])⟩
theorem QT:Qi Tryz.prog 94 QGn.spec:=by
 have hP:Qe Tryz.prog _:=Qa Qcr (Qc (T:=tree))
 have hT:=tabs hP Qf
 refine QGn.good (fn:=Tryz.f94) hT hP Tryz.func94 (by kernel_rfl) rfl fun (a b:Int) hp=>?_
 have hp:0≤b∧b≤62:=hp _ rfl
 repeat' first |(refine Go.mk ?_;conv=>whnf) |refine Ql.go ?_ ?_ |refine Qm.go (fun _=>?_) (fun _=>?_) |refine Br.dec (fun _=>?_) (fun _=>?_) |refine Br.go (fun _=>?_) (fun _=>?_) |refine Qd hT hP mixed ?_ |refine Qb hT hP ?_
 ·show 0≤Qat b
  simp only [Qat,Q9];omega
 ·refine .mk [] [] _ R R R R R R (Qg ?_)
  exact Qi5 a b hp.1 hp.2
def QGo:Qk:=⟨[gi,gi],fun (n,m,_)=>(some (0 < m∧m≤4611686018427387904),I (n%m),[])⟩
theorem Qzp (n:Int) {m:Int} (h:0 < m):-m < n.tmod m∧n.tmod m < m:=by
 constructor
 ·have:=Int.lt_tmod_of_pos n h;omega
 ·exact Int.tmod_lt_of_pos n h
theorem QnC (n:Int) {m:Int} (h:0 < m) (h2:m≤4611686018427387904):(IntKind.i64.wrap (n.tmod m+m)).tmod m=n%m:=by
 obtain ⟨h3,h4⟩:=Qzp n h
 rw [w64 (by omega) (by omega),Int.tmod_eq_emod_of_nonneg (by omega),Int.add_emod_right]
 by_cases hn:0≤n
 ·rw [Int.tmod_eq_emod_of_nonneg hn,Int.emod_emod]
 ·have e:=Int.mul_tdiv_add_tmod n m
  rw [← Int.add_mul_emod_self_left (n.tmod m) m (n.tdiv m),Int.add_comm,e]
theorem Qb0:Qi Tryz.prog 39 QGo.spec:=by
 have hP:Qe Tryz.prog _:=(Qc (T:=tree))
 have hT:=tabs hP Qf
 refine QGo.good (fn:=Tryz.f39) hT hP Tryz.func39 (by kernel_rfl) rfl fun (n m:Int) hp=>?_
 have hp:0 < m∧m≤4611686018427387904:=hp _ rfl
 repeat' first |(refine Go.mk ?_;conv=>whnf) |refine Ql.go ?_ ?_ |refine Qm.go (fun _=>?_) (fun _=>?_) |refine Br.dec (fun _=>?_) (fun _=>?_) |refine Br.go (fun _=>?_) (fun _=>?_) |refine Qd hT hP mixed ?_ |refine Qb hT hP ?_
 ·omega
 ·omega
 ·refine .mk [] [] _ R R R R R R (Qg ?_)
  exact QnC n hp.1 hp.2
def Qeb (N:List Int):List Int→Nat→List Int
 | [],_=>[]
 |m :: ms,i=>N.getD i 0%m :: Qeb N ms (i+1)
theorem Qb1 (N:List Int):∀ (ms:List Int) (i:Nat),(Qeb N ms i).length=ms.length
 | [],_=>rfl
 |m :: ms,i=>by simp [Qeb,Qb1 N ms]
theorem QfC (N:List Int):∀ (ms:List Int) (i k:Nat),k < ms.length→Qeb N (ms.take (k+1)) i=Qeb N (ms.take k) i++[N.getD (i+k) 0%ms.getD k 0]
 |m :: ms,i,0,_=>by simp [Qeb]
 |m :: ms,i,k+1,h=>by
   have:=QfC N ms (i+1) k (by simpa using h)
   simp only [List.take_succ_cons,Qeb,this,List.cons_append]
   have e:i+1+k=i+(k+1):=by omega
   rw [e];simp
def Qf8 (N ms:List Int) (k:Nat):List Int:=Qeb N (ms.take k) 0++List.replicate (ms.length-k) 0
theorem QkC (N ms:List Int) {k:Nat} (h:k≤ms.length):(Qf8 N ms k).length=ms.length:=by
 simp [Qf8,Qb1];omega
theorem QkD (N ms:List Int) {k:Nat} (h:k < ms.length):(Qf8 N ms k).set k (N.getD k 0%ms.getD k 0)=Qf8 N ms (k+1):=by
 unfold Qf8
 have hl:(Qeb N (ms.take k) 0).length=k:=by rw [Qb1,List.length_take];omega
 have e:ms.length-k=(ms.length-(k+1))+1:=by omega
 rw [e,List.replicate_succ,List.set_append,if_neg (by omega),hl,Nat.sub_self,List.set_cons_zero,QfC N ms 0 k h]
 simp
theorem Qpq (N ms:List Int) {k:Nat} (h:k < ms.length) (h2:N.length≤k):Qf8 N ms k=Qf8 N ms (k+1):=by
 rw [← QkD N ms h]
 have:N.getD k 0=0:=by simp [h2]
 rw [this,Int.zero_emod]
 have hl:(Qeb N (ms.take k) 0).length=k:=by rw [Qb1,List.length_take];omega
 unfold Qf8
 have e:ms.length-k=(ms.length-(k+1))+1:=by omega
 rw [e,List.replicate_succ,List.set_append,if_neg (by omega),hl,Nat.sub_self,List.set_cons_zero]
def QBN:Qk:=⟨[gD,gl],fun (d,ms,_)=>(some (List.length ms≤1000∧(∀ m ∈ ms,0 < m∧m≤4611686018427387904)),.cell (.own 0),[.arr (.int .i64) (Qeb d.1 ms 0)])⟩
theorem Qcy:Qi Tryz.prog 108 QBN.spec:=by
 have hP:Qe Tryz.prog _:=Qa Qb0 (Qc (T:=tree))
 have hT:=tabs hP Qf
 refine QBN.good (fn:=Tryz.f108) hT hP Tryz.func108 (by kernel_rfl) rfl fun (d:Dv) (ms:List Int) hp=>?_
 obtain ⟨N,M⟩:=d
 obtain ⟨hp,hm⟩:ms.length≤1000∧(∀ m ∈ ms,0 < m∧m≤4611686018427387904):=hp _ rfl
 repeat' first |(refine Go.mk ?_;conv=>whnf) |refine Ql.go ?_ ?_ |refine Qm.go (fun _=>?_) (fun _=>?_) |refine Br.dec (fun _=>?_) (fun _=>?_) |refine Br.go (fun _=>?_) (fun _=>?_) |refine Qd hT hP mixed ?_ |refine Qb hT hP ?_
 ·have:ty3.bytes=8:=rfl
  rw [this];omega
 refine Qay hT hP (X:=Int × List Int) (fun (i,n)=>St.mk (E2 ((.cell (.ptr 0 0)) :: E2 ((.cell (.own 1)) :: E5 ((.cell (.ro (.int .i64) ms)) :: (I ms.length) :: (I i) :: E20 (E1 []))))) [some (.var [.ro (.int .i64) N,.ro (.int .u8) M]),some (.arr (.int .i64) n)])
  (fun (i,n)=>∃ k:Nat,i=k∧k≤ms.length∧n=Qf8 N ms k) (fun (i,_)=>(ms.length-i).toNat) (0,List.replicate ms.length 0) (Le.mk [] [0,1] R R ?_ ?_) ?_ fun (i,n) hi=>?_
 rotate_right
 repeat' first |(refine Go.mk ?_;conv=>whnf) |refine Ql.go ?_ ?_ |refine Qm.go (fun _=>?_) (fun _=>?_) |refine Br.dec (fun _=>?_) (fun _=>?_) |refine Br.go (fun _=>?_) (fun _=>?_) |refine Qd hT hP mixed ?_ |refine Qb hT hP ?_
 ·obtain ⟨k,rfl,hk,rfl⟩:=hi
  omega
 ·obtain ⟨k,rfl,hk,rfl⟩:=hi
  omega
 ·obtain ⟨k,rfl,hk,rfl⟩:=hi
  have hlt:k < ms.length:=by omega
  refine hm _ ?_
  show ms.getD k 0 ∈ ms
  simp [hlt]
 ·obtain ⟨k,rfl,hk,rfl⟩:=hi
  rw [QkC N ms hk];omega
 ·obtain ⟨k,rfl,hk,rfl⟩:=hi
  rw [QkC N ms hk];omega
 ·obtain ⟨k,rfl,hk,rfl⟩:=hi
  have hlt:k < ms.length:=by omega
  have e:IntKind.i64.wrap ((k:Int)+1)=((k+1:Nat):Int):=by rw [w64 (by omega) (by omega)];omega
  apply Exists.intro (_,_)
  refine And.intro ?_ (And.intro ?_ (Le.mk [] [0,1] R R ?hh ?ht))
  case hh=>exact rfl
  case ht=>repeat' first |exact trivial |exact ⟨rfl,rfl⟩ |refine And.intro ?_ ?_
  ·exact ⟨k+1,e,by omega,QkD N ms hlt⟩
  ·show (ms.length-IntKind.i64.wrap ((k:Int)+1)).toNat < (ms.length-(k:Int)).toNat
   rw [e];omega
 ·obtain ⟨k,rfl,hk,rfl⟩:=hi
  have hlt:k < ms.length:=by omega
  have e:IntKind.i64.wrap ((k:Int)+1)=((k+1:Nat):Int):=by rw [w64 (by omega) (by omega)];omega
  apply Exists.intro (_,_)
  refine And.intro ?_ (And.intro ?_ (Le.mk [] [0,1] R R ?hh ?ht))
  case hh=>exact rfl
  case ht=>repeat' first |exact trivial |exact ⟨rfl,rfl⟩ |refine And.intro ?_ ?_
  ·exact ⟨k+1,e,by omega,Qpq N ms hlt (by omega)⟩
  ·show (ms.length-IntKind.i64.wrap ((k:Int)+1)).toNat < (ms.length-(k:Int)).toNat
   rw [e];omega
 ·obtain ⟨k,rfl,hk,rfl⟩:=hi
  refine .mk [] [1] _ R R R R R ?_ rfl
  have e:k=ms.length:=by omega
  subst e
  show [some (Blk.arr (.int .i64) (Qf8 N ms ms.length))]=[some (Blk.arr (.int .i64) (Qeb N ms 0))]
  simp [Qf8]
 ·exact rfl
 ·repeat' first |exact trivial |exact ⟨rfl,rfl⟩ |refine And.intro ?_ ?_
 ·exact ⟨0,rfl,by omega,by simp [Qf8,Qeb]⟩
abbrev QeC:AV:=.agg [.own 0,.imm (.slice none 0 0)]
def QbB (l:List Int) (a:Int):Int:=if a < 0 then 0 else if a≥l.length then 0 else l.getD a.toNat 0
def Qzq:QaV:=⟨List Int × Int,fun x=>[.c (.own 0),.c (.ptr 1 0)],fun x=>[.arr (.int .i64) x.1,.var [iv .i64 x.2]],fun a b=>(match a,b with | [.c (.own 0),.c (.ptr 1 0)],[.arr (.int .i64) l,.var [.imm (.int .i64 n)]]=>some (l,n) |_,_=>none),
 fun x=>(none,I (QbB x.1 x.2),[some (.arr (.int .i64) x.1),some (.var [iv .i64 x.2])],[])⟩
theorem QfD:Qi Tryz.prog 142 Qzq.spec:=by
 have hP:Qe Tryz.prog _:=(Qc (T:=tree))
 have hT:=tabs hP Qf
 refine Qzq.good (fn:=Tryz.f142) hT hP Tryz.func142 (by kernel_rfl) rfl ?_ fun ((l,a):List Int × Int) _=>?_
 ·intro a b x h
  simp only [Qzq] at h
  split at h
  ·injection h with h;subst h;exact ⟨rfl,rfl⟩
  ·cases h
 repeat' first |(refine Go.mk ?_;conv=>whnf) |refine Ql.go ?_ ?_ |refine Qm.go (fun _=>?_) (fun _=>?_) |refine Br.dec (fun _=>?_) (fun _=>?_) |refine Br.go (fun _=>?_) (fun _=>?_) |refine Qd hT hP mixed ?_ |refine Qb hT hP ?_
 ·rename_i h
  refine .mk [] [0,1] _ R R R R R R (Qg ?_)
  show 0=QbB l a
  rw [QbB,if_pos h]
 ·rename_i h h2
  refine .mk [] [0,1] _ R R R R R R (Qg ?_)
  show 0=QbB l a
  rw [QbB,if_neg h,if_pos h2]
 ·dsimp only at *
  omega
 ·dsimp only at *
  omega
 ·rename_i h h2
  refine .mk [] [0,1] _ R R R R R R (Qg ?_)
  show _=QbB l a
  rw [QbB,if_neg h,if_neg h2];rfl
theorem Qg1 {l:List Int} {a:Int} (h:∀ i:Nat,i < l.length→¬ a=i):QbB l a=0:=by
 unfold QbB
 split
 ·rfl
 ·split
  ·rfl
  ·rename_i h1 h2
   exact absurd (by omega:a=(a.toNat:Int)) (h a.toNat (by omega))
theorem Qr {l l':List Int} (h:l=l'):[some (Blk.arr (.int .i64) l)]=[some (Blk.arr (.int .i64) l')]:=by rw [h]
def QP (f:List Int→List Int):Nat→List Int→List Int
 |0,l=>l
 |n+1,l=>QP f n (f l)
theorem QeX (f:List Int→List Int):∀ (m n:Nat) (l:List Int),QP f (m+n) l=QP f n (QP f m l)
 |0,n,l=>by rw [Nat.zero_add];rfl
 |m+1,n,l=>by
   have e:m+1+n=(m+n)+1:=by omega
   rw [e]
   exact QeX f m n (f l)
theorem QaF (f:List Int→List Int) (n:Nat) (l:List Int):QP f (n+1) l=f (QP f n l):=by
 rw [QeX f n 1];rfl
theorem Qg2 {f:List Int→List Int} {l:List Int} (h:f l=l):∀ n,QP f n l=l
 |0=>rfl
 |n+1=>by rw [QP,h];exact Qg2 h n
abbrev s0 (N:List Int):Int:=N.getD 0 0%256
abbrev s1 (N:List Int):Int:=N.getD 1 0%64
abbrev s2 (N:List Int):Int:=N.getD 2 0%256
abbrev s3 (N:List Int):Int:=N.getD 3 0%2
abbrev s4 (N:List Int):Int:=N.getD 4 0%2
abbrev s5 (N:List Int):Int:=N.getD 5 0%4
abbrev s6 (N:List Int):Int:=N.getD 6 0%1048576
abbrev s7 (N:List Int):Int:=N.getD 7 0%256
def Qfm (N:List Int):List Int:=[s0 N,s1 N,s2 N,s3 N,s4 N,s5 N,s6 N,s7 N]
theorem QdD (N:List Int):Qfm N=[s0 N,s1 N,s2 N,s3 N,s4 N,s5 N,s6 N,s7 N]:=rfl
theorem sR (N:List Int):(0≤s0 N∧s0 N < 256)∧(0≤s1 N∧s1 N < 64)∧(0≤s2 N∧s2 N < 256)∧(0≤s3 N∧s3 N < 2)∧(0≤s4 N∧s4 N < 2)∧(0≤s5 N∧s5 N < 4)∧(0≤s6 N∧s6 N < 1048576)∧(0≤s7 N∧s7 N < 256):=by
 unfold s0 s1 s2 s3 s4 s5 s6 s7;omega
def Qce:List Int→List Int
 | [a,l,g,f,o,c,s,z]=>if l > 0 then (if l-1=0 then [a,0,g,f,o,c,(s+1)%1048576,a] else [a,l-1,g,f,o,c,s,z]) else [a,l,g,f,o,c,s,z]
 |l=>l
theorem QnD {a g f o c s z:Int} (n:Nat):QP Qce n [a,0,g,f,o,c,s,z]=[a,0,g,f,o,c,s,z]:=Qg2 rfl n
theorem Ql9 {a g f o c s z:Int}:∀ (n:Nat) (l:Int),(n:Int) < l→QP Qce n [a,l,g,f,o,c,s,z]=[a,l-n,g,f,o,c,s,z]
 |0,l,_=>by rw [QP];simp
 |n+1,l,h=>by
   rw [QP,Qce,if_pos (by omega),if_neg (by omega),Ql9 n (l-1) (by omega)]
   have:l-1-(n:Int)=l-((n+1:Nat):Int):=by omega
   rw [this]
theorem Qzr {a l g f o c s z:Int} (hl:0 < l) (n:Nat) (h:l≤n):QP Qce n [a,l,g,f,o,c,s,z]=[a,0,g,f,o,c,(s+1)%1048576,a]:=by
 have e:n=(l-1).toNat+((n-l.toNat)+1):=by omega
 rw [e,QeX,Ql9 _ _ (by omega)]
 have e1:l-(((l-1).toNat:Nat):Int)=1:=by omega
 rw [e1,QP,Qce,if_pos (by omega),if_pos (by omega)]
 exact QnD _
def QnE:Qk:=⟨[gC,gD],fun (c,d,_)=>(some (c.2.1=5),QeC,[.arr (.int .i64) (Qfm d.1)])⟩
theorem Qbr:Qi Tryz.prog 58 QnE.spec:=by
 have hP:Qe Tryz.prog _:=Qa Qcy (Qc (T:=tree))
 have hT:=tabs hP Qf
 refine QnE.good (fn:=Tryz.f58) hT hP Tryz.func58 (by kernel_rfl) rfl fun (c:Cv) (d:Dv) hp=>?_
 obtain ⟨cn,ck,cb,cs,cd⟩:=c
 obtain rfl:ck=5:=hp _ rfl
 obtain ⟨N,M⟩:=d
 repeat' first |(refine Go.mk ?_;conv=>whnf) |refine Ql.go ?_ ?_ |refine Qm.go (fun _=>?_) (fun _=>?_) |refine Br.dec (fun _=>?_) (fun _=>?_) |refine Br.go (fun _=>?_) (fun _=>?_) |refine Qd hT hP mixed ?_ |refine Qb hT hP ?_
 ·exact (by decide:([256,64,256,2,2,4,1048576,256]:List Int).length≤1000∧∀ m ∈ ([256,64,256,2,2,4,1048576,256]:List Int),0 < m∧m≤4611686018427387904)
 ·exact .mk [] [5] _ R R R R R R R
def QBO:Qk:=⟨[gD],fun (d,_)=>(none,.cell (.own 0),[.arr (.int .i64) (Qfm d.1)])⟩
theorem QfE:Qi Tryz.prog 203 QBO.spec:=by
 have hP:Qe Tryz.prog _:=Qa QT (Qc (T:=tree))
 have hT:=tabs hP Qf
 refine QBO.good (fn:=Tryz.f203) hT hP Tryz.func203 (by kernel_rfl) rfl fun (d:Dv) _=>?_
 obtain ⟨N,M⟩:=d
 repeat' first |(refine Go.mk ?_;conv=>whnf) |refine Ql.go ?_ ?_ |refine Qm.go (fun _=>?_) (fun _=>?_) |refine Br.dec (fun _=>?_) (fun _=>?_) |refine Br.go (fun _=>?_) (fun _=>?_) |refine Qd hT hP mixed ?_ |refine Qb hT hP ?_
 ·exact of_decide_eq_true rfl
 refine QZ 9 ?_
 repeat' first |(refine Go.mk ?_;conv=>whnf) |refine Ql.go ?_ ?_ |refine Qm.go (fun _=>?_) (fun _=>?_) |refine Br.dec (fun _=>?_) (fun _=>?_) |refine Br.go (fun _=>?_) (fun _=>?_) |refine Qd hT hP mixed ?_ |refine Qb hT hP ?_
 all_goals first
  |exact of_decide_eq_true rfl
  |exact .mk [] [1] _ R R R R R R R
def QBP:Qk:=⟨[],fun _=>(none,QeC,[.arr (.int .i64) [0,0,0,0,0,0,0,0]])⟩
theorem Qzs:Qi Tryz.prog 112 QBP.spec:=by
 have hP:Qe Tryz.prog _:=(Qc (T:=tree))
 have hT:=tabs hP Qf
 refine QBP.good (fn:=Tryz.f112) hT hP Tryz.func112 (by kernel_rfl) rfl fun _=>?_
 repeat' first |(refine Go.mk ?_;conv=>whnf) |refine Ql.go ?_ ?_ |refine Qm.go (fun _=>?_) (fun _=>?_) |refine Br.dec (fun _=>?_) (fun _=>?_) |refine Br.go (fun _=>?_) (fun _=>?_) |refine Qd hT hP mixed ?_ |refine Qb hT hP ?_
 all_goals first
  |exact of_decide_eq_true rfl
  |exact .mk [] [1] _ R R R R R R R
def QnF:Qk:=⟨[gC,gD],fun (c,d,_)=>(some (c.2.1=5),QeC,[.arr (.int .i64) (Qce (Qfm d.1))])⟩
theorem Qpr:Qi Tryz.prog 79 QnF.spec:=by
 have hP:Qe Tryz.prog _:=Qa Qbr (Qc (T:=tree))
 have hT:=tabs hP Qf
 refine QnF.good (fn:=Tryz.f79) hT hP Tryz.func79 (by kernel_rfl) rfl fun (c:Cv) (d:Dv) hp=>?_
 obtain ⟨cn,ck,cb,cs,cd⟩:=c
 obtain rfl:ck=5:=hp _ rfl
 obtain ⟨N,M⟩:=d
 obtain ⟨h0,h1,h2,h3,h4,h5,h6,h7⟩:=sR N
 repeat' first |(refine Go.mk ?_;conv=>whnf) |refine Ql.go ?_ ?_ |refine Qm.go (fun _=>?_) (fun _=>?_) |refine Br.dec (fun _=>?_) (fun _=>?_) |refine Br.go (fun _=>?_) (fun _=>?_) |refine Qd hT hP mixed ?_ |refine Qb hT hP ?_
 all_goals first
  |exact rfl
  |exact of_decide_eq_true rfl
  |skip
 ·rename_i g1 g2
  have g1:s1 N > 0:=g1
  have g2:IntKind.i64.wrap (s1 N-1)=0:=g2
  rw [w64 (by omega) (by omega)] at g2
  refine .mk [] [3] _ R R R R R (Qr (l:=[s0 N,IntKind.i64.wrap (s1 N-1),s2 N,s3 N,s4 N,s5 N,Int.tmod (IntKind.i64.wrap (s6 N+1)) 1048576,s0 N]) ?_) rfl
  show _=Qce (Qfm N)
  rw [QdD,Qce,if_pos g1,if_pos g2,w64 (x:=s1 N-1) (by omega) (by omega),g2,w64 (x:=s6 N+1) (by omega) (by omega),Int.tmod_eq_emod_of_nonneg (by omega)]
 ·rename_i g1 g2
  have g1:s1 N > 0:=g1
  have g2:¬ IntKind.i64.wrap (s1 N-1)=0:=g2
  rw [w64 (by omega) (by omega)] at g2
  refine .mk [] [3] _ R R R R R (Qr (l:=[s0 N,IntKind.i64.wrap (s1 N-1),s2 N,s3 N,s4 N,s5 N,s6 N,s7 N]) ?_) rfl
  show _=Qce (Qfm N)
  rw [QdD,Qce,if_pos g1,if_neg g2,w64 (x:=s1 N-1) (by omega) (by omega)]
 ·rename_i g1
  have g1:¬ s1 N > 0:=g1
  refine .mk [] [3] _ R R R R R (Qr (l:=Qfm N) ?_) rfl
  show _=Qce (Qfm N)
  rw [QdD,Qce,if_neg g1]
def QxO:Qk:=⟨[gD,gi],fun (d,k,_)=>(some (k≤4611686018427387904),QeC,[.arr (.int .i64) (QP Qce k.toNat (Qfm d.1))])⟩
theorem Qvd:Qi Tryz.prog 159 QxO.spec:=by
 have hP:Qe Tryz.prog _:=Qa QfE (Qa QT (Qc (T:=tree)))
 have hT:=tabs hP Qf
 refine QxO.good (fn:=Tryz.f159) hT hP Tryz.func159 (by kernel_rfl) rfl fun (d:Dv) (k:Int) hp=>?_
 have hp:k≤4611686018427387904:=hp _ rfl
 obtain ⟨N,M⟩:=d
 obtain ⟨h0,h1,h2,h3,h4,h5,h6,h7⟩:=sR N
 repeat' first |(refine Go.mk ?_;conv=>whnf) |refine Ql.go ?_ ?_ |refine Qm.go (fun _=>?_) (fun _=>?_) |refine Br.dec (fun _=>?_) (fun _=>?_) |refine Br.go (fun _=>?_) (fun _=>?_) |refine Qd hT hP mixed ?_ |refine Qb hT hP ?_
 all_goals first
  |exact rfl
  |exact of_decide_eq_true rfl
  |skip
 ·rename_i g
  refine .mk [] [2] _ R R R R R (Qr (l:=Qfm N) ?_) rfl
  show _=QP Qce k.toNat (Qfm N)
  have:k.toNat=0:=by omega
  rw [this];rfl
 ·rename_i g0 g
  have g:s1 N=0:=g
  refine .mk [] [2] _ R R R R R (Qr (l:=Qfm N) ?_) rfl
  show _=QP Qce k.toNat (Qfm N)
  rw [QdD,g,QnD]
 ·rename_i g0 g g2
  have g2:k < s1 N:=g2
  refine .mk [] [2] _ R R R R R (Qr (l:=[s0 N,IntKind.i64.wrap (s1 N-k),s2 N,s3 N,s4 N,s5 N,s6 N,s7 N]) ?_) rfl
  show _=QP Qce k.toNat (Qfm N)
  rw [QdD,Ql9 _ _ (by omega),w64 (by omega) (by omega)]
  have:((k.toNat:Nat):Int)=k:=by omega
  rw [this]
 ·rename_i g0 g g2
  have g:¬ s1 N=0:=g
  have g2:¬ k < s1 N:=g2
  refine .mk [] [2] _ R R R R R (Qr (l:=[s0 N,0,s2 N,s3 N,s4 N,s5 N,IntKind.i64.wrap (s6 N+1)%1048576,s0 N]) ?_) rfl
  show _=QP Qce k.toNat (Qfm N)
  rw [QdD,Qzr (by omega) _ (by omega),w64 (by omega) (by omega)]
def QnG (N:List Int) (k:Int):List Int:=[s0 N,s1 N,if s3 N=1 then s2 N else k%256,1,if s3 N=1 then 1 else s4 N,s5 N,s6 N,s7 N]
def QGp:Qk:=⟨[gD,gi],fun (d,k,_)=>(none,QeC,[.arr (.int .i64) (QnG d.1 k)])⟩
theorem QBQ:Qi Tryz.prog 242 QGp.spec:=by
 have hP:Qe Tryz.prog _:=Qa QfE (Qa QT (Qc (T:=tree)))
 have hT:=tabs hP Qf
 refine QGp.good (fn:=Tryz.f242) hT hP Tryz.func242 (by kernel_rfl) rfl fun (d:Dv) (k:Int) _=>?_
 obtain ⟨N,M⟩:=d
 repeat' first |(refine Go.mk ?_;conv=>whnf) |refine Ql.go ?_ ?_ |refine Qm.go (fun _=>?_) (fun _=>?_) |refine Br.dec (fun _=>?_) (fun _=>?_) |refine Br.go (fun _=>?_) (fun _=>?_) |refine Qd hT hP mixed ?_ |refine Qb hT hP ?_
 all_goals first
  |exact of_decide_eq_true rfl
  |(rename_i h
     have h:s3 N=1:=h
     refine .mk [] [2] _ R R R R R (Qr (l:=[s0 N,s1 N,s2 N,s3 N,1,s5 N,s6 N,s7 N]) ?_) rfl
     show _=QnG N k
     rw [QnG,if_pos h,if_pos h,h])
  |(rename_i h
     have h:¬ s3 N=1:=h
     refine .mk [] [2] _ R R R R R (Qr (l:=[s0 N,s1 N,k%2 ^ (8:Int).toNat,1,s4 N,s5 N,s6 N,s7 N]) ?_) rfl
     show _=QnG N k
     rw [QnG,if_neg h,if_neg h];rfl)
def Qdo (b:Bool):Int:=match b with |true=>1 |false=>0
def QnH:Qk:=⟨[⟨false,.bool⟩],fun (b,_)=>(none,I (Qdo b),[])⟩
theorem Qve:Qi Tryz.prog 234 QnH.spec:=by
 have hP:Qe Tryz.prog _:=(Qc (T:=tree))
 have hT:=tabs hP Qf
 refine QnH.good (fn:=Tryz.f234) hT hP Tryz.func234 (by kernel_rfl) rfl fun (b:Bool) _=>?_
 repeat' first |(refine Go.mk ?_;conv=>whnf) |refine Ql.go ?_ ?_ |refine Qm.go (fun _=>?_) (fun _=>?_) |refine Br.dec (fun _=>?_) (fun _=>?_) |refine Br.go (fun _=>?_) (fun _=>?_) |refine Qd hT hP mixed ?_ |refine Qb hT hP ?_
 all_goals
  rename_i h
  subst h
  exact .mk [] [] _ R R R R R R R
theorem Qma:Qi Tryz.prog 119 QnH.spec:=by
 have hP:Qe Tryz.prog _:=(Qc (T:=tree))
 have hT:=tabs hP Qf
 refine QnH.good (fn:=Tryz.f119) hT hP Tryz.func119 (by kernel_rfl) rfl fun (b:Bool) _=>?_
 repeat' first |(refine Go.mk ?_;conv=>whnf) |refine Ql.go ?_ ?_ |refine Qm.go (fun _=>?_) (fun _=>?_) |refine Br.dec (fun _=>?_) (fun _=>?_) |refine Br.go (fun _=>?_) (fun _=>?_) |refine Qd hT hP mixed ?_ |refine Qb hT hP ?_
 all_goals
  rename_i h
  subst h
  exact .mk [] [] _ R R R R R R R
theorem Qzt (f o:Int) (b:Bool) (h3:0≤f∧f < 2) (h4:0≤o∧o < 2):lor .i64 (lor .i64 f (shl .i64 (Qdo b) 1)) (shl .i64 o 2)=f+2*Qdo b+4*o:=by
 have e1:f=0∨f=1:=by omega
 have e2:o=0∨o=1:=by omega
 rcases e1 with rfl |rfl<;>rcases e2 with rfl |rfl<;>cases b<;>decide +kernel
theorem Qb2 {x y:Int} (h2:x=y):AV.tup [.agg [.own 0,.imm (.slice none 0 0)],I1 x]=AV.tup [.agg [.own 0,.imm (.slice none 0 0)],I1 y]:=by rw [h2]
def srF (N:List Int) (a:Int):Int:=QbB [s2 N,s3 N+2*Qdo (decide (s1 N > 0))+4*s4 N,s5 N] a
def srN (N:List Int) (a:Int):List Int:=[s0 N,s1 N,s2 N,if a=0 then 0 else s3 N,if a=1 then 0 else s4 N,s5 N,s6 N,s7 N]
def QxP:Qk:=⟨[gD,gi],fun (d,a,_)=>(none,.tup [.agg [.own 0,.imm (.slice none 0 0)],I1 (srF d.1 a)],[.arr (.int .i64) (srN d.1 a)])⟩
theorem Qvf:Qi Tryz.prog 175 QxP.spec:=by
 have hP:Qe Tryz.prog _:=Qa QfE (Qa Qve (Qc (T:=tree)))
 have hT:=tabs hP Qf
 refine QxP.good (fn:=Tryz.f175) hT hP Tryz.func175 (by kernel_rfl) rfl fun (d:Dv) (a:Int) _=>?_
 obtain ⟨N,M⟩:=d
 obtain ⟨h0,h1,h2,h3,h4,h5,h6,h7⟩:=sR N
 repeat' first |(refine Go.mk ?_;conv=>whnf) |refine Ql.go ?_ ?_ |refine Qm.go (fun _=>?_) (fun _=>?_) |refine Br.dec (fun _=>?_) (fun _=>?_) |refine Br.go (fun _=>?_) (fun _=>?_) |refine Qd hT hP mixed ?_ |refine Qb hT hP ?_
 all_goals (try subst_vars)
 all_goals first
  |exact rfl
  |exact of_decide_eq_true rfl
  |exact .mk [] [2] _ R R R R R R R
  |skip
 ·refine .mk [] [2] _ R R R R R R (Qb2 ?_)
  exact Qzt (s3 N) (s4 N) (decide (s1 N > 0)) h3 h4
 ·rename_i g0 g1 g2
  have e:srF N a=0:=Qg1 fun i hi=>by
   have:i < 3:=hi
   omega
  refine .mk [] [2] _ R R R R R (Qr (l:=Qfm N) ?_) (Qb2 e.symm)
  show _=srN N a
  rw [QdD,srN,if_neg g0,if_neg g1]
theorem QeY (M:List Int) {n:Nat} (h:n≤M.length):over (List.replicate n 0) M 0=M.take n:=by
 rw [QgG]
 simp [h]
def qF (M:List Int):Nat:=M.length/256
def dM (M:List Int):List Int:=M.take (qF M*256)
theorem Qmb (M:List Int):qF M*256≤M.length:=by unfold qF;omega
theorem QkE (M:List Int):(dM M).length=qF M*256:=by
 unfold dM;rw [List.length_take];have:=Qmb M;omega
theorem QkF (M:List Int) (h:M.length≤140737488355328):IntKind.i64.wrap (IntKind.i64.wrap (Int.tdiv (M.length:Int) 256)*256)=((qF M*256:Nat):Int):=by
 rw [Int.tdiv_eq_ediv_of_nonneg (by omega),w64 (x:=(M.length:Int)/256) (by omega) (by omega),w64 (by omega) (by omega)]
 unfold qF;omega
def dN (N:List Int) (q:Nat):List Int :=
 [if N.getD 0 0%256 > q then 0 else N.getD 0 0%256,N.getD 1 0%4,if N.getD 2 0%8 > 4 then 0 else N.getD 2 0%8,N.getD 3 0%4,N.getD 4 0%16,N.getD 5 0%64,N.getD 6 0%256,N.getD 7 0%2,N.getD 8 0%2,N.getD 9 0%2]
theorem QdE {x y:Int} (h:x=y):AV.tup [.agg [.own 0,.own 1],I1 x]=AV.tup [.agg [.own 0,.own 1],I1 y]:=by rw [h]
theorem Qy {l l' m m':List Int} (h:l=l') (h2:m=m'):[some (Blk.arr (.int .i64) l),some (Blk.arr (.int .u8) m)]=[some (Blk.arr (.int .i64) l'),some (Blk.arr (.int .u8) m')]:=by rw [h,h2]
theorem QnI (N:List Int):∀ (l:List Int) (i k:Nat),k < l.length→(over l N i).getD k 0=N.getD (i+k) (l.getD k 0)
 |d :: l,i,0,_=>by simp [over]
 |d :: l,i,k+1,h=>by
   have:=QnI N l (i+1) k (by simpa using h)
   have e:i+1+k=i+(k+1):=by omega
   rw [e] at this
   simpa [over] using this
theorem Qzu (n k:Nat):(List.replicate n (0:Int)).getD k 0=0:=by
 rw [List.getD_eq_getElem?_getD,List.getElem?_replicate]
 split<;>rfl
def dL (N:List Int) (x y:Int):List Int:=[x,N.getD 1 0%4,y,N.getD 3 0%4,N.getD 4 0%16,N.getD 5 0%64,N.getD 6 0%256,N.getD 7 0%2,N.getD 8 0%2,N.getD 9 0%2]
def QhP (N C ms:List Int) (k:Nat):List Int:=Qeb N (ms.take k) 0++C.drop k
theorem QkG (N C ms:List Int) {k:Nat} (h:k≤ms.length) (hc:C.length=ms.length):(QhP N C ms k).length=ms.length:=by
 simp [QhP,Qb1];omega
theorem Qru (N C ms:List Int) {k:Nat} (h:k < ms.length) (hc:C.length=ms.length):(QhP N C ms k).getD k 0=C.getD k 0:=by
 have hl:(Qeb N (ms.take k) 0).length=k:=by rw [Qb1,List.length_take];omega
 unfold QhP
 rw [List.getD_eq_getElem?_getD,List.getElem?_append_right (by omega),hl,Nat.sub_self,List.getElem?_drop,List.getD_eq_getElem?_getD]
 rfl
theorem Qrv (N C ms:List Int) {k:Nat} (h:k < ms.length) (hc:C.length=ms.length):(QhP N C ms k).set k (N.getD k 0%ms.getD k 0)=QhP N C ms (k+1):=by
 have hl:(Qeb N (ms.take k) 0).length=k:=by rw [Qb1,List.length_take];omega
 unfold QhP
 rw [List.set_append,if_neg (by omega),hl,Nat.sub_self,List.drop_eq_getElem_cons (by omega),List.set_cons_zero,QfC N ms 0 k h]
 simp
def Qps:List Int:=[256,4,8,4,16,64,256,2,2,2]
def Qvg:List Int:=[8,2,3,2,4,6,8,1,1,1]
theorem QnJ:∀ k,k < 10→(0≤Qvg.getD k 0∧Qvg.getD k 0≤62)∧(2:Int) ^ (Qvg.getD k 0).toNat=Qps.getD k 0:=by decide +kernel
theorem Qec (N:List Int) (q:Nat):dN N q=[if N.getD 0 0%256 > q then 0 else N.getD 0 0%256,N.getD 1 0%4,if N.getD 2 0%8 > 4 then 0 else N.getD 2 0%8,N.getD 3 0%4,N.getD 4 0%16,N.getD 5 0%64,N.getD 6 0%256,N.getD 7 0%2,N.getD 8 0%2,N.getD 9 0%2]:=rfl
def QBR:Qk:=⟨[gD],fun (d,_)=>(some (List.length d.2≤140737488355328),.tup [.c (.own 0),.c (.own 1)],[.arr (.int .i64) (dN d.1 (qF d.2)),.arr (.int .u8) (dM d.2)])⟩
theorem QfF:Qi Tryz.prog 204 QBR.spec:=by
 have hP:Qe Tryz.prog _:=Qa QT (Qc (T:=tree))
 have hT:=tabs hP Qf
 refine QBR.good (fn:=Tryz.f204) hT hP Tryz.func204 (by kernel_rfl) rfl fun (d:Dv) hp=>?_
 obtain ⟨N,M⟩:=d
 have hp:M.length≤140737488355328:=hp _ rfl
 have hq:=QkF M hp
 have hq2:=Qmb M
 have hqi:IntKind.i64.wrap (Int.tdiv ((dM M).length:Int) 256)=((qF M:Nat):Int):=by
  rw [QkE,Int.tdiv_eq_ediv_of_nonneg (by omega),w64 (by omega) (by omega)];omega
 repeat' first |(refine Go.mk ?_;conv=>whnf) |refine Ql.go ?_ ?_ |refine Qm.go (fun _=>?_) (fun _=>?_) |refine Br.dec (fun _=>?_) (fun _=>?_) |refine Br.go (fun _=>?_) (fun _=>?_) |refine Qd hT hP mixed ?_ |refine Qb hT hP ?_
 ·exact of_decide_eq_true rfl
 have hC:∀ k,k < 10→(over (List.replicate 10 0) N 0).getD k 0=N.getD k 0:=by
  intro k hk
  rw [QnI N _ 0 k (by simpa using hk),Nat.zero_add,Qzu 10 k]
 have hCl:(over (List.replicate 10 0) N 0).length=10:=by rw [QbW];rfl
 refine Qay hT hP (X:=Int × List Int) (fun (i,n)=>St.mk (E1 ((.cell (.ptr 0 0)) :: E2 ((.cell (.own 1)) :: E5 (E3 ((.agg [.run .i64 10 [8,2,3,2,4,6,8,1,1,1]]) :: (I i) :: E40 []))))) [some (.var [.ro (.int .i64) N,.ro (.int .u8) M]),some (.arr (.int .i64) n)])
  (fun (i,n)=>∃ k:Nat,i=k∧k≤10∧n=QhP N (over (List.replicate 10 0) N 0) Qps k) (fun (i,_)=>(10-i).toNat) (0,over (List.replicate 10 0) N 0) (Le.mk [] [0,1] R R ?_ ?_) ?_ fun (i,n) hi=>?_
 rotate_right
 repeat' first |(refine Go.mk ?_;conv=>whnf) |refine Ql.go ?_ ?_ |refine Qm.go (fun _=>?_) (fun _=>?_) |refine Br.dec (fun _=>?_) (fun _=>?_) |refine Br.go (fun _=>?_) (fun _=>?_) |refine Qd hT hP mixed ?_ |refine Qb hT hP ?_
 rotate_right 3
 ·exact rfl
 ·repeat' first |exact trivial |exact ⟨rfl,rfl⟩ |refine And.intro ?_ ?_
 ·exact ⟨0,rfl,by omega,rfl⟩
 all_goals first
  |exact of_decide_eq_true rfl
  |(obtain ⟨k,rfl,hk,rfl⟩:=hi;omega)
  |(obtain ⟨k,rfl,hk,rfl⟩:=hi;rw [QkG _ _ _ hk hCl];show _∧_ < ((10:Nat):Int);omega)
  |(obtain ⟨k,rfl,hk,rfl⟩:=hi;rw [QkG _ _ _ hk hCl];show _ < 10;omega)
  |skip
 ·obtain ⟨k,rfl,hk,rfl⟩:=hi
  exact (QnJ k (by omega)).1
 ·obtain ⟨k,rfl,hk,rfl⟩:=hi
  have e:IntKind.i64.wrap ((k:Int)+1)=((k+1:Nat):Int):=by rw [w64 (by omega) (by omega)];omega
  have hk2:k < 10:=by omega
  apply Exists.intro (_,_)
  refine And.intro ?_ (And.intro ?_ (Le.mk [] [0,1] R R ?hh ?ht))
  case hh=>exact rfl
  case ht=>repeat' first |exact trivial |exact ⟨rfl,rfl⟩ |refine And.intro ?_ ?_
  ·refine ⟨k+1,e,by omega,?_⟩
   show (QhP N (over (List.replicate 10 0) N 0) Qps k).set k ((QhP N (over (List.replicate 10 0) N 0) Qps k).getD k 0%2 ^ (Qvg.getD k 0).toNat)=_
   rw [Qru N _ Qps hk2 hCl,hC k hk2,(QnJ k hk2).2]
   exact Qrv N _ Qps hk2 hCl
  ·show (10-IntKind.i64.wrap ((k:Int)+1)).toNat < (10-(k:Int)).toNat
   rw [e];omega
 all_goals
  obtain ⟨k,rfl,hk,rfl⟩:=hi
  obtain rfl:k=10:=by omega
  have hm:over (List.replicate (IntKind.i64.wrap (IntKind.i64.wrap (Int.tdiv (M.length:Int) 256)*256)).toNat 0) M 0=dM M:=by
   rw [hq];exact QeY M hq2
  try exact of_decide_eq_true rfl
 ·have e:ty5.bytes=1:=rfl
  rw [e,show (List.length (N,M).2)=M.length from rfl,hq]
  omega
 ·rename_i h1 h2
  have h1:N.getD 0 0%256 > IntKind.i64.wrap (Int.tdiv ((over (List.replicate (IntKind.i64.wrap (IntKind.i64.wrap (Int.tdiv (M.length:Int) 256)*256)).toNat 0) M 0).length:Int) 256):=h1
  have h2:N.getD 2 0%8 > 4:=h2
  rw [hm,hqi] at h1
  refine .mk [] [1,2] _ R R R R R (Qy (l:=dL N 0 0) (l':=dN N (qF M)) ?_ hm) rfl
  rw [Qec,if_pos h1,if_pos h2];rfl
 ·rename_i h1 h2
  have h1:N.getD 0 0%256 > IntKind.i64.wrap (Int.tdiv ((over (List.replicate (IntKind.i64.wrap (IntKind.i64.wrap (Int.tdiv (M.length:Int) 256)*256)).toNat 0) M 0).length:Int) 256):=h1
  have h2:¬ N.getD 2 0%8 > 4:=h2
  rw [hm,hqi] at h1
  refine .mk [] [1,2] _ R R R R R (Qy (l:=dL N 0 (N.getD 2 0%8)) (l':=dN N (qF M)) ?_ hm) rfl
  rw [Qec,if_pos h1,if_neg h2];rfl
 ·rename_i h1 h2
  have h1:¬ N.getD 0 0%256 > IntKind.i64.wrap (Int.tdiv ((over (List.replicate (IntKind.i64.wrap (IntKind.i64.wrap (Int.tdiv (M.length:Int) 256)*256)).toNat 0) M 0).length:Int) 256):=h1
  have h2:N.getD 2 0%8 > 4:=h2
  rw [hm,hqi] at h1
  refine .mk [] [1,2] _ R R R R R (Qy (l:=dL N (N.getD 0 0%256) 0) (l':=dN N (qF M)) ?_ hm) rfl
  rw [Qec,if_neg h1,if_pos h2];rfl
 ·rename_i h1 h2
  have h1:¬ N.getD 0 0%256 > IntKind.i64.wrap (Int.tdiv ((over (List.replicate (IntKind.i64.wrap (IntKind.i64.wrap (Int.tdiv (M.length:Int) 256)*256)).toNat 0) M 0).length:Int) 256):=h1
  have h2:¬ N.getD 2 0%8 > 4:=h2
  rw [hm,hqi] at h1
  refine .mk [] [1,2] _ R R R R R (Qy (l:=dL N (N.getD 0 0%256) (N.getD 2 0%8)) (l':=dN N (qF M)) ?_ hm) rfl
  rw [Qec,if_neg h1,if_neg h2];rfl
def QBS:Qk:=⟨[gb],fun (b,_)=>(some (List.length b≤140737488355328),.agg [.own 0,.own 1],[.arr (.int .i64) [0,0,0,0,0,0,0,0,0,0],.arr (.int .u8) (dM b)])⟩
theorem Qzv:Qi Tryz.prog 115 QBS.spec:=by
 have hP:Qe Tryz.prog _:=(Qc (T:=tree))
 have hT:=tabs hP Qf
 refine QBS.good (fn:=Tryz.f115) hT hP Tryz.func115 (by kernel_rfl) rfl fun (M:List Int) hp=>?_
 have hp:M.length≤140737488355328:=hp _ rfl
 have hq:=QkF M hp
 have hq2:=Qmb M
 repeat' first |(refine Go.mk ?_;conv=>whnf) |refine Ql.go ?_ ?_ |refine Qm.go (fun _=>?_) (fun _=>?_) |refine Br.dec (fun _=>?_) (fun _=>?_) |refine Br.go (fun _=>?_) (fun _=>?_) |refine Qd hT hP mixed ?_ |refine Qb hT hP ?_
 all_goals first
  |exact of_decide_eq_true rfl
  |skip
 ·have e:ty5.bytes=1:=rfl
  rw [e,hq]
  omega
 ·have hm:over (List.replicate (IntKind.i64.wrap (IntKind.i64.wrap (Int.tdiv (M.length:Int) 256)*256)).toNat 0) M 0=dM M:=by
   rw [hq];exact QeY M hq2
  exact .mk [] [2,1] _ R R R R R (Qy (l:=[0,0,0,0,0,0,0,0,0,0]) rfl hm) rfl
def QBT:Qk:=⟨[gl],fun (n,_)=>(some (2 < List.length n),I (imin 1 (List.getD n 2 0)),[])⟩
theorem Qzw:Qi Tryz.prog 236 QBT.spec:=by
 have hP:Qe Tryz.prog _:=(Qc (T:=tree))
 have hT:=tabs hP Qf
 refine QBT.good (fn:=Tryz.f236) hT hP Tryz.func236 (by kernel_rfl) rfl fun (n:List Int) hp=>?_
 have hp:2 < n.length:=hp _ rfl
 repeat' first |(refine Go.mk ?_;conv=>whnf) |refine Ql.go ?_ ?_ |refine Qm.go (fun _=>?_) (fun _=>?_) |refine Br.dec (fun _=>?_) (fun _=>?_) |refine Br.go (fun _=>?_) (fun _=>?_) |refine Qd hT hP mixed ?_ |refine Qb hT hP ?_
 ·omega
 ·exact .mk [] [] _ R R R R R R R
theorem Qi6:([256,4,8,4,16,64,256,2,2,2]:List Int).length≤1000∧∀ m ∈ ([256,4,8,4,16,64,256,2,2,2]:List Int),0 < m∧m≤4611686018427387904:=by decide
def QkH:Qk:=⟨[gC,gD],fun (c,d,_)=>(some (c.2.1=8∧List.length d.2≤140737488355328∧qF d.2=0),.agg [.own 0,.imm (.slice none 0 0)],[.arr (.int .i64) (dN d.1 (qF d.2))])⟩
theorem Qg3:Qi Tryz.prog 58 QkH.spec:=by
 have hP:Qe Tryz.prog _:=Qa Qcy (Qc (T:=tree))
 have hT:=tabs hP Qf
 refine QkH.good (fn:=Tryz.f58) hT hP Tryz.func58 (by kernel_rfl) rfl fun (c:Cv) (d:Dv) hp=>?_
 obtain ⟨cn,ck,cb,cs,cd⟩:=c
 obtain ⟨N,M⟩:=d
 obtain ⟨rfl,hl,h0⟩:ck=8∧M.length≤140737488355328∧qF M=0:=hp _ rfl
 have hq:=QkF M hl
 rw [h0] at hq
 repeat' first |(refine Go.mk ?_;conv=>whnf) |refine Ql.go ?_ ?_ |refine Qm.go (fun _=>?_) (fun _=>?_) |refine Br.dec (fun _=>?_) (fun _=>?_) |refine Br.go (fun _=>?_) (fun _=>?_) |refine Qd hT hP mixed ?_ |refine Qb hT hP ?_
 all_goals first
  |exact Qi6
  |exact of_decide_eq_true rfl
  |skip
 all_goals first
  |(exfalso;rename_i h;have h:IntKind.i64.wrap (IntKind.i64.wrap (Int.tdiv (M.length:Int) 256)*256) > 0:=h;rw [hq] at h;omega)
  |(rename_i h1 h2 h
     have h1:IntKind.i64.wrap (N.getD 0 0%256*256) > IntKind.i64.wrap (IntKind.i64.wrap (Int.tdiv (M.length:Int) 256)*256):=h1
     have h2:N.getD 2 0%8 > 4:=h2
     rw [hq,w64 (by omega) (by omega)] at h1
     refine .mk [] [5] _ R R R R R (Qr (l:=dL N 0 0) (l':=dN N (qF M)) ?_) rfl
     rw [Qec,if_pos (by omega),if_pos h2];rfl)
  |(rename_i h1 h2 h
     have h1:IntKind.i64.wrap (N.getD 0 0%256*256) > IntKind.i64.wrap (IntKind.i64.wrap (Int.tdiv (M.length:Int) 256)*256):=h1
     have h2:¬ N.getD 2 0%8 > 4:=h2
     rw [hq,w64 (by omega) (by omega)] at h1
     refine .mk [] [5] _ R R R R R (Qr (l:=dL N 0 (N.getD 2 0%8)) (l':=dN N (qF M)) ?_) rfl
     rw [Qec,if_pos (by omega),if_neg h2];rfl)
  |(rename_i h1 h2 h
     have h1:¬ IntKind.i64.wrap (N.getD 0 0%256*256) > IntKind.i64.wrap (IntKind.i64.wrap (Int.tdiv (M.length:Int) 256)*256):=h1
     have h2:N.getD 2 0%8 > 4:=h2
     rw [hq,w64 (by omega) (by omega)] at h1
     refine .mk [] [5] _ R R R R R (Qr (l:=dL N (N.getD 0 0%256) 0) (l':=dN N (qF M)) ?_) rfl
     rw [Qec,if_neg (by omega),if_pos h2];rfl)
  |(rename_i h1 h2 h
     have h1:¬ IntKind.i64.wrap (N.getD 0 0%256*256) > IntKind.i64.wrap (IntKind.i64.wrap (Int.tdiv (M.length:Int) 256)*256):=h1
     have h2:¬ N.getD 2 0%8 > 4:=h2
     rw [hq,w64 (by omega) (by omega)] at h1
     refine .mk [] [5] _ R R R R R (Qr (l:=dL N (N.getD 0 0%256) (N.getD 2 0%8)) (l':=dN N (qF M)) ?_) rfl
     rw [Qec,if_neg (by omega),if_neg h2];rfl)
def QkI:Qk:=⟨[gC,gD],fun (c,d,_)=>(some (c.2.1=8∧List.length d.2≤140737488355328∧0 < qF d.2),.agg [.own 0,.own 1],[.arr (.int .i64) (dN d.1 (qF d.2)),.arr (.int .u8) (dM d.2)])⟩
theorem Qet:Qi Tryz.prog 58 QkI.spec:=by
 have hP:Qe Tryz.prog _:=Qa Qcy (Qc (T:=tree))
 have hT:=tabs hP Qf
 refine QkI.good (fn:=Tryz.f58) hT hP Tryz.func58 (by kernel_rfl) rfl fun (c:Cv) (d:Dv) hp=>?_
 obtain ⟨cn,ck,cb,cs,cd⟩:=c
 obtain ⟨N,M⟩:=d
 obtain ⟨rfl,hl,h0⟩:ck=8∧M.length≤140737488355328∧0 < qF M:=hp _ rfl
 have hq:=QkF M hl
 have hq2:=Qmb M
 have hm:over (List.replicate (IntKind.i64.wrap (IntKind.i64.wrap (Int.tdiv (M.length:Int) 256)*256)).toNat 0) M 0=dM M:=by
  rw [hq];exact QeY M hq2
 repeat' first |(refine Go.mk ?_;conv=>whnf) |refine Ql.go ?_ ?_ |refine Qm.go (fun _=>?_) (fun _=>?_) |refine Br.dec (fun _=>?_) (fun _=>?_) |refine Br.go (fun _=>?_) (fun _=>?_) |refine Qd hT hP mixed ?_ |refine Qb hT hP ?_
 all_goals first
  |exact Qi6
  |exact of_decide_eq_true rfl
  |skip
 all_goals first
  |(exfalso;rename_i h;have h:¬ IntKind.i64.wrap (IntKind.i64.wrap (Int.tdiv (M.length:Int) 256)*256) > 0:=h;rw [hq] at h;omega)
  |(have e:ty5.bytes=1:=rfl
     rw [e,show (List.length (N,M).2)=M.length from rfl,hq];omega)
  |(rename_i h1 h2 h
     have h1:IntKind.i64.wrap (N.getD 0 0%256*256) > IntKind.i64.wrap (IntKind.i64.wrap (Int.tdiv (M.length:Int) 256)*256):=h1
     have h2:N.getD 2 0%8 > 4:=h2
     rw [hq,w64 (by omega) (by omega)] at h1
     refine .mk [] [5,6] _ R R R R R (Qy (l:=dL N 0 0) (l':=dN N (qF M)) ?_ hm) rfl
     rw [Qec,if_pos (by omega),if_pos h2];rfl)
  |(rename_i h1 h2 h
     have h1:IntKind.i64.wrap (N.getD 0 0%256*256) > IntKind.i64.wrap (IntKind.i64.wrap (Int.tdiv (M.length:Int) 256)*256):=h1
     have h2:¬ N.getD 2 0%8 > 4:=h2
     rw [hq,w64 (by omega) (by omega)] at h1
     refine .mk [] [5,6] _ R R R R R (Qy (l:=dL N 0 (N.getD 2 0%8)) (l':=dN N (qF M)) ?_ hm) rfl
     rw [Qec,if_pos (by omega),if_neg h2];rfl)
  |(rename_i h1 h2 h
     have h1:¬ IntKind.i64.wrap (N.getD 0 0%256*256) > IntKind.i64.wrap (IntKind.i64.wrap (Int.tdiv (M.length:Int) 256)*256):=h1
     have h2:N.getD 2 0%8 > 4:=h2
     rw [hq,w64 (by omega) (by omega)] at h1
     refine .mk [] [5,6] _ R R R R R (Qy (l:=dL N (N.getD 0 0%256) 0) (l':=dN N (qF M)) ?_ hm) rfl
     rw [Qec,if_neg (by omega),if_pos h2];rfl)
  |(rename_i h1 h2 h
     have h1:¬ IntKind.i64.wrap (N.getD 0 0%256*256) > IntKind.i64.wrap (IntKind.i64.wrap (Int.tdiv (M.length:Int) 256)*256):=h1
     have h2:¬ N.getD 2 0%8 > 4:=h2
     rw [hq,w64 (by omega) (by omega)] at h1
     refine .mk [] [5,6] _ R R R R R (Qy (l:=dL N (N.getD 0 0%256) (N.getD 2 0%8)) (l':=dN N (qF M)) ?_ hm) rfl
     rw [Qec,if_neg (by omega),if_neg h2];rfl)
end Go.Proofs.YtofgbclopbmlcaaGreat

namespace Go.Fw
set_option linter.unusedVariables false
set_option linter.unusedSimpArgs false
theorem Qi.cases {P:Program} {f:Nat} {gs:List Sig} {o o1 o2:Args gs→Option Prop × AV × List Blk} (h1:Qi P f (Qk.spec ⟨gs,o1⟩)) (h2:Qi P f (Qk.spec ⟨gs,o2⟩))
 (h:∀ xs,(∀ q,(o xs).1=some q→q)→((∀ q,(o1 xs).1=some q→q)∧(o1 xs).2=(o xs).2)∨((∀ q,(o2 xs).1=some q→q)∧(o2 xs).2=(o xs).2)):Qi P f (Qk.spec ⟨gs,o⟩):=by
 refine ⟨?_,h1.2⟩
 intro E0 vs args bl p r upd fresh hH hU hok hvs hrun hp
 unfold Qk.spec at hrun
 simp only at hrun
 split at hrun
 ·split at hrun
  ·rename_i xs hxs
   simp only [Option.some.injEq,Prod.mk.injEq] at hrun
   obtain ⟨rfl,rfl,rfl,rfl⟩:=hrun
   have run:∀ o':Args gs→Option Prop × AV × List Blk,(o' xs).2=(o xs).2→(Qk.spec ⟨gs,o'⟩).run args []=some ((o' xs).1,(o xs).2.1,[],(o xs).2.2):=by
    intro o' he
    unfold Qk.spec
    simp only [hxs,he]
   rcases h xs hp with ⟨hp',he⟩ |⟨hp',he⟩
   ·exact h1.1 E0 vs args [] _ _ _ _ hH hU hok hvs (run o1 he) hp'
   ·exact h2.1 E0 vs args [] _ _ _ _ hH hU hok hvs (run o2 he) hp'
  ·cases hrun
 ·cases hrun
theorem Qi.map {P:Program} {f:Nat} {gs:List Sig} {o o':Args gs→Option Prop × AV × List Blk} (h1:Qi P f (Qk.spec ⟨gs,o⟩))
 (h:∀ xs,(∀ q,(o' xs).1=some q→q)→(∀ q,(o xs).1=some q→q)∧(o xs).2.2=(o' xs).2.2∧∀ E v,AVR E (o xs).2.1 v→AVR E (o' xs).2.1 v):Qi P f (Qk.spec ⟨gs,o'⟩):=by
 refine ⟨?_,h1.2⟩
 intro E0 vs args bl p r upd fresh hH hU hok hvs hrun hp
 unfold Qk.spec at hrun
 simp only at hrun
 split at hrun
 ·split at hrun
  ·rename_i xs hxs
   simp only [Option.some.injEq,Prod.mk.injEq] at hrun
   obtain ⟨rfl,rfl,rfl,rfl⟩:=hrun
   obtain ⟨k1,k2,k3⟩:=h xs hp
   have run:(Qk.spec ⟨gs,o⟩).run args []=some ((o xs).1,(o xs).2.1,[],(o' xs).2.2):=by
    unfold Qk.spec
    simp only [hxs,k2]
   refine (h1.1 E0 vs args [] _ _ _ _ hH hU hok hvs run k1).mono ?_
   rintro e w' ⟨v,E',he,hw,hb⟩
   exact ⟨v,E',he,hw,k3 E' v hb.val,hb.ok,hb.H,hb.U,hb.ext,hb.fr⟩
  ·cases hrun
 ·cases hrun
theorem Qi.nil {P:Program} {f:Nat} {gs:List Sig} {o o':Args gs→Option Prop × AV × List Blk} (t:Ty) (h1:Qi P f (Qk.spec ⟨gs,o⟩))
 (h:∀ xs,(∀ q,(o' xs).1=some q→q)→(∀ q,(o xs).1=some q→q)∧noA (o xs).2.2.length (o xs).2.1=some (o' xs).2.1∧(o xs).2.2++[.arr t []]=(o' xs).2.2):Qi P f (Qk.spec ⟨gs,o'⟩):=by
 refine ⟨?_,h1.2⟩
 intro E0 vs args bl p r upd fresh hH hU hok hvs hrun hp
 unfold Qk.spec at hrun
 simp only at hrun
 split at hrun
 ·split at hrun
  ·rename_i xs hxs
   simp only [Option.some.injEq,Prod.mk.injEq] at hrun
   obtain ⟨rfl,rfl,rfl,rfl⟩:=hrun
   obtain ⟨k1,k2,k3⟩:=h xs hp
   have run:(Qk.spec ⟨gs,o⟩).run args []=some ((o xs).1,(o xs).2.1,[],(o xs).2.2):=by
    unfold Qk.spec
    simp only [hxs]
   refine (h1.1 E0 vs args [] _ _ _ _ hH hU hok hvs run k1).mono ?_
   rintro e w' ⟨v,E',he,hw,hb⟩
   have:=Qj1.nil hb t (r:=(o' xs).2.1) (by simpa using k2)
   rw [k3] at this
   exact ⟨v,QbK E' [] _ t,he,hw,this⟩
  ·cases hrun
 ·cases hrun
inductive QqB:AV × List Blk→AV × List Blk→Prop where
 |refl {x:AV × List Blk}:QqB x x
 |nil {r r2:AV} {fr:List Blk} {y:AV × List Blk} (t:Ty) (h:noA fr.length r=some r2) (h2:QqB (r2,fr++[.arr t []]) y):QqB (r,fr) y
theorem Qj1.conv {E0:Env} {upd:List (Option Blk)} {x y:AV × List Blk} (h:QqB x y):∀ {E:Env} {v:Value},Qj1 E0 0 x.1 upd x.2 v E→∃ E',E'.w=E.w∧Qj1 E0 0 y.1 upd y.2 v E':=by
 induction h with
 |refl=>intro E v hb;exact ⟨E,rfl,hb⟩
 |nil t h h2 ih =>
   intro E v hb
   obtain ⟨E',e,hb'⟩:=ih (Qj1.nil hb t (by simpa using h))
   exact ⟨E',e,hb'⟩
theorem Qi.sel {P:Program} {f:Nat} {s0:Qcm} {gs:List Sig} {o:Args gs→Option Prop × AV × List Blk} (h0:Qi P f s0)
 (h:∀ xs,(∀ q,(o xs).1=some q→q)→∃ o1:Args gs→Option Prop × AV × List Blk,Qi P f (Qk.spec ⟨gs,o1⟩)∧(∀ q,(o1 xs).1=some q→q)∧QqB (o1 xs).2 (o xs).2):Qi P f (Qk.spec ⟨gs,o⟩):=by
 refine ⟨?_,h0.2⟩
 intro E0 vs args bl p r upd fresh hH hU hok hvs hrun hp
 unfold Qk.spec at hrun
 simp only at hrun
 split at hrun
 ·split at hrun
  ·rename_i xs hxs
   simp only [Option.some.injEq,Prod.mk.injEq] at hrun
   obtain ⟨rfl,rfl,rfl,rfl⟩:=hrun
   obtain ⟨o1,g1,k1,k2⟩:=h xs hp
   have run:(Qk.spec ⟨gs,o1⟩).run args []=some ((o1 xs).1,(o1 xs).2.1,[],(o1 xs).2.2):=by
    unfold Qk.spec
    simp only [hxs]
   refine (g1.1 E0 vs args [] _ _ _ _ hH hU hok hvs run k1).mono ?_
   rintro e w' ⟨v,E',he,hw,hb⟩
   obtain ⟨E2,e2,hb2⟩:=Qj1.conv k2 hb
   exact ⟨v,E2,he,e2.trans hw,hb2⟩
  ·cases hrun
 ·cases hrun
theorem AVR.nil_ro {E:Env} {a:QD} {t:Ty} {v:Value} (h:AVR E (.agg [a,.imm (.slice none 0 0)]) v):AVR E (.agg [a,.ro t []]) v:=by
 obtain ⟨vals,e,r,s,e1,h1,r2,s2,e2,h2,h3⟩:=h
 refine ⟨vals,e,r,s,e1,h1,r2,s2,e2,?_,h3⟩
 obtain ⟨e3,_⟩:=h2
 exact ⟨_,e3,none,0,rfl,Nat.le_refl _,fun hne=>absurd rfl hne⟩
end Go.Fw



namespace Go.Proofs.YtofgbclopbmlcaaGreat
open Go.Fw
set_option linter.unusedVariables false
set_option linter.unusedSimpArgs false
set_option maxRecDepth 100000
abbrev e0 (N:List Int) (q:Nat):Int:=if N.getD 0 0%256 > q then 0 else N.getD 0 0%256
abbrev e1 (N:List Int):Int:=N.getD 1 0%4
abbrev e2 (N:List Int):Int:=if N.getD 2 0%8 > 4 then 0 else N.getD 2 0%8
abbrev e3 (N:List Int):Int:=N.getD 3 0%4
abbrev e4 (N:List Int):Int:=N.getD 4 0%16
abbrev e5 (N:List Int):Int:=N.getD 5 0%64
abbrev e6 (N:List Int):Int:=N.getD 6 0%256
abbrev e7 (N:List Int):Int:=N.getD 7 0%2
abbrev e8 (N:List Int):Int:=N.getD 8 0%2
abbrev e9 (N:List Int):Int:=N.getD 9 0%2
theorem Qvo (N:List Int) (q:Nat):dN N q=[e0 N q,e1 N,e2 N,e3 N,e4 N,e5 N,e6 N,e7 N,e8 N,e9 N]:=rfl
theorem eR (N:List Int) (q:Nat):(0≤e0 N q∧e0 N q < 256)∧(0≤e1 N∧e1 N < 4)∧(0≤e2 N∧e2 N≤4)∧(0≤e3 N∧e3 N < 4)∧(0≤e4 N∧e4 N < 16)∧(0≤e5 N∧e5 N < 64)∧(0≤e6 N∧e6 N < 256)∧(0≤e7 N∧e7 N < 2)∧(0≤e8 N∧e8 N < 2)∧(0≤e9 N∧e9 N < 2):=by
 unfold e0 e1 e2 e3 e4 e5 e6 e7 e8 e9
 refine ⟨?_,?_,?_,?_,?_,?_,?_,?_,?_,?_⟩
 ·split<;>omega
 ·omega
 ·split<;>omega
 all_goals omega
theorem QnN {m m':List Int} (h:m=m'):AV.agg [.own 0,.ro (.int .u8) m]=AV.agg [.own 0,.ro (.int .u8) m']:=by rw [h]
def QrG:Qk:=⟨[gC,gD],fun (c,d,_)=>(some (c.2.1=8∧List.length d.2≤140737488355328),.agg [.own 0,.ro (.int .u8) (dM d.2)],[.arr (.int .i64) (dN d.1 (qF d.2))])⟩
def Qpy:Qk:=⟨[gC,gD],fun (c,d,_)=>(some (c.2.1=8∧List.length d.2≤140737488355328∧qF d.2=0),.agg [.own 0,.ro (.int .u8) []],[.arr (.int .i64) (dN d.1 (qF d.2))])⟩
theorem QkO:Qi Tryz.prog 58 Qpy.spec :=
 Qi.map Qg3 fun (c,d,_) hp=>⟨hp,rfl,fun E v h=>h.nil_ro⟩
def Qii:Qk:=⟨[gC,gD],fun (c,d,_)=>(some (c.2.1=8∧List.length d.2≤140737488355328∧0 < qF d.2),.agg [.own 0,.ro (.int .u8) (dM d.2)],[.arr (.int .i64) (dN d.1 (qF d.2))])⟩
theorem QkP:Qi Tryz.prog 58 Qii.spec:=by
 have hP:Qe Tryz.prog _:=Qa Qcy (Qc (T:=tree))
 have hT:=tabs hP Qf
 refine Qii.good (fn:=Tryz.f58) hT hP Tryz.func58 (by kernel_rfl) rfl fun (c:Cv) (d:Dv) hp=>?_
 obtain ⟨cn,ck,cb,cs,cd⟩:=c
 obtain ⟨N,M⟩:=d
 obtain ⟨rfl,hl,h0⟩:ck=8∧M.length≤140737488355328∧0 < qF M:=hp _ rfl
 have hq:=QkF M hl
 have hq2:=Qmb M
 have hm:over (List.replicate (IntKind.i64.wrap (IntKind.i64.wrap (Int.tdiv (M.length:Int) 256)*256)).toNat 0) M 0=dM M:=by
  rw [hq];exact QeY M hq2
 repeat' first |(refine Go.mk ?_;conv=>whnf) |refine Ql.go ?_ ?_ |refine Qm.go (fun _=>?_) (fun _=>?_) |refine Br.dec (fun _=>?_) (fun _=>?_) |refine Br.go (fun _=>?_) (fun _=>?_) |refine Qd hT hP mixed ?_ |refine Qb hT hP ?_
 all_goals first
  |exact Qi6
  |exact of_decide_eq_true rfl
  |skip
 all_goals first
  |(exfalso;rename_i h;have h:¬ IntKind.i64.wrap (IntKind.i64.wrap (Int.tdiv (M.length:Int) 256)*256) > 0:=h;rw [hq] at h;omega)
  |(have e:ty5.bytes=1:=rfl
     rw [e,show (List.length (N,M).2)=M.length from rfl,hq];omega)
  |(rename_i h1 h2 h
     have h1:IntKind.i64.wrap (N.getD 0 0%256*256) > IntKind.i64.wrap (IntKind.i64.wrap (Int.tdiv (M.length:Int) 256)*256):=h1
     have h2:N.getD 2 0%8 > 4:=h2
     rw [hq,w64 (by omega) (by omega)] at h1
     refine .mk [6] [5] _ R R R R R (Qr (l:=dL N 0 0) (l':=dN N (qF M)) ?_) (QnN hm)
     rw [Qec,if_pos (by omega),if_pos h2];rfl)
  |(rename_i h1 h2 h
     have h1:IntKind.i64.wrap (N.getD 0 0%256*256) > IntKind.i64.wrap (IntKind.i64.wrap (Int.tdiv (M.length:Int) 256)*256):=h1
     have h2:¬ N.getD 2 0%8 > 4:=h2
     rw [hq,w64 (by omega) (by omega)] at h1
     refine .mk [6] [5] _ R R R R R (Qr (l:=dL N 0 (N.getD 2 0%8)) (l':=dN N (qF M)) ?_) (QnN hm)
     rw [Qec,if_pos (by omega),if_neg h2];rfl)
  |(rename_i h1 h2 h
     have h1:¬ IntKind.i64.wrap (N.getD 0 0%256*256) > IntKind.i64.wrap (IntKind.i64.wrap (Int.tdiv (M.length:Int) 256)*256):=h1
     have h2:N.getD 2 0%8 > 4:=h2
     rw [hq,w64 (by omega) (by omega)] at h1
     refine .mk [6] [5] _ R R R R R (Qr (l:=dL N (N.getD 0 0%256) 0) (l':=dN N (qF M)) ?_) (QnN hm)
     rw [Qec,if_neg (by omega),if_pos h2];rfl)
  |(rename_i h1 h2 h
     have h1:¬ IntKind.i64.wrap (N.getD 0 0%256*256) > IntKind.i64.wrap (IntKind.i64.wrap (Int.tdiv (M.length:Int) 256)*256):=h1
     have h2:¬ N.getD 2 0%8 > 4:=h2
     rw [hq,w64 (by omega) (by omega)] at h1
     refine .mk [6] [5] _ R R R R R (Qr (l:=dL N (N.getD 0 0%256) (N.getD 2 0%8)) (l':=dN N (qF M)) ?_) (QnN hm)
     rw [Qec,if_neg (by omega),if_neg h2];rfl)
theorem Qg6:Qi Tryz.prog 58 QrG.spec:=by
 refine Qi.cases QkO QkP fun (c,d,_) hp=>?_
 obtain ⟨hk,hl⟩:c.2.1=8∧List.length d.2≤140737488355328:=hp _ rfl
 by_cases h:qF d.2=0
 ·left
  refine ⟨fun q hq=>?_,?_⟩
  ·injection hq with hq
   subst hq
   exact ⟨hk,hl,h⟩
  ·have:dM d.2=[]:=by unfold dM;rw [h];rfl
   show (AV.agg [.own 0,.ro (.int .u8) []],_)=(AV.agg [.own 0,.ro (.int .u8) (dM d.2)],_)
   rw [this]
 ·right
  refine ⟨fun q hq=>?_,rfl⟩
  injection hq with hq
  subst hq
  exact ⟨hk,hl,Nat.pos_of_ne_zero h⟩
theorem Qvp (b:Bool) (f o:Int) (z:Bool) (h7:0≤f∧f < 2) (h8:0≤o∧o < 2):lor .i64 (lor .i64 (lor .i64 (Qdo b) (shl .i64 f 1)) (shl .i64 o 2)) (8*Qdo z)=Qdo b+2*f+4*o+8*Qdo z:=by
 have a1:f=0∨f=1:=by omega
 have a2:o=0∨o=1:=by omega
 rcases a1 with rfl |rfl<;>rcases a2 with rfl |rfl<;>cases b<;>cases z<;>decide +kernel
theorem Qi9 (b:Bool):0≤Qdo b∧Qdo b≤1:=by cases b<;>decide
theorem Qja {x:Int} (h:0≤x):imin 1 x=Qdo (decide (x > 0)):=by
 rw [QbZ]
 by_cases hx:x > 0
 ·rw [decide_eq_true hx];show min 1 x=1;omega
 ·rw [decide_eq_false hx];show min 1 x=0;omega
def drF (N:List Int) (q:Nat) (a:Int):Int:=QbB [Qdo (decide (e2 N > 0))+2*e7 N+4*e8 N+8*Qdo (decide (e0 N q=0)),e6 N,e1 N,e9 N] a
def drN (N:List Int) (q:Nat) (a:Int):List Int:=[e0 N q,e1 N,e2 N,e3 N,e4 N,e5 N,e6 N,if a=1∧¬ e2 N=4 then 0 else e7 N,if a=0 then 0 else e8 N,e9 N]
def QxU:Qk:=⟨[gD,gi],fun (d,a,_)=>(some (List.length d.2≤140737488355328),.tup [.agg [.own 0,.own 1],I1 (drF d.1 (qF d.2) a)],[.arr (.int .i64) (drN d.1 (qF d.2) a),.arr (.int .u8) (dM d.2)])⟩
theorem Qvq:Qi Tryz.prog 178 QxU.spec:=by
 have hP:Qe Tryz.prog _:=Qa QfF (Qa Qzw (Qc (T:=tree)))
 have hT:=tabs hP Qf
 refine QxU.good (fn:=Tryz.f178) hT hP Tryz.func178 (by kernel_rfl) rfl fun (d:Dv) (a:Int) hp=>?_
 obtain ⟨N,M⟩:=d
 have hl:M.length≤140737488355328:=hp _ rfl
 obtain ⟨r0,r1,r2,r3,r4,r5,r6,r7,r8,r9⟩:=eR N (qF M)
 have hor:=Qvp (decide (e2 N > 0)) (e7 N) (e8 N) (decide (e0 N (qF M)=0)) r7 r8
 rw [← Qja r2.1] at hor
 repeat' first |(refine Go.mk ?_;conv=>whnf) |refine Ql.go ?_ ?_ |refine Qm.go (fun _=>?_) (fun _=>?_) |refine Br.dec (fun _=>?_) (fun _=>?_) |refine Br.go (fun _=>?_) (fun _=>?_) |refine Qd hT hP mixed ?_ |refine Qb hT hP ?_
 all_goals (try subst_vars)
 all_goals first
  |exact rfl
  |exact hl
  |exact of_decide_eq_true rfl
  |exact .mk [] [2,3] _ R R R R R R R
  |skip
 ·rename_i h
  have h:e0 N (qF M)=0:=h
  refine .mk [] [2,3] _ R R R R R R (QdE ?_)
  show lor .i64 (lor .i64 (lor .i64 (imin 1 (e2 N)) (shl .i64 (e7 N) 1)) (shl .i64 (e8 N) 2)) 8=Qdo (decide (e2 N > 0))+2*e7 N+4*e8 N+8*Qdo (decide (e0 N (qF M)=0))
  rw [← Qja r2.1]
  rw [decide_eq_true h] at hor ⊢
  exact hor
 ·rename_i h
  have h:¬ e0 N (qF M)=0:=h
  refine .mk [] [2,3] _ R R R R R R (QdE ?_)
  show lor .i64 (lor .i64 (lor .i64 (imin 1 (e2 N)) (shl .i64 (e7 N) 1)) (shl .i64 (e8 N) 2)) 0=Qdo (decide (e2 N > 0))+2*e7 N+4*e8 N+8*Qdo (decide (e0 N (qF M)=0))
  rw [← Qja r2.1]
  rw [decide_eq_false h] at hor ⊢
  exact hor
 ·rename_i h _
  have h:(e2 N != 4)=true:=h
  have h:¬ e2 N=4:=by simpa using h
  refine .mk [] [2,3] _ R R R R R (Qy (l:=[e0 N (qF M),e1 N,e2 N,e3 N,e4 N,e5 N,e6 N,0,e8 N,e9 N]) (l':=drN N (qF M) 1) ?_ rfl) rfl
  rw [drN,if_pos ⟨rfl,h⟩];rfl
 ·rename_i h _
  have h:(e2 N != 4)=false:=h
  have h:e2 N=4:=by simpa using h
  refine .mk [] [2,3] _ R R R R R (Qy (l:=dN N (qF M)) (l':=drN N (qF M) 1) ?_ rfl) rfl
  rw [Qvo,drN,if_neg (fun z=>z.2 h)];rfl
 ·rename_i g0 g1 g2 g3
  have e:drF N (qF M) a=0:=Qg1 fun i hi=>by
   have:i < 4:=hi
   omega
  refine .mk [] [2,3] _ R R R R R (Qy (l:=dN N (qF M)) (l':=drN N (qF M) a) ?_ rfl) (QdE e.symm)
  rw [Qvo,drN,if_neg (fun z=>g1 z.1),if_neg g0]
def QbC (n:List Int) (k:Int):List Int :=
 if n.getD 2 0 > 0∨k%16=0∨k%16 > 4∨(k%16 > 2∧n.getD 0 0=0) then n
 else ((((n.set 2 (k%16)).set 3 (k/16%4)).set 4 0).set 5 30).set 7 (Qdo (decide (k%16=4)))
theorem QkQ (n:List Int) (i:Nat) (x y:Int):(n.set i x).set i y=n.set i y:=by simp
theorem Qvr {k:Int} (h:0≤k∧k < 256):land .i64 k 15=k%16∧land .i64 (shr .i64 k 4) 3=k/16%4:=by
 have all:∀ n,n < 256→land .i64 ((n:Nat):Int) 15=((n:Nat):Int)%16∧land .i64 (shr .i64 ((n:Nat):Int) 4) 3=((n:Nat):Int)/16%4:=by decide +kernel
 obtain ⟨n,rfl⟩:=Int.eq_ofNat_of_zero_le h.1
 exact all n (by omega)
theorem Qcs {n:List Int} {k:Int} (h:n.getD 2 0 > 0∨k%16=0∨k%16 > 4∨(k%16 > 2∧n.getD 0 0=0)):QbC n k=n:=by rw [QbC,if_pos h]
theorem QcJ {n:List Int} {k:Int} (h:¬ (n.getD 2 0 > 0∨k%16=0∨k%16 > 4∨(k%16 > 2∧n.getD 0 0=0))):QbC n k=((((n.set 2 (k%16)).set 3 (k/16%4)).set 4 0).set 5 30).set 7 (Qdo (decide (k%16=4))):=by rw [QbC,if_neg h]
theorem QGq (n:List Int) (k:Int):(n.set 6 k).getD 2 0=n.getD 2 0:=by simp [List.getD_eq_getElem?_getD]
def QrH:QaV:=⟨List Int × Int,fun x=>[.c (.own 0),I1 x.2],fun x=>[.arr (.int .i64) x.1],fun a b=>(match a,b with | [.c (.own 0),.c (.imm (.int .i64 k))],[.arr (.int .i64) n]=>some (n,k) |_,_=>none),
 fun x=>(some (x.1.length=10∧0≤x.1.getD 2 0∧0≤x.2∧x.2 < 256),.tup [],[some (.arr (.int .i64) (QbC x.1 x.2))],[])⟩
theorem Qvs:Qi Tryz.prog 238 QrH.spec:=by
 have hP:Qe Tryz.prog _:=(Qc (T:=tree))
 have hT:=tabs hP Qf
 refine QrH.good (fn:=Tryz.f238) hT hP Tryz.func238 (by kernel_rfl) rfl ?_ fun ((n,k):List Int × Int) hp=>?_
 ·intro a b x h
  simp only [QrH] at h
  split at h
  ·injection h with h;subst h;exact ⟨rfl,rfl⟩
  ·cases h
 obtain ⟨hl,h2,hk⟩:n.length=10∧0≤n.getD 2 0∧0≤k∧k < 256:=hp _ rfl
 obtain ⟨b1,b2⟩:=Qvr hk
 repeat' first |(refine Go.mk ?_;conv=>whnf) |refine Ql.go ?_ ?_ |refine Qm.go (fun _=>?_) (fun _=>?_) |refine Br.dec (fun _=>?_) (fun _=>?_) |refine Br.go (fun _=>?_) (fun _=>?_) |refine Qd hT hP mixed ?_ |refine Qb hT hP ?_
 all_goals first
  |(dsimp only at *;simp only [List.length_set,hl];decide)
  |skip
 ·rename_i g2
  have g2:n.getD 2 0 > 0:=g2
  refine .mk [] [0] _ R R R R R (Qr (l:=n) (l':=QbC n k) ?_) rfl
  exact (Qcs (.inl g2)).symm
 ·rename_i g2 g3
  have g2:¬ n.getD 2 0 > 0:=g2
  have g3:land .i64 k 15 < 1:=g3;rw [b1] at g3
  refine .mk [] [0] _ R R R R R (Qr (l:=n) (l':=QbC n k) ?_) rfl
  exact (Qcs (by omega)).symm
 ·rename_i g2 g3 g4
  have g2:¬ n.getD 2 0 > 0:=g2
  have g3:¬ land .i64 k 15 < 1:=g3;rw [b1] at g3
  have g4:land .i64 k 15 > 4:=g4;rw [b1] at g4
  refine .mk [] [0] _ R R R R R (Qr (l:=n) (l':=QbC n k) ?_) rfl
  exact (Qcs (by omega)).symm
 ·rename_i g2 g3 g4 g5 g6
  have g2:¬ n.getD 2 0 > 0:=g2
  have g3:¬ land .i64 k 15 < 1:=g3;rw [b1] at g3
  have g4:¬ land .i64 k 15 > 4:=g4;rw [b1] at g4
  have g5:land .i64 k 15≥3:=g5;rw [b1] at g5
  have g6:n.getD 0 0=0:=g6
  refine .mk [] [0] _ R R R R R (Qr (l:=n) (l':=QbC n k) ?_) rfl
  exact (Qcs (by omega)).symm
 ·decide
 ·rename_i g2 g3 g4 g5 g6 g7
  have g2:¬ n.getD 2 0 > 0:=g2
  have g3:¬ land .i64 k 15 < 1:=g3;rw [b1] at g3
  have g4:¬ land .i64 k 15 > 4:=g4;rw [b1] at g4
  have g5:land .i64 k 15≥3:=g5;rw [b1] at g5
  have g6:¬ n.getD 0 0=0:=g6
  have g7:land .i64 k 15=4:=g7;rw [b1] at g7
  refine .mk [] [0] _ R R R R R (Qr (l:=((((((n.set 2 (land .i64 k 15)).set 3 (land .i64 (shr .i64 k 4) 3)).set 4 0).set 5 30)).set 7 0).set 7 1) (l':=QbC n k) ?_) rfl
  rw [QcJ (by omega),b1,b2,decide_eq_true g7,QkQ];rfl
 ·rename_i g2 g3 g4 g5 g6 g7
  have g2:¬ n.getD 2 0 > 0:=g2
  have g3:¬ land .i64 k 15 < 1:=g3;rw [b1] at g3
  have g4:¬ land .i64 k 15 > 4:=g4;rw [b1] at g4
  have g5:land .i64 k 15≥3:=g5;rw [b1] at g5
  have g6:¬ n.getD 0 0=0:=g6
  have g7:¬ land .i64 k 15=4:=g7;rw [b1] at g7
  refine .mk [] [0] _ R R R R R (Qr (l:=(((((n.set 2 (land .i64 k 15)).set 3 (land .i64 (shr .i64 k 4) 3)).set 4 0).set 5 30)).set 7 0) (l':=QbC n k) ?_) rfl
  rw [QcJ (by omega),b1,b2,decide_eq_false g7];rfl
 ·decide
 ·rename_i g2 g3 g4 g5 g7
  have g2:¬ n.getD 2 0 > 0:=g2
  have g3:¬ land .i64 k 15 < 1:=g3;rw [b1] at g3
  have g4:¬ land .i64 k 15 > 4:=g4;rw [b1] at g4
  have g5:¬ land .i64 k 15≥3:=g5;rw [b1] at g5
  have g7:land .i64 k 15=4:=g7;rw [b1] at g7
  refine .mk [] [0] _ R R R R R (Qr (l:=((((((n.set 2 (land .i64 k 15)).set 3 (land .i64 (shr .i64 k 4) 3)).set 4 0).set 5 30)).set 7 0).set 7 1) (l':=QbC n k) ?_) rfl
  rw [QcJ (by omega),b1,b2,decide_eq_true g7,QkQ];rfl
 ·rename_i g2 g3 g4 g5 g7
  have g2:¬ n.getD 2 0 > 0:=g2
  have g3:¬ land .i64 k 15 < 1:=g3;rw [b1] at g3
  have g4:¬ land .i64 k 15 > 4:=g4;rw [b1] at g4
  have g5:¬ land .i64 k 15≥3:=g5;rw [b1] at g5
  have g7:¬ land .i64 k 15=4:=g7;rw [b1] at g7
  refine .mk [] [0] _ R R R R R (Qr (l:=(((((n.set 2 (land .i64 k 15)).set 3 (land .i64 (shr .i64 k 4) 3)).set 4 0).set 5 30)).set 7 0) (l':=QbC n k) ?_) rfl
  rw [QcJ (by omega),b1,b2,decide_eq_false g7];rfl
def Q7 (n:List Int) (a k:Int):List Int :=
 if a=0 then QbC n k else if a=1 then (if n.getD 2 0=4 then (n.set 6 k).set 7 0 else n.set 6 k) else if a=3 then n.set 9 (k%2) else n
def Qjb:QaV:=⟨List Int × Int × Int,fun x=>[.c (.own 0),I1 x.2.1,I1 x.2.2],fun x=>[.arr (.int .i64) x.1],fun a b=>(match a,b with | [.c (.own 0),.c (.imm (.int .i64 a)),.c (.imm (.int .i64 k))],[.arr (.int .i64) n]=>some (n,a,k) |_,_=>none),
 fun x=>(some (x.1.length=10∧0≤x.1.getD 2 0∧0≤x.2.2∧x.2.2 < 256),.tup [],[some (.arr (.int .i64) (Q7 x.1 x.2.1 x.2.2))],[])⟩
theorem Qpz:Qi Tryz.prog 143 Qjb.spec:=by
 have hP:Qe Tryz.prog _:=Qa Qma (Qc (T:=tree))
 have hT:=tabs hP Qf
 refine Qjb.good (fn:=Tryz.f143) hT hP Tryz.func143 (by kernel_rfl) rfl ?_ fun ((n,a,k):List Int × Int × Int) hp=>?_
 ·intro a b x h
  simp only [Qjb] at h
  split at h
  ·injection h with h;subst h;exact ⟨rfl,rfl⟩
  ·cases h
 obtain ⟨hl,h2,hk⟩:n.length=10∧0≤n.getD 2 0∧0≤k∧k < 256:=hp _ rfl
 have ht:Int.tmod k 16=k%16:=Int.tmod_eq_emod_of_nonneg hk.1
 have hd:Int.tmod (IntKind.i64.wrap (Int.tdiv k 16)) 4=k/16%4:=by
  rw [Int.tdiv_eq_ediv_of_nonneg hk.1,w64 (by omega) (by omega),Int.tmod_eq_emod_of_nonneg (by omega)]
 repeat' first |(refine Go.mk ?_;conv=>whnf) |refine Ql.go ?_ ?_ |refine Qm.go (fun _=>?_) (fun _=>?_) |refine Br.dec (fun _=>?_) (fun _=>?_) |refine Br.go (fun _=>?_) (fun _=>?_) |refine Qd hT hP mixed ?_ |refine Qb hT hP ?_
 all_goals first
  |(dsimp only at *;simp only [List.length_set,hl];decide)
  |skip
 all_goals try decide
 ·rename_i g1 g2
  have g1:a=0:=g1
  subst g1
  have g2:(n.getD 2 0 != 0)=true:=g2
  have g2:¬ n.getD 2 0=0:=by simpa using g2
  refine .mk [] [0] _ R R R R R (Qr (l:=n) (l':=Q7 n 0 k) ?_) rfl
  exact (Qcs (by omega)).symm
 ·rename_i g1 g2 g3
  have g1:a=0:=g1
  subst g1
  have g2:(n.getD 2 0 != 0)=false:=g2
  have g2:n.getD 2 0=0:=by simpa using g2
  have g3:Int.tmod k 16=0:=g3;rw [ht] at g3
  refine .mk [] [0] _ R R R R R (Qr (l:=n) (l':=Q7 n 0 k) ?_) rfl
  exact (Qcs (by omega)).symm
 ·rename_i g1 g2 g3 g4
  have g1:a=0:=g1
  subst g1
  have g2:(n.getD 2 0 != 0)=false:=g2
  have g2:n.getD 2 0=0:=by simpa using g2
  have g3:¬ Int.tmod k 16=0:=g3;rw [ht] at g3
  have g4:Int.tmod k 16 > 4:=g4;rw [ht] at g4
  refine .mk [] [0] _ R R R R R (Qr (l:=n) (l':=Q7 n 0 k) ?_) rfl
  exact (Qcs (by omega)).symm
 ·rename_i g1 g2 g3 g4 g5 g6
  have g1:a=0:=g1
  subst g1
  have g2:(n.getD 2 0 != 0)=false:=g2
  have g2:n.getD 2 0=0:=by simpa using g2
  have g3:¬ Int.tmod k 16=0:=g3;rw [ht] at g3
  have g4:¬ Int.tmod k 16 > 4:=g4;rw [ht] at g4
  have g5:Int.tmod k 16 > 2:=g5;rw [ht] at g5
  have g6:n.getD 0 0=0:=g6
  refine .mk [] [0] _ R R R R R (Qr (l:=n) (l':=Q7 n 0 k) ?_) rfl
  exact (Qcs (by omega)).symm
 ·rename_i g1 g2 g3 g4 g5 g6
  have g1:a=0:=g1
  subst g1
  have g2:(n.getD 2 0 != 0)=false:=g2
  have g2:n.getD 2 0=0:=by simpa using g2
  have g3:¬ Int.tmod k 16=0:=g3;rw [ht] at g3
  have g4:¬ Int.tmod k 16 > 4:=g4;rw [ht] at g4
  have g5:Int.tmod k 16 > 2:=g5;rw [ht] at g5
  have g6:¬ n.getD 0 0=0:=g6
  refine .mk [] [0] _ R R R R R (Qr (l:=((((n.set 2 (Int.tmod k 16)).set 3 (Int.tmod (IntKind.i64.wrap (Int.tdiv k 16)) 4)).set 4 0).set 5 30).set 7 (Qdo (Int.tmod k 16 == 4))) (l':=Q7 n 0 k) ?_) rfl
  show _=QbC n k
  rw [QcJ (by omega),ht,hd];rfl
 ·rename_i g1 g2 g3 g4 g5
  have g1:a=0:=g1
  subst g1
  have g2:(n.getD 2 0 != 0)=false:=g2
  have g2:n.getD 2 0=0:=by simpa using g2
  have g3:¬ Int.tmod k 16=0:=g3;rw [ht] at g3
  have g4:¬ Int.tmod k 16 > 4:=g4;rw [ht] at g4
  have g5:¬ Int.tmod k 16 > 2:=g5;rw [ht] at g5
  refine .mk [] [0] _ R R R R R (Qr (l:=((((n.set 2 (Int.tmod k 16)).set 3 (Int.tmod (IntKind.i64.wrap (Int.tdiv k 16)) 4)).set 4 0).set 5 30).set 7 (Qdo (Int.tmod k 16 == 4))) (l':=Q7 n 0 k) ?_) rfl
  show _=QbC n k
  rw [QcJ (by omega),ht,hd];rfl
 ·rename_i g0 g1 g2
  have g1:a=1:=g1
  subst g1
  have g2:(n.set 6 k).getD 2 0=4:=g2
  rw [QGq] at g2
  refine .mk [] [0] _ R R R R R (Qr (l:=(n.set 6 k).set 7 0) (l':=Q7 n 1 k) ?_) rfl
  rw [Q7,if_neg (by omega),if_pos rfl,if_pos g2]
 ·rename_i g0 g1 g2
  have g1:a=1:=g1
  subst g1
  have g2:¬ (n.set 6 k).getD 2 0=4:=g2
  rw [QGq] at g2
  refine .mk [] [0] _ R R R R R (Qr (l:=n.set 6 k) (l':=Q7 n 1 k) ?_) rfl
  rw [Q7,if_neg (by omega),if_pos rfl,if_neg g2]
 ·rename_i g0 g1 g2
  have g2:a=3:=g2
  subst g2
  refine .mk [] [0] _ R R R R R (Qr (l:=n.set 9 (Int.tmod k 2)) (l':=Q7 n 3 k) ?_) rfl
  rw [Q7,if_neg (by omega),if_neg (by omega),if_pos rfl,Int.tmod_eq_emod_of_nonneg hk.1]
 ·rename_i g0 g1 g2
  have g0:¬ a=0:=g0
  have g1:¬ a=1:=g1
  have g2:¬ a=3:=g2
  refine .mk [] [0] _ R R R R R (Qr (l:=n) (l':=Q7 n a k) ?_) rfl
  rw [Q7,if_neg g0,if_neg g1,if_neg g2]
def dwN (N:List Int) (q:Nat) (a k:Int):List Int:=Q7 (dN N q) a (k%256)
def QrI:Qk:=⟨[gD,gi,gi],fun (d,a,k,_)=>(some (List.length d.2≤140737488355328),.agg [.own 0,.own 1],[.arr (.int .i64) (dwN d.1 (qF d.2) a k),.arr (.int .u8) (dM d.2)])⟩
theorem QrJ:Qi Tryz.prog 185 QrI.spec:=by
 have hP:Qe Tryz.prog _:=Qa QfF (Qa Qvs (Qa QT (Qc (T:=tree))))
 have hT:=tabs hP Qf
 refine QrI.good (fn:=Tryz.f185) hT hP Tryz.func185 (by kernel_rfl) rfl fun (d:Dv) (a k:Int) hp=>?_
 obtain ⟨N,M⟩:=d
 have hl:M.length≤140737488355328:=hp _ rfl
 obtain ⟨r0,r1,r2,r3,r4,r5,r6,r7,r8,r9⟩:=eR N (qF M)
 repeat' first |(refine Go.mk ?_;conv=>whnf) |refine Ql.go ?_ ?_ |refine Qm.go (fun _=>?_) (fun _=>?_) |refine Br.dec (fun _=>?_) (fun _=>?_) |refine Br.go (fun _=>?_) (fun _=>?_) |refine Qd hT hP mixed ?_ |refine Qb hT hP ?_
 all_goals (try subst_vars)
 all_goals first
  |exact rfl
  |exact hl
  |exact of_decide_eq_true rfl
  |exact .mk [] [2,3] _ R R R R R R R
  |skip
 ·refine ⟨rfl,r2.1,?_,?_⟩
  ·exact (by omega:0≤k%256)
  ·exact (by omega:k%256 < 256)
 ·rename_i h _
  have h:(dN N (qF M)).getD 2 0=4:=h
  refine .mk [] [2,3] _ R R R R R (Qy (l:=((dN N (qF M)).set 6 (k%256)).set 7 0) (l':=dwN N (qF M) 1 k) ?_ rfl) rfl
  rw [dwN,Q7,if_neg (by omega),if_pos rfl,if_pos h]
 ·rename_i h _
  have h:¬ (dN N (qF M)).getD 2 0=4:=h
  refine .mk [] [2,3] _ R R R R R (Qy (l:=(dN N (qF M)).set 6 (k%256)) (l':=dwN N (qF M) 1 k) ?_ rfl) rfl
  rw [dwN,Q7,if_neg (by omega),if_pos rfl,if_neg h]
 ·refine .mk [] [2,3] _ R R R R R (Qy (l:=(dN N (qF M)).set 9 (k%2 ^ (1:Int).toNat)) (l':=dwN N (qF M) 3 k) ?_ rfl) rfl
  rw [dwN,Q7,if_neg (by omega),if_neg (by omega),if_pos rfl]
  have e:k%256%2=k%2:=by omega
  rw [e];rfl
 ·rename_i g0 g1 g2
  refine .mk [] [2,3] _ R R R R R (Qy (l:=dN N (qF M)) (l':=dwN N (qF M) a k) ?_ rfl) rfl
  rw [dwN,Q7,if_neg g0,if_neg g1,if_neg g2]
def dcN (N:List Int) (q:Nat) (k:Int):List Int:=if e2 N=0 then [if k > 0∧k≤q then k%256 else 0,e1 N,e2 N,e3 N,e4 N,e5 N,e6 N,e7 N,e8 N,e9 N] else dN N q
def QnO:Qk:=⟨[gD,gi],fun (d,k,_)=>(some (List.length d.2≤140737488355328),.agg [.own 0,.own 1],[.arr (.int .i64) (dcN d.1 (qF d.2) k),.arr (.int .u8) (dM d.2)])⟩
theorem QpA:Qi Tryz.prog 243 QnO.spec:=by
 have hP:Qe Tryz.prog _:=Qa QfF (Qc (T:=tree))
 have hT:=tabs hP Qf
 refine QnO.good (fn:=Tryz.f243) hT hP Tryz.func243 (by kernel_rfl) rfl fun (d:Dv) (k:Int) hp=>?_
 obtain ⟨N,M⟩:=d
 have hl:M.length≤140737488355328:=hp _ rfl
 have hqi:IntKind.i64.wrap (Int.tdiv ((dM M).length:Int) 256)=((qF M:Nat):Int):=by
  have:=Qmb M
  rw [QkE,Int.tdiv_eq_ediv_of_nonneg (by omega),w64 (by omega) (by omega)];omega
 repeat' first |(refine Go.mk ?_;conv=>whnf) |refine Ql.go ?_ ?_ |refine Qm.go (fun _=>?_) (fun _=>?_) |refine Br.dec (fun _=>?_) (fun _=>?_) |refine Br.go (fun _=>?_) (fun _=>?_) |refine Qd hT hP mixed ?_ |refine Qb hT hP ?_
 all_goals first
  |exact rfl
  |exact hl
  |exact of_decide_eq_true rfl
  |skip
 ·rename_i h hk1 hk2
  have h:e2 N=0:=h
  have hk2:k≤IntKind.i64.wrap (Int.tdiv ((dM M).length:Int) 256):=hk2
  rw [hqi] at hk2
  refine .mk [] [2,3] _ R R R R R (Qy (l:=[Int.tmod k 256,e1 N,e2 N,e3 N,e4 N,e5 N,e6 N,e7 N,e8 N,e9 N]) (l':=dcN N (qF M) k) ?_ rfl) rfl
  rw [dcN,if_pos h,if_pos ⟨hk1,hk2⟩,Int.tmod_eq_emod_of_nonneg (by omega)]
 ·rename_i h hk1 hk2
  have h:e2 N=0:=h
  have hk2:¬ k≤IntKind.i64.wrap (Int.tdiv ((dM M).length:Int) 256):=hk2
  rw [hqi] at hk2
  refine .mk [] [2,3] _ R R R R R (Qy (l:=[0,e1 N,e2 N,e3 N,e4 N,e5 N,e6 N,e7 N,e8 N,e9 N]) (l':=dcN N (qF M) k) ?_ rfl) rfl
  rw [dcN,if_pos h,if_neg (fun z=>hk2 z.2)]
 ·rename_i h hk1
  have h:e2 N=0:=h
  refine .mk [] [2,3] _ R R R R R (Qy (l:=[0,e1 N,e2 N,e3 N,e4 N,e5 N,e6 N,e7 N,e8 N,e9 N]) (l':=dcN N (qF M) k) ?_ rfl) rfl
  rw [dcN,if_pos h,if_neg (fun z=>hk1 z.1)]
 ·rename_i h
  have h:¬ e2 N=0:=h
  refine .mk [] [2,3] _ R R R R R (Qy (l:=dN N (qF M)) (l':=dcN N (qF M) k) ?_ rfl) rfl
  rw [dcN,if_neg h]
def QzB (N:List Int):Bool:=decide (e9 N=1)&&decide (e7 N=1)
def QBZ:Qk:=⟨[gD],fun (d,_)=>(some (List.length d.2≤140737488355328),.cell (bv (QzB d.1)),[])⟩
theorem QzC:Qi Tryz.prog 127 QBZ.spec:=by
 have hP:Qe Tryz.prog _:=Qa QfF (Qc (T:=tree))
 have hT:=tabs hP Qf
 refine QBZ.good (fn:=Tryz.f127) hT hP Tryz.func127 (by kernel_rfl) rfl fun (d:Dv) hp=>?_
 obtain ⟨N,M⟩:=d
 have hl:M.length≤140737488355328:=hp _ rfl
 repeat' first |(refine Go.mk ?_;conv=>whnf) |refine Ql.go ?_ ?_ |refine Qm.go (fun _=>?_) (fun _=>?_) |refine Br.dec (fun _=>?_) (fun _=>?_) |refine Br.go (fun _=>?_) (fun _=>?_) |refine Qd hT hP mixed ?_ |refine Qb hT hP ?_
 all_goals first
  |exact hl
  |exact of_decide_eq_true rfl
  |(rename_i h
     have h:e9 N=1:=h
     refine .mk [] [] _ R R R R R R (Qo ?_)
     show decide (e7 N=1)=(decide (e9 N=1)&&decide (e7 N=1))
     rw [decide_eq_true h];rfl)
  |(rename_i h
     have h:¬ e9 N=1:=h
     refine .mk [] [] _ R R R R R R (Qo ?_)
     show _=(decide (e9 N=1)&&decide (e7 N=1))
     rw [decide_eq_false h];rfl)
def QB0:Qk:=⟨[gC,gD],fun (c,d,_)=>(some (c.2.1=8∧List.length d.2≤140737488355328),.cell (bv (QzB d.1)),[])⟩
theorem QzD:Qi Tryz.prog 16 QB0.spec:=by
 have hP:Qe Tryz.prog _:=Qa Qg6 (Qc (T:=tree))
 have hT:=tabs hP Qf
 refine QB0.good (fn:=Tryz.f16) hT hP Tryz.func16 (by kernel_rfl) rfl fun (c:Cv) (d:Dv) hp=>?_
 obtain ⟨cn,ck,cb,cs,cd⟩:=c
 obtain ⟨N,M⟩:=d
 obtain ⟨rfl,hl⟩:ck=8∧M.length≤140737488355328:=hp _ rfl
 obtain ⟨r0,r1,r2,r3,r4,r5,r6,r7,r8,r9⟩:=eR N (qF M)
 repeat' first |(refine Go.mk ?_;conv=>whnf) |refine Ql.go ?_ ?_ |refine Qm.go (fun _=>?_) (fun _=>?_) |refine Br.dec (fun _=>?_) (fun _=>?_) |refine Br.go (fun _=>?_) (fun _=>?_) |refine Qd hT hP mixed ?_ |refine Qb hT hP ?_
 all_goals first
  |exact ⟨rfl,hl⟩
  |exact of_decide_eq_true rfl
  |(refine .mk [] [] _ R R R R R R (Qo ?_)
     show (IntKind.i64.wrap (e9 N*e7 N) == 1)=(decide (e9 N=1)&&decide (e7 N=1))
     have a1:e9 N=0∨e9 N=1:=by omega
     have a2:e7 N=0∨e7 N=1:=by omega
     rcases a1 with a1 |a1<;>rcases a2 with a2 |a2<;>rw [a1,a2]<;>decide +kernel)
def QB1:Qk:=⟨[gD],fun (d,_)=>(some (List.length d.2≤140737488355328),I (e1 d.1),[])⟩
theorem QzE:Qi Tryz.prog 219 QB1.spec:=by
 have hP:Qe Tryz.prog _:=Qa QfF (Qc (T:=tree))
 have hT:=tabs hP Qf
 refine QB1.good (fn:=Tryz.f219) hT hP Tryz.func219 (by kernel_rfl) rfl fun (d:Dv) hp=>?_
 obtain ⟨N,M⟩:=d
 have hl:M.length≤140737488355328:=hp _ rfl
 repeat' first |(refine Go.mk ?_;conv=>whnf) |refine Ql.go ?_ ?_ |refine Qm.go (fun _=>?_) (fun _=>?_) |refine Br.dec (fun _=>?_) (fun _=>?_) |refine Br.go (fun _=>?_) (fun _=>?_) |refine Qd hT hP mixed ?_ |refine Qb hT hP ?_
 all_goals first
  |exact hl
  |exact of_decide_eq_true rfl
  |exact .mk [] [] _ R R R R R R R
def QrK:Qk:=⟨[gC,gD],fun (c,d,_)=>(some (c.2.1=8∧List.length d.2≤140737488355328),I (e1 d.1),[])⟩
theorem QrL:Qi Tryz.prog 72 QrK.spec:=by
 have hP:Qe Tryz.prog _:=Qa Qg6 (Qc (T:=tree))
 have hT:=tabs hP Qf
 refine QrK.good (fn:=Tryz.f72) hT hP Tryz.func72 (by kernel_rfl) rfl fun (c:Cv) (d:Dv) hp=>?_
 obtain ⟨cn,ck,cb,cs,cd⟩:=c
 obtain ⟨N,M⟩:=d
 obtain ⟨rfl,hl⟩:ck=8∧M.length≤140737488355328:=hp _ rfl
 repeat' first |(refine Go.mk ?_;conv=>whnf) |refine Ql.go ?_ ?_ |refine Qm.go (fun _=>?_) (fun _=>?_) |refine Br.dec (fun _=>?_) (fun _=>?_) |refine Br.go (fun _=>?_) (fun _=>?_) |refine Qd hT hP mixed ?_ |refine Qb hT hP ?_
 all_goals first
  |exact ⟨rfl,hl⟩
  |exact of_decide_eq_true rfl
  |exact .mk [] [] _ R R R R R R R
def addF (a b c n:Int):Int × Int :=
 let s:=IntKind.i64.wrap (IntKind.i64.wrap (QlM a (Qat n)+QlM b (Qat n))+land .i64 c 1)
 (QlM s (Qat n),shr .i64 s (Qat n))
def Qad (a b c:Int):Int:=if a < b then b else if a > c then c else a
def Qx1:Qk:=⟨[gi,gi,gi],fun (a,b,c,_)=>(none,I (Qad a b c),[])⟩
theorem Qgn:Qi Tryz.prog 80 Qx1.spec:=by
 have hT:=Qky (fs:=[]) Qf
 have hP:Qe Tryz.prog (tab tree []):=Qc
 refine Qx1.good (fn:=Tryz.f80) hT hP Tryz.func80 (by kernel_rfl) rfl fun (a b c:Int) _=>?_
 repeat' first
  |(refine Go.mk ?_;conv=>whnf)
  |refine Ql.go ?_ ?_
  |refine Br.dec (fun _=>?_) (fun _=>?_)
  |refine Br.go (fun _=>?_) (fun _=>?_)
 ·refine .mk [] [] _ R R R R R R (Qg ?_)
  show _=Qad a b c
  unfold Qad
  rw [if_pos (by assumption)]
 ·refine .mk [] [] _ R R R R R R (Qg ?_)
  show _=Qad a b c
  unfold Qad
  rw [if_neg (by assumption),if_pos (by assumption)]
 ·refine .mk [] [] _ R R R R R R (Qg ?_)
  show _=Qad a b c
  unfold Qad
  rw [if_neg (by assumption),if_neg (by assumption)]
end Go.Proofs.YtofgbclopbmlcaaGreat

namespace Go.Fw
set_option linter.unusedVariables false
set_option linter.unusedSimpArgs false
theorem QaC.nil_ro {E:Env} (t:Ty) {vs:List Value} (h:QaC E (.imm (.slice none 0 0)) vs):QaC E (.ro t []) vs:=by
 obtain ⟨e,_⟩:=h
 exact ⟨_,e,none,0,rfl,Nat.le_refl _,fun hne=>absurd rfl hne⟩
theorem Le.nilro {m:Nat} {st:St} (i:Nat) (t:Ty) (h:st.tmps[i]?=some (.imm (.slice none 0 0))):Le m st { tmps:=st.tmps.set i (.cell (.ro t [])),heap:=st.heap }:=by
 intro E0 E a hm hs hf
 refine ⟨E,rfl,⟨hs.defers,?_,fun j y hy=>?_,hs.ok,hs.H,hs.U⟩,hf⟩
 ·simpa using hs.len
 ·have hy:(st.tmps.set i (.cell (.ro t [])))[j]?=some y:=hy
  rw [List.getElem?_set] at hy
  by_cases e:i=j
  ·subst e
   obtain ⟨v,h1,h2⟩:=hs.tmp i _ h
   rw [if_pos rfl,if_pos (List.getElem?_eq_some_iff.1 h).1] at hy
   injection hy with hy
   subst hy
   exact ⟨v,h1,QaC.nil_ro t h2⟩
  ·rw [if_neg e] at hy
   exact hs.tmp j y hy
def QFS (c d:QD):Prop:=c=d∨(c=.imm (.slice none 0 0)∧∃ t,d=.ro t [])
def QnQ:List QD→List QD→Prop
 | [],[]=>True
 |c :: cs,d :: ds=>QFS c d∧QnQ cs ds
 |_,_=>False
theorem Qg8:∀ {cs ds:List QD},QnQ cs ds→ds.map QD.size=cs.map QD.size
 | [],[],_=>rfl
 |c :: cs,d :: ds,⟨h1,h2⟩=>by
   simp only [List.map_cons,Qg8 h2]
   rcases h1 with rfl |⟨rfl,t,rfl⟩<;>rfl
 | [],_ :: _,h=>h.elim
 |_ :: _,[],h=>h.elim
theorem Qij {E:Env}:∀ {cs ds:List QD} {vs:List Value},QnQ cs ds→IR E cs vs→IR E ds vs
 | [],[],_,_,h=>h
 |c :: cs,d :: ds,_,⟨h1,h2⟩,⟨r,s,e,g1,g2⟩=>by
   refine ⟨r,s,e,?_,Qij h2 g2⟩
   rcases h1 with rfl |⟨rfl,t,rfl⟩
   ·exact g1
   ·exact QaC.nil_ro t g1
 | [],_ :: _,_,h,_=>h.elim
 |_ :: _,[],_,h,_=>h.elim
theorem QfG {α:Type}:∀ (l:List (Option Blk)) (b:Nat) (o:Option Blk) (j:Nat),b < l.length→(QaB l b o)[j]?=if j=b then some o else l[j]?
 |_ :: r,0,o,j,_=>by cases j<;>simp [QaB]
 |x :: r,b+1,o,j,h=>by
   cases j with
   |zero=>simp [QaB]
   |succ j =>
     have:=QfG (α:=α) r b o j (by simpa using h)
     simpa [QaB] using this
theorem Qg9:∀ (l:List (Option Blk)) (b:Nat) (o:Option Blk),b < l.length→(QaB l b o).length=l.length
 |_ :: r,0,o,_=>by simp [QaB]
 |x :: r,b+1,o,h=>by simpa [QaB] using Qg9 r b o (by simpa using h)
theorem Le.nilroH {m:Nat} {st:St} (b:Nat) (cs ds:List QD) (h:st.heap[b]?=some (some (.var cs))) (hn:QnQ cs ds):Le m st { tmps:=st.tmps,heap:=QaB st.heap b (some (.var ds)) }:=by
 intro E0 E a hm hs hf
 have hlt:b < st.heap.length:=(List.getElem?_eq_some_iff.1 h).1
 have hlook:st.look b=some (.var cs):=by unfold St.look;rw [h]
 have hb:E.H b=some (.var cs):=(hs.H b).trans hlook
 obtain ⟨hu,⟨g,ca,el,hr,hw,hir⟩,hS⟩:=hs.ok.blk b _ hb
 have hsh:shape (.var ds)=shape (.var cs):=by simp only [shape];rw [Qg8 hn]
 have hwr:Qfl E g ca ca el E.w :=
  ⟨hw,hw,rfl,fun _ _=>rfl,rfl,rfl,rfl,rfl⟩
 refine ⟨QdR E b (.var ds) E.w,rfl,⟨hs.defers,hs.len,fun j y hy=>?_,QlT hs.ok hb hr hsh hwr (Qij hn hir),fun x=>?_,fun x hx=>?_⟩,?_⟩
 ·obtain ⟨v,h1,h2⟩:=hs.tmp j y hy
  exact ⟨v,h1,h2.ext (QdS hs.ok hb hr hsh hwr)⟩
 ·show (if x=b then some (.var ds) else E.H x)=St.look { tmps:=st.tmps,heap:=QaB st.heap b (some (.var ds)) } x
  unfold St.look
  rw [QfG (α:=Nat) _ _ _ _ hlt]
  split
  ·rfl
  ·exact hs.H x
 ·have:=hs.U x hx
  simpa [Qg9 _ _ _ hlt] using this
 ·exact ⟨QlU hs.ok hb hr hwr hf.fr,hf.ext.trans (QdS hs.ok hb hr hsh hwr)⟩
section
variable {P:Program} {T:Tab}
theorem QO (hT:Qae P T) (hP:Qe P T) {A:Type} {m:Nat} {c:Code} {st:St} {K:Cont} (n:Nat) (S:Int→A→St) (I:Nat→A→Prop) (a0:A) (h0:Le m st (S 0 a0)) (hI:I 0 a0)
 (h:∀ (k:Nat) a,k≤n→I k a→Go (Qie (S (k:Int) a) fun st=>exR P T m c st fun e st'=>match e with |.normal=>∃ i' a',(k < n∧i'=((k+1:Nat):Int)∧I (k+1) a')∧Le m st' (S i' a') |e=>K e st')):QmW P m c st K:=by
 refine Qkm (X:=Nat × A) (fun x=>S (x.1:Int) x.2) (fun x=>x.1≤n∧I x.1 x.2) (fun x=>n-x.1) (0,a0) h0 ⟨Nat.zero_le _,hI⟩ fun x hx=>?_
 refine Does.mono (Ql8 hT hP (h x.1 x.2 hx.1 hx.2)) fun e st' hk=>?_
 cases e with
 |normal =>
   obtain ⟨i',a',⟨hlt,e,hi⟩,hle⟩:=hk
   subst e
   exact ⟨(x.1+1,a'),⟨hlt,hi⟩,by show n-(x.1+1) < n-x.1;omega,hle⟩
 |_=>exact hk
end
end Go.Fw

