/- Part 16 of the proof. Conditions: none. -/
import Derived.Test.YtofgbclopbmlcaaGreatG15
import Derived.Test.YtofgbclopbmlcaaGreatProg
namespace Go.Fw
open Go.Proofs
@[reducible] def ty1:TI:={ desc:=.other,size:=1,bytes:=8,zero:=[.imm .nilFunc],ety:=none }
@[reducible] def ty2:TI:={ desc:=(.int .i64),size:=1,bytes:=8,zero:=[.imm (.int .i64 0)],ety:=(some (.int .i64)) }
@[reducible] def ty3:TI:={ desc:=(.int .i64),size:=1,bytes:=8,zero:=[.imm (.int .i64 0)],ety:=(some (.int .i64)) }
@[reducible] def ty4:TI:={ desc:=.bool,size:=1,bytes:=1,zero:=[.imm (.bool false)],ety:=(some .bool) }
@[reducible] def ty5:TI:={ desc:=(.int .u8),size:=1,bytes:=1,zero:=[.imm (.int .u8 0)],ety:=(some (.int .u8)) }
@[reducible] def ty6:TI:={ desc:=(.int .u8),size:=1,bytes:=1,zero:=[.imm (.int .u8 0)],ety:=(some (.int .u8)) }
@[reducible] def ty7:TI:={ desc:=(.struct [(2,0),(3,1),(4,2),(6,3)]),size:=4,bytes:=24,zero:=[.imm (.int .i64 0),.imm (.int .i64 0),.imm (.bool false),.imm (.int .u8 0)],ety:=(some (.pair (.int .i64) (.pair (.int .i64) (.pair .bool (.int .u8))))) }
@[reducible] def ty8:TI:={ desc:=(.struct [(2,0),(3,1),(4,2),(6,3)]),size:=4,bytes:=24,zero:=[.imm (.int .i64 0),.imm (.int .i64 0),.imm (.bool false),.imm (.int .u8 0)],ety:=(some (.pair (.int .i64) (.pair (.int .i64) (.pair .bool (.int .u8))))) }
@[reducible] def ty9:TI:={ desc:=.str,size:=1,bytes:=16,zero:=[.imm (.string ByteArray.empty)],ety:=(some .str) }
@[reducible] def QKv:TI:={ desc:=.str,size:=1,bytes:=16,zero:=[.imm (.string ByteArray.empty)],ety:=(some .str) }
@[reducible] def QKw:TI:={ desc:=.str,size:=1,bytes:=16,zero:=[.imm (.string ByteArray.empty)],ety:=(some .str) }
@[reducible] def QKx:TI:={ desc:=(.int .u64),size:=1,bytes:=8,zero:=[.imm (.int .u64 0)],ety:=(some (.int .u64)) }
@[reducible] def QKy:TI:={ desc:=(.struct [(9,0),(12,1)]),size:=2,bytes:=24,zero:=[.imm (.string ByteArray.empty),.imm (.int .u64 0)],ety:=(some (.pair .str (.int .u64))) }
@[reducible] def QKz:TI:={ desc:=(.struct [(9,0),(12,1)]),size:=2,bytes:=24,zero:=[.imm (.string ByteArray.empty),.imm (.int .u64 0)],ety:=(some (.pair .str (.int .u64))) }
@[reducible] def QKA:TI:={ desc:=(.ptr 270),size:=1,bytes:=8,zero:=[.imm (.pointer none)],ety:=none }
@[reducible] def QKB:TI:={ desc:=(.ptr 273),size:=1,bytes:=8,zero:=[.imm (.pointer none)],ety:=none }
@[reducible] def QKC:TI:={ desc:=(.ptr 281),size:=1,bytes:=8,zero:=[.imm (.pointer none)],ety:=none }
@[reducible] def QKD:TI:={ desc:=(.struct [(17,0)]),size:=1,bytes:=8,zero:=[.imm (.pointer none)],ety:=none }
@[reducible] def QKE:TI:={ desc:=(.struct [(17,0)]),size:=1,bytes:=8,zero:=[.imm (.pointer none)],ety:=none }
@[reducible] def QKF:TI:={ desc:=.iface,size:=1,bytes:=16,zero:=[.imm .nilIface],ety:=none }
@[reducible] def QKG:TI:={ desc:=(.int .i32),size:=1,bytes:=4,zero:=[.imm (.int .i32 0)],ety:=(some (.int .i32)) }
@[reducible] def QKH:TI:={ desc:=(.slice 85),size:=1,bytes:=24,zero:=[.imm (.slice none 0 0)],ety:=(some (.sl (.pair (.pair .str (.pair (.pair .str (.pair (.sl (.pair (.int .i64) (.pair .str (.pair (.int .i64) (.sl (.pair (.int .i64) (.pair (.int .i64) (.pair (.int .i64) (.sl (.pair (.int .i64) (.pair (.int .i64) (.pair (.int .i64) (.int .i64))))))))))))) (.pair (.sl (.pair (.int .i64) (.pair (.int .i64) (.pair (.int .i64) (.sl (.pair (.int .i64) (.pair (.int .i64) (.pair (.int .i64) (.int .i64))))))))) (.pair (.sl (.pair (.int .i64) (.pair (.int .i64) (.pair (.int .i64) (.sl (.pair (.int .i64) (.pair (.int .i64) (.pair (.int .i64) (.int .i64))))))))) (.sl (.pair (.int .i64) (.pair (.int .i64) (.pair (.int .i64) (.sl (.pair (.int .i64) (.pair (.int .i64) (.pair (.int .i64) (.int .i64))))))))))))) (.pair (.sl (.pair .str (.pair (.int .i64) (.pair (.int .i64) (.pair (.int .i64) (.sl (.int .u8))))))) (.sl (.pair .str .str))))) (.pair (.pair (.int .i64) (.pair (.pair (.ints .i64 9) (.pair (.int .i64) (.pair (.int .i64) .bool))) (.pair (.sl (.pair (.sl (.int .i64)) (.sl (.int .u8)))) (.pair (.int .i64) (.pair (.int .i64) (.int .i64)))))) (.sl (.pair (.int .i64) (.pair .str (.int .i64)))))))) }
@[reducible] def QKI:TI:={ desc:=(.slice 28),size:=1,bytes:=24,zero:=[.imm (.slice none 0 0)],ety:=(some (.sl (.pair (.int .i64) (.pair .str (.pair (.int .i64) (.pair .str (.int .i64))))))) }
@[reducible] def QKJ:TI:={ desc:=.other,size:=1,bytes:=8,zero:=[.imm .nilFunc],ety:=none }
@[reducible] def QKK:TI:={ desc:=(.int .i64),size:=1,bytes:=8,zero:=[.imm (.int .i64 0)],ety:=(some (.int .i64)) }
@[reducible] def QKL:TI:={ desc:=.other,size:=1,bytes:=8,zero:=[.imm .nilFunc],ety:=none }
@[reducible] def QKM:TI:={ desc:=(.struct [(3,0),(9,1),(3,2),(9,3),(3,4)]),size:=5,bytes:=56,zero:=[.imm (.int .i64 0),.imm (.string ByteArray.empty),.imm (.int .i64 0),.imm (.string ByteArray.empty),.imm (.int .i64 0)],ety:=(some (.pair (.int .i64) (.pair .str (.pair (.int .i64) (.pair .str (.int .i64)))))) }
@[reducible] def QKN:TI:={ desc:=(.struct [(3,0),(9,1),(3,2),(9,3),(3,4)]),size:=5,bytes:=56,zero:=[.imm (.int .i64 0),.imm (.string ByteArray.empty),.imm (.int .i64 0),.imm (.string ByteArray.empty),.imm (.int .i64 0)],ety:=(some (.pair (.int .i64) (.pair .str (.pair (.int .i64) (.pair .str (.int .i64)))))),cmp:=true }
@[reducible] def QKO:TI:={ desc:=.other,size:=1,bytes:=8,zero:=[.imm .nilFunc],ety:=none }
@[reducible] def QKP:TI:={ desc:=(.slice 165),size:=1,bytes:=24,zero:=[.imm (.slice none 0 0)],ety:=(some (.sl (.pair (.int .i64) (.pair .str (.pair (.int .i64) (.sl (.pair (.int .i64) (.pair (.int .i64) (.pair (.int .i64) (.sl (.pair (.int .i64) (.pair (.int .i64) (.pair (.int .i64) (.int .i64)))))))))))))) }
@[reducible] def QKQ:TI:={ desc:=(.slice 172),size:=1,bytes:=24,zero:=[.imm (.slice none 0 0)],ety:=(some (.sl (.pair (.int .i64) (.pair (.int .i64) (.pair (.int .i64) (.sl (.pair (.int .i64) (.pair (.int .i64) (.pair (.int .i64) (.int .i64)))))))))) }
@[reducible] def QKR:TI:={ desc:=(.struct [(9,0),(30,1),(31,2),(31,3),(31,4)]),size:=5,bytes:=112,zero:=[.imm (.string ByteArray.empty),.imm (.slice none 0 0),.imm (.slice none 0 0),.imm (.slice none 0 0),.imm (.slice none 0 0)],ety:=(some (.pair .str (.pair (.sl (.pair (.int .i64) (.pair .str (.pair (.int .i64) (.sl (.pair (.int .i64) (.pair (.int .i64) (.pair (.int .i64) (.sl (.pair (.int .i64) (.pair (.int .i64) (.pair (.int .i64) (.int .i64))))))))))))) (.pair (.sl (.pair (.int .i64) (.pair (.int .i64) (.pair (.int .i64) (.sl (.pair (.int .i64) (.pair (.int .i64) (.pair (.int .i64) (.int .i64))))))))) (.pair (.sl (.pair (.int .i64) (.pair (.int .i64) (.pair (.int .i64) (.sl (.pair (.int .i64) (.pair (.int .i64) (.pair (.int .i64) (.int .i64))))))))) (.sl (.pair (.int .i64) (.pair (.int .i64) (.pair (.int .i64) (.sl (.pair (.int .i64) (.pair (.int .i64) (.pair (.int .i64) (.int .i64)))))))))))))) }
@[reducible] def QKS:TI:={ desc:=(.struct [(9,0),(30,1),(31,2),(31,3),(31,4)]),size:=5,bytes:=112,zero:=[.imm (.string ByteArray.empty),.imm (.slice none 0 0),.imm (.slice none 0 0),.imm (.slice none 0 0),.imm (.slice none 0 0)],ety:=(some (.pair .str (.pair (.sl (.pair (.int .i64) (.pair .str (.pair (.int .i64) (.sl (.pair (.int .i64) (.pair (.int .i64) (.pair (.int .i64) (.sl (.pair (.int .i64) (.pair (.int .i64) (.pair (.int .i64) (.int .i64))))))))))))) (.pair (.sl (.pair (.int .i64) (.pair (.int .i64) (.pair (.int .i64) (.sl (.pair (.int .i64) (.pair (.int .i64) (.pair (.int .i64) (.int .i64))))))))) (.pair (.sl (.pair (.int .i64) (.pair (.int .i64) (.pair (.int .i64) (.sl (.pair (.int .i64) (.pair (.int .i64) (.pair (.int .i64) (.int .i64))))))))) (.sl (.pair (.int .i64) (.pair (.int .i64) (.pair (.int .i64) (.sl (.pair (.int .i64) (.pair (.int .i64) (.pair (.int .i64) (.int .i64)))))))))))))) }
@[reducible] def QKT:TI:={ desc:=(.slice 54),size:=1,bytes:=24,zero:=[.imm (.slice none 0 0)],ety:=(some (.sl (.pair .str (.pair (.int .i64) (.pair (.int .i64) (.pair (.int .i64) (.sl (.int .u8)))))))) }
@[reducible] def QKU:TI:={ desc:=(.slice 114),size:=1,bytes:=24,zero:=[.imm (.slice none 0 0)],ety:=(some (.sl (.pair .str .str))) }
@[reducible] def QKV:TI:={ desc:=(.struct [(9,0),(33,1),(34,6),(35,7)]),size:=8,bytes:=176,zero:=[.imm (.string ByteArray.empty),.imm (.string ByteArray.empty),.imm (.slice none 0 0),.imm (.slice none 0 0),.imm (.slice none 0 0),.imm (.slice none 0 0),.imm (.slice none 0 0),.imm (.slice none 0 0)],ety:=(some (.pair .str (.pair (.pair .str (.pair (.sl (.pair (.int .i64) (.pair .str (.pair (.int .i64) (.sl (.pair (.int .i64) (.pair (.int .i64) (.pair (.int .i64) (.sl (.pair (.int .i64) (.pair (.int .i64) (.pair (.int .i64) (.int .i64))))))))))))) (.pair (.sl (.pair (.int .i64) (.pair (.int .i64) (.pair (.int .i64) (.sl (.pair (.int .i64) (.pair (.int .i64) (.pair (.int .i64) (.int .i64))))))))) (.pair (.sl (.pair (.int .i64) (.pair (.int .i64) (.pair (.int .i64) (.sl (.pair (.int .i64) (.pair (.int .i64) (.pair (.int .i64) (.int .i64))))))))) (.sl (.pair (.int .i64) (.pair (.int .i64) (.pair (.int .i64) (.sl (.pair (.int .i64) (.pair (.int .i64) (.pair (.int .i64) (.int .i64))))))))))))) (.pair (.sl (.pair .str (.pair (.int .i64) (.pair (.int .i64) (.pair (.int .i64) (.sl (.int .u8))))))) (.sl (.pair .str .str)))))) }
@[reducible] def QKW:TI:={ desc:=(.struct [(9,0),(33,1),(34,6),(35,7)]),size:=8,bytes:=176,zero:=[.imm (.string ByteArray.empty),.imm (.string ByteArray.empty),.imm (.slice none 0 0),.imm (.slice none 0 0),.imm (.slice none 0 0),.imm (.slice none 0 0),.imm (.slice none 0 0),.imm (.slice none 0 0)],ety:=(some (.pair .str (.pair (.pair .str (.pair (.sl (.pair (.int .i64) (.pair .str (.pair (.int .i64) (.sl (.pair (.int .i64) (.pair (.int .i64) (.pair (.int .i64) (.sl (.pair (.int .i64) (.pair (.int .i64) (.pair (.int .i64) (.int .i64))))))))))))) (.pair (.sl (.pair (.int .i64) (.pair (.int .i64) (.pair (.int .i64) (.sl (.pair (.int .i64) (.pair (.int .i64) (.pair (.int .i64) (.int .i64))))))))) (.pair (.sl (.pair (.int .i64) (.pair (.int .i64) (.pair (.int .i64) (.sl (.pair (.int .i64) (.pair (.int .i64) (.pair (.int .i64) (.int .i64))))))))) (.sl (.pair (.int .i64) (.pair (.int .i64) (.pair (.int .i64) (.sl (.pair (.int .i64) (.pair (.int .i64) (.pair (.int .i64) (.int .i64))))))))))))) (.pair (.sl (.pair .str (.pair (.int .i64) (.pair (.int .i64) (.pair (.int .i64) (.sl (.int .u8))))))) (.sl (.pair .str .str)))))) }
@[reducible] def QKX:TI:={ desc:=(.array 9 3),size:=9,bytes:=72,zero:=[.run .i64 9 (List.replicate 9 0)],ety:=(some (.ints .i64 9)),cmp:=true }
@[reducible] def QKY:TI:={ desc:=(.array 9 3),size:=9,bytes:=72,zero:=[.run .i64 9 (List.replicate 9 0)],ety:=(some (.ints .i64 9)),cmp:=true }
@[reducible] def QKZ:TI:={ desc:=(.struct [(39,0),(3,9),(3,10),(4,11)]),size:=12,bytes:=96,zero:=[.run .i64 9 (List.replicate 9 0),.imm (.int .i64 0),.imm (.int .i64 0),.imm (.bool false)],ety:=(some (.pair (.ints .i64 9) (.pair (.int .i64) (.pair (.int .i64) .bool)))) }
@[reducible] def QK0:TI:={ desc:=(.struct [(39,0),(3,9),(3,10),(4,11)]),size:=12,bytes:=96,zero:=[.run .i64 9 (List.replicate 9 0),.imm (.int .i64 0),.imm (.int .i64 0),.imm (.bool false)],ety:=(some (.pair (.ints .i64 9) (.pair (.int .i64) (.pair (.int .i64) .bool)))),cmp:=true }
@[reducible] def QK1:TI:={ desc:=(.slice 57),size:=1,bytes:=24,zero:=[.imm (.slice none 0 0)],ety:=(some (.sl (.pair (.sl (.int .i64)) (.sl (.int .u8))))) }
@[reducible] def QK2:TI:={ desc:=(.struct [(3,0),(3,1),(3,2)]),size:=3,bytes:=24,zero:=[.imm (.int .i64 0),.imm (.int .i64 0),.imm (.int .i64 0)],ety:=(some (.pair (.int .i64) (.pair (.int .i64) (.int .i64)))) }
@[reducible] def QK3:TI:={ desc:=(.struct [(3,0),(3,1),(3,2)]),size:=3,bytes:=24,zero:=[.imm (.int .i64 0),.imm (.int .i64 0),.imm (.int .i64 0)],ety:=(some (.pair (.int .i64) (.pair (.int .i64) (.int .i64)))),cmp:=true }
@[reducible] def QK4:TI:={ desc:=(.struct [(3,0),(41,1),(42,13),(44,14)]),size:=17,bytes:=152,zero:=[.imm (.int .i64 0),.run .i64 9 (List.replicate 9 0),.imm (.int .i64 0),.imm (.int .i64 0),.imm (.bool false),.imm (.slice none 0 0),.imm (.int .i64 0),.imm (.int .i64 0),.imm (.int .i64 0)],ety:=(some (.pair (.int .i64) (.pair (.pair (.ints .i64 9) (.pair (.int .i64) (.pair (.int .i64) .bool))) (.pair (.sl (.pair (.sl (.int .i64)) (.sl (.int .u8)))) (.pair (.int .i64) (.pair (.int .i64) (.int .i64))))))) }
@[reducible] def QK5:TI:={ desc:=(.struct [(3,0),(41,1),(42,13),(44,14)]),size:=17,bytes:=152,zero:=[.imm (.int .i64 0),.run .i64 9 (List.replicate 9 0),.imm (.int .i64 0),.imm (.int .i64 0),.imm (.bool false),.imm (.slice none 0 0),.imm (.int .i64 0),.imm (.int .i64 0),.imm (.int .i64 0)],ety:=(some (.pair (.int .i64) (.pair (.pair (.ints .i64 9) (.pair (.int .i64) (.pair (.int .i64) .bool))) (.pair (.sl (.pair (.sl (.int .i64)) (.sl (.int .u8)))) (.pair (.int .i64) (.pair (.int .i64) (.int .i64))))))) }
@[reducible] def QK6:TI:={ desc:=(.slice 86),size:=1,bytes:=24,zero:=[.imm (.slice none 0 0)],ety:=(some (.sl (.pair (.int .i64) (.pair .str (.int .i64))))) }
@[reducible] def QK7:TI:={ desc:=.other,size:=1,bytes:=8,zero:=[.imm .nilFunc],ety:=none }
@[reducible] def QK8:TI:={ desc:=(.slice 4),size:=1,bytes:=24,zero:=[.imm (.slice none 0 0)],ety:=(some (.sl .bool)) }
@[reducible] def QK9:TI:={ desc:=.other,size:=1,bytes:=8,zero:=[.imm .nilFunc],ety:=none }
@[reducible] def QLa:TI:={ desc:=.other,size:=1,bytes:=8,zero:=[.imm .nilFunc],ety:=none }
@[reducible] def QLb:TI:={ desc:=(.slice 5),size:=1,bytes:=24,zero:=[.imm (.slice none 0 0)],ety:=(some (.sl (.int .u8))) }
@[reducible] def QLc:TI:={ desc:=(.struct [(9,0),(3,1),(3,2),(3,3),(52,4)]),size:=5,bytes:=64,zero:=[.imm (.string ByteArray.empty),.imm (.int .i64 0),.imm (.int .i64 0),.imm (.int .i64 0),.imm (.slice none 0 0)],ety:=(some (.pair .str (.pair (.int .i64) (.pair (.int .i64) (.pair (.int .i64) (.sl (.int .u8))))))) }
@[reducible] def QLd:TI:={ desc:=(.slice 3),size:=1,bytes:=24,zero:=[.imm (.slice none 0 0)],ety:=(some (.sl (.int .i64))) }
@[reducible] def QLe:TI:={ desc:=(.struct [(55,0),(52,1)]),size:=2,bytes:=48,zero:=[.imm (.slice none 0 0),.imm (.slice none 0 0)],ety:=(some (.pair (.sl (.int .i64)) (.sl (.int .u8)))) }
@[reducible] def QLf:TI:={ desc:=(.struct [(55,0),(52,1)]),size:=2,bytes:=48,zero:=[.imm (.slice none 0 0),.imm (.slice none 0 0)],ety:=(some (.pair (.sl (.int .i64)) (.sl (.int .u8)))) }
@[reducible] def QLg:TI:={ desc:=.other,size:=1,bytes:=8,zero:=[.imm .nilFunc],ety:=none }
@[reducible] def QLh:TI:={ desc:=.other,size:=1,bytes:=8,zero:=[.imm .nilFunc],ety:=none }
@[reducible] def QLi:TI:={ desc:=.other,size:=1,bytes:=8,zero:=[.imm .nilFunc],ety:=none }
@[reducible] def QLj:TI:={ desc:=.other,size:=1,bytes:=8,zero:=[.imm .nilFunc],ety:=none }
@[reducible] def QLk:TI:={ desc:=.other,size:=1,bytes:=8,zero:=[.imm .nilFunc],ety:=none }
@[reducible] def QLl:TI:={ desc:=.other,size:=1,bytes:=8,zero:=[.imm .nilFunc],ety:=none }
@[reducible] def QLm:TI:={ desc:=(.slice 70),size:=1,bytes:=24,zero:=[.imm (.slice none 0 0)],ety:=(some (.sl (.pair (.int .i64) (.pair .str (.int .i64))))) }
@[reducible] def QLn:TI:={ desc:=.other,size:=1,bytes:=8,zero:=[.imm .nilFunc],ety:=none }
@[reducible] def QLo:TI:={ desc:=.other,size:=1,bytes:=8,zero:=[.imm .nilFunc],ety:=none }
@[reducible] def QLp:TI:={ desc:=(.struct [(3,0),(9,1),(3,2)]),size:=3,bytes:=32,zero:=[.imm (.int .i64 0),.imm (.string ByteArray.empty),.imm (.int .i64 0)],ety:=(some (.pair (.int .i64) (.pair .str (.int .i64)))) }
@[reducible] def QLq:TI:={ desc:=(.struct [(3,0),(9,1),(3,2)]),size:=3,bytes:=32,zero:=[.imm (.int .i64 0),.imm (.string ByteArray.empty),.imm (.int .i64 0)],ety:=(some (.pair (.int .i64) (.pair .str (.int .i64)))),cmp:=true }
@[reducible] def QLr:TI:={ desc:=.other,size:=1,bytes:=8,zero:=[.imm .nilFunc],ety:=none }
@[reducible] def QLs:TI:={ desc:=.other,size:=1,bytes:=8,zero:=[.imm .nilFunc],ety:=none }
@[reducible] def QLt:TI:={ desc:=.other,size:=1,bytes:=8,zero:=[.imm .nilFunc],ety:=none }
@[reducible] def QLu:TI:={ desc:=.other,size:=1,bytes:=8,zero:=[.imm .nilFunc],ety:=none }
@[reducible] def QLv:TI:={ desc:=(.slice 46),size:=1,bytes:=24,zero:=[.imm (.slice none 0 0)],ety:=(some (.sl (.pair (.int .i64) (.pair (.pair (.ints .i64 9) (.pair (.int .i64) (.pair (.int .i64) .bool))) (.pair (.sl (.pair (.sl (.int .i64)) (.sl (.int .u8)))) (.pair (.int .i64) (.pair (.int .i64) (.int .i64)))))))) }
@[reducible] def QLw:TI:={ desc:=(.slice 65),size:=1,bytes:=24,zero:=[.imm (.slice none 0 0)],ety:=(some (.sl (.sl (.pair (.int .i64) (.pair .str (.int .i64)))))) }
@[reducible] def QLx:TI:={ desc:=.other,size:=1,bytes:=8,zero:=[.imm .nilFunc],ety:=none }
@[reducible] def QLy:TI:={ desc:=(.slice 55),size:=1,bytes:=24,zero:=[.imm (.slice none 0 0)],ety:=(some (.sl (.sl (.int .i64)))) }
@[reducible] def QLz:TI:={ desc:=(.struct [(37,0),(46,8),(47,25)]),size:=26,bytes:=352,zero:=[.imm (.string ByteArray.empty),.imm (.string ByteArray.empty),.imm (.slice none 0 0),.imm (.slice none 0 0),.imm (.slice none 0 0),.imm (.slice none 0 0),.imm (.slice none 0 0),.imm (.slice none 0 0),.imm (.int .i64 0),.run .i64 9 (List.replicate 9 0),.imm (.int .i64 0),.imm (.int .i64 0),.imm (.bool false),.imm (.slice none 0 0),.imm (.int .i64 0),.imm (.int .i64 0),.imm (.int .i64 0),.imm (.slice none 0 0)],ety:=(some (.pair (.pair .str (.pair (.pair .str (.pair (.sl (.pair (.int .i64) (.pair .str (.pair (.int .i64) (.sl (.pair (.int .i64) (.pair (.int .i64) (.pair (.int .i64) (.sl (.pair (.int .i64) (.pair (.int .i64) (.pair (.int .i64) (.int .i64))))))))))))) (.pair (.sl (.pair (.int .i64) (.pair (.int .i64) (.pair (.int .i64) (.sl (.pair (.int .i64) (.pair (.int .i64) (.pair (.int .i64) (.int .i64))))))))) (.pair (.sl (.pair (.int .i64) (.pair (.int .i64) (.pair (.int .i64) (.sl (.pair (.int .i64) (.pair (.int .i64) (.pair (.int .i64) (.int .i64))))))))) (.sl (.pair (.int .i64) (.pair (.int .i64) (.pair (.int .i64) (.sl (.pair (.int .i64) (.pair (.int .i64) (.pair (.int .i64) (.int .i64))))))))))))) (.pair (.sl (.pair .str (.pair (.int .i64) (.pair (.int .i64) (.pair (.int .i64) (.sl (.int .u8))))))) (.sl (.pair .str .str))))) (.pair (.pair (.int .i64) (.pair (.pair (.ints .i64 9) (.pair (.int .i64) (.pair (.int .i64) .bool))) (.pair (.sl (.pair (.sl (.int .i64)) (.sl (.int .u8)))) (.pair (.int .i64) (.pair (.int .i64) (.int .i64)))))) (.sl (.pair (.int .i64) (.pair .str (.int .i64))))))) }
@[reducible] def QLA:TI:={ desc:=(.struct [(37,0),(46,8),(47,25)]),size:=26,bytes:=352,zero:=[.imm (.string ByteArray.empty),.imm (.string ByteArray.empty),.imm (.slice none 0 0),.imm (.slice none 0 0),.imm (.slice none 0 0),.imm (.slice none 0 0),.imm (.slice none 0 0),.imm (.slice none 0 0),.imm (.int .i64 0),.run .i64 9 (List.replicate 9 0),.imm (.int .i64 0),.imm (.int .i64 0),.imm (.bool false),.imm (.slice none 0 0),.imm (.int .i64 0),.imm (.int .i64 0),.imm (.int .i64 0),.imm (.slice none 0 0)],ety:=(some (.pair (.pair .str (.pair (.pair .str (.pair (.sl (.pair (.int .i64) (.pair .str (.pair (.int .i64) (.sl (.pair (.int .i64) (.pair (.int .i64) (.pair (.int .i64) (.sl (.pair (.int .i64) (.pair (.int .i64) (.pair (.int .i64) (.int .i64))))))))))))) (.pair (.sl (.pair (.int .i64) (.pair (.int .i64) (.pair (.int .i64) (.sl (.pair (.int .i64) (.pair (.int .i64) (.pair (.int .i64) (.int .i64))))))))) (.pair (.sl (.pair (.int .i64) (.pair (.int .i64) (.pair (.int .i64) (.sl (.pair (.int .i64) (.pair (.int .i64) (.pair (.int .i64) (.int .i64))))))))) (.sl (.pair (.int .i64) (.pair (.int .i64) (.pair (.int .i64) (.sl (.pair (.int .i64) (.pair (.int .i64) (.pair (.int .i64) (.int .i64))))))))))))) (.pair (.sl (.pair .str (.pair (.int .i64) (.pair (.int .i64) (.pair (.int .i64) (.sl (.int .u8))))))) (.sl (.pair .str .str))))) (.pair (.pair (.int .i64) (.pair (.pair (.ints .i64 9) (.pair (.int .i64) (.pair (.int .i64) .bool))) (.pair (.sl (.pair (.sl (.int .i64)) (.sl (.int .u8)))) (.pair (.int .i64) (.pair (.int .i64) (.int .i64)))))) (.sl (.pair (.int .i64) (.pair .str (.int .i64))))))) }
@[reducible] def QLB:TI:={ desc:=(.struct [(3,0),(9,1),(3,2)]),size:=3,bytes:=32,zero:=[.imm (.int .i64 0),.imm (.string ByteArray.empty),.imm (.int .i64 0)],ety:=(some (.pair (.int .i64) (.pair .str (.int .i64)))),cmp:=true }
@[reducible] def QLC:TI:={ desc:=.other,size:=1,bytes:=8,zero:=[.imm .nilFunc],ety:=none }
@[reducible] def QLD:TI:={ desc:=.other,size:=1,bytes:=8,zero:=[.imm .nilFunc],ety:=none }
@[reducible] def QLE:TI:={ desc:=(.ptr 148),size:=1,bytes:=8,zero:=[.imm (.pointer none)],ety:=none }
@[reducible] def QLF:TI:={ desc:=.other,size:=1,bytes:=8,zero:=[.imm .nilFunc],ety:=none }
@[reducible] def QLG:TI:={ desc:=.other,size:=1,bytes:=8,zero:=[.imm .nilFunc],ety:=none }
@[reducible] def QLH:TI:={ desc:=.other,size:=1,bytes:=8,zero:=[.imm .nilFunc],ety:=none }
@[reducible] def QLI:TI:={ desc:=.other,size:=1,bytes:=8,zero:=[.imm .nilFunc],ety:=none }
@[reducible] def QLJ:TI:={ desc:=.other,size:=1,bytes:=8,zero:=[.imm .nilFunc],ety:=none }
@[reducible] def QLK:TI:={ desc:=.other,size:=1,bytes:=8,zero:=[.imm .nilFunc],ety:=none }
@[reducible] def QHJ:TI:={ desc:=.other,size:=1,bytes:=8,zero:=[.imm .nilFunc],ety:=none }
@[reducible] def QHK:TI:={ desc:=.other,size:=1,bytes:=8,zero:=[.imm .nilFunc],ety:=none }
@[reducible] def QHL:TI:={ desc:=.other,size:=1,bytes:=8,zero:=[.imm .nilFunc],ety:=none }
@[reducible] def QHM:TI:={ desc:=.other,size:=1,bytes:=8,zero:=[.imm .nilFunc],ety:=none }
@[reducible] def QHN:TI:={ desc:=.other,size:=1,bytes:=8,zero:=[.imm .nilFunc],ety:=none }
@[reducible] def QHO:TI:={ desc:=.other,size:=1,bytes:=8,zero:=[.imm .nilFunc],ety:=none }
@[reducible] def QHP:TI:={ desc:=(.slice 9),size:=1,bytes:=24,zero:=[.imm (.slice none 0 0)],ety:=(some (.sl .str)) }
@[reducible] def QHQ:TI:={ desc:=.other,size:=1,bytes:=8,zero:=[.imm .nilFunc],ety:=none }
@[reducible] def QHR:TI:={ desc:=.other,size:=1,bytes:=8,zero:=[.imm .nilFunc],ety:=none }
@[reducible] def QHS:TI:={ desc:=(.struct [(9,0),(9,1)]),size:=2,bytes:=32,zero:=[.imm (.string ByteArray.empty),.imm (.string ByteArray.empty)],ety:=(some (.pair .str .str)) }
@[reducible] def QHT:TI:={ desc:=(.struct [(9,0),(9,1)]),size:=2,bytes:=32,zero:=[.imm (.string ByteArray.empty),.imm (.string ByteArray.empty)],ety:=(some (.pair .str .str)),cmp:=true }
@[reducible] def QHU:TI:={ desc:=.other,size:=1,bytes:=8,zero:=[.imm .nilFunc],ety:=none }
@[reducible] def QHV:TI:={ desc:=.other,size:=1,bytes:=8,zero:=[.imm .nilFunc],ety:=none }
@[reducible] def QHW:TI:={ desc:=.other,size:=1,bytes:=8,zero:=[.imm .nilFunc],ety:=none }
@[reducible] def QHX:TI:={ desc:=.other,size:=1,bytes:=8,zero:=[.imm .nilFunc],ety:=none }
@[reducible] def QHY:TI:={ desc:=.other,size:=1,bytes:=8,zero:=[.imm .nilFunc],ety:=none }
@[reducible] def QHZ:TI:={ desc:=(.map 114 4),size:=1,bytes:=8,zero:=[.imm (.map none)],ety:=none }
@[reducible] def QH0:TI:={ desc:=.other,size:=1,bytes:=8,zero:=[.imm .nilFunc],ety:=none }
@[reducible] def QH1:TI:={ desc:=.other,size:=1,bytes:=8,zero:=[.imm .nilFunc],ety:=none }
@[reducible] def QH2:TI:={ desc:=(.ptr 46),size:=1,bytes:=8,zero:=[.imm (.pointer none)],ety:=none }
@[reducible] def QH3:TI:={ desc:=.other,size:=1,bytes:=8,zero:=[.imm .nilFunc],ety:=none }
@[reducible] def QH4:TI:={ desc:=.other,size:=1,bytes:=8,zero:=[.imm .nilFunc],ety:=none }
@[reducible] def QH5:TI:={ desc:=.other,size:=1,bytes:=8,zero:=[.imm .nilFunc],ety:=none }
@[reducible] def QH6:TI:={ desc:=.other,size:=1,bytes:=8,zero:=[.imm .nilFunc],ety:=none }
@[reducible] def QH7:TI:={ desc:=.other,size:=1,bytes:=8,zero:=[.imm .nilFunc],ety:=none }
@[reducible] def QH8:TI:={ desc:=.other,size:=1,bytes:=8,zero:=[.imm .nilFunc],ety:=none }
@[reducible] def QH9:TI:={ desc:=.other,size:=1,bytes:=8,zero:=[.imm .nilFunc],ety:=none }
@[reducible] def QIa:TI:={ desc:=.other,size:=1,bytes:=8,zero:=[.imm .nilFunc],ety:=none }
@[reducible] def QIb:TI:={ desc:=.other,size:=1,bytes:=8,zero:=[.imm .nilFunc],ety:=none }
@[reducible] def QIc:TI:={ desc:=(.struct [(37,0),(47,8),(79,9),(46,10),(3,27)]),size:=28,bytes:=384,zero:=[.imm (.string ByteArray.empty),.imm (.string ByteArray.empty),.imm (.slice none 0 0),.imm (.slice none 0 0),.imm (.slice none 0 0),.imm (.slice none 0 0),.imm (.slice none 0 0),.imm (.slice none 0 0),.imm (.slice none 0 0),.imm (.slice none 0 0),.imm (.int .i64 0),.run .i64 9 (List.replicate 9 0),.imm (.int .i64 0),.imm (.int .i64 0),.imm (.bool false),.imm (.slice none 0 0),.imm (.int .i64 0),.imm (.int .i64 0),.imm (.int .i64 0),.imm (.int .i64 0)],ety:=(some (.pair (.pair .str (.pair (.pair .str (.pair (.sl (.pair (.int .i64) (.pair .str (.pair (.int .i64) (.sl (.pair (.int .i64) (.pair (.int .i64) (.pair (.int .i64) (.sl (.pair (.int .i64) (.pair (.int .i64) (.pair (.int .i64) (.int .i64))))))))))))) (.pair (.sl (.pair (.int .i64) (.pair (.int .i64) (.pair (.int .i64) (.sl (.pair (.int .i64) (.pair (.int .i64) (.pair (.int .i64) (.int .i64))))))))) (.pair (.sl (.pair (.int .i64) (.pair (.int .i64) (.pair (.int .i64) (.sl (.pair (.int .i64) (.pair (.int .i64) (.pair (.int .i64) (.int .i64))))))))) (.sl (.pair (.int .i64) (.pair (.int .i64) (.pair (.int .i64) (.sl (.pair (.int .i64) (.pair (.int .i64) (.pair (.int .i64) (.int .i64))))))))))))) (.pair (.sl (.pair .str (.pair (.int .i64) (.pair (.int .i64) (.pair (.int .i64) (.sl (.int .u8))))))) (.sl (.pair .str .str))))) (.pair (.sl (.pair (.int .i64) (.pair .str (.int .i64)))) (.pair (.sl (.pair (.int .i64) (.pair (.pair (.ints .i64 9) (.pair (.int .i64) (.pair (.int .i64) .bool))) (.pair (.sl (.pair (.sl (.int .i64)) (.sl (.int .u8)))) (.pair (.int .i64) (.pair (.int .i64) (.int .i64))))))) (.pair (.pair (.int .i64) (.pair (.pair (.ints .i64 9) (.pair (.int .i64) (.pair (.int .i64) .bool))) (.pair (.sl (.pair (.sl (.int .i64)) (.sl (.int .u8)))) (.pair (.int .i64) (.pair (.int .i64) (.int .i64)))))) (.int .i64)))))) }
@[reducible] def QId:TI:={ desc:=(.map 167 4),size:=1,bytes:=8,zero:=[.imm (.map none)],ety:=none }
@[reducible] def QIe:TI:={ desc:=(.struct [(3,0),(9,1),(3,2),(31,3)]),size:=4,bytes:=56,zero:=[.imm (.int .i64 0),.imm (.string ByteArray.empty),.imm (.int .i64 0),.imm (.slice none 0 0)],ety:=(some (.pair (.int .i64) (.pair .str (.pair (.int .i64) (.sl (.pair (.int .i64) (.pair (.int .i64) (.pair (.int .i64) (.sl (.pair (.int .i64) (.pair (.int .i64) (.pair (.int .i64) (.int .i64))))))))))))) }
@[reducible] def QIf:TI:={ desc:=(.struct [(9,0),(3,1)]),size:=2,bytes:=24,zero:=[.imm (.string ByteArray.empty),.imm (.int .i64 0)],ety:=(some (.pair .str (.int .i64))),cmp:=true }
@[reducible] def QIg:TI:={ desc:=(.slice 193),size:=1,bytes:=24,zero:=[.imm (.slice none 0 0)],ety:=(some (.sl (.pair (.int .i64) (.pair (.int .i64) (.pair (.int .i64) (.int .i64)))))) }
@[reducible] def QIh:TI:={ desc:=(.struct [(3,0),(3,1),(3,2),(170,3)]),size:=4,bytes:=48,zero:=[.imm (.int .i64 0),.imm (.int .i64 0),.imm (.int .i64 0),.imm (.slice none 0 0)],ety:=(some (.pair (.int .i64) (.pair (.int .i64) (.pair (.int .i64) (.sl (.pair (.int .i64) (.pair (.int .i64) (.pair (.int .i64) (.int .i64))))))))) }
@[reducible] def QIi:TI:={ desc:=(.struct [(3,0),(3,1),(3,2),(170,3)]),size:=4,bytes:=48,zero:=[.imm (.int .i64 0),.imm (.int .i64 0),.imm (.int .i64 0),.imm (.slice none 0 0)],ety:=(some (.pair (.int .i64) (.pair (.int .i64) (.pair (.int .i64) (.sl (.pair (.int .i64) (.pair (.int .i64) (.pair (.int .i64) (.int .i64))))))))) }
@[reducible] def QIj:TI:={ desc:=.other,size:=1,bytes:=8,zero:=[.imm .nilFunc],ety:=none }
@[reducible] def QIk:TI:={ desc:=.other,size:=1,bytes:=8,zero:=[.imm .nilFunc],ety:=none }
@[reducible] def QIl:TI:={ desc:=.other,size:=1,bytes:=8,zero:=[.imm .nilFunc],ety:=none }
@[reducible] def QIm:TI:={ desc:=.other,size:=1,bytes:=8,zero:=[.imm .nilFunc],ety:=none }
@[reducible] def QIn:TI:={ desc:=(.struct [(3,0),(3,1),(3,2),(3,3)]),size:=4,bytes:=32,zero:=[.imm (.int .i64 0),.imm (.int .i64 0),.imm (.int .i64 0),.imm (.int .i64 0)],ety:=(some (.pair (.int .i64) (.pair (.int .i64) (.pair (.int .i64) (.int .i64))))),cmp:=true }
@[reducible] def QIo:TI:={ desc:=(.ptr 31),size:=1,bytes:=8,zero:=[.imm (.pointer none)],ety:=none }
@[reducible] def QIp:TI:={ desc:=(.int .u64),size:=1,bytes:=8,zero:=[.imm (.int .u64 0)],ety:=(some (.int .u64)) }
@[reducible] def QIq:TI:={ desc:=(.slice 31),size:=1,bytes:=24,zero:=[.imm (.slice none 0 0)],ety:=(some (.sl (.sl (.pair (.int .i64) (.pair (.int .i64) (.pair (.int .i64) (.sl (.pair (.int .i64) (.pair (.int .i64) (.pair (.int .i64) (.int .i64))))))))))) }
@[reducible] def QIr:TI:={ desc:=(.int .u64),size:=1,bytes:=8,zero:=[.imm (.int .u64 0)],ety:=(some (.int .u64)) }
@[reducible] def QIs:TI:={ desc:=.other,size:=1,bytes:=8,zero:=[.imm .nilFunc],ety:=none }
@[reducible] def QIt:TI:={ desc:=.other,size:=1,bytes:=8,zero:=[.imm .nilFunc],ety:=none }
@[reducible] def QIu:TI:={ desc:=.other,size:=1,bytes:=8,zero:=[.imm .nilFunc],ety:=none }
@[reducible] def QIv:TI:={ desc:=.other,size:=1,bytes:=8,zero:=[.imm .nilFunc],ety:=none }
@[reducible] def QIw:TI:={ desc:=.other,size:=1,bytes:=8,zero:=[.imm .nilFunc],ety:=none }
@[reducible] def QIx:TI:={ desc:=(.array 8 3),size:=8,bytes:=64,zero:=[.run .i64 8 (List.replicate 8 0)],ety:=(some (.ints .i64 8)),cmp:=true }
@[reducible] def QIy:TI:={ desc:=(.array 10 3),size:=10,bytes:=80,zero:=[.run .i64 10 (List.replicate 10 0)],ety:=(some (.ints .i64 10)),cmp:=true }
@[reducible] def QIz:TI:={ desc:=(.map 4 3),size:=1,bytes:=8,zero:=[.imm (.map none)],ety:=none }
@[reducible] def QIA:TI:={ desc:=(.array 6 3),size:=6,bytes:=48,zero:=[.run .i64 6 (List.replicate 6 0)],ety:=(some (.ints .i64 6)),cmp:=true }
@[reducible] def QIB:TI:={ desc:=.other,size:=1,bytes:=8,zero:=[.imm .nilFunc],ety:=none }
@[reducible] def QIC:TI:={ desc:=.other,size:=1,bytes:=8,zero:=[.imm .nilFunc],ety:=none }
@[reducible] def QID:TI:={ desc:=.other,size:=1,bytes:=8,zero:=[.imm .nilFunc],ety:=none }
@[reducible] def QIE:TI:={ desc:=(.int .u32),size:=1,bytes:=4,zero:=[.imm (.int .u32 0)],ety:=(some (.int .u32)) }
@[reducible] def QIF:TI:={ desc:=(.struct [(17,0),(17,1),(17,2),(9,3)]),size:=4,bytes:=40,zero:=[.imm (.pointer none),.imm (.pointer none),.imm (.pointer none),.imm (.string ByteArray.empty)],ety:=none }
@[reducible] def QIG:TI:={ desc:=(.array 0 16),size:=0,bytes:=0,zero:=[],ety:=none }
@[reducible] def QIH:TI:={ desc:=(.struct [(271,0)]),size:=0,bytes:=0,zero:=[],ety:=none }
@[reducible] def QII:TI:={ desc:=(.int .u8),size:=1,bytes:=1,zero:=[.imm (.int .u8 0)],ety:=(some (.int .u8)) }
@[reducible] def QIJ:TI:={ desc:=(.int .u8),size:=1,bytes:=1,zero:=[.imm (.int .u8 0)],ety:=(some (.int .u8)) }
@[reducible] def QIK:TI:={ desc:=.other,size:=1,bytes:=8,zero:=[.imm .nilFunc],ety:=none }
@[reducible] def QIL:TI:={ desc:=(.ptr 5),size:=1,bytes:=8,zero:=[.imm (.pointer none)],ety:=none }
@[reducible] def QIM:TI:={ desc:=(.int .i32),size:=1,bytes:=4,zero:=[.imm (.int .i32 0)],ety:=(some (.int .i32)) }
@[reducible] def QIN:TI:={ desc:=(.int .i32),size:=1,bytes:=4,zero:=[.imm (.int .i32 0)],ety:=(some (.int .i32)) }
@[reducible] def QIO:TI:={ desc:=(.struct [(12,0),(12,1),(265,2),(274,3),(5,4),(5,5),(275,6),(276,7),(277,8),(278,9),(279,10)]),size:=11,bytes:=48,zero:=[.imm (.int .u64 0),.imm (.int .u64 0),.imm (.int .u32 0),.imm (.int .u8 0),.imm (.int .u8 0),.imm (.int .u8 0),.imm (.int .u8 0),.imm .nilFunc,.imm (.pointer none),.imm (.int .i32 0),.imm (.int .i32 0)],ety:=none }
def tree:TTree:=(.node 86 QLB (.node 39 QKY (.node 20 QKF (.node 10 QKv (.node 5 ty5 (.node 3 ty3 (.node 2 ty2 (.node 1 ty1 .leaf .leaf) .leaf) (.node 4 ty4 .leaf .leaf)) (.node 8 ty8 (.node 7 ty7 (.node 6 ty6 .leaf .leaf) .leaf) (.node 9 ty9 .leaf .leaf))) (.node 15 QKA (.node 13 QKy (.node 12 QKx (.node 11 QKw .leaf .leaf) .leaf) (.node 14 QKz .leaf .leaf)) (.node 18 QKD (.node 17 QKC (.node 16 QKB .leaf .leaf) .leaf) (.node 19 QKE .leaf .leaf)))) (.node 30 QKP (.node 25 QKK (.node 23 QKI (.node 22 QKH (.node 21 QKG .leaf .leaf) .leaf) (.node 24 QKJ .leaf .leaf)) (.node 28 QKN (.node 27 QKM (.node 26 QKL .leaf .leaf) .leaf) (.node 29 QKO .leaf .leaf))) (.node 35 QKU (.node 33 QKS (.node 32 QKR (.node 31 QKQ .leaf .leaf) .leaf) (.node 34 QKT .leaf .leaf)) (.node 37 QKW (.node 36 QKV .leaf .leaf) (.node 38 QKX .leaf .leaf))))) (.node 61 QLi (.node 49 QK8 (.node 44 QK3 (.node 42 QK1 (.node 41 QK0 (.node 40 QKZ .leaf .leaf) .leaf) (.node 43 QK2 .leaf .leaf)) (.node 47 QK6 (.node 46 QK5 (.node 45 QK4 .leaf .leaf) .leaf) (.node 48 QK7 .leaf .leaf))) (.node 55 QLd (.node 52 QLb (.node 51 QLa (.node 50 QK9 .leaf .leaf) .leaf) (.node 54 QLc .leaf .leaf)) (.node 59 QLg (.node 57 QLf (.node 56 QLe .leaf .leaf) .leaf) (.node 60 QLh .leaf .leaf)))) (.node 76 QLs (.node 67 QLn (.node 64 QLl (.node 63 QLk (.node 62 QLj .leaf .leaf) .leaf) (.node 65 QLm .leaf .leaf)) (.node 70 QLq (.node 69 QLp (.node 68 QLo .leaf .leaf) .leaf) (.node 75 QLr .leaf .leaf))) (.node 82 QLx (.node 79 QLv (.node 78 QLu (.node 77 QLt .leaf .leaf) .leaf) (.node 80 QLw .leaf .leaf)) (.node 84 QLz (.node 83 QLy .leaf .leaf) (.node 85 QLA .leaf .leaf)))))) (.node 148 QIc (.node 114 QHT (.node 100 QHJ (.node 93 QLG (.node 90 QLE (.node 89 QLD (.node 88 QLC .leaf .leaf) .leaf) (.node 92 QLF .leaf .leaf)) (.node 98 QLJ (.node 97 QLI (.node 94 QLH .leaf .leaf) .leaf) (.node 99 QLK .leaf .leaf))) (.node 108 QHO (.node 103 QHM (.node 102 QHL (.node 101 QHK .leaf .leaf) .leaf) (.node 105 QHN .leaf .leaf)) (.node 112 QHR (.node 111 QHQ (.node 109 QHP .leaf .leaf) .leaf) (.node 113 QHS .leaf .leaf)))) (.node 127 QH3 (.node 120 QHY (.node 117 QHW (.node 116 QHV (.node 115 QHU .leaf .leaf) .leaf) (.node 119 QHX .leaf .leaf)) (.node 124 QH1 (.node 122 QH0 (.node 121 QHZ .leaf .leaf) .leaf) (.node 126 QH2 .leaf .leaf))) (.node 142 QH8 (.node 133 QH6 (.node 130 QH5 (.node 128 QH4 .leaf .leaf) .leaf) (.node 139 QH7 .leaf .leaf)) (.node 144 QIa (.node 143 QH9 .leaf .leaf) (.node 146 QIb .leaf .leaf))))) (.node 246 QIw (.node 191 QIm (.node 171 QIh (.node 167 QIf (.node 165 QIe (.node 163 QId .leaf .leaf) .leaf) (.node 170 QIg .leaf .leaf)) (.node 184 QIk (.node 177 QIj (.node 172 QIi .leaf .leaf) .leaf) (.node 188 QIl .leaf .leaf))) (.node 224 QIr (.node 212 QIp (.node 210 QIo (.node 193 QIn .leaf .leaf) .leaf) (.node 217 QIq .leaf .leaf)) (.node 240 QIu (.node 239 QIt (.node 225 QIs .leaf .leaf) .leaf) (.node 241 QIv .leaf .leaf)))) (.node 271 QIG (.node 257 QIB (.node 255 QIz (.node 250 QIy (.node 249 QIx .leaf .leaf) .leaf) (.node 256 QIA .leaf .leaf)) (.node 265 QIE (.node 259 QID (.node 258 QIC .leaf .leaf) .leaf) (.node 270 QIF .leaf .leaf))) (.node 277 QIL (.node 275 QIJ (.node 274 QII (.node 273 QIH .leaf .leaf) .leaf) (.node 276 QIK .leaf .leaf)) (.node 279 QIN (.node 278 QIM .leaf .leaf) (.node 281 QIO .leaf .leaf)))))))
theorem Qc:QeX Tryz.prog tree=true:=by kernel_rfl
abbrev G0(f:Nat)(s:CSpec):Prop:=QQ Tryz.prog f s
abbrev S0(T:Tab):Prop:=Q9 Tryz.prog T
open Go.RowKit
set_option linter.unusedVariables false
set_option linter.unusedSimpArgs false
def QdG(W:World):Env:={ w:=W,ρ:=fun _=>none,S:=fun g=>g<W.heap.size,H:=fun _=>none,U:=fun _=>False }
theorem QsR(W:World):HeapOk (QdG W):=⟨fun b x h=>(by cases h),fun b b' x x' g h=>(by cases h),fun g h=>h⟩
theorem CSound.start{P:Program}{f:FuncId}{s:CSpec}(h:CSound P f s){vs:Array Value}{args:List V1}{W:World}{p:Option Prop}{r:AV}{fresh:List Blk}(hv:VsR (QdG W) args vs.toList)
 (hrun:s.run args []=some (p,r,[],fresh)) (hp:∀q,p=some q→q):Calls P f vs W fun e w'=>(∃v E',e=.returned v∧E'.w=w'∧AVR E' r v)∧Below W.heap.size W w':=by
 refine(h (QdG W) vs args [] p r [] fresh (fun b=>by simp[QdG]) (fun b=>by simp[QdG]) (QsR W) hv hrun hp).mono ?_
 rintro e w' ⟨v,E',rfl,rfl,hb⟩
 refine⟨⟨v,E',rfl,rfl,hb.val⟩,hb.fr.os,hb.fr.tape,hb.fr.output,hb.fr.size,fun k hk=>hb.fr.old k hk ?_⟩
 rintro ⟨b,x,hx,_⟩
 cases hx
theorem PSpec.law{P:Program}{f:FuncId}{s:PSpec}(h:QQ P f s.spec){vs:Array Value}{W:World}(xs:Args s.gs)(hv:VsR (QdG W) (QaM s.gs xs) vs.toList)(hd:Qdq s.gs (QaM s.gs xs)=some xs)
 {p:Option Prop} (ht:s.out xs=(p,.cell (bv true),[])) (hp:∀q,p=some q→q):Calls P f vs W fun e w'=>e=.returned (.bool true)∧Below W.heap.size W w':=by
 have hrun:s.spec.run (QaM s.gs xs) []=some (p,.cell (bv true),[],[]):=by
  unfold PSpec.spec;simp only[hd,ht]
 refine(h.1.start hv hrun hp).mono ?_
 rintro e w' ⟨⟨v,E',rfl,rfl,hr⟩,hb⟩
 refine⟨?_,hb⟩;obtain⟨e,_⟩:=hr;injection e with e
 rw[e]
theorem VsR.cons{E:Env}{x:V1}{xs:List V1}{v:Value}{vs:List Value}(h:V1R E x v)(hs:VsR E xs vs):VsR E (x::xs) (v::vs):=⟨v,vs,rfl,h,hs⟩
theorem VsR.nil{E:Env}:VsR E [] []:=rfl
theorem V1R.int{E:Env}(k:IntKind)(n:Int):V1R E (.c (.imm (.int k n))) (.int k n):=⟨rfl,rfl⟩
theorem V1R.bool{E:Env}(b:Bool):V1R E (.c (.imm (.bool b))) (.bool b):=⟨rfl,rfl⟩
end Go.Fw

namespace Go.Proofs.YtofgbclopbmlcaaGreat
open Go.Fw
set_option linter.unusedVariables false
set_option linter.unusedSimpArgs false
set_option maxRecDepth 100000
abbrev gi:Sig:=⟨false,.int .i64⟩
abbrev I(n:Int):AV:=.cell (iv .i64 n)
abbrev I1(n:Int):V1:=.c (iv .i64 n)
def QaD(a:Int):Int:=imax 0 (imin a 62)
def QzW:PSpec:=⟨[gi],fun(a,_)=>(none,I (QaD a),[])⟩
theorem QcH:G0 171 QzW.spec:=by
 refine QzW.good (fn:=Tryz.f171) (QzT (fs:=[]) Qc) Qb Tryz.func171 (by kernel_rfl) rfl fun(a:Int) _=>?_
 repeat' first|(apply Ea;conv=>whnf)|apply Eb|apply Ed<;>intro _|apply Ee<;>intro _
 exact .k [] [] _ R R
def QmN(a b:Int):Int:=land .i64 a (IntKind.i64.wrap (shl .i64 1 (QaD b)-1))
def QJB:PSpec:=⟨[gi,gi],fun(a,b,_)=>(none,I (QmN a b),[])⟩
theorem QzX:G0 94 QJB.spec:=by
 have hP:S0 _:=Qa QcH (Qb (T:=tree));have hT:=tabs hP Qc;refine QJB.gd hT hP Tryz.func94 fun(a b:Int) _=>?_
 repeat' first|(apply Ea;conv=>whnf)|apply Eb|apply Ed<;>intro _|apply Ee<;>intro _
 ·show 0≤QaD b;simp only[QaD,QT];omega
 ·exact .k [] [] _ R R
def Qc3(a b:Int):Int×Int:=(QaD a,imax 0 (imin b (IntKind.i64.wrap (62-QaD a))))
def QzY:PSpec:=⟨[gi,gi],fun(a,b,_)=>(none,.tup [I1 (Qc3 a b).1,I1 (Qc3 a b).2],[])⟩
theorem Qek{a b c d:Int}(h1:a=c)(h2:b=d):AV.tup [I1 a,I1 b]=AV.tup [I1 c,I1 d]:=by rw[h1,h2]
theorem QoI:G0 260 QzY.spec:=by
 have hP:S0 _:=Qa QcH (Qb (T:=tree));have hT:=tabs hP Qc;refine QzY.gd hT hP Tryz.func260 fun(a b:Int) _=>?_
 repeat' first|(apply Ea;conv=>whnf)|apply Eb|apply Ed<;>intro _|apply Ee<;>intro _
 exact .k [] [] _ R R
def QIP(n a s:Int):Int:=QmN (shr .i64 (QmN n 62) (Qc3 a s).1) (Qc3 a s).2
theorem Qft(a s:Int):0≤(Qc3 a s).1∧0≤(Qc3 a s).2:=by
 simp only[Qc3,QaD,QT];constructor<;>omega
def QIQ(n a s v:Int):Int :=
 lor .i64 (Q3 .i64 (QmN n 62) (shl .i64 (IntKind.i64.wrap (shl .i64 1 (Qc3 a s).2-1)) (Qc3 a s).1)) (shl .i64 (QmN v (Qc3 a s).2) (Qc3 a s).1)
theorem mixed:Tryz.prog.follows .mixedOrders=true:=by kernel_rfl
abbrev gl:Sig:=⟨false,.sl (.int .i64)⟩
theorem Ef{T:Tab}(hT:TabOk Tryz.prog T)(hP:Q9 Tryz.prog T){m id:Nat}{st:St}{ops:Array Oper}{K:St→Prop}(h:Go (QG4 T ops st K)):DrawG Tryz.prog m id ops st K:=QBH hT hP mixed h
end Go.Proofs.YtofgbclopbmlcaaGreat

