/- The table of types of this seat. -/
import Derived.Test.YthpijepbbpcjeaaFw28
import Derived.Test.YthpijepbbpcjeaaProg
namespace Go.Fw
open Go.Proofs
@[reducible] def ty1 : TI := { desc := .other, size := 1, bytes := 8, zero := [.imm .nilFunc], ety := none }
@[reducible] def ty2 : TI := { desc := (.int .i64), size := 1, bytes := 8, zero := [.imm (.int .i64 0)], ety := (some (.int .i64)) }
@[reducible] def ty3 : TI := { desc := (.int .i64), size := 1, bytes := 8, zero := [.imm (.int .i64 0)], ety := (some (.int .i64)) }
@[reducible] def ty4 : TI := { desc := .bool, size := 1, bytes := 1, zero := [.imm (.bool false)], ety := (some .bool) }
@[reducible] def ty5 : TI := { desc := (.int .u8), size := 1, bytes := 1, zero := [.imm (.int .u8 0)], ety := (some (.int .u8)) }
@[reducible] def ty6 : TI := { desc := (.int .u8), size := 1, bytes := 1, zero := [.imm (.int .u8 0)], ety := (some (.int .u8)) }
@[reducible] def ty7 : TI := { desc := (.struct [(2, 0), (3, 1), (4, 2), (6, 3)]), size := 4, bytes := 24, zero := [.imm (.int .i64 0), .imm (.int .i64 0), .imm (.bool false), .imm (.int .u8 0)], ety := (some (.pair (.int .i64) (.pair (.int .i64) (.pair .bool (.int .u8))))) }
@[reducible] def ty8 : TI := { desc := (.struct [(2, 0), (3, 1), (4, 2), (6, 3)]), size := 4, bytes := 24, zero := [.imm (.int .i64 0), .imm (.int .i64 0), .imm (.bool false), .imm (.int .u8 0)], ety := (some (.pair (.int .i64) (.pair (.int .i64) (.pair .bool (.int .u8))))) }
@[reducible] def ty9 : TI := { desc := .str, size := 1, bytes := 16, zero := [.imm (.string ByteArray.empty)], ety := (some .str) }
@[reducible] def ty10 : TI := { desc := .str, size := 1, bytes := 16, zero := [.imm (.string ByteArray.empty)], ety := (some .str) }
@[reducible] def ty11 : TI := { desc := .str, size := 1, bytes := 16, zero := [.imm (.string ByteArray.empty)], ety := (some .str) }
@[reducible] def ty12 : TI := { desc := (.int .u64), size := 1, bytes := 8, zero := [.imm (.int .u64 0)], ety := (some (.int .u64)) }
@[reducible] def ty13 : TI := { desc := (.struct [(9, 0), (12, 1)]), size := 2, bytes := 24, zero := [.imm (.string ByteArray.empty), .imm (.int .u64 0)], ety := (some (.pair .str (.int .u64))) }
@[reducible] def ty14 : TI := { desc := (.struct [(9, 0), (12, 1)]), size := 2, bytes := 24, zero := [.imm (.string ByteArray.empty), .imm (.int .u64 0)], ety := (some (.pair .str (.int .u64))) }
@[reducible] def ty15 : TI := { desc := (.ptr 165), size := 1, bytes := 8, zero := [.imm (.pointer none)], ety := none }
@[reducible] def ty16 : TI := { desc := (.ptr 168), size := 1, bytes := 8, zero := [.imm (.pointer none)], ety := none }
@[reducible] def ty17 : TI := { desc := (.ptr 177), size := 1, bytes := 8, zero := [.imm (.pointer none)], ety := none }
@[reducible] def ty18 : TI := { desc := (.struct [(17, 0)]), size := 1, bytes := 8, zero := [.imm (.pointer none)], ety := none }
@[reducible] def ty19 : TI := { desc := (.struct [(17, 0)]), size := 1, bytes := 8, zero := [.imm (.pointer none)], ety := none }
@[reducible] def ty20 : TI := { desc := .iface, size := 1, bytes := 16, zero := [.imm .nilIface], ety := none }
@[reducible] def ty21 : TI := { desc := (.int .i32), size := 1, bytes := 4, zero := [.imm (.int .i32 0)], ety := (some (.int .i32)) }
@[reducible] def ty22 : TI := { desc := (.slice 3), size := 1, bytes := 24, zero := [.imm (.slice none 0 0)], ety := (some (.sl (.int .i64))) }
@[reducible] def ty23 : TI := { desc := (.slice 5), size := 1, bytes := 24, zero := [.imm (.slice none 0 0)], ety := (some (.sl (.int .u8))) }
@[reducible] def ty24 : TI := { desc := (.struct [(22, 0), (23, 1)]), size := 2, bytes := 48, zero := [.imm (.slice none 0 0), .imm (.slice none 0 0)], ety := (some (.pair (.sl (.int .i64)) (.sl (.int .u8)))) }
@[reducible] def ty25 : TI := { desc := (.struct [(22, 0), (23, 1)]), size := 2, bytes := 48, zero := [.imm (.slice none 0 0), .imm (.slice none 0 0)], ety := (some (.pair (.sl (.int .i64)) (.sl (.int .u8)))) }
@[reducible] def ty26 : TI := { desc := (.struct [(9, 0), (3, 1), (3, 2), (3, 3), (23, 4)]), size := 5, bytes := 64, zero := [.imm (.string ByteArray.empty), .imm (.int .i64 0), .imm (.int .i64 0), .imm (.int .i64 0), .imm (.slice none 0 0)], ety := (some (.pair .str (.pair (.int .i64) (.pair (.int .i64) (.pair (.int .i64) (.sl (.int .u8))))))) }
@[reducible] def ty27 : TI := { desc := (.struct [(9, 0), (3, 1), (3, 2), (3, 3), (23, 4)]), size := 5, bytes := 64, zero := [.imm (.string ByteArray.empty), .imm (.int .i64 0), .imm (.int .i64 0), .imm (.int .i64 0), .imm (.slice none 0 0)], ety := (some (.pair .str (.pair (.int .i64) (.pair (.int .i64) (.pair (.int .i64) (.sl (.int .u8))))))) }
@[reducible] def ty28 : TI := { desc := .other, size := 1, bytes := 8, zero := [.imm .nilFunc], ety := none }
@[reducible] def ty29 : TI := { desc := .other, size := 1, bytes := 8, zero := [.imm .nilFunc], ety := none }
@[reducible] def ty30 : TI := { desc := .other, size := 1, bytes := 8, zero := [.imm .nilFunc], ety := none }
@[reducible] def ty31 : TI := { desc := .other, size := 1, bytes := 8, zero := [.imm .nilFunc], ety := none }
@[reducible] def ty32 : TI := { desc := .other, size := 1, bytes := 8, zero := [.imm .nilFunc], ety := none }
@[reducible] def ty33 : TI := { desc := .other, size := 1, bytes := 8, zero := [.imm .nilFunc], ety := none }
@[reducible] def ty34 : TI := { desc := .other, size := 1, bytes := 8, zero := [.imm .nilFunc], ety := none }
@[reducible] def ty35 : TI := { desc := .other, size := 1, bytes := 8, zero := [.imm .nilFunc], ety := none }
@[reducible] def ty37 : TI := { desc := .other, size := 1, bytes := 8, zero := [.imm .nilFunc], ety := none }
@[reducible] def ty38 : TI := { desc := .other, size := 1, bytes := 8, zero := [.imm .nilFunc], ety := none }
@[reducible] def ty39 : TI := { desc := .other, size := 1, bytes := 8, zero := [.imm .nilFunc], ety := none }
@[reducible] def ty40 : TI := { desc := .other, size := 1, bytes := 8, zero := [.imm .nilFunc], ety := none }
@[reducible] def ty41 : TI := { desc := .other, size := 1, bytes := 8, zero := [.imm .nilFunc], ety := none }
@[reducible] def ty42 : TI := { desc := .other, size := 1, bytes := 8, zero := [.imm .nilFunc], ety := none }
@[reducible] def ty43 : TI := { desc := .other, size := 1, bytes := 8, zero := [.imm .nilFunc], ety := none }
@[reducible] def ty44 : TI := { desc := .other, size := 1, bytes := 8, zero := [.imm .nilFunc], ety := none }
@[reducible] def ty45 : TI := { desc := .other, size := 1, bytes := 8, zero := [.imm .nilFunc], ety := none }
@[reducible] def ty46 : TI := { desc := .other, size := 1, bytes := 8, zero := [.imm .nilFunc], ety := none }
@[reducible] def ty47 : TI := { desc := (.array 9 3), size := 9, bytes := 72, zero := [.run .i64 9 (List.replicate 9 0)], ety := (some (.ints .i64 9)), cmp := true }
@[reducible] def ty48 : TI := { desc := (.array 9 3), size := 9, bytes := 72, zero := [.run .i64 9 (List.replicate 9 0)], ety := (some (.ints .i64 9)), cmp := true }
@[reducible] def ty49 : TI := { desc := (.struct [(48, 0), (3, 9), (3, 10), (4, 11)]), size := 12, bytes := 96, zero := [.run .i64 9 (List.replicate 9 0), .imm (.int .i64 0), .imm (.int .i64 0), .imm (.bool false)], ety := (some (.pair (.ints .i64 9) (.pair (.int .i64) (.pair (.int .i64) .bool)))) }
@[reducible] def ty50 : TI := { desc := (.struct [(48, 0), (3, 9), (3, 10), (4, 11)]), size := 12, bytes := 96, zero := [.run .i64 9 (List.replicate 9 0), .imm (.int .i64 0), .imm (.int .i64 0), .imm (.bool false)], ety := (some (.pair (.ints .i64 9) (.pair (.int .i64) (.pair (.int .i64) .bool)))), cmp := true }
@[reducible] def ty51 : TI := { desc := (.slice 25), size := 1, bytes := 24, zero := [.imm (.slice none 0 0)], ety := (some (.sl (.pair (.sl (.int .i64)) (.sl (.int .u8))))) }
@[reducible] def ty52 : TI := { desc := (.struct [(3, 0), (3, 1), (3, 2)]), size := 3, bytes := 24, zero := [.imm (.int .i64 0), .imm (.int .i64 0), .imm (.int .i64 0)], ety := (some (.pair (.int .i64) (.pair (.int .i64) (.int .i64)))) }
@[reducible] def ty53 : TI := { desc := (.struct [(3, 0), (3, 1), (3, 2)]), size := 3, bytes := 24, zero := [.imm (.int .i64 0), .imm (.int .i64 0), .imm (.int .i64 0)], ety := (some (.pair (.int .i64) (.pair (.int .i64) (.int .i64)))), cmp := true }
@[reducible] def ty54 : TI := { desc := (.struct [(3, 0), (50, 1), (51, 13), (53, 14)]), size := 17, bytes := 152, zero := [.imm (.int .i64 0), .run .i64 9 (List.replicate 9 0), .imm (.int .i64 0), .imm (.int .i64 0), .imm (.bool false), .imm (.slice none 0 0), .imm (.int .i64 0), .imm (.int .i64 0), .imm (.int .i64 0)], ety := (some (.pair (.int .i64) (.pair (.pair (.ints .i64 9) (.pair (.int .i64) (.pair (.int .i64) .bool))) (.pair (.sl (.pair (.sl (.int .i64)) (.sl (.int .u8)))) (.pair (.int .i64) (.pair (.int .i64) (.int .i64))))))) }
@[reducible] def ty55 : TI := { desc := (.struct [(3, 0), (50, 1), (51, 13), (53, 14)]), size := 17, bytes := 152, zero := [.imm (.int .i64 0), .run .i64 9 (List.replicate 9 0), .imm (.int .i64 0), .imm (.int .i64 0), .imm (.bool false), .imm (.slice none 0 0), .imm (.int .i64 0), .imm (.int .i64 0), .imm (.int .i64 0)], ety := (some (.pair (.int .i64) (.pair (.pair (.ints .i64 9) (.pair (.int .i64) (.pair (.int .i64) .bool))) (.pair (.sl (.pair (.sl (.int .i64)) (.sl (.int .u8)))) (.pair (.int .i64) (.pair (.int .i64) (.int .i64))))))) }
@[reducible] def ty56 : TI := { desc := .other, size := 1, bytes := 8, zero := [.imm .nilFunc], ety := none }
@[reducible] def ty57 : TI := { desc := .other, size := 1, bytes := 8, zero := [.imm .nilFunc], ety := none }
@[reducible] def ty58 : TI := { desc := (.int .i64), size := 1, bytes := 8, zero := [.imm (.int .i64 0)], ety := (some (.int .i64)) }
@[reducible] def ty60 : TI := { desc := .other, size := 1, bytes := 8, zero := [.imm .nilFunc], ety := none }
@[reducible] def ty61 : TI := { desc := .other, size := 1, bytes := 8, zero := [.imm .nilFunc], ety := none }
@[reducible] def ty63 : TI := { desc := .other, size := 1, bytes := 8, zero := [.imm .nilFunc], ety := none }
@[reducible] def ty64 : TI := { desc := .other, size := 1, bytes := 8, zero := [.imm .nilFunc], ety := none }
@[reducible] def ty65 : TI := { desc := .other, size := 1, bytes := 8, zero := [.imm .nilFunc], ety := none }
@[reducible] def ty66 : TI := { desc := (.slice 140), size := 1, bytes := 24, zero := [.imm (.slice none 0 0)], ety := (some (.sl (.pair (.int .i64) (.pair .str (.pair (.int .i64) (.sl (.pair (.int .i64) (.pair (.int .i64) (.pair (.int .i64) (.sl (.pair (.int .i64) (.pair (.int .i64) (.pair (.int .i64) (.int .i64)))))))))))))) }
@[reducible] def ty67 : TI := { desc := (.slice 124), size := 1, bytes := 24, zero := [.imm (.slice none 0 0)], ety := (some (.sl (.pair (.int .i64) (.pair (.int .i64) (.pair (.int .i64) (.sl (.pair (.int .i64) (.pair (.int .i64) (.pair (.int .i64) (.int .i64)))))))))) }
@[reducible] def ty68 : TI := { desc := (.struct [(9, 0), (66, 1), (67, 2), (67, 3), (67, 4)]), size := 5, bytes := 112, zero := [.imm (.string ByteArray.empty), .imm (.slice none 0 0), .imm (.slice none 0 0), .imm (.slice none 0 0), .imm (.slice none 0 0)], ety := (some (.pair .str (.pair (.sl (.pair (.int .i64) (.pair .str (.pair (.int .i64) (.sl (.pair (.int .i64) (.pair (.int .i64) (.pair (.int .i64) (.sl (.pair (.int .i64) (.pair (.int .i64) (.pair (.int .i64) (.int .i64))))))))))))) (.pair (.sl (.pair (.int .i64) (.pair (.int .i64) (.pair (.int .i64) (.sl (.pair (.int .i64) (.pair (.int .i64) (.pair (.int .i64) (.int .i64))))))))) (.pair (.sl (.pair (.int .i64) (.pair (.int .i64) (.pair (.int .i64) (.sl (.pair (.int .i64) (.pair (.int .i64) (.pair (.int .i64) (.int .i64))))))))) (.sl (.pair (.int .i64) (.pair (.int .i64) (.pair (.int .i64) (.sl (.pair (.int .i64) (.pair (.int .i64) (.pair (.int .i64) (.int .i64)))))))))))))) }
@[reducible] def ty69 : TI := { desc := (.struct [(9, 0), (66, 1), (67, 2), (67, 3), (67, 4)]), size := 5, bytes := 112, zero := [.imm (.string ByteArray.empty), .imm (.slice none 0 0), .imm (.slice none 0 0), .imm (.slice none 0 0), .imm (.slice none 0 0)], ety := (some (.pair .str (.pair (.sl (.pair (.int .i64) (.pair .str (.pair (.int .i64) (.sl (.pair (.int .i64) (.pair (.int .i64) (.pair (.int .i64) (.sl (.pair (.int .i64) (.pair (.int .i64) (.pair (.int .i64) (.int .i64))))))))))))) (.pair (.sl (.pair (.int .i64) (.pair (.int .i64) (.pair (.int .i64) (.sl (.pair (.int .i64) (.pair (.int .i64) (.pair (.int .i64) (.int .i64))))))))) (.pair (.sl (.pair (.int .i64) (.pair (.int .i64) (.pair (.int .i64) (.sl (.pair (.int .i64) (.pair (.int .i64) (.pair (.int .i64) (.int .i64))))))))) (.sl (.pair (.int .i64) (.pair (.int .i64) (.pair (.int .i64) (.sl (.pair (.int .i64) (.pair (.int .i64) (.pair (.int .i64) (.int .i64)))))))))))))) }
@[reducible] def ty71 : TI := { desc := .other, size := 1, bytes := 8, zero := [.imm .nilFunc], ety := none }
@[reducible] def ty72 : TI := { desc := .other, size := 1, bytes := 8, zero := [.imm .nilFunc], ety := none }
@[reducible] def ty73 : TI := { desc := .other, size := 1, bytes := 8, zero := [.imm .nilFunc], ety := none }
@[reducible] def ty74 : TI := { desc := .other, size := 1, bytes := 8, zero := [.imm .nilFunc], ety := none }
@[reducible] def ty75 : TI := { desc := (.struct [(3, 0), (3, 1), (3, 2), (3, 3)]), size := 4, bytes := 32, zero := [.imm (.int .i64 0), .imm (.int .i64 0), .imm (.int .i64 0), .imm (.int .i64 0)], ety := (some (.pair (.int .i64) (.pair (.int .i64) (.pair (.int .i64) (.int .i64))))) }
@[reducible] def ty76 : TI := { desc := (.struct [(3, 0), (3, 1), (3, 2), (3, 3)]), size := 4, bytes := 32, zero := [.imm (.int .i64 0), .imm (.int .i64 0), .imm (.int .i64 0), .imm (.int .i64 0)], ety := (some (.pair (.int .i64) (.pair (.int .i64) (.pair (.int .i64) (.int .i64))))), cmp := true }
@[reducible] def ty77 : TI := { desc := .other, size := 1, bytes := 8, zero := [.imm .nilFunc], ety := none }
@[reducible] def ty79 : TI := { desc := .other, size := 1, bytes := 8, zero := [.imm .nilFunc], ety := none }
@[reducible] def ty80 : TI := { desc := .other, size := 1, bytes := 8, zero := [.imm .nilFunc], ety := none }
@[reducible] def ty81 : TI := { desc := .other, size := 1, bytes := 8, zero := [.imm .nilFunc], ety := none }
@[reducible] def ty82 : TI := { desc := .other, size := 1, bytes := 8, zero := [.imm .nilFunc], ety := none }
@[reducible] def ty83 : TI := { desc := .other, size := 1, bytes := 8, zero := [.imm .nilFunc], ety := none }
@[reducible] def ty84 : TI := { desc := .other, size := 1, bytes := 8, zero := [.imm .nilFunc], ety := none }
@[reducible] def ty86 : TI := { desc := .other, size := 1, bytes := 8, zero := [.imm .nilFunc], ety := none }
@[reducible] def ty87 : TI := { desc := .other, size := 1, bytes := 8, zero := [.imm .nilFunc], ety := none }
@[reducible] def ty89 : TI := { desc := .other, size := 1, bytes := 8, zero := [.imm .nilFunc], ety := none }
@[reducible] def ty90 : TI := { desc := (.slice 22), size := 1, bytes := 24, zero := [.imm (.slice none 0 0)], ety := (some (.sl (.sl (.int .i64)))) }
@[reducible] def ty91 : TI := { desc := .other, size := 1, bytes := 8, zero := [.imm .nilFunc], ety := none }
@[reducible] def ty92 : TI := { desc := .other, size := 1, bytes := 8, zero := [.imm .nilFunc], ety := none }
@[reducible] def ty93 : TI := { desc := .other, size := 1, bytes := 8, zero := [.imm .nilFunc], ety := none }
@[reducible] def ty95 : TI := { desc := .other, size := 1, bytes := 8, zero := [.imm .nilFunc], ety := none }
@[reducible] def ty96 : TI := { desc := .other, size := 1, bytes := 8, zero := [.imm .nilFunc], ety := none }
@[reducible] def ty97 : TI := { desc := .other, size := 1, bytes := 8, zero := [.imm .nilFunc], ety := none }
@[reducible] def ty98 : TI := { desc := .other, size := 1, bytes := 8, zero := [.imm .nilFunc], ety := none }
@[reducible] def ty99 : TI := { desc := .other, size := 1, bytes := 8, zero := [.imm .nilFunc], ety := none }
@[reducible] def ty100 : TI := { desc := (.int .u64), size := 1, bytes := 8, zero := [.imm (.int .u64 0)], ety := (some (.int .u64)) }
@[reducible] def ty101 : TI := { desc := .other, size := 1, bytes := 8, zero := [.imm .nilFunc], ety := none }
@[reducible] def ty102 : TI := { desc := .other, size := 1, bytes := 8, zero := [.imm .nilFunc], ety := none }
@[reducible] def ty103 : TI := { desc := .other, size := 1, bytes := 8, zero := [.imm .nilFunc], ety := none }
@[reducible] def ty104 : TI := { desc := .other, size := 1, bytes := 8, zero := [.imm .nilFunc], ety := none }
@[reducible] def ty105 : TI := { desc := .other, size := 1, bytes := 8, zero := [.imm .nilFunc], ety := none }
@[reducible] def ty106 : TI := { desc := .other, size := 1, bytes := 8, zero := [.imm .nilFunc], ety := none }
@[reducible] def ty107 : TI := { desc := .other, size := 1, bytes := 8, zero := [.imm .nilFunc], ety := none }
@[reducible] def ty108 : TI := { desc := .other, size := 1, bytes := 8, zero := [.imm .nilFunc], ety := none }
@[reducible] def ty109 : TI := { desc := .other, size := 1, bytes := 8, zero := [.imm .nilFunc], ety := none }
@[reducible] def ty110 : TI := { desc := (.ptr 112), size := 1, bytes := 8, zero := [.imm (.pointer none)], ety := none }
@[reducible] def ty111 : TI := { desc := (.struct [(23, 0), (4, 1)]), size := 2, bytes := 32, zero := [.imm (.slice none 0 0), .imm (.bool false)], ety := (some (.pair (.sl (.int .u8)) .bool)) }
@[reducible] def ty112 : TI := { desc := (.struct [(23, 0), (4, 1)]), size := 2, bytes := 32, zero := [.imm (.slice none 0 0), .imm (.bool false)], ety := (some (.pair (.sl (.int .u8)) .bool)) }
@[reducible] def ty113 : TI := { desc := .other, size := 1, bytes := 8, zero := [.imm .nilFunc], ety := none }
@[reducible] def ty114 : TI := { desc := .other, size := 1, bytes := 8, zero := [.imm .nilFunc], ety := none }
@[reducible] def ty116 : TI := { desc := .other, size := 1, bytes := 8, zero := [.imm .nilFunc], ety := none }
@[reducible] def ty118 : TI := { desc := .other, size := 1, bytes := 8, zero := [.imm .nilFunc], ety := none }
@[reducible] def ty119 : TI := { desc := .other, size := 1, bytes := 8, zero := [.imm .nilFunc], ety := none }
@[reducible] def ty121 : TI := { desc := .other, size := 1, bytes := 8, zero := [.imm .nilFunc], ety := none }
@[reducible] def ty122 : TI := { desc := (.slice 76), size := 1, bytes := 24, zero := [.imm (.slice none 0 0)], ety := (some (.sl (.pair (.int .i64) (.pair (.int .i64) (.pair (.int .i64) (.int .i64)))))) }
@[reducible] def ty123 : TI := { desc := (.struct [(3, 0), (3, 1), (3, 2), (122, 3)]), size := 4, bytes := 48, zero := [.imm (.int .i64 0), .imm (.int .i64 0), .imm (.int .i64 0), .imm (.slice none 0 0)], ety := (some (.pair (.int .i64) (.pair (.int .i64) (.pair (.int .i64) (.sl (.pair (.int .i64) (.pair (.int .i64) (.pair (.int .i64) (.int .i64))))))))) }
@[reducible] def ty124 : TI := { desc := (.struct [(3, 0), (3, 1), (3, 2), (122, 3)]), size := 4, bytes := 48, zero := [.imm (.int .i64 0), .imm (.int .i64 0), .imm (.int .i64 0), .imm (.slice none 0 0)], ety := (some (.pair (.int .i64) (.pair (.int .i64) (.pair (.int .i64) (.sl (.pair (.int .i64) (.pair (.int .i64) (.pair (.int .i64) (.int .i64))))))))) }
@[reducible] def ty126 : TI := { desc := .other, size := 1, bytes := 8, zero := [.imm .nilFunc], ety := none }
@[reducible] def ty127 : TI := { desc := .other, size := 1, bytes := 8, zero := [.imm .nilFunc], ety := none }
@[reducible] def ty128 : TI := { desc := .other, size := 1, bytes := 8, zero := [.imm .nilFunc], ety := none }
@[reducible] def ty129 : TI := { desc := .other, size := 1, bytes := 8, zero := [.imm .nilFunc], ety := none }
@[reducible] def ty130 : TI := { desc := .other, size := 1, bytes := 8, zero := [.imm .nilFunc], ety := none }
@[reducible] def ty131 : TI := { desc := .other, size := 1, bytes := 8, zero := [.imm .nilFunc], ety := none }
@[reducible] def ty132 : TI := { desc := .other, size := 1, bytes := 8, zero := [.imm .nilFunc], ety := none }
@[reducible] def ty133 : TI := { desc := .other, size := 1, bytes := 8, zero := [.imm .nilFunc], ety := none }
@[reducible] def ty134 : TI := { desc := .other, size := 1, bytes := 8, zero := [.imm .nilFunc], ety := none }
@[reducible] def ty135 : TI := { desc := .other, size := 1, bytes := 8, zero := [.imm .nilFunc], ety := none }
@[reducible] def ty136 : TI := { desc := .other, size := 1, bytes := 8, zero := [.imm .nilFunc], ety := none }
@[reducible] def ty137 : TI := { desc := .other, size := 1, bytes := 8, zero := [.imm .nilFunc], ety := none }
@[reducible] def ty138 : TI := { desc := .other, size := 1, bytes := 8, zero := [.imm .nilFunc], ety := none }
@[reducible] def ty139 : TI := { desc := (.struct [(3, 0), (9, 1), (3, 2), (67, 3)]), size := 4, bytes := 56, zero := [.imm (.int .i64 0), .imm (.string ByteArray.empty), .imm (.int .i64 0), .imm (.slice none 0 0)], ety := (some (.pair (.int .i64) (.pair .str (.pair (.int .i64) (.sl (.pair (.int .i64) (.pair (.int .i64) (.pair (.int .i64) (.sl (.pair (.int .i64) (.pair (.int .i64) (.pair (.int .i64) (.int .i64))))))))))))) }
@[reducible] def ty140 : TI := { desc := (.struct [(3, 0), (9, 1), (3, 2), (67, 3)]), size := 4, bytes := 56, zero := [.imm (.int .i64 0), .imm (.string ByteArray.empty), .imm (.int .i64 0), .imm (.slice none 0 0)], ety := (some (.pair (.int .i64) (.pair .str (.pair (.int .i64) (.sl (.pair (.int .i64) (.pair (.int .i64) (.pair (.int .i64) (.sl (.pair (.int .i64) (.pair (.int .i64) (.pair (.int .i64) (.int .i64))))))))))))) }
@[reducible] def ty141 : TI := { desc := .other, size := 1, bytes := 8, zero := [.imm .nilFunc], ety := none }
@[reducible] def ty142 : TI := { desc := .other, size := 1, bytes := 8, zero := [.imm .nilFunc], ety := none }
@[reducible] def ty143 : TI := { desc := .other, size := 1, bytes := 8, zero := [.imm .nilFunc], ety := none }
@[reducible] def ty144 : TI := { desc := .other, size := 1, bytes := 8, zero := [.imm .nilFunc], ety := none }
@[reducible] def ty145 : TI := { desc := (.slice 67), size := 1, bytes := 24, zero := [.imm (.slice none 0 0)], ety := (some (.sl (.sl (.pair (.int .i64) (.pair (.int .i64) (.pair (.int .i64) (.sl (.pair (.int .i64) (.pair (.int .i64) (.pair (.int .i64) (.int .i64))))))))))) }
@[reducible] def ty146 : TI := { desc := (.map 148 4), size := 1, bytes := 8, zero := [.imm (.map none)], ety := none }
@[reducible] def ty147 : TI := { desc := (.struct [(9, 0), (3, 1)]), size := 2, bytes := 24, zero := [.imm (.string ByteArray.empty), .imm (.int .i64 0)], ety := (some (.pair .str (.int .i64))) }
@[reducible] def ty148 : TI := { desc := (.struct [(9, 0), (3, 1)]), size := 2, bytes := 24, zero := [.imm (.string ByteArray.empty), .imm (.int .i64 0)], ety := (some (.pair .str (.int .i64))), cmp := true }
@[reducible] def ty149 : TI := { desc := (.array 8 3), size := 8, bytes := 64, zero := [.run .i64 8 (List.replicate 8 0)], ety := (some (.ints .i64 8)), cmp := true }
@[reducible] def ty150 : TI := { desc := (.array 6 3), size := 6, bytes := 48, zero := [.run .i64 6 (List.replicate 6 0)], ety := (some (.ints .i64 6)), cmp := true }
@[reducible] def ty151 : TI := { desc := (.int .u64), size := 1, bytes := 8, zero := [.imm (.int .u64 0)], ety := (some (.int .u64)) }
@[reducible] def ty152 : TI := { desc := (.array 10 3), size := 10, bytes := 80, zero := [.run .i64 10 (List.replicate 10 0)], ety := (some (.ints .i64 10)), cmp := true }
@[reducible] def ty153 : TI := { desc := .other, size := 1, bytes := 8, zero := [.imm .nilFunc], ety := none }
@[reducible] def ty154 : TI := { desc := .other, size := 1, bytes := 8, zero := [.imm .nilFunc], ety := none }
@[reducible] def ty155 : TI := { desc := .other, size := 1, bytes := 8, zero := [.imm .nilFunc], ety := none }
@[reducible] def ty156 : TI := { desc := (.map 4 3), size := 1, bytes := 8, zero := [.imm (.map none)], ety := none }
@[reducible] def ty157 : TI := { desc := .other, size := 1, bytes := 8, zero := [.imm .nilFunc], ety := none }
@[reducible] def ty158 : TI := { desc := .other, size := 1, bytes := 8, zero := [.imm .nilFunc], ety := none }
@[reducible] def ty159 : TI := { desc := .other, size := 1, bytes := 8, zero := [.imm .nilFunc], ety := none }
@[reducible] def ty161 : TI := { desc := .other, size := 1, bytes := 8, zero := [.imm .nilFunc], ety := none }
@[reducible] def ty162 : TI := { desc := .other, size := 1, bytes := 8, zero := [.imm .nilFunc], ety := none }
@[reducible] def ty163 : TI := { desc := .other, size := 1, bytes := 8, zero := [.imm .nilFunc], ety := none }
@[reducible] def ty164 : TI := { desc := (.struct [(17, 0), (17, 1), (17, 2), (9, 3)]), size := 4, bytes := 40, zero := [.imm (.pointer none), .imm (.pointer none), .imm (.pointer none), .imm (.string ByteArray.empty)], ety := none }
@[reducible] def ty165 : TI := { desc := (.struct [(17, 0), (17, 1), (17, 2), (9, 3)]), size := 4, bytes := 40, zero := [.imm (.pointer none), .imm (.pointer none), .imm (.pointer none), .imm (.string ByteArray.empty)], ety := none }
@[reducible] def ty166 : TI := { desc := (.array 0 16), size := 0, bytes := 0, zero := [], ety := none }
@[reducible] def ty167 : TI := { desc := (.struct [(166, 0)]), size := 0, bytes := 0, zero := [], ety := none }
@[reducible] def ty168 : TI := { desc := (.struct [(166, 0)]), size := 0, bytes := 0, zero := [], ety := none }
@[reducible] def ty169 : TI := { desc := (.int .u32), size := 1, bytes := 4, zero := [.imm (.int .u32 0)], ety := (some (.int .u32)) }
@[reducible] def ty170 : TI := { desc := (.int .u8), size := 1, bytes := 1, zero := [.imm (.int .u8 0)], ety := (some (.int .u8)) }
@[reducible] def ty171 : TI := { desc := (.int .u8), size := 1, bytes := 1, zero := [.imm (.int .u8 0)], ety := (some (.int .u8)) }
@[reducible] def ty172 : TI := { desc := .other, size := 1, bytes := 8, zero := [.imm .nilFunc], ety := none }
@[reducible] def ty173 : TI := { desc := (.ptr 5), size := 1, bytes := 8, zero := [.imm (.pointer none)], ety := none }
@[reducible] def ty174 : TI := { desc := (.int .i32), size := 1, bytes := 4, zero := [.imm (.int .i32 0)], ety := (some (.int .i32)) }
@[reducible] def ty175 : TI := { desc := (.int .i32), size := 1, bytes := 4, zero := [.imm (.int .i32 0)], ety := (some (.int .i32)) }
@[reducible] def ty176 : TI := { desc := (.struct [(12, 0), (12, 1), (169, 2), (170, 3), (5, 4), (5, 5), (171, 6), (172, 7), (173, 8), (174, 9), (175, 10)]), size := 11, bytes := 48, zero := [.imm (.int .u64 0), .imm (.int .u64 0), .imm (.int .u32 0), .imm (.int .u8 0), .imm (.int .u8 0), .imm (.int .u8 0), .imm (.int .u8 0), .imm .nilFunc, .imm (.pointer none), .imm (.int .i32 0), .imm (.int .i32 0)], ety := none }
@[reducible] def ty177 : TI := { desc := (.struct [(12, 0), (12, 1), (169, 2), (170, 3), (5, 4), (5, 5), (171, 6), (172, 7), (173, 8), (174, 9), (175, 10)]), size := 11, bytes := 48, zero := [.imm (.int .u64 0), .imm (.int .u64 0), .imm (.int .u32 0), .imm (.int .u8 0), .imm (.int .u8 0), .imm (.int .u8 0), .imm (.int .u8 0), .imm .nilFunc, .imm (.pointer none), .imm (.int .i32 0), .imm (.int .i32 0)], ety := none }
def tree : TTree := (.node 90 ty90 (.node 43 ty43 (.node 21 ty21 (.node 11 ty11 (.node 6 ty6 (.node 3 ty3 (.node 2 ty2 (.node 1 ty1 .leaf .leaf) .leaf) (.node 5 ty5 (.node 4 ty4 .leaf .leaf) .leaf)) (.node 9 ty9 (.node 8 ty8 (.node 7 ty7 .leaf .leaf) .leaf) (.node 10 ty10 .leaf .leaf))) (.node 16 ty16 (.node 14 ty14 (.node 13 ty13 (.node 12 ty12 .leaf .leaf) .leaf) (.node 15 ty15 .leaf .leaf)) (.node 19 ty19 (.node 18 ty18 (.node 17 ty17 .leaf .leaf) .leaf) (.node 20 ty20 .leaf .leaf)))) (.node 32 ty32 (.node 27 ty27 (.node 24 ty24 (.node 23 ty23 (.node 22 ty22 .leaf .leaf) .leaf) (.node 26 ty26 (.node 25 ty25 .leaf .leaf) .leaf)) (.node 30 ty30 (.node 29 ty29 (.node 28 ty28 .leaf .leaf) .leaf) (.node 31 ty31 .leaf .leaf))) (.node 38 ty38 (.node 35 ty35 (.node 34 ty34 (.node 33 ty33 .leaf .leaf) .leaf) (.node 37 ty37 .leaf .leaf)) (.node 41 ty41 (.node 40 ty40 (.node 39 ty39 .leaf .leaf) .leaf) (.node 42 ty42 .leaf .leaf))))) (.node 66 ty66 (.node 54 ty54 (.node 49 ty49 (.node 46 ty46 (.node 45 ty45 (.node 44 ty44 .leaf .leaf) .leaf) (.node 48 ty48 (.node 47 ty47 .leaf .leaf) .leaf)) (.node 52 ty52 (.node 51 ty51 (.node 50 ty50 .leaf .leaf) .leaf) (.node 53 ty53 .leaf .leaf))) (.node 60 ty60 (.node 57 ty57 (.node 56 ty56 (.node 55 ty55 .leaf .leaf) .leaf) (.node 58 ty58 .leaf .leaf)) (.node 64 ty64 (.node 63 ty63 (.node 61 ty61 .leaf .leaf) .leaf) (.node 65 ty65 .leaf .leaf)))) (.node 77 ty77 (.node 72 ty72 (.node 69 ty69 (.node 68 ty68 (.node 67 ty67 .leaf .leaf) .leaf) (.node 71 ty71 .leaf .leaf)) (.node 75 ty75 (.node 74 ty74 (.node 73 ty73 .leaf .leaf) .leaf) (.node 76 ty76 .leaf .leaf))) (.node 83 ty83 (.node 81 ty81 (.node 80 ty80 (.node 79 ty79 .leaf .leaf) .leaf) (.node 82 ty82 .leaf .leaf)) (.node 87 ty87 (.node 86 ty86 (.node 84 ty84 .leaf .leaf) .leaf) (.node 89 ty89 .leaf .leaf)))))) (.node 136 ty136 (.node 112 ty112 (.node 102 ty102 (.node 97 ty97 (.node 93 ty93 (.node 92 ty92 (.node 91 ty91 .leaf .leaf) .leaf) (.node 96 ty96 (.node 95 ty95 .leaf .leaf) .leaf)) (.node 100 ty100 (.node 99 ty99 (.node 98 ty98 .leaf .leaf) .leaf) (.node 101 ty101 .leaf .leaf))) (.node 107 ty107 (.node 105 ty105 (.node 104 ty104 (.node 103 ty103 .leaf .leaf) .leaf) (.node 106 ty106 .leaf .leaf)) (.node 110 ty110 (.node 109 ty109 (.node 108 ty108 .leaf .leaf) .leaf) (.node 111 ty111 .leaf .leaf)))) (.node 126 ty126 (.node 119 ty119 (.node 116 ty116 (.node 114 ty114 (.node 113 ty113 .leaf .leaf) .leaf) (.node 118 ty118 .leaf .leaf)) (.node 123 ty123 (.node 122 ty122 (.node 121 ty121 .leaf .leaf) .leaf) (.node 124 ty124 .leaf .leaf))) (.node 131 ty131 (.node 129 ty129 (.node 128 ty128 (.node 127 ty127 .leaf .leaf) .leaf) (.node 130 ty130 .leaf .leaf)) (.node 134 ty134 (.node 133 ty133 (.node 132 ty132 .leaf .leaf) .leaf) (.node 135 ty135 .leaf .leaf))))) (.node 157 ty157 (.node 147 ty147 (.node 142 ty142 (.node 139 ty139 (.node 138 ty138 (.node 137 ty137 .leaf .leaf) .leaf) (.node 141 ty141 (.node 140 ty140 .leaf .leaf) .leaf)) (.node 145 ty145 (.node 144 ty144 (.node 143 ty143 .leaf .leaf) .leaf) (.node 146 ty146 .leaf .leaf))) (.node 152 ty152 (.node 150 ty150 (.node 149 ty149 (.node 148 ty148 .leaf .leaf) .leaf) (.node 151 ty151 .leaf .leaf)) (.node 155 ty155 (.node 154 ty154 (.node 153 ty153 .leaf .leaf) .leaf) (.node 156 ty156 .leaf .leaf)))) (.node 168 ty168 (.node 163 ty163 (.node 161 ty161 (.node 159 ty159 (.node 158 ty158 .leaf .leaf) .leaf) (.node 162 ty162 .leaf .leaf)) (.node 166 ty166 (.node 165 ty165 (.node 164 ty164 .leaf .leaf) .leaf) (.node 167 ty167 .leaf .leaf))) (.node 173 ty173 (.node 171 ty171 (.node 170 ty170 (.node 169 ty169 .leaf .leaf) .leaf) (.node 172 ty172 .leaf .leaf)) (.node 176 ty176 (.node 175 ty175 (.node 174 ty174 .leaf .leaf) .leaf) (.node 177 ty177 .leaf .leaf)))))))
theorem tree_ok : chkTree Try.prog tree = true := by kernel_rfl
end Go.Fw
