/- Part 6 of the proof: FwTy Fw29 Base Num BaseLaw Fw30 Chip Pick Serial Drive Fw33 Drive2 DriveActs Bit Ref Fw35 Fw37 PortLaw. No statement is handed in here; conditions: none. -/
import Derived.Test.YtofgbclopbmlcaaGreatG5
import Derived.Test.YtofgbclopbmlcaaGreatProg
import Derived.Laws.Bits64
/- The table of types of this seat. -/
namespace Go.Fw
open Go.Proofs
@[reducible] def ty1 : TI := { desc := .other, size := 1, bytes := 8, zero := [.imm .nilFunc], ety := none }
@[reducible] def ty2 : TI := { desc := (.int .i64), size := 1, bytes := 8, zero := [.imm (.int .i64 0)], ety := (some (.int .i64)) }
@[reducible] def ty3 : TI := { desc := (.int .i64), size := 1, bytes := 8, zero := [.imm (.int .i64 0)], ety := (some (.int .i64)) }
@[reducible] def ty4 : TI := { desc := .bool, size := 1, bytes := 1, zero := [.imm (.bool false)], ety := (some .bool) }
@[reducible] def ty5 : TI := { desc := (.int .u8), size := 1, bytes := 1, zero := [.imm (.int .u8 0)], ety := (some (.int .u8)) }
@[reducible] def ty6 : TI := { desc := (.int .u8), size := 1, bytes := 1, zero := [.imm (.int .u8 0)], ety := (some (.int .u8)) }
@[reducible] def ty7 : TI := { desc := (.struct [(2, 0), (3, 1), (4, 2), (6, 3)]), size := 4, bytes := 24, zero := [.imm (.int .i64 0), .imm (.int .i64 0), .imm (.bool false), .imm (.int .u8 0)], ety := (some (.pair (.int .i64) (.pair (.int .i64) (.pair .bool (.int .u8))))) }
@[reducible] def ty8 : TI := { desc := (.struct [(2, 0), (3, 1), (4, 2), (6, 3)]), size := 4, bytes := 24, zero := [.imm (.int .i64 0), .imm (.int .i64 0), .imm (.bool false), .imm (.int .u8 0)], ety := (some (.pair (.int .i64) (.pair (.int .i64) (.pair .bool (.int .u8))))) }
@[reducible] def ty9 : TI := { desc := .str, size := 1, bytes := 16, zero := [.imm (.string ByteArray.empty)], ety := (some .str) }
@[reducible] def ty10 : TI := { desc := .str, size := 1, bytes := 16, zero := [.imm (.string ByteArray.empty)], ety := (some .str) }
@[reducible] def ty11 : TI := { desc := .str, size := 1, bytes := 16, zero := [.imm (.string ByteArray.empty)], ety := (some .str) }
@[reducible] def ty12 : TI := { desc := (.int .u64), size := 1, bytes := 8, zero := [.imm (.int .u64 0)], ety := (some (.int .u64)) }
@[reducible] def ty13 : TI := { desc := (.struct [(9, 0), (12, 1)]), size := 2, bytes := 24, zero := [.imm (.string ByteArray.empty), .imm (.int .u64 0)], ety := (some (.pair .str (.int .u64))) }
@[reducible] def ty14 : TI := { desc := (.struct [(9, 0), (12, 1)]), size := 2, bytes := 24, zero := [.imm (.string ByteArray.empty), .imm (.int .u64 0)], ety := (some (.pair .str (.int .u64))) }
@[reducible] def ty15 : TI := { desc := (.ptr 270), size := 1, bytes := 8, zero := [.imm (.pointer none)], ety := none }
@[reducible] def ty16 : TI := { desc := (.ptr 273), size := 1, bytes := 8, zero := [.imm (.pointer none)], ety := none }
@[reducible] def ty17 : TI := { desc := (.ptr 281), size := 1, bytes := 8, zero := [.imm (.pointer none)], ety := none }
@[reducible] def ty18 : TI := { desc := (.struct [(17, 0)]), size := 1, bytes := 8, zero := [.imm (.pointer none)], ety := none }
@[reducible] def ty19 : TI := { desc := (.struct [(17, 0)]), size := 1, bytes := 8, zero := [.imm (.pointer none)], ety := none }
@[reducible] def ty20 : TI := { desc := .iface, size := 1, bytes := 16, zero := [.imm .nilIface], ety := none }
@[reducible] def ty21 : TI := { desc := (.int .i32), size := 1, bytes := 4, zero := [.imm (.int .i32 0)], ety := (some (.int .i32)) }
@[reducible] def ty22 : TI := { desc := (.slice 85), size := 1, bytes := 24, zero := [.imm (.slice none 0 0)], ety := (some (.sl (.pair (.pair .str (.pair (.pair .str (.pair (.sl (.pair (.int .i64) (.pair .str (.pair (.int .i64) (.sl (.pair (.int .i64) (.pair (.int .i64) (.pair (.int .i64) (.sl (.pair (.int .i64) (.pair (.int .i64) (.pair (.int .i64) (.int .i64))))))))))))) (.pair (.sl (.pair (.int .i64) (.pair (.int .i64) (.pair (.int .i64) (.sl (.pair (.int .i64) (.pair (.int .i64) (.pair (.int .i64) (.int .i64))))))))) (.pair (.sl (.pair (.int .i64) (.pair (.int .i64) (.pair (.int .i64) (.sl (.pair (.int .i64) (.pair (.int .i64) (.pair (.int .i64) (.int .i64))))))))) (.sl (.pair (.int .i64) (.pair (.int .i64) (.pair (.int .i64) (.sl (.pair (.int .i64) (.pair (.int .i64) (.pair (.int .i64) (.int .i64))))))))))))) (.pair (.sl (.pair .str (.pair (.int .i64) (.pair (.int .i64) (.pair (.int .i64) (.sl (.int .u8))))))) (.sl (.pair .str .str))))) (.pair (.pair (.int .i64) (.pair (.pair (.ints .i64 9) (.pair (.int .i64) (.pair (.int .i64) .bool))) (.pair (.sl (.pair (.sl (.int .i64)) (.sl (.int .u8)))) (.pair (.int .i64) (.pair (.int .i64) (.int .i64)))))) (.sl (.pair (.int .i64) (.pair .str (.int .i64)))))))) }
@[reducible] def ty23 : TI := { desc := (.slice 28), size := 1, bytes := 24, zero := [.imm (.slice none 0 0)], ety := (some (.sl (.pair (.int .i64) (.pair .str (.pair (.int .i64) (.pair .str (.int .i64))))))) }
@[reducible] def ty24 : TI := { desc := .other, size := 1, bytes := 8, zero := [.imm .nilFunc], ety := none }
@[reducible] def ty25 : TI := { desc := (.int .i64), size := 1, bytes := 8, zero := [.imm (.int .i64 0)], ety := (some (.int .i64)) }
@[reducible] def ty26 : TI := { desc := .other, size := 1, bytes := 8, zero := [.imm .nilFunc], ety := none }
@[reducible] def ty27 : TI := { desc := (.struct [(3, 0), (9, 1), (3, 2), (9, 3), (3, 4)]), size := 5, bytes := 56, zero := [.imm (.int .i64 0), .imm (.string ByteArray.empty), .imm (.int .i64 0), .imm (.string ByteArray.empty), .imm (.int .i64 0)], ety := (some (.pair (.int .i64) (.pair .str (.pair (.int .i64) (.pair .str (.int .i64)))))) }
@[reducible] def ty28 : TI := { desc := (.struct [(3, 0), (9, 1), (3, 2), (9, 3), (3, 4)]), size := 5, bytes := 56, zero := [.imm (.int .i64 0), .imm (.string ByteArray.empty), .imm (.int .i64 0), .imm (.string ByteArray.empty), .imm (.int .i64 0)], ety := (some (.pair (.int .i64) (.pair .str (.pair (.int .i64) (.pair .str (.int .i64)))))), cmp := true }
@[reducible] def ty29 : TI := { desc := .other, size := 1, bytes := 8, zero := [.imm .nilFunc], ety := none }
@[reducible] def ty30 : TI := { desc := (.slice 165), size := 1, bytes := 24, zero := [.imm (.slice none 0 0)], ety := (some (.sl (.pair (.int .i64) (.pair .str (.pair (.int .i64) (.sl (.pair (.int .i64) (.pair (.int .i64) (.pair (.int .i64) (.sl (.pair (.int .i64) (.pair (.int .i64) (.pair (.int .i64) (.int .i64)))))))))))))) }
@[reducible] def ty31 : TI := { desc := (.slice 172), size := 1, bytes := 24, zero := [.imm (.slice none 0 0)], ety := (some (.sl (.pair (.int .i64) (.pair (.int .i64) (.pair (.int .i64) (.sl (.pair (.int .i64) (.pair (.int .i64) (.pair (.int .i64) (.int .i64)))))))))) }
@[reducible] def ty32 : TI := { desc := (.struct [(9, 0), (30, 1), (31, 2), (31, 3), (31, 4)]), size := 5, bytes := 112, zero := [.imm (.string ByteArray.empty), .imm (.slice none 0 0), .imm (.slice none 0 0), .imm (.slice none 0 0), .imm (.slice none 0 0)], ety := (some (.pair .str (.pair (.sl (.pair (.int .i64) (.pair .str (.pair (.int .i64) (.sl (.pair (.int .i64) (.pair (.int .i64) (.pair (.int .i64) (.sl (.pair (.int .i64) (.pair (.int .i64) (.pair (.int .i64) (.int .i64))))))))))))) (.pair (.sl (.pair (.int .i64) (.pair (.int .i64) (.pair (.int .i64) (.sl (.pair (.int .i64) (.pair (.int .i64) (.pair (.int .i64) (.int .i64))))))))) (.pair (.sl (.pair (.int .i64) (.pair (.int .i64) (.pair (.int .i64) (.sl (.pair (.int .i64) (.pair (.int .i64) (.pair (.int .i64) (.int .i64))))))))) (.sl (.pair (.int .i64) (.pair (.int .i64) (.pair (.int .i64) (.sl (.pair (.int .i64) (.pair (.int .i64) (.pair (.int .i64) (.int .i64)))))))))))))) }
@[reducible] def ty33 : TI := { desc := (.struct [(9, 0), (30, 1), (31, 2), (31, 3), (31, 4)]), size := 5, bytes := 112, zero := [.imm (.string ByteArray.empty), .imm (.slice none 0 0), .imm (.slice none 0 0), .imm (.slice none 0 0), .imm (.slice none 0 0)], ety := (some (.pair .str (.pair (.sl (.pair (.int .i64) (.pair .str (.pair (.int .i64) (.sl (.pair (.int .i64) (.pair (.int .i64) (.pair (.int .i64) (.sl (.pair (.int .i64) (.pair (.int .i64) (.pair (.int .i64) (.int .i64))))))))))))) (.pair (.sl (.pair (.int .i64) (.pair (.int .i64) (.pair (.int .i64) (.sl (.pair (.int .i64) (.pair (.int .i64) (.pair (.int .i64) (.int .i64))))))))) (.pair (.sl (.pair (.int .i64) (.pair (.int .i64) (.pair (.int .i64) (.sl (.pair (.int .i64) (.pair (.int .i64) (.pair (.int .i64) (.int .i64))))))))) (.sl (.pair (.int .i64) (.pair (.int .i64) (.pair (.int .i64) (.sl (.pair (.int .i64) (.pair (.int .i64) (.pair (.int .i64) (.int .i64)))))))))))))) }
@[reducible] def ty34 : TI := { desc := (.slice 54), size := 1, bytes := 24, zero := [.imm (.slice none 0 0)], ety := (some (.sl (.pair .str (.pair (.int .i64) (.pair (.int .i64) (.pair (.int .i64) (.sl (.int .u8)))))))) }
@[reducible] def ty35 : TI := { desc := (.slice 114), size := 1, bytes := 24, zero := [.imm (.slice none 0 0)], ety := (some (.sl (.pair .str .str))) }
@[reducible] def ty36 : TI := { desc := (.struct [(9, 0), (33, 1), (34, 6), (35, 7)]), size := 8, bytes := 176, zero := [.imm (.string ByteArray.empty), .imm (.string ByteArray.empty), .imm (.slice none 0 0), .imm (.slice none 0 0), .imm (.slice none 0 0), .imm (.slice none 0 0), .imm (.slice none 0 0), .imm (.slice none 0 0)], ety := (some (.pair .str (.pair (.pair .str (.pair (.sl (.pair (.int .i64) (.pair .str (.pair (.int .i64) (.sl (.pair (.int .i64) (.pair (.int .i64) (.pair (.int .i64) (.sl (.pair (.int .i64) (.pair (.int .i64) (.pair (.int .i64) (.int .i64))))))))))))) (.pair (.sl (.pair (.int .i64) (.pair (.int .i64) (.pair (.int .i64) (.sl (.pair (.int .i64) (.pair (.int .i64) (.pair (.int .i64) (.int .i64))))))))) (.pair (.sl (.pair (.int .i64) (.pair (.int .i64) (.pair (.int .i64) (.sl (.pair (.int .i64) (.pair (.int .i64) (.pair (.int .i64) (.int .i64))))))))) (.sl (.pair (.int .i64) (.pair (.int .i64) (.pair (.int .i64) (.sl (.pair (.int .i64) (.pair (.int .i64) (.pair (.int .i64) (.int .i64))))))))))))) (.pair (.sl (.pair .str (.pair (.int .i64) (.pair (.int .i64) (.pair (.int .i64) (.sl (.int .u8))))))) (.sl (.pair .str .str)))))) }
@[reducible] def ty37 : TI := { desc := (.struct [(9, 0), (33, 1), (34, 6), (35, 7)]), size := 8, bytes := 176, zero := [.imm (.string ByteArray.empty), .imm (.string ByteArray.empty), .imm (.slice none 0 0), .imm (.slice none 0 0), .imm (.slice none 0 0), .imm (.slice none 0 0), .imm (.slice none 0 0), .imm (.slice none 0 0)], ety := (some (.pair .str (.pair (.pair .str (.pair (.sl (.pair (.int .i64) (.pair .str (.pair (.int .i64) (.sl (.pair (.int .i64) (.pair (.int .i64) (.pair (.int .i64) (.sl (.pair (.int .i64) (.pair (.int .i64) (.pair (.int .i64) (.int .i64))))))))))))) (.pair (.sl (.pair (.int .i64) (.pair (.int .i64) (.pair (.int .i64) (.sl (.pair (.int .i64) (.pair (.int .i64) (.pair (.int .i64) (.int .i64))))))))) (.pair (.sl (.pair (.int .i64) (.pair (.int .i64) (.pair (.int .i64) (.sl (.pair (.int .i64) (.pair (.int .i64) (.pair (.int .i64) (.int .i64))))))))) (.sl (.pair (.int .i64) (.pair (.int .i64) (.pair (.int .i64) (.sl (.pair (.int .i64) (.pair (.int .i64) (.pair (.int .i64) (.int .i64))))))))))))) (.pair (.sl (.pair .str (.pair (.int .i64) (.pair (.int .i64) (.pair (.int .i64) (.sl (.int .u8))))))) (.sl (.pair .str .str)))))) }
@[reducible] def ty38 : TI := { desc := (.array 9 3), size := 9, bytes := 72, zero := [.run .i64 9 (List.replicate 9 0)], ety := (some (.ints .i64 9)), cmp := true }
@[reducible] def ty39 : TI := { desc := (.array 9 3), size := 9, bytes := 72, zero := [.run .i64 9 (List.replicate 9 0)], ety := (some (.ints .i64 9)), cmp := true }
@[reducible] def ty40 : TI := { desc := (.struct [(39, 0), (3, 9), (3, 10), (4, 11)]), size := 12, bytes := 96, zero := [.run .i64 9 (List.replicate 9 0), .imm (.int .i64 0), .imm (.int .i64 0), .imm (.bool false)], ety := (some (.pair (.ints .i64 9) (.pair (.int .i64) (.pair (.int .i64) .bool)))) }
@[reducible] def ty41 : TI := { desc := (.struct [(39, 0), (3, 9), (3, 10), (4, 11)]), size := 12, bytes := 96, zero := [.run .i64 9 (List.replicate 9 0), .imm (.int .i64 0), .imm (.int .i64 0), .imm (.bool false)], ety := (some (.pair (.ints .i64 9) (.pair (.int .i64) (.pair (.int .i64) .bool)))), cmp := true }
@[reducible] def ty42 : TI := { desc := (.slice 57), size := 1, bytes := 24, zero := [.imm (.slice none 0 0)], ety := (some (.sl (.pair (.sl (.int .i64)) (.sl (.int .u8))))) }
@[reducible] def ty43 : TI := { desc := (.struct [(3, 0), (3, 1), (3, 2)]), size := 3, bytes := 24, zero := [.imm (.int .i64 0), .imm (.int .i64 0), .imm (.int .i64 0)], ety := (some (.pair (.int .i64) (.pair (.int .i64) (.int .i64)))) }
@[reducible] def ty44 : TI := { desc := (.struct [(3, 0), (3, 1), (3, 2)]), size := 3, bytes := 24, zero := [.imm (.int .i64 0), .imm (.int .i64 0), .imm (.int .i64 0)], ety := (some (.pair (.int .i64) (.pair (.int .i64) (.int .i64)))), cmp := true }
@[reducible] def ty45 : TI := { desc := (.struct [(3, 0), (41, 1), (42, 13), (44, 14)]), size := 17, bytes := 152, zero := [.imm (.int .i64 0), .run .i64 9 (List.replicate 9 0), .imm (.int .i64 0), .imm (.int .i64 0), .imm (.bool false), .imm (.slice none 0 0), .imm (.int .i64 0), .imm (.int .i64 0), .imm (.int .i64 0)], ety := (some (.pair (.int .i64) (.pair (.pair (.ints .i64 9) (.pair (.int .i64) (.pair (.int .i64) .bool))) (.pair (.sl (.pair (.sl (.int .i64)) (.sl (.int .u8)))) (.pair (.int .i64) (.pair (.int .i64) (.int .i64))))))) }
@[reducible] def ty46 : TI := { desc := (.struct [(3, 0), (41, 1), (42, 13), (44, 14)]), size := 17, bytes := 152, zero := [.imm (.int .i64 0), .run .i64 9 (List.replicate 9 0), .imm (.int .i64 0), .imm (.int .i64 0), .imm (.bool false), .imm (.slice none 0 0), .imm (.int .i64 0), .imm (.int .i64 0), .imm (.int .i64 0)], ety := (some (.pair (.int .i64) (.pair (.pair (.ints .i64 9) (.pair (.int .i64) (.pair (.int .i64) .bool))) (.pair (.sl (.pair (.sl (.int .i64)) (.sl (.int .u8)))) (.pair (.int .i64) (.pair (.int .i64) (.int .i64))))))) }
@[reducible] def ty47 : TI := { desc := (.slice 86), size := 1, bytes := 24, zero := [.imm (.slice none 0 0)], ety := (some (.sl (.pair (.int .i64) (.pair .str (.int .i64))))) }
@[reducible] def ty48 : TI := { desc := .other, size := 1, bytes := 8, zero := [.imm .nilFunc], ety := none }
@[reducible] def ty49 : TI := { desc := (.slice 4), size := 1, bytes := 24, zero := [.imm (.slice none 0 0)], ety := (some (.sl .bool)) }
@[reducible] def ty50 : TI := { desc := .other, size := 1, bytes := 8, zero := [.imm .nilFunc], ety := none }
@[reducible] def ty51 : TI := { desc := .other, size := 1, bytes := 8, zero := [.imm .nilFunc], ety := none }
@[reducible] def ty52 : TI := { desc := (.slice 5), size := 1, bytes := 24, zero := [.imm (.slice none 0 0)], ety := (some (.sl (.int .u8))) }
@[reducible] def ty53 : TI := { desc := (.struct [(9, 0), (3, 1), (3, 2), (3, 3), (52, 4)]), size := 5, bytes := 64, zero := [.imm (.string ByteArray.empty), .imm (.int .i64 0), .imm (.int .i64 0), .imm (.int .i64 0), .imm (.slice none 0 0)], ety := (some (.pair .str (.pair (.int .i64) (.pair (.int .i64) (.pair (.int .i64) (.sl (.int .u8))))))) }
@[reducible] def ty54 : TI := { desc := (.struct [(9, 0), (3, 1), (3, 2), (3, 3), (52, 4)]), size := 5, bytes := 64, zero := [.imm (.string ByteArray.empty), .imm (.int .i64 0), .imm (.int .i64 0), .imm (.int .i64 0), .imm (.slice none 0 0)], ety := (some (.pair .str (.pair (.int .i64) (.pair (.int .i64) (.pair (.int .i64) (.sl (.int .u8))))))) }
@[reducible] def ty55 : TI := { desc := (.slice 3), size := 1, bytes := 24, zero := [.imm (.slice none 0 0)], ety := (some (.sl (.int .i64))) }
@[reducible] def ty56 : TI := { desc := (.struct [(55, 0), (52, 1)]), size := 2, bytes := 48, zero := [.imm (.slice none 0 0), .imm (.slice none 0 0)], ety := (some (.pair (.sl (.int .i64)) (.sl (.int .u8)))) }
@[reducible] def ty57 : TI := { desc := (.struct [(55, 0), (52, 1)]), size := 2, bytes := 48, zero := [.imm (.slice none 0 0), .imm (.slice none 0 0)], ety := (some (.pair (.sl (.int .i64)) (.sl (.int .u8)))) }
@[reducible] def ty59 : TI := { desc := .other, size := 1, bytes := 8, zero := [.imm .nilFunc], ety := none }
@[reducible] def ty60 : TI := { desc := .other, size := 1, bytes := 8, zero := [.imm .nilFunc], ety := none }
@[reducible] def ty61 : TI := { desc := .other, size := 1, bytes := 8, zero := [.imm .nilFunc], ety := none }
@[reducible] def ty62 : TI := { desc := .other, size := 1, bytes := 8, zero := [.imm .nilFunc], ety := none }
@[reducible] def ty63 : TI := { desc := .other, size := 1, bytes := 8, zero := [.imm .nilFunc], ety := none }
@[reducible] def ty64 : TI := { desc := .other, size := 1, bytes := 8, zero := [.imm .nilFunc], ety := none }
@[reducible] def ty65 : TI := { desc := (.slice 70), size := 1, bytes := 24, zero := [.imm (.slice none 0 0)], ety := (some (.sl (.pair (.int .i64) (.pair .str (.int .i64))))) }
@[reducible] def ty67 : TI := { desc := .other, size := 1, bytes := 8, zero := [.imm .nilFunc], ety := none }
@[reducible] def ty68 : TI := { desc := .other, size := 1, bytes := 8, zero := [.imm .nilFunc], ety := none }
@[reducible] def ty69 : TI := { desc := (.struct [(3, 0), (9, 1), (3, 2)]), size := 3, bytes := 32, zero := [.imm (.int .i64 0), .imm (.string ByteArray.empty), .imm (.int .i64 0)], ety := (some (.pair (.int .i64) (.pair .str (.int .i64)))) }
@[reducible] def ty70 : TI := { desc := (.struct [(3, 0), (9, 1), (3, 2)]), size := 3, bytes := 32, zero := [.imm (.int .i64 0), .imm (.string ByteArray.empty), .imm (.int .i64 0)], ety := (some (.pair (.int .i64) (.pair .str (.int .i64)))), cmp := true }
@[reducible] def ty72 : TI := { desc := .other, size := 1, bytes := 8, zero := [.imm .nilFunc], ety := none }
@[reducible] def ty73 : TI := { desc := .other, size := 1, bytes := 8, zero := [.imm .nilFunc], ety := none }
@[reducible] def ty74 : TI := { desc := .other, size := 1, bytes := 8, zero := [.imm .nilFunc], ety := none }
@[reducible] def ty75 : TI := { desc := .other, size := 1, bytes := 8, zero := [.imm .nilFunc], ety := none }
@[reducible] def ty76 : TI := { desc := .other, size := 1, bytes := 8, zero := [.imm .nilFunc], ety := none }
@[reducible] def ty77 : TI := { desc := .other, size := 1, bytes := 8, zero := [.imm .nilFunc], ety := none }
@[reducible] def ty78 : TI := { desc := .other, size := 1, bytes := 8, zero := [.imm .nilFunc], ety := none }
@[reducible] def ty79 : TI := { desc := (.slice 46), size := 1, bytes := 24, zero := [.imm (.slice none 0 0)], ety := (some (.sl (.pair (.int .i64) (.pair (.pair (.ints .i64 9) (.pair (.int .i64) (.pair (.int .i64) .bool))) (.pair (.sl (.pair (.sl (.int .i64)) (.sl (.int .u8)))) (.pair (.int .i64) (.pair (.int .i64) (.int .i64)))))))) }
@[reducible] def ty80 : TI := { desc := (.slice 65), size := 1, bytes := 24, zero := [.imm (.slice none 0 0)], ety := (some (.sl (.sl (.pair (.int .i64) (.pair .str (.int .i64)))))) }
@[reducible] def ty82 : TI := { desc := .other, size := 1, bytes := 8, zero := [.imm .nilFunc], ety := none }
@[reducible] def ty83 : TI := { desc := (.slice 55), size := 1, bytes := 24, zero := [.imm (.slice none 0 0)], ety := (some (.sl (.sl (.int .i64)))) }
@[reducible] def ty84 : TI := { desc := (.struct [(37, 0), (46, 8), (47, 25)]), size := 26, bytes := 352, zero := [.imm (.string ByteArray.empty), .imm (.string ByteArray.empty), .imm (.slice none 0 0), .imm (.slice none 0 0), .imm (.slice none 0 0), .imm (.slice none 0 0), .imm (.slice none 0 0), .imm (.slice none 0 0), .imm (.int .i64 0), .run .i64 9 (List.replicate 9 0), .imm (.int .i64 0), .imm (.int .i64 0), .imm (.bool false), .imm (.slice none 0 0), .imm (.int .i64 0), .imm (.int .i64 0), .imm (.int .i64 0), .imm (.slice none 0 0)], ety := (some (.pair (.pair .str (.pair (.pair .str (.pair (.sl (.pair (.int .i64) (.pair .str (.pair (.int .i64) (.sl (.pair (.int .i64) (.pair (.int .i64) (.pair (.int .i64) (.sl (.pair (.int .i64) (.pair (.int .i64) (.pair (.int .i64) (.int .i64))))))))))))) (.pair (.sl (.pair (.int .i64) (.pair (.int .i64) (.pair (.int .i64) (.sl (.pair (.int .i64) (.pair (.int .i64) (.pair (.int .i64) (.int .i64))))))))) (.pair (.sl (.pair (.int .i64) (.pair (.int .i64) (.pair (.int .i64) (.sl (.pair (.int .i64) (.pair (.int .i64) (.pair (.int .i64) (.int .i64))))))))) (.sl (.pair (.int .i64) (.pair (.int .i64) (.pair (.int .i64) (.sl (.pair (.int .i64) (.pair (.int .i64) (.pair (.int .i64) (.int .i64))))))))))))) (.pair (.sl (.pair .str (.pair (.int .i64) (.pair (.int .i64) (.pair (.int .i64) (.sl (.int .u8))))))) (.sl (.pair .str .str))))) (.pair (.pair (.int .i64) (.pair (.pair (.ints .i64 9) (.pair (.int .i64) (.pair (.int .i64) .bool))) (.pair (.sl (.pair (.sl (.int .i64)) (.sl (.int .u8)))) (.pair (.int .i64) (.pair (.int .i64) (.int .i64)))))) (.sl (.pair (.int .i64) (.pair .str (.int .i64))))))) }
@[reducible] def ty85 : TI := { desc := (.struct [(37, 0), (46, 8), (47, 25)]), size := 26, bytes := 352, zero := [.imm (.string ByteArray.empty), .imm (.string ByteArray.empty), .imm (.slice none 0 0), .imm (.slice none 0 0), .imm (.slice none 0 0), .imm (.slice none 0 0), .imm (.slice none 0 0), .imm (.slice none 0 0), .imm (.int .i64 0), .run .i64 9 (List.replicate 9 0), .imm (.int .i64 0), .imm (.int .i64 0), .imm (.bool false), .imm (.slice none 0 0), .imm (.int .i64 0), .imm (.int .i64 0), .imm (.int .i64 0), .imm (.slice none 0 0)], ety := (some (.pair (.pair .str (.pair (.pair .str (.pair (.sl (.pair (.int .i64) (.pair .str (.pair (.int .i64) (.sl (.pair (.int .i64) (.pair (.int .i64) (.pair (.int .i64) (.sl (.pair (.int .i64) (.pair (.int .i64) (.pair (.int .i64) (.int .i64))))))))))))) (.pair (.sl (.pair (.int .i64) (.pair (.int .i64) (.pair (.int .i64) (.sl (.pair (.int .i64) (.pair (.int .i64) (.pair (.int .i64) (.int .i64))))))))) (.pair (.sl (.pair (.int .i64) (.pair (.int .i64) (.pair (.int .i64) (.sl (.pair (.int .i64) (.pair (.int .i64) (.pair (.int .i64) (.int .i64))))))))) (.sl (.pair (.int .i64) (.pair (.int .i64) (.pair (.int .i64) (.sl (.pair (.int .i64) (.pair (.int .i64) (.pair (.int .i64) (.int .i64))))))))))))) (.pair (.sl (.pair .str (.pair (.int .i64) (.pair (.int .i64) (.pair (.int .i64) (.sl (.int .u8))))))) (.sl (.pair .str .str))))) (.pair (.pair (.int .i64) (.pair (.pair (.ints .i64 9) (.pair (.int .i64) (.pair (.int .i64) .bool))) (.pair (.sl (.pair (.sl (.int .i64)) (.sl (.int .u8)))) (.pair (.int .i64) (.pair (.int .i64) (.int .i64)))))) (.sl (.pair (.int .i64) (.pair .str (.int .i64))))))) }
@[reducible] def ty86 : TI := { desc := (.struct [(3, 0), (9, 1), (3, 2)]), size := 3, bytes := 32, zero := [.imm (.int .i64 0), .imm (.string ByteArray.empty), .imm (.int .i64 0)], ety := (some (.pair (.int .i64) (.pair .str (.int .i64)))), cmp := true }
@[reducible] def ty87 : TI := { desc := .other, size := 1, bytes := 8, zero := [.imm .nilFunc], ety := none }
@[reducible] def ty88 : TI := { desc := .other, size := 1, bytes := 8, zero := [.imm .nilFunc], ety := none }
@[reducible] def ty89 : TI := { desc := .other, size := 1, bytes := 8, zero := [.imm .nilFunc], ety := none }
@[reducible] def ty90 : TI := { desc := (.ptr 148), size := 1, bytes := 8, zero := [.imm (.pointer none)], ety := none }
@[reducible] def ty92 : TI := { desc := .other, size := 1, bytes := 8, zero := [.imm .nilFunc], ety := none }
@[reducible] def ty93 : TI := { desc := .other, size := 1, bytes := 8, zero := [.imm .nilFunc], ety := none }
@[reducible] def ty94 : TI := { desc := .other, size := 1, bytes := 8, zero := [.imm .nilFunc], ety := none }
@[reducible] def ty96 : TI := { desc := .other, size := 1, bytes := 8, zero := [.imm .nilFunc], ety := none }
@[reducible] def ty97 : TI := { desc := .other, size := 1, bytes := 8, zero := [.imm .nilFunc], ety := none }
@[reducible] def ty98 : TI := { desc := .other, size := 1, bytes := 8, zero := [.imm .nilFunc], ety := none }
@[reducible] def ty99 : TI := { desc := .other, size := 1, bytes := 8, zero := [.imm .nilFunc], ety := none }
@[reducible] def ty100 : TI := { desc := .other, size := 1, bytes := 8, zero := [.imm .nilFunc], ety := none }
@[reducible] def ty101 : TI := { desc := .other, size := 1, bytes := 8, zero := [.imm .nilFunc], ety := none }
@[reducible] def ty102 : TI := { desc := .other, size := 1, bytes := 8, zero := [.imm .nilFunc], ety := none }
@[reducible] def ty103 : TI := { desc := .other, size := 1, bytes := 8, zero := [.imm .nilFunc], ety := none }
@[reducible] def ty104 : TI := { desc := .other, size := 1, bytes := 8, zero := [.imm .nilFunc], ety := none }
@[reducible] def ty105 : TI := { desc := .other, size := 1, bytes := 8, zero := [.imm .nilFunc], ety := none }
@[reducible] def ty106 : TI := { desc := .other, size := 1, bytes := 8, zero := [.imm .nilFunc], ety := none }
@[reducible] def ty107 : TI := { desc := .other, size := 1, bytes := 8, zero := [.imm .nilFunc], ety := none }
@[reducible] def ty108 : TI := { desc := .other, size := 1, bytes := 8, zero := [.imm .nilFunc], ety := none }
@[reducible] def ty109 : TI := { desc := (.slice 9), size := 1, bytes := 24, zero := [.imm (.slice none 0 0)], ety := (some (.sl .str)) }
@[reducible] def ty110 : TI := { desc := .other, size := 1, bytes := 8, zero := [.imm .nilFunc], ety := none }
@[reducible] def ty111 : TI := { desc := .other, size := 1, bytes := 8, zero := [.imm .nilFunc], ety := none }
@[reducible] def ty112 : TI := { desc := .other, size := 1, bytes := 8, zero := [.imm .nilFunc], ety := none }
@[reducible] def ty113 : TI := { desc := (.struct [(9, 0), (9, 1)]), size := 2, bytes := 32, zero := [.imm (.string ByteArray.empty), .imm (.string ByteArray.empty)], ety := (some (.pair .str .str)) }
@[reducible] def ty114 : TI := { desc := (.struct [(9, 0), (9, 1)]), size := 2, bytes := 32, zero := [.imm (.string ByteArray.empty), .imm (.string ByteArray.empty)], ety := (some (.pair .str .str)), cmp := true }
@[reducible] def ty115 : TI := { desc := .other, size := 1, bytes := 8, zero := [.imm .nilFunc], ety := none }
@[reducible] def ty116 : TI := { desc := .other, size := 1, bytes := 8, zero := [.imm .nilFunc], ety := none }
@[reducible] def ty117 : TI := { desc := .other, size := 1, bytes := 8, zero := [.imm .nilFunc], ety := none }
@[reducible] def ty118 : TI := { desc := .other, size := 1, bytes := 8, zero := [.imm .nilFunc], ety := none }
@[reducible] def ty119 : TI := { desc := .other, size := 1, bytes := 8, zero := [.imm .nilFunc], ety := none }
@[reducible] def ty120 : TI := { desc := .other, size := 1, bytes := 8, zero := [.imm .nilFunc], ety := none }
@[reducible] def ty121 : TI := { desc := (.map 114 4), size := 1, bytes := 8, zero := [.imm (.map none)], ety := none }
@[reducible] def ty122 : TI := { desc := .other, size := 1, bytes := 8, zero := [.imm .nilFunc], ety := none }
@[reducible] def ty123 : TI := { desc := .other, size := 1, bytes := 8, zero := [.imm .nilFunc], ety := none }
@[reducible] def ty124 : TI := { desc := .other, size := 1, bytes := 8, zero := [.imm .nilFunc], ety := none }
@[reducible] def ty125 : TI := { desc := .other, size := 1, bytes := 8, zero := [.imm .nilFunc], ety := none }
@[reducible] def ty126 : TI := { desc := (.ptr 46), size := 1, bytes := 8, zero := [.imm (.pointer none)], ety := none }
@[reducible] def ty127 : TI := { desc := .other, size := 1, bytes := 8, zero := [.imm .nilFunc], ety := none }
@[reducible] def ty128 : TI := { desc := .other, size := 1, bytes := 8, zero := [.imm .nilFunc], ety := none }
@[reducible] def ty130 : TI := { desc := .other, size := 1, bytes := 8, zero := [.imm .nilFunc], ety := none }
@[reducible] def ty131 : TI := { desc := .other, size := 1, bytes := 8, zero := [.imm .nilFunc], ety := none }
@[reducible] def ty133 : TI := { desc := .other, size := 1, bytes := 8, zero := [.imm .nilFunc], ety := none }
@[reducible] def ty134 : TI := { desc := .other, size := 1, bytes := 8, zero := [.imm .nilFunc], ety := none }
@[reducible] def ty135 : TI := { desc := .other, size := 1, bytes := 8, zero := [.imm .nilFunc], ety := none }
@[reducible] def ty136 : TI := { desc := .other, size := 1, bytes := 8, zero := [.imm .nilFunc], ety := none }
@[reducible] def ty138 : TI := { desc := .other, size := 1, bytes := 8, zero := [.imm .nilFunc], ety := none }
@[reducible] def ty139 : TI := { desc := .other, size := 1, bytes := 8, zero := [.imm .nilFunc], ety := none }
@[reducible] def ty140 : TI := { desc := .other, size := 1, bytes := 8, zero := [.imm .nilFunc], ety := none }
@[reducible] def ty141 : TI := { desc := .other, size := 1, bytes := 8, zero := [.imm .nilFunc], ety := none }
@[reducible] def ty142 : TI := { desc := .other, size := 1, bytes := 8, zero := [.imm .nilFunc], ety := none }
@[reducible] def ty143 : TI := { desc := .other, size := 1, bytes := 8, zero := [.imm .nilFunc], ety := none }
@[reducible] def ty144 : TI := { desc := .other, size := 1, bytes := 8, zero := [.imm .nilFunc], ety := none }
@[reducible] def ty145 : TI := { desc := .other, size := 1, bytes := 8, zero := [.imm .nilFunc], ety := none }
@[reducible] def ty146 : TI := { desc := .other, size := 1, bytes := 8, zero := [.imm .nilFunc], ety := none }
@[reducible] def ty147 : TI := { desc := (.struct [(37, 0), (47, 8), (79, 9), (46, 10), (3, 27)]), size := 28, bytes := 384, zero := [.imm (.string ByteArray.empty), .imm (.string ByteArray.empty), .imm (.slice none 0 0), .imm (.slice none 0 0), .imm (.slice none 0 0), .imm (.slice none 0 0), .imm (.slice none 0 0), .imm (.slice none 0 0), .imm (.slice none 0 0), .imm (.slice none 0 0), .imm (.int .i64 0), .run .i64 9 (List.replicate 9 0), .imm (.int .i64 0), .imm (.int .i64 0), .imm (.bool false), .imm (.slice none 0 0), .imm (.int .i64 0), .imm (.int .i64 0), .imm (.int .i64 0), .imm (.int .i64 0)], ety := (some (.pair (.pair .str (.pair (.pair .str (.pair (.sl (.pair (.int .i64) (.pair .str (.pair (.int .i64) (.sl (.pair (.int .i64) (.pair (.int .i64) (.pair (.int .i64) (.sl (.pair (.int .i64) (.pair (.int .i64) (.pair (.int .i64) (.int .i64))))))))))))) (.pair (.sl (.pair (.int .i64) (.pair (.int .i64) (.pair (.int .i64) (.sl (.pair (.int .i64) (.pair (.int .i64) (.pair (.int .i64) (.int .i64))))))))) (.pair (.sl (.pair (.int .i64) (.pair (.int .i64) (.pair (.int .i64) (.sl (.pair (.int .i64) (.pair (.int .i64) (.pair (.int .i64) (.int .i64))))))))) (.sl (.pair (.int .i64) (.pair (.int .i64) (.pair (.int .i64) (.sl (.pair (.int .i64) (.pair (.int .i64) (.pair (.int .i64) (.int .i64))))))))))))) (.pair (.sl (.pair .str (.pair (.int .i64) (.pair (.int .i64) (.pair (.int .i64) (.sl (.int .u8))))))) (.sl (.pair .str .str))))) (.pair (.sl (.pair (.int .i64) (.pair .str (.int .i64)))) (.pair (.sl (.pair (.int .i64) (.pair (.pair (.ints .i64 9) (.pair (.int .i64) (.pair (.int .i64) .bool))) (.pair (.sl (.pair (.sl (.int .i64)) (.sl (.int .u8)))) (.pair (.int .i64) (.pair (.int .i64) (.int .i64))))))) (.pair (.pair (.int .i64) (.pair (.pair (.ints .i64 9) (.pair (.int .i64) (.pair (.int .i64) .bool))) (.pair (.sl (.pair (.sl (.int .i64)) (.sl (.int .u8)))) (.pair (.int .i64) (.pair (.int .i64) (.int .i64)))))) (.int .i64)))))) }
@[reducible] def ty148 : TI := { desc := (.struct [(37, 0), (47, 8), (79, 9), (46, 10), (3, 27)]), size := 28, bytes := 384, zero := [.imm (.string ByteArray.empty), .imm (.string ByteArray.empty), .imm (.slice none 0 0), .imm (.slice none 0 0), .imm (.slice none 0 0), .imm (.slice none 0 0), .imm (.slice none 0 0), .imm (.slice none 0 0), .imm (.slice none 0 0), .imm (.slice none 0 0), .imm (.int .i64 0), .run .i64 9 (List.replicate 9 0), .imm (.int .i64 0), .imm (.int .i64 0), .imm (.bool false), .imm (.slice none 0 0), .imm (.int .i64 0), .imm (.int .i64 0), .imm (.int .i64 0), .imm (.int .i64 0)], ety := (some (.pair (.pair .str (.pair (.pair .str (.pair (.sl (.pair (.int .i64) (.pair .str (.pair (.int .i64) (.sl (.pair (.int .i64) (.pair (.int .i64) (.pair (.int .i64) (.sl (.pair (.int .i64) (.pair (.int .i64) (.pair (.int .i64) (.int .i64))))))))))))) (.pair (.sl (.pair (.int .i64) (.pair (.int .i64) (.pair (.int .i64) (.sl (.pair (.int .i64) (.pair (.int .i64) (.pair (.int .i64) (.int .i64))))))))) (.pair (.sl (.pair (.int .i64) (.pair (.int .i64) (.pair (.int .i64) (.sl (.pair (.int .i64) (.pair (.int .i64) (.pair (.int .i64) (.int .i64))))))))) (.sl (.pair (.int .i64) (.pair (.int .i64) (.pair (.int .i64) (.sl (.pair (.int .i64) (.pair (.int .i64) (.pair (.int .i64) (.int .i64))))))))))))) (.pair (.sl (.pair .str (.pair (.int .i64) (.pair (.int .i64) (.pair (.int .i64) (.sl (.int .u8))))))) (.sl (.pair .str .str))))) (.pair (.sl (.pair (.int .i64) (.pair .str (.int .i64)))) (.pair (.sl (.pair (.int .i64) (.pair (.pair (.ints .i64 9) (.pair (.int .i64) (.pair (.int .i64) .bool))) (.pair (.sl (.pair (.sl (.int .i64)) (.sl (.int .u8)))) (.pair (.int .i64) (.pair (.int .i64) (.int .i64))))))) (.pair (.pair (.int .i64) (.pair (.pair (.ints .i64 9) (.pair (.int .i64) (.pair (.int .i64) .bool))) (.pair (.sl (.pair (.sl (.int .i64)) (.sl (.int .u8)))) (.pair (.int .i64) (.pair (.int .i64) (.int .i64)))))) (.int .i64)))))) }
@[reducible] def ty150 : TI := { desc := .other, size := 1, bytes := 8, zero := [.imm .nilFunc], ety := none }
@[reducible] def ty151 : TI := { desc := .other, size := 1, bytes := 8, zero := [.imm .nilFunc], ety := none }
@[reducible] def ty152 : TI := { desc := .other, size := 1, bytes := 8, zero := [.imm .nilFunc], ety := none }
@[reducible] def ty153 : TI := { desc := .other, size := 1, bytes := 8, zero := [.imm .nilFunc], ety := none }
@[reducible] def ty154 : TI := { desc := .other, size := 1, bytes := 8, zero := [.imm .nilFunc], ety := none }
@[reducible] def ty155 : TI := { desc := .other, size := 1, bytes := 8, zero := [.imm .nilFunc], ety := none }
@[reducible] def ty156 : TI := { desc := .other, size := 1, bytes := 8, zero := [.imm .nilFunc], ety := none }
@[reducible] def ty158 : TI := { desc := .other, size := 1, bytes := 8, zero := [.imm .nilFunc], ety := none }
@[reducible] def ty159 : TI := { desc := .other, size := 1, bytes := 8, zero := [.imm .nilFunc], ety := none }
@[reducible] def ty160 : TI := { desc := .other, size := 1, bytes := 8, zero := [.imm .nilFunc], ety := none }
@[reducible] def ty161 : TI := { desc := .other, size := 1, bytes := 8, zero := [.imm .nilFunc], ety := none }
@[reducible] def ty162 : TI := { desc := .other, size := 1, bytes := 8, zero := [.imm .nilFunc], ety := none }
@[reducible] def ty163 : TI := { desc := (.map 167 4), size := 1, bytes := 8, zero := [.imm (.map none)], ety := none }
@[reducible] def ty164 : TI := { desc := (.struct [(3, 0), (9, 1), (3, 2), (31, 3)]), size := 4, bytes := 56, zero := [.imm (.int .i64 0), .imm (.string ByteArray.empty), .imm (.int .i64 0), .imm (.slice none 0 0)], ety := (some (.pair (.int .i64) (.pair .str (.pair (.int .i64) (.sl (.pair (.int .i64) (.pair (.int .i64) (.pair (.int .i64) (.sl (.pair (.int .i64) (.pair (.int .i64) (.pair (.int .i64) (.int .i64))))))))))))) }
@[reducible] def ty165 : TI := { desc := (.struct [(3, 0), (9, 1), (3, 2), (31, 3)]), size := 4, bytes := 56, zero := [.imm (.int .i64 0), .imm (.string ByteArray.empty), .imm (.int .i64 0), .imm (.slice none 0 0)], ety := (some (.pair (.int .i64) (.pair .str (.pair (.int .i64) (.sl (.pair (.int .i64) (.pair (.int .i64) (.pair (.int .i64) (.sl (.pair (.int .i64) (.pair (.int .i64) (.pair (.int .i64) (.int .i64))))))))))))) }
@[reducible] def ty166 : TI := { desc := (.struct [(9, 0), (3, 1)]), size := 2, bytes := 24, zero := [.imm (.string ByteArray.empty), .imm (.int .i64 0)], ety := (some (.pair .str (.int .i64))) }
@[reducible] def ty167 : TI := { desc := (.struct [(9, 0), (3, 1)]), size := 2, bytes := 24, zero := [.imm (.string ByteArray.empty), .imm (.int .i64 0)], ety := (some (.pair .str (.int .i64))), cmp := true }
@[reducible] def ty168 : TI := { desc := .other, size := 1, bytes := 8, zero := [.imm .nilFunc], ety := none }
@[reducible] def ty169 : TI := { desc := .other, size := 1, bytes := 8, zero := [.imm .nilFunc], ety := none }
@[reducible] def ty170 : TI := { desc := (.slice 193), size := 1, bytes := 24, zero := [.imm (.slice none 0 0)], ety := (some (.sl (.pair (.int .i64) (.pair (.int .i64) (.pair (.int .i64) (.int .i64)))))) }
@[reducible] def ty171 : TI := { desc := (.struct [(3, 0), (3, 1), (3, 2), (170, 3)]), size := 4, bytes := 48, zero := [.imm (.int .i64 0), .imm (.int .i64 0), .imm (.int .i64 0), .imm (.slice none 0 0)], ety := (some (.pair (.int .i64) (.pair (.int .i64) (.pair (.int .i64) (.sl (.pair (.int .i64) (.pair (.int .i64) (.pair (.int .i64) (.int .i64))))))))) }
@[reducible] def ty172 : TI := { desc := (.struct [(3, 0), (3, 1), (3, 2), (170, 3)]), size := 4, bytes := 48, zero := [.imm (.int .i64 0), .imm (.int .i64 0), .imm (.int .i64 0), .imm (.slice none 0 0)], ety := (some (.pair (.int .i64) (.pair (.int .i64) (.pair (.int .i64) (.sl (.pair (.int .i64) (.pair (.int .i64) (.pair (.int .i64) (.int .i64))))))))) }
@[reducible] def ty173 : TI := { desc := .other, size := 1, bytes := 8, zero := [.imm .nilFunc], ety := none }
@[reducible] def ty174 : TI := { desc := .other, size := 1, bytes := 8, zero := [.imm .nilFunc], ety := none }
@[reducible] def ty175 : TI := { desc := .other, size := 1, bytes := 8, zero := [.imm .nilFunc], ety := none }
@[reducible] def ty176 : TI := { desc := .other, size := 1, bytes := 8, zero := [.imm .nilFunc], ety := none }
@[reducible] def ty177 : TI := { desc := .other, size := 1, bytes := 8, zero := [.imm .nilFunc], ety := none }
@[reducible] def ty178 : TI := { desc := .other, size := 1, bytes := 8, zero := [.imm .nilFunc], ety := none }
@[reducible] def ty179 : TI := { desc := .other, size := 1, bytes := 8, zero := [.imm .nilFunc], ety := none }
@[reducible] def ty180 : TI := { desc := .other, size := 1, bytes := 8, zero := [.imm .nilFunc], ety := none }
@[reducible] def ty181 : TI := { desc := .other, size := 1, bytes := 8, zero := [.imm .nilFunc], ety := none }
@[reducible] def ty182 : TI := { desc := .other, size := 1, bytes := 8, zero := [.imm .nilFunc], ety := none }
@[reducible] def ty183 : TI := { desc := .other, size := 1, bytes := 8, zero := [.imm .nilFunc], ety := none }
@[reducible] def ty184 : TI := { desc := .other, size := 1, bytes := 8, zero := [.imm .nilFunc], ety := none }
@[reducible] def ty185 : TI := { desc := .other, size := 1, bytes := 8, zero := [.imm .nilFunc], ety := none }
@[reducible] def ty187 : TI := { desc := .other, size := 1, bytes := 8, zero := [.imm .nilFunc], ety := none }
@[reducible] def ty188 : TI := { desc := .other, size := 1, bytes := 8, zero := [.imm .nilFunc], ety := none }
@[reducible] def ty189 : TI := { desc := .other, size := 1, bytes := 8, zero := [.imm .nilFunc], ety := none }
@[reducible] def ty190 : TI := { desc := .other, size := 1, bytes := 8, zero := [.imm .nilFunc], ety := none }
@[reducible] def ty191 : TI := { desc := .other, size := 1, bytes := 8, zero := [.imm .nilFunc], ety := none }
@[reducible] def ty192 : TI := { desc := (.struct [(3, 0), (3, 1), (3, 2), (3, 3)]), size := 4, bytes := 32, zero := [.imm (.int .i64 0), .imm (.int .i64 0), .imm (.int .i64 0), .imm (.int .i64 0)], ety := (some (.pair (.int .i64) (.pair (.int .i64) (.pair (.int .i64) (.int .i64))))) }
@[reducible] def ty193 : TI := { desc := (.struct [(3, 0), (3, 1), (3, 2), (3, 3)]), size := 4, bytes := 32, zero := [.imm (.int .i64 0), .imm (.int .i64 0), .imm (.int .i64 0), .imm (.int .i64 0)], ety := (some (.pair (.int .i64) (.pair (.int .i64) (.pair (.int .i64) (.int .i64))))), cmp := true }
@[reducible] def ty195 : TI := { desc := .other, size := 1, bytes := 8, zero := [.imm .nilFunc], ety := none }
@[reducible] def ty196 : TI := { desc := .other, size := 1, bytes := 8, zero := [.imm .nilFunc], ety := none }
@[reducible] def ty197 : TI := { desc := .other, size := 1, bytes := 8, zero := [.imm .nilFunc], ety := none }
@[reducible] def ty198 : TI := { desc := .other, size := 1, bytes := 8, zero := [.imm .nilFunc], ety := none }
@[reducible] def ty199 : TI := { desc := .other, size := 1, bytes := 8, zero := [.imm .nilFunc], ety := none }
@[reducible] def ty200 : TI := { desc := .other, size := 1, bytes := 8, zero := [.imm .nilFunc], ety := none }
@[reducible] def ty201 : TI := { desc := (.ptr 203), size := 1, bytes := 8, zero := [.imm (.pointer none)], ety := none }
@[reducible] def ty202 : TI := { desc := (.struct [(52, 0), (4, 1)]), size := 2, bytes := 32, zero := [.imm (.slice none 0 0), .imm (.bool false)], ety := (some (.pair (.sl (.int .u8)) .bool)) }
@[reducible] def ty203 : TI := { desc := (.struct [(52, 0), (4, 1)]), size := 2, bytes := 32, zero := [.imm (.slice none 0 0), .imm (.bool false)], ety := (some (.pair (.sl (.int .u8)) .bool)) }
@[reducible] def ty204 : TI := { desc := .other, size := 1, bytes := 8, zero := [.imm .nilFunc], ety := none }
@[reducible] def ty205 : TI := { desc := .other, size := 1, bytes := 8, zero := [.imm .nilFunc], ety := none }
@[reducible] def ty206 : TI := { desc := .other, size := 1, bytes := 8, zero := [.imm .nilFunc], ety := none }
@[reducible] def ty207 : TI := { desc := .other, size := 1, bytes := 8, zero := [.imm .nilFunc], ety := none }
@[reducible] def ty208 : TI := { desc := .other, size := 1, bytes := 8, zero := [.imm .nilFunc], ety := none }
@[reducible] def ty209 : TI := { desc := .other, size := 1, bytes := 8, zero := [.imm .nilFunc], ety := none }
@[reducible] def ty210 : TI := { desc := (.ptr 31), size := 1, bytes := 8, zero := [.imm (.pointer none)], ety := none }
@[reducible] def ty211 : TI := { desc := (.slice 210), size := 1, bytes := 24, zero := [.imm (.slice none 0 0)], ety := none }
@[reducible] def ty212 : TI := { desc := (.int .u64), size := 1, bytes := 8, zero := [.imm (.int .u64 0)], ety := (some (.int .u64)) }
@[reducible] def ty213 : TI := { desc := .other, size := 1, bytes := 8, zero := [.imm .nilFunc], ety := none }
@[reducible] def ty214 : TI := { desc := .other, size := 1, bytes := 8, zero := [.imm .nilFunc], ety := none }
@[reducible] def ty215 : TI := { desc := .other, size := 1, bytes := 8, zero := [.imm .nilFunc], ety := none }
@[reducible] def ty216 : TI := { desc := .other, size := 1, bytes := 8, zero := [.imm .nilFunc], ety := none }
@[reducible] def ty217 : TI := { desc := (.slice 31), size := 1, bytes := 24, zero := [.imm (.slice none 0 0)], ety := (some (.sl (.sl (.pair (.int .i64) (.pair (.int .i64) (.pair (.int .i64) (.sl (.pair (.int .i64) (.pair (.int .i64) (.pair (.int .i64) (.int .i64))))))))))) }
@[reducible] def ty219 : TI := { desc := .other, size := 1, bytes := 8, zero := [.imm .nilFunc], ety := none }
@[reducible] def ty220 : TI := { desc := .other, size := 1, bytes := 8, zero := [.imm .nilFunc], ety := none }
@[reducible] def ty221 : TI := { desc := .other, size := 1, bytes := 8, zero := [.imm .nilFunc], ety := none }
@[reducible] def ty222 : TI := { desc := .other, size := 1, bytes := 8, zero := [.imm .nilFunc], ety := none }
@[reducible] def ty223 : TI := { desc := .other, size := 1, bytes := 8, zero := [.imm .nilFunc], ety := none }
@[reducible] def ty224 : TI := { desc := (.int .u64), size := 1, bytes := 8, zero := [.imm (.int .u64 0)], ety := (some (.int .u64)) }
@[reducible] def ty225 : TI := { desc := .other, size := 1, bytes := 8, zero := [.imm .nilFunc], ety := none }
@[reducible] def ty226 : TI := { desc := .other, size := 1, bytes := 8, zero := [.imm .nilFunc], ety := none }
@[reducible] def ty228 : TI := { desc := .other, size := 1, bytes := 8, zero := [.imm .nilFunc], ety := none }
@[reducible] def ty229 : TI := { desc := .other, size := 1, bytes := 8, zero := [.imm .nilFunc], ety := none }
@[reducible] def ty230 : TI := { desc := .other, size := 1, bytes := 8, zero := [.imm .nilFunc], ety := none }
@[reducible] def ty232 : TI := { desc := .other, size := 1, bytes := 8, zero := [.imm .nilFunc], ety := none }
@[reducible] def ty234 : TI := { desc := .other, size := 1, bytes := 8, zero := [.imm .nilFunc], ety := none }
@[reducible] def ty235 : TI := { desc := .other, size := 1, bytes := 8, zero := [.imm .nilFunc], ety := none }
@[reducible] def ty236 : TI := { desc := .other, size := 1, bytes := 8, zero := [.imm .nilFunc], ety := none }
@[reducible] def ty237 : TI := { desc := .other, size := 1, bytes := 8, zero := [.imm .nilFunc], ety := none }
@[reducible] def ty239 : TI := { desc := .other, size := 1, bytes := 8, zero := [.imm .nilFunc], ety := none }
@[reducible] def ty240 : TI := { desc := .other, size := 1, bytes := 8, zero := [.imm .nilFunc], ety := none }
@[reducible] def ty241 : TI := { desc := .other, size := 1, bytes := 8, zero := [.imm .nilFunc], ety := none }
@[reducible] def ty242 : TI := { desc := .other, size := 1, bytes := 8, zero := [.imm .nilFunc], ety := none }
@[reducible] def ty243 : TI := { desc := .other, size := 1, bytes := 8, zero := [.imm .nilFunc], ety := none }
@[reducible] def ty244 : TI := { desc := .other, size := 1, bytes := 8, zero := [.imm .nilFunc], ety := none }
@[reducible] def ty245 : TI := { desc := .other, size := 1, bytes := 8, zero := [.imm .nilFunc], ety := none }
@[reducible] def ty246 : TI := { desc := .other, size := 1, bytes := 8, zero := [.imm .nilFunc], ety := none }
@[reducible] def ty247 : TI := { desc := .other, size := 1, bytes := 8, zero := [.imm .nilFunc], ety := none }
@[reducible] def ty248 : TI := { desc := .other, size := 1, bytes := 8, zero := [.imm .nilFunc], ety := none }
@[reducible] def ty249 : TI := { desc := (.array 8 3), size := 8, bytes := 64, zero := [.run .i64 8 (List.replicate 8 0)], ety := (some (.ints .i64 8)), cmp := true }
@[reducible] def ty250 : TI := { desc := (.array 10 3), size := 10, bytes := 80, zero := [.run .i64 10 (List.replicate 10 0)], ety := (some (.ints .i64 10)), cmp := true }
@[reducible] def ty251 : TI := { desc := .other, size := 1, bytes := 8, zero := [.imm .nilFunc], ety := none }
@[reducible] def ty252 : TI := { desc := .other, size := 1, bytes := 8, zero := [.imm .nilFunc], ety := none }
@[reducible] def ty253 : TI := { desc := .other, size := 1, bytes := 8, zero := [.imm .nilFunc], ety := none }
@[reducible] def ty254 : TI := { desc := .other, size := 1, bytes := 8, zero := [.imm .nilFunc], ety := none }
@[reducible] def ty255 : TI := { desc := (.map 4 3), size := 1, bytes := 8, zero := [.imm (.map none)], ety := none }
@[reducible] def ty256 : TI := { desc := (.array 6 3), size := 6, bytes := 48, zero := [.run .i64 6 (List.replicate 6 0)], ety := (some (.ints .i64 6)), cmp := true }
@[reducible] def ty257 : TI := { desc := .other, size := 1, bytes := 8, zero := [.imm .nilFunc], ety := none }
@[reducible] def ty258 : TI := { desc := .other, size := 1, bytes := 8, zero := [.imm .nilFunc], ety := none }
@[reducible] def ty259 : TI := { desc := .other, size := 1, bytes := 8, zero := [.imm .nilFunc], ety := none }
@[reducible] def ty260 : TI := { desc := .other, size := 1, bytes := 8, zero := [.imm .nilFunc], ety := none }
@[reducible] def ty261 : TI := { desc := .other, size := 1, bytes := 8, zero := [.imm .nilFunc], ety := none }
@[reducible] def ty263 : TI := { desc := .other, size := 1, bytes := 8, zero := [.imm .nilFunc], ety := none }
@[reducible] def ty264 : TI := { desc := .other, size := 1, bytes := 8, zero := [.imm .nilFunc], ety := none }
@[reducible] def ty265 : TI := { desc := (.int .u32), size := 1, bytes := 4, zero := [.imm (.int .u32 0)], ety := (some (.int .u32)) }
@[reducible] def ty267 : TI := { desc := .other, size := 1, bytes := 8, zero := [.imm .nilFunc], ety := none }
@[reducible] def ty268 : TI := { desc := .other, size := 1, bytes := 8, zero := [.imm .nilFunc], ety := none }
@[reducible] def ty269 : TI := { desc := (.struct [(17, 0), (17, 1), (17, 2), (9, 3)]), size := 4, bytes := 40, zero := [.imm (.pointer none), .imm (.pointer none), .imm (.pointer none), .imm (.string ByteArray.empty)], ety := none }
@[reducible] def ty270 : TI := { desc := (.struct [(17, 0), (17, 1), (17, 2), (9, 3)]), size := 4, bytes := 40, zero := [.imm (.pointer none), .imm (.pointer none), .imm (.pointer none), .imm (.string ByteArray.empty)], ety := none }
@[reducible] def ty271 : TI := { desc := (.array 0 16), size := 0, bytes := 0, zero := [], ety := none }
@[reducible] def ty272 : TI := { desc := (.struct [(271, 0)]), size := 0, bytes := 0, zero := [], ety := none }
@[reducible] def ty273 : TI := { desc := (.struct [(271, 0)]), size := 0, bytes := 0, zero := [], ety := none }
@[reducible] def ty274 : TI := { desc := (.int .u8), size := 1, bytes := 1, zero := [.imm (.int .u8 0)], ety := (some (.int .u8)) }
@[reducible] def ty275 : TI := { desc := (.int .u8), size := 1, bytes := 1, zero := [.imm (.int .u8 0)], ety := (some (.int .u8)) }
@[reducible] def ty276 : TI := { desc := .other, size := 1, bytes := 8, zero := [.imm .nilFunc], ety := none }
@[reducible] def ty277 : TI := { desc := (.ptr 5), size := 1, bytes := 8, zero := [.imm (.pointer none)], ety := none }
@[reducible] def ty278 : TI := { desc := (.int .i32), size := 1, bytes := 4, zero := [.imm (.int .i32 0)], ety := (some (.int .i32)) }
@[reducible] def ty279 : TI := { desc := (.int .i32), size := 1, bytes := 4, zero := [.imm (.int .i32 0)], ety := (some (.int .i32)) }
@[reducible] def ty280 : TI := { desc := (.struct [(12, 0), (12, 1), (265, 2), (274, 3), (5, 4), (5, 5), (275, 6), (276, 7), (277, 8), (278, 9), (279, 10)]), size := 11, bytes := 48, zero := [.imm (.int .u64 0), .imm (.int .u64 0), .imm (.int .u32 0), .imm (.int .u8 0), .imm (.int .u8 0), .imm (.int .u8 0), .imm (.int .u8 0), .imm .nilFunc, .imm (.pointer none), .imm (.int .i32 0), .imm (.int .i32 0)], ety := none }
@[reducible] def ty281 : TI := { desc := (.struct [(12, 0), (12, 1), (265, 2), (274, 3), (5, 4), (5, 5), (275, 6), (276, 7), (277, 8), (278, 9), (279, 10)]), size := 11, bytes := 48, zero := [.imm (.int .u64 0), .imm (.int .u64 0), .imm (.int .u32 0), .imm (.int .u8 0), .imm (.int .u8 0), .imm (.int .u8 0), .imm (.int .u8 0), .imm .nilFunc, .imm (.pointer none), .imm (.int .i32 0), .imm (.int .i32 0)], ety := none }
def tree : TTree := (.node 140 ty140 (.node 68 ty68 (.node 33 ty33 (.node 17 ty17 (.node 9 ty9 (.node 5 ty5 (.node 3 ty3 (.node 2 ty2 (.node 1 ty1 .leaf .leaf) .leaf) (.node 4 ty4 .leaf .leaf)) (.node 7 ty7 (.node 6 ty6 .leaf .leaf) (.node 8 ty8 .leaf .leaf))) (.node 13 ty13 (.node 11 ty11 (.node 10 ty10 .leaf .leaf) (.node 12 ty12 .leaf .leaf)) (.node 15 ty15 (.node 14 ty14 .leaf .leaf) (.node 16 ty16 .leaf .leaf)))) (.node 25 ty25 (.node 21 ty21 (.node 19 ty19 (.node 18 ty18 .leaf .leaf) (.node 20 ty20 .leaf .leaf)) (.node 23 ty23 (.node 22 ty22 .leaf .leaf) (.node 24 ty24 .leaf .leaf))) (.node 29 ty29 (.node 27 ty27 (.node 26 ty26 .leaf .leaf) (.node 28 ty28 .leaf .leaf)) (.node 31 ty31 (.node 30 ty30 .leaf .leaf) (.node 32 ty32 .leaf .leaf))))) (.node 50 ty50 (.node 42 ty42 (.node 38 ty38 (.node 36 ty36 (.node 35 ty35 (.node 34 ty34 .leaf .leaf) .leaf) (.node 37 ty37 .leaf .leaf)) (.node 40 ty40 (.node 39 ty39 .leaf .leaf) (.node 41 ty41 .leaf .leaf))) (.node 46 ty46 (.node 44 ty44 (.node 43 ty43 .leaf .leaf) (.node 45 ty45 .leaf .leaf)) (.node 48 ty48 (.node 47 ty47 .leaf .leaf) (.node 49 ty49 .leaf .leaf)))) (.node 59 ty59 (.node 54 ty54 (.node 52 ty52 (.node 51 ty51 .leaf .leaf) (.node 53 ty53 .leaf .leaf)) (.node 56 ty56 (.node 55 ty55 .leaf .leaf) (.node 57 ty57 .leaf .leaf))) (.node 63 ty63 (.node 61 ty61 (.node 60 ty60 .leaf .leaf) (.node 62 ty62 .leaf .leaf)) (.node 65 ty65 (.node 64 ty64 .leaf .leaf) (.node 67 ty67 .leaf .leaf)))))) (.node 105 ty105 (.node 87 ty87 (.node 78 ty78 (.node 74 ty74 (.node 72 ty72 (.node 70 ty70 (.node 69 ty69 .leaf .leaf) .leaf) (.node 73 ty73 .leaf .leaf)) (.node 76 ty76 (.node 75 ty75 .leaf .leaf) (.node 77 ty77 .leaf .leaf))) (.node 83 ty83 (.node 80 ty80 (.node 79 ty79 .leaf .leaf) (.node 82 ty82 .leaf .leaf)) (.node 85 ty85 (.node 84 ty84 .leaf .leaf) (.node 86 ty86 .leaf .leaf)))) (.node 97 ty97 (.node 92 ty92 (.node 89 ty89 (.node 88 ty88 .leaf .leaf) (.node 90 ty90 .leaf .leaf)) (.node 94 ty94 (.node 93 ty93 .leaf .leaf) (.node 96 ty96 .leaf .leaf))) (.node 101 ty101 (.node 99 ty99 (.node 98 ty98 .leaf .leaf) (.node 100 ty100 .leaf .leaf)) (.node 103 ty103 (.node 102 ty102 .leaf .leaf) (.node 104 ty104 .leaf .leaf))))) (.node 121 ty121 (.node 113 ty113 (.node 109 ty109 (.node 107 ty107 (.node 106 ty106 .leaf .leaf) (.node 108 ty108 .leaf .leaf)) (.node 111 ty111 (.node 110 ty110 .leaf .leaf) (.node 112 ty112 .leaf .leaf))) (.node 117 ty117 (.node 115 ty115 (.node 114 ty114 .leaf .leaf) (.node 116 ty116 .leaf .leaf)) (.node 119 ty119 (.node 118 ty118 .leaf .leaf) (.node 120 ty120 .leaf .leaf)))) (.node 130 ty130 (.node 125 ty125 (.node 123 ty123 (.node 122 ty122 .leaf .leaf) (.node 124 ty124 .leaf .leaf)) (.node 127 ty127 (.node 126 ty126 .leaf .leaf) (.node 128 ty128 .leaf .leaf))) (.node 135 ty135 (.node 133 ty133 (.node 131 ty131 .leaf .leaf) (.node 134 ty134 .leaf .leaf)) (.node 138 ty138 (.node 136 ty136 .leaf .leaf) (.node 139 ty139 .leaf .leaf))))))) (.node 210 ty210 (.node 175 ty175 (.node 159 ty159 (.node 150 ty150 (.node 145 ty145 (.node 143 ty143 (.node 142 ty142 (.node 141 ty141 .leaf .leaf) .leaf) (.node 144 ty144 .leaf .leaf)) (.node 147 ty147 (.node 146 ty146 .leaf .leaf) (.node 148 ty148 .leaf .leaf))) (.node 154 ty154 (.node 152 ty152 (.node 151 ty151 .leaf .leaf) (.node 153 ty153 .leaf .leaf)) (.node 156 ty156 (.node 155 ty155 .leaf .leaf) (.node 158 ty158 .leaf .leaf)))) (.node 167 ty167 (.node 163 ty163 (.node 161 ty161 (.node 160 ty160 .leaf .leaf) (.node 162 ty162 .leaf .leaf)) (.node 165 ty165 (.node 164 ty164 .leaf .leaf) (.node 166 ty166 .leaf .leaf))) (.node 171 ty171 (.node 169 ty169 (.node 168 ty168 .leaf .leaf) (.node 170 ty170 .leaf .leaf)) (.node 173 ty173 (.node 172 ty172 .leaf .leaf) (.node 174 ty174 .leaf .leaf))))) (.node 193 ty193 (.node 184 ty184 (.node 180 ty180 (.node 178 ty178 (.node 177 ty177 (.node 176 ty176 .leaf .leaf) .leaf) (.node 179 ty179 .leaf .leaf)) (.node 182 ty182 (.node 181 ty181 .leaf .leaf) (.node 183 ty183 .leaf .leaf))) (.node 189 ty189 (.node 187 ty187 (.node 185 ty185 .leaf .leaf) (.node 188 ty188 .leaf .leaf)) (.node 191 ty191 (.node 190 ty190 .leaf .leaf) (.node 192 ty192 .leaf .leaf)))) (.node 202 ty202 (.node 198 ty198 (.node 196 ty196 (.node 195 ty195 .leaf .leaf) (.node 197 ty197 .leaf .leaf)) (.node 200 ty200 (.node 199 ty199 .leaf .leaf) (.node 201 ty201 .leaf .leaf))) (.node 206 ty206 (.node 204 ty204 (.node 203 ty203 .leaf .leaf) (.node 205 ty205 .leaf .leaf)) (.node 208 ty208 (.node 207 ty207 .leaf .leaf) (.node 209 ty209 .leaf .leaf)))))) (.node 248 ty248 (.node 229 ty229 (.node 220 ty220 (.node 215 ty215 (.node 213 ty213 (.node 212 ty212 (.node 211 ty211 .leaf .leaf) .leaf) (.node 214 ty214 .leaf .leaf)) (.node 217 ty217 (.node 216 ty216 .leaf .leaf) (.node 219 ty219 .leaf .leaf))) (.node 224 ty224 (.node 222 ty222 (.node 221 ty221 .leaf .leaf) (.node 223 ty223 .leaf .leaf)) (.node 226 ty226 (.node 225 ty225 .leaf .leaf) (.node 228 ty228 .leaf .leaf)))) (.node 240 ty240 (.node 235 ty235 (.node 232 ty232 (.node 230 ty230 .leaf .leaf) (.node 234 ty234 .leaf .leaf)) (.node 237 ty237 (.node 236 ty236 .leaf .leaf) (.node 239 ty239 .leaf .leaf))) (.node 244 ty244 (.node 242 ty242 (.node 241 ty241 .leaf .leaf) (.node 243 ty243 .leaf .leaf)) (.node 246 ty246 (.node 245 ty245 .leaf .leaf) (.node 247 ty247 .leaf .leaf))))) (.node 265 ty265 (.node 256 ty256 (.node 252 ty252 (.node 250 ty250 (.node 249 ty249 .leaf .leaf) (.node 251 ty251 .leaf .leaf)) (.node 254 ty254 (.node 253 ty253 .leaf .leaf) (.node 255 ty255 .leaf .leaf))) (.node 260 ty260 (.node 258 ty258 (.node 257 ty257 .leaf .leaf) (.node 259 ty259 .leaf .leaf)) (.node 263 ty263 (.node 261 ty261 .leaf .leaf) (.node 264 ty264 .leaf .leaf)))) (.node 274 ty274 (.node 270 ty270 (.node 268 ty268 (.node 267 ty267 .leaf .leaf) (.node 269 ty269 .leaf .leaf)) (.node 272 ty272 (.node 271 ty271 .leaf .leaf) (.node 273 ty273 .leaf .leaf))) (.node 278 ty278 (.node 276 ty276 (.node 275 ty275 .leaf .leaf) (.node 277 ty277 .leaf .leaf)) (.node 280 ty280 (.node 279 ty279 .leaf .leaf) (.node 281 ty281 .leaf .leaf))))))))
theorem tree_ok : chkTree Tryz.prog tree = true := by kernel_rfl
end Go.Fw

/- From a contract to a call in a world of its own. -/
namespace Go.Fw
open Go.RowKit
set_option linter.unusedVariables false
set_option linter.unusedSimpArgs false

def startE (W : World) : Env := { w := W, ρ := fun _ => none, S := fun g => g < W.heap.size, H := fun _ => none, U := fun _ => False }
theorem startE_ok (W : World) : HeapOk (startE W) := ⟨fun b x h => (by cases h), fun b b' x x' g h => (by cases h), fun g h => h⟩

theorem CSound.start {P : Program} {f : FuncId} {s : CSpec} (h : CSound P f s) {vs : Array Value} {args : List V1} {W : World} {p : Option Prop} {r : AV} {fresh : List Blk} (hv : VsR (startE W) args vs.toList)
    (hrun : s.run args [] = some (p, r, [], fresh)) (hp : ∀ q, p = some q → q) : Calls P f vs W fun e w' => (∃ v E', e = .returned v ∧ E'.w = w' ∧ AVR E' r v) ∧ Below W.heap.size W w' := by
  refine (h (startE W) vs args [] p r [] fresh (fun b => by simp [startE]) (fun b => by simp [startE]) (startE_ok W) hv hrun hp).mono ?_
  rintro e w' ⟨v, E', rfl, rfl, hb⟩
  refine ⟨⟨v, E', rfl, rfl, hb.val⟩, hb.fr.os, hb.fr.tape, hb.fr.output, hb.fr.size, fun k hk => hb.fr.old k hk ?_⟩
  rintro ⟨b, x, hx, _⟩
  cases hx

/-- a law that is true -/
theorem PSpec.law {P : Program} {f : FuncId} {s : PSpec} (h : GoodF P f s.spec) {vs : Array Value} {W : World} (xs : Args s.gs) (hv : VsR (startE W) (canonArgs s.gs xs) vs.toList) (hd : decArgs s.gs (canonArgs s.gs xs) = some xs)
    {p : Option Prop} (ht : s.out xs = (p, .cell (bv true), [])) (hp : ∀ q, p = some q → q) : Calls P f vs W fun e w' => e = .returned (.bool true) ∧ Below W.heap.size W w' := by
  have hrun : s.spec.run (canonArgs s.gs xs) [] = some (p, .cell (bv true), [], []) := by
    unfold PSpec.spec
    simp only [hd, ht]
  refine (h.1.start hv hrun hp).mono ?_
  rintro e w' ⟨⟨v, E', rfl, rfl, hr⟩, hb⟩
  refine ⟨?_, hb⟩
  obtain ⟨e, _⟩ := hr
  injection e with e
  rw [e]

theorem VsR.cons {E : Env} {x : V1} {xs : List V1} {v : Value} {vs : List Value} (h : V1R E x v) (hs : VsR E xs vs) : VsR E (x :: xs) (v :: vs) := ⟨v, vs, rfl, h, hs⟩
theorem VsR.nil {E : Env} : VsR E [] [] := rfl
theorem V1R.int {E : Env} (k : IntKind) (n : Int) : V1R E (.c (.imm (.int k n))) (.int k n) := ⟨rfl, rfl⟩
theorem V1R.bool {E : Env} (b : Bool) : V1R E (.c (.imm (.bool b))) (.bool b) := ⟨rfl, rfl⟩

end Go.Fw

/- Numbers of a fixed number of bits: widths, low bits, fields. -/
namespace Go.Proofs.YtofgbclopbmlcaaGreat
open Go.Fw
set_option linter.unusedVariables false
set_option linter.unusedSimpArgs false
set_option maxRecDepth 100000

abbrev gi : Sig := ⟨false, .int .i64⟩
abbrev I (n : Int) : AV := .cell (iv .i64 n)
abbrev I1 (n : Int) : V1 := .c (iv .i64 n)

def widthF (a : Int) : Int := imax 0 (imin a 62)
def widthS : PSpec := ⟨[gi], fun (a, _) => (none, I (widthF a), [])⟩
theorem width_ok : GoodF Tryz.prog 171 widthS.spec := by
  refine widthS.good (fn := Tryz.f171) (tab_ok (fs := []) tree_ok) specs_nil Tryz.func171 (by kernel_rfl) rfl fun (a : Int) _ => ?_
  repeat' first
    | (refine Go.mk ?_; conv => whnf)
    | refine Need.go ?_ ?_
    | refine Br.dec (fun _ => ?_) (fun _ => ?_)
    | refine Br.go (fun _ => ?_) (fun _ => ?_)
  exact .mk [] [] _ rfl rfl rfl rfl rfl rfl rfl

def lowF (a b : Int) : Int := land .i64 a (IntKind.i64.wrap (shl .i64 1 (widthF b) - 1))
def lowS : PSpec := ⟨[gi, gi], fun (a, b, _) => (none, I (lowF a b), [])⟩
theorem low_ok : GoodF Tryz.prog 94 lowS.spec := by
  have hT := tab_ok (fs := [(171, widthS.spec)]) tree_ok
  have hP : SpecsOk Tryz.prog (tab tree [(171, widthS.spec)]) := specs_cons width_ok specs_nil
  refine lowS.good (fn := Tryz.f94) hT hP Tryz.func94 (by kernel_rfl) rfl fun (a b : Int) _ => ?_
  repeat' first
    | (refine Go.mk ?_; conv => whnf)
    | refine Need.go ?_ ?_
    | refine Br.dec (fun _ => ?_) (fun _ => ?_)
    | refine Br.go (fun _ => ?_) (fun _ => ?_)
  · show 0 ≤ widthF b
    simp only [widthF, imax_eq]; omega
  · exact .mk [] [] _ rfl rfl rfl rfl rfl rfl rfl

def placeF (a b : Int) : Int × Int := (widthF a, imax 0 (imin b (IntKind.i64.wrap (62 - widthF a))))
def placeS : PSpec := ⟨[gi, gi], fun (a, b, _) => (none, .tup [I1 (placeF a b).1, I1 (placeF a b).2], [])⟩
theorem place_ok : GoodF Tryz.prog 260 placeS.spec := by
  have hT := tab_ok (fs := [(171, widthS.spec)]) tree_ok
  have hP : SpecsOk Tryz.prog (tab tree [(171, widthS.spec)]) := specs_cons width_ok specs_nil
  refine placeS.good (fn := Tryz.f260) hT hP Tryz.func260 (by kernel_rfl) rfl fun (a b : Int) _ => ?_
  repeat' first
    | (refine Go.mk ?_; conv => whnf)
    | refine Need.go ?_ ?_
    | refine Br.dec (fun _ => ?_) (fun _ => ?_)
    | refine Br.go (fun _ => ?_) (fun _ => ?_)
  exact .mk [] [] _ rfl rfl rfl rfl rfl rfl rfl

def getF (n a s : Int) : Int := lowF (shr .i64 (lowF n 62) (placeF a s).1) (placeF a s).2
theorem placeF_nn (a s : Int) : 0 ≤ (placeF a s).1 ∧ 0 ≤ (placeF a s).2 := by
  simp only [placeF, widthF, imax_eq]
  constructor <;> omega
def putF (n a s v : Int) : Int :=
  lor .i64 (landNot .i64 (lowF n 62) (shl .i64 (IntKind.i64.wrap (shl .i64 1 (placeF a s).2 - 1)) (placeF a s).1)) (shl .i64 (lowF v (placeF a s).2) (placeF a s).1)
theorem mixed : Tryz.prog.follows .mixedOrders = true := by kernel_rfl
abbrev gl : Sig := ⟨false, .sl (.int .i64)⟩

end Go.Proofs.YtofgbclopbmlcaaGreat

/- Plain arithmetic: numbers of 64 bits, their digits. -/
namespace Go.Proofs.YtofgbclopbmlcaaGreat
open Go.Fw
set_option linter.unusedVariables false
set_option linter.unusedSimpArgs false

theorem w64 {x : Int} (h1 : -9223372036854775808 ≤ x) (h2 : x ≤ 9223372036854775807) : IntKind.i64.wrap x = x := by
  rw [IntKind.wrap_i64]; omega

/-- the number below 2^64 -/
def u64 (x : Int) : Nat := (x % 18446744073709551616).toNat
theorem u64_nat {n : Nat} (h : n < 2 ^ 64) : u64 (n : Int) = n := by unfold u64; omega
theorem ofInt_toNat (x : Int) : (BitVec.ofInt 64 x).toNat = u64 x := by
  rw [BitVec.toNat_ofInt]; rfl

theorem land_nat (x y : Int) (h : u64 x &&& u64 y < 2 ^ 63) : land .i64 x y = ((u64 x &&& u64 y : Nat) : Int) := by
  show IntKind.i64.wrap (((BitVec.ofInt 64 x &&& BitVec.ofInt 64 y).toNat : Nat) : Int) = _
  rw [BitVec.toNat_and, ofInt_toNat, ofInt_toNat]
  exact w64 (by omega) (by omega)
theorem lor_nat (x y : Int) (h : u64 x ||| u64 y < 2 ^ 63) : lor .i64 x y = ((u64 x ||| u64 y : Nat) : Int) := by
  show IntKind.i64.wrap (((BitVec.ofInt 64 x ||| BitVec.ofInt 64 y).toNat : Nat) : Int) = _
  rw [BitVec.toNat_or, ofInt_toNat, ofInt_toNat]
  exact w64 (by omega) (by omega)
theorem landNot_nat (x y : Int) (h : u64 x < 2 ^ 63) : landNot .i64 x y = ((u64 x ^^^ (u64 x &&& u64 y) : Nat) : Int) := by
  have e : (BitVec.ofInt 64 x &&& ~~~(BitVec.ofInt 64 y)) = BitVec.ofInt 64 x ^^^ (BitVec.ofInt 64 x &&& BitVec.ofInt 64 y) := by
    apply BitVec.eq_of_getLsbD_eq
    intro i hi
    simp only [BitVec.getLsbD_and, BitVec.getLsbD_not, BitVec.getLsbD_xor, hi, decide_true, Bool.true_and]
    cases (BitVec.ofInt 64 x).getLsbD i <;> cases (BitVec.ofInt 64 y).getLsbD i <;> rfl
  show IntKind.i64.wrap (((BitVec.ofInt 64 x &&& ~~~(BitVec.ofInt 64 y)).toNat : Nat) : Int) = _
  rw [e, BitVec.toNat_xor, BitVec.toNat_and, ofInt_toNat, ofInt_toNat]
  have h2 : u64 x ^^^ (u64 x &&& u64 y) < 2 ^ 63 := Nat.xor_lt_two_pow h (Nat.lt_of_le_of_lt Nat.and_le_left h)
  exact w64 (by omega) (by omega)

theorem pow_le {a b : Nat} (h : a ≤ b) : 2 ^ a ≤ 2 ^ b := Nat.pow_le_pow_right (by omega) h

/-- 1 << b, less one -/
theorem mask_eq {b : Nat} (h : b ≤ 62) : IntKind.i64.wrap (shl .i64 1 b - 1) = ((2 ^ b - 1 : Nat) : Int) := by
  have h1 : 2 ^ b ≤ 2 ^ 62 := pow_le h
  have h2 : 0 < 2 ^ b := Nat.pow_pos (by omega)
  have e : shl .i64 1 (b : Int) = ((2 ^ b : Nat) : Int) := by
    show IntKind.i64.wrap (1 * 2 ^ (min ((b : Int).toNat) 64)) = _
    have : min ((b : Int).toNat) 64 = b := by omega
    rw [this, Int.one_mul]
    have e2 : (2 : Int) ^ b = ((2 ^ b : Nat) : Int) := by simp
    rw [e2]
    exact w64 (by omega) (by omega)
  rw [e, w64 (by omega) (by omega)]
  omega

theorem shl_eq {x b : Nat} (h : x * 2 ^ b < 2 ^ 63) (hb : b ≤ 62) : shl .i64 (x : Int) (b : Int) = ((x * 2 ^ b : Nat) : Int) := by
  show IntKind.i64.wrap ((x : Int) * 2 ^ (min ((b : Int).toNat) 64)) = _
  have : min ((b : Int).toNat) 64 = b := by omega
  rw [this]
  have e2 : (x : Int) * 2 ^ b = ((x * 2 ^ b : Nat) : Int) := by simp
  rw [e2]
  exact w64 (by omega) (by omega)
theorem shr_eq {x b : Nat} (hb : b ≤ 64) : shr .i64 (x : Int) (b : Int) = ((x / 2 ^ b : Nat) : Int) := by
  show (x : Int).fdiv (2 ^ (min ((b : Int).toNat) 64)) = _
  have : min ((b : Int).toNat) 64 = b := by omega
  rw [this]
  have e2 : (2 : Int) ^ b = ((2 ^ b : Nat) : Int) := by simp
  rw [e2, Int.fdiv_eq_ediv_of_nonneg _ (Int.natCast_nonneg _)]
  simp

theorem xor_and_testBit (x y i : Nat) : (x ^^^ (x &&& y)).testBit i = (x.testBit i && !y.testBit i) := by
  rw [Nat.testBit_xor, Nat.testBit_and]
  cases x.testBit i <;> cases y.testBit i <;> rfl

end Go.Proofs.YtofgbclopbmlcaaGreat

/- What the low bits of a number are as arithmetic. -/
namespace Go.Proofs.YtofgbclopbmlcaaGreat
open Go.Fw
set_option linter.unusedVariables false
set_option linter.unusedSimpArgs false

theorem widthF_in (b : Int) : 0 ≤ widthF b ∧ widthF b ≤ 62 := by
  simp only [widthF, imax_eq, imin_eq]; omega
theorem widthF_id {b : Int} (h1 : 0 ≤ b) (h2 : b ≤ 62) : widthF b = b := by
  simp only [widthF, imax_eq, imin_eq]; omega
theorem lowF_eq (x b : Int) : lowF x b = ((u64 x % 2 ^ (widthF b).toNat : Nat) : Int) := by
  obtain ⟨h1, h2⟩ := widthF_in b
  unfold lowF
  generalize widthF b = w at h1 h2
  obtain ⟨k, rfl⟩ := Int.eq_ofNat_of_zero_le h1
  have hk : k ≤ 62 := by omega
  have h3 : 2 ^ k ≤ 2 ^ 62 := pow_le hk
  have h4 : 0 < 2 ^ k := Nat.pow_pos (by omega)
  rw [mask_eq hk]
  have e : u64 ((2 ^ k - 1 : Nat) : Int) = 2 ^ k - 1 := u64_nat (by omega)
  have e2 : u64 x &&& (2 ^ k - 1) = u64 x % 2 ^ k := Nat.and_two_pow_sub_one_eq_mod _ _
  have h5 : u64 x % 2 ^ k < 2 ^ k := Nat.mod_lt _ h4
  rw [land_nat _ _ (by rw [e, e2]; omega), e, e2]
  simp

end Go.Proofs.YtofgbclopbmlcaaGreat

/- Contracts of functions that write into what they are handed. -/
namespace Go.Fw
set_option linter.unusedVariables false
set_option linter.unusedSimpArgs false

structure WSpec where
  X : Type
  args : X → List V1
  bl : X → List Blk
  rd : List V1 → List Blk → Option X
  out : X → Option Prop × AV × List (Option Blk) × List Blk

def WSpec.spec (s : WSpec) : CSpec := { wr := true, run := fun args bl => match s.rd args bl with
  | some x => some (s.out x)
  | none => none }

theorem WSpec.good {P : Program} {T : Tab} {f : FuncId} {fn : Func} (hT : TabOk P T) (hP : SpecsOk P T) (hf : P.funcs[f]? = some fn) (hn : (fn.name == "runtime.NumGoroutine") = false) (s : WSpec) (hb : fn.body.isSome = true)
    (hrd : ∀ a b x, s.rd a b = some x → a = s.args x ∧ b = s.bl x)
    (h : ∀ x, (∀ q, (s.out x).1 = some q → q) → Go (startR P T fn (s.args x) (s.bl x) (s.out x).2.1 (s.out x).2.2.1 (s.out x).2.2.2)) : GoodF P f s.spec := by
  refine ⟨?_, fn, hf, hn, hb⟩
  obtain ⟨c, hc⟩ := Option.isSome_iff_exists.1 hb
  refine fn_sound hT hf hc _ fun args bl p r upd fresh hrun hp => ?_
  unfold WSpec.spec at hrun
  simp only at hrun
  split at hrun
  · rename_i x hx
    obtain ⟨rfl, rfl⟩ := hrd _ _ _ hx
    injection hrun with hrun
    have h1 := (h x (by rw [hrun]; exact hp)).out
    rw [hrun, startR_eq] at h1
    refine ⟨_, fun E vs _ _ hv => hv, ?_⟩
    unfold startC at h1
    rw [hc] at h1
    simp only [fV1s_eq, fBlks_eq, fSt_eq] at h1
    exact ex_sound hT hP c h1
  · cases hrun

end Go.Fw

/- What all chips share: numbers in their form, states compared. -/
namespace Go.Proofs.YtofgbclopbmlcaaGreat
open Go.Fw
set_option linter.unusedVariables false
set_option linter.unusedSimpArgs false
set_option maxRecDepth 100000

abbrev gD : Sig := ⟨true, .pair (.sl (.int .i64)) (.sl (.int .u8))⟩
abbrev gC : Sig := ⟨true, .pair .str (.pair (.int .i64) (.pair (.int .i64) (.pair (.int .i64) (.sl (.int .u8)))))⟩
abbrev gb : Sig := ⟨false, .sl (.int .u8)⟩
abbrev Dv := List Int × List Int
abbrev Cv := ByteArray × Int × Int × Int × List Int

theorem lowF_mod (n b : Int) (h1 : 0 ≤ b) (h2 : b ≤ 62) : lowF n b = n % 2 ^ b.toNat := by
  rw [lowF_eq, widthF_id h1 h2]
  obtain ⟨k, rfl⟩ := Int.eq_ofNat_of_zero_le h1
  have hk : k ≤ 62 := by omega
  have e : (18446744073709551616 : Int) = ((2 ^ k : Nat) : Int) * ((2 ^ (64 - k) : Nat) : Int) := by
    have : (18446744073709551616 : Nat) = 2 ^ k * 2 ^ (64 - k) := by
      rw [← Nat.pow_add]
      have : k + (64 - k) = 64 := by omega
      rw [this]
    rw [← Int.natCast_mul, ← this]; rfl
  have e2 : (2 : Int) ^ k = ((2 ^ k : Nat) : Int) := by simp
  show ((u64 n % 2 ^ k : Nat) : Int) = n % 2 ^ k
  rw [e2, Int.natCast_emod]
  have : ((u64 n : Nat) : Int) = n % 18446744073709551616 := by unfold u64; omega
  rw [this]
  exact Int.emod_emod_of_dvd n ⟨_, e⟩

def lowM : PSpec := ⟨[gi, gi], fun (n, b, _) => (some (0 ≤ b ∧ b ≤ 62), I (n % 2 ^ b.toNat), [])⟩
theorem lowM_ok : GoodF Tryz.prog 94 lowM.spec := by
  have hT := tab_ok (fs := [(171, widthS.spec)]) tree_ok
  have hP : SpecsOk Tryz.prog (tab tree [(171, widthS.spec)]) := specs_cons width_ok specs_nil
  refine lowM.good (fn := Tryz.f94) hT hP Tryz.func94 (by kernel_rfl) rfl fun (a b : Int) hp => ?_
  have hp : 0 ≤ b ∧ b ≤ 62 := hp _ rfl
  repeat' first
    | (refine Go.mk ?_; conv => whnf)
    | refine Need.go ?_ ?_
    | refine NilG.go (fun _ => ?_) (fun _ => ?_)
    | refine Br.dec (fun _ => ?_) (fun _ => ?_)
    | refine Br.go (fun _ => ?_) (fun _ => ?_)
    | refine draw_go hT hP mixed ?_
    | refine round_go hT hP ?_
  · show 0 ≤ widthF b
    simp only [widthF, imax_eq]; omega
  · refine .mk [] [] _ rfl rfl rfl rfl rfl rfl (imm_int ?_)
    exact lowF_mod a b hp.1 hp.2

theorem tmod_lt (n : Int) {m : Int} (h : 0 < m) : -m < n.tmod m ∧ n.tmod m < m := by
  constructor
  · have := Int.lt_tmod_of_pos n h; omega
  · exact Int.tmod_lt_of_pos n h
theorem mod_eq (n : Int) {m : Int} (h : 0 < m) (h2 : m ≤ 4611686018427387904) : (IntKind.i64.wrap (n.tmod m + m)).tmod m = n % m := by
  obtain ⟨h3, h4⟩ := tmod_lt n h
  rw [w64 (by omega) (by omega), Int.tmod_eq_emod_of_nonneg (by omega), Int.add_emod_right]
  by_cases hn : 0 ≤ n
  · rw [Int.tmod_eq_emod_of_nonneg hn, Int.emod_emod]
  · have e := Int.mul_tdiv_add_tmod n m
    rw [← Int.add_mul_emod_self_left (n.tmod m) m (n.tdiv m), Int.add_comm, e]
/-- numbers in their form -/
def formG (N : List Int) : List Int → Nat → List Int
  | [], _ => []
  | m :: ms, i => N.getD i 0 % m :: formG N ms (i + 1)
theorem formG_len (N : List Int) : ∀ (ms : List Int) (i : Nat), (formG N ms i).length = ms.length
  | [], _ => rfl
  | m :: ms, i => by simp [formG, formG_len N ms]
theorem formG_take (N : List Int) : ∀ (ms : List Int) (i k : Nat), k < ms.length → formG N (ms.take (k + 1)) i = formG N (ms.take k) i ++ [N.getD (i + k) 0 % ms.getD k 0]
  | m :: ms, i, 0, _ => by simp [formG]
  | m :: ms, i, k + 1, h => by
    have := formG_take N ms (i + 1) k (by simpa using h)
    simp only [List.take_succ_cons, formG, this, List.cons_append]
    have e : i + 1 + k = i + (k + 1) := by omega
    rw [e]; simp
end Go.Proofs.YtofgbclopbmlcaaGreat

/- What all chips share: their result, the choice of a register. -/
namespace Go.Proofs.YtofgbclopbmlcaaGreat
open Go.Fw
set_option linter.unusedVariables false
set_option linter.unusedSimpArgs false
set_option maxRecDepth 100000

abbrev devR : AV := .agg [.own 0, .imm (.slice none 0 0)]
def pickF (l : List Int) (a : Int) : Int := if a < 0 then 0 else if a ≥ l.length then 0 else l.getD a.toNat 0
theorem pick_no {l : List Int} {a : Int} (h : ∀ i : Nat, i < l.length → ¬ a = i) : pickF l a = 0 := by
  unfold pickF
  split
  · rfl
  · split
    · rfl
    · rename_i h1 h2
      exact absurd (by omega : a = (a.toNat : Int)) (h a.toNat (by omega))

end Go.Proofs.YtofgbclopbmlcaaGreat

/- The chip that sends and receives bytes: forming, cycles. -/
namespace Go.Proofs.YtofgbclopbmlcaaGreat
open Go.Fw
set_option linter.unusedVariables false
set_option linter.unusedSimpArgs false
set_option maxRecDepth 100000

theorem blk_eqs {l l' : List Int} (h : l = l') : [some (Blk.arr (.int .i64) l)] = [some (Blk.arr (.int .i64) l')] := by rw [h]
abbrev s0 (N : List Int) : Int := N.getD 0 0 % 256
abbrev s1 (N : List Int) : Int := N.getD 1 0 % 64
abbrev s2 (N : List Int) : Int := N.getD 2 0 % 256
abbrev s3 (N : List Int) : Int := N.getD 3 0 % 2
abbrev s4 (N : List Int) : Int := N.getD 4 0 % 2
abbrev s5 (N : List Int) : Int := N.getD 5 0 % 4
abbrev s6 (N : List Int) : Int := N.getD 6 0 % 1048576
abbrev s7 (N : List Int) : Int := N.getD 7 0 % 256
def serN (N : List Int) : List Int := [s0 N, s1 N, s2 N, s3 N, s4 N, s5 N, s6 N, s7 N]
theorem serN_eq (N : List Int) : serN N = [s0 N, s1 N, s2 N, s3 N, s4 N, s5 N, s6 N, s7 N] := rfl
theorem sR (N : List Int) : (0 ≤ s0 N ∧ s0 N < 256) ∧ (0 ≤ s1 N ∧ s1 N < 64) ∧ (0 ≤ s2 N ∧ s2 N < 256) ∧ (0 ≤ s3 N ∧ s3 N < 2) ∧ (0 ≤ s4 N ∧ s4 N < 2) ∧ (0 ≤ s5 N ∧ s5 N < 4) ∧ (0 ≤ s6 N ∧ s6 N < 1048576) ∧ (0 ≤ s7 N ∧ s7 N < 256) := by
  unfold s0 s1 s2 s3 s4 s5 s6 s7; omega
def sfitS : PSpec := ⟨[gD], fun (d, _) => (none, .cell (.own 0), [.arr (.int .i64) (serN d.1)])⟩
theorem sfit_ok : GoodF Tryz.prog 203 sfitS.spec := by
  have hT := tab_ok (fs := [(94, lowM.spec)]) tree_ok
  have hP : SpecsOk Tryz.prog (tab tree [(94, lowM.spec)]) := specs_cons lowM_ok specs_nil
  refine sfitS.good (fn := Tryz.f203) hT hP Tryz.func203 (by kernel_rfl) rfl fun (d : Dv) _ => ?_
  obtain ⟨N, M⟩ := d
  repeat' first
    | (refine Go.mk ?_; conv => whnf)
    | refine Need.go ?_ ?_
    | refine NilG.go (fun _ => ?_) (fun _ => ?_)
    | refine Br.dec (fun _ => ?_) (fun _ => ?_)
    | refine Br.go (fun _ => ?_) (fun _ => ?_)
    | refine draw_go hT hP mixed ?_
    | refine round_go hT hP ?_
  · exact of_decide_eq_true rfl
  refine loop_unroll 9 ?_
  repeat' first
    | (refine Go.mk ?_; conv => whnf)
    | refine Need.go ?_ ?_
    | refine NilG.go (fun _ => ?_) (fun _ => ?_)
    | refine Br.dec (fun _ => ?_) (fun _ => ?_)
    | refine Br.go (fun _ => ?_) (fun _ => ?_)
    | refine draw_go hT hP mixed ?_
    | refine round_go hT hP ?_
  all_goals first
    | exact of_decide_eq_true rfl
    | exact .mk [] [1] _ rfl rfl rfl rfl rfl rfl rfl

def snewS : PSpec := ⟨[], fun _ => (none, devR, [.arr (.int .i64) [0, 0, 0, 0, 0, 0, 0, 0]])⟩
theorem snew_ok : GoodF Tryz.prog 112 snewS.spec := by
  have hT := tab_ok (fs := []) tree_ok
  have hP : SpecsOk Tryz.prog (tab tree []) := specs_nil
  refine snewS.good (fn := Tryz.f112) hT hP Tryz.func112 (by kernel_rfl) rfl fun _ => ?_
  repeat' first
    | (refine Go.mk ?_; conv => whnf)
    | refine Need.go ?_ ?_
    | refine NilG.go (fun _ => ?_) (fun _ => ?_)
    | refine Br.dec (fun _ => ?_) (fun _ => ?_)
    | refine Br.go (fun _ => ?_) (fun _ => ?_)
    | refine draw_go hT hP mixed ?_
    | refine round_go hT hP ?_
  all_goals first
    | exact of_decide_eq_true rfl
    | exact .mk [] [1] _ rfl rfl rfl rfl rfl rfl rfl

def bitI (b : Bool) : Int := match b with | true => 1 | false => 0
def truthS : PSpec := ⟨[⟨false, .bool⟩], fun (b, _) => (none, I (bitI b), [])⟩
theorem truth_ok : GoodF Tryz.prog 234 truthS.spec := by
  have hT := tab_ok (fs := []) tree_ok
  have hP : SpecsOk Tryz.prog (tab tree []) := specs_nil
  refine truthS.good (fn := Tryz.f234) hT hP Tryz.func234 (by kernel_rfl) rfl fun (b : Bool) _ => ?_
  repeat' first
    | (refine Go.mk ?_; conv => whnf)
    | refine Need.go ?_ ?_
    | refine NilG.go (fun _ => ?_) (fun _ => ?_)
    | refine Br.dec (fun _ => ?_) (fun _ => ?_)
    | refine Br.go (fun _ => ?_) (fun _ => ?_)
    | refine draw_go hT hP mixed ?_
    | refine round_go hT hP ?_
  all_goals
    rename_i h
    subst h
    exact .mk [] [] _ rfl rfl rfl rfl rfl rfl rfl
/-- three bits of a number, put together by or -/
theorem or_bits (f o : Int) (b : Bool) (h3 : 0 ≤ f ∧ f < 2) (h4 : 0 ≤ o ∧ o < 2) : lor .i64 (lor .i64 f (shl .i64 (bitI b) 1)) (shl .i64 o 2) = f + 2 * bitI b + 4 * o := by
  have e1 : f = 0 ∨ f = 1 := by omega
  have e2 : o = 0 ∨ o = 1 := by omega
  rcases e1 with rfl | rfl <;> rcases e2 with rfl | rfl <;> cases b <;> decide +kernel
theorem tup_reads {x y : Int} (h2 : x = y) : AV.tup [.agg [.own 0, .imm (.slice none 0 0)], I1 x] = AV.tup [.agg [.own 0, .imm (.slice none 0 0)], I1 y] := by rw [h2]
def srF (N : List Int) (a : Int) : Int := pickF [s2 N, s3 N + 2 * bitI (decide (s1 N > 0)) + 4 * s4 N, s5 N] a
def srN (N : List Int) (a : Int) : List Int := [s0 N, s1 N, s2 N, if a = 0 then 0 else s3 N, if a = 1 then 0 else s4 N, s5 N, s6 N, s7 N]
def sreadS : PSpec := ⟨[gD, gi], fun (d, a, _) => (none, .tup [.agg [.own 0, .imm (.slice none 0 0)], I1 (srF d.1 a)], [.arr (.int .i64) (srN d.1 a)])⟩
theorem sread_ok : GoodF Tryz.prog 175 sreadS.spec := by
  have hT := tab_ok (fs := [(203, sfitS.spec), (234, truthS.spec)]) tree_ok
  have hP : SpecsOk Tryz.prog (tab tree [(203, sfitS.spec), (234, truthS.spec)]) := specs_cons sfit_ok (specs_cons truth_ok specs_nil)
  refine sreadS.good (fn := Tryz.f175) hT hP Tryz.func175 (by kernel_rfl) rfl fun (d : Dv) (a : Int) _ => ?_
  obtain ⟨N, M⟩ := d
  obtain ⟨h0, h1, h2, h3, h4, h5, h6, h7⟩ := sR N
  repeat' first
    | (refine Go.mk ?_; conv => whnf)
    | refine Need.go ?_ ?_
    | refine NilG.go (fun _ => ?_) (fun _ => ?_)
    | refine Br.dec (fun _ => ?_) (fun _ => ?_)
    | refine Br.go (fun _ => ?_) (fun _ => ?_)
    | refine draw_go hT hP mixed ?_
    | refine round_go hT hP ?_
  all_goals (try subst_vars)
  all_goals first
    | exact rfl
    | exact of_decide_eq_true rfl
    | exact .mk [] [2] _ rfl rfl rfl rfl rfl rfl rfl
    | skip
  · refine .mk [] [2] _ rfl rfl rfl rfl rfl rfl (tup_reads ?_)
    exact or_bits (s3 N) (s4 N) (decide (s1 N > 0)) h3 h4
  · rename_i g0 g1 g2
    have e : srF N a = 0 := pick_no fun i hi => by
      have : i < 3 := hi
      omega
    refine .mk [] [2] _ rfl rfl rfl rfl rfl (blk_eqs (l := serN N) ?_) (tup_reads e.symm)
    show _ = srN N a
    rw [serN_eq, srN, if_neg g0, if_neg g1]

end Go.Proofs.YtofgbclopbmlcaaGreat

/- The chip that reads and writes disks: forming, a new one, reading. -/
namespace Go.Proofs.YtofgbclopbmlcaaGreat
open Go.Fw
set_option linter.unusedVariables false
set_option linter.unusedSimpArgs false
set_option maxRecDepth 100000

theorem over_take (M : List Int) {n : Nat} (h : n ≤ M.length) : over (List.replicate n 0) M 0 = M.take n := by
  rw [over_eq]
  simp [h]
def qF (M : List Int) : Nat := M.length / 256
def dM (M : List Int) : List Int := M.take (qF M * 256)
theorem qF_le (M : List Int) : qF M * 256 ≤ M.length := by unfold qF; omega
theorem dM_len (M : List Int) : (dM M).length = qF M * 256 := by
  unfold dM; rw [List.length_take]; have := qF_le M; omega
theorem qF_int (M : List Int) (h : M.length ≤ 140737488355328) : IntKind.i64.wrap (IntKind.i64.wrap (Int.tdiv (M.length : Int) 256) * 256) = ((qF M * 256 : Nat) : Int) := by
  rw [Int.tdiv_eq_ediv_of_nonneg (by omega), w64 (x := (M.length : Int) / 256) (by omega) (by omega), w64 (by omega) (by omega)]
  unfold qF; omega
def dN (N : List Int) (q : Nat) : List Int :=
  [if N.getD 0 0 % 256 > q then 0 else N.getD 0 0 % 256, N.getD 1 0 % 4, if N.getD 2 0 % 8 > 4 then 0 else N.getD 2 0 % 8, N.getD 3 0 % 4, N.getD 4 0 % 16, N.getD 5 0 % 64, N.getD 6 0 % 256, N.getD 7 0 % 2, N.getD 8 0 % 2, N.getD 9 0 % 2]
theorem tup_r2 {x y : Int} (h : x = y) : AV.tup [.agg [.own 0, .own 1], I1 x] = AV.tup [.agg [.own 0, .own 1], I1 y] := by rw [h]
theorem blk2_eq {l l' m m' : List Int} (h : l = l') (h2 : m = m') : [some (Blk.arr (.int .i64) l), some (Blk.arr (.int .u8) m)] = [some (Blk.arr (.int .i64) l'), some (Blk.arr (.int .u8) m')] := by rw [h, h2]

theorem over_get (N : List Int) : ∀ (l : List Int) (i k : Nat), k < l.length → (over l N i).getD k 0 = N.getD (i + k) (l.getD k 0)
  | d :: l, i, 0, _ => by simp [over]
  | d :: l, i, k + 1, h => by
    have := over_get N l (i + 1) k (by simpa using h)
    have e : i + 1 + k = i + (k + 1) := by omega
    rw [e] at this
    simpa [over] using this
theorem rep_get (n k : Nat) : (List.replicate n (0 : Int)).getD k 0 = 0 := by
  rw [List.getD_eq_getElem?_getD, List.getElem?_replicate]
  split <;> rfl
def dL (N : List Int) (x y : Int) : List Int := [x, N.getD 1 0 % 4, y, N.getD 3 0 % 4, N.getD 4 0 % 16, N.getD 5 0 % 64, N.getD 6 0 % 256, N.getD 7 0 % 2, N.getD 8 0 % 2, N.getD 9 0 % 2]
def bitsK (N C ms : List Int) (k : Nat) : List Int := formG N (ms.take k) 0 ++ C.drop k
theorem bitsK_len (N C ms : List Int) {k : Nat} (h : k ≤ ms.length) (hc : C.length = ms.length) : (bitsK N C ms k).length = ms.length := by
  simp [bitsK, formG_len]; omega
theorem bitsK_get (N C ms : List Int) {k : Nat} (h : k < ms.length) (hc : C.length = ms.length) : (bitsK N C ms k).getD k 0 = C.getD k 0 := by
  have hl : (formG N (ms.take k) 0).length = k := by rw [formG_len, List.length_take]; omega
  unfold bitsK
  rw [List.getD_eq_getElem?_getD, List.getElem?_append_right (by omega), hl, Nat.sub_self, List.getElem?_drop, List.getD_eq_getElem?_getD]
  rfl
theorem bitsK_set (N C ms : List Int) {k : Nat} (h : k < ms.length) (hc : C.length = ms.length) : (bitsK N C ms k).set k (N.getD k 0 % ms.getD k 0) = bitsK N C ms (k + 1) := by
  have hl : (formG N (ms.take k) 0).length = k := by rw [formG_len, List.length_take]; omega
  unfold bitsK
  rw [List.set_append, if_neg (by omega), hl, Nat.sub_self, List.drop_eq_getElem_cons (by omega), List.set_cons_zero, formG_take N ms 0 k h]
  simp
def dMods : List Int := [256, 4, 8, 4, 16, 64, 256, 2, 2, 2]
def dBits : List Int := [8, 2, 3, 2, 4, 6, 8, 1, 1, 1]
theorem dBits_ok : ∀ k, k < 10 → (0 ≤ dBits.getD k 0 ∧ dBits.getD k 0 ≤ 62) ∧ (2 : Int) ^ (dBits.getD k 0).toNat = dMods.getD k 0 := by decide +kernel
theorem dN_if (N : List Int) (q : Nat) : dN N q = [if N.getD 0 0 % 256 > q then 0 else N.getD 0 0 % 256, N.getD 1 0 % 4, if N.getD 2 0 % 8 > 4 then 0 else N.getD 2 0 % 8, N.getD 3 0 % 4, N.getD 4 0 % 16, N.getD 5 0 % 64, N.getD 6 0 % 256, N.getD 7 0 % 2, N.getD 8 0 % 2, N.getD 9 0 % 2] := rfl

def dfitS : PSpec := ⟨[gD], fun (d, _) => (some (List.length d.2 ≤ 140737488355328), .tup [.c (.own 0), .c (.own 1)], [.arr (.int .i64) (dN d.1 (qF d.2)), .arr (.int .u8) (dM d.2)])⟩
theorem dfit_ok : GoodF Tryz.prog 204 dfitS.spec := by
  have hT := tab_ok (fs := [(94, lowM.spec)]) tree_ok
  have hP : SpecsOk Tryz.prog (tab tree [(94, lowM.spec)]) := specs_cons lowM_ok specs_nil
  refine dfitS.good (fn := Tryz.f204) hT hP Tryz.func204 (by kernel_rfl) rfl fun (d : Dv) hp => ?_
  obtain ⟨N, M⟩ := d
  have hp : M.length ≤ 140737488355328 := hp _ rfl
  have hq := qF_int M hp
  have hq2 := qF_le M
  have hqi : IntKind.i64.wrap (Int.tdiv ((dM M).length : Int) 256) = ((qF M : Nat) : Int) := by
    rw [dM_len, Int.tdiv_eq_ediv_of_nonneg (by omega), w64 (by omega) (by omega)]; omega
  repeat' first
    | (refine Go.mk ?_; conv => whnf)
    | refine Need.go ?_ ?_
    | refine NilG.go (fun _ => ?_) (fun _ => ?_)
    | refine Br.dec (fun _ => ?_) (fun _ => ?_)
    | refine Br.go (fun _ => ?_) (fun _ => ?_)
    | refine draw_go hT hP mixed ?_
    | refine round_go hT hP ?_
  · exact of_decide_eq_true rfl
  have hC : ∀ k, k < 10 → (over (List.replicate 10 0) N 0).getD k 0 = N.getD k 0 := by
    intro k hk
    rw [over_get N _ 0 k (by simpa using hk), Nat.zero_add, rep_get 10 k]
  have hCl : (over (List.replicate 10 0) N 0).length = 10 := by rw [over_length]; rfl
  refine loop_go hT hP (X := Int × List Int) (fun (i, n) => St.mk [.dead, .cell (.ptr 0 0), .dead, .dead, .cell (.own 1), .dead, .dead, .dead, .dead, .dead, .dead, .dead, .dead, .agg [.run .i64 10 [8, 2, 3, 2, 4, 6, 8, 1, 1, 1]], I i, .dead, .dead, .dead, .dead, .dead, .dead, .dead, .dead, .dead, .dead, .dead, .dead, .dead, .dead, .dead, .dead, .dead, .dead, .dead, .dead, .dead, .dead, .dead, .dead, .dead, .dead, .dead, .dead, .dead, .dead, .dead, .dead, .dead, .dead, .dead, .dead, .dead, .dead, .dead, .dead] [some (.var [.ro (.int .i64) N, .ro (.int .u8) M]), some (.arr (.int .i64) n)])
    (fun (i, n) => ∃ k : Nat, i = k ∧ k ≤ 10 ∧ n = bitsK N (over (List.replicate 10 0) N 0) dMods k) (fun (i, _) => (10 - i).toNat) (0, over (List.replicate 10 0) N 0) (Le.mk [] [0, 1] rfl rfl ?_ ?_) ?_ fun (i, n) hi => ?_
  rotate_right
  repeat' first
    | (refine Go.mk ?_; conv => whnf)
    | refine Need.go ?_ ?_
    | refine NilG.go (fun _ => ?_) (fun _ => ?_)
    | refine Br.dec (fun _ => ?_) (fun _ => ?_)
    | refine Br.go (fun _ => ?_) (fun _ => ?_)
    | refine draw_go hT hP mixed ?_
    | refine round_go hT hP ?_
  rotate_right 3
  · exact rfl
  · repeat' first | exact trivial | exact ⟨rfl, rfl⟩ | refine And.intro ?_ ?_
  · exact ⟨0, rfl, by omega, rfl⟩
  all_goals first
    | exact of_decide_eq_true rfl
    | (obtain ⟨k, rfl, hk, rfl⟩ := hi; omega)
    | (obtain ⟨k, rfl, hk, rfl⟩ := hi; rw [bitsK_len _ _ _ hk hCl]; show _ ∧ _ < ((10 : Nat) : Int); omega)
    | (obtain ⟨k, rfl, hk, rfl⟩ := hi; rw [bitsK_len _ _ _ hk hCl]; show _ < 10; omega)
    | skip
  · obtain ⟨k, rfl, hk, rfl⟩ := hi
    exact (dBits_ok k (by omega)).1
  · obtain ⟨k, rfl, hk, rfl⟩ := hi
    have e : IntKind.i64.wrap ((k : Int) + 1) = ((k + 1 : Nat) : Int) := by rw [w64 (by omega) (by omega)]; omega
    have hk2 : k < 10 := by omega
    apply Exists.intro (_, _)
    refine And.intro ?_ (And.intro ?_ (Le.mk [] [0, 1] rfl rfl ?hh ?ht))
    case hh => exact rfl
    case ht => repeat' first | exact trivial | exact ⟨rfl, rfl⟩ | refine And.intro ?_ ?_
    · refine ⟨k + 1, e, by omega, ?_⟩
      show (bitsK N (over (List.replicate 10 0) N 0) dMods k).set k ((bitsK N (over (List.replicate 10 0) N 0) dMods k).getD k 0 % 2 ^ (dBits.getD k 0).toNat) = _
      rw [bitsK_get N _ dMods hk2 hCl, hC k hk2, (dBits_ok k hk2).2]
      exact bitsK_set N _ dMods hk2 hCl
    · show (10 - IntKind.i64.wrap ((k : Int) + 1)).toNat < (10 - (k : Int)).toNat
      rw [e]; omega
  all_goals
    obtain ⟨k, rfl, hk, rfl⟩ := hi
    obtain rfl : k = 10 := by omega
    have hm : over (List.replicate (IntKind.i64.wrap (IntKind.i64.wrap (Int.tdiv (M.length : Int) 256) * 256)).toNat 0) M 0 = dM M := by
      rw [hq]; exact over_take M hq2
    try exact of_decide_eq_true rfl
  · have e : ty5.bytes = 1 := rfl
    rw [e, show (List.length (N, M).2) = M.length from rfl, hq]
    omega
  · rename_i h1 h2
    have h1 : N.getD 0 0 % 256 > IntKind.i64.wrap (Int.tdiv ((over (List.replicate (IntKind.i64.wrap (IntKind.i64.wrap (Int.tdiv (M.length : Int) 256) * 256)).toNat 0) M 0).length : Int) 256) := h1
    have h2 : N.getD 2 0 % 8 > 4 := h2
    rw [hm, hqi] at h1
    refine .mk [] [1, 2] _ rfl rfl rfl rfl rfl (blk2_eq (l := dL N 0 0) (l' := dN N (qF M)) ?_ hm) rfl
    rw [dN_if, if_pos h1, if_pos h2]; rfl
  · rename_i h1 h2
    have h1 : N.getD 0 0 % 256 > IntKind.i64.wrap (Int.tdiv ((over (List.replicate (IntKind.i64.wrap (IntKind.i64.wrap (Int.tdiv (M.length : Int) 256) * 256)).toNat 0) M 0).length : Int) 256) := h1
    have h2 : ¬ N.getD 2 0 % 8 > 4 := h2
    rw [hm, hqi] at h1
    refine .mk [] [1, 2] _ rfl rfl rfl rfl rfl (blk2_eq (l := dL N 0 (N.getD 2 0 % 8)) (l' := dN N (qF M)) ?_ hm) rfl
    rw [dN_if, if_pos h1, if_neg h2]; rfl
  · rename_i h1 h2
    have h1 : ¬ N.getD 0 0 % 256 > IntKind.i64.wrap (Int.tdiv ((over (List.replicate (IntKind.i64.wrap (IntKind.i64.wrap (Int.tdiv (M.length : Int) 256) * 256)).toNat 0) M 0).length : Int) 256) := h1
    have h2 : N.getD 2 0 % 8 > 4 := h2
    rw [hm, hqi] at h1
    refine .mk [] [1, 2] _ rfl rfl rfl rfl rfl (blk2_eq (l := dL N (N.getD 0 0 % 256) 0) (l' := dN N (qF M)) ?_ hm) rfl
    rw [dN_if, if_neg h1, if_pos h2]; rfl
  · rename_i h1 h2
    have h1 : ¬ N.getD 0 0 % 256 > IntKind.i64.wrap (Int.tdiv ((over (List.replicate (IntKind.i64.wrap (IntKind.i64.wrap (Int.tdiv (M.length : Int) 256) * 256)).toNat 0) M 0).length : Int) 256) := h1
    have h2 : ¬ N.getD 2 0 % 8 > 4 := h2
    rw [hm, hqi] at h1
    refine .mk [] [1, 2] _ rfl rfl rfl rfl rfl (blk2_eq (l := dL N (N.getD 0 0 % 256) (N.getD 2 0 % 8)) (l' := dN N (qF M)) ?_ hm) rfl
    rw [dN_if, if_neg h1, if_neg h2]; rfl

def dnewS : PSpec := ⟨[gb], fun (b, _) => (some (List.length b ≤ 140737488355328), .agg [.own 0, .own 1], [.arr (.int .i64) [0, 0, 0, 0, 0, 0, 0, 0, 0, 0], .arr (.int .u8) (dM b)])⟩
theorem dnew_ok : GoodF Tryz.prog 115 dnewS.spec := by
  have hT := tab_ok (fs := []) tree_ok
  have hP : SpecsOk Tryz.prog (tab tree []) := specs_nil
  refine dnewS.good (fn := Tryz.f115) hT hP Tryz.func115 (by kernel_rfl) rfl fun (M : List Int) hp => ?_
  have hp : M.length ≤ 140737488355328 := hp _ rfl
  have hq := qF_int M hp
  have hq2 := qF_le M
  repeat' first
    | (refine Go.mk ?_; conv => whnf)
    | refine Need.go ?_ ?_
    | refine NilG.go (fun _ => ?_) (fun _ => ?_)
    | refine Br.dec (fun _ => ?_) (fun _ => ?_)
    | refine Br.go (fun _ => ?_) (fun _ => ?_)
    | refine draw_go hT hP mixed ?_
    | refine round_go hT hP ?_
  all_goals first
    | exact of_decide_eq_true rfl
    | skip
  · have e : ty5.bytes = 1 := rfl
    rw [e, hq]
    omega
  · have hm : over (List.replicate (IntKind.i64.wrap (IntKind.i64.wrap (Int.tdiv (M.length : Int) 256) * 256)).toNat 0) M 0 = dM M := by
      rw [hq]; exact over_take M hq2
    exact .mk [] [2, 1] _ rfl rfl rfl rfl rfl (blk2_eq (l := [0, 0, 0, 0, 0, 0, 0, 0, 0, 0]) rfl hm) rfl

def busyS : PSpec := ⟨[gl], fun (n, _) => (some (2 < List.length n), I (imin 1 (List.getD n 2 0)), [])⟩
theorem busy_ok : GoodF Tryz.prog 236 busyS.spec := by
  have hT := tab_ok (fs := []) tree_ok
  have hP : SpecsOk Tryz.prog (tab tree []) := specs_nil
  refine busyS.good (fn := Tryz.f236) hT hP Tryz.func236 (by kernel_rfl) rfl fun (n : List Int) hp => ?_
  have hp : 2 < n.length := hp _ rfl
  repeat' first
    | (refine Go.mk ?_; conv => whnf)
    | refine Need.go ?_ ?_
    | refine NilG.go (fun _ => ?_) (fun _ => ?_)
    | refine Br.dec (fun _ => ?_) (fun _ => ?_)
    | refine Br.go (fun _ => ?_) (fun _ => ?_)
    | refine draw_go hT hP mixed ?_
    | refine round_go hT hP ?_
  · omega
  · exact .mk [] [] _ rfl rfl rfl rfl rfl rfl rfl

end Go.Proofs.YtofgbclopbmlcaaGreat

/- A contract by cases: one of two contracts for each argument. -/
namespace Go.Fw
set_option linter.unusedVariables false
set_option linter.unusedSimpArgs false

theorem GoodF.cases {P : Program} {f : Nat} {gs : List Sig} {o o1 o2 : Args gs → Option Prop × AV × List Blk} (h1 : GoodF P f (PSpec.spec ⟨gs, o1⟩)) (h2 : GoodF P f (PSpec.spec ⟨gs, o2⟩))
    (h : ∀ xs, (∀ q, (o xs).1 = some q → q) → ((∀ q, (o1 xs).1 = some q → q) ∧ (o1 xs).2 = (o xs).2) ∨ ((∀ q, (o2 xs).1 = some q → q) ∧ (o2 xs).2 = (o xs).2)) : GoodF P f (PSpec.spec ⟨gs, o⟩) := by
  refine ⟨?_, h1.2⟩
  intro E0 vs args bl p r upd fresh hH hU hok hvs hrun hp
  unfold PSpec.spec at hrun
  simp only at hrun
  split at hrun
  · split at hrun
    · rename_i xs hxs
      simp only [Option.some.injEq, Prod.mk.injEq] at hrun
      obtain ⟨rfl, rfl, rfl, rfl⟩ := hrun
      have run : ∀ o' : Args gs → Option Prop × AV × List Blk, (o' xs).2 = (o xs).2 → (PSpec.spec ⟨gs, o'⟩).run args [] = some ((o' xs).1, (o xs).2.1, [], (o xs).2.2) := by
        intro o' he
        unfold PSpec.spec
        simp only [hxs, he]
      rcases h xs hp with ⟨hp', he⟩ | ⟨hp', he⟩
      · exact h1.1 E0 vs args [] _ _ _ _ hH hU hok hvs (run o1 he) hp'
      · exact h2.1 E0 vs args [] _ _ _ _ hH hU hok hvs (run o2 he) hp'
    · cases hrun
  · cases hrun

/-- the same contract with a result that says less -/
theorem GoodF.map {P : Program} {f : Nat} {gs : List Sig} {o o' : Args gs → Option Prop × AV × List Blk} (h1 : GoodF P f (PSpec.spec ⟨gs, o⟩))
    (h : ∀ xs, (∀ q, (o' xs).1 = some q → q) → (∀ q, (o xs).1 = some q → q) ∧ (o xs).2.2 = (o' xs).2.2 ∧ ∀ E v, AVR E (o xs).2.1 v → AVR E (o' xs).2.1 v) : GoodF P f (PSpec.spec ⟨gs, o'⟩) := by
  refine ⟨?_, h1.2⟩
  intro E0 vs args bl p r upd fresh hH hU hok hvs hrun hp
  unfold PSpec.spec at hrun
  simp only at hrun
  split at hrun
  · split at hrun
    · rename_i xs hxs
      simp only [Option.some.injEq, Prod.mk.injEq] at hrun
      obtain ⟨rfl, rfl, rfl, rfl⟩ := hrun
      obtain ⟨k1, k2, k3⟩ := h xs hp
      have run : (PSpec.spec ⟨gs, o⟩).run args [] = some ((o xs).1, (o xs).2.1, [], (o' xs).2.2) := by
        unfold PSpec.spec
        simp only [hxs, k2]
      refine (h1.1 E0 vs args [] _ _ _ _ hH hU hok hvs run k1).mono ?_
      rintro e w' ⟨v, E', he, hw, hb⟩
      exact ⟨v, E', he, hw, k3 E' v hb.val, hb.ok, hb.H, hb.U, hb.ext, hb.fr⟩
    · cases hrun
  · cases hrun

/-- a nil slice of a result, taken for one of one's own -/
theorem GoodF.nil {P : Program} {f : Nat} {gs : List Sig} {o o' : Args gs → Option Prop × AV × List Blk} (t : Ty) (h1 : GoodF P f (PSpec.spec ⟨gs, o⟩))
    (h : ∀ xs, (∀ q, (o' xs).1 = some q → q) → (∀ q, (o xs).1 = some q → q) ∧ noA (o xs).2.2.length (o xs).2.1 = some (o' xs).2.1 ∧ (o xs).2.2 ++ [.arr t []] = (o' xs).2.2) : GoodF P f (PSpec.spec ⟨gs, o'⟩) := by
  refine ⟨?_, h1.2⟩
  intro E0 vs args bl p r upd fresh hH hU hok hvs hrun hp
  unfold PSpec.spec at hrun
  simp only at hrun
  split at hrun
  · split at hrun
    · rename_i xs hxs
      simp only [Option.some.injEq, Prod.mk.injEq] at hrun
      obtain ⟨rfl, rfl, rfl, rfl⟩ := hrun
      obtain ⟨k1, k2, k3⟩ := h xs hp
      have run : (PSpec.spec ⟨gs, o⟩).run args [] = some ((o xs).1, (o xs).2.1, [], (o xs).2.2) := by
        unfold PSpec.spec
        simp only [hxs]
      refine (h1.1 E0 vs args [] _ _ _ _ hH hU hok hvs run k1).mono ?_
      rintro e w' ⟨v, E', he, hw, hb⟩
      have := Back.nil hb t (r := (o' xs).2.1) (by simpa using k2)
      rw [k3] at this
      exact ⟨v, nilE E' [] _ t, he, hw, this⟩
    · cases hrun
  · cases hrun

/-- results that say the same, but for nil slices taken for one's own -/
inductive Conv : AV × List Blk → AV × List Blk → Prop where
  | refl {x : AV × List Blk} : Conv x x
  | nil {r r2 : AV} {fr : List Blk} {y : AV × List Blk} (t : Ty) (h : noA fr.length r = some r2) (h2 : Conv (r2, fr ++ [.arr t []]) y) : Conv (r, fr) y
theorem Back.conv {E0 : Env} {upd : List (Option Blk)} {x y : AV × List Blk} (h : Conv x y) : ∀ {E : Env} {v : Value}, Back E0 0 x.1 upd x.2 v E → ∃ E', E'.w = E.w ∧ Back E0 0 y.1 upd y.2 v E' := by
  induction h with
  | refl => intro E v hb; exact ⟨E, rfl, hb⟩
  | nil t h h2 ih =>
    intro E v hb
    obtain ⟨E', e, hb'⟩ := ih (Back.nil hb t (by simpa using h))
    exact ⟨E', e, hb'⟩
/-- for each argument one of several contracts -/
theorem GoodF.sel {P : Program} {f : Nat} {s0 : CSpec} {gs : List Sig} {o : Args gs → Option Prop × AV × List Blk} (h0 : GoodF P f s0)
    (h : ∀ xs, (∀ q, (o xs).1 = some q → q) → ∃ o1 : Args gs → Option Prop × AV × List Blk, GoodF P f (PSpec.spec ⟨gs, o1⟩) ∧ (∀ q, (o1 xs).1 = some q → q) ∧ Conv (o1 xs).2 (o xs).2) : GoodF P f (PSpec.spec ⟨gs, o⟩) := by
  refine ⟨?_, h0.2⟩
  intro E0 vs args bl p r upd fresh hH hU hok hvs hrun hp
  unfold PSpec.spec at hrun
  simp only at hrun
  split at hrun
  · split at hrun
    · rename_i xs hxs
      simp only [Option.some.injEq, Prod.mk.injEq] at hrun
      obtain ⟨rfl, rfl, rfl, rfl⟩ := hrun
      obtain ⟨o1, g1, k1, k2⟩ := h xs hp
      have run : (PSpec.spec ⟨gs, o1⟩).run args [] = some ((o1 xs).1, (o1 xs).2.1, [], (o1 xs).2.2) := by
        unfold PSpec.spec
        simp only [hxs]
      refine (g1.1 E0 vs args [] _ _ _ _ hH hU hok hvs run k1).mono ?_
      rintro e w' ⟨v, E', he, hw, hb⟩
      obtain ⟨E2, e2, hb2⟩ := Back.conv k2 hb
      exact ⟨v, E2, he, e2.trans hw, hb2⟩
    · cases hrun
  · cases hrun

end Go.Fw



/- bakelaw1.DriveActs answers true, whatever it is given. -/
namespace Go.Proofs.YtofgbclopbmlcaaGreat
open Go.Fw
set_option linter.unusedVariables false
set_option linter.unusedSimpArgs false
set_option maxRecDepth 100000

abbrev e0 (N : List Int) (q : Nat) : Int := if N.getD 0 0 % 256 > q then 0 else N.getD 0 0 % 256
abbrev e1 (N : List Int) : Int := N.getD 1 0 % 4
abbrev e2 (N : List Int) : Int := if N.getD 2 0 % 8 > 4 then 0 else N.getD 2 0 % 8
abbrev e3 (N : List Int) : Int := N.getD 3 0 % 4
abbrev e4 (N : List Int) : Int := N.getD 4 0 % 16
abbrev e5 (N : List Int) : Int := N.getD 5 0 % 64
abbrev e6 (N : List Int) : Int := N.getD 6 0 % 256
abbrev e7 (N : List Int) : Int := N.getD 7 0 % 2
abbrev e8 (N : List Int) : Int := N.getD 8 0 % 2
abbrev e9 (N : List Int) : Int := N.getD 9 0 % 2
theorem dN_eq (N : List Int) (q : Nat) : dN N q = [e0 N q, e1 N, e2 N, e3 N, e4 N, e5 N, e6 N, e7 N, e8 N, e9 N] := rfl
theorem eR (N : List Int) (q : Nat) : (0 ≤ e0 N q ∧ e0 N q < 256) ∧ (0 ≤ e1 N ∧ e1 N < 4) ∧ (0 ≤ e2 N ∧ e2 N ≤ 4) ∧ (0 ≤ e3 N ∧ e3 N < 4) ∧ (0 ≤ e4 N ∧ e4 N < 16) ∧ (0 ≤ e5 N ∧ e5 N < 64) ∧ (0 ≤ e6 N ∧ e6 N < 256) ∧ (0 ≤ e7 N ∧ e7 N < 2) ∧ (0 ≤ e8 N ∧ e8 N < 2) ∧ (0 ≤ e9 N ∧ e9 N < 2) := by
  unfold e0 e1 e2 e3 e4 e5 e6 e7 e8 e9
  refine ⟨?_, ?_, ?_, ?_, ?_, ?_, ?_, ?_, ?_, ?_⟩
  · split <;> omega
  · omega
  · split <;> omega
  all_goals omega

theorem or_bits4 (b : Bool) (f o : Int) (z : Bool) (h7 : 0 ≤ f ∧ f < 2) (h8 : 0 ≤ o ∧ o < 2) : lor .i64 (lor .i64 (lor .i64 (bitI b) (shl .i64 f 1)) (shl .i64 o 2)) (8 * bitI z) = bitI b + 2 * f + 4 * o + 8 * bitI z := by
  have a1 : f = 0 ∨ f = 1 := by omega
  have a2 : o = 0 ∨ o = 1 := by omega
  rcases a1 with rfl | rfl <;> rcases a2 with rfl | rfl <;> cases b <;> cases z <;> decide +kernel
theorem imin_bit {x : Int} (h : 0 ≤ x) : imin 1 x = bitI (decide (x > 0)) := by
  rw [imin_eq]
  by_cases hx : x > 0
  · rw [decide_eq_true hx]; show min 1 x = 1; omega
  · rw [decide_eq_false hx]; show min 1 x = 0; omega
def drF (N : List Int) (q : Nat) (a : Int) : Int := pickF [bitI (decide (e2 N > 0)) + 2 * e7 N + 4 * e8 N + 8 * bitI (decide (e0 N q = 0)), e6 N, e1 N, e9 N] a
def drN (N : List Int) (q : Nat) (a : Int) : List Int := [e0 N q, e1 N, e2 N, e3 N, e4 N, e5 N, e6 N, if a = 1 ∧ ¬ e2 N = 4 then 0 else e7 N, if a = 0 then 0 else e8 N, e9 N]
def dreadS : PSpec := ⟨[gD, gi], fun (d, a, _) => (some (List.length d.2 ≤ 140737488355328), .tup [.agg [.own 0, .own 1], I1 (drF d.1 (qF d.2) a)], [.arr (.int .i64) (drN d.1 (qF d.2) a), .arr (.int .u8) (dM d.2)])⟩
theorem dread_ok : GoodF Tryz.prog 178 dreadS.spec := by
  have hT := tab_ok (fs := [(204, dfitS.spec), (236, busyS.spec)]) tree_ok
  have hP : SpecsOk Tryz.prog (tab tree [(204, dfitS.spec), (236, busyS.spec)]) := specs_cons dfit_ok (specs_cons busy_ok specs_nil)
  refine dreadS.good (fn := Tryz.f178) hT hP Tryz.func178 (by kernel_rfl) rfl fun (d : Dv) (a : Int) hp => ?_
  obtain ⟨N, M⟩ := d
  have hl : M.length ≤ 140737488355328 := hp _ rfl
  obtain ⟨r0, r1, r2, r3, r4, r5, r6, r7, r8, r9⟩ := eR N (qF M)
  have hor := or_bits4 (decide (e2 N > 0)) (e7 N) (e8 N) (decide (e0 N (qF M) = 0)) r7 r8
  rw [← imin_bit r2.1] at hor
  repeat' first
    | (refine Go.mk ?_; conv => whnf)
    | refine Need.go ?_ ?_
    | refine NilG.go (fun _ => ?_) (fun _ => ?_)
    | refine Br.dec (fun _ => ?_) (fun _ => ?_)
    | refine Br.go (fun _ => ?_) (fun _ => ?_)
    | refine draw_go hT hP mixed ?_
    | refine round_go hT hP ?_
  all_goals (try subst_vars)
  all_goals first
    | exact rfl
    | exact hl
    | exact of_decide_eq_true rfl
    | exact .mk [] [2, 3] _ rfl rfl rfl rfl rfl rfl rfl
    | skip
  · rename_i h
    have h : e0 N (qF M) = 0 := h
    refine .mk [] [2, 3] _ rfl rfl rfl rfl rfl rfl (tup_r2 ?_)
    show lor .i64 (lor .i64 (lor .i64 (imin 1 (e2 N)) (shl .i64 (e7 N) 1)) (shl .i64 (e8 N) 2)) 8 = bitI (decide (e2 N > 0)) + 2 * e7 N + 4 * e8 N + 8 * bitI (decide (e0 N (qF M) = 0))
    rw [← imin_bit r2.1]
    rw [decide_eq_true h] at hor ⊢
    exact hor
  · rename_i h
    have h : ¬ e0 N (qF M) = 0 := h
    refine .mk [] [2, 3] _ rfl rfl rfl rfl rfl rfl (tup_r2 ?_)
    show lor .i64 (lor .i64 (lor .i64 (imin 1 (e2 N)) (shl .i64 (e7 N) 1)) (shl .i64 (e8 N) 2)) 0 = bitI (decide (e2 N > 0)) + 2 * e7 N + 4 * e8 N + 8 * bitI (decide (e0 N (qF M) = 0))
    rw [← imin_bit r2.1]
    rw [decide_eq_false h] at hor ⊢
    exact hor
  · rename_i h _
    have h : (e2 N != 4) = true := h
    have h : ¬ e2 N = 4 := by simpa using h
    refine .mk [] [2, 3] _ rfl rfl rfl rfl rfl (blk2_eq (l := [e0 N (qF M), e1 N, e2 N, e3 N, e4 N, e5 N, e6 N, 0, e8 N, e9 N]) (l' := drN N (qF M) 1) ?_ rfl) rfl
    rw [drN, if_pos ⟨rfl, h⟩]; rfl
  · rename_i h _
    have h : (e2 N != 4) = false := h
    have h : e2 N = 4 := by simpa using h
    refine .mk [] [2, 3] _ rfl rfl rfl rfl rfl (blk2_eq (l := dN N (qF M)) (l' := drN N (qF M) 1) ?_ rfl) rfl
    rw [dN_eq, drN, if_neg (fun z => z.2 h)]; rfl
  · rename_i g0 g1 g2 g3
    have e : drF N (qF M) a = 0 := pick_no fun i hi => by
      have : i < 4 := hi
      omega
    refine .mk [] [2, 3] _ rfl rfl rfl rfl rfl (blk2_eq (l := dN N (qF M)) (l' := drN N (qF M) a) ?_ rfl) (tup_r2 e.symm)
    rw [dN_eq, drN, if_neg (fun z => g1 z.1), if_neg g0]

def beginF (n : List Int) (k : Int) : List Int :=
  if n.getD 2 0 > 0 ∨ k % 16 = 0 ∨ k % 16 > 4 ∨ (k % 16 > 2 ∧ n.getD 0 0 = 0) then n
  else ((((n.set 2 (k % 16)).set 3 (k / 16 % 4)).set 4 0).set 5 30).set 7 (bitI (decide (k % 16 = 4)))
theorem set_twice (n : List Int) (i : Nat) (x y : Int) : (n.set i x).set i y = n.set i y := by simp
theorem byte_ops {k : Int} (h : 0 ≤ k ∧ k < 256) : land .i64 k 15 = k % 16 ∧ land .i64 (shr .i64 k 4) 3 = k / 16 % 4 := by
  have all : ∀ n, n < 256 → land .i64 ((n : Nat) : Int) 15 = ((n : Nat) : Int) % 16 ∧ land .i64 (shr .i64 ((n : Nat) : Int) 4) 3 = ((n : Nat) : Int) / 16 % 4 := by decide +kernel
  obtain ⟨n, rfl⟩ := Int.eq_ofNat_of_zero_le h.1
  exact all n (by omega)
theorem begin_no {n : List Int} {k : Int} (h : n.getD 2 0 > 0 ∨ k % 16 = 0 ∨ k % 16 > 4 ∨ (k % 16 > 2 ∧ n.getD 0 0 = 0)) : beginF n k = n := by rw [beginF, if_pos h]
theorem begin_yes {n : List Int} {k : Int} (h : ¬ (n.getD 2 0 > 0 ∨ k % 16 = 0 ∨ k % 16 > 4 ∨ (k % 16 > 2 ∧ n.getD 0 0 = 0))) : beginF n k = ((((n.set 2 (k % 16)).set 3 (k / 16 % 4)).set 4 0).set 5 30).set 7 (bitI (decide (k % 16 = 4))) := by rw [beginF, if_neg h]
def beginS : WSpec := ⟨List Int × Int, fun x => [.c (.own 0), I1 x.2], fun x => [.arr (.int .i64) x.1], fun a b => (match a, b with | [.c (.own 0), .c (.imm (.int .i64 k))], [.arr (.int .i64) n] => some (n, k) | _, _ => none),
  fun x => (some (x.1.length = 10 ∧ 0 ≤ x.1.getD 2 0 ∧ 0 ≤ x.2 ∧ x.2 < 256), .tup [], [some (.arr (.int .i64) (beginF x.1 x.2))], [])⟩
theorem begin_ok : GoodF Tryz.prog 238 beginS.spec := by
  have hT := tab_ok (fs := []) tree_ok
  have hP : SpecsOk Tryz.prog (tab tree []) := specs_nil
  refine beginS.good (fn := Tryz.f238) hT hP Tryz.func238 (by kernel_rfl) rfl ?_ fun ((n, k) : List Int × Int) hp => ?_
  · intro a b x h
    simp only [beginS] at h
    split at h
    · injection h with h; subst h; exact ⟨rfl, rfl⟩
    · cases h
  obtain ⟨hl, h2, hk⟩ : n.length = 10 ∧ 0 ≤ n.getD 2 0 ∧ 0 ≤ k ∧ k < 256 := hp _ rfl
  obtain ⟨b1, b2⟩ := byte_ops hk
  repeat' first
    | (refine Go.mk ?_; conv => whnf)
    | refine Need.go ?_ ?_
    | refine NilG.go (fun _ => ?_) (fun _ => ?_)
    | refine Br.dec (fun _ => ?_) (fun _ => ?_)
    | refine Br.go (fun _ => ?_) (fun _ => ?_)
    | refine draw_go hT hP mixed ?_
    | refine round_go hT hP ?_
  all_goals first
    | (dsimp only at *; simp only [List.length_set, hl]; decide)
    | skip
  · rename_i g2
    have g2 : n.getD 2 0 > 0 := g2
    refine .mk [] [0] _ rfl rfl rfl rfl rfl (blk_eqs (l := n) (l' := beginF n k) ?_) rfl
    exact (begin_no (.inl g2)).symm
  · rename_i g2 g3
    have g2 : ¬ n.getD 2 0 > 0 := g2
    have g3 : land .i64 k 15 < 1 := g3; rw [b1] at g3
    refine .mk [] [0] _ rfl rfl rfl rfl rfl (blk_eqs (l := n) (l' := beginF n k) ?_) rfl
    exact (begin_no (by omega)).symm
  · rename_i g2 g3 g4
    have g2 : ¬ n.getD 2 0 > 0 := g2
    have g3 : ¬ land .i64 k 15 < 1 := g3; rw [b1] at g3
    have g4 : land .i64 k 15 > 4 := g4; rw [b1] at g4
    refine .mk [] [0] _ rfl rfl rfl rfl rfl (blk_eqs (l := n) (l' := beginF n k) ?_) rfl
    exact (begin_no (by omega)).symm
  · rename_i g2 g3 g4 g5 g6
    have g2 : ¬ n.getD 2 0 > 0 := g2
    have g3 : ¬ land .i64 k 15 < 1 := g3; rw [b1] at g3
    have g4 : ¬ land .i64 k 15 > 4 := g4; rw [b1] at g4
    have g5 : land .i64 k 15 ≥ 3 := g5; rw [b1] at g5
    have g6 : n.getD 0 0 = 0 := g6
    refine .mk [] [0] _ rfl rfl rfl rfl rfl (blk_eqs (l := n) (l' := beginF n k) ?_) rfl
    exact (begin_no (by omega)).symm
  · decide
  · rename_i g2 g3 g4 g5 g6 g7
    have g2 : ¬ n.getD 2 0 > 0 := g2
    have g3 : ¬ land .i64 k 15 < 1 := g3; rw [b1] at g3
    have g4 : ¬ land .i64 k 15 > 4 := g4; rw [b1] at g4
    have g5 : land .i64 k 15 ≥ 3 := g5; rw [b1] at g5
    have g6 : ¬ n.getD 0 0 = 0 := g6
    have g7 : land .i64 k 15 = 4 := g7; rw [b1] at g7
    refine .mk [] [0] _ rfl rfl rfl rfl rfl (blk_eqs (l := ((((((n.set 2 (land .i64 k 15)).set 3 (land .i64 (shr .i64 k 4) 3)).set 4 0).set 5 30)).set 7 0).set 7 1) (l' := beginF n k) ?_) rfl
    rw [begin_yes (by omega), b1, b2, decide_eq_true g7, set_twice]; rfl
  · rename_i g2 g3 g4 g5 g6 g7
    have g2 : ¬ n.getD 2 0 > 0 := g2
    have g3 : ¬ land .i64 k 15 < 1 := g3; rw [b1] at g3
    have g4 : ¬ land .i64 k 15 > 4 := g4; rw [b1] at g4
    have g5 : land .i64 k 15 ≥ 3 := g5; rw [b1] at g5
    have g6 : ¬ n.getD 0 0 = 0 := g6
    have g7 : ¬ land .i64 k 15 = 4 := g7; rw [b1] at g7
    refine .mk [] [0] _ rfl rfl rfl rfl rfl (blk_eqs (l := (((((n.set 2 (land .i64 k 15)).set 3 (land .i64 (shr .i64 k 4) 3)).set 4 0).set 5 30)).set 7 0) (l' := beginF n k) ?_) rfl
    rw [begin_yes (by omega), b1, b2, decide_eq_false g7]; rfl
  · decide
  · rename_i g2 g3 g4 g5 g7
    have g2 : ¬ n.getD 2 0 > 0 := g2
    have g3 : ¬ land .i64 k 15 < 1 := g3; rw [b1] at g3
    have g4 : ¬ land .i64 k 15 > 4 := g4; rw [b1] at g4
    have g5 : ¬ land .i64 k 15 ≥ 3 := g5; rw [b1] at g5
    have g7 : land .i64 k 15 = 4 := g7; rw [b1] at g7
    refine .mk [] [0] _ rfl rfl rfl rfl rfl (blk_eqs (l := ((((((n.set 2 (land .i64 k 15)).set 3 (land .i64 (shr .i64 k 4) 3)).set 4 0).set 5 30)).set 7 0).set 7 1) (l' := beginF n k) ?_) rfl
    rw [begin_yes (by omega), b1, b2, decide_eq_true g7, set_twice]; rfl
  · rename_i g2 g3 g4 g5 g7
    have g2 : ¬ n.getD 2 0 > 0 := g2
    have g3 : ¬ land .i64 k 15 < 1 := g3; rw [b1] at g3
    have g4 : ¬ land .i64 k 15 > 4 := g4; rw [b1] at g4
    have g5 : ¬ land .i64 k 15 ≥ 3 := g5; rw [b1] at g5
    have g7 : ¬ land .i64 k 15 = 4 := g7; rw [b1] at g7
    refine .mk [] [0] _ rfl rfl rfl rfl rfl (blk_eqs (l := (((((n.set 2 (land .i64 k 15)).set 3 (land .i64 (shr .i64 k 4) 3)).set 4 0).set 5 30)).set 7 0) (l' := beginF n k) ?_) rfl
    rw [begin_yes (by omega), b1, b2, decide_eq_false g7]; rfl

def commandF (n : List Int) (a k : Int) : List Int :=
  if a = 0 then beginF n k else if a = 1 then (if n.getD 2 0 = 4 then (n.set 6 k).set 7 0 else n.set 6 k) else if a = 3 then n.set 9 (k % 2) else n
def dwN (N : List Int) (q : Nat) (a k : Int) : List Int := commandF (dN N q) a (k % 256)
def dwriteS : PSpec := ⟨[gD, gi, gi], fun (d, a, k, _) => (some (List.length d.2 ≤ 140737488355328), .agg [.own 0, .own 1], [.arr (.int .i64) (dwN d.1 (qF d.2) a k), .arr (.int .u8) (dM d.2)])⟩
theorem dwrite_ok : GoodF Tryz.prog 185 dwriteS.spec := by
  have hT := tab_ok (fs := [(204, dfitS.spec), (238, beginS.spec), (94, lowM.spec)]) tree_ok
  have hP : SpecsOk Tryz.prog (tab tree [(204, dfitS.spec), (238, beginS.spec), (94, lowM.spec)]) := specs_cons dfit_ok (specs_cons begin_ok (specs_cons lowM_ok specs_nil))
  refine dwriteS.good (fn := Tryz.f185) hT hP Tryz.func185 (by kernel_rfl) rfl fun (d : Dv) (a k : Int) hp => ?_
  obtain ⟨N, M⟩ := d
  have hl : M.length ≤ 140737488355328 := hp _ rfl
  obtain ⟨r0, r1, r2, r3, r4, r5, r6, r7, r8, r9⟩ := eR N (qF M)
  repeat' first
    | (refine Go.mk ?_; conv => whnf)
    | refine Need.go ?_ ?_
    | refine NilG.go (fun _ => ?_) (fun _ => ?_)
    | refine Br.dec (fun _ => ?_) (fun _ => ?_)
    | refine Br.go (fun _ => ?_) (fun _ => ?_)
    | refine draw_go hT hP mixed ?_
    | refine round_go hT hP ?_
  all_goals (try subst_vars)
  all_goals first
    | exact rfl
    | exact hl
    | exact of_decide_eq_true rfl
    | exact .mk [] [2, 3] _ rfl rfl rfl rfl rfl rfl rfl
    | skip
  · refine ⟨rfl, r2.1, ?_, ?_⟩
    · exact (by omega : 0 ≤ k % 256)
    · exact (by omega : k % 256 < 256)
  · rename_i h _
    have h : (dN N (qF M)).getD 2 0 = 4 := h
    refine .mk [] [2, 3] _ rfl rfl rfl rfl rfl (blk2_eq (l := ((dN N (qF M)).set 6 (k % 256)).set 7 0) (l' := dwN N (qF M) 1 k) ?_ rfl) rfl
    rw [dwN, commandF, if_neg (by omega), if_pos rfl, if_pos h]
  · rename_i h _
    have h : ¬ (dN N (qF M)).getD 2 0 = 4 := h
    refine .mk [] [2, 3] _ rfl rfl rfl rfl rfl (blk2_eq (l := (dN N (qF M)).set 6 (k % 256)) (l' := dwN N (qF M) 1 k) ?_ rfl) rfl
    rw [dwN, commandF, if_neg (by omega), if_pos rfl, if_neg h]
  · refine .mk [] [2, 3] _ rfl rfl rfl rfl rfl (blk2_eq (l := (dN N (qF M)).set 9 (k % 2 ^ (1 : Int).toNat)) (l' := dwN N (qF M) 3 k) ?_ rfl) rfl
    rw [dwN, commandF, if_neg (by omega), if_neg (by omega), if_pos rfl]
    have e : k % 256 % 2 = k % 2 := by omega
    rw [e]; rfl
  · rename_i g0 g1 g2
    refine .mk [] [2, 3] _ rfl rfl rfl rfl rfl (blk2_eq (l := dN N (qF M)) (l' := dwN N (qF M) a k) ?_ rfl) rfl
    rw [dwN, commandF, if_neg g0, if_neg g1, if_neg g2]

end Go.Proofs.YtofgbclopbmlcaaGreat

/- The functions of package bit that add, and bakelaw1.bits. -/
namespace Go.Proofs.YtofgbclopbmlcaaGreat
open Go.Fw
set_option linter.unusedVariables false
set_option linter.unusedSimpArgs false
set_option maxRecDepth 100000

def addF (a b c n : Int) : Int × Int :=
  let s := IntKind.i64.wrap (IntKind.i64.wrap (lowF a (widthF n) + lowF b (widthF n)) + land .i64 c 1)
  (lowF s (widthF n), shr .i64 s (widthF n))
end Go.Proofs.YtofgbclopbmlcaaGreat



/- More weakening: a nil slice taken for data; loops that count upwards. -/
namespace Go.Fw
set_option linter.unusedVariables false
set_option linter.unusedSimpArgs false

theorem setAt_same {α : Type} : ∀ (l : List (Option Blk)) (b : Nat) (o : Option Blk) (j : Nat), b < l.length → (setAt l b o)[j]? = if j = b then some o else l[j]?
  | _ :: r, 0, o, j, _ => by cases j <;> simp [setAt]
  | x :: r, b + 1, o, j, h => by
    cases j with
    | zero => simp [setAt]
    | succ j =>
      have := setAt_same (α := α) r b o j (by simpa using h)
      simpa [setAt] using this
theorem setAt_len : ∀ (l : List (Option Blk)) (b : Nat) (o : Option Blk), b < l.length → (setAt l b o).length = l.length
  | _ :: r, 0, o, _ => by simp [setAt]
  | x :: r, b + 1, o, h => by simpa [setAt] using setAt_len r b o (by simpa using h)

section
variable {P : Program} {T : Tab}
/-- a loop that counts upwards to n -/
theorem up_go (hT : TabOk P T) (hP : SpecsOk P T) {A : Type} {m : Nat} {c : Code} {st : St} {K : Cont} (n : Nat) (S : Int → A → St) (I : Nat → A → Prop) (a0 : A) (h0 : Le m st (S 0 a0)) (hI : I 0 a0)
    (h : ∀ (k : Nat) a, k ≤ n → I k a → Go (fState (S (k : Int) a) fun st => exR P T m c st fun e st' => match e with | .normal => ∃ i' a', (k < n ∧ i' = ((k + 1 : Nat) : Int) ∧ I (k + 1) a') ∧ Le m st' (S i' a') | e => K e st')) : LoopG P m c st K := by
  refine loop_rule (X := Nat × A) (fun x => S (x.1 : Int) x.2) (fun x => x.1 ≤ n ∧ I x.1 x.2) (fun x => n - x.1) (0, a0) h0 ⟨Nat.zero_le _, hI⟩ fun x hx => ?_
  refine Does.mono (does_go hT hP (h x.1 x.2 hx.1 hx.2)) fun e st' hk => ?_
  cases e with
  | normal =>
    obtain ⟨i', a', ⟨hlt, e, hi⟩, hle⟩ := hk
    subst e
    exact ⟨(x.1 + 1, a'), ⟨hlt, hi⟩, by show n - (x.1 + 1) < n - x.1; omega, hle⟩
  | _ => exact hk
end
end Go.Fw

/- Contracts of functions that only read and are handed a function, last of all. -/
namespace Go.Fw
set_option linter.unusedVariables false
set_option linter.unusedSimpArgs false

structure FSpec where
  gs : List Sig
  out : Args gs → Nat → Option Prop × AV × List Blk

def decF : (gs : List Sig) → List V1 → Option (Args gs × Nat)
  | [], l => match l with
    | [.c (.fn g [])] => some ((), g)
    | _ => none
  | g :: gs, l => match l with
    | x :: xs => match decV g x with
      | some d => (match decF gs xs with | some (r, f) => some ((d, r), f) | none => none)
      | none => none
    | [] => none
def canonF (f : Nat) : (gs : List Sig) → Args gs → List V1
  | [], _ => [.c (.fn f [])]
  | g :: gs, (a, r) => canonV g a :: canonF f gs r

def FSpec.spec (s : FSpec) : CSpec := { wr := false, run := fun args bl => match bl with
  | [] => match decF s.gs args with
    | some (xs, f) => some ((s.out xs f).1, (s.out xs f).2.1, [], (s.out xs f).2.2)
    | none => none
  | _ :: _ => none }

theorem decF_rel {E : Env} (hH : HeapOk E) (hn : ∀ b, E.H b = none) : ∀ {gs : List Sig} {xs : List V1} {ds : Args gs} {f : Nat} {vs : List Value}, decF gs xs = some (ds, f) → VsR E xs vs → VsR E (canonF f gs ds) vs
  | [], xs, ds, f, vs, h, hv => by
    unfold decF at h
    split at h
    · injection h with h
      injection h with h1 h2
      subst h2
      exact hv
    · cases h
  | g :: gs, [], ds, f, vs, h, hv => by simp [decF] at h
  | g :: gs, x :: xs, ds, f, vs, h, ⟨v, r, e, h1, h2⟩ => by
    unfold decF at h
    simp only at h
    split at h
    · rename_i d hd
      split at h
      · rename_i rs f' hr
        injection h with h
        injection h with e1 e2
        subst e1
        subst e2
        exact ⟨v, r, e, decV_rel hH hn hd h1, decF_rel hH hn hr h2⟩
      · cases h
    · cases h

theorem FSpec.good {P : Program} {T : Tab} {f : FuncId} {fn : Func} (hT : TabOk P T) (hP : SpecsOk P T) (hf : P.funcs[f]? = some fn) (hn : (fn.name == "runtime.NumGoroutine") = false) (s : FSpec) (hb : fn.body.isSome = true)
    (h : AllArgs s.gs fun xs => ∀ g : Nat, (∀ q, (s.out xs g).1 = some q → q) → Go (startR P T fn (canonF g s.gs xs) [] (s.out xs g).2.1 [] (s.out xs g).2.2)) : GoodF P f s.spec := by
  refine ⟨?_, fn, hf, hn, hb⟩
  obtain ⟨c, hc⟩ := Option.isSome_iff_exists.1 hb
  refine fn_sound hT hf hc _ fun args bl p r upd fresh hrun hp => ?_
  unfold FSpec.spec at hrun
  simp only at hrun
  split at hrun
  · split at hrun
    · rename_i xs g hxs
      simp only [Option.some.injEq, Prod.mk.injEq] at hrun
      obtain ⟨rfl, rfl, rfl, rfl⟩ := hrun
      refine ⟨_, fun E vs hok hH hv => decF_rel hok (fun b => by rw [hH]; simp) hxs hv, ?_⟩
      have := (h.out xs g hp).out
      rw [startR_eq] at this
      unfold startC at this
      rw [hc] at this
      simp only [fV1s_eq, fBlks_eq, fSt_eq] at this
      exact ex_sound hT hP c this
    · cases hrun
  · cases hrun

/-- a nil slice in a variable becomes one of one's own -/
theorem Le.nilH {m : Nat} {st : St} (b : Nat) (t : Ty) (cs ds : List Cell) (h : st.heap[b]? = some (some (.var cs))) (hn : noCs st.heap.length cs = some ds) (hsz : ds.map Cell.size = cs.map Cell.size) :
    Le m st { tmps := st.tmps, heap := setAt (setAt st.heap st.heap.length (some (.arr t []))) b (some (.var ds)) } := by
  intro E0 E a hm hs hf
  have hlt : b < st.heap.length := (List.getElem?_eq_some_iff.1 h).1
  have hU : ¬ E.U st.heap.length := fun hu => by have := hs.U _ hu; omega
  have hstep : Step E { pre := none, val := .dead, add := [.arr t []], set := [] } st.heap.length (nilE E [] st.heap.length t) := Step.nil (us := []) hs.ok rfl rfl hU
  have hs1 := hs.step (dst := none) (v := undef) hstep trivial
  have hf1 := hf.step hstep
  have hlook : st.look b = some (.var cs) := by unfold St.look; rw [h]
  have hb : E.H b = some (.var cs) := (hs.H b).trans hlook
  have hne : b ≠ st.heap.length := by omega
  obtain ⟨hu, ⟨g, ca, el, hr, hw, hir⟩, hS⟩ := hs.ok.blk b _ hb
  have hb1 : (nilE E [] st.heap.length t).H b = some (.var cs) := by simp [nilE, hne, hb]
  have hr1 : (nilE E [] st.heap.length t).ρ b = some g := by simp [nilE, hne, hr]
  have hsh : shape (.var ds) = shape (.var cs) := by simp only [shape]; rw [hsz]
  have hwr : Writes (nilE E [] st.heap.length t) g ca ca el (nilE E [] st.heap.length t).w := ⟨hw, hw, rfl, fun _ _ => rfl, rfl, rfl, rfl, rfl⟩
  have hir1 := noCs_rel hstep.ext hn hir
  have hheap : (st.act st.heap.length { pre := none, val := .dead, add := [.arr t []], set := [] }).heap = setAt st.heap st.heap.length (some (.arr t [])) := rfl
  have hlen : b < (setAt st.heap st.heap.length (some (.arr t []))).length := by
    have := (len_addAll [.arr t []] st.heap st.heap.length).1
    exact Nat.lt_of_lt_of_le hlt this
  refine ⟨setE (nilE E [] st.heap.length t) b (.var ds) (nilE E [] st.heap.length t).w, rfl, ⟨hs1.defers, hs1.len, fun j y hy => ?_, setE_ok hs1.ok hb1 hr1 hsh hwr hir1, fun x => ?_, fun x hx => ?_⟩, ?_⟩
  · obtain ⟨v, h1, h2⟩ := hs1.tmp j y hy
    exact ⟨v, h1, h2.ext (setE_ext hs1.ok hb1 hr1 hsh hwr)⟩
  · show (if x = b then some (.var ds) else (nilE E [] st.heap.length t).H x) = St.look { tmps := st.tmps, heap := setAt (setAt st.heap st.heap.length (some (.arr t []))) b (some (.var ds)) } x
    unfold St.look
    rw [setAt_same (α := Nat) _ _ _ _ hlen]
    split
    · rfl
    · exact hs1.H x
  · have := hs1.U x hx
    show x < (setAt (setAt st.heap st.heap.length (some (.arr t []))) b (some (.var ds))).length
    rw [setAt_len _ _ _ hlen]
    exact this
  · exact ⟨setE_fr hs1.ok hb1 hr1 hwr hf1.fr, hf1.ext.trans (setE_ext hs1.ok hb1 hr1 hsh hwr)⟩

/-- a contract out of what a call gives that leaves the world as it was -/
theorem PSpec.of_calls {P : Program} {f : FuncId} {fn : Func} (hf : P.funcs[f]? = some fn) (hn : (fn.name == "runtime.NumGoroutine") = false) (hb : fn.body.isSome = true) (s : PSpec) (hfr : ∀ xs, (s.out xs).2.2 = [])
    (h : ∀ (E : Env) (xs : Args s.gs) (vs : Array Value), VsR E (canonArgs s.gs xs) vs.toList → (∀ q, (s.out xs).1 = some q → q) → Calls P f vs E.w fun e w' => (∃ v, e = .returned v ∧ AVR E (s.out xs).2.1 v) ∧ w' = E.w) : GoodF P f s.spec := by
  refine ⟨?_, fn, hf, hn, hb⟩
  intro E0 vs args bl p r upd fresh hH hU hok hvs hrun hp
  unfold PSpec.spec at hrun
  simp only at hrun
  split at hrun
  · split at hrun
    · rename_i xs hxs
      simp only [Option.some.injEq, Prod.mk.injEq] at hrun
      obtain ⟨rfl, rfl, rfl, rfl⟩ := hrun
      have hv := decArgs_rel hok (fun b => by rw [hH]; simp) hxs hvs
      refine (h E0 xs vs hv hp).mono ?_
      rintro e w' ⟨⟨v, rfl, hr⟩, rfl⟩
      refine ⟨v, E0, rfl, rfl, hr, hok, fun b => ?_, fun b => ?_, Ext.refl E0, frameOf_ok⟩
      · rw [hH, hfr]; simp
      · rw [hU, hfr]; simp
    · cases hrun
  · cases hrun

end Go.Fw



