/- Part 6 of the proof: FwTy Fw29 Base Num BaseLaw Fw30 Chip Pick Serial Drive Fw33 Drive2. No statement is handed in here; conditions: none. -/
import Derived.Test.YtblnigjmcjpopaaG5
import Derived.Test.YtblnigjmcjpopaaProg
import Derived.Laws.Bits64
/- The table of types of this seat. -/
namespace Go.Fw
open Go.Proofs
@[reducible] def ty1 : TI := { desc := .other, size := 1, bytes := 8, zero := [.imm .nilFunc], ety := none }
@[reducible] def ty2 : TI := { desc := (.int .i64), size := 1, bytes := 8, zero := [.imm (.int .i64 0)], ety := (some (.int .i64)) }
@[reducible] def ty3 : TI := { desc := (.int .i64), size := 1, bytes := 8, zero := [.imm (.int .i64 0)], ety := (some (.int .i64)) }
@[reducible] def ty4 : TI := { desc := .bool, size := 1, bytes := 1, zero := [.imm (.bool false)], ety := (some .bool) }
@[reducible] def ty5 : TI := { desc := (.int .u8), size := 1, bytes := 1, zero := [.imm (.int .u8 0)], ety := (some (.int .u8)) }
@[reducible] def ty6 : TI := { desc := (.int .u8), size := 1, bytes := 1, zero := [.imm (.int .u8 0)], ety := (some (.int .u8)) }
@[reducible] def ty7 : TI := { desc := (.struct [(2, 0), (3, 1), (4, 2), (6, 3)]), size := 4, bytes := 24, zero := [.imm (.int .i64 0), .imm (.int .i64 0), .imm (.bool false), .imm (.int .u8 0)], ety := (some (.pair (.int .i64) (.pair (.int .i64) (.pair .bool (.int .u8))))) }
@[reducible] def ty8 : TI := { desc := (.struct [(2, 0), (3, 1), (4, 2), (6, 3)]), size := 4, bytes := 24, zero := [.imm (.int .i64 0), .imm (.int .i64 0), .imm (.bool false), .imm (.int .u8 0)], ety := (some (.pair (.int .i64) (.pair (.int .i64) (.pair .bool (.int .u8))))) }
@[reducible] def ty9 : TI := { desc := .str, size := 1, bytes := 16, zero := [.imm (.string ByteArray.empty)], ety := (some .str) }
@[reducible] def ty10 : TI := { desc := .str, size := 1, bytes := 16, zero := [.imm (.string ByteArray.empty)], ety := (some .str) }
@[reducible] def ty11 : TI := { desc := .str, size := 1, bytes := 16, zero := [.imm (.string ByteArray.empty)], ety := (some .str) }
@[reducible] def ty12 : TI := { desc := (.int .u64), size := 1, bytes := 8, zero := [.imm (.int .u64 0)], ety := (some (.int .u64)) }
@[reducible] def ty13 : TI := { desc := (.struct [(9, 0), (12, 1)]), size := 2, bytes := 24, zero := [.imm (.string ByteArray.empty), .imm (.int .u64 0)], ety := (some (.pair .str (.int .u64))) }
@[reducible] def ty14 : TI := { desc := (.struct [(9, 0), (12, 1)]), size := 2, bytes := 24, zero := [.imm (.string ByteArray.empty), .imm (.int .u64 0)], ety := (some (.pair .str (.int .u64))) }
@[reducible] def ty15 : TI := { desc := (.ptr 203), size := 1, bytes := 8, zero := [.imm (.pointer none)], ety := none }
@[reducible] def ty16 : TI := { desc := (.ptr 206), size := 1, bytes := 8, zero := [.imm (.pointer none)], ety := none }
@[reducible] def ty17 : TI := { desc := (.ptr 215), size := 1, bytes := 8, zero := [.imm (.pointer none)], ety := none }
@[reducible] def ty18 : TI := { desc := (.struct [(17, 0)]), size := 1, bytes := 8, zero := [.imm (.pointer none)], ety := none }
@[reducible] def ty19 : TI := { desc := (.struct [(17, 0)]), size := 1, bytes := 8, zero := [.imm (.pointer none)], ety := none }
@[reducible] def ty20 : TI := { desc := .iface, size := 1, bytes := 16, zero := [.imm .nilIface], ety := none }
@[reducible] def ty21 : TI := { desc := (.int .i32), size := 1, bytes := 4, zero := [.imm (.int .i32 0)], ety := (some (.int .i32)) }
@[reducible] def ty22 : TI := { desc := (.slice 29), size := 1, bytes := 24, zero := [.imm (.slice none 0 0)], ety := (some (.sl (.pair (.int .i64) (.pair .str (.pair (.int .i64) (.sl (.pair (.int .i64) (.pair (.int .i64) (.pair (.int .i64) (.sl (.pair (.int .i64) (.pair (.int .i64) (.pair (.int .i64) (.int .i64)))))))))))))) }
@[reducible] def ty23 : TI := { desc := (.slice 98), size := 1, bytes := 24, zero := [.imm (.slice none 0 0)], ety := (some (.sl (.pair (.int .i64) (.pair (.int .i64) (.pair (.int .i64) (.sl (.pair (.int .i64) (.pair (.int .i64) (.pair (.int .i64) (.int .i64)))))))))) }
@[reducible] def ty24 : TI := { desc := (.struct [(9, 0), (22, 1), (23, 2), (23, 3), (23, 4)]), size := 5, bytes := 112, zero := [.imm (.string ByteArray.empty), .imm (.slice none 0 0), .imm (.slice none 0 0), .imm (.slice none 0 0), .imm (.slice none 0 0)], ety := (some (.pair .str (.pair (.sl (.pair (.int .i64) (.pair .str (.pair (.int .i64) (.sl (.pair (.int .i64) (.pair (.int .i64) (.pair (.int .i64) (.sl (.pair (.int .i64) (.pair (.int .i64) (.pair (.int .i64) (.int .i64))))))))))))) (.pair (.sl (.pair (.int .i64) (.pair (.int .i64) (.pair (.int .i64) (.sl (.pair (.int .i64) (.pair (.int .i64) (.pair (.int .i64) (.int .i64))))))))) (.pair (.sl (.pair (.int .i64) (.pair (.int .i64) (.pair (.int .i64) (.sl (.pair (.int .i64) (.pair (.int .i64) (.pair (.int .i64) (.int .i64))))))))) (.sl (.pair (.int .i64) (.pair (.int .i64) (.pair (.int .i64) (.sl (.pair (.int .i64) (.pair (.int .i64) (.pair (.int .i64) (.int .i64)))))))))))))) }
@[reducible] def ty25 : TI := { desc := (.struct [(9, 0), (22, 1), (23, 2), (23, 3), (23, 4)]), size := 5, bytes := 112, zero := [.imm (.string ByteArray.empty), .imm (.slice none 0 0), .imm (.slice none 0 0), .imm (.slice none 0 0), .imm (.slice none 0 0)], ety := (some (.pair .str (.pair (.sl (.pair (.int .i64) (.pair .str (.pair (.int .i64) (.sl (.pair (.int .i64) (.pair (.int .i64) (.pair (.int .i64) (.sl (.pair (.int .i64) (.pair (.int .i64) (.pair (.int .i64) (.int .i64))))))))))))) (.pair (.sl (.pair (.int .i64) (.pair (.int .i64) (.pair (.int .i64) (.sl (.pair (.int .i64) (.pair (.int .i64) (.pair (.int .i64) (.int .i64))))))))) (.pair (.sl (.pair (.int .i64) (.pair (.int .i64) (.pair (.int .i64) (.sl (.pair (.int .i64) (.pair (.int .i64) (.pair (.int .i64) (.int .i64))))))))) (.sl (.pair (.int .i64) (.pair (.int .i64) (.pair (.int .i64) (.sl (.pair (.int .i64) (.pair (.int .i64) (.pair (.int .i64) (.int .i64)))))))))))))) }
@[reducible] def ty26 : TI := { desc := .other, size := 1, bytes := 8, zero := [.imm .nilFunc], ety := none }
@[reducible] def ty27 : TI := { desc := .other, size := 1, bytes := 8, zero := [.imm .nilFunc], ety := none }
@[reducible] def ty28 : TI := { desc := (.struct [(3, 0), (9, 1), (3, 2), (23, 3)]), size := 4, bytes := 56, zero := [.imm (.int .i64 0), .imm (.string ByteArray.empty), .imm (.int .i64 0), .imm (.slice none 0 0)], ety := (some (.pair (.int .i64) (.pair .str (.pair (.int .i64) (.sl (.pair (.int .i64) (.pair (.int .i64) (.pair (.int .i64) (.sl (.pair (.int .i64) (.pair (.int .i64) (.pair (.int .i64) (.int .i64))))))))))))) }
@[reducible] def ty29 : TI := { desc := (.struct [(3, 0), (9, 1), (3, 2), (23, 3)]), size := 4, bytes := 56, zero := [.imm (.int .i64 0), .imm (.string ByteArray.empty), .imm (.int .i64 0), .imm (.slice none 0 0)], ety := (some (.pair (.int .i64) (.pair .str (.pair (.int .i64) (.sl (.pair (.int .i64) (.pair (.int .i64) (.pair (.int .i64) (.sl (.pair (.int .i64) (.pair (.int .i64) (.pair (.int .i64) (.int .i64))))))))))))) }
@[reducible] def ty30 : TI := { desc := .other, size := 1, bytes := 8, zero := [.imm .nilFunc], ety := none }
@[reducible] def ty31 : TI := { desc := .other, size := 1, bytes := 8, zero := [.imm .nilFunc], ety := none }
@[reducible] def ty32 : TI := { desc := .other, size := 1, bytes := 8, zero := [.imm .nilFunc], ety := none }
@[reducible] def ty33 : TI := { desc := .other, size := 1, bytes := 8, zero := [.imm .nilFunc], ety := none }
@[reducible] def ty34 : TI := { desc := .other, size := 1, bytes := 8, zero := [.imm .nilFunc], ety := none }
@[reducible] def ty35 : TI := { desc := .other, size := 1, bytes := 8, zero := [.imm .nilFunc], ety := none }
@[reducible] def ty36 : TI := { desc := .other, size := 1, bytes := 8, zero := [.imm .nilFunc], ety := none }
@[reducible] def ty37 : TI := { desc := .other, size := 1, bytes := 8, zero := [.imm .nilFunc], ety := none }
@[reducible] def ty38 : TI := { desc := .other, size := 1, bytes := 8, zero := [.imm .nilFunc], ety := none }
@[reducible] def ty40 : TI := { desc := .other, size := 1, bytes := 8, zero := [.imm .nilFunc], ety := none }
@[reducible] def ty41 : TI := { desc := .other, size := 1, bytes := 8, zero := [.imm .nilFunc], ety := none }
@[reducible] def ty42 : TI := { desc := .other, size := 1, bytes := 8, zero := [.imm .nilFunc], ety := none }
@[reducible] def ty43 : TI := { desc := .other, size := 1, bytes := 8, zero := [.imm .nilFunc], ety := none }
@[reducible] def ty44 : TI := { desc := (.array 9 3), size := 9, bytes := 72, zero := [.run .i64 9 (List.replicate 9 0)], ety := (some (.ints .i64 9)), cmp := true }
@[reducible] def ty45 : TI := { desc := (.array 9 3), size := 9, bytes := 72, zero := [.run .i64 9 (List.replicate 9 0)], ety := (some (.ints .i64 9)), cmp := true }
@[reducible] def ty46 : TI := { desc := (.struct [(45, 0), (3, 9), (3, 10), (4, 11)]), size := 12, bytes := 96, zero := [.run .i64 9 (List.replicate 9 0), .imm (.int .i64 0), .imm (.int .i64 0), .imm (.bool false)], ety := (some (.pair (.ints .i64 9) (.pair (.int .i64) (.pair (.int .i64) .bool)))) }
@[reducible] def ty47 : TI := { desc := (.struct [(45, 0), (3, 9), (3, 10), (4, 11)]), size := 12, bytes := 96, zero := [.run .i64 9 (List.replicate 9 0), .imm (.int .i64 0), .imm (.int .i64 0), .imm (.bool false)], ety := (some (.pair (.ints .i64 9) (.pair (.int .i64) (.pair (.int .i64) .bool)))), cmp := true }
@[reducible] def ty48 : TI := { desc := .other, size := 1, bytes := 8, zero := [.imm .nilFunc], ety := none }
@[reducible] def ty49 : TI := { desc := .other, size := 1, bytes := 8, zero := [.imm .nilFunc], ety := none }
@[reducible] def ty50 : TI := { desc := (.slice 67), size := 1, bytes := 24, zero := [.imm (.slice none 0 0)], ety := (some (.sl (.pair .str (.pair (.int .i64) (.pair (.int .i64) (.pair (.int .i64) (.sl (.int .u8)))))))) }
@[reducible] def ty51 : TI := { desc := (.slice 71), size := 1, bytes := 24, zero := [.imm (.slice none 0 0)], ety := (some (.sl (.pair .str .str))) }
@[reducible] def ty52 : TI := { desc := (.struct [(9, 0), (25, 1), (50, 6), (51, 7)]), size := 8, bytes := 176, zero := [.imm (.string ByteArray.empty), .imm (.string ByteArray.empty), .imm (.slice none 0 0), .imm (.slice none 0 0), .imm (.slice none 0 0), .imm (.slice none 0 0), .imm (.slice none 0 0), .imm (.slice none 0 0)], ety := (some (.pair .str (.pair (.pair .str (.pair (.sl (.pair (.int .i64) (.pair .str (.pair (.int .i64) (.sl (.pair (.int .i64) (.pair (.int .i64) (.pair (.int .i64) (.sl (.pair (.int .i64) (.pair (.int .i64) (.pair (.int .i64) (.int .i64))))))))))))) (.pair (.sl (.pair (.int .i64) (.pair (.int .i64) (.pair (.int .i64) (.sl (.pair (.int .i64) (.pair (.int .i64) (.pair (.int .i64) (.int .i64))))))))) (.pair (.sl (.pair (.int .i64) (.pair (.int .i64) (.pair (.int .i64) (.sl (.pair (.int .i64) (.pair (.int .i64) (.pair (.int .i64) (.int .i64))))))))) (.sl (.pair (.int .i64) (.pair (.int .i64) (.pair (.int .i64) (.sl (.pair (.int .i64) (.pair (.int .i64) (.pair (.int .i64) (.int .i64))))))))))))) (.pair (.sl (.pair .str (.pair (.int .i64) (.pair (.int .i64) (.pair (.int .i64) (.sl (.int .u8))))))) (.sl (.pair .str .str)))))) }
@[reducible] def ty53 : TI := { desc := (.struct [(9, 0), (25, 1), (50, 6), (51, 7)]), size := 8, bytes := 176, zero := [.imm (.string ByteArray.empty), .imm (.string ByteArray.empty), .imm (.slice none 0 0), .imm (.slice none 0 0), .imm (.slice none 0 0), .imm (.slice none 0 0), .imm (.slice none 0 0), .imm (.slice none 0 0)], ety := (some (.pair .str (.pair (.pair .str (.pair (.sl (.pair (.int .i64) (.pair .str (.pair (.int .i64) (.sl (.pair (.int .i64) (.pair (.int .i64) (.pair (.int .i64) (.sl (.pair (.int .i64) (.pair (.int .i64) (.pair (.int .i64) (.int .i64))))))))))))) (.pair (.sl (.pair (.int .i64) (.pair (.int .i64) (.pair (.int .i64) (.sl (.pair (.int .i64) (.pair (.int .i64) (.pair (.int .i64) (.int .i64))))))))) (.pair (.sl (.pair (.int .i64) (.pair (.int .i64) (.pair (.int .i64) (.sl (.pair (.int .i64) (.pair (.int .i64) (.pair (.int .i64) (.int .i64))))))))) (.sl (.pair (.int .i64) (.pair (.int .i64) (.pair (.int .i64) (.sl (.pair (.int .i64) (.pair (.int .i64) (.pair (.int .i64) (.int .i64))))))))))))) (.pair (.sl (.pair .str (.pair (.int .i64) (.pair (.int .i64) (.pair (.int .i64) (.sl (.int .u8))))))) (.sl (.pair .str .str)))))) }
@[reducible] def ty54 : TI := { desc := (.int .i64), size := 1, bytes := 8, zero := [.imm (.int .i64 0)], ety := (some (.int .i64)) }
@[reducible] def ty55 : TI := { desc := .other, size := 1, bytes := 8, zero := [.imm .nilFunc], ety := none }
@[reducible] def ty56 : TI := { desc := .other, size := 1, bytes := 8, zero := [.imm .nilFunc], ety := none }
@[reducible] def ty57 : TI := { desc := (.slice 60), size := 1, bytes := 24, zero := [.imm (.slice none 0 0)], ety := (some (.sl (.pair (.int .i64) (.pair (.int .i64) (.int .i64))))) }
@[reducible] def ty58 : TI := { desc := .other, size := 1, bytes := 8, zero := [.imm .nilFunc], ety := none }
@[reducible] def ty59 : TI := { desc := (.struct [(3, 0), (3, 1), (3, 2)]), size := 3, bytes := 24, zero := [.imm (.int .i64 0), .imm (.int .i64 0), .imm (.int .i64 0)], ety := (some (.pair (.int .i64) (.pair (.int .i64) (.int .i64)))) }
@[reducible] def ty60 : TI := { desc := (.struct [(3, 0), (3, 1), (3, 2)]), size := 3, bytes := 24, zero := [.imm (.int .i64 0), .imm (.int .i64 0), .imm (.int .i64 0)], ety := (some (.pair (.int .i64) (.pair (.int .i64) (.int .i64)))), cmp := true }
@[reducible] def ty61 : TI := { desc := .other, size := 1, bytes := 8, zero := [.imm .nilFunc], ety := none }
@[reducible] def ty62 : TI := { desc := .other, size := 1, bytes := 8, zero := [.imm .nilFunc], ety := none }
@[reducible] def ty64 : TI := { desc := .other, size := 1, bytes := 8, zero := [.imm .nilFunc], ety := none }
@[reducible] def ty65 : TI := { desc := (.slice 5), size := 1, bytes := 24, zero := [.imm (.slice none 0 0)], ety := (some (.sl (.int .u8))) }
@[reducible] def ty66 : TI := { desc := (.struct [(9, 0), (3, 1), (3, 2), (3, 3), (65, 4)]), size := 5, bytes := 64, zero := [.imm (.string ByteArray.empty), .imm (.int .i64 0), .imm (.int .i64 0), .imm (.int .i64 0), .imm (.slice none 0 0)], ety := (some (.pair .str (.pair (.int .i64) (.pair (.int .i64) (.pair (.int .i64) (.sl (.int .u8))))))) }
@[reducible] def ty67 : TI := { desc := (.struct [(9, 0), (3, 1), (3, 2), (3, 3), (65, 4)]), size := 5, bytes := 64, zero := [.imm (.string ByteArray.empty), .imm (.int .i64 0), .imm (.int .i64 0), .imm (.int .i64 0), .imm (.slice none 0 0)], ety := (some (.pair .str (.pair (.int .i64) (.pair (.int .i64) (.pair (.int .i64) (.sl (.int .u8))))))) }
@[reducible] def ty68 : TI := { desc := (.slice 9), size := 1, bytes := 24, zero := [.imm (.slice none 0 0)], ety := (some (.sl .str)) }
@[reducible] def ty69 : TI := { desc := .other, size := 1, bytes := 8, zero := [.imm .nilFunc], ety := none }
@[reducible] def ty70 : TI := { desc := (.struct [(9, 0), (9, 1)]), size := 2, bytes := 32, zero := [.imm (.string ByteArray.empty), .imm (.string ByteArray.empty)], ety := (some (.pair .str .str)) }
@[reducible] def ty71 : TI := { desc := (.struct [(9, 0), (9, 1)]), size := 2, bytes := 32, zero := [.imm (.string ByteArray.empty), .imm (.string ByteArray.empty)], ety := (some (.pair .str .str)), cmp := true }
@[reducible] def ty72 : TI := { desc := .other, size := 1, bytes := 8, zero := [.imm .nilFunc], ety := none }
@[reducible] def ty73 : TI := { desc := .other, size := 1, bytes := 8, zero := [.imm .nilFunc], ety := none }
@[reducible] def ty74 : TI := { desc := .other, size := 1, bytes := 8, zero := [.imm .nilFunc], ety := none }
@[reducible] def ty75 : TI := { desc := .other, size := 1, bytes := 8, zero := [.imm .nilFunc], ety := none }
@[reducible] def ty76 : TI := { desc := (.slice 4), size := 1, bytes := 24, zero := [.imm (.slice none 0 0)], ety := (some (.sl .bool)) }
@[reducible] def ty77 : TI := { desc := .other, size := 1, bytes := 8, zero := [.imm .nilFunc], ety := none }
@[reducible] def ty79 : TI := { desc := .other, size := 1, bytes := 8, zero := [.imm .nilFunc], ety := none }
@[reducible] def ty80 : TI := { desc := .other, size := 1, bytes := 8, zero := [.imm .nilFunc], ety := none }
@[reducible] def ty81 : TI := { desc := .other, size := 1, bytes := 8, zero := [.imm .nilFunc], ety := none }
@[reducible] def ty82 : TI := { desc := .other, size := 1, bytes := 8, zero := [.imm .nilFunc], ety := none }
@[reducible] def ty83 : TI := { desc := (.slice 3), size := 1, bytes := 24, zero := [.imm (.slice none 0 0)], ety := (some (.sl (.int .i64))) }
@[reducible] def ty84 : TI := { desc := (.struct [(83, 0), (65, 1)]), size := 2, bytes := 48, zero := [.imm (.slice none 0 0), .imm (.slice none 0 0)], ety := (some (.pair (.sl (.int .i64)) (.sl (.int .u8)))) }
@[reducible] def ty85 : TI := { desc := (.struct [(83, 0), (65, 1)]), size := 2, bytes := 48, zero := [.imm (.slice none 0 0), .imm (.slice none 0 0)], ety := (some (.pair (.sl (.int .i64)) (.sl (.int .u8)))) }
@[reducible] def ty86 : TI := { desc := .other, size := 1, bytes := 8, zero := [.imm .nilFunc], ety := none }
@[reducible] def ty87 : TI := { desc := .other, size := 1, bytes := 8, zero := [.imm .nilFunc], ety := none }
@[reducible] def ty88 : TI := { desc := .other, size := 1, bytes := 8, zero := [.imm .nilFunc], ety := none }
@[reducible] def ty89 : TI := { desc := .other, size := 1, bytes := 8, zero := [.imm .nilFunc], ety := none }
@[reducible] def ty90 : TI := { desc := .other, size := 1, bytes := 8, zero := [.imm .nilFunc], ety := none }
@[reducible] def ty91 : TI := { desc := .other, size := 1, bytes := 8, zero := [.imm .nilFunc], ety := none }
@[reducible] def ty92 : TI := { desc := .other, size := 1, bytes := 8, zero := [.imm .nilFunc], ety := none }
@[reducible] def ty93 : TI := { desc := .other, size := 1, bytes := 8, zero := [.imm .nilFunc], ety := none }
@[reducible] def ty94 : TI := { desc := .other, size := 1, bytes := 8, zero := [.imm .nilFunc], ety := none }
@[reducible] def ty95 : TI := { desc := .other, size := 1, bytes := 8, zero := [.imm .nilFunc], ety := none }
@[reducible] def ty96 : TI := { desc := (.slice 101), size := 1, bytes := 24, zero := [.imm (.slice none 0 0)], ety := (some (.sl (.pair (.int .i64) (.pair (.int .i64) (.pair (.int .i64) (.int .i64)))))) }
@[reducible] def ty97 : TI := { desc := (.struct [(3, 0), (3, 1), (3, 2), (96, 3)]), size := 4, bytes := 48, zero := [.imm (.int .i64 0), .imm (.int .i64 0), .imm (.int .i64 0), .imm (.slice none 0 0)], ety := (some (.pair (.int .i64) (.pair (.int .i64) (.pair (.int .i64) (.sl (.pair (.int .i64) (.pair (.int .i64) (.pair (.int .i64) (.int .i64))))))))) }
@[reducible] def ty98 : TI := { desc := (.struct [(3, 0), (3, 1), (3, 2), (96, 3)]), size := 4, bytes := 48, zero := [.imm (.int .i64 0), .imm (.int .i64 0), .imm (.int .i64 0), .imm (.slice none 0 0)], ety := (some (.pair (.int .i64) (.pair (.int .i64) (.pair (.int .i64) (.sl (.pair (.int .i64) (.pair (.int .i64) (.pair (.int .i64) (.int .i64))))))))) }
@[reducible] def ty99 : TI := { desc := .other, size := 1, bytes := 8, zero := [.imm .nilFunc], ety := none }
@[reducible] def ty100 : TI := { desc := (.struct [(3, 0), (3, 1), (3, 2), (3, 3)]), size := 4, bytes := 32, zero := [.imm (.int .i64 0), .imm (.int .i64 0), .imm (.int .i64 0), .imm (.int .i64 0)], ety := (some (.pair (.int .i64) (.pair (.int .i64) (.pair (.int .i64) (.int .i64))))) }
@[reducible] def ty101 : TI := { desc := (.struct [(3, 0), (3, 1), (3, 2), (3, 3)]), size := 4, bytes := 32, zero := [.imm (.int .i64 0), .imm (.int .i64 0), .imm (.int .i64 0), .imm (.int .i64 0)], ety := (some (.pair (.int .i64) (.pair (.int .i64) (.pair (.int .i64) (.int .i64))))), cmp := true }
@[reducible] def ty102 : TI := { desc := .other, size := 1, bytes := 8, zero := [.imm .nilFunc], ety := none }
@[reducible] def ty103 : TI := { desc := .other, size := 1, bytes := 8, zero := [.imm .nilFunc], ety := none }
@[reducible] def ty104 : TI := { desc := .other, size := 1, bytes := 8, zero := [.imm .nilFunc], ety := none }
@[reducible] def ty105 : TI := { desc := .other, size := 1, bytes := 8, zero := [.imm .nilFunc], ety := none }
@[reducible] def ty106 : TI := { desc := .other, size := 1, bytes := 8, zero := [.imm .nilFunc], ety := none }
@[reducible] def ty107 : TI := { desc := .other, size := 1, bytes := 8, zero := [.imm .nilFunc], ety := none }
@[reducible] def ty108 : TI := { desc := .other, size := 1, bytes := 8, zero := [.imm .nilFunc], ety := none }
@[reducible] def ty109 : TI := { desc := .other, size := 1, bytes := 8, zero := [.imm .nilFunc], ety := none }
@[reducible] def ty111 : TI := { desc := .other, size := 1, bytes := 8, zero := [.imm .nilFunc], ety := none }
@[reducible] def ty112 : TI := { desc := .other, size := 1, bytes := 8, zero := [.imm .nilFunc], ety := none }
@[reducible] def ty114 : TI := { desc := .other, size := 1, bytes := 8, zero := [.imm .nilFunc], ety := none }
@[reducible] def ty115 : TI := { desc := .other, size := 1, bytes := 8, zero := [.imm .nilFunc], ety := none }
@[reducible] def ty116 : TI := { desc := .other, size := 1, bytes := 8, zero := [.imm .nilFunc], ety := none }
@[reducible] def ty117 : TI := { desc := .other, size := 1, bytes := 8, zero := [.imm .nilFunc], ety := none }
@[reducible] def ty118 : TI := { desc := .other, size := 1, bytes := 8, zero := [.imm .nilFunc], ety := none }
@[reducible] def ty119 : TI := { desc := .other, size := 1, bytes := 8, zero := [.imm .nilFunc], ety := none }
@[reducible] def ty120 : TI := { desc := (.map 71 4), size := 1, bytes := 8, zero := [.imm (.map none)], ety := none }
@[reducible] def ty121 : TI := { desc := .other, size := 1, bytes := 8, zero := [.imm .nilFunc], ety := none }
@[reducible] def ty122 : TI := { desc := .other, size := 1, bytes := 8, zero := [.imm .nilFunc], ety := none }
@[reducible] def ty123 : TI := { desc := (.int .u64), size := 1, bytes := 8, zero := [.imm (.int .u64 0)], ety := (some (.int .u64)) }
@[reducible] def ty124 : TI := { desc := .other, size := 1, bytes := 8, zero := [.imm .nilFunc], ety := none }
@[reducible] def ty125 : TI := { desc := .other, size := 1, bytes := 8, zero := [.imm .nilFunc], ety := none }
@[reducible] def ty127 : TI := { desc := .other, size := 1, bytes := 8, zero := [.imm .nilFunc], ety := none }
@[reducible] def ty128 : TI := { desc := .other, size := 1, bytes := 8, zero := [.imm .nilFunc], ety := none }
@[reducible] def ty129 : TI := { desc := .other, size := 1, bytes := 8, zero := [.imm .nilFunc], ety := none }
@[reducible] def ty130 : TI := { desc := .other, size := 1, bytes := 8, zero := [.imm .nilFunc], ety := none }
@[reducible] def ty131 : TI := { desc := .other, size := 1, bytes := 8, zero := [.imm .nilFunc], ety := none }
@[reducible] def ty132 : TI := { desc := .other, size := 1, bytes := 8, zero := [.imm .nilFunc], ety := none }
@[reducible] def ty133 : TI := { desc := .other, size := 1, bytes := 8, zero := [.imm .nilFunc], ety := none }
@[reducible] def ty134 : TI := { desc := .other, size := 1, bytes := 8, zero := [.imm .nilFunc], ety := none }
@[reducible] def ty135 : TI := { desc := .other, size := 1, bytes := 8, zero := [.imm .nilFunc], ety := none }
@[reducible] def ty136 : TI := { desc := .other, size := 1, bytes := 8, zero := [.imm .nilFunc], ety := none }
@[reducible] def ty137 : TI := { desc := .other, size := 1, bytes := 8, zero := [.imm .nilFunc], ety := none }
@[reducible] def ty138 : TI := { desc := .other, size := 1, bytes := 8, zero := [.imm .nilFunc], ety := none }
@[reducible] def ty139 : TI := { desc := (.ptr 23), size := 1, bytes := 8, zero := [.imm (.pointer none)], ety := none }
@[reducible] def ty140 : TI := { desc := (.slice 139), size := 1, bytes := 24, zero := [.imm (.slice none 0 0)], ety := none }
@[reducible] def ty141 : TI := { desc := .other, size := 1, bytes := 8, zero := [.imm .nilFunc], ety := none }
@[reducible] def ty143 : TI := { desc := .other, size := 1, bytes := 8, zero := [.imm .nilFunc], ety := none }
@[reducible] def ty144 : TI := { desc := (.slice 83), size := 1, bytes := 24, zero := [.imm (.slice none 0 0)], ety := (some (.sl (.sl (.int .i64)))) }
@[reducible] def ty145 : TI := { desc := .other, size := 1, bytes := 8, zero := [.imm .nilFunc], ety := none }
@[reducible] def ty146 : TI := { desc := .other, size := 1, bytes := 8, zero := [.imm .nilFunc], ety := none }
@[reducible] def ty147 : TI := { desc := .other, size := 1, bytes := 8, zero := [.imm .nilFunc], ety := none }
@[reducible] def ty148 : TI := { desc := .other, size := 1, bytes := 8, zero := [.imm .nilFunc], ety := none }
@[reducible] def ty149 : TI := { desc := .other, size := 1, bytes := 8, zero := [.imm .nilFunc], ety := none }
@[reducible] def ty150 : TI := { desc := .other, size := 1, bytes := 8, zero := [.imm .nilFunc], ety := none }
@[reducible] def ty151 : TI := { desc := (.slice 23), size := 1, bytes := 24, zero := [.imm (.slice none 0 0)], ety := (some (.sl (.sl (.pair (.int .i64) (.pair (.int .i64) (.pair (.int .i64) (.sl (.pair (.int .i64) (.pair (.int .i64) (.pair (.int .i64) (.int .i64))))))))))) }
@[reducible] def ty152 : TI := { desc := .other, size := 1, bytes := 8, zero := [.imm .nilFunc], ety := none }
@[reducible] def ty153 : TI := { desc := .other, size := 1, bytes := 8, zero := [.imm .nilFunc], ety := none }
@[reducible] def ty154 : TI := { desc := .other, size := 1, bytes := 8, zero := [.imm .nilFunc], ety := none }
@[reducible] def ty155 : TI := { desc := .other, size := 1, bytes := 8, zero := [.imm .nilFunc], ety := none }
@[reducible] def ty156 : TI := { desc := .other, size := 1, bytes := 8, zero := [.imm .nilFunc], ety := none }
@[reducible] def ty157 : TI := { desc := .other, size := 1, bytes := 8, zero := [.imm .nilFunc], ety := none }
@[reducible] def ty158 : TI := { desc := .other, size := 1, bytes := 8, zero := [.imm .nilFunc], ety := none }
@[reducible] def ty159 : TI := { desc := .other, size := 1, bytes := 8, zero := [.imm .nilFunc], ety := none }
@[reducible] def ty161 : TI := { desc := .other, size := 1, bytes := 8, zero := [.imm .nilFunc], ety := none }
@[reducible] def ty162 : TI := { desc := .other, size := 1, bytes := 8, zero := [.imm .nilFunc], ety := none }
@[reducible] def ty163 : TI := { desc := .other, size := 1, bytes := 8, zero := [.imm .nilFunc], ety := none }
@[reducible] def ty164 : TI := { desc := (.map 166 4), size := 1, bytes := 8, zero := [.imm (.map none)], ety := none }
@[reducible] def ty165 : TI := { desc := (.struct [(9, 0), (3, 1)]), size := 2, bytes := 24, zero := [.imm (.string ByteArray.empty), .imm (.int .i64 0)], ety := (some (.pair .str (.int .i64))) }
@[reducible] def ty166 : TI := { desc := (.struct [(9, 0), (3, 1)]), size := 2, bytes := 24, zero := [.imm (.string ByteArray.empty), .imm (.int .i64 0)], ety := (some (.pair .str (.int .i64))), cmp := true }
@[reducible] def ty167 : TI := { desc := .other, size := 1, bytes := 8, zero := [.imm .nilFunc], ety := none }
@[reducible] def ty168 : TI := { desc := .other, size := 1, bytes := 8, zero := [.imm .nilFunc], ety := none }
@[reducible] def ty169 : TI := { desc := .other, size := 1, bytes := 8, zero := [.imm .nilFunc], ety := none }
@[reducible] def ty170 : TI := { desc := .other, size := 1, bytes := 8, zero := [.imm .nilFunc], ety := none }
@[reducible] def ty171 : TI := { desc := .other, size := 1, bytes := 8, zero := [.imm .nilFunc], ety := none }
@[reducible] def ty173 : TI := { desc := .other, size := 1, bytes := 8, zero := [.imm .nilFunc], ety := none }
@[reducible] def ty174 : TI := { desc := .other, size := 1, bytes := 8, zero := [.imm .nilFunc], ety := none }
@[reducible] def ty175 : TI := { desc := .other, size := 1, bytes := 8, zero := [.imm .nilFunc], ety := none }
@[reducible] def ty176 : TI := { desc := .other, size := 1, bytes := 8, zero := [.imm .nilFunc], ety := none }
@[reducible] def ty178 : TI := { desc := .other, size := 1, bytes := 8, zero := [.imm .nilFunc], ety := none }
@[reducible] def ty179 : TI := { desc := .other, size := 1, bytes := 8, zero := [.imm .nilFunc], ety := none }
@[reducible] def ty180 : TI := { desc := .other, size := 1, bytes := 8, zero := [.imm .nilFunc], ety := none }
@[reducible] def ty181 : TI := { desc := .other, size := 1, bytes := 8, zero := [.imm .nilFunc], ety := none }
@[reducible] def ty182 : TI := { desc := .other, size := 1, bytes := 8, zero := [.imm .nilFunc], ety := none }
@[reducible] def ty183 : TI := { desc := (.map 4 3), size := 1, bytes := 8, zero := [.imm (.map none)], ety := none }
@[reducible] def ty184 : TI := { desc := .other, size := 1, bytes := 8, zero := [.imm .nilFunc], ety := none }
@[reducible] def ty185 : TI := { desc := .other, size := 1, bytes := 8, zero := [.imm .nilFunc], ety := none }
@[reducible] def ty186 : TI := { desc := .other, size := 1, bytes := 8, zero := [.imm .nilFunc], ety := none }
@[reducible] def ty187 : TI := { desc := .other, size := 1, bytes := 8, zero := [.imm .nilFunc], ety := none }
@[reducible] def ty188 : TI := { desc := (.int .u64), size := 1, bytes := 8, zero := [.imm (.int .u64 0)], ety := (some (.int .u64)) }
@[reducible] def ty189 : TI := { desc := .other, size := 1, bytes := 8, zero := [.imm .nilFunc], ety := none }
@[reducible] def ty190 : TI := { desc := (.array 8 3), size := 8, bytes := 64, zero := [.run .i64 8 (List.replicate 8 0)], ety := (some (.ints .i64 8)), cmp := true }
@[reducible] def ty191 : TI := { desc := .other, size := 1, bytes := 8, zero := [.imm .nilFunc], ety := none }
@[reducible] def ty192 : TI := { desc := (.array 6 3), size := 6, bytes := 48, zero := [.run .i64 6 (List.replicate 6 0)], ety := (some (.ints .i64 6)), cmp := true }
@[reducible] def ty193 : TI := { desc := (.array 10 3), size := 10, bytes := 80, zero := [.run .i64 10 (List.replicate 10 0)], ety := (some (.ints .i64 10)), cmp := true }
@[reducible] def ty194 : TI := { desc := .other, size := 1, bytes := 8, zero := [.imm .nilFunc], ety := none }
@[reducible] def ty196 : TI := { desc := .other, size := 1, bytes := 8, zero := [.imm .nilFunc], ety := none }
@[reducible] def ty197 : TI := { desc := .other, size := 1, bytes := 8, zero := [.imm .nilFunc], ety := none }
@[reducible] def ty198 : TI := { desc := (.int .u32), size := 1, bytes := 4, zero := [.imm (.int .u32 0)], ety := (some (.int .u32)) }
@[reducible] def ty200 : TI := { desc := .other, size := 1, bytes := 8, zero := [.imm .nilFunc], ety := none }
@[reducible] def ty201 : TI := { desc := .other, size := 1, bytes := 8, zero := [.imm .nilFunc], ety := none }
@[reducible] def ty202 : TI := { desc := (.struct [(17, 0), (17, 1), (17, 2), (9, 3)]), size := 4, bytes := 40, zero := [.imm (.pointer none), .imm (.pointer none), .imm (.pointer none), .imm (.string ByteArray.empty)], ety := none }
@[reducible] def ty203 : TI := { desc := (.struct [(17, 0), (17, 1), (17, 2), (9, 3)]), size := 4, bytes := 40, zero := [.imm (.pointer none), .imm (.pointer none), .imm (.pointer none), .imm (.string ByteArray.empty)], ety := none }
@[reducible] def ty204 : TI := { desc := (.array 0 16), size := 0, bytes := 0, zero := [], ety := none }
@[reducible] def ty205 : TI := { desc := (.struct [(204, 0)]), size := 0, bytes := 0, zero := [], ety := none }
@[reducible] def ty206 : TI := { desc := (.struct [(204, 0)]), size := 0, bytes := 0, zero := [], ety := none }
@[reducible] def ty207 : TI := { desc := .other, size := 1, bytes := 8, zero := [.imm .nilFunc], ety := none }
@[reducible] def ty208 : TI := { desc := (.int .u8), size := 1, bytes := 1, zero := [.imm (.int .u8 0)], ety := (some (.int .u8)) }
@[reducible] def ty209 : TI := { desc := (.int .u8), size := 1, bytes := 1, zero := [.imm (.int .u8 0)], ety := (some (.int .u8)) }
@[reducible] def ty210 : TI := { desc := .other, size := 1, bytes := 8, zero := [.imm .nilFunc], ety := none }
@[reducible] def ty211 : TI := { desc := (.ptr 5), size := 1, bytes := 8, zero := [.imm (.pointer none)], ety := none }
@[reducible] def ty212 : TI := { desc := (.int .i32), size := 1, bytes := 4, zero := [.imm (.int .i32 0)], ety := (some (.int .i32)) }
@[reducible] def ty213 : TI := { desc := (.int .i32), size := 1, bytes := 4, zero := [.imm (.int .i32 0)], ety := (some (.int .i32)) }
@[reducible] def ty214 : TI := { desc := (.struct [(12, 0), (12, 1), (198, 2), (208, 3), (5, 4), (5, 5), (209, 6), (210, 7), (211, 8), (212, 9), (213, 10)]), size := 11, bytes := 48, zero := [.imm (.int .u64 0), .imm (.int .u64 0), .imm (.int .u32 0), .imm (.int .u8 0), .imm (.int .u8 0), .imm (.int .u8 0), .imm (.int .u8 0), .imm .nilFunc, .imm (.pointer none), .imm (.int .i32 0), .imm (.int .i32 0)], ety := none }
@[reducible] def ty215 : TI := { desc := (.struct [(12, 0), (12, 1), (198, 2), (208, 3), (5, 4), (5, 5), (209, 6), (210, 7), (211, 8), (212, 9), (213, 10)]), size := 11, bytes := 48, zero := [.imm (.int .u64 0), .imm (.int .u64 0), .imm (.int .u32 0), .imm (.int .u8 0), .imm (.int .u8 0), .imm (.int .u8 0), .imm (.int .u8 0), .imm .nilFunc, .imm (.pointer none), .imm (.int .i32 0), .imm (.int .i32 0)], ety := none }
def tree : TTree := (.node 105 ty105 (.node 52 ty52 (.node 26 ty26 (.node 13 ty13 (.node 7 ty7 (.node 4 ty4 (.node 2 ty2 (.node 1 ty1 .leaf .leaf) (.node 3 ty3 .leaf .leaf)) (.node 6 ty6 (.node 5 ty5 .leaf .leaf) .leaf)) (.node 10 ty10 (.node 9 ty9 (.node 8 ty8 .leaf .leaf) .leaf) (.node 12 ty12 (.node 11 ty11 .leaf .leaf) .leaf))) (.node 20 ty20 (.node 17 ty17 (.node 15 ty15 (.node 14 ty14 .leaf .leaf) (.node 16 ty16 .leaf .leaf)) (.node 19 ty19 (.node 18 ty18 .leaf .leaf) .leaf)) (.node 23 ty23 (.node 22 ty22 (.node 21 ty21 .leaf .leaf) .leaf) (.node 25 ty25 (.node 24 ty24 .leaf .leaf) .leaf)))) (.node 40 ty40 (.node 33 ty33 (.node 30 ty30 (.node 28 ty28 (.node 27 ty27 .leaf .leaf) (.node 29 ty29 .leaf .leaf)) (.node 32 ty32 (.node 31 ty31 .leaf .leaf) .leaf)) (.node 36 ty36 (.node 35 ty35 (.node 34 ty34 .leaf .leaf) .leaf) (.node 38 ty38 (.node 37 ty37 .leaf .leaf) .leaf))) (.node 46 ty46 (.node 43 ty43 (.node 42 ty42 (.node 41 ty41 .leaf .leaf) .leaf) (.node 45 ty45 (.node 44 ty44 .leaf .leaf) .leaf)) (.node 49 ty49 (.node 48 ty48 (.node 47 ty47 .leaf .leaf) .leaf) (.node 51 ty51 (.node 50 ty50 .leaf .leaf) .leaf))))) (.node 80 ty80 (.node 66 ty66 (.node 59 ty59 (.node 56 ty56 (.node 54 ty54 (.node 53 ty53 .leaf .leaf) (.node 55 ty55 .leaf .leaf)) (.node 58 ty58 (.node 57 ty57 .leaf .leaf) .leaf)) (.node 62 ty62 (.node 61 ty61 (.node 60 ty60 .leaf .leaf) .leaf) (.node 65 ty65 (.node 64 ty64 .leaf .leaf) .leaf))) (.node 73 ty73 (.node 70 ty70 (.node 68 ty68 (.node 67 ty67 .leaf .leaf) (.node 69 ty69 .leaf .leaf)) (.node 72 ty72 (.node 71 ty71 .leaf .leaf) .leaf)) (.node 76 ty76 (.node 75 ty75 (.node 74 ty74 .leaf .leaf) .leaf) (.node 79 ty79 (.node 77 ty77 .leaf .leaf) .leaf)))) (.node 93 ty93 (.node 87 ty87 (.node 84 ty84 (.node 82 ty82 (.node 81 ty81 .leaf .leaf) (.node 83 ty83 .leaf .leaf)) (.node 86 ty86 (.node 85 ty85 .leaf .leaf) .leaf)) (.node 90 ty90 (.node 89 ty89 (.node 88 ty88 .leaf .leaf) .leaf) (.node 92 ty92 (.node 91 ty91 .leaf .leaf) .leaf))) (.node 99 ty99 (.node 96 ty96 (.node 95 ty95 (.node 94 ty94 .leaf .leaf) .leaf) (.node 98 ty98 (.node 97 ty97 .leaf .leaf) .leaf)) (.node 102 ty102 (.node 101 ty101 (.node 100 ty100 .leaf .leaf) .leaf) (.node 104 ty104 (.node 103 ty103 .leaf .leaf) .leaf)))))) (.node 161 ty161 (.node 134 ty134 (.node 120 ty120 (.node 114 ty114 (.node 109 ty109 (.node 107 ty107 (.node 106 ty106 .leaf .leaf) (.node 108 ty108 .leaf .leaf)) (.node 112 ty112 (.node 111 ty111 .leaf .leaf) .leaf)) (.node 117 ty117 (.node 116 ty116 (.node 115 ty115 .leaf .leaf) .leaf) (.node 119 ty119 (.node 118 ty118 .leaf .leaf) .leaf))) (.node 128 ty128 (.node 124 ty124 (.node 122 ty122 (.node 121 ty121 .leaf .leaf) (.node 123 ty123 .leaf .leaf)) (.node 127 ty127 (.node 125 ty125 .leaf .leaf) .leaf)) (.node 131 ty131 (.node 130 ty130 (.node 129 ty129 .leaf .leaf) .leaf) (.node 133 ty133 (.node 132 ty132 .leaf .leaf) .leaf)))) (.node 148 ty148 (.node 141 ty141 (.node 138 ty138 (.node 136 ty136 (.node 135 ty135 .leaf .leaf) (.node 137 ty137 .leaf .leaf)) (.node 140 ty140 (.node 139 ty139 .leaf .leaf) .leaf)) (.node 145 ty145 (.node 144 ty144 (.node 143 ty143 .leaf .leaf) .leaf) (.node 147 ty147 (.node 146 ty146 .leaf .leaf) .leaf))) (.node 154 ty154 (.node 151 ty151 (.node 150 ty150 (.node 149 ty149 .leaf .leaf) .leaf) (.node 153 ty153 (.node 152 ty152 .leaf .leaf) .leaf)) (.node 157 ty157 (.node 156 ty156 (.node 155 ty155 .leaf .leaf) .leaf) (.node 159 ty159 (.node 158 ty158 .leaf .leaf) .leaf))))) (.node 189 ty189 (.node 175 ty175 (.node 168 ty168 (.node 165 ty165 (.node 163 ty163 (.node 162 ty162 .leaf .leaf) (.node 164 ty164 .leaf .leaf)) (.node 167 ty167 (.node 166 ty166 .leaf .leaf) .leaf)) (.node 171 ty171 (.node 170 ty170 (.node 169 ty169 .leaf .leaf) .leaf) (.node 174 ty174 (.node 173 ty173 .leaf .leaf) .leaf))) (.node 183 ty183 (.node 180 ty180 (.node 178 ty178 (.node 176 ty176 .leaf .leaf) (.node 179 ty179 .leaf .leaf)) (.node 182 ty182 (.node 181 ty181 .leaf .leaf) .leaf)) (.node 186 ty186 (.node 185 ty185 (.node 184 ty184 .leaf .leaf) .leaf) (.node 188 ty188 (.node 187 ty187 .leaf .leaf) .leaf)))) (.node 204 ty204 (.node 197 ty197 (.node 193 ty193 (.node 191 ty191 (.node 190 ty190 .leaf .leaf) (.node 192 ty192 .leaf .leaf)) (.node 196 ty196 (.node 194 ty194 .leaf .leaf) .leaf)) (.node 201 ty201 (.node 200 ty200 (.node 198 ty198 .leaf .leaf) .leaf) (.node 203 ty203 (.node 202 ty202 .leaf .leaf) .leaf))) (.node 210 ty210 (.node 207 ty207 (.node 206 ty206 (.node 205 ty205 .leaf .leaf) .leaf) (.node 209 ty209 (.node 208 ty208 .leaf .leaf) .leaf)) (.node 213 ty213 (.node 212 ty212 (.node 211 ty211 .leaf .leaf) .leaf) (.node 215 ty215 (.node 214 ty214 .leaf .leaf) .leaf)))))))
theorem tree_ok : chkTree Try.prog tree = true := by kernel_rfl
end Go.Fw

/- From a contract to a call in a world of its own. -/
namespace Go.Fw
open Go.RowKit
set_option linter.unusedVariables false
set_option linter.unusedSimpArgs false

def startE (W : World) : Env := { w := W, ρ := fun _ => none, S := fun g => g < W.heap.size, H := fun _ => none, U := fun _ => False }
theorem startE_ok (W : World) : HeapOk (startE W) := ⟨fun b x h => (by cases h), fun b b' x x' g h => (by cases h), fun g h => h⟩

theorem CSound.start {P : Program} {f : FuncId} {s : CSpec} (h : CSound P f s) {vs : Array Value} {args : List V1} {W : World} {p : Option Prop} {r : AV} {fresh : List Blk} (hv : VsR (startE W) args vs.toList)
    (hrun : s.run args [] = some (p, r, [], fresh)) (hp : ∀ q, p = some q → q) : Calls P f vs W fun e w' => (∃ v E', e = .returned v ∧ E'.w = w' ∧ AVR E' r v) ∧ Below W.heap.size W w' := by
  refine (h (startE W) vs args [] p r [] fresh (fun b => by simp [startE]) (fun b => by simp [startE]) (startE_ok W) hv hrun hp).mono ?_
  rintro e w' ⟨v, E', rfl, rfl, hb⟩
  refine ⟨⟨v, E', rfl, rfl, hb.val⟩, hb.fr.os, hb.fr.tape, hb.fr.output, hb.fr.size, fun k hk => hb.fr.old k hk ?_⟩
  rintro ⟨b, x, hx, _⟩
  cases hx

/-- a law that is true -/
theorem PSpec.law {P : Program} {f : FuncId} {s : PSpec} (h : GoodF P f s.spec) {vs : Array Value} {W : World} (xs : Args s.gs) (hv : VsR (startE W) (canonArgs s.gs xs) vs.toList) (hd : decArgs s.gs (canonArgs s.gs xs) = some xs)
    {p : Option Prop} (ht : s.out xs = (p, .cell (bv true), [])) (hp : ∀ q, p = some q → q) : Calls P f vs W fun e w' => e = .returned (.bool true) ∧ Below W.heap.size W w' := by
  have hrun : s.spec.run (canonArgs s.gs xs) [] = some (p, .cell (bv true), [], []) := by
    unfold PSpec.spec
    simp only [hd, ht]
  refine (h.1.start hv hrun hp).mono ?_
  rintro e w' ⟨⟨v, E', rfl, rfl, hr⟩, hb⟩
  refine ⟨?_, hb⟩
  obtain ⟨e, _⟩ := hr
  injection e with e
  rw [e]

theorem VsR.cons {E : Env} {x : V1} {xs : List V1} {v : Value} {vs : List Value} (h : V1R E x v) (hs : VsR E xs vs) : VsR E (x :: xs) (v :: vs) := ⟨v, vs, rfl, h, hs⟩
theorem VsR.nil {E : Env} : VsR E [] [] := rfl
theorem V1R.int {E : Env} (k : IntKind) (n : Int) : V1R E (.c (.imm (.int k n))) (.int k n) := ⟨rfl, rfl⟩
theorem V1R.bool {E : Env} (b : Bool) : V1R E (.c (.imm (.bool b))) (.bool b) := ⟨rfl, rfl⟩

end Go.Fw

/- Numbers of a fixed number of bits: widths, low bits, fields. -/
namespace Go.Proofs.Ytblnigjmcjpopaa
open Go.Fw
set_option linter.unusedVariables false
set_option linter.unusedSimpArgs false
set_option maxRecDepth 100000

abbrev gi : Sig := ⟨false, .int .i64⟩
abbrev I (n : Int) : AV := .cell (iv .i64 n)
abbrev I1 (n : Int) : V1 := .c (iv .i64 n)

def widthF (a : Int) : Int := imax 0 (imin a 62)
def widthS : PSpec := ⟨[gi], fun (a, _) => (none, I (widthF a), [])⟩
theorem width_ok : GoodF Try.prog 135 widthS.spec := by
  refine widthS.good (fn := Try.f135) (tab_ok (fs := []) tree_ok) specs_nil Try.func135 (by kernel_rfl) rfl fun (a : Int) _ => ?_
  repeat' first
    | (refine Go.mk ?_; conv => whnf)
    | refine Need.go ?_ ?_
    | refine Br.dec (fun _ => ?_) (fun _ => ?_)
    | refine Br.go (fun _ => ?_) (fun _ => ?_)
  exact .mk [] [] _ rfl rfl rfl rfl rfl rfl rfl

def lowF (a b : Int) : Int := land .i64 a (IntKind.i64.wrap (shl .i64 1 (widthF b) - 1))
def lowS : PSpec := ⟨[gi, gi], fun (a, b, _) => (none, I (lowF a b), [])⟩
theorem low_ok : GoodF Try.prog 70 lowS.spec := by
  have hT := tab_ok (fs := [(135, widthS.spec)]) tree_ok
  have hP : SpecsOk Try.prog (tab tree [(135, widthS.spec)]) := specs_cons width_ok specs_nil
  refine lowS.good (fn := Try.f70) hT hP Try.func70 (by kernel_rfl) rfl fun (a b : Int) _ => ?_
  repeat' first
    | (refine Go.mk ?_; conv => whnf)
    | refine Need.go ?_ ?_
    | refine Br.dec (fun _ => ?_) (fun _ => ?_)
    | refine Br.go (fun _ => ?_) (fun _ => ?_)
  · show 0 ≤ widthF b
    simp only [widthF, imax_eq]; omega
  · exact .mk [] [] _ rfl rfl rfl rfl rfl rfl rfl

def placeF (a b : Int) : Int × Int := (widthF a, imax 0 (imin b (IntKind.i64.wrap (62 - widthF a))))
def placeS : PSpec := ⟨[gi, gi], fun (a, b, _) => (none, .tup [I1 (placeF a b).1, I1 (placeF a b).2], [])⟩
theorem tup2_int {a b c d : Int} (h1 : a = c) (h2 : b = d) : AV.tup [I1 a, I1 b] = AV.tup [I1 c, I1 d] := by rw [h1, h2]
theorem place_ok : GoodF Try.prog 186 placeS.spec := by
  have hT := tab_ok (fs := [(135, widthS.spec)]) tree_ok
  have hP : SpecsOk Try.prog (tab tree [(135, widthS.spec)]) := specs_cons width_ok specs_nil
  refine placeS.good (fn := Try.f186) hT hP Try.func186 (by kernel_rfl) rfl fun (a b : Int) _ => ?_
  repeat' first
    | (refine Go.mk ?_; conv => whnf)
    | refine Need.go ?_ ?_
    | refine Br.dec (fun _ => ?_) (fun _ => ?_)
    | refine Br.go (fun _ => ?_) (fun _ => ?_)
  exact .mk [] [] _ rfl rfl rfl rfl rfl rfl rfl

def getF (n a s : Int) : Int := lowF (shr .i64 (lowF n 62) (placeF a s).1) (placeF a s).2
def getS : PSpec := ⟨[gi, gi, gi], fun (n, a, s, _) => (none, I (getF n a s), [])⟩
theorem placeF_nn (a s : Int) : 0 ≤ (placeF a s).1 ∧ 0 ≤ (placeF a s).2 := by
  simp only [placeF, widthF, imax_eq]
  constructor <;> omega
theorem get_ok : GoodF Try.prog 143 getS.spec := by
  have hT := tab_ok (fs := [(186, placeS.spec), (70, lowS.spec)]) tree_ok
  have hP : SpecsOk Try.prog (tab tree [(186, placeS.spec), (70, lowS.spec)]) := specs_cons place_ok (specs_cons low_ok specs_nil)
  refine getS.good (fn := Try.f143) hT hP Try.func143 (by kernel_rfl) rfl fun (n a s : Int) _ => ?_
  repeat' first
    | (refine Go.mk ?_; conv => whnf)
    | refine Need.go ?_ ?_
    | refine Br.dec (fun _ => ?_) (fun _ => ?_)
    | refine Br.go (fun _ => ?_) (fun _ => ?_)
  · exact (placeF_nn a s).1
  · exact .mk [] [] _ rfl rfl rfl rfl rfl rfl rfl

def putF (n a s v : Int) : Int :=
  lor .i64 (landNot .i64 (lowF n 62) (shl .i64 (IntKind.i64.wrap (shl .i64 1 (placeF a s).2 - 1)) (placeF a s).1)) (shl .i64 (lowF v (placeF a s).2) (placeF a s).1)
def putS : PSpec := ⟨[gi, gi, gi, gi], fun (n, a, s, v, _) => (none, I (putF n a s v), [])⟩
theorem put_ok : GoodF Try.prog 142 putS.spec := by
  have hT := tab_ok (fs := [(186, placeS.spec), (70, lowS.spec)]) tree_ok
  have hP : SpecsOk Try.prog (tab tree [(186, placeS.spec), (70, lowS.spec)]) := specs_cons place_ok (specs_cons low_ok specs_nil)
  refine putS.good (fn := Try.f142) hT hP Try.func142 (by kernel_rfl) rfl fun (n a s v : Int) _ => ?_
  repeat' first
    | (refine Go.mk ?_; conv => whnf)
    | refine Need.go ?_ ?_
    | refine Br.dec (fun _ => ?_) (fun _ => ?_)
    | refine Br.go (fun _ => ?_) (fun _ => ?_)
  · exact (placeF_nn a s).2
  · exact (placeF_nn a s).1
  · exact (placeF_nn a s).1
  · exact .mk [] [] _ rfl rfl rfl rfl rfl rfl rfl

theorem mixed : Try.prog.follows .mixedOrders = true := by kernel_rfl
abbrev gl : Sig := ⟨false, .sl (.int .i64)⟩

end Go.Proofs.Ytblnigjmcjpopaa

/- Plain arithmetic: numbers of 64 bits, their digits. -/
namespace Go.Proofs.Ytblnigjmcjpopaa
open Go.Fw
set_option linter.unusedVariables false
set_option linter.unusedSimpArgs false

theorem w64 {x : Int} (h1 : -9223372036854775808 ≤ x) (h2 : x ≤ 9223372036854775807) : IntKind.i64.wrap x = x := by
  rw [IntKind.wrap_i64]; omega

/-- the number below 2^64 -/
def u64 (x : Int) : Nat := (x % 18446744073709551616).toNat
theorem u64_lt (x : Int) : u64 x < 2 ^ 64 := by unfold u64; omega
theorem u64_nat {n : Nat} (h : n < 2 ^ 64) : u64 (n : Int) = n := by unfold u64; omega
theorem ofInt_toNat (x : Int) : (BitVec.ofInt 64 x).toNat = u64 x := by
  rw [BitVec.toNat_ofInt]; rfl

theorem land_nat (x y : Int) (h : u64 x &&& u64 y < 2 ^ 63) : land .i64 x y = ((u64 x &&& u64 y : Nat) : Int) := by
  show IntKind.i64.wrap (((BitVec.ofInt 64 x &&& BitVec.ofInt 64 y).toNat : Nat) : Int) = _
  rw [BitVec.toNat_and, ofInt_toNat, ofInt_toNat]
  exact w64 (by omega) (by omega)
theorem lor_nat (x y : Int) (h : u64 x ||| u64 y < 2 ^ 63) : lor .i64 x y = ((u64 x ||| u64 y : Nat) : Int) := by
  show IntKind.i64.wrap (((BitVec.ofInt 64 x ||| BitVec.ofInt 64 y).toNat : Nat) : Int) = _
  rw [BitVec.toNat_or, ofInt_toNat, ofInt_toNat]
  exact w64 (by omega) (by omega)
theorem landNot_nat (x y : Int) (h : u64 x < 2 ^ 63) : landNot .i64 x y = ((u64 x ^^^ (u64 x &&& u64 y) : Nat) : Int) := by
  have e : (BitVec.ofInt 64 x &&& ~~~(BitVec.ofInt 64 y)) = BitVec.ofInt 64 x ^^^ (BitVec.ofInt 64 x &&& BitVec.ofInt 64 y) := by
    apply BitVec.eq_of_getLsbD_eq
    intro i hi
    simp only [BitVec.getLsbD_and, BitVec.getLsbD_not, BitVec.getLsbD_xor, hi, decide_true, Bool.true_and]
    cases (BitVec.ofInt 64 x).getLsbD i <;> cases (BitVec.ofInt 64 y).getLsbD i <;> rfl
  show IntKind.i64.wrap (((BitVec.ofInt 64 x &&& ~~~(BitVec.ofInt 64 y)).toNat : Nat) : Int) = _
  rw [e, BitVec.toNat_xor, BitVec.toNat_and, ofInt_toNat, ofInt_toNat]
  have h2 : u64 x ^^^ (u64 x &&& u64 y) < 2 ^ 63 := Nat.xor_lt_two_pow h (Nat.lt_of_le_of_lt Nat.and_le_left h)
  exact w64 (by omega) (by omega)

theorem pow_le {a b : Nat} (h : a ≤ b) : 2 ^ a ≤ 2 ^ b := Nat.pow_le_pow_right (by omega) h

/-- 1 << b, less one -/
theorem mask_eq {b : Nat} (h : b ≤ 62) : IntKind.i64.wrap (shl .i64 1 b - 1) = ((2 ^ b - 1 : Nat) : Int) := by
  have h1 : 2 ^ b ≤ 2 ^ 62 := pow_le h
  have h2 : 0 < 2 ^ b := Nat.pow_pos (by omega)
  have e : shl .i64 1 (b : Int) = ((2 ^ b : Nat) : Int) := by
    show IntKind.i64.wrap (1 * 2 ^ (min ((b : Int).toNat) 64)) = _
    have : min ((b : Int).toNat) 64 = b := by omega
    rw [this, Int.one_mul]
    have e2 : (2 : Int) ^ b = ((2 ^ b : Nat) : Int) := by simp
    rw [e2]
    exact w64 (by omega) (by omega)
  rw [e, w64 (by omega) (by omega)]
  omega

theorem shl_eq {x b : Nat} (h : x * 2 ^ b < 2 ^ 63) (hb : b ≤ 62) : shl .i64 (x : Int) (b : Int) = ((x * 2 ^ b : Nat) : Int) := by
  show IntKind.i64.wrap ((x : Int) * 2 ^ (min ((b : Int).toNat) 64)) = _
  have : min ((b : Int).toNat) 64 = b := by omega
  rw [this]
  have e2 : (x : Int) * 2 ^ b = ((x * 2 ^ b : Nat) : Int) := by simp
  rw [e2]
  exact w64 (by omega) (by omega)
theorem shr_eq {x b : Nat} (hb : b ≤ 64) : shr .i64 (x : Int) (b : Int) = ((x / 2 ^ b : Nat) : Int) := by
  show (x : Int).fdiv (2 ^ (min ((b : Int).toNat) 64)) = _
  have : min ((b : Int).toNat) 64 = b := by omega
  rw [this]
  have e2 : (2 : Int) ^ b = ((2 ^ b : Nat) : Int) := by simp
  rw [e2, Int.fdiv_eq_ediv_of_nonneg _ (Int.natCast_nonneg _)]
  simp

/-- the digits, the lowest first -/
def bitsN (m k : Nat) : List Int := (List.range k).map fun i => ((m / 2 ^ i % 2 : Nat) : Int)
theorem bitsN_len (m k : Nat) : (bitsN m k).length = k := by simp [bitsN]
theorem bitsN_succ (m k : Nat) : bitsN m (k + 1) = ((m % 2 : Nat) : Int) :: bitsN (m / 2) k := by
  unfold bitsN
  rw [List.range_succ_eq_map, List.map_cons, List.map_map]
  congr 1
  · simp
  · apply List.map_congr_left
    intro i _
    show ((m / 2 ^ (i + 1) % 2 : Nat) : Int) = ((m / 2 / 2 ^ i % 2 : Nat) : Int)
    rw [Nat.pow_succ, Nat.mul_comm, ← Nat.div_div_eq_div_mul]
theorem bitsN_add (m j : Nat) : ∀ k, bitsN m (j + k) = bitsN m j ++ bitsN (m / 2 ^ j) k := by
  intro k
  unfold bitsN
  rw [List.range_add, List.map_append, List.map_map]
  congr 1
  apply List.map_congr_left
  intro i _
  show ((m / 2 ^ (j + i) % 2 : Nat) : Int) = ((m / 2 ^ j / 2 ^ i % 2 : Nat) : Int)
  rw [Nat.pow_add, ← Nat.div_div_eq_div_mul]
theorem bitsN_mod {m m' k : Nat} (h : m % 2 ^ k = m' % 2 ^ k) : bitsN m k = bitsN m' k := by
  unfold bitsN
  apply List.map_congr_left
  intro i hi
  have hi : i < k := List.mem_range.1 hi
  have key : ∀ x : Nat, x / 2 ^ i % 2 = x % 2 ^ k / 2 ^ i % 2 := by
    intro x
    have e : 2 ^ k = 2 ^ (i + 1) * 2 ^ (k - (i + 1)) := by rw [← Nat.pow_add]; congr 1; omega
    have h1 : x % 2 ^ k % 2 ^ (i + 1) = x % 2 ^ (i + 1) := by rw [e]; exact Nat.mod_mul_right_mod _ _ _
    have h2 : ∀ y : Nat, y / 2 ^ i % 2 = y % 2 ^ (i + 1) / 2 ^ i := by
      intro y
      rw [Nat.pow_succ, Nat.mod_mul_right_div_self]
    rw [h2, h2, h1]
  rw [key m, key m', h]
theorem bitsN_drop (m f k : Nat) (h : f ≤ k) : (bitsN m k).drop f = bitsN (m / 2 ^ f) (k - f) := by
  have : k = f + (k - f) := by omega
  rw [this, bitsN_add, List.drop_left' (bitsN_len _ _)]
  congr 1; omega
theorem bitsN_take (m f k : Nat) (h : f ≤ k) : (bitsN m k).take f = bitsN m f := by
  have : k = f + (k - f) := by omega
  rw [this, bitsN_add, List.take_left' (bitsN_len _ _)]

theorem xor_and_testBit (x y i : Nat) : (x ^^^ (x &&& y)).testBit i = (x.testBit i && !y.testBit i) := by
  rw [Nat.testBit_xor, Nat.testBit_and]
  cases x.testBit i <;> cases y.testBit i <;> rfl

end Go.Proofs.Ytblnigjmcjpopaa

/- What the low bits of a number are as arithmetic. -/
namespace Go.Proofs.Ytblnigjmcjpopaa
open Go.Fw
set_option linter.unusedVariables false
set_option linter.unusedSimpArgs false

theorem widthF_in (b : Int) : 0 ≤ widthF b ∧ widthF b ≤ 62 := by
  simp only [widthF, imax_eq, imin_eq]; omega
theorem widthF_id {b : Int} (h1 : 0 ≤ b) (h2 : b ≤ 62) : widthF b = b := by
  simp only [widthF, imax_eq, imin_eq]; omega
theorem lowF_eq (x b : Int) : lowF x b = ((u64 x % 2 ^ (widthF b).toNat : Nat) : Int) := by
  obtain ⟨h1, h2⟩ := widthF_in b
  unfold lowF
  generalize widthF b = w at h1 h2
  obtain ⟨k, rfl⟩ := Int.eq_ofNat_of_zero_le h1
  have hk : k ≤ 62 := by omega
  have h3 : 2 ^ k ≤ 2 ^ 62 := pow_le hk
  have h4 : 0 < 2 ^ k := Nat.pow_pos (by omega)
  rw [mask_eq hk]
  have e : u64 ((2 ^ k - 1 : Nat) : Int) = 2 ^ k - 1 := u64_nat (by omega)
  have e2 : u64 x &&& (2 ^ k - 1) = u64 x % 2 ^ k := Nat.and_two_pow_sub_one_eq_mod _ _
  have h5 : u64 x % 2 ^ k < 2 ^ k := Nat.mod_lt _ h4
  rw [land_nat _ _ (by rw [e, e2]; omega), e, e2]
  simp

end Go.Proofs.Ytblnigjmcjpopaa

/- Contracts of functions that write into what they are handed. -/
namespace Go.Fw
set_option linter.unusedVariables false
set_option linter.unusedSimpArgs false

structure WSpec where
  X : Type
  args : X → List V1
  bl : X → List Blk
  rd : List V1 → List Blk → Option X
  out : X → Option Prop × AV × List (Option Blk) × List Blk

def WSpec.spec (s : WSpec) : CSpec := { wr := true, run := fun args bl => match s.rd args bl with
  | some x => some (s.out x)
  | none => none }

theorem WSpec.good {P : Program} {T : Tab} {f : FuncId} {fn : Func} (hT : TabOk P T) (hP : SpecsOk P T) (hf : P.funcs[f]? = some fn) (hn : (fn.name == "runtime.NumGoroutine") = false) (s : WSpec) (hb : fn.body.isSome = true)
    (hrd : ∀ a b x, s.rd a b = some x → a = s.args x ∧ b = s.bl x)
    (h : ∀ x, (∀ q, (s.out x).1 = some q → q) → Go (startR P T fn (s.args x) (s.bl x) (s.out x).2.1 (s.out x).2.2.1 (s.out x).2.2.2)) : GoodF P f s.spec := by
  refine ⟨?_, fn, hf, hn, hb⟩
  obtain ⟨c, hc⟩ := Option.isSome_iff_exists.1 hb
  refine fn_sound hT hf hc _ fun args bl p r upd fresh hrun hp => ?_
  unfold WSpec.spec at hrun
  simp only at hrun
  split at hrun
  · rename_i x hx
    obtain ⟨rfl, rfl⟩ := hrd _ _ _ hx
    injection hrun with hrun
    have h1 := (h x (by rw [hrun]; exact hp)).out
    rw [hrun, startR_eq] at h1
    refine ⟨_, fun E vs _ _ hv => hv, ?_⟩
    unfold startC at h1
    rw [hc] at h1
    simp only [fV1s_eq, fBlks_eq, fSt_eq] at h1
    exact ex_sound hT hP c h1
  · cases hrun

end Go.Fw

/- What all chips share: numbers in their form, states compared. -/
namespace Go.Proofs.Ytblnigjmcjpopaa
open Go.Fw
set_option linter.unusedVariables false
set_option linter.unusedSimpArgs false
set_option maxRecDepth 100000

abbrev gD : Sig := ⟨true, .pair (.sl (.int .i64)) (.sl (.int .u8))⟩
abbrev gC : Sig := ⟨true, .pair .str (.pair (.int .i64) (.pair (.int .i64) (.pair (.int .i64) (.sl (.int .u8)))))⟩
abbrev gb : Sig := ⟨false, .sl (.int .u8)⟩
abbrev Dv := List Int × List Int
abbrev Cv := ByteArray × Int × Int × Int × List Int

theorem lowF_mod (n b : Int) (h1 : 0 ≤ b) (h2 : b ≤ 62) : lowF n b = n % 2 ^ b.toNat := by
  rw [lowF_eq, widthF_id h1 h2]
  obtain ⟨k, rfl⟩ := Int.eq_ofNat_of_zero_le h1
  have hk : k ≤ 62 := by omega
  have e : (18446744073709551616 : Int) = ((2 ^ k : Nat) : Int) * ((2 ^ (64 - k) : Nat) : Int) := by
    have : (18446744073709551616 : Nat) = 2 ^ k * 2 ^ (64 - k) := by
      rw [← Nat.pow_add]
      have : k + (64 - k) = 64 := by omega
      rw [this]
    rw [← Int.natCast_mul, ← this]; rfl
  have e2 : (2 : Int) ^ k = ((2 ^ k : Nat) : Int) := by simp
  show ((u64 n % 2 ^ k : Nat) : Int) = n % 2 ^ k
  rw [e2, Int.natCast_emod]
  have : ((u64 n : Nat) : Int) = n % 18446744073709551616 := by unfold u64; omega
  rw [this]
  exact Int.emod_emod_of_dvd n ⟨_, e⟩

def lowM : PSpec := ⟨[gi, gi], fun (n, b, _) => (some (0 ≤ b ∧ b ≤ 62), I (n % 2 ^ b.toNat), [])⟩
theorem lowM_ok : GoodF Try.prog 70 lowM.spec := by
  have hT := tab_ok (fs := [(135, widthS.spec)]) tree_ok
  have hP : SpecsOk Try.prog (tab tree [(135, widthS.spec)]) := specs_cons width_ok specs_nil
  refine lowM.good (fn := Try.f70) hT hP Try.func70 (by kernel_rfl) rfl fun (a b : Int) hp => ?_
  have hp : 0 ≤ b ∧ b ≤ 62 := hp _ rfl
  repeat' first
    | (refine Go.mk ?_; conv => whnf)
    | refine Need.go ?_ ?_
    | refine NilG.go (fun _ => ?_) (fun _ => ?_)
    | refine Br.dec (fun _ => ?_) (fun _ => ?_)
    | refine Br.go (fun _ => ?_) (fun _ => ?_)
    | refine draw_go hT hP mixed ?_
    | refine round_go hT hP ?_
  · show 0 ≤ widthF b
    simp only [widthF, imax_eq]; omega
  · refine .mk [] [] _ rfl rfl rfl rfl rfl rfl (imm_int ?_)
    exact lowF_mod a b hp.1 hp.2

def modS : PSpec := ⟨[gi, gi], fun (n, m, _) => (some (0 < m ∧ m ≤ 4611686018427387904), I (n % m), [])⟩
theorem tmod_lt (n : Int) {m : Int} (h : 0 < m) : -m < n.tmod m ∧ n.tmod m < m := by
  constructor
  · have := Int.lt_tmod_of_pos n h; omega
  · exact Int.tmod_lt_of_pos n h
theorem mod_eq (n : Int) {m : Int} (h : 0 < m) (h2 : m ≤ 4611686018427387904) : (IntKind.i64.wrap (n.tmod m + m)).tmod m = n % m := by
  obtain ⟨h3, h4⟩ := tmod_lt n h
  rw [w64 (by omega) (by omega), Int.tmod_eq_emod_of_nonneg (by omega), Int.add_emod_right]
  by_cases hn : 0 ≤ n
  · rw [Int.tmod_eq_emod_of_nonneg hn, Int.emod_emod]
  · have e := Int.mul_tdiv_add_tmod n m
    rw [← Int.add_mul_emod_self_left (n.tmod m) m (n.tdiv m), Int.add_comm, e]
theorem mod_ok : GoodF Try.prog 76 modS.spec := by
  have hT := tab_ok (fs := []) tree_ok
  have hP : SpecsOk Try.prog (tab tree []) := specs_nil
  refine modS.good (fn := Try.f76) hT hP Try.func76 (by kernel_rfl) rfl fun (n m : Int) hp => ?_
  have hp : 0 < m ∧ m ≤ 4611686018427387904 := hp _ rfl
  repeat' first
    | (refine Go.mk ?_; conv => whnf)
    | refine Need.go ?_ ?_
    | refine NilG.go (fun _ => ?_) (fun _ => ?_)
    | refine Br.dec (fun _ => ?_) (fun _ => ?_)
    | refine Br.go (fun _ => ?_) (fun _ => ?_)
    | refine draw_go hT hP mixed ?_
    | refine round_go hT hP ?_
  · omega
  · omega
  · refine .mk [] [] _ rfl rfl rfl rfl rfl rfl (imm_int ?_)
    exact mod_eq n hp.1 hp.2

/-- numbers in their form -/
def formG (N : List Int) : List Int → Nat → List Int
  | [], _ => []
  | m :: ms, i => N.getD i 0 % m :: formG N ms (i + 1)
theorem formG_len (N : List Int) : ∀ (ms : List Int) (i : Nat), (formG N ms i).length = ms.length
  | [], _ => rfl
  | m :: ms, i => by simp [formG, formG_len N ms]
theorem formG_take (N : List Int) : ∀ (ms : List Int) (i k : Nat), k < ms.length → formG N (ms.take (k + 1)) i = formG N (ms.take k) i ++ [N.getD (i + k) 0 % ms.getD k 0]
  | m :: ms, i, 0, _ => by simp [formG]
  | m :: ms, i, k + 1, h => by
    have := formG_take N ms (i + 1) k (by simpa using h)
    simp only [List.take_succ_cons, formG, this, List.cons_append]
    have e : i + 1 + k = i + (k + 1) := by omega
    rw [e]; simp
def formK (N ms : List Int) (k : Nat) : List Int := formG N (ms.take k) 0 ++ List.replicate (ms.length - k) 0
theorem formK_len (N ms : List Int) {k : Nat} (h : k ≤ ms.length) : (formK N ms k).length = ms.length := by
  simp [formK, formG_len]; omega
theorem formK_set (N ms : List Int) {k : Nat} (h : k < ms.length) : (formK N ms k).set k (N.getD k 0 % ms.getD k 0) = formK N ms (k + 1) := by
  unfold formK
  have hl : (formG N (ms.take k) 0).length = k := by rw [formG_len, List.length_take]; omega
  have e : ms.length - k = (ms.length - (k + 1)) + 1 := by omega
  rw [e, List.replicate_succ, List.set_append, if_neg (by omega), hl, Nat.sub_self, List.set_cons_zero, formG_take N ms 0 k h]
  simp
theorem formK_same (N ms : List Int) {k : Nat} (h : k < ms.length) (h2 : N.length ≤ k) : formK N ms k = formK N ms (k + 1) := by
  rw [← formK_set N ms h]
  have : N.getD k 0 = 0 := by simp [h2]
  rw [this, Int.zero_emod]
  have hl : (formG N (ms.take k) 0).length = k := by rw [formG_len, List.length_take]; omega
  unfold formK
  have e : ms.length - k = (ms.length - (k + 1)) + 1 := by omega
  rw [e, List.replicate_succ, List.set_append, if_neg (by omega), hl, Nat.sub_self, List.set_cons_zero]

def formS : PSpec := ⟨[gD, gl], fun (d, ms, _) => (some (List.length ms ≤ 1000 ∧ (∀ m ∈ ms, 0 < m ∧ m ≤ 4611686018427387904)), .cell (.own 0), [.arr (.int .i64) (formG d.1 ms 0)])⟩
theorem form_ok : GoodF Try.prog 117 formS.spec := by
  have hT := tab_ok (fs := [(76, modS.spec)]) tree_ok
  have hP : SpecsOk Try.prog (tab tree [(76, modS.spec)]) := specs_cons mod_ok specs_nil
  refine formS.good (fn := Try.f117) hT hP Try.func117 (by kernel_rfl) rfl fun (d : Dv) (ms : List Int) hp => ?_
  obtain ⟨N, M⟩ := d
  obtain ⟨hp, hm⟩ : ms.length ≤ 1000 ∧ (∀ m ∈ ms, 0 < m ∧ m ≤ 4611686018427387904) := hp _ rfl
  repeat' first
    | (refine Go.mk ?_; conv => whnf)
    | refine Need.go ?_ ?_
    | refine NilG.go (fun _ => ?_) (fun _ => ?_)
    | refine Br.dec (fun _ => ?_) (fun _ => ?_)
    | refine Br.go (fun _ => ?_) (fun _ => ?_)
    | refine draw_go hT hP mixed ?_
    | refine round_go hT hP ?_
  · have : ty3.bytes = 8 := rfl
    rw [this]; omega
  refine loop_go hT hP (X := Int × List Int) (fun (i, n) => St.mk [.dead, .dead, .cell (.ptr 0 0), .dead, .dead, .cell (.own 1), .dead, .dead, .dead, .dead, .dead, .cell (.ro (.int .i64) ms), I ms.length, I i, .dead, .dead, .dead, .dead, .dead, .dead, .dead, .dead, .dead, .dead, .dead, .dead, .dead, .dead, .dead, .dead, .dead, .dead, .dead, .dead, .dead] [some (.var [.ro (.int .i64) N, .ro (.int .u8) M]), some (.arr (.int .i64) n)])
    (fun (i, n) => ∃ k : Nat, i = k ∧ k ≤ ms.length ∧ n = formK N ms k) (fun (i, _) => (ms.length - i).toNat) (0, List.replicate ms.length 0) (Le.mk [] [0, 1] rfl rfl ?_ ?_) ?_ fun (i, n) hi => ?_
  rotate_right
  repeat' first
    | (refine Go.mk ?_; conv => whnf)
    | refine Need.go ?_ ?_
    | refine NilG.go (fun _ => ?_) (fun _ => ?_)
    | refine Br.dec (fun _ => ?_) (fun _ => ?_)
    | refine Br.go (fun _ => ?_) (fun _ => ?_)
    | refine draw_go hT hP mixed ?_
    | refine round_go hT hP ?_
  · obtain ⟨k, rfl, hk, rfl⟩ := hi
    omega
  · obtain ⟨k, rfl, hk, rfl⟩ := hi
    omega
  · obtain ⟨k, rfl, hk, rfl⟩ := hi
    have hlt : k < ms.length := by omega
    refine hm _ ?_
    show ms.getD k 0 ∈ ms
    simp [hlt]
  · obtain ⟨k, rfl, hk, rfl⟩ := hi
    rw [formK_len N ms hk]; omega
  · obtain ⟨k, rfl, hk, rfl⟩ := hi
    rw [formK_len N ms hk]; omega
  · obtain ⟨k, rfl, hk, rfl⟩ := hi
    have hlt : k < ms.length := by omega
    have e : IntKind.i64.wrap ((k : Int) + 1) = ((k + 1 : Nat) : Int) := by rw [w64 (by omega) (by omega)]; omega
    apply Exists.intro (_, _)
    refine And.intro ?_ (And.intro ?_ (Le.mk [] [0, 1] rfl rfl ?hh ?ht))
    case hh => exact rfl
    case ht => repeat' first | exact trivial | exact ⟨rfl, rfl⟩ | refine And.intro ?_ ?_
    · exact ⟨k + 1, e, by omega, formK_set N ms hlt⟩
    · show (ms.length - IntKind.i64.wrap ((k : Int) + 1)).toNat < (ms.length - (k : Int)).toNat
      rw [e]; omega
  · obtain ⟨k, rfl, hk, rfl⟩ := hi
    have hlt : k < ms.length := by omega
    have e : IntKind.i64.wrap ((k : Int) + 1) = ((k + 1 : Nat) : Int) := by rw [w64 (by omega) (by omega)]; omega
    apply Exists.intro (_, _)
    refine And.intro ?_ (And.intro ?_ (Le.mk [] [0, 1] rfl rfl ?hh ?ht))
    case hh => exact rfl
    case ht => repeat' first | exact trivial | exact ⟨rfl, rfl⟩ | refine And.intro ?_ ?_
    · exact ⟨k + 1, e, by omega, formK_same N ms hlt (by omega)⟩
    · show (ms.length - IntKind.i64.wrap ((k : Int) + 1)).toNat < (ms.length - (k : Int)).toNat
      rw [e]; omega
  · obtain ⟨k, rfl, hk, rfl⟩ := hi
    refine .mk [] [1] _ rfl rfl rfl rfl rfl ?_ rfl
    have e : k = ms.length := by omega
    subst e
    show [some (Blk.arr (.int .i64) (formK N ms ms.length))] = [some (Blk.arr (.int .i64) (formG N ms 0))]
    simp [formK]
  · exact rfl
  · repeat' first | exact trivial | exact ⟨rfl, rfl⟩ | refine And.intro ?_ ?_
  · exact ⟨0, rfl, by omega, by simp [formK, formG]⟩

def eqiS : PSpec := ⟨[gl, gl], fun (a, b, _) => (some (List.length a ≤ 4611686018427387904), .cell (bv (decide (a = b))), [])⟩
theorem eqi_ok : GoodF Try.prog 101 eqiS.spec := by
  have hT := tab_ok (fs := []) tree_ok
  have hP : SpecsOk Try.prog (tab tree []) := specs_nil
  refine eqiS.good (fn := Try.f101) hT hP Try.func101 (by kernel_rfl) rfl fun (a b : List Int) hp => ?_
  have hp : a.length ≤ 4611686018427387904 := hp _ rfl
  repeat' first
    | (refine Go.mk ?_; conv => whnf)
    | refine Need.go ?_ ?_
    | refine NilG.go (fun _ => ?_) (fun _ => ?_)
    | refine Br.dec (fun _ => ?_) (fun _ => ?_)
    | refine Br.go (fun _ => ?_) (fun _ => ?_)
    | refine draw_go hT hP mixed ?_
    | refine round_go hT hP ?_
  · rename_i h
    refine .mk [] [] _ rfl rfl rfl rfl rfl rfl (imm_bool ?_)
    have h : ((a.length : Int) != (b.length : Int)) = true := h
    simp only [bne_iff_ne, ne_eq] at h
    exact (decide_eq_false fun e => h (by rw [e])).symm
  rename_i hl
  have hl : ((a.length : Int) != (b.length : Int)) = false := hl
  have hl : a.length = b.length := by simp at hl; omega
  refine loop_go hT hP (X := Int) (fun i => St.mk [.cell (.ro (.int .i64) a), .cell (.ro (.int .i64) b), .dead, .dead, .dead, .dead, .dead, .dead, .dead, .dead, .dead, .dead, I a.length, I i, .dead, .dead, .dead, .dead, .dead, .dead, .dead, .dead, .dead, .dead, .dead, .dead] [])
    (fun i => ∃ k : Nat, i = k ∧ k ≤ a.length ∧ a.take k = b.take k) (fun i => (a.length - i).toNat) 0 (Le.mk [] [] rfl rfl rfl ?_) ?_ fun i hi => ?_
  rotate_right
  repeat' first
    | (refine Go.mk ?_; conv => whnf)
    | refine Need.go ?_ ?_
    | refine NilG.go (fun _ => ?_) (fun _ => ?_)
    | refine Br.dec (fun _ => ?_) (fun _ => ?_)
    | refine Br.go (fun _ => ?_) (fun _ => ?_)
    | refine draw_go hT hP mixed ?_
    | refine round_go hT hP ?_
  · obtain ⟨k, rfl, hk, h0⟩ := hi
    omega
  · obtain ⟨k, rfl, hk, h0⟩ := hi
    omega
  · rename_i hne
    obtain ⟨k, rfl, hk, h0⟩ := hi
    have hne : (a.getD k 0 != b.getD k 0) = true := hne
    refine .mk [] [] _ rfl rfl rfl rfl rfl rfl (imm_bool ?_)
    simp only [bne_iff_ne, ne_eq] at hne
    exact (decide_eq_false fun e => hne (by rw [e])).symm
  · rename_i hne
    obtain ⟨k, rfl, hk, h0⟩ := hi
    have hne : (a.getD k 0 != b.getD k 0) = false := hne
    have hlt : k < a.length := by omega
    have hlb : k < b.length := by omega
    have e : IntKind.i64.wrap ((k : Int) + 1) = ((k + 1 : Nat) : Int) := by rw [w64 (by omega) (by omega)]; omega
    apply Exists.intro _
    refine And.intro ?_ (And.intro ?_ (Le.mk [] [] rfl rfl ?hh ?ht))
    case hh => exact rfl
    case ht => repeat' first | exact trivial | exact ⟨rfl, rfl⟩ | refine And.intro ?_ ?_
    · refine ⟨k + 1, e, by omega, ?_⟩
      rw [List.take_succ_eq_append_getElem hlt, List.take_succ_eq_append_getElem hlb, h0]
      have hne : a[k] = b[k] := by simpa [hlt, hlb] using hne
      rw [hne]
    · show (a.length - IntKind.i64.wrap ((k : Int) + 1)).toNat < (a.length - (k : Int)).toNat
      rw [e]; omega
  · obtain ⟨k, rfl, hk, h0⟩ := hi
    refine .mk [] [] _ rfl rfl rfl rfl rfl rfl (imm_bool ?_)
    rw [List.take_of_length_le (by omega), List.take_of_length_le (by omega)] at h0
    exact (decide_eq_true h0).symm
  · repeat' first | exact trivial | exact ⟨rfl, rfl⟩ | refine And.intro ?_ ?_
  · exact ⟨0, rfl, by omega, rfl⟩

def eqbS : PSpec := ⟨[gb, gb], fun (a, b, _) => (some (List.length a ≤ 4611686018427387904), .cell (bv (decide (a = b))), [])⟩
theorem eqb_ok : GoodF Try.prog 102 eqbS.spec := by
  have hT := tab_ok (fs := []) tree_ok
  have hP : SpecsOk Try.prog (tab tree []) := specs_nil
  refine eqbS.good (fn := Try.f102) hT hP Try.func102 (by kernel_rfl) rfl fun (a b : List Int) hp => ?_
  have hp : a.length ≤ 4611686018427387904 := hp _ rfl
  repeat' first
    | (refine Go.mk ?_; conv => whnf)
    | refine Need.go ?_ ?_
    | refine NilG.go (fun _ => ?_) (fun _ => ?_)
    | refine Br.dec (fun _ => ?_) (fun _ => ?_)
    | refine Br.go (fun _ => ?_) (fun _ => ?_)
    | refine draw_go hT hP mixed ?_
    | refine round_go hT hP ?_
  · rename_i h
    refine .mk [] [] _ rfl rfl rfl rfl rfl rfl (imm_bool ?_)
    have h : ((a.length : Int) != (b.length : Int)) = true := h
    simp only [bne_iff_ne, ne_eq] at h
    exact (decide_eq_false fun e => h (by rw [e])).symm
  rename_i hl
  have hl : ((a.length : Int) != (b.length : Int)) = false := hl
  have hl : a.length = b.length := by simp at hl; omega
  refine loop_go hT hP (X := Int) (fun i => St.mk [.cell (.ro (.int .u8) a), .cell (.ro (.int .u8) b), .dead, .dead, .dead, .dead, .dead, .dead, .dead, .dead, .dead, .dead, I a.length, I i, .dead, .dead, .dead, .dead, .dead, .dead, .dead, .dead, .dead, .dead, .dead, .dead] [])
    (fun i => ∃ k : Nat, i = k ∧ k ≤ a.length ∧ a.take k = b.take k) (fun i => (a.length - i).toNat) 0 (Le.mk [] [] rfl rfl rfl ?_) ?_ fun i hi => ?_
  rotate_right
  repeat' first
    | (refine Go.mk ?_; conv => whnf)
    | refine Need.go ?_ ?_
    | refine NilG.go (fun _ => ?_) (fun _ => ?_)
    | refine Br.dec (fun _ => ?_) (fun _ => ?_)
    | refine Br.go (fun _ => ?_) (fun _ => ?_)
    | refine draw_go hT hP mixed ?_
    | refine round_go hT hP ?_
  · obtain ⟨k, rfl, hk, h0⟩ := hi
    omega
  · obtain ⟨k, rfl, hk, h0⟩ := hi
    omega
  · rename_i hne
    obtain ⟨k, rfl, hk, h0⟩ := hi
    have hne : (a.getD k 0 != b.getD k 0) = true := hne
    refine .mk [] [] _ rfl rfl rfl rfl rfl rfl (imm_bool ?_)
    simp only [bne_iff_ne, ne_eq] at hne
    exact (decide_eq_false fun e => hne (by rw [e])).symm
  · rename_i hne
    obtain ⟨k, rfl, hk, h0⟩ := hi
    have hne : (a.getD k 0 != b.getD k 0) = false := hne
    have hlt : k < a.length := by omega
    have hlb : k < b.length := by omega
    have e : IntKind.i64.wrap ((k : Int) + 1) = ((k + 1 : Nat) : Int) := by rw [w64 (by omega) (by omega)]; omega
    apply Exists.intro _
    refine And.intro ?_ (And.intro ?_ (Le.mk [] [] rfl rfl ?hh ?ht))
    case hh => exact rfl
    case ht => repeat' first | exact trivial | exact ⟨rfl, rfl⟩ | refine And.intro ?_ ?_
    · refine ⟨k + 1, e, by omega, ?_⟩
      rw [List.take_succ_eq_append_getElem hlt, List.take_succ_eq_append_getElem hlb, h0]
      have hne : a[k] = b[k] := by simpa [hlt, hlb] using hne
      rw [hne]
    · show (a.length - IntKind.i64.wrap ((k : Int) + 1)).toNat < (a.length - (k : Int)).toNat
      rw [e]; omega
  · obtain ⟨k, rfl, hk, h0⟩ := hi
    refine .mk [] [] _ rfl rfl rfl rfl rfl rfl (imm_bool ?_)
    rw [List.take_of_length_le (by omega), List.take_of_length_le (by omega)] at h0
    exact (decide_eq_true h0).symm
  · repeat' first | exact trivial | exact ⟨rfl, rfl⟩ | refine And.intro ?_ ?_
  · exact ⟨0, rfl, by omega, rfl⟩

def sameS : PSpec := ⟨[gD, gD], fun (x, y, _) => (some (List.length x.1 ≤ 4611686018427387904 ∧ List.length x.2 ≤ 4611686018427387904), .cell (bv (decide (x.1 = y.1) && decide (x.2 = y.2))), [])⟩
theorem same_ok : GoodF Try.prog 48 sameS.spec := by
  have hT := tab_ok (fs := [(101, eqiS.spec), (102, eqbS.spec)]) tree_ok
  have hP : SpecsOk Try.prog (tab tree [(101, eqiS.spec), (102, eqbS.spec)]) := specs_cons eqi_ok (specs_cons eqb_ok specs_nil)
  refine sameS.good (fn := Try.f48) hT hP Try.func48 (by kernel_rfl) rfl fun (x y : Dv) hp => ?_
  obtain ⟨N, M⟩ := x
  obtain ⟨N', M'⟩ := y
  obtain ⟨h1, h2⟩ : N.length ≤ 4611686018427387904 ∧ M.length ≤ 4611686018427387904 := hp _ rfl
  repeat' first
    | (refine Go.mk ?_; conv => whnf)
    | refine Need.go ?_ ?_
    | refine NilG.go (fun _ => ?_) (fun _ => ?_)
    | refine Br.dec (fun _ => ?_) (fun _ => ?_)
    | refine Br.go (fun _ => ?_) (fun _ => ?_)
    | refine draw_go hT hP mixed ?_
    | refine round_go hT hP ?_
  all_goals first
    | exact h1
    | exact h2
    | (rename_i h
       refine .mk [] [] _ rfl rfl rfl rfl rfl rfl (imm_bool ?_)
       show _ = (decide (N = N') && decide (M = M'))
       have h : N = N' := h
       rw [decide_eq_true h]; rfl)
    | (rename_i h
       refine .mk [] [] _ rfl rfl rfl rfl rfl rfl (imm_bool ?_)
       show _ = (decide (N = N') && decide (M = M'))
       have h : ¬ N = N' := h
       rw [decide_eq_false h]; rfl)

end Go.Proofs.Ytblnigjmcjpopaa

/- What all chips share: their result, the choice of a register. -/
namespace Go.Proofs.Ytblnigjmcjpopaa
open Go.Fw
set_option linter.unusedVariables false
set_option linter.unusedSimpArgs false
set_option maxRecDepth 100000

abbrev devR : AV := .agg [.own 0, .imm (.slice none 0 0)]
def pickF (l : List Int) (a : Int) : Int := if a < 0 then 0 else if a ≥ l.length then 0 else l.getD a.toNat 0
def pickS : WSpec := ⟨List Int × Int, fun x => [.c (.own 0), .c (.ptr 1 0)], fun x => [.arr (.int .i64) x.1, .var [iv .i64 x.2]], fun a b => (match a, b with | [.c (.own 0), .c (.ptr 1 0)], [.arr (.int .i64) l, .var [.imm (.int .i64 n)]] => some (l, n) | _, _ => none),
  fun x => (none, I (pickF x.1 x.2), [some (.arr (.int .i64) x.1), some (.var [iv .i64 x.2])], [])⟩
theorem pick_no {l : List Int} {a : Int} (h : ∀ i : Nat, i < l.length → ¬ a = i) : pickF l a = 0 := by
  unfold pickF
  split
  · rfl
  · split
    · rfl
    · rename_i h1 h2
      exact absurd (by omega : a = (a.toNat : Int)) (h a.toNat (by omega))

end Go.Proofs.Ytblnigjmcjpopaa

/- The chip that sends and receives bytes: forming, cycles. -/
namespace Go.Proofs.Ytblnigjmcjpopaa
open Go.Fw
set_option linter.unusedVariables false
set_option linter.unusedSimpArgs false
set_option maxRecDepth 100000

theorem blk_eqs {l l' : List Int} (h : l = l') : [some (Blk.arr (.int .i64) l)] = [some (Blk.arr (.int .i64) l')] := by rw [h]
def iterF (f : List Int → List Int) : Nat → List Int → List Int
  | 0, l => l
  | n + 1, l => iterF f n (f l)
theorem iterF_add (f : List Int → List Int) : ∀ (m n : Nat) (l : List Int), iterF f (m + n) l = iterF f n (iterF f m l)
  | 0, n, l => by rw [Nat.zero_add]; rfl
  | m + 1, n, l => by
    have e : m + 1 + n = (m + n) + 1 := by omega
    rw [e]
    exact iterF_add f m n (f l)
theorem iterF_succ (f : List Int → List Int) (n : Nat) (l : List Int) : iterF f (n + 1) l = f (iterF f n l) := by
  rw [iterF_add f n 1]; rfl
theorem iterF_fix {f : List Int → List Int} {l : List Int} (h : f l = l) : ∀ n, iterF f n l = l
  | 0 => rfl
  | n + 1 => by rw [iterF, h]; exact iterF_fix h n

def serC : Cv := (ByteArray.empty, 5, 0, 0, [])
abbrev s0 (N : List Int) : Int := N.getD 0 0 % 256
abbrev s1 (N : List Int) : Int := N.getD 1 0 % 64
abbrev s2 (N : List Int) : Int := N.getD 2 0 % 256
abbrev s3 (N : List Int) : Int := N.getD 3 0 % 2
abbrev s4 (N : List Int) : Int := N.getD 4 0 % 2
abbrev s5 (N : List Int) : Int := N.getD 5 0 % 4
abbrev s6 (N : List Int) : Int := N.getD 6 0 % 1048576
abbrev s7 (N : List Int) : Int := N.getD 7 0 % 256
def serN (N : List Int) : List Int := [s0 N, s1 N, s2 N, s3 N, s4 N, s5 N, s6 N, s7 N]
theorem serN_eq (N : List Int) : serN N = [s0 N, s1 N, s2 N, s3 N, s4 N, s5 N, s6 N, s7 N] := rfl
theorem sR (N : List Int) : (0 ≤ s0 N ∧ s0 N < 256) ∧ (0 ≤ s1 N ∧ s1 N < 64) ∧ (0 ≤ s2 N ∧ s2 N < 256) ∧ (0 ≤ s3 N ∧ s3 N < 2) ∧ (0 ≤ s4 N ∧ s4 N < 2) ∧ (0 ≤ s5 N ∧ s5 N < 4) ∧ (0 ≤ s6 N ∧ s6 N < 1048576) ∧ (0 ≤ s7 N ∧ s7 N < 256) := by
  unfold s0 s1 s2 s3 s4 s5 s6 s7; omega
def tickS : List Int → List Int
  | [a, l, g, f, o, c, s, z] => if l > 0 then (if l - 1 = 0 then [a, 0, g, f, o, c, (s + 1) % 1048576, a] else [a, l - 1, g, f, o, c, s, z]) else [a, l, g, f, o, c, s, z]
  | l => l
theorem serN_idem {a l g f o c s z : Int} (h0 : 0 ≤ a ∧ a < 256) (h1 : 0 ≤ l ∧ l < 64) (h2 : 0 ≤ g ∧ g < 256) (h3 : 0 ≤ f ∧ f < 2) (h4 : 0 ≤ o ∧ o < 2) (h5 : 0 ≤ c ∧ c < 4) (h6 : 0 ≤ s ∧ s < 1048576) (h7 : 0 ≤ z ∧ z < 256) :
    serN [a, l, g, f, o, c, s, z] = [a, l, g, f, o, c, s, z] := by
  show [a % 256, l % 64, g % 256, f % 2, o % 2, c % 4, s % 1048576, z % 256] = _
  rw [Int.emod_eq_of_lt h0.1 h0.2, Int.emod_eq_of_lt h1.1 h1.2, Int.emod_eq_of_lt h2.1 h2.2, Int.emod_eq_of_lt h3.1 h3.2, Int.emod_eq_of_lt h4.1 h4.2, Int.emod_eq_of_lt h5.1 h5.2, Int.emod_eq_of_lt h6.1 h6.2, Int.emod_eq_of_lt h7.1 h7.2]
theorem serN_form (N : List Int) : serN (serN N) = serN N := by
  obtain ⟨h0, h1, h2, h3, h4, h5, h6, h7⟩ := sR N
  exact serN_idem h0 h1 h2 h3 h4 h5 h6 h7
theorem tickS_form8 {a l g f o c s z : Int} (h0 : 0 ≤ a ∧ a < 256) (h1 : 0 ≤ l ∧ l < 64) (h2 : 0 ≤ g ∧ g < 256) (h3 : 0 ≤ f ∧ f < 2) (h4 : 0 ≤ o ∧ o < 2) (h5 : 0 ≤ c ∧ c < 4) (h6 : 0 ≤ s ∧ s < 1048576) (h7 : 0 ≤ z ∧ z < 256) :
    serN (tickS [a, l, g, f, o, c, s, z]) = tickS [a, l, g, f, o, c, s, z] := by
  by_cases e1 : l > 0
  · by_cases e2 : l - 1 = 0
    · have e : tickS [a, l, g, f, o, c, s, z] = [a, 0, g, f, o, c, (s + 1) % 1048576, a] := by rw [tickS, if_pos e1, if_pos e2]
      rw [e]; exact serN_idem h0 (by omega) h2 h3 h4 h5 (by omega) h0
    · have e : tickS [a, l, g, f, o, c, s, z] = [a, l - 1, g, f, o, c, s, z] := by rw [tickS, if_pos e1, if_neg e2]
      rw [e]; exact serN_idem h0 (by omega) h2 h3 h4 h5 h6 h7
  · have e : tickS [a, l, g, f, o, c, s, z] = [a, l, g, f, o, c, s, z] := by rw [tickS, if_neg e1]
    rw [e]; exact serN_idem h0 h1 h2 h3 h4 h5 h6 h7
theorem tickS_form {l : List Int} (h : serN l = l) : serN (tickS l) = tickS l := by
  obtain ⟨h0, h1, h2, h3, h4, h5, h6, h7⟩ := sR l
  have := tickS_form8 h0 h1 h2 h3 h4 h5 h6 h7
  rw [← serN_eq, h] at this
  exact this
theorem iterS_form (N : List Int) : ∀ n, serN (iterF tickS n (serN N)) = iterF tickS n (serN N)
  | 0 => serN_form N
  | n + 1 => by rw [iterF_succ]; exact tickS_form (iterS_form N n)
theorem len8 {l : List Int} (h : serN l = l) : l.length ≤ 4611686018427387904 := by
  rw [← h]; exact (by decide : 8 ≤ 4611686018427387904)
theorem its_zero {a g f o c s z : Int} (n : Nat) : iterF tickS n [a, 0, g, f, o, c, s, z] = [a, 0, g, f, o, c, s, z] := iterF_fix rfl n
theorem its_run {a g f o c s z : Int} : ∀ (n : Nat) (l : Int), (n : Int) < l → iterF tickS n [a, l, g, f, o, c, s, z] = [a, l - n, g, f, o, c, s, z]
  | 0, l, _ => by rw [iterF]; simp
  | n + 1, l, h => by
    rw [iterF, tickS, if_pos (by omega), if_neg (by omega), its_run n (l - 1) (by omega)]
    have : l - 1 - (n : Int) = l - ((n + 1 : Nat) : Int) := by omega
    rw [this]
theorem its_end {a l g f o c s z : Int} (hl : 0 < l) (n : Nat) (h : l ≤ n) : iterF tickS n [a, l, g, f, o, c, s, z] = [a, 0, g, f, o, c, (s + 1) % 1048576, a] := by
  have e : n = (l - 1).toNat + ((n - l.toNat) + 1) := by omega
  rw [e, iterF_add, its_run _ _ (by omega)]
  have e1 : l - (((l - 1).toNat : Nat) : Int) = 1 := by omega
  rw [e1, iterF, tickS, if_pos (by omega), if_pos (by omega)]
  exact its_zero _

def sformedS : PSpec := ⟨[gC, gD], fun (c, d, _) => (some (c.2.1 = 5), devR, [.arr (.int .i64) (serN d.1)])⟩
theorem sformed_ok : GoodF Try.prog 54 sformedS.spec := by
  have hT := tab_ok (fs := [(117, formS.spec)]) tree_ok
  have hP : SpecsOk Try.prog (tab tree [(117, formS.spec)]) := specs_cons form_ok specs_nil
  refine sformedS.good (fn := Try.f54) hT hP Try.func54 (by kernel_rfl) rfl fun (c : Cv) (d : Dv) hp => ?_
  obtain ⟨cn, ck, cb, cs, cd⟩ := c
  obtain rfl : ck = 5 := hp _ rfl
  obtain ⟨N, M⟩ := d
  repeat' first
    | (refine Go.mk ?_; conv => whnf)
    | refine Need.go ?_ ?_
    | refine NilG.go (fun _ => ?_) (fun _ => ?_)
    | refine Br.dec (fun _ => ?_) (fun _ => ?_)
    | refine Br.go (fun _ => ?_) (fun _ => ?_)
    | refine draw_go hT hP mixed ?_
    | refine round_go hT hP ?_
  · exact (by decide : ([256, 64, 256, 2, 2, 4, 1048576, 256] : List Int).length ≤ 1000 ∧ ∀ m ∈ ([256, 64, 256, 2, 2, 4, 1048576, 256] : List Int), 0 < m ∧ m ≤ 4611686018427387904)
  · exact .mk [] [5] _ rfl rfl rfl rfl rfl rfl rfl

def sfitS : PSpec := ⟨[gD], fun (d, _) => (none, .cell (.own 0), [.arr (.int .i64) (serN d.1)])⟩
theorem sfit_ok : GoodF Try.prog 171 sfitS.spec := by
  have hT := tab_ok (fs := [(70, lowM.spec)]) tree_ok
  have hP : SpecsOk Try.prog (tab tree [(70, lowM.spec)]) := specs_cons lowM_ok specs_nil
  refine sfitS.good (fn := Try.f171) hT hP Try.func171 (by kernel_rfl) rfl fun (d : Dv) _ => ?_
  obtain ⟨N, M⟩ := d
  repeat' first
    | (refine Go.mk ?_; conv => whnf)
    | refine Need.go ?_ ?_
    | refine NilG.go (fun _ => ?_) (fun _ => ?_)
    | refine Br.dec (fun _ => ?_) (fun _ => ?_)
    | refine Br.go (fun _ => ?_) (fun _ => ?_)
    | refine draw_go hT hP mixed ?_
    | refine round_go hT hP ?_
  · exact of_decide_eq_true rfl
  refine loop_unroll 9 ?_
  repeat' first
    | (refine Go.mk ?_; conv => whnf)
    | refine Need.go ?_ ?_
    | refine NilG.go (fun _ => ?_) (fun _ => ?_)
    | refine Br.dec (fun _ => ?_) (fun _ => ?_)
    | refine Br.go (fun _ => ?_) (fun _ => ?_)
    | refine draw_go hT hP mixed ?_
    | refine round_go hT hP ?_
  all_goals first
    | exact of_decide_eq_true rfl
    | exact .mk [] [1] _ rfl rfl rfl rfl rfl rfl rfl

def snewS : PSpec := ⟨[], fun _ => (none, devR, [.arr (.int .i64) [0, 0, 0, 0, 0, 0, 0, 0]])⟩
theorem snew_ok : GoodF Try.prog 106 snewS.spec := by
  have hT := tab_ok (fs := []) tree_ok
  have hP : SpecsOk Try.prog (tab tree []) := specs_nil
  refine snewS.good (fn := Try.f106) hT hP Try.func106 (by kernel_rfl) rfl fun _ => ?_
  repeat' first
    | (refine Go.mk ?_; conv => whnf)
    | refine Need.go ?_ ?_
    | refine NilG.go (fun _ => ?_) (fun _ => ?_)
    | refine Br.dec (fun _ => ?_) (fun _ => ?_)
    | refine Br.go (fun _ => ?_) (fun _ => ?_)
    | refine draw_go hT hP mixed ?_
    | refine round_go hT hP ?_
  all_goals first
    | exact of_decide_eq_true rfl
    | exact .mk [] [1] _ rfl rfl rfl rfl rfl rfl rfl

def stickedS : PSpec := ⟨[gC, gD], fun (c, d, _) => (some (c.2.1 = 5), devR, [.arr (.int .i64) (tickS (serN d.1))])⟩
theorem sticked_ok : GoodF Try.prog 55 stickedS.spec := by
  have hT := tab_ok (fs := [(54, sformedS.spec)]) tree_ok
  have hP : SpecsOk Try.prog (tab tree [(54, sformedS.spec)]) := specs_cons sformed_ok specs_nil
  refine stickedS.good (fn := Try.f55) hT hP Try.func55 (by kernel_rfl) rfl fun (c : Cv) (d : Dv) hp => ?_
  obtain ⟨cn, ck, cb, cs, cd⟩ := c
  obtain rfl : ck = 5 := hp _ rfl
  obtain ⟨N, M⟩ := d
  obtain ⟨h0, h1, h2, h3, h4, h5, h6, h7⟩ := sR N
  repeat' first
    | (refine Go.mk ?_; conv => whnf)
    | refine Need.go ?_ ?_
    | refine NilG.go (fun _ => ?_) (fun _ => ?_)
    | refine Br.dec (fun _ => ?_) (fun _ => ?_)
    | refine Br.go (fun _ => ?_) (fun _ => ?_)
    | refine draw_go hT hP mixed ?_
    | refine round_go hT hP ?_
  all_goals first
    | exact rfl
    | exact of_decide_eq_true rfl
    | skip
  · rename_i g1 g2
    have g1 : s1 N > 0 := g1
    have g2 : IntKind.i64.wrap (s1 N - 1) = 0 := g2
    rw [w64 (by omega) (by omega)] at g2
    refine .mk [] [3] _ rfl rfl rfl rfl rfl (blk_eqs (l := [s0 N, IntKind.i64.wrap (s1 N - 1), s2 N, s3 N, s4 N, s5 N, Int.tmod (IntKind.i64.wrap (s6 N + 1)) 1048576, s0 N]) ?_) rfl
    show _ = tickS (serN N)
    rw [serN_eq, tickS, if_pos g1, if_pos g2, w64 (x := s1 N - 1) (by omega) (by omega), g2, w64 (x := s6 N + 1) (by omega) (by omega), Int.tmod_eq_emod_of_nonneg (by omega)]
  · rename_i g1 g2
    have g1 : s1 N > 0 := g1
    have g2 : ¬ IntKind.i64.wrap (s1 N - 1) = 0 := g2
    rw [w64 (by omega) (by omega)] at g2
    refine .mk [] [3] _ rfl rfl rfl rfl rfl (blk_eqs (l := [s0 N, IntKind.i64.wrap (s1 N - 1), s2 N, s3 N, s4 N, s5 N, s6 N, s7 N]) ?_) rfl
    show _ = tickS (serN N)
    rw [serN_eq, tickS, if_pos g1, if_neg g2, w64 (x := s1 N - 1) (by omega) (by omega)]
  · rename_i g1
    have g1 : ¬ s1 N > 0 := g1
    refine .mk [] [3] _ rfl rfl rfl rfl rfl (blk_eqs (l := serN N) ?_) rfl
    show _ = tickS (serN N)
    rw [serN_eq, tickS, if_neg g1]

def sskipS : PSpec := ⟨[gD, gi], fun (d, k, _) => (some (k ≤ 4611686018427387904), devR, [.arr (.int .i64) (iterF tickS k.toNat (serN d.1))])⟩
theorem sskip_ok : GoodF Try.prog 124 sskipS.spec := by
  have hT := tab_ok (fs := [(171, sfitS.spec), (70, lowM.spec)]) tree_ok
  have hP : SpecsOk Try.prog (tab tree [(171, sfitS.spec), (70, lowM.spec)]) := specs_cons sfit_ok (specs_cons lowM_ok specs_nil)
  refine sskipS.good (fn := Try.f124) hT hP Try.func124 (by kernel_rfl) rfl fun (d : Dv) (k : Int) hp => ?_
  have hp : k ≤ 4611686018427387904 := hp _ rfl
  obtain ⟨N, M⟩ := d
  obtain ⟨h0, h1, h2, h3, h4, h5, h6, h7⟩ := sR N
  repeat' first
    | (refine Go.mk ?_; conv => whnf)
    | refine Need.go ?_ ?_
    | refine NilG.go (fun _ => ?_) (fun _ => ?_)
    | refine Br.dec (fun _ => ?_) (fun _ => ?_)
    | refine Br.go (fun _ => ?_) (fun _ => ?_)
    | refine draw_go hT hP mixed ?_
    | refine round_go hT hP ?_
  all_goals first
    | exact rfl
    | exact of_decide_eq_true rfl
    | skip
  · rename_i g
    refine .mk [] [2] _ rfl rfl rfl rfl rfl (blk_eqs (l := serN N) ?_) rfl
    show _ = iterF tickS k.toNat (serN N)
    have : k.toNat = 0 := by omega
    rw [this]; rfl
  · rename_i g0 g
    have g : s1 N = 0 := g
    refine .mk [] [2] _ rfl rfl rfl rfl rfl (blk_eqs (l := serN N) ?_) rfl
    show _ = iterF tickS k.toNat (serN N)
    rw [serN_eq, g, its_zero]
  · rename_i g0 g g2
    have g2 : k < s1 N := g2
    refine .mk [] [2] _ rfl rfl rfl rfl rfl (blk_eqs (l := [s0 N, IntKind.i64.wrap (s1 N - k), s2 N, s3 N, s4 N, s5 N, s6 N, s7 N]) ?_) rfl
    show _ = iterF tickS k.toNat (serN N)
    rw [serN_eq, its_run _ _ (by omega), w64 (by omega) (by omega)]
    have : ((k.toNat : Nat) : Int) = k := by omega
    rw [this]
  · rename_i g0 g g2
    have g : ¬ s1 N = 0 := g
    have g2 : ¬ k < s1 N := g2
    refine .mk [] [2] _ rfl rfl rfl rfl rfl (blk_eqs (l := [s0 N, 0, s2 N, s3 N, s4 N, s5 N, IntKind.i64.wrap (s6 N + 1) % 1048576, s0 N]) ?_) rfl
    show _ = iterF tickS k.toNat (serN N)
    rw [serN_eq, its_end (by omega) _ (by omega), w64 (by omega) (by omega)]

def stickS : PSpec := ⟨[gD], fun (d, _) => (none, devR, [.arr (.int .i64) (tickS (serN d.1))])⟩
def sinN (N : List Int) (k : Int) : List Int := [s0 N, s1 N, if s3 N = 1 then s2 N else k % 256, 1, if s3 N = 1 then 1 else s4 N, s5 N, s6 N, s7 N]
def sinS : PSpec := ⟨[gD, gi], fun (d, k, _) => (none, devR, [.arr (.int .i64) (sinN d.1 k)])⟩
def bitI (b : Bool) : Int := match b with | true => 1 | false => 0
def truthS : PSpec := ⟨[⟨false, .bool⟩], fun (b, _) => (none, I (bitI b), [])⟩
theorem truth_ok : GoodF Try.prog 193 truthS.spec := by
  have hT := tab_ok (fs := []) tree_ok
  have hP : SpecsOk Try.prog (tab tree []) := specs_nil
  refine truthS.good (fn := Try.f193) hT hP Try.func193 (by kernel_rfl) rfl fun (b : Bool) _ => ?_
  repeat' first
    | (refine Go.mk ?_; conv => whnf)
    | refine Need.go ?_ ?_
    | refine NilG.go (fun _ => ?_) (fun _ => ?_)
    | refine Br.dec (fun _ => ?_) (fun _ => ?_)
    | refine Br.go (fun _ => ?_) (fun _ => ?_)
    | refine draw_go hT hP mixed ?_
    | refine round_go hT hP ?_
  all_goals
    rename_i h
    subst h
    exact .mk [] [] _ rfl rfl rfl rfl rfl rfl rfl
/-- three bits of a number, put together by or -/
theorem or_bits (f o : Int) (b : Bool) (h3 : 0 ≤ f ∧ f < 2) (h4 : 0 ≤ o ∧ o < 2) : lor .i64 (lor .i64 f (shl .i64 (bitI b) 1)) (shl .i64 o 2) = f + 2 * bitI b + 4 * o := by
  have e1 : f = 0 ∨ f = 1 := by omega
  have e2 : o = 0 ∨ o = 1 := by omega
  rcases e1 with rfl | rfl <;> rcases e2 with rfl | rfl <;> cases b <;> decide +kernel
theorem tup_reads {x y : Int} (h2 : x = y) : AV.tup [.agg [.own 0, .imm (.slice none 0 0)], I1 x] = AV.tup [.agg [.own 0, .imm (.slice none 0 0)], I1 y] := by rw [h2]
def srF (N : List Int) (a : Int) : Int := pickF [s2 N, s3 N + 2 * bitI (decide (s1 N > 0)) + 4 * s4 N, s5 N] a
def srN (N : List Int) (a : Int) : List Int := [s0 N, s1 N, s2 N, if a = 0 then 0 else s3 N, if a = 1 then 0 else s4 N, s5 N, s6 N, s7 N]
def sreadS : PSpec := ⟨[gD, gi], fun (d, a, _) => (none, .tup [.agg [.own 0, .imm (.slice none 0 0)], I1 (srF d.1 a)], [.arr (.int .i64) (srN d.1 a)])⟩
theorem sread_ok : GoodF Try.prog 157 sreadS.spec := by
  have hT := tab_ok (fs := [(171, sfitS.spec), (193, truthS.spec)]) tree_ok
  have hP : SpecsOk Try.prog (tab tree [(171, sfitS.spec), (193, truthS.spec)]) := specs_cons sfit_ok (specs_cons truth_ok specs_nil)
  refine sreadS.good (fn := Try.f157) hT hP Try.func157 (by kernel_rfl) rfl fun (d : Dv) (a : Int) _ => ?_
  obtain ⟨N, M⟩ := d
  obtain ⟨h0, h1, h2, h3, h4, h5, h6, h7⟩ := sR N
  repeat' first
    | (refine Go.mk ?_; conv => whnf)
    | refine Need.go ?_ ?_
    | refine NilG.go (fun _ => ?_) (fun _ => ?_)
    | refine Br.dec (fun _ => ?_) (fun _ => ?_)
    | refine Br.go (fun _ => ?_) (fun _ => ?_)
    | refine draw_go hT hP mixed ?_
    | refine round_go hT hP ?_
  all_goals (try subst_vars)
  all_goals first
    | exact rfl
    | exact of_decide_eq_true rfl
    | exact .mk [] [2] _ rfl rfl rfl rfl rfl rfl rfl
    | skip
  · refine .mk [] [2] _ rfl rfl rfl rfl rfl rfl (tup_reads ?_)
    exact or_bits (s3 N) (s4 N) (decide (s1 N > 0)) h3 h4
  · rename_i g0 g1 g2
    have e : srF N a = 0 := pick_no fun i hi => by
      have : i < 3 := hi
      omega
    refine .mk [] [2] _ rfl rfl rfl rfl rfl (blk_eqs (l := serN N) ?_) (tup_reads e.symm)
    show _ = srN N a
    rw [serN_eq, srN, if_neg g0, if_neg g1]

def serialsS : PSpec := ⟨[], fun _ => (none, .cell (bv true), [])⟩
end Go.Proofs.Ytblnigjmcjpopaa

/- The chip that reads and writes disks: forming, a new one, reading. -/
namespace Go.Proofs.Ytblnigjmcjpopaa
open Go.Fw
set_option linter.unusedVariables false
set_option linter.unusedSimpArgs false
set_option maxRecDepth 100000

theorem over_take (M : List Int) {n : Nat} (h : n ≤ M.length) : over (List.replicate n 0) M 0 = M.take n := by
  rw [over_eq]
  simp [h]
def qF (M : List Int) : Nat := M.length / 256
def dM (M : List Int) : List Int := M.take (qF M * 256)
theorem qF_le (M : List Int) : qF M * 256 ≤ M.length := by unfold qF; omega
theorem dM_len (M : List Int) : (dM M).length = qF M * 256 := by
  unfold dM; rw [List.length_take]; have := qF_le M; omega
theorem qF_int (M : List Int) (h : M.length ≤ 140737488355328) : IntKind.i64.wrap (IntKind.i64.wrap (Int.tdiv (M.length : Int) 256) * 256) = ((qF M * 256 : Nat) : Int) := by
  rw [Int.tdiv_eq_ediv_of_nonneg (by omega), w64 (x := (M.length : Int) / 256) (by omega) (by omega), w64 (by omega) (by omega)]
  unfold qF; omega
def dN (N : List Int) (q : Nat) : List Int :=
  [if N.getD 0 0 % 256 > q then 0 else N.getD 0 0 % 256, N.getD 1 0 % 4, if N.getD 2 0 % 8 > 4 then 0 else N.getD 2 0 % 8, N.getD 3 0 % 4, N.getD 4 0 % 16, N.getD 5 0 % 64, N.getD 6 0 % 256, N.getD 7 0 % 2, N.getD 8 0 % 2, N.getD 9 0 % 2]
def dN0 (N : List Int) : List Int :=
  [N.getD 0 0 % 256, N.getD 1 0 % 4, N.getD 2 0 % 8, N.getD 3 0 % 4, N.getD 4 0 % 16, N.getD 5 0 % 64, N.getD 6 0 % 256, N.getD 7 0 % 2, N.getD 8 0 % 2, N.getD 9 0 % 2]
theorem tup_r2 {x y : Int} (h : x = y) : AV.tup [.agg [.own 0, .own 1], I1 x] = AV.tup [.agg [.own 0, .own 1], I1 y] := by rw [h]
theorem blk2_eq {l l' m m' : List Int} (h : l = l') (h2 : m = m') : [some (Blk.arr (.int .i64) l), some (Blk.arr (.int .u8) m)] = [some (Blk.arr (.int .i64) l'), some (Blk.arr (.int .u8) m')] := by rw [h, h2]

theorem over_get (N : List Int) : ∀ (l : List Int) (i k : Nat), k < l.length → (over l N i).getD k 0 = N.getD (i + k) (l.getD k 0)
  | d :: l, i, 0, _ => by simp [over]
  | d :: l, i, k + 1, h => by
    have := over_get N l (i + 1) k (by simpa using h)
    have e : i + 1 + k = i + (k + 1) := by omega
    rw [e] at this
    simpa [over] using this
theorem rep_get (n k : Nat) : (List.replicate n (0 : Int)).getD k 0 = 0 := by
  rw [List.getD_eq_getElem?_getD, List.getElem?_replicate]
  split <;> rfl
def dL (N : List Int) (x y : Int) : List Int := [x, N.getD 1 0 % 4, y, N.getD 3 0 % 4, N.getD 4 0 % 16, N.getD 5 0 % 64, N.getD 6 0 % 256, N.getD 7 0 % 2, N.getD 8 0 % 2, N.getD 9 0 % 2]
def bitsK (N C ms : List Int) (k : Nat) : List Int := formG N (ms.take k) 0 ++ C.drop k
theorem bitsK_len (N C ms : List Int) {k : Nat} (h : k ≤ ms.length) (hc : C.length = ms.length) : (bitsK N C ms k).length = ms.length := by
  simp [bitsK, formG_len]; omega
theorem bitsK_get (N C ms : List Int) {k : Nat} (h : k < ms.length) (hc : C.length = ms.length) : (bitsK N C ms k).getD k 0 = C.getD k 0 := by
  have hl : (formG N (ms.take k) 0).length = k := by rw [formG_len, List.length_take]; omega
  unfold bitsK
  rw [List.getD_eq_getElem?_getD, List.getElem?_append_right (by omega), hl, Nat.sub_self, List.getElem?_drop, List.getD_eq_getElem?_getD]
  rfl
theorem bitsK_set (N C ms : List Int) {k : Nat} (h : k < ms.length) (hc : C.length = ms.length) : (bitsK N C ms k).set k (N.getD k 0 % ms.getD k 0) = bitsK N C ms (k + 1) := by
  have hl : (formG N (ms.take k) 0).length = k := by rw [formG_len, List.length_take]; omega
  unfold bitsK
  rw [List.set_append, if_neg (by omega), hl, Nat.sub_self, List.drop_eq_getElem_cons (by omega), List.set_cons_zero, formG_take N ms 0 k h]
  simp
def dMods : List Int := [256, 4, 8, 4, 16, 64, 256, 2, 2, 2]
def dBits : List Int := [8, 2, 3, 2, 4, 6, 8, 1, 1, 1]
theorem dBits_ok : ∀ k, k < 10 → (0 ≤ dBits.getD k 0 ∧ dBits.getD k 0 ≤ 62) ∧ (2 : Int) ^ (dBits.getD k 0).toNat = dMods.getD k 0 := by decide +kernel
theorem dN_if (N : List Int) (q : Nat) : dN N q = [if N.getD 0 0 % 256 > q then 0 else N.getD 0 0 % 256, N.getD 1 0 % 4, if N.getD 2 0 % 8 > 4 then 0 else N.getD 2 0 % 8, N.getD 3 0 % 4, N.getD 4 0 % 16, N.getD 5 0 % 64, N.getD 6 0 % 256, N.getD 7 0 % 2, N.getD 8 0 % 2, N.getD 9 0 % 2] := rfl

def dfitS : PSpec := ⟨[gD], fun (d, _) => (some (List.length d.2 ≤ 140737488355328), .tup [.c (.own 0), .c (.own 1)], [.arr (.int .i64) (dN d.1 (qF d.2)), .arr (.int .u8) (dM d.2)])⟩
theorem dfit_ok : GoodF Try.prog 177 dfitS.spec := by
  have hT := tab_ok (fs := [(70, lowM.spec)]) tree_ok
  have hP : SpecsOk Try.prog (tab tree [(70, lowM.spec)]) := specs_cons lowM_ok specs_nil
  refine dfitS.good (fn := Try.f177) hT hP Try.func177 (by kernel_rfl) rfl fun (d : Dv) hp => ?_
  obtain ⟨N, M⟩ := d
  have hp : M.length ≤ 140737488355328 := hp _ rfl
  have hq := qF_int M hp
  have hq2 := qF_le M
  have hqi : IntKind.i64.wrap (Int.tdiv ((dM M).length : Int) 256) = ((qF M : Nat) : Int) := by
    rw [dM_len, Int.tdiv_eq_ediv_of_nonneg (by omega), w64 (by omega) (by omega)]; omega
  repeat' first
    | (refine Go.mk ?_; conv => whnf)
    | refine Need.go ?_ ?_
    | refine NilG.go (fun _ => ?_) (fun _ => ?_)
    | refine Br.dec (fun _ => ?_) (fun _ => ?_)
    | refine Br.go (fun _ => ?_) (fun _ => ?_)
    | refine draw_go hT hP mixed ?_
    | refine round_go hT hP ?_
  · exact of_decide_eq_true rfl
  have hC : ∀ k, k < 10 → (over (List.replicate 10 0) N 0).getD k 0 = N.getD k 0 := by
    intro k hk
    rw [over_get N _ 0 k (by simpa using hk), Nat.zero_add, rep_get 10 k]
  have hCl : (over (List.replicate 10 0) N 0).length = 10 := by rw [over_length]; rfl
  refine loop_go hT hP (X := Int × List Int) (fun (i, n) => St.mk [.dead, .cell (.ptr 0 0), .dead, .dead, .cell (.own 1), .dead, .dead, .dead, .dead, .dead, .dead, .dead, .dead, .agg [.run .i64 10 [8, 2, 3, 2, 4, 6, 8, 1, 1, 1]], I i, .dead, .dead, .dead, .dead, .dead, .dead, .dead, .dead, .dead, .dead, .dead, .dead, .dead, .dead, .dead, .dead, .dead, .dead, .dead, .dead, .dead, .dead, .dead, .dead, .dead, .dead, .dead, .dead, .dead, .dead, .dead, .dead, .dead, .dead, .dead, .dead, .dead, .dead, .dead, .dead] [some (.var [.ro (.int .i64) N, .ro (.int .u8) M]), some (.arr (.int .i64) n)])
    (fun (i, n) => ∃ k : Nat, i = k ∧ k ≤ 10 ∧ n = bitsK N (over (List.replicate 10 0) N 0) dMods k) (fun (i, _) => (10 - i).toNat) (0, over (List.replicate 10 0) N 0) (Le.mk [] [0, 1] rfl rfl ?_ ?_) ?_ fun (i, n) hi => ?_
  rotate_right
  repeat' first
    | (refine Go.mk ?_; conv => whnf)
    | refine Need.go ?_ ?_
    | refine NilG.go (fun _ => ?_) (fun _ => ?_)
    | refine Br.dec (fun _ => ?_) (fun _ => ?_)
    | refine Br.go (fun _ => ?_) (fun _ => ?_)
    | refine draw_go hT hP mixed ?_
    | refine round_go hT hP ?_
  rotate_right 3
  · exact rfl
  · repeat' first | exact trivial | exact ⟨rfl, rfl⟩ | refine And.intro ?_ ?_
  · exact ⟨0, rfl, by omega, rfl⟩
  all_goals first
    | exact of_decide_eq_true rfl
    | (obtain ⟨k, rfl, hk, rfl⟩ := hi; omega)
    | (obtain ⟨k, rfl, hk, rfl⟩ := hi; rw [bitsK_len _ _ _ hk hCl]; show _ ∧ _ < ((10 : Nat) : Int); omega)
    | (obtain ⟨k, rfl, hk, rfl⟩ := hi; rw [bitsK_len _ _ _ hk hCl]; show _ < 10; omega)
    | skip
  · obtain ⟨k, rfl, hk, rfl⟩ := hi
    exact (dBits_ok k (by omega)).1
  · obtain ⟨k, rfl, hk, rfl⟩ := hi
    have e : IntKind.i64.wrap ((k : Int) + 1) = ((k + 1 : Nat) : Int) := by rw [w64 (by omega) (by omega)]; omega
    have hk2 : k < 10 := by omega
    apply Exists.intro (_, _)
    refine And.intro ?_ (And.intro ?_ (Le.mk [] [0, 1] rfl rfl ?hh ?ht))
    case hh => exact rfl
    case ht => repeat' first | exact trivial | exact ⟨rfl, rfl⟩ | refine And.intro ?_ ?_
    · refine ⟨k + 1, e, by omega, ?_⟩
      show (bitsK N (over (List.replicate 10 0) N 0) dMods k).set k ((bitsK N (over (List.replicate 10 0) N 0) dMods k).getD k 0 % 2 ^ (dBits.getD k 0).toNat) = _
      rw [bitsK_get N _ dMods hk2 hCl, hC k hk2, (dBits_ok k hk2).2]
      exact bitsK_set N _ dMods hk2 hCl
    · show (10 - IntKind.i64.wrap ((k : Int) + 1)).toNat < (10 - (k : Int)).toNat
      rw [e]; omega
  all_goals
    obtain ⟨k, rfl, hk, rfl⟩ := hi
    obtain rfl : k = 10 := by omega
    have hm : over (List.replicate (IntKind.i64.wrap (IntKind.i64.wrap (Int.tdiv (M.length : Int) 256) * 256)).toNat 0) M 0 = dM M := by
      rw [hq]; exact over_take M hq2
    try exact of_decide_eq_true rfl
  · have e : ty5.bytes = 1 := rfl
    rw [e, show (List.length (N, M).2) = M.length from rfl, hq]
    omega
  · rename_i h1 h2
    have h1 : N.getD 0 0 % 256 > IntKind.i64.wrap (Int.tdiv ((over (List.replicate (IntKind.i64.wrap (IntKind.i64.wrap (Int.tdiv (M.length : Int) 256) * 256)).toNat 0) M 0).length : Int) 256) := h1
    have h2 : N.getD 2 0 % 8 > 4 := h2
    rw [hm, hqi] at h1
    refine .mk [] [1, 2] _ rfl rfl rfl rfl rfl (blk2_eq (l := dL N 0 0) (l' := dN N (qF M)) ?_ hm) rfl
    rw [dN_if, if_pos h1, if_pos h2]; rfl
  · rename_i h1 h2
    have h1 : N.getD 0 0 % 256 > IntKind.i64.wrap (Int.tdiv ((over (List.replicate (IntKind.i64.wrap (IntKind.i64.wrap (Int.tdiv (M.length : Int) 256) * 256)).toNat 0) M 0).length : Int) 256) := h1
    have h2 : ¬ N.getD 2 0 % 8 > 4 := h2
    rw [hm, hqi] at h1
    refine .mk [] [1, 2] _ rfl rfl rfl rfl rfl (blk2_eq (l := dL N 0 (N.getD 2 0 % 8)) (l' := dN N (qF M)) ?_ hm) rfl
    rw [dN_if, if_pos h1, if_neg h2]; rfl
  · rename_i h1 h2
    have h1 : ¬ N.getD 0 0 % 256 > IntKind.i64.wrap (Int.tdiv ((over (List.replicate (IntKind.i64.wrap (IntKind.i64.wrap (Int.tdiv (M.length : Int) 256) * 256)).toNat 0) M 0).length : Int) 256) := h1
    have h2 : N.getD 2 0 % 8 > 4 := h2
    rw [hm, hqi] at h1
    refine .mk [] [1, 2] _ rfl rfl rfl rfl rfl (blk2_eq (l := dL N (N.getD 0 0 % 256) 0) (l' := dN N (qF M)) ?_ hm) rfl
    rw [dN_if, if_neg h1, if_pos h2]; rfl
  · rename_i h1 h2
    have h1 : ¬ N.getD 0 0 % 256 > IntKind.i64.wrap (Int.tdiv ((over (List.replicate (IntKind.i64.wrap (IntKind.i64.wrap (Int.tdiv (M.length : Int) 256) * 256)).toNat 0) M 0).length : Int) 256) := h1
    have h2 : ¬ N.getD 2 0 % 8 > 4 := h2
    rw [hm, hqi] at h1
    refine .mk [] [1, 2] _ rfl rfl rfl rfl rfl (blk2_eq (l := dL N (N.getD 0 0 % 256) (N.getD 2 0 % 8)) (l' := dN N (qF M)) ?_ hm) rfl
    rw [dN_if, if_neg h1, if_neg h2]; rfl

def dnewS : PSpec := ⟨[gb], fun (b, _) => (some (List.length b ≤ 140737488355328), .agg [.own 0, .own 1], [.arr (.int .i64) [0, 0, 0, 0, 0, 0, 0, 0, 0, 0], .arr (.int .u8) (dM b)])⟩
theorem dnew_ok : GoodF Try.prog 109 dnewS.spec := by
  have hT := tab_ok (fs := []) tree_ok
  have hP : SpecsOk Try.prog (tab tree []) := specs_nil
  refine dnewS.good (fn := Try.f109) hT hP Try.func109 (by kernel_rfl) rfl fun (M : List Int) hp => ?_
  have hp : M.length ≤ 140737488355328 := hp _ rfl
  have hq := qF_int M hp
  have hq2 := qF_le M
  repeat' first
    | (refine Go.mk ?_; conv => whnf)
    | refine Need.go ?_ ?_
    | refine NilG.go (fun _ => ?_) (fun _ => ?_)
    | refine Br.dec (fun _ => ?_) (fun _ => ?_)
    | refine Br.go (fun _ => ?_) (fun _ => ?_)
    | refine draw_go hT hP mixed ?_
    | refine round_go hT hP ?_
  all_goals first
    | exact of_decide_eq_true rfl
    | skip
  · have e : ty5.bytes = 1 := rfl
    rw [e, hq]
    omega
  · have hm : over (List.replicate (IntKind.i64.wrap (IntKind.i64.wrap (Int.tdiv (M.length : Int) 256) * 256)).toNat 0) M 0 = dM M := by
      rw [hq]; exact over_take M hq2
    exact .mk [] [2, 1] _ rfl rfl rfl rfl rfl (blk2_eq (l := [0, 0, 0, 0, 0, 0, 0, 0, 0, 0]) rfl hm) rfl

def busyS : PSpec := ⟨[gl], fun (n, _) => (some (2 < List.length n), I (imin 1 (List.getD n 2 0)), [])⟩
theorem busy_ok : GoodF Try.prog 195 busyS.spec := by
  have hT := tab_ok (fs := []) tree_ok
  have hP : SpecsOk Try.prog (tab tree []) := specs_nil
  refine busyS.good (fn := Try.f195) hT hP Try.func195 (by kernel_rfl) rfl fun (n : List Int) hp => ?_
  have hp : 2 < n.length := hp _ rfl
  repeat' first
    | (refine Go.mk ?_; conv => whnf)
    | refine Need.go ?_ ?_
    | refine NilG.go (fun _ => ?_) (fun _ => ?_)
    | refine Br.dec (fun _ => ?_) (fun _ => ?_)
    | refine Br.go (fun _ => ?_) (fun _ => ?_)
    | refine draw_go hT hP mixed ?_
    | refine round_go hT hP ?_
  · omega
  · exact .mk [] [] _ rfl rfl rfl rfl rfl rfl rfl

/-- reading address 0 of a drive at rest without a disk -/
def dread0S : PSpec := ⟨[gD, gi], fun (d, a, _) => (some (a = 0 ∧ d.1 = [0, 0, 0, 0, 0, 0, 0, 0, 0, 0] ∧ d.2 = List.replicate 256 0), .tup [.agg [.own 0, .own 1], I1 8], [.arr (.int .i64) [0, 0, 0, 0, 0, 0, 0, 0, 0, 0], .arr (.int .u8) (List.replicate 256 0)])⟩
theorem dread0_ok : GoodF Try.prog 160 dread0S.spec := by
  have hT := tab_ok (fs := [(177, dfitS.spec), (195, busyS.spec)]) tree_ok
  have hP : SpecsOk Try.prog (tab tree [(177, dfitS.spec), (195, busyS.spec)]) := specs_cons dfit_ok (specs_cons busy_ok specs_nil)
  refine dread0S.good (fn := Try.f160) hT hP Try.func160 (by kernel_rfl) rfl fun (d : Dv) (a : Int) hp => ?_
  obtain ⟨N, M⟩ := d
  obtain ⟨rfl, rfl, rfl⟩ : a = 0 ∧ N = [0, 0, 0, 0, 0, 0, 0, 0, 0, 0] ∧ M = List.replicate 256 0 := hp _ rfl
  have hdM : dM (List.replicate 256 (0 : Int)) = List.replicate 256 0 := by decide +kernel
  repeat' first
    | (refine Go.mk ?_; conv => whnf)
    | refine Need.go ?_ ?_
    | refine NilG.go (fun _ => ?_) (fun _ => ?_)
    | refine Br.dec (fun _ => ?_) (fun _ => ?_)
    | refine Br.go (fun _ => ?_) (fun _ => ?_)
    | refine draw_go hT hP mixed ?_
    | refine round_go hT hP ?_
  all_goals first
    | exact rfl
    | exact of_decide_eq_true rfl
    | skip
  exact .mk [] [2, 3] _ rfl rfl rfl rfl rfl (blk2_eq (l := (dN [0, 0, 0, 0, 0, 0, 0, 0, 0, 0] (qF (List.replicate 256 0))).set 8 0) (by decide +kernel) hdM) (tup_r2 (by decide +kernel))

def drivesS : PSpec := ⟨[], fun _ => (none, .cell (bv true), [])⟩
theorem dmods_ok : ([256, 4, 8, 4, 16, 64, 256, 2, 2, 2] : List Int).length ≤ 1000 ∧ ∀ m ∈ ([256, 4, 8, 4, 16, 64, 256, 2, 2, 2] : List Int), 0 < m ∧ m ≤ 4611686018427387904 := by decide
def dformed0S : PSpec := ⟨[gC, gD], fun (c, d, _) => (some (c.2.1 = 8 ∧ List.length d.2 ≤ 140737488355328 ∧ qF d.2 = 0), .agg [.own 0, .imm (.slice none 0 0)], [.arr (.int .i64) (dN d.1 (qF d.2))])⟩
theorem dformed0_ok : GoodF Try.prog 54 dformed0S.spec := by
  have hT := tab_ok (fs := [(117, formS.spec)]) tree_ok
  have hP : SpecsOk Try.prog (tab tree [(117, formS.spec)]) := specs_cons form_ok specs_nil
  refine dformed0S.good (fn := Try.f54) hT hP Try.func54 (by kernel_rfl) rfl fun (c : Cv) (d : Dv) hp => ?_
  obtain ⟨cn, ck, cb, cs, cd⟩ := c
  obtain ⟨N, M⟩ := d
  obtain ⟨rfl, hl, h0⟩ : ck = 8 ∧ M.length ≤ 140737488355328 ∧ qF M = 0 := hp _ rfl
  have hq := qF_int M hl
  rw [h0] at hq
  repeat' first
    | (refine Go.mk ?_; conv => whnf)
    | refine Need.go ?_ ?_
    | refine NilG.go (fun _ => ?_) (fun _ => ?_)
    | refine Br.dec (fun _ => ?_) (fun _ => ?_)
    | refine Br.go (fun _ => ?_) (fun _ => ?_)
    | refine draw_go hT hP mixed ?_
    | refine round_go hT hP ?_
  all_goals first
    | exact dmods_ok
    | exact of_decide_eq_true rfl
    | skip
  all_goals first
    | (exfalso; rename_i h; have h : IntKind.i64.wrap (IntKind.i64.wrap (Int.tdiv (M.length : Int) 256) * 256) > 0 := h; rw [hq] at h; omega)
    | (rename_i h1 h2 h
       have h1 : IntKind.i64.wrap (N.getD 0 0 % 256 * 256) > IntKind.i64.wrap (IntKind.i64.wrap (Int.tdiv (M.length : Int) 256) * 256) := h1
       have h2 : N.getD 2 0 % 8 > 4 := h2
       rw [hq, w64 (by omega) (by omega)] at h1
       refine .mk [] [5] _ rfl rfl rfl rfl rfl (blk_eqs (l := dL N 0 0) (l' := dN N (qF M)) ?_) rfl
       rw [dN_if, if_pos (by omega), if_pos h2]; rfl)
    | (rename_i h1 h2 h
       have h1 : IntKind.i64.wrap (N.getD 0 0 % 256 * 256) > IntKind.i64.wrap (IntKind.i64.wrap (Int.tdiv (M.length : Int) 256) * 256) := h1
       have h2 : ¬ N.getD 2 0 % 8 > 4 := h2
       rw [hq, w64 (by omega) (by omega)] at h1
       refine .mk [] [5] _ rfl rfl rfl rfl rfl (blk_eqs (l := dL N 0 (N.getD 2 0 % 8)) (l' := dN N (qF M)) ?_) rfl
       rw [dN_if, if_pos (by omega), if_neg h2]; rfl)
    | (rename_i h1 h2 h
       have h1 : ¬ IntKind.i64.wrap (N.getD 0 0 % 256 * 256) > IntKind.i64.wrap (IntKind.i64.wrap (Int.tdiv (M.length : Int) 256) * 256) := h1
       have h2 : N.getD 2 0 % 8 > 4 := h2
       rw [hq, w64 (by omega) (by omega)] at h1
       refine .mk [] [5] _ rfl rfl rfl rfl rfl (blk_eqs (l := dL N (N.getD 0 0 % 256) 0) (l' := dN N (qF M)) ?_) rfl
       rw [dN_if, if_neg (by omega), if_pos h2]; rfl)
    | (rename_i h1 h2 h
       have h1 : ¬ IntKind.i64.wrap (N.getD 0 0 % 256 * 256) > IntKind.i64.wrap (IntKind.i64.wrap (Int.tdiv (M.length : Int) 256) * 256) := h1
       have h2 : ¬ N.getD 2 0 % 8 > 4 := h2
       rw [hq, w64 (by omega) (by omega)] at h1
       refine .mk [] [5] _ rfl rfl rfl rfl rfl (blk_eqs (l := dL N (N.getD 0 0 % 256) (N.getD 2 0 % 8)) (l' := dN N (qF M)) ?_) rfl
       rw [dN_if, if_neg (by omega), if_neg h2]; rfl)

def dformed1S : PSpec := ⟨[gC, gD], fun (c, d, _) => (some (c.2.1 = 8 ∧ List.length d.2 ≤ 140737488355328 ∧ 0 < qF d.2), .agg [.own 0, .own 1], [.arr (.int .i64) (dN d.1 (qF d.2)), .arr (.int .u8) (dM d.2)])⟩
theorem dformed1_ok : GoodF Try.prog 54 dformed1S.spec := by
  have hT := tab_ok (fs := [(117, formS.spec)]) tree_ok
  have hP : SpecsOk Try.prog (tab tree [(117, formS.spec)]) := specs_cons form_ok specs_nil
  refine dformed1S.good (fn := Try.f54) hT hP Try.func54 (by kernel_rfl) rfl fun (c : Cv) (d : Dv) hp => ?_
  obtain ⟨cn, ck, cb, cs, cd⟩ := c
  obtain ⟨N, M⟩ := d
  obtain ⟨rfl, hl, h0⟩ : ck = 8 ∧ M.length ≤ 140737488355328 ∧ 0 < qF M := hp _ rfl
  have hq := qF_int M hl
  have hq2 := qF_le M
  have hm : over (List.replicate (IntKind.i64.wrap (IntKind.i64.wrap (Int.tdiv (M.length : Int) 256) * 256)).toNat 0) M 0 = dM M := by
    rw [hq]; exact over_take M hq2
  repeat' first
    | (refine Go.mk ?_; conv => whnf)
    | refine Need.go ?_ ?_
    | refine NilG.go (fun _ => ?_) (fun _ => ?_)
    | refine Br.dec (fun _ => ?_) (fun _ => ?_)
    | refine Br.go (fun _ => ?_) (fun _ => ?_)
    | refine draw_go hT hP mixed ?_
    | refine round_go hT hP ?_
  all_goals first
    | exact dmods_ok
    | exact of_decide_eq_true rfl
    | skip
  all_goals first
    | (exfalso; rename_i h; have h : ¬ IntKind.i64.wrap (IntKind.i64.wrap (Int.tdiv (M.length : Int) 256) * 256) > 0 := h; rw [hq] at h; omega)
    | (have e : ty5.bytes = 1 := rfl
       rw [e, show (List.length (N, M).2) = M.length from rfl, hq]; omega)
    | (rename_i h1 h2 h
       have h1 : IntKind.i64.wrap (N.getD 0 0 % 256 * 256) > IntKind.i64.wrap (IntKind.i64.wrap (Int.tdiv (M.length : Int) 256) * 256) := h1
       have h2 : N.getD 2 0 % 8 > 4 := h2
       rw [hq, w64 (by omega) (by omega)] at h1
       refine .mk [] [5, 6] _ rfl rfl rfl rfl rfl (blk2_eq (l := dL N 0 0) (l' := dN N (qF M)) ?_ hm) rfl
       rw [dN_if, if_pos (by omega), if_pos h2]; rfl)
    | (rename_i h1 h2 h
       have h1 : IntKind.i64.wrap (N.getD 0 0 % 256 * 256) > IntKind.i64.wrap (IntKind.i64.wrap (Int.tdiv (M.length : Int) 256) * 256) := h1
       have h2 : ¬ N.getD 2 0 % 8 > 4 := h2
       rw [hq, w64 (by omega) (by omega)] at h1
       refine .mk [] [5, 6] _ rfl rfl rfl rfl rfl (blk2_eq (l := dL N 0 (N.getD 2 0 % 8)) (l' := dN N (qF M)) ?_ hm) rfl
       rw [dN_if, if_pos (by omega), if_neg h2]; rfl)
    | (rename_i h1 h2 h
       have h1 : ¬ IntKind.i64.wrap (N.getD 0 0 % 256 * 256) > IntKind.i64.wrap (IntKind.i64.wrap (Int.tdiv (M.length : Int) 256) * 256) := h1
       have h2 : N.getD 2 0 % 8 > 4 := h2
       rw [hq, w64 (by omega) (by omega)] at h1
       refine .mk [] [5, 6] _ rfl rfl rfl rfl rfl (blk2_eq (l := dL N (N.getD 0 0 % 256) 0) (l' := dN N (qF M)) ?_ hm) rfl
       rw [dN_if, if_neg (by omega), if_pos h2]; rfl)
    | (rename_i h1 h2 h
       have h1 : ¬ IntKind.i64.wrap (N.getD 0 0 % 256 * 256) > IntKind.i64.wrap (IntKind.i64.wrap (Int.tdiv (M.length : Int) 256) * 256) := h1
       have h2 : ¬ N.getD 2 0 % 8 > 4 := h2
       rw [hq, w64 (by omega) (by omega)] at h1
       refine .mk [] [5, 6] _ rfl rfl rfl rfl rfl (blk2_eq (l := dL N (N.getD 0 0 % 256) (N.getD 2 0 % 8)) (l' := dN N (qF M)) ?_ hm) rfl
       rw [dN_if, if_neg (by omega), if_neg h2]; rfl)

end Go.Proofs.Ytblnigjmcjpopaa

/- A contract by cases: one of two contracts for each argument. -/
namespace Go.Fw
set_option linter.unusedVariables false
set_option linter.unusedSimpArgs false

theorem GoodF.cases {P : Program} {f : Nat} {gs : List Sig} {o o1 o2 : Args gs → Option Prop × AV × List Blk} (h1 : GoodF P f (PSpec.spec ⟨gs, o1⟩)) (h2 : GoodF P f (PSpec.spec ⟨gs, o2⟩))
    (h : ∀ xs, (∀ q, (o xs).1 = some q → q) → ((∀ q, (o1 xs).1 = some q → q) ∧ (o1 xs).2 = (o xs).2) ∨ ((∀ q, (o2 xs).1 = some q → q) ∧ (o2 xs).2 = (o xs).2)) : GoodF P f (PSpec.spec ⟨gs, o⟩) := by
  refine ⟨?_, h1.2⟩
  intro E0 vs args bl p r upd fresh hH hU hok hvs hrun hp
  unfold PSpec.spec at hrun
  simp only at hrun
  split at hrun
  · split at hrun
    · rename_i xs hxs
      simp only [Option.some.injEq, Prod.mk.injEq] at hrun
      obtain ⟨rfl, rfl, rfl, rfl⟩ := hrun
      have run : ∀ o' : Args gs → Option Prop × AV × List Blk, (o' xs).2 = (o xs).2 → (PSpec.spec ⟨gs, o'⟩).run args [] = some ((o' xs).1, (o xs).2.1, [], (o xs).2.2) := by
        intro o' he
        unfold PSpec.spec
        simp only [hxs, he]
      rcases h xs hp with ⟨hp', he⟩ | ⟨hp', he⟩
      · exact h1.1 E0 vs args [] _ _ _ _ hH hU hok hvs (run o1 he) hp'
      · exact h2.1 E0 vs args [] _ _ _ _ hH hU hok hvs (run o2 he) hp'
    · cases hrun
  · cases hrun

/-- the same contract with a result that says less -/
theorem GoodF.map {P : Program} {f : Nat} {gs : List Sig} {o o' : Args gs → Option Prop × AV × List Blk} (h1 : GoodF P f (PSpec.spec ⟨gs, o⟩))
    (h : ∀ xs, (∀ q, (o' xs).1 = some q → q) → (∀ q, (o xs).1 = some q → q) ∧ (o xs).2.2 = (o' xs).2.2 ∧ ∀ E v, AVR E (o xs).2.1 v → AVR E (o' xs).2.1 v) : GoodF P f (PSpec.spec ⟨gs, o'⟩) := by
  refine ⟨?_, h1.2⟩
  intro E0 vs args bl p r upd fresh hH hU hok hvs hrun hp
  unfold PSpec.spec at hrun
  simp only at hrun
  split at hrun
  · split at hrun
    · rename_i xs hxs
      simp only [Option.some.injEq, Prod.mk.injEq] at hrun
      obtain ⟨rfl, rfl, rfl, rfl⟩ := hrun
      obtain ⟨k1, k2, k3⟩ := h xs hp
      have run : (PSpec.spec ⟨gs, o⟩).run args [] = some ((o xs).1, (o xs).2.1, [], (o' xs).2.2) := by
        unfold PSpec.spec
        simp only [hxs, k2]
      refine (h1.1 E0 vs args [] _ _ _ _ hH hU hok hvs run k1).mono ?_
      rintro e w' ⟨v, E', he, hw, hb⟩
      exact ⟨v, E', he, hw, k3 E' v hb.val, hb.ok, hb.H, hb.U, hb.ext, hb.fr⟩
    · cases hrun
  · cases hrun

/-- a nil slice of a result, taken for one of one's own -/
theorem GoodF.nil {P : Program} {f : Nat} {gs : List Sig} {o o' : Args gs → Option Prop × AV × List Blk} (t : Ty) (h1 : GoodF P f (PSpec.spec ⟨gs, o⟩))
    (h : ∀ xs, (∀ q, (o' xs).1 = some q → q) → (∀ q, (o xs).1 = some q → q) ∧ noA (o xs).2.2.length (o xs).2.1 = some (o' xs).2.1 ∧ (o xs).2.2 ++ [.arr t []] = (o' xs).2.2) : GoodF P f (PSpec.spec ⟨gs, o'⟩) := by
  refine ⟨?_, h1.2⟩
  intro E0 vs args bl p r upd fresh hH hU hok hvs hrun hp
  unfold PSpec.spec at hrun
  simp only at hrun
  split at hrun
  · split at hrun
    · rename_i xs hxs
      simp only [Option.some.injEq, Prod.mk.injEq] at hrun
      obtain ⟨rfl, rfl, rfl, rfl⟩ := hrun
      obtain ⟨k1, k2, k3⟩ := h xs hp
      have run : (PSpec.spec ⟨gs, o⟩).run args [] = some ((o xs).1, (o xs).2.1, [], (o xs).2.2) := by
        unfold PSpec.spec
        simp only [hxs]
      refine (h1.1 E0 vs args [] _ _ _ _ hH hU hok hvs run k1).mono ?_
      rintro e w' ⟨v, E', he, hw, hb⟩
      have := Back.nil hb t (r := (o' xs).2.1) (by simpa using k2)
      rw [k3] at this
      exact ⟨v, nilE E' [] _ t, he, hw, this⟩
    · cases hrun
  · cases hrun

/-- results that say the same, but for nil slices taken for one's own -/
inductive Conv : AV × List Blk → AV × List Blk → Prop where
  | refl {x : AV × List Blk} : Conv x x
  | nil {r r2 : AV} {fr : List Blk} {y : AV × List Blk} (t : Ty) (h : noA fr.length r = some r2) (h2 : Conv (r2, fr ++ [.arr t []]) y) : Conv (r, fr) y
theorem Back.conv {E0 : Env} {upd : List (Option Blk)} {x y : AV × List Blk} (h : Conv x y) : ∀ {E : Env} {v : Value}, Back E0 0 x.1 upd x.2 v E → ∃ E', E'.w = E.w ∧ Back E0 0 y.1 upd y.2 v E' := by
  induction h with
  | refl => intro E v hb; exact ⟨E, rfl, hb⟩
  | nil t h h2 ih =>
    intro E v hb
    obtain ⟨E', e, hb'⟩ := ih (Back.nil hb t (by simpa using h))
    exact ⟨E', e, hb'⟩
/-- for each argument one of several contracts -/
theorem GoodF.sel {P : Program} {f : Nat} {s0 : CSpec} {gs : List Sig} {o : Args gs → Option Prop × AV × List Blk} (h0 : GoodF P f s0)
    (h : ∀ xs, (∀ q, (o xs).1 = some q → q) → ∃ o1 : Args gs → Option Prop × AV × List Blk, GoodF P f (PSpec.spec ⟨gs, o1⟩) ∧ (∀ q, (o1 xs).1 = some q → q) ∧ Conv (o1 xs).2 (o xs).2) : GoodF P f (PSpec.spec ⟨gs, o⟩) := by
  refine ⟨?_, h0.2⟩
  intro E0 vs args bl p r upd fresh hH hU hok hvs hrun hp
  unfold PSpec.spec at hrun
  simp only at hrun
  split at hrun
  · split at hrun
    · rename_i xs hxs
      simp only [Option.some.injEq, Prod.mk.injEq] at hrun
      obtain ⟨rfl, rfl, rfl, rfl⟩ := hrun
      obtain ⟨o1, g1, k1, k2⟩ := h xs hp
      have run : (PSpec.spec ⟨gs, o1⟩).run args [] = some ((o1 xs).1, (o1 xs).2.1, [], (o1 xs).2.2) := by
        unfold PSpec.spec
        simp only [hxs]
      refine (g1.1 E0 vs args [] _ _ _ _ hH hU hok hvs run k1).mono ?_
      rintro e w' ⟨v, E', he, hw, hb⟩
      obtain ⟨E2, e2, hb2⟩ := Back.conv k2 hb
      exact ⟨v, E2, he, e2.trans hw, hb2⟩
    · cases hrun
  · cases hrun

/-- a nil slice in the second field, taken for data -/
theorem AVR.nil_ro {E : Env} {a : Cell} {t : Ty} {v : Value} (h : AVR E (.agg [a, .imm (.slice none 0 0)]) v) : AVR E (.agg [a, .ro t []]) v := by
  obtain ⟨vals, e, r, s, e1, h1, r2, s2, e2, h2, h3⟩ := h
  refine ⟨vals, e, r, s, e1, h1, r2, s2, e2, ?_, h3⟩
  obtain ⟨e3, _⟩ := h2
  exact ⟨_, e3, none, 0, rfl, Nat.le_refl _, fun hne => absurd rfl hne⟩

end Go.Fw

/- The chip that reads and writes disks: its first state. -/
namespace Go.Proofs.Ytblnigjmcjpopaa
open Go.Fw
set_option linter.unusedVariables false
set_option linter.unusedSimpArgs false
set_option maxRecDepth 100000

def dfresh0S : PSpec := ⟨[gC], fun (c, _) => (some (c.2.1 = 8 ∧ List.length c.2.2.2.2 ≤ 140737488355328 ∧ qF c.2.2.2.2 = 0), .agg [.own 0, .imm (.slice none 0 0)], [.arr (.int .i64) (dN [] (qF c.2.2.2.2))])⟩
theorem dfresh0_ok : GoodF Try.prog 50 dfresh0S.spec := by
  have hT := tab_ok (fs := [(54, dformed0S.spec)]) tree_ok
  have hP : SpecsOk Try.prog (tab tree [(54, dformed0S.spec)]) := specs_cons dformed0_ok specs_nil
  refine dfresh0S.good (fn := Try.f50) hT hP Try.func50 (by kernel_rfl) rfl fun (c : Cv) hp => ?_
  obtain ⟨cn, ck, cb, cs, cd⟩ := c
  obtain ⟨rfl, hl, h0⟩ : ck = 8 ∧ cd.length ≤ 140737488355328 ∧ qF cd = 0 := hp _ rfl
  repeat' first
    | (refine Go.mk ?_; conv => whnf)
    | refine Need.go ?_ ?_
    | refine NilG.go (fun _ => ?_) (fun _ => ?_)
    | refine Br.dec (fun _ => ?_) (fun _ => ?_)
    | refine Br.go (fun _ => ?_) (fun _ => ?_)
    | refine draw_go hT hP mixed ?_
    | refine round_go hT hP ?_
  · exact ⟨rfl, hl, h0⟩
  · exact .mk [] [2] _ rfl rfl rfl rfl rfl rfl rfl
def dfresh1S : PSpec := ⟨[gC], fun (c, _) => (some (c.2.1 = 8 ∧ List.length c.2.2.2.2 ≤ 140737488355328 ∧ 0 < qF c.2.2.2.2), .agg [.own 0, .own 1], [.arr (.int .i64) (dN [] (qF c.2.2.2.2)), .arr (.int .u8) (dM c.2.2.2.2)])⟩
theorem dfresh1_ok : GoodF Try.prog 50 dfresh1S.spec := by
  have hT := tab_ok (fs := [(54, dformed1S.spec)]) tree_ok
  have hP : SpecsOk Try.prog (tab tree [(54, dformed1S.spec)]) := specs_cons dformed1_ok specs_nil
  refine dfresh1S.good (fn := Try.f50) hT hP Try.func50 (by kernel_rfl) rfl fun (c : Cv) hp => ?_
  obtain ⟨cn, ck, cb, cs, cd⟩ := c
  obtain ⟨rfl, hl, h0⟩ : ck = 8 ∧ cd.length ≤ 140737488355328 ∧ 0 < qF cd := hp _ rfl
  repeat' first
    | (refine Go.mk ?_; conv => whnf)
    | refine Need.go ?_ ?_
    | refine NilG.go (fun _ => ?_) (fun _ => ?_)
    | refine Br.dec (fun _ => ?_) (fun _ => ?_)
    | refine Br.go (fun _ => ?_) (fun _ => ?_)
    | refine draw_go hT hP mixed ?_
    | refine round_go hT hP ?_
  · exact ⟨rfl, hl, h0⟩
  · exact .mk [] [2, 3] _ rfl rfl rfl rfl rfl rfl rfl

theorem dN_nil (q : Nat) : dN [] q = [0, 0, 0, 0, 0, 0, 0, 0, 0, 0] := by
  rw [dN_if]
  have e : (([] : List Int).getD 0 0 % 256) = 0 := rfl
  rw [e, if_neg (by omega)]
  rfl

end Go.Proofs.Ytblnigjmcjpopaa

