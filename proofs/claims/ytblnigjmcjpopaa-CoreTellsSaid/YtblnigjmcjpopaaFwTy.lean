/- The table of types of this seat. -/
import Derived.Test.YtblnigjmcjpopaaFw28
import Derived.Test.YtblnigjmcjpopaaProg
namespace Go.Fw
open Go.Proofs
@[reducible] def ty1 : TI := { desc := .other, size := 1, bytes := 8, zero := [.imm .nilFunc], ety := none }
@[reducible] def ty2 : TI := { desc := (.int .i64), size := 1, bytes := 8, zero := [.imm (.int .i64 0)], ety := (some (.int .i64)) }
@[reducible] def ty3 : TI := { desc := (.int .i64), size := 1, bytes := 8, zero := [.imm (.int .i64 0)], ety := (some (.int .i64)) }
@[reducible] def ty4 : TI := { desc := .bool, size := 1, bytes := 1, zero := [.imm (.bool false)], ety := (some .bool) }
@[reducible] def ty5 : TI := { desc := (.int .u8), size := 1, bytes := 1, zero := [.imm (.int .u8 0)], ety := (some (.int .u8)) }
@[reducible] def ty6 : TI := { desc := (.int .u8), size := 1, bytes := 1, zero := [.imm (.int .u8 0)], ety := (some (.int .u8)) }
@[reducible] def ty7 : TI := { desc := (.struct [(2, 0), (3, 1), (4, 2), (6, 3)]), size := 4, bytes := 24, zero := [.imm (.int .i64 0), .imm (.int .i64 0), .imm (.bool false), .imm (.int .u8 0)], ety := (some (.pair (.int .i64) (.pair (.int .i64) (.pair .bool (.int .u8))))) }
@[reducible] def ty8 : TI := { desc := (.struct [(2, 0), (3, 1), (4, 2), (6, 3)]), size := 4, bytes := 24, zero := [.imm (.int .i64 0), .imm (.int .i64 0), .imm (.bool false), .imm (.int .u8 0)], ety := (some (.pair (.int .i64) (.pair (.int .i64) (.pair .bool (.int .u8))))) }
@[reducible] def ty9 : TI := { desc := .str, size := 1, bytes := 16, zero := [.imm (.string ByteArray.empty)], ety := (some .str) }
@[reducible] def ty10 : TI := { desc := .str, size := 1, bytes := 16, zero := [.imm (.string ByteArray.empty)], ety := (some .str) }
@[reducible] def ty11 : TI := { desc := .str, size := 1, bytes := 16, zero := [.imm (.string ByteArray.empty)], ety := (some .str) }
@[reducible] def ty12 : TI := { desc := (.int .u64), size := 1, bytes := 8, zero := [.imm (.int .u64 0)], ety := (some (.int .u64)) }
@[reducible] def ty13 : TI := { desc := (.struct [(9, 0), (12, 1)]), size := 2, bytes := 24, zero := [.imm (.string ByteArray.empty), .imm (.int .u64 0)], ety := (some (.pair .str (.int .u64))) }
@[reducible] def ty14 : TI := { desc := (.struct [(9, 0), (12, 1)]), size := 2, bytes := 24, zero := [.imm (.string ByteArray.empty), .imm (.int .u64 0)], ety := (some (.pair .str (.int .u64))) }
@[reducible] def ty15 : TI := { desc := (.ptr 203), size := 1, bytes := 8, zero := [.imm (.pointer none)], ety := none }
@[reducible] def ty16 : TI := { desc := (.ptr 206), size := 1, bytes := 8, zero := [.imm (.pointer none)], ety := none }
@[reducible] def ty17 : TI := { desc := (.ptr 215), size := 1, bytes := 8, zero := [.imm (.pointer none)], ety := none }
@[reducible] def ty18 : TI := { desc := (.struct [(17, 0)]), size := 1, bytes := 8, zero := [.imm (.pointer none)], ety := none }
@[reducible] def ty19 : TI := { desc := (.struct [(17, 0)]), size := 1, bytes := 8, zero := [.imm (.pointer none)], ety := none }
@[reducible] def ty20 : TI := { desc := .iface, size := 1, bytes := 16, zero := [.imm .nilIface], ety := none }
@[reducible] def ty21 : TI := { desc := (.int .i32), size := 1, bytes := 4, zero := [.imm (.int .i32 0)], ety := (some (.int .i32)) }
@[reducible] def ty22 : TI := { desc := (.slice 29), size := 1, bytes := 24, zero := [.imm (.slice none 0 0)], ety := (some (.sl (.pair (.int .i64) (.pair .str (.pair (.int .i64) (.sl (.pair (.int .i64) (.pair (.int .i64) (.pair (.int .i64) (.sl (.pair (.int .i64) (.pair (.int .i64) (.pair (.int .i64) (.int .i64)))))))))))))) }
@[reducible] def ty23 : TI := { desc := (.slice 98), size := 1, bytes := 24, zero := [.imm (.slice none 0 0)], ety := (some (.sl (.pair (.int .i64) (.pair (.int .i64) (.pair (.int .i64) (.sl (.pair (.int .i64) (.pair (.int .i64) (.pair (.int .i64) (.int .i64)))))))))) }
@[reducible] def ty24 : TI := { desc := (.struct [(9, 0), (22, 1), (23, 2), (23, 3), (23, 4)]), size := 5, bytes := 112, zero := [.imm (.string ByteArray.empty), .imm (.slice none 0 0), .imm (.slice none 0 0), .imm (.slice none 0 0), .imm (.slice none 0 0)], ety := (some (.pair .str (.pair (.sl (.pair (.int .i64) (.pair .str (.pair (.int .i64) (.sl (.pair (.int .i64) (.pair (.int .i64) (.pair (.int .i64) (.sl (.pair (.int .i64) (.pair (.int .i64) (.pair (.int .i64) (.int .i64))))))))))))) (.pair (.sl (.pair (.int .i64) (.pair (.int .i64) (.pair (.int .i64) (.sl (.pair (.int .i64) (.pair (.int .i64) (.pair (.int .i64) (.int .i64))))))))) (.pair (.sl (.pair (.int .i64) (.pair (.int .i64) (.pair (.int .i64) (.sl (.pair (.int .i64) (.pair (.int .i64) (.pair (.int .i64) (.int .i64))))))))) (.sl (.pair (.int .i64) (.pair (.int .i64) (.pair (.int .i64) (.sl (.pair (.int .i64) (.pair (.int .i64) (.pair (.int .i64) (.int .i64)))))))))))))) }
@[reducible] def ty25 : TI := { desc := (.struct [(9, 0), (22, 1), (23, 2), (23, 3), (23, 4)]), size := 5, bytes := 112, zero := [.imm (.string ByteArray.empty), .imm (.slice none 0 0), .imm (.slice none 0 0), .imm (.slice none 0 0), .imm (.slice none 0 0)], ety := (some (.pair .str (.pair (.sl (.pair (.int .i64) (.pair .str (.pair (.int .i64) (.sl (.pair (.int .i64) (.pair (.int .i64) (.pair (.int .i64) (.sl (.pair (.int .i64) (.pair (.int .i64) (.pair (.int .i64) (.int .i64))))))))))))) (.pair (.sl (.pair (.int .i64) (.pair (.int .i64) (.pair (.int .i64) (.sl (.pair (.int .i64) (.pair (.int .i64) (.pair (.int .i64) (.int .i64))))))))) (.pair (.sl (.pair (.int .i64) (.pair (.int .i64) (.pair (.int .i64) (.sl (.pair (.int .i64) (.pair (.int .i64) (.pair (.int .i64) (.int .i64))))))))) (.sl (.pair (.int .i64) (.pair (.int .i64) (.pair (.int .i64) (.sl (.pair (.int .i64) (.pair (.int .i64) (.pair (.int .i64) (.int .i64)))))))))))))) }
@[reducible] def ty26 : TI := { desc := .other, size := 1, bytes := 8, zero := [.imm .nilFunc], ety := none }
@[reducible] def ty27 : TI := { desc := .other, size := 1, bytes := 8, zero := [.imm .nilFunc], ety := none }
@[reducible] def ty28 : TI := { desc := (.struct [(3, 0), (9, 1), (3, 2), (23, 3)]), size := 4, bytes := 56, zero := [.imm (.int .i64 0), .imm (.string ByteArray.empty), .imm (.int .i64 0), .imm (.slice none 0 0)], ety := (some (.pair (.int .i64) (.pair .str (.pair (.int .i64) (.sl (.pair (.int .i64) (.pair (.int .i64) (.pair (.int .i64) (.sl (.pair (.int .i64) (.pair (.int .i64) (.pair (.int .i64) (.int .i64))))))))))))) }
@[reducible] def ty29 : TI := { desc := (.struct [(3, 0), (9, 1), (3, 2), (23, 3)]), size := 4, bytes := 56, zero := [.imm (.int .i64 0), .imm (.string ByteArray.empty), .imm (.int .i64 0), .imm (.slice none 0 0)], ety := (some (.pair (.int .i64) (.pair .str (.pair (.int .i64) (.sl (.pair (.int .i64) (.pair (.int .i64) (.pair (.int .i64) (.sl (.pair (.int .i64) (.pair (.int .i64) (.pair (.int .i64) (.int .i64))))))))))))) }
@[reducible] def ty30 : TI := { desc := .other, size := 1, bytes := 8, zero := [.imm .nilFunc], ety := none }
@[reducible] def ty31 : TI := { desc := .other, size := 1, bytes := 8, zero := [.imm .nilFunc], ety := none }
@[reducible] def ty32 : TI := { desc := .other, size := 1, bytes := 8, zero := [.imm .nilFunc], ety := none }
@[reducible] def ty33 : TI := { desc := .other, size := 1, bytes := 8, zero := [.imm .nilFunc], ety := none }
@[reducible] def ty34 : TI := { desc := .other, size := 1, bytes := 8, zero := [.imm .nilFunc], ety := none }
@[reducible] def ty35 : TI := { desc := .other, size := 1, bytes := 8, zero := [.imm .nilFunc], ety := none }
@[reducible] def ty36 : TI := { desc := .other, size := 1, bytes := 8, zero := [.imm .nilFunc], ety := none }
@[reducible] def ty37 : TI := { desc := .other, size := 1, bytes := 8, zero := [.imm .nilFunc], ety := none }
@[reducible] def ty38 : TI := { desc := .other, size := 1, bytes := 8, zero := [.imm .nilFunc], ety := none }
@[reducible] def ty40 : TI := { desc := .other, size := 1, bytes := 8, zero := [.imm .nilFunc], ety := none }
@[reducible] def ty41 : TI := { desc := .other, size := 1, bytes := 8, zero := [.imm .nilFunc], ety := none }
@[reducible] def ty42 : TI := { desc := .other, size := 1, bytes := 8, zero := [.imm .nilFunc], ety := none }
@[reducible] def ty43 : TI := { desc := .other, size := 1, bytes := 8, zero := [.imm .nilFunc], ety := none }
@[reducible] def ty44 : TI := { desc := (.array 9 3), size := 9, bytes := 72, zero := [.run .i64 9 (List.replicate 9 0)], ety := (some (.ints .i64 9)), cmp := true }
@[reducible] def ty45 : TI := { desc := (.array 9 3), size := 9, bytes := 72, zero := [.run .i64 9 (List.replicate 9 0)], ety := (some (.ints .i64 9)), cmp := true }
@[reducible] def ty46 : TI := { desc := (.struct [(45, 0), (3, 9), (3, 10), (4, 11)]), size := 12, bytes := 96, zero := [.run .i64 9 (List.replicate 9 0), .imm (.int .i64 0), .imm (.int .i64 0), .imm (.bool false)], ety := (some (.pair (.ints .i64 9) (.pair (.int .i64) (.pair (.int .i64) .bool)))) }
@[reducible] def ty47 : TI := { desc := (.struct [(45, 0), (3, 9), (3, 10), (4, 11)]), size := 12, bytes := 96, zero := [.run .i64 9 (List.replicate 9 0), .imm (.int .i64 0), .imm (.int .i64 0), .imm (.bool false)], ety := (some (.pair (.ints .i64 9) (.pair (.int .i64) (.pair (.int .i64) .bool)))), cmp := true }
@[reducible] def ty48 : TI := { desc := .other, size := 1, bytes := 8, zero := [.imm .nilFunc], ety := none }
@[reducible] def ty49 : TI := { desc := .other, size := 1, bytes := 8, zero := [.imm .nilFunc], ety := none }
@[reducible] def ty50 : TI := { desc := (.slice 67), size := 1, bytes := 24, zero := [.imm (.slice none 0 0)], ety := (some (.sl (.pair .str (.pair (.int .i64) (.pair (.int .i64) (.pair (.int .i64) (.sl (.int .u8)))))))) }
@[reducible] def ty51 : TI := { desc := (.slice 71), size := 1, bytes := 24, zero := [.imm (.slice none 0 0)], ety := (some (.sl (.pair .str .str))) }
@[reducible] def ty52 : TI := { desc := (.struct [(9, 0), (25, 1), (50, 6), (51, 7)]), size := 8, bytes := 176, zero := [.imm (.string ByteArray.empty), .imm (.string ByteArray.empty), .imm (.slice none 0 0), .imm (.slice none 0 0), .imm (.slice none 0 0), .imm (.slice none 0 0), .imm (.slice none 0 0), .imm (.slice none 0 0)], ety := (some (.pair .str (.pair (.pair .str (.pair (.sl (.pair (.int .i64) (.pair .str (.pair (.int .i64) (.sl (.pair (.int .i64) (.pair (.int .i64) (.pair (.int .i64) (.sl (.pair (.int .i64) (.pair (.int .i64) (.pair (.int .i64) (.int .i64))))))))))))) (.pair (.sl (.pair (.int .i64) (.pair (.int .i64) (.pair (.int .i64) (.sl (.pair (.int .i64) (.pair (.int .i64) (.pair (.int .i64) (.int .i64))))))))) (.pair (.sl (.pair (.int .i64) (.pair (.int .i64) (.pair (.int .i64) (.sl (.pair (.int .i64) (.pair (.int .i64) (.pair (.int .i64) (.int .i64))))))))) (.sl (.pair (.int .i64) (.pair (.int .i64) (.pair (.int .i64) (.sl (.pair (.int .i64) (.pair (.int .i64) (.pair (.int .i64) (.int .i64))))))))))))) (.pair (.sl (.pair .str (.pair (.int .i64) (.pair (.int .i64) (.pair (.int .i64) (.sl (.int .u8))))))) (.sl (.pair .str .str)))))) }
@[reducible] def ty53 : TI := { desc := (.struct [(9, 0), (25, 1), (50, 6), (51, 7)]), size := 8, bytes := 176, zero := [.imm (.string ByteArray.empty), .imm (.string ByteArray.empty), .imm (.slice none 0 0), .imm (.slice none 0 0), .imm (.slice none 0 0), .imm (.slice none 0 0), .imm (.slice none 0 0), .imm (.slice none 0 0)], ety := (some (.pair .str (.pair (.pair .str (.pair (.sl (.pair (.int .i64) (.pair .str (.pair (.int .i64) (.sl (.pair (.int .i64) (.pair (.int .i64) (.pair (.int .i64) (.sl (.pair (.int .i64) (.pair (.int .i64) (.pair (.int .i64) (.int .i64))))))))))))) (.pair (.sl (.pair (.int .i64) (.pair (.int .i64) (.pair (.int .i64) (.sl (.pair (.int .i64) (.pair (.int .i64) (.pair (.int .i64) (.int .i64))))))))) (.pair (.sl (.pair (.int .i64) (.pair (.int .i64) (.pair (.int .i64) (.sl (.pair (.int .i64) (.pair (.int .i64) (.pair (.int .i64) (.int .i64))))))))) (.sl (.pair (.int .i64) (.pair (.int .i64) (.pair (.int .i64) (.sl (.pair (.int .i64) (.pair (.int .i64) (.pair (.int .i64) (.int .i64))))))))))))) (.pair (.sl (.pair .str (.pair (.int .i64) (.pair (.int .i64) (.pair (.int .i64) (.sl (.int .u8))))))) (.sl (.pair .str .str)))))) }
@[reducible] def ty54 : TI := { desc := (.int .i64), size := 1, bytes := 8, zero := [.imm (.int .i64 0)], ety := (some (.int .i64)) }
@[reducible] def ty55 : TI := { desc := .other, size := 1, bytes := 8, zero := [.imm .nilFunc], ety := none }
@[reducible] def ty56 : TI := { desc := .other, size := 1, bytes := 8, zero := [.imm .nilFunc], ety := none }
@[reducible] def ty57 : TI := { desc := (.slice 60), size := 1, bytes := 24, zero := [.imm (.slice none 0 0)], ety := (some (.sl (.pair (.int .i64) (.pair (.int .i64) (.int .i64))))) }
@[reducible] def ty58 : TI := { desc := .other, size := 1, bytes := 8, zero := [.imm .nilFunc], ety := none }
@[reducible] def ty59 : TI := { desc := (.struct [(3, 0), (3, 1), (3, 2)]), size := 3, bytes := 24, zero := [.imm (.int .i64 0), .imm (.int .i64 0), .imm (.int .i64 0)], ety := (some (.pair (.int .i64) (.pair (.int .i64) (.int .i64)))) }
@[reducible] def ty60 : TI := { desc := (.struct [(3, 0), (3, 1), (3, 2)]), size := 3, bytes := 24, zero := [.imm (.int .i64 0), .imm (.int .i64 0), .imm (.int .i64 0)], ety := (some (.pair (.int .i64) (.pair (.int .i64) (.int .i64)))), cmp := true }
@[reducible] def ty61 : TI := { desc := .other, size := 1, bytes := 8, zero := [.imm .nilFunc], ety := none }
@[reducible] def ty62 : TI := { desc := .other, size := 1, bytes := 8, zero := [.imm .nilFunc], ety := none }
@[reducible] def ty64 : TI := { desc := .other, size := 1, bytes := 8, zero := [.imm .nilFunc], ety := none }
@[reducible] def ty65 : TI := { desc := (.slice 5), size := 1, bytes := 24, zero := [.imm (.slice none 0 0)], ety := (some (.sl (.int .u8))) }
@[reducible] def ty66 : TI := { desc := (.struct [(9, 0), (3, 1), (3, 2), (3, 3), (65, 4)]), size := 5, bytes := 64, zero := [.imm (.string ByteArray.empty), .imm (.int .i64 0), .imm (.int .i64 0), .imm (.int .i64 0), .imm (.slice none 0 0)], ety := (some (.pair .str (.pair (.int .i64) (.pair (.int .i64) (.pair (.int .i64) (.sl (.int .u8))))))) }
@[reducible] def ty67 : TI := { desc := (.struct [(9, 0), (3, 1), (3, 2), (3, 3), (65, 4)]), size := 5, bytes := 64, zero := [.imm (.string ByteArray.empty), .imm (.int .i64 0), .imm (.int .i64 0), .imm (.int .i64 0), .imm (.slice none 0 0)], ety := (some (.pair .str (.pair (.int .i64) (.pair (.int .i64) (.pair (.int .i64) (.sl (.int .u8))))))) }
@[reducible] def ty68 : TI := { desc := (.slice 9), size := 1, bytes := 24, zero := [.imm (.slice none 0 0)], ety := (some (.sl .str)) }
@[reducible] def ty69 : TI := { desc := .other, size := 1, bytes := 8, zero := [.imm .nilFunc], ety := none }
@[reducible] def ty70 : TI := { desc := (.struct [(9, 0), (9, 1)]), size := 2, bytes := 32, zero := [.imm (.string ByteArray.empty), .imm (.string ByteArray.empty)], ety := (some (.pair .str .str)) }
@[reducible] def ty71 : TI := { desc := (.struct [(9, 0), (9, 1)]), size := 2, bytes := 32, zero := [.imm (.string ByteArray.empty), .imm (.string ByteArray.empty)], ety := (some (.pair .str .str)), cmp := true }
@[reducible] def ty72 : TI := { desc := .other, size := 1, bytes := 8, zero := [.imm .nilFunc], ety := none }
@[reducible] def ty73 : TI := { desc := .other, size := 1, bytes := 8, zero := [.imm .nilFunc], ety := none }
@[reducible] def ty74 : TI := { desc := .other, size := 1, bytes := 8, zero := [.imm .nilFunc], ety := none }
@[reducible] def ty75 : TI := { desc := .other, size := 1, bytes := 8, zero := [.imm .nilFunc], ety := none }
@[reducible] def ty76 : TI := { desc := (.slice 4), size := 1, bytes := 24, zero := [.imm (.slice none 0 0)], ety := (some (.sl .bool)) }
@[reducible] def ty77 : TI := { desc := .other, size := 1, bytes := 8, zero := [.imm .nilFunc], ety := none }
@[reducible] def ty79 : TI := { desc := .other, size := 1, bytes := 8, zero := [.imm .nilFunc], ety := none }
@[reducible] def ty80 : TI := { desc := .other, size := 1, bytes := 8, zero := [.imm .nilFunc], ety := none }
@[reducible] def ty81 : TI := { desc := .other, size := 1, bytes := 8, zero := [.imm .nilFunc], ety := none }
@[reducible] def ty82 : TI := { desc := .other, size := 1, bytes := 8, zero := [.imm .nilFunc], ety := none }
@[reducible] def ty83 : TI := { desc := (.slice 3), size := 1, bytes := 24, zero := [.imm (.slice none 0 0)], ety := (some (.sl (.int .i64))) }
@[reducible] def ty84 : TI := { desc := (.struct [(83, 0), (65, 1)]), size := 2, bytes := 48, zero := [.imm (.slice none 0 0), .imm (.slice none 0 0)], ety := (some (.pair (.sl (.int .i64)) (.sl (.int .u8)))) }
@[reducible] def ty85 : TI := { desc := (.struct [(83, 0), (65, 1)]), size := 2, bytes := 48, zero := [.imm (.slice none 0 0), .imm (.slice none 0 0)], ety := (some (.pair (.sl (.int .i64)) (.sl (.int .u8)))) }
@[reducible] def ty86 : TI := { desc := .other, size := 1, bytes := 8, zero := [.imm .nilFunc], ety := none }
@[reducible] def ty87 : TI := { desc := .other, size := 1, bytes := 8, zero := [.imm .nilFunc], ety := none }
@[reducible] def ty88 : TI := { desc := .other, size := 1, bytes := 8, zero := [.imm .nilFunc], ety := none }
@[reducible] def ty89 : TI := { desc := .other, size := 1, bytes := 8, zero := [.imm .nilFunc], ety := none }
@[reducible] def ty90 : TI := { desc := .other, size := 1, bytes := 8, zero := [.imm .nilFunc], ety := none }
@[reducible] def ty91 : TI := { desc := .other, size := 1, bytes := 8, zero := [.imm .nilFunc], ety := none }
@[reducible] def ty92 : TI := { desc := .other, size := 1, bytes := 8, zero := [.imm .nilFunc], ety := none }
@[reducible] def ty93 : TI := { desc := .other, size := 1, bytes := 8, zero := [.imm .nilFunc], ety := none }
@[reducible] def ty94 : TI := { desc := .other, size := 1, bytes := 8, zero := [.imm .nilFunc], ety := none }
@[reducible] def ty95 : TI := { desc := .other, size := 1, bytes := 8, zero := [.imm .nilFunc], ety := none }
@[reducible] def ty96 : TI := { desc := (.slice 101), size := 1, bytes := 24, zero := [.imm (.slice none 0 0)], ety := (some (.sl (.pair (.int .i64) (.pair (.int .i64) (.pair (.int .i64) (.int .i64)))))) }
@[reducible] def ty97 : TI := { desc := (.struct [(3, 0), (3, 1), (3, 2), (96, 3)]), size := 4, bytes := 48, zero := [.imm (.int .i64 0), .imm (.int .i64 0), .imm (.int .i64 0), .imm (.slice none 0 0)], ety := (some (.pair (.int .i64) (.pair (.int .i64) (.pair (.int .i64) (.sl (.pair (.int .i64) (.pair (.int .i64) (.pair (.int .i64) (.int .i64))))))))) }
@[reducible] def ty98 : TI := { desc := (.struct [(3, 0), (3, 1), (3, 2), (96, 3)]), size := 4, bytes := 48, zero := [.imm (.int .i64 0), .imm (.int .i64 0), .imm (.int .i64 0), .imm (.slice none 0 0)], ety := (some (.pair (.int .i64) (.pair (.int .i64) (.pair (.int .i64) (.sl (.pair (.int .i64) (.pair (.int .i64) (.pair (.int .i64) (.int .i64))))))))) }
@[reducible] def ty99 : TI := { desc := .other, size := 1, bytes := 8, zero := [.imm .nilFunc], ety := none }
@[reducible] def ty100 : TI := { desc := (.struct [(3, 0), (3, 1), (3, 2), (3, 3)]), size := 4, bytes := 32, zero := [.imm (.int .i64 0), .imm (.int .i64 0), .imm (.int .i64 0), .imm (.int .i64 0)], ety := (some (.pair (.int .i64) (.pair (.int .i64) (.pair (.int .i64) (.int .i64))))) }
@[reducible] def ty101 : TI := { desc := (.struct [(3, 0), (3, 1), (3, 2), (3, 3)]), size := 4, bytes := 32, zero := [.imm (.int .i64 0), .imm (.int .i64 0), .imm (.int .i64 0), .imm (.int .i64 0)], ety := (some (.pair (.int .i64) (.pair (.int .i64) (.pair (.int .i64) (.int .i64))))), cmp := true }
@[reducible] def ty102 : TI := { desc := .other, size := 1, bytes := 8, zero := [.imm .nilFunc], ety := none }
@[reducible] def ty103 : TI := { desc := .other, size := 1, bytes := 8, zero := [.imm .nilFunc], ety := none }
@[reducible] def ty104 : TI := { desc := .other, size := 1, bytes := 8, zero := [.imm .nilFunc], ety := none }
@[reducible] def ty105 : TI := { desc := .other, size := 1, bytes := 8, zero := [.imm .nilFunc], ety := none }
@[reducible] def ty106 : TI := { desc := .other, size := 1, bytes := 8, zero := [.imm .nilFunc], ety := none }
@[reducible] def ty107 : TI := { desc := .other, size := 1, bytes := 8, zero := [.imm .nilFunc], ety := none }
@[reducible] def ty108 : TI := { desc := .other, size := 1, bytes := 8, zero := [.imm .nilFunc], ety := none }
@[reducible] def ty109 : TI := { desc := .other, size := 1, bytes := 8, zero := [.imm .nilFunc], ety := none }
@[reducible] def ty111 : TI := { desc := .other, size := 1, bytes := 8, zero := [.imm .nilFunc], ety := none }
@[reducible] def ty112 : TI := { desc := .other, size := 1, bytes := 8, zero := [.imm .nilFunc], ety := none }
@[reducible] def ty114 : TI := { desc := .other, size := 1, bytes := 8, zero := [.imm .nilFunc], ety := none }
@[reducible] def ty115 : TI := { desc := .other, size := 1, bytes := 8, zero := [.imm .nilFunc], ety := none }
@[reducible] def ty116 : TI := { desc := .other, size := 1, bytes := 8, zero := [.imm .nilFunc], ety := none }
@[reducible] def ty117 : TI := { desc := .other, size := 1, bytes := 8, zero := [.imm .nilFunc], ety := none }
@[reducible] def ty118 : TI := { desc := .other, size := 1, bytes := 8, zero := [.imm .nilFunc], ety := none }
@[reducible] def ty119 : TI := { desc := .other, size := 1, bytes := 8, zero := [.imm .nilFunc], ety := none }
@[reducible] def ty120 : TI := { desc := (.map 71 4), size := 1, bytes := 8, zero := [.imm (.map none)], ety := none }
@[reducible] def ty121 : TI := { desc := .other, size := 1, bytes := 8, zero := [.imm .nilFunc], ety := none }
@[reducible] def ty122 : TI := { desc := .other, size := 1, bytes := 8, zero := [.imm .nilFunc], ety := none }
@[reducible] def ty123 : TI := { desc := (.int .u64), size := 1, bytes := 8, zero := [.imm (.int .u64 0)], ety := (some (.int .u64)) }
@[reducible] def ty124 : TI := { desc := .other, size := 1, bytes := 8, zero := [.imm .nilFunc], ety := none }
@[reducible] def ty125 : TI := { desc := .other, size := 1, bytes := 8, zero := [.imm .nilFunc], ety := none }
@[reducible] def ty127 : TI := { desc := .other, size := 1, bytes := 8, zero := [.imm .nilFunc], ety := none }
@[reducible] def ty128 : TI := { desc := .other, size := 1, bytes := 8, zero := [.imm .nilFunc], ety := none }
@[reducible] def ty129 : TI := { desc := .other, size := 1, bytes := 8, zero := [.imm .nilFunc], ety := none }
@[reducible] def ty130 : TI := { desc := .other, size := 1, bytes := 8, zero := [.imm .nilFunc], ety := none }
@[reducible] def ty131 : TI := { desc := .other, size := 1, bytes := 8, zero := [.imm .nilFunc], ety := none }
@[reducible] def ty132 : TI := { desc := .other, size := 1, bytes := 8, zero := [.imm .nilFunc], ety := none }
@[reducible] def ty133 : TI := { desc := .other, size := 1, bytes := 8, zero := [.imm .nilFunc], ety := none }
@[reducible] def ty134 : TI := { desc := .other, size := 1, bytes := 8, zero := [.imm .nilFunc], ety := none }
@[reducible] def ty135 : TI := { desc := .other, size := 1, bytes := 8, zero := [.imm .nilFunc], ety := none }
@[reducible] def ty136 : TI := { desc := .other, size := 1, bytes := 8, zero := [.imm .nilFunc], ety := none }
@[reducible] def ty137 : TI := { desc := .other, size := 1, bytes := 8, zero := [.imm .nilFunc], ety := none }
@[reducible] def ty138 : TI := { desc := .other, size := 1, bytes := 8, zero := [.imm .nilFunc], ety := none }
@[reducible] def ty139 : TI := { desc := (.ptr 23), size := 1, bytes := 8, zero := [.imm (.pointer none)], ety := none }
@[reducible] def ty140 : TI := { desc := (.slice 139), size := 1, bytes := 24, zero := [.imm (.slice none 0 0)], ety := none }
@[reducible] def ty141 : TI := { desc := .other, size := 1, bytes := 8, zero := [.imm .nilFunc], ety := none }
@[reducible] def ty143 : TI := { desc := .other, size := 1, bytes := 8, zero := [.imm .nilFunc], ety := none }
@[reducible] def ty144 : TI := { desc := (.slice 83), size := 1, bytes := 24, zero := [.imm (.slice none 0 0)], ety := (some (.sl (.sl (.int .i64)))) }
@[reducible] def ty145 : TI := { desc := .other, size := 1, bytes := 8, zero := [.imm .nilFunc], ety := none }
@[reducible] def ty146 : TI := { desc := .other, size := 1, bytes := 8, zero := [.imm .nilFunc], ety := none }
@[reducible] def ty147 : TI := { desc := .other, size := 1, bytes := 8, zero := [.imm .nilFunc], ety := none }
@[reducible] def ty148 : TI := { desc := .other, size := 1, bytes := 8, zero := [.imm .nilFunc], ety := none }
@[reducible] def ty149 : TI := { desc := .other, size := 1, bytes := 8, zero := [.imm .nilFunc], ety := none }
@[reducible] def ty150 : TI := { desc := .other, size := 1, bytes := 8, zero := [.imm .nilFunc], ety := none }
@[reducible] def ty151 : TI := { desc := (.slice 23), size := 1, bytes := 24, zero := [.imm (.slice none 0 0)], ety := (some (.sl (.sl (.pair (.int .i64) (.pair (.int .i64) (.pair (.int .i64) (.sl (.pair (.int .i64) (.pair (.int .i64) (.pair (.int .i64) (.int .i64))))))))))) }
@[reducible] def ty152 : TI := { desc := .other, size := 1, bytes := 8, zero := [.imm .nilFunc], ety := none }
@[reducible] def ty153 : TI := { desc := .other, size := 1, bytes := 8, zero := [.imm .nilFunc], ety := none }
@[reducible] def ty154 : TI := { desc := .other, size := 1, bytes := 8, zero := [.imm .nilFunc], ety := none }
@[reducible] def ty155 : TI := { desc := .other, size := 1, bytes := 8, zero := [.imm .nilFunc], ety := none }
@[reducible] def ty156 : TI := { desc := .other, size := 1, bytes := 8, zero := [.imm .nilFunc], ety := none }
@[reducible] def ty157 : TI := { desc := .other, size := 1, bytes := 8, zero := [.imm .nilFunc], ety := none }
@[reducible] def ty158 : TI := { desc := .other, size := 1, bytes := 8, zero := [.imm .nilFunc], ety := none }
@[reducible] def ty159 : TI := { desc := .other, size := 1, bytes := 8, zero := [.imm .nilFunc], ety := none }
@[reducible] def ty161 : TI := { desc := .other, size := 1, bytes := 8, zero := [.imm .nilFunc], ety := none }
@[reducible] def ty162 : TI := { desc := .other, size := 1, bytes := 8, zero := [.imm .nilFunc], ety := none }
@[reducible] def ty163 : TI := { desc := .other, size := 1, bytes := 8, zero := [.imm .nilFunc], ety := none }
@[reducible] def ty164 : TI := { desc := (.map 166 4), size := 1, bytes := 8, zero := [.imm (.map none)], ety := none }
@[reducible] def ty165 : TI := { desc := (.struct [(9, 0), (3, 1)]), size := 2, bytes := 24, zero := [.imm (.string ByteArray.empty), .imm (.int .i64 0)], ety := (some (.pair .str (.int .i64))) }
@[reducible] def ty166 : TI := { desc := (.struct [(9, 0), (3, 1)]), size := 2, bytes := 24, zero := [.imm (.string ByteArray.empty), .imm (.int .i64 0)], ety := (some (.pair .str (.int .i64))), cmp := true }
@[reducible] def ty167 : TI := { desc := .other, size := 1, bytes := 8, zero := [.imm .nilFunc], ety := none }
@[reducible] def ty168 : TI := { desc := .other, size := 1, bytes := 8, zero := [.imm .nilFunc], ety := none }
@[reducible] def ty169 : TI := { desc := .other, size := 1, bytes := 8, zero := [.imm .nilFunc], ety := none }
@[reducible] def ty170 : TI := { desc := .other, size := 1, bytes := 8, zero := [.imm .nilFunc], ety := none }
@[reducible] def ty171 : TI := { desc := .other, size := 1, bytes := 8, zero := [.imm .nilFunc], ety := none }
@[reducible] def ty173 : TI := { desc := .other, size := 1, bytes := 8, zero := [.imm .nilFunc], ety := none }
@[reducible] def ty174 : TI := { desc := .other, size := 1, bytes := 8, zero := [.imm .nilFunc], ety := none }
@[reducible] def ty175 : TI := { desc := .other, size := 1, bytes := 8, zero := [.imm .nilFunc], ety := none }
@[reducible] def ty176 : TI := { desc := .other, size := 1, bytes := 8, zero := [.imm .nilFunc], ety := none }
@[reducible] def ty178 : TI := { desc := .other, size := 1, bytes := 8, zero := [.imm .nilFunc], ety := none }
@[reducible] def ty179 : TI := { desc := .other, size := 1, bytes := 8, zero := [.imm .nilFunc], ety := none }
@[reducible] def ty180 : TI := { desc := .other, size := 1, bytes := 8, zero := [.imm .nilFunc], ety := none }
@[reducible] def ty181 : TI := { desc := .other, size := 1, bytes := 8, zero := [.imm .nilFunc], ety := none }
@[reducible] def ty182 : TI := { desc := .other, size := 1, bytes := 8, zero := [.imm .nilFunc], ety := none }
@[reducible] def ty183 : TI := { desc := (.map 4 3), size := 1, bytes := 8, zero := [.imm (.map none)], ety := none }
@[reducible] def ty184 : TI := { desc := .other, size := 1, bytes := 8, zero := [.imm .nilFunc], ety := none }
@[reducible] def ty185 : TI := { desc := .other, size := 1, bytes := 8, zero := [.imm .nilFunc], ety := none }
@[reducible] def ty186 : TI := { desc := .other, size := 1, bytes := 8, zero := [.imm .nilFunc], ety := none }
@[reducible] def ty187 : TI := { desc := .other, size := 1, bytes := 8, zero := [.imm .nilFunc], ety := none }
@[reducible] def ty188 : TI := { desc := (.int .u64), size := 1, bytes := 8, zero := [.imm (.int .u64 0)], ety := (some (.int .u64)) }
@[reducible] def ty189 : TI := { desc := .other, size := 1, bytes := 8, zero := [.imm .nilFunc], ety := none }
@[reducible] def ty190 : TI := { desc := (.array 8 3), size := 8, bytes := 64, zero := [.run .i64 8 (List.replicate 8 0)], ety := (some (.ints .i64 8)), cmp := true }
@[reducible] def ty191 : TI := { desc := .other, size := 1, bytes := 8, zero := [.imm .nilFunc], ety := none }
@[reducible] def ty192 : TI := { desc := (.array 6 3), size := 6, bytes := 48, zero := [.run .i64 6 (List.replicate 6 0)], ety := (some (.ints .i64 6)), cmp := true }
@[reducible] def ty193 : TI := { desc := (.array 10 3), size := 10, bytes := 80, zero := [.run .i64 10 (List.replicate 10 0)], ety := (some (.ints .i64 10)), cmp := true }
@[reducible] def ty194 : TI := { desc := .other, size := 1, bytes := 8, zero := [.imm .nilFunc], ety := none }
@[reducible] def ty196 : TI := { desc := .other, size := 1, bytes := 8, zero := [.imm .nilFunc], ety := none }
@[reducible] def ty197 : TI := { desc := .other, size := 1, bytes := 8, zero := [.imm .nilFunc], ety := none }
@[reducible] def ty198 : TI := { desc := (.int .u32), size := 1, bytes := 4, zero := [.imm (.int .u32 0)], ety := (some (.int .u32)) }
@[reducible] def ty200 : TI := { desc := .other, size := 1, bytes := 8, zero := [.imm .nilFunc], ety := none }
@[reducible] def ty201 : TI := { desc := .other, size := 1, bytes := 8, zero := [.imm .nilFunc], ety := none }
@[reducible] def ty202 : TI := { desc := (.struct [(17, 0), (17, 1), (17, 2), (9, 3)]), size := 4, bytes := 40, zero := [.imm (.pointer none), .imm (.pointer none), .imm (.pointer none), .imm (.string ByteArray.empty)], ety := none }
@[reducible] def ty203 : TI := { desc := (.struct [(17, 0), (17, 1), (17, 2), (9, 3)]), size := 4, bytes := 40, zero := [.imm (.pointer none), .imm (.pointer none), .imm (.pointer none), .imm (.string ByteArray.empty)], ety := none }
@[reducible] def ty204 : TI := { desc := (.array 0 16), size := 0, bytes := 0, zero := [], ety := none }
@[reducible] def ty205 : TI := { desc := (.struct [(204, 0)]), size := 0, bytes := 0, zero := [], ety := none }
@[reducible] def ty206 : TI := { desc := (.struct [(204, 0)]), size := 0, bytes := 0, zero := [], ety := none }
@[reducible] def ty207 : TI := { desc := .other, size := 1, bytes := 8, zero := [.imm .nilFunc], ety := none }
@[reducible] def ty208 : TI := { desc := (.int .u8), size := 1, bytes := 1, zero := [.imm (.int .u8 0)], ety := (some (.int .u8)) }
@[reducible] def ty209 : TI := { desc := (.int .u8), size := 1, bytes := 1, zero := [.imm (.int .u8 0)], ety := (some (.int .u8)) }
@[reducible] def ty210 : TI := { desc := .other, size := 1, bytes := 8, zero := [.imm .nilFunc], ety := none }
@[reducible] def ty211 : TI := { desc := (.ptr 5), size := 1, bytes := 8, zero := [.imm (.pointer none)], ety := none }
@[reducible] def ty212 : TI := { desc := (.int .i32), size := 1, bytes := 4, zero := [.imm (.int .i32 0)], ety := (some (.int .i32)) }
@[reducible] def ty213 : TI := { desc := (.int .i32), size := 1, bytes := 4, zero := [.imm (.int .i32 0)], ety := (some (.int .i32)) }
@[reducible] def ty214 : TI := { desc := (.struct [(12, 0), (12, 1), (198, 2), (208, 3), (5, 4), (5, 5), (209, 6), (210, 7), (211, 8), (212, 9), (213, 10)]), size := 11, bytes := 48, zero := [.imm (.int .u64 0), .imm (.int .u64 0), .imm (.int .u32 0), .imm (.int .u8 0), .imm (.int .u8 0), .imm (.int .u8 0), .imm (.int .u8 0), .imm .nilFunc, .imm (.pointer none), .imm (.int .i32 0), .imm (.int .i32 0)], ety := none }
@[reducible] def ty215 : TI := { desc := (.struct [(12, 0), (12, 1), (198, 2), (208, 3), (5, 4), (5, 5), (209, 6), (210, 7), (211, 8), (212, 9), (213, 10)]), size := 11, bytes := 48, zero := [.imm (.int .u64 0), .imm (.int .u64 0), .imm (.int .u32 0), .imm (.int .u8 0), .imm (.int .u8 0), .imm (.int .u8 0), .imm (.int .u8 0), .imm .nilFunc, .imm (.pointer none), .imm (.int .i32 0), .imm (.int .i32 0)], ety := none }
def tree : TTree := (.node 105 ty105 (.node 52 ty52 (.node 26 ty26 (.node 13 ty13 (.node 7 ty7 (.node 4 ty4 (.node 2 ty2 (.node 1 ty1 .leaf .leaf) (.node 3 ty3 .leaf .leaf)) (.node 6 ty6 (.node 5 ty5 .leaf .leaf) .leaf)) (.node 10 ty10 (.node 9 ty9 (.node 8 ty8 .leaf .leaf) .leaf) (.node 12 ty12 (.node 11 ty11 .leaf .leaf) .leaf))) (.node 20 ty20 (.node 17 ty17 (.node 15 ty15 (.node 14 ty14 .leaf .leaf) (.node 16 ty16 .leaf .leaf)) (.node 19 ty19 (.node 18 ty18 .leaf .leaf) .leaf)) (.node 23 ty23 (.node 22 ty22 (.node 21 ty21 .leaf .leaf) .leaf) (.node 25 ty25 (.node 24 ty24 .leaf .leaf) .leaf)))) (.node 40 ty40 (.node 33 ty33 (.node 30 ty30 (.node 28 ty28 (.node 27 ty27 .leaf .leaf) (.node 29 ty29 .leaf .leaf)) (.node 32 ty32 (.node 31 ty31 .leaf .leaf) .leaf)) (.node 36 ty36 (.node 35 ty35 (.node 34 ty34 .leaf .leaf) .leaf) (.node 38 ty38 (.node 37 ty37 .leaf .leaf) .leaf))) (.node 46 ty46 (.node 43 ty43 (.node 42 ty42 (.node 41 ty41 .leaf .leaf) .leaf) (.node 45 ty45 (.node 44 ty44 .leaf .leaf) .leaf)) (.node 49 ty49 (.node 48 ty48 (.node 47 ty47 .leaf .leaf) .leaf) (.node 51 ty51 (.node 50 ty50 .leaf .leaf) .leaf))))) (.node 80 ty80 (.node 66 ty66 (.node 59 ty59 (.node 56 ty56 (.node 54 ty54 (.node 53 ty53 .leaf .leaf) (.node 55 ty55 .leaf .leaf)) (.node 58 ty58 (.node 57 ty57 .leaf .leaf) .leaf)) (.node 62 ty62 (.node 61 ty61 (.node 60 ty60 .leaf .leaf) .leaf) (.node 65 ty65 (.node 64 ty64 .leaf .leaf) .leaf))) (.node 73 ty73 (.node 70 ty70 (.node 68 ty68 (.node 67 ty67 .leaf .leaf) (.node 69 ty69 .leaf .leaf)) (.node 72 ty72 (.node 71 ty71 .leaf .leaf) .leaf)) (.node 76 ty76 (.node 75 ty75 (.node 74 ty74 .leaf .leaf) .leaf) (.node 79 ty79 (.node 77 ty77 .leaf .leaf) .leaf)))) (.node 93 ty93 (.node 87 ty87 (.node 84 ty84 (.node 82 ty82 (.node 81 ty81 .leaf .leaf) (.node 83 ty83 .leaf .leaf)) (.node 86 ty86 (.node 85 ty85 .leaf .leaf) .leaf)) (.node 90 ty90 (.node 89 ty89 (.node 88 ty88 .leaf .leaf) .leaf) (.node 92 ty92 (.node 91 ty91 .leaf .leaf) .leaf))) (.node 99 ty99 (.node 96 ty96 (.node 95 ty95 (.node 94 ty94 .leaf .leaf) .leaf) (.node 98 ty98 (.node 97 ty97 .leaf .leaf) .leaf)) (.node 102 ty102 (.node 101 ty101 (.node 100 ty100 .leaf .leaf) .leaf) (.node 104 ty104 (.node 103 ty103 .leaf .leaf) .leaf)))))) (.node 161 ty161 (.node 134 ty134 (.node 120 ty120 (.node 114 ty114 (.node 109 ty109 (.node 107 ty107 (.node 106 ty106 .leaf .leaf) (.node 108 ty108 .leaf .leaf)) (.node 112 ty112 (.node 111 ty111 .leaf .leaf) .leaf)) (.node 117 ty117 (.node 116 ty116 (.node 115 ty115 .leaf .leaf) .leaf) (.node 119 ty119 (.node 118 ty118 .leaf .leaf) .leaf))) (.node 128 ty128 (.node 124 ty124 (.node 122 ty122 (.node 121 ty121 .leaf .leaf) (.node 123 ty123 .leaf .leaf)) (.node 127 ty127 (.node 125 ty125 .leaf .leaf) .leaf)) (.node 131 ty131 (.node 130 ty130 (.node 129 ty129 .leaf .leaf) .leaf) (.node 133 ty133 (.node 132 ty132 .leaf .leaf) .leaf)))) (.node 148 ty148 (.node 141 ty141 (.node 138 ty138 (.node 136 ty136 (.node 135 ty135 .leaf .leaf) (.node 137 ty137 .leaf .leaf)) (.node 140 ty140 (.node 139 ty139 .leaf .leaf) .leaf)) (.node 145 ty145 (.node 144 ty144 (.node 143 ty143 .leaf .leaf) .leaf) (.node 147 ty147 (.node 146 ty146 .leaf .leaf) .leaf))) (.node 154 ty154 (.node 151 ty151 (.node 150 ty150 (.node 149 ty149 .leaf .leaf) .leaf) (.node 153 ty153 (.node 152 ty152 .leaf .leaf) .leaf)) (.node 157 ty157 (.node 156 ty156 (.node 155 ty155 .leaf .leaf) .leaf) (.node 159 ty159 (.node 158 ty158 .leaf .leaf) .leaf))))) (.node 189 ty189 (.node 175 ty175 (.node 168 ty168 (.node 165 ty165 (.node 163 ty163 (.node 162 ty162 .leaf .leaf) (.node 164 ty164 .leaf .leaf)) (.node 167 ty167 (.node 166 ty166 .leaf .leaf) .leaf)) (.node 171 ty171 (.node 170 ty170 (.node 169 ty169 .leaf .leaf) .leaf) (.node 174 ty174 (.node 173 ty173 .leaf .leaf) .leaf))) (.node 183 ty183 (.node 180 ty180 (.node 178 ty178 (.node 176 ty176 .leaf .leaf) (.node 179 ty179 .leaf .leaf)) (.node 182 ty182 (.node 181 ty181 .leaf .leaf) .leaf)) (.node 186 ty186 (.node 185 ty185 (.node 184 ty184 .leaf .leaf) .leaf) (.node 188 ty188 (.node 187 ty187 .leaf .leaf) .leaf)))) (.node 204 ty204 (.node 197 ty197 (.node 193 ty193 (.node 191 ty191 (.node 190 ty190 .leaf .leaf) (.node 192 ty192 .leaf .leaf)) (.node 196 ty196 (.node 194 ty194 .leaf .leaf) .leaf)) (.node 201 ty201 (.node 200 ty200 (.node 198 ty198 .leaf .leaf) .leaf) (.node 203 ty203 (.node 202 ty202 .leaf .leaf) .leaf))) (.node 210 ty210 (.node 207 ty207 (.node 206 ty206 (.node 205 ty205 .leaf .leaf) .leaf) (.node 209 ty209 (.node 208 ty208 .leaf .leaf) .leaf)) (.node 213 ty213 (.node 212 ty212 (.node 211 ty211 .leaf .leaf) .leaf) (.node 215 ty215 (.node 214 ty214 .leaf .leaf) .leaf)))))))
theorem tree_ok : chkTree Try.prog tree = true := by kernel_rfl
end Go.Fw
