/- Part 6 of the proof: FwTy Fw29 Base Num BaseLaw Fw30 Chip Fw33 Fw35 Core EncLaw. No statement is handed in here; conditions: none. -/
import Derived.Test.YtanaaecfghmmaaaG5
import Derived.Test.YtanaaecfghmmaaaProg
import Derived.Laws.Bits64
/- The table of types of this seat. -/
namespace Go.Fw
open Go.Proofs
@[reducible] def ty1 : TI := { desc := .other, size := 1, bytes := 8, zero := [.imm .nilFunc], ety := none }
@[reducible] def ty2 : TI := { desc := (.int .i64), size := 1, bytes := 8, zero := [.imm (.int .i64 0)], ety := (some (.int .i64)) }
@[reducible] def ty3 : TI := { desc := (.int .i64), size := 1, bytes := 8, zero := [.imm (.int .i64 0)], ety := (some (.int .i64)) }
@[reducible] def ty4 : TI := { desc := .bool, size := 1, bytes := 1, zero := [.imm (.bool false)], ety := (some .bool) }
@[reducible] def ty5 : TI := { desc := (.int .u8), size := 1, bytes := 1, zero := [.imm (.int .u8 0)], ety := (some (.int .u8)) }
@[reducible] def ty6 : TI := { desc := (.int .u8), size := 1, bytes := 1, zero := [.imm (.int .u8 0)], ety := (some (.int .u8)) }
@[reducible] def ty7 : TI := { desc := (.struct [(2, 0), (3, 1), (4, 2), (6, 3)]), size := 4, bytes := 24, zero := [.imm (.int .i64 0), .imm (.int .i64 0), .imm (.bool false), .imm (.int .u8 0)], ety := (some (.pair (.int .i64) (.pair (.int .i64) (.pair .bool (.int .u8))))) }
@[reducible] def ty8 : TI := { desc := (.struct [(2, 0), (3, 1), (4, 2), (6, 3)]), size := 4, bytes := 24, zero := [.imm (.int .i64 0), .imm (.int .i64 0), .imm (.bool false), .imm (.int .u8 0)], ety := (some (.pair (.int .i64) (.pair (.int .i64) (.pair .bool (.int .u8))))) }
@[reducible] def ty9 : TI := { desc := .str, size := 1, bytes := 16, zero := [.imm (.string ByteArray.empty)], ety := (some .str) }
@[reducible] def ty10 : TI := { desc := .str, size := 1, bytes := 16, zero := [.imm (.string ByteArray.empty)], ety := (some .str) }
@[reducible] def ty11 : TI := { desc := .str, size := 1, bytes := 16, zero := [.imm (.string ByteArray.empty)], ety := (some .str) }
@[reducible] def ty12 : TI := { desc := (.int .u64), size := 1, bytes := 8, zero := [.imm (.int .u64 0)], ety := (some (.int .u64)) }
@[reducible] def ty13 : TI := { desc := (.struct [(9, 0), (12, 1)]), size := 2, bytes := 24, zero := [.imm (.string ByteArray.empty), .imm (.int .u64 0)], ety := (some (.pair .str (.int .u64))) }
@[reducible] def ty14 : TI := { desc := (.struct [(9, 0), (12, 1)]), size := 2, bytes := 24, zero := [.imm (.string ByteArray.empty), .imm (.int .u64 0)], ety := (some (.pair .str (.int .u64))) }
@[reducible] def ty15 : TI := { desc := (.ptr 185), size := 1, bytes := 8, zero := [.imm (.pointer none)], ety := none }
@[reducible] def ty16 : TI := { desc := (.ptr 188), size := 1, bytes := 8, zero := [.imm (.pointer none)], ety := none }
@[reducible] def ty17 : TI := { desc := (.ptr 196), size := 1, bytes := 8, zero := [.imm (.pointer none)], ety := none }
@[reducible] def ty18 : TI := { desc := (.struct [(17, 0)]), size := 1, bytes := 8, zero := [.imm (.pointer none)], ety := none }
@[reducible] def ty19 : TI := { desc := (.struct [(17, 0)]), size := 1, bytes := 8, zero := [.imm (.pointer none)], ety := none }
@[reducible] def ty20 : TI := { desc := .iface, size := 1, bytes := 16, zero := [.imm .nilIface], ety := none }
@[reducible] def ty21 : TI := { desc := (.int .i32), size := 1, bytes := 4, zero := [.imm (.int .i32 0)], ety := (some (.int .i32)) }
@[reducible] def ty22 : TI := { desc := (.slice 31), size := 1, bytes := 24, zero := [.imm (.slice none 0 0)], ety := (some (.sl (.pair (.int .i64) (.pair (.int .i64) (.pair (.int .i64) (.sl (.pair (.int .i64) (.pair (.int .i64) (.pair (.int .i64) (.int .i64)))))))))) }
@[reducible] def ty23 : TI := { desc := (.struct [(3, 0), (9, 1), (3, 2), (22, 3)]), size := 4, bytes := 56, zero := [.imm (.int .i64 0), .imm (.string ByteArray.empty), .imm (.int .i64 0), .imm (.slice none 0 0)], ety := (some (.pair (.int .i64) (.pair .str (.pair (.int .i64) (.sl (.pair (.int .i64) (.pair (.int .i64) (.pair (.int .i64) (.sl (.pair (.int .i64) (.pair (.int .i64) (.pair (.int .i64) (.int .i64))))))))))))) }
@[reducible] def ty24 : TI := { desc := (.struct [(3, 0), (9, 1), (3, 2), (22, 3)]), size := 4, bytes := 56, zero := [.imm (.int .i64 0), .imm (.string ByteArray.empty), .imm (.int .i64 0), .imm (.slice none 0 0)], ety := (some (.pair (.int .i64) (.pair .str (.pair (.int .i64) (.sl (.pair (.int .i64) (.pair (.int .i64) (.pair (.int .i64) (.sl (.pair (.int .i64) (.pair (.int .i64) (.pair (.int .i64) (.int .i64))))))))))))) }
@[reducible] def ty25 : TI := { desc := .other, size := 1, bytes := 8, zero := [.imm .nilFunc], ety := none }
@[reducible] def ty26 : TI := { desc := .other, size := 1, bytes := 8, zero := [.imm .nilFunc], ety := none }
@[reducible] def ty27 : TI := { desc := .other, size := 1, bytes := 8, zero := [.imm .nilFunc], ety := none }
@[reducible] def ty28 : TI := { desc := .other, size := 1, bytes := 8, zero := [.imm .nilFunc], ety := none }
@[reducible] def ty29 : TI := { desc := (.slice 33), size := 1, bytes := 24, zero := [.imm (.slice none 0 0)], ety := (some (.sl (.pair (.int .i64) (.pair (.int .i64) (.pair (.int .i64) (.int .i64)))))) }
@[reducible] def ty30 : TI := { desc := (.struct [(3, 0), (3, 1), (3, 2), (29, 3)]), size := 4, bytes := 48, zero := [.imm (.int .i64 0), .imm (.int .i64 0), .imm (.int .i64 0), .imm (.slice none 0 0)], ety := (some (.pair (.int .i64) (.pair (.int .i64) (.pair (.int .i64) (.sl (.pair (.int .i64) (.pair (.int .i64) (.pair (.int .i64) (.int .i64))))))))) }
@[reducible] def ty31 : TI := { desc := (.struct [(3, 0), (3, 1), (3, 2), (29, 3)]), size := 4, bytes := 48, zero := [.imm (.int .i64 0), .imm (.int .i64 0), .imm (.int .i64 0), .imm (.slice none 0 0)], ety := (some (.pair (.int .i64) (.pair (.int .i64) (.pair (.int .i64) (.sl (.pair (.int .i64) (.pair (.int .i64) (.pair (.int .i64) (.int .i64))))))))) }
@[reducible] def ty32 : TI := { desc := (.struct [(3, 0), (3, 1), (3, 2), (3, 3)]), size := 4, bytes := 32, zero := [.imm (.int .i64 0), .imm (.int .i64 0), .imm (.int .i64 0), .imm (.int .i64 0)], ety := (some (.pair (.int .i64) (.pair (.int .i64) (.pair (.int .i64) (.int .i64))))) }
@[reducible] def ty33 : TI := { desc := (.struct [(3, 0), (3, 1), (3, 2), (3, 3)]), size := 4, bytes := 32, zero := [.imm (.int .i64 0), .imm (.int .i64 0), .imm (.int .i64 0), .imm (.int .i64 0)], ety := (some (.pair (.int .i64) (.pair (.int .i64) (.pair (.int .i64) (.int .i64))))), cmp := true }
@[reducible] def ty34 : TI := { desc := .other, size := 1, bytes := 8, zero := [.imm .nilFunc], ety := none }
@[reducible] def ty35 : TI := { desc := (.slice 3), size := 1, bytes := 24, zero := [.imm (.slice none 0 0)], ety := (some (.sl (.int .i64))) }
@[reducible] def ty37 : TI := { desc := .other, size := 1, bytes := 8, zero := [.imm .nilFunc], ety := none }
@[reducible] def ty38 : TI := { desc := .other, size := 1, bytes := 8, zero := [.imm .nilFunc], ety := none }
@[reducible] def ty39 : TI := { desc := (.slice 5), size := 1, bytes := 24, zero := [.imm (.slice none 0 0)], ety := (some (.sl (.int .u8))) }
@[reducible] def ty40 : TI := { desc := (.array 9 3), size := 9, bytes := 72, zero := [.run .i64 9 (List.replicate 9 0)], ety := (some (.ints .i64 9)), cmp := true }
@[reducible] def ty41 : TI := { desc := (.array 9 3), size := 9, bytes := 72, zero := [.run .i64 9 (List.replicate 9 0)], ety := (some (.ints .i64 9)), cmp := true }
@[reducible] def ty42 : TI := { desc := (.struct [(41, 0), (3, 9), (3, 10), (4, 11)]), size := 12, bytes := 96, zero := [.run .i64 9 (List.replicate 9 0), .imm (.int .i64 0), .imm (.int .i64 0), .imm (.bool false)], ety := (some (.pair (.ints .i64 9) (.pair (.int .i64) (.pair (.int .i64) .bool)))) }
@[reducible] def ty43 : TI := { desc := (.struct [(41, 0), (3, 9), (3, 10), (4, 11)]), size := 12, bytes := 96, zero := [.run .i64 9 (List.replicate 9 0), .imm (.int .i64 0), .imm (.int .i64 0), .imm (.bool false)], ety := (some (.pair (.ints .i64 9) (.pair (.int .i64) (.pair (.int .i64) .bool)))), cmp := true }
@[reducible] def ty44 : TI := { desc := (.slice 102), size := 1, bytes := 24, zero := [.imm (.slice none 0 0)], ety := (some (.sl (.pair (.sl (.int .i64)) (.sl (.int .u8))))) }
@[reducible] def ty45 : TI := { desc := (.struct [(3, 0), (3, 1), (3, 2)]), size := 3, bytes := 24, zero := [.imm (.int .i64 0), .imm (.int .i64 0), .imm (.int .i64 0)], ety := (some (.pair (.int .i64) (.pair (.int .i64) (.int .i64)))) }
@[reducible] def ty46 : TI := { desc := (.struct [(3, 0), (3, 1), (3, 2)]), size := 3, bytes := 24, zero := [.imm (.int .i64 0), .imm (.int .i64 0), .imm (.int .i64 0)], ety := (some (.pair (.int .i64) (.pair (.int .i64) (.int .i64)))), cmp := true }
@[reducible] def ty47 : TI := { desc := (.struct [(3, 0), (43, 1), (44, 13), (46, 14)]), size := 17, bytes := 152, zero := [.imm (.int .i64 0), .run .i64 9 (List.replicate 9 0), .imm (.int .i64 0), .imm (.int .i64 0), .imm (.bool false), .imm (.slice none 0 0), .imm (.int .i64 0), .imm (.int .i64 0), .imm (.int .i64 0)], ety := (some (.pair (.int .i64) (.pair (.pair (.ints .i64 9) (.pair (.int .i64) (.pair (.int .i64) .bool))) (.pair (.sl (.pair (.sl (.int .i64)) (.sl (.int .u8)))) (.pair (.int .i64) (.pair (.int .i64) (.int .i64))))))) }
@[reducible] def ty48 : TI := { desc := (.struct [(3, 0), (43, 1), (44, 13), (46, 14)]), size := 17, bytes := 152, zero := [.imm (.int .i64 0), .run .i64 9 (List.replicate 9 0), .imm (.int .i64 0), .imm (.int .i64 0), .imm (.bool false), .imm (.slice none 0 0), .imm (.int .i64 0), .imm (.int .i64 0), .imm (.int .i64 0)], ety := (some (.pair (.int .i64) (.pair (.pair (.ints .i64 9) (.pair (.int .i64) (.pair (.int .i64) .bool))) (.pair (.sl (.pair (.sl (.int .i64)) (.sl (.int .u8)))) (.pair (.int .i64) (.pair (.int .i64) (.int .i64))))))) }
@[reducible] def ty49 : TI := { desc := (.int .i64), size := 1, bytes := 8, zero := [.imm (.int .i64 0)], ety := (some (.int .i64)) }
@[reducible] def ty51 : TI := { desc := .other, size := 1, bytes := 8, zero := [.imm .nilFunc], ety := none }
@[reducible] def ty52 : TI := { desc := .other, size := 1, bytes := 8, zero := [.imm .nilFunc], ety := none }
@[reducible] def ty54 : TI := { desc := .other, size := 1, bytes := 8, zero := [.imm .nilFunc], ety := none }
@[reducible] def ty55 : TI := { desc := .other, size := 1, bytes := 8, zero := [.imm .nilFunc], ety := none }
@[reducible] def ty56 : TI := { desc := (.slice 24), size := 1, bytes := 24, zero := [.imm (.slice none 0 0)], ety := (some (.sl (.pair (.int .i64) (.pair .str (.pair (.int .i64) (.sl (.pair (.int .i64) (.pair (.int .i64) (.pair (.int .i64) (.sl (.pair (.int .i64) (.pair (.int .i64) (.pair (.int .i64) (.int .i64)))))))))))))) }
@[reducible] def ty57 : TI := { desc := (.struct [(9, 0), (56, 1), (22, 2), (22, 3), (22, 4)]), size := 5, bytes := 112, zero := [.imm (.string ByteArray.empty), .imm (.slice none 0 0), .imm (.slice none 0 0), .imm (.slice none 0 0), .imm (.slice none 0 0)], ety := (some (.pair .str (.pair (.sl (.pair (.int .i64) (.pair .str (.pair (.int .i64) (.sl (.pair (.int .i64) (.pair (.int .i64) (.pair (.int .i64) (.sl (.pair (.int .i64) (.pair (.int .i64) (.pair (.int .i64) (.int .i64))))))))))))) (.pair (.sl (.pair (.int .i64) (.pair (.int .i64) (.pair (.int .i64) (.sl (.pair (.int .i64) (.pair (.int .i64) (.pair (.int .i64) (.int .i64))))))))) (.pair (.sl (.pair (.int .i64) (.pair (.int .i64) (.pair (.int .i64) (.sl (.pair (.int .i64) (.pair (.int .i64) (.pair (.int .i64) (.int .i64))))))))) (.sl (.pair (.int .i64) (.pair (.int .i64) (.pair (.int .i64) (.sl (.pair (.int .i64) (.pair (.int .i64) (.pair (.int .i64) (.int .i64)))))))))))))) }
@[reducible] def ty58 : TI := { desc := (.struct [(9, 0), (56, 1), (22, 2), (22, 3), (22, 4)]), size := 5, bytes := 112, zero := [.imm (.string ByteArray.empty), .imm (.slice none 0 0), .imm (.slice none 0 0), .imm (.slice none 0 0), .imm (.slice none 0 0)], ety := (some (.pair .str (.pair (.sl (.pair (.int .i64) (.pair .str (.pair (.int .i64) (.sl (.pair (.int .i64) (.pair (.int .i64) (.pair (.int .i64) (.sl (.pair (.int .i64) (.pair (.int .i64) (.pair (.int .i64) (.int .i64))))))))))))) (.pair (.sl (.pair (.int .i64) (.pair (.int .i64) (.pair (.int .i64) (.sl (.pair (.int .i64) (.pair (.int .i64) (.pair (.int .i64) (.int .i64))))))))) (.pair (.sl (.pair (.int .i64) (.pair (.int .i64) (.pair (.int .i64) (.sl (.pair (.int .i64) (.pair (.int .i64) (.pair (.int .i64) (.int .i64))))))))) (.sl (.pair (.int .i64) (.pair (.int .i64) (.pair (.int .i64) (.sl (.pair (.int .i64) (.pair (.int .i64) (.pair (.int .i64) (.int .i64)))))))))))))) }
@[reducible] def ty59 : TI := { desc := .other, size := 1, bytes := 8, zero := [.imm .nilFunc], ety := none }
@[reducible] def ty60 : TI := { desc := .other, size := 1, bytes := 8, zero := [.imm .nilFunc], ety := none }
@[reducible] def ty61 : TI := { desc := .other, size := 1, bytes := 8, zero := [.imm .nilFunc], ety := none }
@[reducible] def ty62 : TI := { desc := .other, size := 1, bytes := 8, zero := [.imm .nilFunc], ety := none }
@[reducible] def ty63 : TI := { desc := .other, size := 1, bytes := 8, zero := [.imm .nilFunc], ety := none }
@[reducible] def ty64 : TI := { desc := .other, size := 1, bytes := 8, zero := [.imm .nilFunc], ety := none }
@[reducible] def ty65 : TI := { desc := .other, size := 1, bytes := 8, zero := [.imm .nilFunc], ety := none }
@[reducible] def ty66 : TI := { desc := .other, size := 1, bytes := 8, zero := [.imm .nilFunc], ety := none }
@[reducible] def ty68 : TI := { desc := .other, size := 1, bytes := 8, zero := [.imm .nilFunc], ety := none }
@[reducible] def ty69 : TI := { desc := .other, size := 1, bytes := 8, zero := [.imm .nilFunc], ety := none }
@[reducible] def ty70 : TI := { desc := .other, size := 1, bytes := 8, zero := [.imm .nilFunc], ety := none }
@[reducible] def ty71 : TI := { desc := .other, size := 1, bytes := 8, zero := [.imm .nilFunc], ety := none }
@[reducible] def ty72 : TI := { desc := .other, size := 1, bytes := 8, zero := [.imm .nilFunc], ety := none }
@[reducible] def ty73 : TI := { desc := (.ptr 123), size := 1, bytes := 8, zero := [.imm (.pointer none)], ety := none }
@[reducible] def ty74 : TI := { desc := .other, size := 1, bytes := 8, zero := [.imm .nilFunc], ety := none }
@[reducible] def ty76 : TI := { desc := .other, size := 1, bytes := 8, zero := [.imm .nilFunc], ety := none }
@[reducible] def ty77 : TI := { desc := .other, size := 1, bytes := 8, zero := [.imm .nilFunc], ety := none }
@[reducible] def ty78 : TI := { desc := .other, size := 1, bytes := 8, zero := [.imm .nilFunc], ety := none }
@[reducible] def ty79 : TI := { desc := .other, size := 1, bytes := 8, zero := [.imm .nilFunc], ety := none }
@[reducible] def ty80 : TI := { desc := .other, size := 1, bytes := 8, zero := [.imm .nilFunc], ety := none }
@[reducible] def ty81 : TI := { desc := .other, size := 1, bytes := 8, zero := [.imm .nilFunc], ety := none }
@[reducible] def ty82 : TI := { desc := (.slice 46), size := 1, bytes := 24, zero := [.imm (.slice none 0 0)], ety := (some (.sl (.pair (.int .i64) (.pair (.int .i64) (.int .i64))))) }
@[reducible] def ty84 : TI := { desc := .other, size := 1, bytes := 8, zero := [.imm .nilFunc], ety := none }
@[reducible] def ty85 : TI := { desc := .other, size := 1, bytes := 8, zero := [.imm .nilFunc], ety := none }
@[reducible] def ty86 : TI := { desc := .other, size := 1, bytes := 8, zero := [.imm .nilFunc], ety := none }
@[reducible] def ty87 : TI := { desc := (.slice 138), size := 1, bytes := 24, zero := [.imm (.slice none 0 0)], ety := (some (.sl (.pair .str (.pair (.int .i64) (.pair (.int .i64) (.pair (.int .i64) (.sl (.int .u8)))))))) }
@[reducible] def ty88 : TI := { desc := (.slice 141), size := 1, bytes := 24, zero := [.imm (.slice none 0 0)], ety := (some (.sl (.pair .str .str))) }
@[reducible] def ty89 : TI := { desc := (.struct [(9, 0), (58, 1), (87, 6), (88, 7)]), size := 8, bytes := 176, zero := [.imm (.string ByteArray.empty), .imm (.string ByteArray.empty), .imm (.slice none 0 0), .imm (.slice none 0 0), .imm (.slice none 0 0), .imm (.slice none 0 0), .imm (.slice none 0 0), .imm (.slice none 0 0)], ety := (some (.pair .str (.pair (.pair .str (.pair (.sl (.pair (.int .i64) (.pair .str (.pair (.int .i64) (.sl (.pair (.int .i64) (.pair (.int .i64) (.pair (.int .i64) (.sl (.pair (.int .i64) (.pair (.int .i64) (.pair (.int .i64) (.int .i64))))))))))))) (.pair (.sl (.pair (.int .i64) (.pair (.int .i64) (.pair (.int .i64) (.sl (.pair (.int .i64) (.pair (.int .i64) (.pair (.int .i64) (.int .i64))))))))) (.pair (.sl (.pair (.int .i64) (.pair (.int .i64) (.pair (.int .i64) (.sl (.pair (.int .i64) (.pair (.int .i64) (.pair (.int .i64) (.int .i64))))))))) (.sl (.pair (.int .i64) (.pair (.int .i64) (.pair (.int .i64) (.sl (.pair (.int .i64) (.pair (.int .i64) (.pair (.int .i64) (.int .i64))))))))))))) (.pair (.sl (.pair .str (.pair (.int .i64) (.pair (.int .i64) (.pair (.int .i64) (.sl (.int .u8))))))) (.sl (.pair .str .str)))))) }
@[reducible] def ty90 : TI := { desc := (.struct [(9, 0), (58, 1), (87, 6), (88, 7)]), size := 8, bytes := 176, zero := [.imm (.string ByteArray.empty), .imm (.string ByteArray.empty), .imm (.slice none 0 0), .imm (.slice none 0 0), .imm (.slice none 0 0), .imm (.slice none 0 0), .imm (.slice none 0 0), .imm (.slice none 0 0)], ety := (some (.pair .str (.pair (.pair .str (.pair (.sl (.pair (.int .i64) (.pair .str (.pair (.int .i64) (.sl (.pair (.int .i64) (.pair (.int .i64) (.pair (.int .i64) (.sl (.pair (.int .i64) (.pair (.int .i64) (.pair (.int .i64) (.int .i64))))))))))))) (.pair (.sl (.pair (.int .i64) (.pair (.int .i64) (.pair (.int .i64) (.sl (.pair (.int .i64) (.pair (.int .i64) (.pair (.int .i64) (.int .i64))))))))) (.pair (.sl (.pair (.int .i64) (.pair (.int .i64) (.pair (.int .i64) (.sl (.pair (.int .i64) (.pair (.int .i64) (.pair (.int .i64) (.int .i64))))))))) (.sl (.pair (.int .i64) (.pair (.int .i64) (.pair (.int .i64) (.sl (.pair (.int .i64) (.pair (.int .i64) (.pair (.int .i64) (.int .i64))))))))))))) (.pair (.sl (.pair .str (.pair (.int .i64) (.pair (.int .i64) (.pair (.int .i64) (.sl (.int .u8))))))) (.sl (.pair .str .str)))))) }
@[reducible] def ty91 : TI := { desc := .other, size := 1, bytes := 8, zero := [.imm .nilFunc], ety := none }
@[reducible] def ty92 : TI := { desc := .other, size := 1, bytes := 8, zero := [.imm .nilFunc], ety := none }
@[reducible] def ty93 : TI := { desc := .other, size := 1, bytes := 8, zero := [.imm .nilFunc], ety := none }
@[reducible] def ty94 : TI := { desc := .other, size := 1, bytes := 8, zero := [.imm .nilFunc], ety := none }
@[reducible] def ty95 : TI := { desc := .other, size := 1, bytes := 8, zero := [.imm .nilFunc], ety := none }
@[reducible] def ty96 : TI := { desc := .other, size := 1, bytes := 8, zero := [.imm .nilFunc], ety := none }
@[reducible] def ty97 : TI := { desc := (.ptr 99), size := 1, bytes := 8, zero := [.imm (.pointer none)], ety := none }
@[reducible] def ty98 : TI := { desc := (.struct [(39, 0), (4, 1)]), size := 2, bytes := 32, zero := [.imm (.slice none 0 0), .imm (.bool false)], ety := (some (.pair (.sl (.int .u8)) .bool)) }
@[reducible] def ty99 : TI := { desc := (.struct [(39, 0), (4, 1)]), size := 2, bytes := 32, zero := [.imm (.slice none 0 0), .imm (.bool false)], ety := (some (.pair (.sl (.int .u8)) .bool)) }
@[reducible] def ty100 : TI := { desc := .other, size := 1, bytes := 8, zero := [.imm .nilFunc], ety := none }
@[reducible] def ty101 : TI := { desc := (.struct [(35, 0), (39, 1)]), size := 2, bytes := 48, zero := [.imm (.slice none 0 0), .imm (.slice none 0 0)], ety := (some (.pair (.sl (.int .i64)) (.sl (.int .u8)))) }
@[reducible] def ty102 : TI := { desc := (.struct [(35, 0), (39, 1)]), size := 2, bytes := 48, zero := [.imm (.slice none 0 0), .imm (.slice none 0 0)], ety := (some (.pair (.sl (.int .i64)) (.sl (.int .u8)))) }
@[reducible] def ty103 : TI := { desc := .other, size := 1, bytes := 8, zero := [.imm .nilFunc], ety := none }
@[reducible] def ty105 : TI := { desc := .other, size := 1, bytes := 8, zero := [.imm .nilFunc], ety := none }
@[reducible] def ty106 : TI := { desc := .other, size := 1, bytes := 8, zero := [.imm .nilFunc], ety := none }
@[reducible] def ty107 : TI := { desc := .other, size := 1, bytes := 8, zero := [.imm .nilFunc], ety := none }
@[reducible] def ty108 : TI := { desc := .other, size := 1, bytes := 8, zero := [.imm .nilFunc], ety := none }
@[reducible] def ty109 : TI := { desc := .other, size := 1, bytes := 8, zero := [.imm .nilFunc], ety := none }
@[reducible] def ty110 : TI := { desc := .other, size := 1, bytes := 8, zero := [.imm .nilFunc], ety := none }
@[reducible] def ty111 : TI := { desc := (.slice 22), size := 1, bytes := 24, zero := [.imm (.slice none 0 0)], ety := (some (.sl (.sl (.pair (.int .i64) (.pair (.int .i64) (.pair (.int .i64) (.sl (.pair (.int .i64) (.pair (.int .i64) (.pair (.int .i64) (.int .i64))))))))))) }
@[reducible] def ty112 : TI := { desc := (.map 114 4), size := 1, bytes := 8, zero := [.imm (.map none)], ety := none }
@[reducible] def ty113 : TI := { desc := (.struct [(9, 0), (3, 1)]), size := 2, bytes := 24, zero := [.imm (.string ByteArray.empty), .imm (.int .i64 0)], ety := (some (.pair .str (.int .i64))) }
@[reducible] def ty114 : TI := { desc := (.struct [(9, 0), (3, 1)]), size := 2, bytes := 24, zero := [.imm (.string ByteArray.empty), .imm (.int .i64 0)], ety := (some (.pair .str (.int .i64))), cmp := true }
@[reducible] def ty115 : TI := { desc := .other, size := 1, bytes := 8, zero := [.imm .nilFunc], ety := none }
@[reducible] def ty116 : TI := { desc := .other, size := 1, bytes := 8, zero := [.imm .nilFunc], ety := none }
@[reducible] def ty117 : TI := { desc := .other, size := 1, bytes := 8, zero := [.imm .nilFunc], ety := none }
@[reducible] def ty118 : TI := { desc := .other, size := 1, bytes := 8, zero := [.imm .nilFunc], ety := none }
@[reducible] def ty119 : TI := { desc := .other, size := 1, bytes := 8, zero := [.imm .nilFunc], ety := none }
@[reducible] def ty120 : TI := { desc := .other, size := 1, bytes := 8, zero := [.imm .nilFunc], ety := none }
@[reducible] def ty121 : TI := { desc := (.map 3 3), size := 1, bytes := 8, zero := [.imm (.map none)], ety := none }
@[reducible] def ty122 : TI := { desc := (.struct [(3, 0), (121, 1)]), size := 2, bytes := 16, zero := [.imm (.int .i64 0), .imm (.map none)], ety := none }
@[reducible] def ty123 : TI := { desc := (.struct [(3, 0), (121, 1)]), size := 2, bytes := 16, zero := [.imm (.int .i64 0), .imm (.map none)], ety := none }
@[reducible] def ty124 : TI := { desc := .other, size := 1, bytes := 8, zero := [.imm .nilFunc], ety := none }
@[reducible] def ty125 : TI := { desc := .other, size := 1, bytes := 8, zero := [.imm .nilFunc], ety := none }
@[reducible] def ty127 : TI := { desc := .other, size := 1, bytes := 8, zero := [.imm .nilFunc], ety := none }
@[reducible] def ty129 : TI := { desc := .other, size := 1, bytes := 8, zero := [.imm .nilFunc], ety := none }
@[reducible] def ty131 : TI := { desc := .other, size := 1, bytes := 8, zero := [.imm .nilFunc], ety := none }
@[reducible] def ty132 : TI := { desc := .iface, size := 1, bytes := 16, zero := [.imm .nilIface], ety := none }
@[reducible] def ty133 : TI := { desc := .iface, size := 1, bytes := 16, zero := [.imm .nilIface], ety := none }
@[reducible] def ty135 : TI := { desc := .other, size := 1, bytes := 8, zero := [.imm .nilFunc], ety := none }
@[reducible] def ty136 : TI := { desc := .other, size := 1, bytes := 8, zero := [.imm .nilFunc], ety := none }
@[reducible] def ty137 : TI := { desc := (.struct [(9, 0), (3, 1), (3, 2), (3, 3), (39, 4)]), size := 5, bytes := 64, zero := [.imm (.string ByteArray.empty), .imm (.int .i64 0), .imm (.int .i64 0), .imm (.int .i64 0), .imm (.slice none 0 0)], ety := (some (.pair .str (.pair (.int .i64) (.pair (.int .i64) (.pair (.int .i64) (.sl (.int .u8))))))) }
@[reducible] def ty138 : TI := { desc := (.struct [(9, 0), (3, 1), (3, 2), (3, 3), (39, 4)]), size := 5, bytes := 64, zero := [.imm (.string ByteArray.empty), .imm (.int .i64 0), .imm (.int .i64 0), .imm (.int .i64 0), .imm (.slice none 0 0)], ety := (some (.pair .str (.pair (.int .i64) (.pair (.int .i64) (.pair (.int .i64) (.sl (.int .u8))))))) }
@[reducible] def ty139 : TI := { desc := .other, size := 1, bytes := 8, zero := [.imm .nilFunc], ety := none }
@[reducible] def ty140 : TI := { desc := (.struct [(9, 0), (9, 1)]), size := 2, bytes := 32, zero := [.imm (.string ByteArray.empty), .imm (.string ByteArray.empty)], ety := (some (.pair .str .str)) }
@[reducible] def ty141 : TI := { desc := (.struct [(9, 0), (9, 1)]), size := 2, bytes := 32, zero := [.imm (.string ByteArray.empty), .imm (.string ByteArray.empty)], ety := (some (.pair .str .str)), cmp := true }
@[reducible] def ty142 : TI := { desc := .other, size := 1, bytes := 8, zero := [.imm .nilFunc], ety := none }
@[reducible] def ty143 : TI := { desc := .other, size := 1, bytes := 8, zero := [.imm .nilFunc], ety := none }
@[reducible] def ty144 : TI := { desc := (.map 141 4), size := 1, bytes := 8, zero := [.imm (.map none)], ety := none }
@[reducible] def ty145 : TI := { desc := .other, size := 1, bytes := 8, zero := [.imm .nilFunc], ety := none }
@[reducible] def ty146 : TI := { desc := (.int .u64), size := 1, bytes := 8, zero := [.imm (.int .u64 0)], ety := (some (.int .u64)) }
@[reducible] def ty147 : TI := { desc := (.int .u64), size := 1, bytes := 8, zero := [.imm (.int .u64 0)], ety := (some (.int .u64)) }
@[reducible] def ty148 : TI := { desc := .other, size := 1, bytes := 8, zero := [.imm .nilFunc], ety := none }
@[reducible] def ty149 : TI := { desc := .other, size := 1, bytes := 8, zero := [.imm .nilFunc], ety := none }
@[reducible] def ty150 : TI := { desc := .other, size := 1, bytes := 8, zero := [.imm .nilFunc], ety := none }
@[reducible] def ty151 : TI := { desc := .other, size := 1, bytes := 8, zero := [.imm .nilFunc], ety := none }
@[reducible] def ty152 : TI := { desc := .other, size := 1, bytes := 8, zero := [.imm .nilFunc], ety := none }
@[reducible] def ty153 : TI := { desc := .other, size := 1, bytes := 8, zero := [.imm .nilFunc], ety := none }
@[reducible] def ty154 : TI := { desc := .other, size := 1, bytes := 8, zero := [.imm .nilFunc], ety := none }
@[reducible] def ty155 : TI := { desc := .other, size := 1, bytes := 8, zero := [.imm .nilFunc], ety := none }
@[reducible] def ty156 : TI := { desc := .other, size := 1, bytes := 8, zero := [.imm .nilFunc], ety := none }
@[reducible] def ty157 : TI := { desc := .other, size := 1, bytes := 8, zero := [.imm .nilFunc], ety := none }
@[reducible] def ty159 : TI := { desc := .other, size := 1, bytes := 8, zero := [.imm .nilFunc], ety := none }
@[reducible] def ty160 : TI := { desc := .other, size := 1, bytes := 8, zero := [.imm .nilFunc], ety := none }
@[reducible] def ty162 : TI := { desc := .other, size := 1, bytes := 8, zero := [.imm .nilFunc], ety := none }
@[reducible] def ty163 : TI := { desc := .other, size := 1, bytes := 8, zero := [.imm .nilFunc], ety := none }
@[reducible] def ty164 : TI := { desc := .other, size := 1, bytes := 8, zero := [.imm .nilFunc], ety := none }
@[reducible] def ty165 : TI := { desc := (.map 4 3), size := 1, bytes := 8, zero := [.imm (.map none)], ety := none }
@[reducible] def ty166 : TI := { desc := .other, size := 1, bytes := 8, zero := [.imm .nilFunc], ety := none }
@[reducible] def ty167 : TI := { desc := .other, size := 1, bytes := 8, zero := [.imm .nilFunc], ety := none }
@[reducible] def ty168 : TI := { desc := .other, size := 1, bytes := 8, zero := [.imm .nilFunc], ety := none }
@[reducible] def ty169 : TI := { desc := .other, size := 1, bytes := 8, zero := [.imm .nilFunc], ety := none }
@[reducible] def ty170 : TI := { desc := .other, size := 1, bytes := 8, zero := [.imm .nilFunc], ety := none }
@[reducible] def ty171 : TI := { desc := .other, size := 1, bytes := 8, zero := [.imm .nilFunc], ety := none }
@[reducible] def ty172 : TI := { desc := .other, size := 1, bytes := 8, zero := [.imm .nilFunc], ety := none }
@[reducible] def ty174 : TI := { desc := .other, size := 1, bytes := 8, zero := [.imm .nilFunc], ety := none }
@[reducible] def ty175 : TI := { desc := .other, size := 1, bytes := 8, zero := [.imm .nilFunc], ety := none }
@[reducible] def ty176 : TI := { desc := .other, size := 1, bytes := 8, zero := [.imm .nilFunc], ety := none }
@[reducible] def ty177 : TI := { desc := .other, size := 1, bytes := 8, zero := [.imm .nilFunc], ety := none }
@[reducible] def ty178 : TI := { desc := .other, size := 1, bytes := 8, zero := [.imm .nilFunc], ety := none }
@[reducible] def ty179 : TI := { desc := .other, size := 1, bytes := 8, zero := [.imm .nilFunc], ety := none }
@[reducible] def ty180 : TI := { desc := (.int .u32), size := 1, bytes := 4, zero := [.imm (.int .u32 0)], ety := (some (.int .u32)) }
@[reducible] def ty182 : TI := { desc := .other, size := 1, bytes := 8, zero := [.imm .nilFunc], ety := none }
@[reducible] def ty183 : TI := { desc := .other, size := 1, bytes := 8, zero := [.imm .nilFunc], ety := none }
@[reducible] def ty184 : TI := { desc := (.struct [(17, 0), (17, 1), (17, 2), (9, 3)]), size := 4, bytes := 40, zero := [.imm (.pointer none), .imm (.pointer none), .imm (.pointer none), .imm (.string ByteArray.empty)], ety := none }
@[reducible] def ty185 : TI := { desc := (.struct [(17, 0), (17, 1), (17, 2), (9, 3)]), size := 4, bytes := 40, zero := [.imm (.pointer none), .imm (.pointer none), .imm (.pointer none), .imm (.string ByteArray.empty)], ety := none }
@[reducible] def ty186 : TI := { desc := (.array 0 16), size := 0, bytes := 0, zero := [], ety := none }
@[reducible] def ty187 : TI := { desc := (.struct [(186, 0)]), size := 0, bytes := 0, zero := [], ety := none }
@[reducible] def ty188 : TI := { desc := (.struct [(186, 0)]), size := 0, bytes := 0, zero := [], ety := none }
@[reducible] def ty189 : TI := { desc := (.int .u8), size := 1, bytes := 1, zero := [.imm (.int .u8 0)], ety := (some (.int .u8)) }
@[reducible] def ty190 : TI := { desc := (.int .u8), size := 1, bytes := 1, zero := [.imm (.int .u8 0)], ety := (some (.int .u8)) }
@[reducible] def ty191 : TI := { desc := .other, size := 1, bytes := 8, zero := [.imm .nilFunc], ety := none }
@[reducible] def ty192 : TI := { desc := (.ptr 5), size := 1, bytes := 8, zero := [.imm (.pointer none)], ety := none }
@[reducible] def ty193 : TI := { desc := (.int .i32), size := 1, bytes := 4, zero := [.imm (.int .i32 0)], ety := (some (.int .i32)) }
@[reducible] def ty194 : TI := { desc := (.int .i32), size := 1, bytes := 4, zero := [.imm (.int .i32 0)], ety := (some (.int .i32)) }
@[reducible] def ty195 : TI := { desc := (.struct [(12, 0), (12, 1), (180, 2), (189, 3), (5, 4), (5, 5), (190, 6), (191, 7), (192, 8), (193, 9), (194, 10)]), size := 11, bytes := 48, zero := [.imm (.int .u64 0), .imm (.int .u64 0), .imm (.int .u32 0), .imm (.int .u8 0), .imm (.int .u8 0), .imm (.int .u8 0), .imm (.int .u8 0), .imm .nilFunc, .imm (.pointer none), .imm (.int .i32 0), .imm (.int .i32 0)], ety := none }
@[reducible] def ty196 : TI := { desc := (.struct [(12, 0), (12, 1), (180, 2), (189, 3), (5, 4), (5, 5), (190, 6), (191, 7), (192, 8), (193, 9), (194, 10)]), size := 11, bytes := 48, zero := [.imm (.int .u64 0), .imm (.int .u64 0), .imm (.int .u32 0), .imm (.int .u8 0), .imm (.int .u8 0), .imm (.int .u8 0), .imm (.int .u8 0), .imm .nilFunc, .imm (.pointer none), .imm (.int .i32 0), .imm (.int .i32 0)], ety := none }
def tree : TTree := (.node 97 ty97 (.node 47 ty47 (.node 23 ty23 (.node 12 ty12 (.node 6 ty6 (.node 3 ty3 (.node 2 ty2 (.node 1 ty1 .leaf .leaf) .leaf) (.node 5 ty5 (.node 4 ty4 .leaf .leaf) .leaf)) (.node 9 ty9 (.node 8 ty8 (.node 7 ty7 .leaf .leaf) .leaf) (.node 11 ty11 (.node 10 ty10 .leaf .leaf) .leaf))) (.node 18 ty18 (.node 15 ty15 (.node 14 ty14 (.node 13 ty13 .leaf .leaf) .leaf) (.node 17 ty17 (.node 16 ty16 .leaf .leaf) .leaf)) (.node 21 ty21 (.node 20 ty20 (.node 19 ty19 .leaf .leaf) .leaf) (.node 22 ty22 .leaf .leaf)))) (.node 35 ty35 (.node 29 ty29 (.node 26 ty26 (.node 25 ty25 (.node 24 ty24 .leaf .leaf) .leaf) (.node 28 ty28 (.node 27 ty27 .leaf .leaf) .leaf)) (.node 32 ty32 (.node 31 ty31 (.node 30 ty30 .leaf .leaf) .leaf) (.node 34 ty34 (.node 33 ty33 .leaf .leaf) .leaf))) (.node 42 ty42 (.node 39 ty39 (.node 38 ty38 (.node 37 ty37 .leaf .leaf) .leaf) (.node 41 ty41 (.node 40 ty40 .leaf .leaf) .leaf)) (.node 45 ty45 (.node 44 ty44 (.node 43 ty43 .leaf .leaf) .leaf) (.node 46 ty46 .leaf .leaf))))) (.node 73 ty73 (.node 61 ty61 (.node 55 ty55 (.node 51 ty51 (.node 49 ty49 (.node 48 ty48 .leaf .leaf) .leaf) (.node 54 ty54 (.node 52 ty52 .leaf .leaf) .leaf)) (.node 58 ty58 (.node 57 ty57 (.node 56 ty56 .leaf .leaf) .leaf) (.node 60 ty60 (.node 59 ty59 .leaf .leaf) .leaf))) (.node 68 ty68 (.node 64 ty64 (.node 63 ty63 (.node 62 ty62 .leaf .leaf) .leaf) (.node 66 ty66 (.node 65 ty65 .leaf .leaf) .leaf)) (.node 71 ty71 (.node 70 ty70 (.node 69 ty69 .leaf .leaf) .leaf) (.node 72 ty72 .leaf .leaf)))) (.node 86 ty86 (.node 80 ty80 (.node 77 ty77 (.node 76 ty76 (.node 74 ty74 .leaf .leaf) .leaf) (.node 79 ty79 (.node 78 ty78 .leaf .leaf) .leaf)) (.node 84 ty84 (.node 82 ty82 (.node 81 ty81 .leaf .leaf) .leaf) (.node 85 ty85 .leaf .leaf))) (.node 92 ty92 (.node 89 ty89 (.node 88 ty88 (.node 87 ty87 .leaf .leaf) .leaf) (.node 91 ty91 (.node 90 ty90 .leaf .leaf) .leaf)) (.node 95 ty95 (.node 94 ty94 (.node 93 ty93 .leaf .leaf) .leaf) (.node 96 ty96 .leaf .leaf)))))) (.node 148 ty148 (.node 121 ty121 (.node 110 ty110 (.node 103 ty103 (.node 100 ty100 (.node 99 ty99 (.node 98 ty98 .leaf .leaf) .leaf) (.node 102 ty102 (.node 101 ty101 .leaf .leaf) .leaf)) (.node 107 ty107 (.node 106 ty106 (.node 105 ty105 .leaf .leaf) .leaf) (.node 109 ty109 (.node 108 ty108 .leaf .leaf) .leaf))) (.node 116 ty116 (.node 113 ty113 (.node 112 ty112 (.node 111 ty111 .leaf .leaf) .leaf) (.node 115 ty115 (.node 114 ty114 .leaf .leaf) .leaf)) (.node 119 ty119 (.node 118 ty118 (.node 117 ty117 .leaf .leaf) .leaf) (.node 120 ty120 .leaf .leaf)))) (.node 137 ty137 (.node 129 ty129 (.node 124 ty124 (.node 123 ty123 (.node 122 ty122 .leaf .leaf) .leaf) (.node 127 ty127 (.node 125 ty125 .leaf .leaf) .leaf)) (.node 133 ty133 (.node 132 ty132 (.node 131 ty131 .leaf .leaf) .leaf) (.node 136 ty136 (.node 135 ty135 .leaf .leaf) .leaf))) (.node 143 ty143 (.node 140 ty140 (.node 139 ty139 (.node 138 ty138 .leaf .leaf) .leaf) (.node 142 ty142 (.node 141 ty141 .leaf .leaf) .leaf)) (.node 146 ty146 (.node 145 ty145 (.node 144 ty144 .leaf .leaf) .leaf) (.node 147 ty147 .leaf .leaf))))) (.node 174 ty174 (.node 162 ty162 (.node 154 ty154 (.node 151 ty151 (.node 150 ty150 (.node 149 ty149 .leaf .leaf) .leaf) (.node 153 ty153 (.node 152 ty152 .leaf .leaf) .leaf)) (.node 157 ty157 (.node 156 ty156 (.node 155 ty155 .leaf .leaf) .leaf) (.node 160 ty160 (.node 159 ty159 .leaf .leaf) .leaf))) (.node 168 ty168 (.node 165 ty165 (.node 164 ty164 (.node 163 ty163 .leaf .leaf) .leaf) (.node 167 ty167 (.node 166 ty166 .leaf .leaf) .leaf)) (.node 171 ty171 (.node 170 ty170 (.node 169 ty169 .leaf .leaf) .leaf) (.node 172 ty172 .leaf .leaf)))) (.node 186 ty186 (.node 180 ty180 (.node 177 ty177 (.node 176 ty176 (.node 175 ty175 .leaf .leaf) .leaf) (.node 179 ty179 (.node 178 ty178 .leaf .leaf) .leaf)) (.node 184 ty184 (.node 183 ty183 (.node 182 ty182 .leaf .leaf) .leaf) (.node 185 ty185 .leaf .leaf))) (.node 192 ty192 (.node 189 ty189 (.node 188 ty188 (.node 187 ty187 .leaf .leaf) .leaf) (.node 191 ty191 (.node 190 ty190 .leaf .leaf) .leaf)) (.node 195 ty195 (.node 194 ty194 (.node 193 ty193 .leaf .leaf) .leaf) (.node 196 ty196 .leaf .leaf)))))))
theorem tree_ok : chkTree Try.prog tree = true := by kernel_rfl
end Go.Fw

/- From a contract to a call in a world of its own. -/
namespace Go.Fw
open Go.RowKit
set_option linter.unusedVariables false
set_option linter.unusedSimpArgs false

def startE (W : World) : Env := { w := W, ρ := fun _ => none, S := fun g => g < W.heap.size, H := fun _ => none, U := fun _ => False }
theorem startE_ok (W : World) : HeapOk (startE W) := ⟨fun b x h => (by cases h), fun b b' x x' g h => (by cases h), fun g h => h⟩

theorem CSound.start {P : Program} {f : FuncId} {s : CSpec} (h : CSound P f s) {vs : Array Value} {args : List V1} {W : World} {p : Option Prop} {r : AV} {fresh : List Blk} (hv : VsR (startE W) args vs.toList)
    (hrun : s.run args [] = some (p, r, [], fresh)) (hp : ∀ q, p = some q → q) : Calls P f vs W fun e w' => (∃ v E', e = .returned v ∧ E'.w = w' ∧ AVR E' r v) ∧ Below W.heap.size W w' := by
  refine (h (startE W) vs args [] p r [] fresh (fun b => by simp [startE]) (fun b => by simp [startE]) (startE_ok W) hv hrun hp).mono ?_
  rintro e w' ⟨v, E', rfl, rfl, hb⟩
  refine ⟨⟨v, E', rfl, rfl, hb.val⟩, hb.fr.os, hb.fr.tape, hb.fr.output, hb.fr.size, fun k hk => hb.fr.old k hk ?_⟩
  rintro ⟨b, x, hx, _⟩
  cases hx

/-- a law that is true -/
theorem PSpec.law {P : Program} {f : FuncId} {s : PSpec} (h : GoodF P f s.spec) {vs : Array Value} {W : World} (xs : Args s.gs) (hv : VsR (startE W) (canonArgs s.gs xs) vs.toList) (hd : decArgs s.gs (canonArgs s.gs xs) = some xs)
    {p : Option Prop} (ht : s.out xs = (p, .cell (bv true), [])) (hp : ∀ q, p = some q → q) : Calls P f vs W fun e w' => e = .returned (.bool true) ∧ Below W.heap.size W w' := by
  have hrun : s.spec.run (canonArgs s.gs xs) [] = some (p, .cell (bv true), [], []) := by
    unfold PSpec.spec
    simp only [hd, ht]
  refine (h.1.start hv hrun hp).mono ?_
  rintro e w' ⟨⟨v, E', rfl, rfl, hr⟩, hb⟩
  refine ⟨?_, hb⟩
  obtain ⟨e, _⟩ := hr
  injection e with e
  rw [e]

theorem VsR.cons {E : Env} {x : V1} {xs : List V1} {v : Value} {vs : List Value} (h : V1R E x v) (hs : VsR E xs vs) : VsR E (x :: xs) (v :: vs) := ⟨v, vs, rfl, h, hs⟩
theorem VsR.nil {E : Env} : VsR E [] [] := rfl
theorem V1R.int {E : Env} (k : IntKind) (n : Int) : V1R E (.c (.imm (.int k n))) (.int k n) := ⟨rfl, rfl⟩
theorem V1R.bool {E : Env} (b : Bool) : V1R E (.c (.imm (.bool b))) (.bool b) := ⟨rfl, rfl⟩

end Go.Fw

/- Numbers of a fixed number of bits: widths, low bits, fields. -/
namespace Go.Proofs.Ytanaaecfghmmaaa
open Go.Fw
set_option linter.unusedVariables false
set_option linter.unusedSimpArgs false
set_option maxRecDepth 100000

abbrev gi : Sig := ⟨false, .int .i64⟩
abbrev I (n : Int) : AV := .cell (iv .i64 n)
abbrev I1 (n : Int) : V1 := .c (iv .i64 n)

def widthF (a : Int) : Int := imax 0 (imin a 62)
def widthS : PSpec := ⟨[gi], fun (a, _) => (none, I (widthF a), [])⟩
theorem width_ok : GoodF Try.prog 104 widthS.spec := by
  refine widthS.good (fn := Try.f104) (tab_ok (fs := []) tree_ok) specs_nil Try.func104 (by kernel_rfl) rfl fun (a : Int) _ => ?_
  repeat' first
    | (refine Go.mk ?_; conv => whnf)
    | refine Need.go ?_ ?_
    | refine Br.dec (fun _ => ?_) (fun _ => ?_)
    | refine Br.go (fun _ => ?_) (fun _ => ?_)
  exact .mk [] [] _ rfl rfl rfl rfl rfl rfl rfl

def lowF (a b : Int) : Int := land .i64 a (IntKind.i64.wrap (shl .i64 1 (widthF b) - 1))
def lowS : PSpec := ⟨[gi, gi], fun (a, b, _) => (none, I (lowF a b), [])⟩
theorem low_ok : GoodF Try.prog 79 lowS.spec := by
  have hT := tab_ok (fs := [(104, widthS.spec)]) tree_ok
  have hP : SpecsOk Try.prog (tab tree [(104, widthS.spec)]) := specs_cons width_ok specs_nil
  refine lowS.good (fn := Try.f79) hT hP Try.func79 (by kernel_rfl) rfl fun (a b : Int) _ => ?_
  repeat' first
    | (refine Go.mk ?_; conv => whnf)
    | refine Need.go ?_ ?_
    | refine Br.dec (fun _ => ?_) (fun _ => ?_)
    | refine Br.go (fun _ => ?_) (fun _ => ?_)
  · show 0 ≤ widthF b
    simp only [widthF, imax_eq]; omega
  · exact .mk [] [] _ rfl rfl rfl rfl rfl rfl rfl

def placeF (a b : Int) : Int × Int := (widthF a, imax 0 (imin b (IntKind.i64.wrap (62 - widthF a))))
def placeS : PSpec := ⟨[gi, gi], fun (a, b, _) => (none, .tup [I1 (placeF a b).1, I1 (placeF a b).2], [])⟩
theorem tup2_int {a b c d : Int} (h1 : a = c) (h2 : b = d) : AV.tup [I1 a, I1 b] = AV.tup [I1 c, I1 d] := by rw [h1, h2]
theorem place_ok : GoodF Try.prog 137 placeS.spec := by
  have hT := tab_ok (fs := [(104, widthS.spec)]) tree_ok
  have hP : SpecsOk Try.prog (tab tree [(104, widthS.spec)]) := specs_cons width_ok specs_nil
  refine placeS.good (fn := Try.f137) hT hP Try.func137 (by kernel_rfl) rfl fun (a b : Int) _ => ?_
  repeat' first
    | (refine Go.mk ?_; conv => whnf)
    | refine Need.go ?_ ?_
    | refine Br.dec (fun _ => ?_) (fun _ => ?_)
    | refine Br.go (fun _ => ?_) (fun _ => ?_)
  exact .mk [] [] _ rfl rfl rfl rfl rfl rfl rfl

def getF (n a s : Int) : Int := lowF (shr .i64 (lowF n 62) (placeF a s).1) (placeF a s).2
def getS : PSpec := ⟨[gi, gi, gi], fun (n, a, s, _) => (none, I (getF n a s), [])⟩
theorem placeF_nn (a s : Int) : 0 ≤ (placeF a s).1 ∧ 0 ≤ (placeF a s).2 := by
  simp only [placeF, widthF, imax_eq]
  constructor <;> omega
theorem get_ok : GoodF Try.prog 124 getS.spec := by
  have hT := tab_ok (fs := [(137, placeS.spec), (79, lowS.spec)]) tree_ok
  have hP : SpecsOk Try.prog (tab tree [(137, placeS.spec), (79, lowS.spec)]) := specs_cons place_ok (specs_cons low_ok specs_nil)
  refine getS.good (fn := Try.f124) hT hP Try.func124 (by kernel_rfl) rfl fun (n a s : Int) _ => ?_
  repeat' first
    | (refine Go.mk ?_; conv => whnf)
    | refine Need.go ?_ ?_
    | refine Br.dec (fun _ => ?_) (fun _ => ?_)
    | refine Br.go (fun _ => ?_) (fun _ => ?_)
  · exact (placeF_nn a s).1
  · exact .mk [] [] _ rfl rfl rfl rfl rfl rfl rfl

def putF (n a s v : Int) : Int :=
  lor .i64 (landNot .i64 (lowF n 62) (shl .i64 (IntKind.i64.wrap (shl .i64 1 (placeF a s).2 - 1)) (placeF a s).1)) (shl .i64 (lowF v (placeF a s).2) (placeF a s).1)
def putS : PSpec := ⟨[gi, gi, gi, gi], fun (n, a, s, v, _) => (none, I (putF n a s v), [])⟩
theorem put_ok : GoodF Try.prog 123 putS.spec := by
  have hT := tab_ok (fs := [(137, placeS.spec), (79, lowS.spec)]) tree_ok
  have hP : SpecsOk Try.prog (tab tree [(137, placeS.spec), (79, lowS.spec)]) := specs_cons place_ok (specs_cons low_ok specs_nil)
  refine putS.good (fn := Try.f123) hT hP Try.func123 (by kernel_rfl) rfl fun (n a s v : Int) _ => ?_
  repeat' first
    | (refine Go.mk ?_; conv => whnf)
    | refine Need.go ?_ ?_
    | refine Br.dec (fun _ => ?_) (fun _ => ?_)
    | refine Br.go (fun _ => ?_) (fun _ => ?_)
  · exact (placeF_nn a s).2
  · exact (placeF_nn a s).1
  · exact (placeF_nn a s).1
  · exact .mk [] [] _ rfl rfl rfl rfl rfl rfl rfl

theorem mixed : Try.prog.follows .mixedOrders = true := by kernel_rfl
abbrev gl : Sig := ⟨false, .sl (.int .i64)⟩

end Go.Proofs.Ytanaaecfghmmaaa

/- Plain arithmetic: numbers of 64 bits, their digits. -/
namespace Go.Proofs.Ytanaaecfghmmaaa
open Go.Fw
set_option linter.unusedVariables false
set_option linter.unusedSimpArgs false

theorem w64 {x : Int} (h1 : -9223372036854775808 ≤ x) (h2 : x ≤ 9223372036854775807) : IntKind.i64.wrap x = x := by
  rw [IntKind.wrap_i64]; omega

/-- the number below 2^64 -/
def u64 (x : Int) : Nat := (x % 18446744073709551616).toNat
theorem u64_lt (x : Int) : u64 x < 2 ^ 64 := by unfold u64; omega
theorem u64_nat {n : Nat} (h : n < 2 ^ 64) : u64 (n : Int) = n := by unfold u64; omega
theorem ofInt_toNat (x : Int) : (BitVec.ofInt 64 x).toNat = u64 x := by
  rw [BitVec.toNat_ofInt]; rfl

theorem land_nat (x y : Int) (h : u64 x &&& u64 y < 2 ^ 63) : land .i64 x y = ((u64 x &&& u64 y : Nat) : Int) := by
  show IntKind.i64.wrap (((BitVec.ofInt 64 x &&& BitVec.ofInt 64 y).toNat : Nat) : Int) = _
  rw [BitVec.toNat_and, ofInt_toNat, ofInt_toNat]
  exact w64 (by omega) (by omega)
theorem lor_nat (x y : Int) (h : u64 x ||| u64 y < 2 ^ 63) : lor .i64 x y = ((u64 x ||| u64 y : Nat) : Int) := by
  show IntKind.i64.wrap (((BitVec.ofInt 64 x ||| BitVec.ofInt 64 y).toNat : Nat) : Int) = _
  rw [BitVec.toNat_or, ofInt_toNat, ofInt_toNat]
  exact w64 (by omega) (by omega)
theorem landNot_nat (x y : Int) (h : u64 x < 2 ^ 63) : landNot .i64 x y = ((u64 x ^^^ (u64 x &&& u64 y) : Nat) : Int) := by
  have e : (BitVec.ofInt 64 x &&& ~~~(BitVec.ofInt 64 y)) = BitVec.ofInt 64 x ^^^ (BitVec.ofInt 64 x &&& BitVec.ofInt 64 y) := by
    apply BitVec.eq_of_getLsbD_eq
    intro i hi
    simp only [BitVec.getLsbD_and, BitVec.getLsbD_not, BitVec.getLsbD_xor, hi, decide_true, Bool.true_and]
    cases (BitVec.ofInt 64 x).getLsbD i <;> cases (BitVec.ofInt 64 y).getLsbD i <;> rfl
  show IntKind.i64.wrap (((BitVec.ofInt 64 x &&& ~~~(BitVec.ofInt 64 y)).toNat : Nat) : Int) = _
  rw [e, BitVec.toNat_xor, BitVec.toNat_and, ofInt_toNat, ofInt_toNat]
  have h2 : u64 x ^^^ (u64 x &&& u64 y) < 2 ^ 63 := Nat.xor_lt_two_pow h (Nat.lt_of_le_of_lt Nat.and_le_left h)
  exact w64 (by omega) (by omega)

theorem pow_le {a b : Nat} (h : a ≤ b) : 2 ^ a ≤ 2 ^ b := Nat.pow_le_pow_right (by omega) h

/-- 1 << b, less one -/
theorem mask_eq {b : Nat} (h : b ≤ 62) : IntKind.i64.wrap (shl .i64 1 b - 1) = ((2 ^ b - 1 : Nat) : Int) := by
  have h1 : 2 ^ b ≤ 2 ^ 62 := pow_le h
  have h2 : 0 < 2 ^ b := Nat.pow_pos (by omega)
  have e : shl .i64 1 (b : Int) = ((2 ^ b : Nat) : Int) := by
    show IntKind.i64.wrap (1 * 2 ^ (min ((b : Int).toNat) 64)) = _
    have : min ((b : Int).toNat) 64 = b := by omega
    rw [this, Int.one_mul]
    have e2 : (2 : Int) ^ b = ((2 ^ b : Nat) : Int) := by simp
    rw [e2]
    exact w64 (by omega) (by omega)
  rw [e, w64 (by omega) (by omega)]
  omega

theorem shl_eq {x b : Nat} (h : x * 2 ^ b < 2 ^ 63) (hb : b ≤ 62) : shl .i64 (x : Int) (b : Int) = ((x * 2 ^ b : Nat) : Int) := by
  show IntKind.i64.wrap ((x : Int) * 2 ^ (min ((b : Int).toNat) 64)) = _
  have : min ((b : Int).toNat) 64 = b := by omega
  rw [this]
  have e2 : (x : Int) * 2 ^ b = ((x * 2 ^ b : Nat) : Int) := by simp
  rw [e2]
  exact w64 (by omega) (by omega)
theorem shr_eq {x b : Nat} (hb : b ≤ 64) : shr .i64 (x : Int) (b : Int) = ((x / 2 ^ b : Nat) : Int) := by
  show (x : Int).fdiv (2 ^ (min ((b : Int).toNat) 64)) = _
  have : min ((b : Int).toNat) 64 = b := by omega
  rw [this]
  have e2 : (2 : Int) ^ b = ((2 ^ b : Nat) : Int) := by simp
  rw [e2, Int.fdiv_eq_ediv_of_nonneg _ (Int.natCast_nonneg _)]
  simp

/-- the digits, the lowest first -/
def bitsN (m k : Nat) : List Int := (List.range k).map fun i => ((m / 2 ^ i % 2 : Nat) : Int)
theorem bitsN_len (m k : Nat) : (bitsN m k).length = k := by simp [bitsN]
theorem bitsN_succ (m k : Nat) : bitsN m (k + 1) = ((m % 2 : Nat) : Int) :: bitsN (m / 2) k := by
  unfold bitsN
  rw [List.range_succ_eq_map, List.map_cons, List.map_map]
  congr 1
  · simp
  · apply List.map_congr_left
    intro i _
    show ((m / 2 ^ (i + 1) % 2 : Nat) : Int) = ((m / 2 / 2 ^ i % 2 : Nat) : Int)
    rw [Nat.pow_succ, Nat.mul_comm, ← Nat.div_div_eq_div_mul]
theorem bitsN_add (m j : Nat) : ∀ k, bitsN m (j + k) = bitsN m j ++ bitsN (m / 2 ^ j) k := by
  intro k
  unfold bitsN
  rw [List.range_add, List.map_append, List.map_map]
  congr 1
  apply List.map_congr_left
  intro i _
  show ((m / 2 ^ (j + i) % 2 : Nat) : Int) = ((m / 2 ^ j / 2 ^ i % 2 : Nat) : Int)
  rw [Nat.pow_add, ← Nat.div_div_eq_div_mul]
theorem bitsN_mod {m m' k : Nat} (h : m % 2 ^ k = m' % 2 ^ k) : bitsN m k = bitsN m' k := by
  unfold bitsN
  apply List.map_congr_left
  intro i hi
  have hi : i < k := List.mem_range.1 hi
  have key : ∀ x : Nat, x / 2 ^ i % 2 = x % 2 ^ k / 2 ^ i % 2 := by
    intro x
    have e : 2 ^ k = 2 ^ (i + 1) * 2 ^ (k - (i + 1)) := by rw [← Nat.pow_add]; congr 1; omega
    have h1 : x % 2 ^ k % 2 ^ (i + 1) = x % 2 ^ (i + 1) := by rw [e]; exact Nat.mod_mul_right_mod _ _ _
    have h2 : ∀ y : Nat, y / 2 ^ i % 2 = y % 2 ^ (i + 1) / 2 ^ i := by
      intro y
      rw [Nat.pow_succ, Nat.mod_mul_right_div_self]
    rw [h2, h2, h1]
  rw [key m, key m', h]
theorem bitsN_drop (m f k : Nat) (h : f ≤ k) : (bitsN m k).drop f = bitsN (m / 2 ^ f) (k - f) := by
  have : k = f + (k - f) := by omega
  rw [this, bitsN_add, List.drop_left' (bitsN_len _ _)]
  congr 1; omega
theorem bitsN_take (m f k : Nat) (h : f ≤ k) : (bitsN m k).take f = bitsN m f := by
  have : k = f + (k - f) := by omega
  rw [this, bitsN_add, List.take_left' (bitsN_len _ _)]

theorem xor_and_testBit (x y i : Nat) : (x ^^^ (x &&& y)).testBit i = (x.testBit i && !y.testBit i) := by
  rw [Nat.testBit_xor, Nat.testBit_and]
  cases x.testBit i <;> cases y.testBit i <;> rfl

end Go.Proofs.Ytanaaecfghmmaaa

/- What the low bits of a number are as arithmetic. -/
namespace Go.Proofs.Ytanaaecfghmmaaa
open Go.Fw
set_option linter.unusedVariables false
set_option linter.unusedSimpArgs false

theorem widthF_in (b : Int) : 0 ≤ widthF b ∧ widthF b ≤ 62 := by
  simp only [widthF, imax_eq, imin_eq]; omega
theorem widthF_id {b : Int} (h1 : 0 ≤ b) (h2 : b ≤ 62) : widthF b = b := by
  simp only [widthF, imax_eq, imin_eq]; omega
theorem lowF_eq (x b : Int) : lowF x b = ((u64 x % 2 ^ (widthF b).toNat : Nat) : Int) := by
  obtain ⟨h1, h2⟩ := widthF_in b
  unfold lowF
  generalize widthF b = w at h1 h2
  obtain ⟨k, rfl⟩ := Int.eq_ofNat_of_zero_le h1
  have hk : k ≤ 62 := by omega
  have h3 : 2 ^ k ≤ 2 ^ 62 := pow_le hk
  have h4 : 0 < 2 ^ k := Nat.pow_pos (by omega)
  rw [mask_eq hk]
  have e : u64 ((2 ^ k - 1 : Nat) : Int) = 2 ^ k - 1 := u64_nat (by omega)
  have e2 : u64 x &&& (2 ^ k - 1) = u64 x % 2 ^ k := Nat.and_two_pow_sub_one_eq_mod _ _
  have h5 : u64 x % 2 ^ k < 2 ^ k := Nat.mod_lt _ h4
  rw [land_nat _ _ (by rw [e, e2]; omega), e, e2]
  simp

end Go.Proofs.Ytanaaecfghmmaaa

/- Contracts of functions that write into what they are handed. -/
namespace Go.Fw
set_option linter.unusedVariables false
set_option linter.unusedSimpArgs false

structure WSpec where
  X : Type
  args : X → List V1
  bl : X → List Blk
  rd : List V1 → List Blk → Option X
  out : X → Option Prop × AV × List (Option Blk) × List Blk

def WSpec.spec (s : WSpec) : CSpec := { wr := true, run := fun args bl => match s.rd args bl with
  | some x => some (s.out x)
  | none => none }

theorem WSpec.good {P : Program} {T : Tab} {f : FuncId} {fn : Func} (hT : TabOk P T) (hP : SpecsOk P T) (hf : P.funcs[f]? = some fn) (hn : (fn.name == "runtime.NumGoroutine") = false) (s : WSpec) (hb : fn.body.isSome = true)
    (hrd : ∀ a b x, s.rd a b = some x → a = s.args x ∧ b = s.bl x)
    (h : ∀ x, (∀ q, (s.out x).1 = some q → q) → Go (startR P T fn (s.args x) (s.bl x) (s.out x).2.1 (s.out x).2.2.1 (s.out x).2.2.2)) : GoodF P f s.spec := by
  refine ⟨?_, fn, hf, hn, hb⟩
  obtain ⟨c, hc⟩ := Option.isSome_iff_exists.1 hb
  refine fn_sound hT hf hc _ fun args bl p r upd fresh hrun hp => ?_
  unfold WSpec.spec at hrun
  simp only at hrun
  split at hrun
  · rename_i x hx
    obtain ⟨rfl, rfl⟩ := hrd _ _ _ hx
    injection hrun with hrun
    have h1 := (h x (by rw [hrun]; exact hp)).out
    rw [hrun, startR_eq] at h1
    refine ⟨_, fun E vs _ _ hv => hv, ?_⟩
    unfold startC at h1
    rw [hc] at h1
    simp only [fV1s_eq, fBlks_eq, fSt_eq] at h1
    exact ex_sound hT hP c h1
  · cases hrun

end Go.Fw

/- What all chips share: numbers in their form, states compared. -/
namespace Go.Proofs.Ytanaaecfghmmaaa
open Go.Fw
set_option linter.unusedVariables false
set_option linter.unusedSimpArgs false
set_option maxRecDepth 100000

abbrev gD : Sig := ⟨true, .pair (.sl (.int .i64)) (.sl (.int .u8))⟩
abbrev gC : Sig := ⟨true, .pair .str (.pair (.int .i64) (.pair (.int .i64) (.pair (.int .i64) (.sl (.int .u8)))))⟩
abbrev gb : Sig := ⟨false, .sl (.int .u8)⟩
abbrev Dv := List Int × List Int
abbrev Cv := ByteArray × Int × Int × Int × List Int

theorem lowF_mod (n b : Int) (h1 : 0 ≤ b) (h2 : b ≤ 62) : lowF n b = n % 2 ^ b.toNat := by
  rw [lowF_eq, widthF_id h1 h2]
  obtain ⟨k, rfl⟩ := Int.eq_ofNat_of_zero_le h1
  have hk : k ≤ 62 := by omega
  have e : (18446744073709551616 : Int) = ((2 ^ k : Nat) : Int) * ((2 ^ (64 - k) : Nat) : Int) := by
    have : (18446744073709551616 : Nat) = 2 ^ k * 2 ^ (64 - k) := by
      rw [← Nat.pow_add]
      have : k + (64 - k) = 64 := by omega
      rw [this]
    rw [← Int.natCast_mul, ← this]; rfl
  have e2 : (2 : Int) ^ k = ((2 ^ k : Nat) : Int) := by simp
  show ((u64 n % 2 ^ k : Nat) : Int) = n % 2 ^ k
  rw [e2, Int.natCast_emod]
  have : ((u64 n : Nat) : Int) = n % 18446744073709551616 := by unfold u64; omega
  rw [this]
  exact Int.emod_emod_of_dvd n ⟨_, e⟩

def lowM : PSpec := ⟨[gi, gi], fun (n, b, _) => (some (0 ≤ b ∧ b ≤ 62), I (n % 2 ^ b.toNat), [])⟩
theorem lowM_ok : GoodF Try.prog 79 lowM.spec := by
  have hT := tab_ok (fs := [(104, widthS.spec)]) tree_ok
  have hP : SpecsOk Try.prog (tab tree [(104, widthS.spec)]) := specs_cons width_ok specs_nil
  refine lowM.good (fn := Try.f79) hT hP Try.func79 (by kernel_rfl) rfl fun (a b : Int) hp => ?_
  have hp : 0 ≤ b ∧ b ≤ 62 := hp _ rfl
  repeat' first
    | (refine Go.mk ?_; conv => whnf)
    | refine Need.go ?_ ?_
    | refine NilG.go (fun _ => ?_) (fun _ => ?_)
    | refine Br.dec (fun _ => ?_) (fun _ => ?_)
    | refine Br.go (fun _ => ?_) (fun _ => ?_)
    | refine draw_go hT hP mixed ?_
    | refine round_go hT hP ?_
  · show 0 ≤ widthF b
    simp only [widthF, imax_eq]; omega
  · refine .mk [] [] _ rfl rfl rfl rfl rfl rfl (imm_int ?_)
    exact lowF_mod a b hp.1 hp.2

def modS : PSpec := ⟨[gi, gi], fun (n, m, _) => (some (0 < m ∧ m ≤ 4611686018427387904), I (n % m), [])⟩
theorem tmod_lt (n : Int) {m : Int} (h : 0 < m) : -m < n.tmod m ∧ n.tmod m < m := by
  constructor
  · have := Int.lt_tmod_of_pos n h; omega
  · exact Int.tmod_lt_of_pos n h
theorem mod_eq (n : Int) {m : Int} (h : 0 < m) (h2 : m ≤ 4611686018427387904) : (IntKind.i64.wrap (n.tmod m + m)).tmod m = n % m := by
  obtain ⟨h3, h4⟩ := tmod_lt n h
  rw [w64 (by omega) (by omega), Int.tmod_eq_emod_of_nonneg (by omega), Int.add_emod_right]
  by_cases hn : 0 ≤ n
  · rw [Int.tmod_eq_emod_of_nonneg hn, Int.emod_emod]
  · have e := Int.mul_tdiv_add_tmod n m
    rw [← Int.add_mul_emod_self_left (n.tmod m) m (n.tdiv m), Int.add_comm, e]
theorem mod_ok : GoodF Try.prog 34 modS.spec := by
  have hT := tab_ok (fs := []) tree_ok
  have hP : SpecsOk Try.prog (tab tree []) := specs_nil
  refine modS.good (fn := Try.f34) hT hP Try.func34 (by kernel_rfl) rfl fun (n m : Int) hp => ?_
  have hp : 0 < m ∧ m ≤ 4611686018427387904 := hp _ rfl
  repeat' first
    | (refine Go.mk ?_; conv => whnf)
    | refine Need.go ?_ ?_
    | refine NilG.go (fun _ => ?_) (fun _ => ?_)
    | refine Br.dec (fun _ => ?_) (fun _ => ?_)
    | refine Br.go (fun _ => ?_) (fun _ => ?_)
    | refine draw_go hT hP mixed ?_
    | refine round_go hT hP ?_
  · omega
  · omega
  · refine .mk [] [] _ rfl rfl rfl rfl rfl rfl (imm_int ?_)
    exact mod_eq n hp.1 hp.2

/-- numbers in their form -/
def formG (N : List Int) : List Int → Nat → List Int
  | [], _ => []
  | m :: ms, i => N.getD i 0 % m :: formG N ms (i + 1)
theorem formG_len (N : List Int) : ∀ (ms : List Int) (i : Nat), (formG N ms i).length = ms.length
  | [], _ => rfl
  | m :: ms, i => by simp [formG, formG_len N ms]
theorem formG_take (N : List Int) : ∀ (ms : List Int) (i k : Nat), k < ms.length → formG N (ms.take (k + 1)) i = formG N (ms.take k) i ++ [N.getD (i + k) 0 % ms.getD k 0]
  | m :: ms, i, 0, _ => by simp [formG]
  | m :: ms, i, k + 1, h => by
    have := formG_take N ms (i + 1) k (by simpa using h)
    simp only [List.take_succ_cons, formG, this, List.cons_append]
    have e : i + 1 + k = i + (k + 1) := by omega
    rw [e]; simp
def formK (N ms : List Int) (k : Nat) : List Int := formG N (ms.take k) 0 ++ List.replicate (ms.length - k) 0
theorem formK_len (N ms : List Int) {k : Nat} (h : k ≤ ms.length) : (formK N ms k).length = ms.length := by
  simp [formK, formG_len]; omega
theorem formK_set (N ms : List Int) {k : Nat} (h : k < ms.length) : (formK N ms k).set k (N.getD k 0 % ms.getD k 0) = formK N ms (k + 1) := by
  unfold formK
  have hl : (formG N (ms.take k) 0).length = k := by rw [formG_len, List.length_take]; omega
  have e : ms.length - k = (ms.length - (k + 1)) + 1 := by omega
  rw [e, List.replicate_succ, List.set_append, if_neg (by omega), hl, Nat.sub_self, List.set_cons_zero, formG_take N ms 0 k h]
  simp
theorem formK_same (N ms : List Int) {k : Nat} (h : k < ms.length) (h2 : N.length ≤ k) : formK N ms k = formK N ms (k + 1) := by
  rw [← formK_set N ms h]
  have : N.getD k 0 = 0 := by simp [h2]
  rw [this, Int.zero_emod]
  have hl : (formG N (ms.take k) 0).length = k := by rw [formG_len, List.length_take]; omega
  unfold formK
  have e : ms.length - k = (ms.length - (k + 1)) + 1 := by omega
  rw [e, List.replicate_succ, List.set_append, if_neg (by omega), hl, Nat.sub_self, List.set_cons_zero]

def formS : PSpec := ⟨[gD, gl], fun (d, ms, _) => (some (List.length ms ≤ 1000 ∧ (∀ m ∈ ms, 0 < m ∧ m ≤ 4611686018427387904)), .cell (.own 0), [.arr (.int .i64) (formG d.1 ms 0)])⟩
def eqiS : PSpec := ⟨[gl, gl], fun (a, b, _) => (some (List.length a ≤ 4611686018427387904), .cell (bv (decide (a = b))), [])⟩
def eqbS : PSpec := ⟨[gb, gb], fun (a, b, _) => (some (List.length a ≤ 4611686018427387904), .cell (bv (decide (a = b))), [])⟩
def sameS : PSpec := ⟨[gD, gD], fun (x, y, _) => (some (List.length x.1 ≤ 4611686018427387904 ∧ List.length x.2 ≤ 4611686018427387904), .cell (bv (decide (x.1 = y.1) && decide (x.2 = y.2))), [])⟩
end Go.Proofs.Ytanaaecfghmmaaa

/- A contract by cases: one of two contracts for each argument. -/
namespace Go.Fw
set_option linter.unusedVariables false
set_option linter.unusedSimpArgs false

theorem GoodF.cases {P : Program} {f : Nat} {gs : List Sig} {o o1 o2 : Args gs → Option Prop × AV × List Blk} (h1 : GoodF P f (PSpec.spec ⟨gs, o1⟩)) (h2 : GoodF P f (PSpec.spec ⟨gs, o2⟩))
    (h : ∀ xs, (∀ q, (o xs).1 = some q → q) → ((∀ q, (o1 xs).1 = some q → q) ∧ (o1 xs).2 = (o xs).2) ∨ ((∀ q, (o2 xs).1 = some q → q) ∧ (o2 xs).2 = (o xs).2)) : GoodF P f (PSpec.spec ⟨gs, o⟩) := by
  refine ⟨?_, h1.2⟩
  intro E0 vs args bl p r upd fresh hH hU hok hvs hrun hp
  unfold PSpec.spec at hrun
  simp only at hrun
  split at hrun
  · split at hrun
    · rename_i xs hxs
      simp only [Option.some.injEq, Prod.mk.injEq] at hrun
      obtain ⟨rfl, rfl, rfl, rfl⟩ := hrun
      have run : ∀ o' : Args gs → Option Prop × AV × List Blk, (o' xs).2 = (o xs).2 → (PSpec.spec ⟨gs, o'⟩).run args [] = some ((o' xs).1, (o xs).2.1, [], (o xs).2.2) := by
        intro o' he
        unfold PSpec.spec
        simp only [hxs, he]
      rcases h xs hp with ⟨hp', he⟩ | ⟨hp', he⟩
      · exact h1.1 E0 vs args [] _ _ _ _ hH hU hok hvs (run o1 he) hp'
      · exact h2.1 E0 vs args [] _ _ _ _ hH hU hok hvs (run o2 he) hp'
    · cases hrun
  · cases hrun

/-- the same contract with a result that says less -/
theorem GoodF.map {P : Program} {f : Nat} {gs : List Sig} {o o' : Args gs → Option Prop × AV × List Blk} (h1 : GoodF P f (PSpec.spec ⟨gs, o⟩))
    (h : ∀ xs, (∀ q, (o' xs).1 = some q → q) → (∀ q, (o xs).1 = some q → q) ∧ (o xs).2.2 = (o' xs).2.2 ∧ ∀ E v, AVR E (o xs).2.1 v → AVR E (o' xs).2.1 v) : GoodF P f (PSpec.spec ⟨gs, o'⟩) := by
  refine ⟨?_, h1.2⟩
  intro E0 vs args bl p r upd fresh hH hU hok hvs hrun hp
  unfold PSpec.spec at hrun
  simp only at hrun
  split at hrun
  · split at hrun
    · rename_i xs hxs
      simp only [Option.some.injEq, Prod.mk.injEq] at hrun
      obtain ⟨rfl, rfl, rfl, rfl⟩ := hrun
      obtain ⟨k1, k2, k3⟩ := h xs hp
      have run : (PSpec.spec ⟨gs, o⟩).run args [] = some ((o xs).1, (o xs).2.1, [], (o' xs).2.2) := by
        unfold PSpec.spec
        simp only [hxs, k2]
      refine (h1.1 E0 vs args [] _ _ _ _ hH hU hok hvs run k1).mono ?_
      rintro e w' ⟨v, E', he, hw, hb⟩
      exact ⟨v, E', he, hw, k3 E' v hb.val, hb.ok, hb.H, hb.U, hb.ext, hb.fr⟩
    · cases hrun
  · cases hrun

/-- a nil slice of a result, taken for one of one's own -/
theorem GoodF.nil {P : Program} {f : Nat} {gs : List Sig} {o o' : Args gs → Option Prop × AV × List Blk} (t : Ty) (h1 : GoodF P f (PSpec.spec ⟨gs, o⟩))
    (h : ∀ xs, (∀ q, (o' xs).1 = some q → q) → (∀ q, (o xs).1 = some q → q) ∧ noA (o xs).2.2.length (o xs).2.1 = some (o' xs).2.1 ∧ (o xs).2.2 ++ [.arr t []] = (o' xs).2.2) : GoodF P f (PSpec.spec ⟨gs, o'⟩) := by
  refine ⟨?_, h1.2⟩
  intro E0 vs args bl p r upd fresh hH hU hok hvs hrun hp
  unfold PSpec.spec at hrun
  simp only at hrun
  split at hrun
  · split at hrun
    · rename_i xs hxs
      simp only [Option.some.injEq, Prod.mk.injEq] at hrun
      obtain ⟨rfl, rfl, rfl, rfl⟩ := hrun
      obtain ⟨k1, k2, k3⟩ := h xs hp
      have run : (PSpec.spec ⟨gs, o⟩).run args [] = some ((o xs).1, (o xs).2.1, [], (o xs).2.2) := by
        unfold PSpec.spec
        simp only [hxs]
      refine (h1.1 E0 vs args [] _ _ _ _ hH hU hok hvs run k1).mono ?_
      rintro e w' ⟨v, E', he, hw, hb⟩
      have := Back.nil hb t (r := (o' xs).2.1) (by simpa using k2)
      rw [k3] at this
      exact ⟨v, nilE E' [] _ t, he, hw, this⟩
    · cases hrun
  · cases hrun

/-- results that say the same, but for nil slices taken for one's own -/
inductive Conv : AV × List Blk → AV × List Blk → Prop where
  | refl {x : AV × List Blk} : Conv x x
  | nil {r r2 : AV} {fr : List Blk} {y : AV × List Blk} (t : Ty) (h : noA fr.length r = some r2) (h2 : Conv (r2, fr ++ [.arr t []]) y) : Conv (r, fr) y
theorem Back.conv {E0 : Env} {upd : List (Option Blk)} {x y : AV × List Blk} (h : Conv x y) : ∀ {E : Env} {v : Value}, Back E0 0 x.1 upd x.2 v E → ∃ E', E'.w = E.w ∧ Back E0 0 y.1 upd y.2 v E' := by
  induction h with
  | refl => intro E v hb; exact ⟨E, rfl, hb⟩
  | nil t h h2 ih =>
    intro E v hb
    obtain ⟨E', e, hb'⟩ := ih (Back.nil hb t (by simpa using h))
    exact ⟨E', e, hb'⟩
/-- for each argument one of several contracts -/
theorem GoodF.sel {P : Program} {f : Nat} {s0 : CSpec} {gs : List Sig} {o : Args gs → Option Prop × AV × List Blk} (h0 : GoodF P f s0)
    (h : ∀ xs, (∀ q, (o xs).1 = some q → q) → ∃ o1 : Args gs → Option Prop × AV × List Blk, GoodF P f (PSpec.spec ⟨gs, o1⟩) ∧ (∀ q, (o1 xs).1 = some q → q) ∧ Conv (o1 xs).2 (o xs).2) : GoodF P f (PSpec.spec ⟨gs, o⟩) := by
  refine ⟨?_, h0.2⟩
  intro E0 vs args bl p r upd fresh hH hU hok hvs hrun hp
  unfold PSpec.spec at hrun
  simp only at hrun
  split at hrun
  · split at hrun
    · rename_i xs hxs
      simp only [Option.some.injEq, Prod.mk.injEq] at hrun
      obtain ⟨rfl, rfl, rfl, rfl⟩ := hrun
      obtain ⟨o1, g1, k1, k2⟩ := h xs hp
      have run : (PSpec.spec ⟨gs, o1⟩).run args [] = some ((o1 xs).1, (o1 xs).2.1, [], (o1 xs).2.2) := by
        unfold PSpec.spec
        simp only [hxs]
      refine (g1.1 E0 vs args [] _ _ _ _ hH hU hok hvs run k1).mono ?_
      rintro e w' ⟨v, E', he, hw, hb⟩
      obtain ⟨E2, e2, hb2⟩ := Back.conv k2 hb
      exact ⟨v, E2, he, e2.trans hw, hb2⟩
    · cases hrun
  · cases hrun

/-- a nil slice in the second field, taken for data -/
theorem AVR.nil_ro {E : Env} {a : Cell} {t : Ty} {v : Value} (h : AVR E (.agg [a, .imm (.slice none 0 0)]) v) : AVR E (.agg [a, .ro t []]) v := by
  obtain ⟨vals, e, r, s, e1, h1, r2, s2, e2, h2, h3⟩ := h
  refine ⟨vals, e, r, s, e1, h1, r2, s2, e2, ?_, h3⟩
  obtain ⟨e3, _⟩ := h2
  exact ⟨_, e3, none, 0, rfl, Nat.le_refl _, fun hne => absurd rfl hne⟩

end Go.Fw

/- More weakening: a nil slice taken for data; loops that count upwards. -/
namespace Go.Fw
set_option linter.unusedVariables false
set_option linter.unusedSimpArgs false

theorem CellR.nil_ro {E : Env} (t : Ty) {vs : List Value} (h : CellR E (.imm (.slice none 0 0)) vs) : CellR E (.ro t []) vs := by
  obtain ⟨e, _⟩ := h
  exact ⟨_, e, none, 0, rfl, Nat.le_refl _, fun hne => absurd rfl hne⟩

/-- a nil slice in a slot, taken for data -/
theorem Le.nilro {m : Nat} {st : St} (i : Nat) (t : Ty) (h : st.tmps[i]? = some (.imm (.slice none 0 0))) : Le m st { tmps := st.tmps.set i (.cell (.ro t [])), heap := st.heap } := by
  intro E0 E a hm hs hf
  refine ⟨E, rfl, ⟨hs.defers, ?_, fun j y hy => ?_, hs.ok, hs.H, hs.U⟩, hf⟩
  · simpa using hs.len
  · have hy : (st.tmps.set i (.cell (.ro t [])))[j]? = some y := hy
    rw [List.getElem?_set] at hy
    by_cases e : i = j
    · subst e
      obtain ⟨v, h1, h2⟩ := hs.tmp i _ h
      rw [if_pos rfl, if_pos (List.getElem?_eq_some_iff.1 h).1] at hy
      injection hy with hy
      subst hy
      exact ⟨v, h1, CellR.nil_ro t h2⟩
    · rw [if_neg e] at hy
      exact hs.tmp j y hy

/-- cells that say the same, or a nil slice taken for data -/
def cellN (c d : Cell) : Prop := c = d ∨ (c = .imm (.slice none 0 0) ∧ ∃ t, d = .ro t [])
def cellsN : List Cell → List Cell → Prop
  | [], [] => True
  | c :: cs, d :: ds => cellN c d ∧ cellsN cs ds
  | _, _ => False
theorem cellsN_size : ∀ {cs ds : List Cell}, cellsN cs ds → ds.map Cell.size = cs.map Cell.size
  | [], [], _ => rfl
  | c :: cs, d :: ds, ⟨h1, h2⟩ => by
    simp only [List.map_cons, cellsN_size h2]
    rcases h1 with rfl | ⟨rfl, t, rfl⟩ <;> rfl
  | [], _ :: _, h => h.elim
  | _ :: _, [], h => h.elim
theorem cellsN_rel {E : Env} : ∀ {cs ds : List Cell} {vs : List Value}, cellsN cs ds → IR E cs vs → IR E ds vs
  | [], [], _, _, h => h
  | c :: cs, d :: ds, _, ⟨h1, h2⟩, ⟨r, s, e, g1, g2⟩ => by
    refine ⟨r, s, e, ?_, cellsN_rel h2 g2⟩
    rcases h1 with rfl | ⟨rfl, t, rfl⟩
    · exact g1
    · exact CellR.nil_ro t g1
  | [], _ :: _, _, h, _ => h.elim
  | _ :: _, [], _, h, _ => h.elim
theorem setAt_same {α : Type} : ∀ (l : List (Option Blk)) (b : Nat) (o : Option Blk) (j : Nat), b < l.length → (setAt l b o)[j]? = if j = b then some o else l[j]?
  | _ :: r, 0, o, j, _ => by cases j <;> simp [setAt]
  | x :: r, b + 1, o, j, h => by
    cases j with
    | zero => simp [setAt]
    | succ j =>
      have := setAt_same (α := α) r b o j (by simpa using h)
      simpa [setAt] using this
theorem setAt_len : ∀ (l : List (Option Blk)) (b : Nat) (o : Option Blk), b < l.length → (setAt l b o).length = l.length
  | _ :: r, 0, o, _ => by simp [setAt]
  | x :: r, b + 1, o, h => by simpa [setAt] using setAt_len r b o (by simpa using h)

/-- nil slices in a variable, taken for data -/
theorem Le.nilroH {m : Nat} {st : St} (b : Nat) (cs ds : List Cell) (h : st.heap[b]? = some (some (.var cs))) (hn : cellsN cs ds) : Le m st { tmps := st.tmps, heap := setAt st.heap b (some (.var ds)) } := by
  intro E0 E a hm hs hf
  have hlt : b < st.heap.length := (List.getElem?_eq_some_iff.1 h).1
  have hlook : st.look b = some (.var cs) := by unfold St.look; rw [h]
  have hb : E.H b = some (.var cs) := (hs.H b).trans hlook
  obtain ⟨hu, ⟨g, ca, el, hr, hw, hir⟩, hS⟩ := hs.ok.blk b _ hb
  have hsh : shape (.var ds) = shape (.var cs) := by simp only [shape]; rw [cellsN_size hn]
  have hwr : Writes E g ca ca el E.w :=
     ⟨hw, hw, rfl, fun _ _ => rfl, rfl, rfl, rfl, rfl⟩
  refine ⟨setE E b (.var ds) E.w, rfl, ⟨hs.defers, hs.len, fun j y hy => ?_, setE_ok hs.ok hb hr hsh hwr (cellsN_rel hn hir), fun x => ?_, fun x hx => ?_⟩, ?_⟩
  · obtain ⟨v, h1, h2⟩ := hs.tmp j y hy
    exact ⟨v, h1, h2.ext (setE_ext hs.ok hb hr hsh hwr)⟩
  · show (if x = b then some (.var ds) else E.H x) = St.look { tmps := st.tmps, heap := setAt st.heap b (some (.var ds)) } x
    unfold St.look
    rw [setAt_same (α := Nat) _ _ _ _ hlt]
    split
    · rfl
    · exact hs.H x
  · have := hs.U x hx
    simpa [setAt_len _ _ _ hlt] using this
  · exact ⟨setE_fr hs.ok hb hr hwr hf.fr, hf.ext.trans (setE_ext hs.ok hb hr hsh hwr)⟩

section
variable {P : Program} {T : Tab}
/-- a loop that counts upwards to n -/
theorem up_go (hT : TabOk P T) (hP : SpecsOk P T) {A : Type} {m : Nat} {c : Code} {st : St} {K : Cont} (n : Nat) (S : Int → A → St) (I : Nat → A → Prop) (a0 : A) (h0 : Le m st (S 0 a0)) (hI : I 0 a0)
    (h : ∀ (k : Nat) a, k ≤ n → I k a → Go (fState (S (k : Int) a) fun st => exR P T m c st fun e st' => match e with | .normal => ∃ i' a', (k < n ∧ i' = ((k + 1 : Nat) : Int) ∧ I (k + 1) a') ∧ Le m st' (S i' a') | e => K e st')) : LoopG P m c st K := by
  refine loop_rule (X := Nat × A) (fun x => S (x.1 : Int) x.2) (fun x => x.1 ≤ n ∧ I x.1 x.2) (fun x => n - x.1) (0, a0) h0 ⟨Nat.zero_le _, hI⟩ fun x hx => ?_
  refine Does.mono (does_go hT hP (h x.1 x.2 hx.1 hx.2)) fun e st' hk => ?_
  cases e with
  | normal =>
    obtain ⟨i', a', ⟨hlt, e, hi⟩, hle⟩ := hk
    subst e
    exact ⟨(x.1 + 1, a'), ⟨hlt, hi⟩, by show n - (x.1 + 1) < n - x.1; omega, hle⟩
  | _ => exact hk
end
end Go.Fw

/- The processor: what it asks of the bus. -/
namespace Go.Proofs.Ytanaaecfghmmaaa
open Go.Fw
set_option linter.unusedVariables false
set_option linter.unusedSimpArgs false
set_option maxRecDepth 100000

abbrev StepT : Ty := .pair (.int .i64) (.pair (.int .i64) (.pair (.int .i64) (.int .i64)))
abbrev CycT : Ty := .pair (.int .i64) (.pair (.int .i64) (.pair (.int .i64) (.sl StepT)))
abbrev InsT : Ty := .pair (.int .i64) (.pair .str (.pair (.int .i64) (.sl CycT)))
abbrev CpuT : Ty := .pair .str (.pair (.sl InsT) (.pair (.sl CycT) (.pair (.sl CycT) (.sl CycT))))
abbrev CoreT : Ty := .pair (.ints .i64 9) (.pair (.int .i64) (.pair (.int .i64) .bool))
abbrev gR : Sig := ⟨true, .ints .i64 9⟩
abbrev gCpu : Sig := ⟨true, CpuT⟩
abbrev gK : Sig := ⟨true, CoreT⟩
abbrev gB : Sig := ⟨false, .bool⟩
abbrev Stp := Int × Int × Int × Int
abbrev Cyc := Int × Int × Int × List Stp
abbrev Ins := Int × ByteArray × Int × List Cyc
abbrev Cpu := ByteArray × List Ins × List Cyc × List Cyc × List Cyc
abbrev Kor := List Int × Int × Int × Bool

theorem w64e (x : Int) : IntKind.i64.wrap x = (x + 9223372036854775808) % 18446744073709551616 - 9223372036854775808 := by
  rw [IntKind.wrap_i64]
theorem up_i {k : Nat} (h : k ≤ 4611686018427387904) : IntKind.i64.wrap ((k : Int) + 1) = ((k + 1 : Nat) : Int) := by
  rw [w64 (by omega) (by omega)]; omega
theorem tmodE (x k : Int) : x.tmod k = if 0 ≤ x then x % k else -((-x) % k) := by
  split
  · rename_i h; exact Int.tmod_eq_emod_of_nonneg h
  · rename_i h
    have := Int.neg_tmod (-x) k
    rw [Int.neg_neg] at this
    rw [this, Int.tmod_eq_emod_of_nonneg (by omega)]
theorem tdivE (x k : Int) : x.tdiv k = if 0 ≤ x then x / k else -((-x) / k) := by
  split
  · rename_i h; exact Int.tdiv_eq_ediv_of_nonneg h
  · rename_i h
    have := Int.neg_tdiv (-x) k
    rw [Int.neg_neg] at this
    rw [this, Int.tdiv_eq_ediv_of_nonneg (by omega)]
def fitR (l : List Int) : List Int := [l.getD 0 0 % 256, l.getD 1 0 % 256, l.getD 2 0 % 256, l.getD 3 0 % 256, l.getD 4 0 % 256, l.getD 5 0 % 256, l.getD 6 0 % 256, l.getD 7 0 % 65536, l.getD 8 0 % 65536]
theorem nine {l : List Int} (h : l.length = 9) : ∃ a b c d e f g h i, l = [a, b, c, d, e, f, g, h, i] := by
  match l, h with
  | [a, b, c, d, e, f, g, h, i], _ => exact ⟨a, b, c, d, e, f, g, h, i, rfl⟩
theorem agg9 {l l' : List Int} (h : l = l') : AV.agg [.run .i64 9 l] = AV.agg [.run .i64 9 l'] := by rw [h]

def wideB (r : Int) : Bool := decide (r = 7 ∨ r = 8)
def narrowB (r : Int) : Bool := decide (0 ≤ r ∧ r ≤ 6)
def wideS : PSpec := ⟨[gi], fun (r, _) => (none, .cell (bv (wideB r)), [])⟩
def narrowS : PSpec := ⟨[gi], fun (r, _) => (none, .cell (bv (narrowB r)), [])⟩
theorem tWide_ok : GoodF Try.prog 25 wideS.spec := by
  have hT := tab_ok (fs := []) tree_ok
  have hP : SpecsOk Try.prog (tab tree []) := specs_nil
  refine wideS.good (fn := Try.f25) hT hP Try.func25 (by kernel_rfl) rfl fun (r : Int) _ => ?_
  repeat' first
    | (refine Go.mk ?_; conv => whnf)
    | refine Need.go ?_ ?_
    | refine NilG.go (fun _ => ?_) (fun _ => ?_)
    | refine Br.dec (fun _ => ?_) (fun _ => ?_)
    | refine Br.go (fun _ => ?_) (fun _ => ?_)
    | refine draw_go hT hP mixed ?_
    | refine round_go hT hP ?_
  all_goals
    refine .mk [] [] _ rfl rfl rfl rfl rfl rfl (imm_bool ?_)
    show _ = wideB r
    simp_all [wideB] <;> first | rfl | omega
theorem rWide_ok : GoodF Try.prog 73 wideS.spec := by
  have hT := tab_ok (fs := []) tree_ok
  have hP : SpecsOk Try.prog (tab tree []) := specs_nil
  refine wideS.good (fn := Try.f73) hT hP Try.func73 (by kernel_rfl) rfl fun (r : Int) _ => ?_
  repeat' first
    | (refine Go.mk ?_; conv => whnf)
    | refine Need.go ?_ ?_
    | refine NilG.go (fun _ => ?_) (fun _ => ?_)
    | refine Br.dec (fun _ => ?_) (fun _ => ?_)
    | refine Br.go (fun _ => ?_) (fun _ => ?_)
    | refine draw_go hT hP mixed ?_
    | refine round_go hT hP ?_
  all_goals
    refine .mk [] [] _ rfl rfl rfl rfl rfl rfl (imm_bool ?_)
    show _ = wideB r
    simp_all [wideB] <;> first | rfl | omega
theorem rNarrow_ok : GoodF Try.prog 72 narrowS.spec := by
  have hT := tab_ok (fs := []) tree_ok
  have hP : SpecsOk Try.prog (tab tree []) := specs_nil
  refine narrowS.good (fn := Try.f72) hT hP Try.func72 (by kernel_rfl) rfl fun (r : Int) _ => ?_
  repeat' first
    | (refine Go.mk ?_; conv => whnf)
    | refine Need.go ?_ ?_
    | refine NilG.go (fun _ => ?_) (fun _ => ?_)
    | refine Br.dec (fun _ => ?_) (fun _ => ?_)
    | refine Br.go (fun _ => ?_) (fun _ => ?_)
    | refine draw_go hT hP mixed ?_
    | refine round_go hT hP ?_
  all_goals
    refine .mk [] [] _ rfl rfl rfl rfl rfl rfl (imm_bool ?_)
    show _ = narrowB r
    simp_all [narrowB] <;> first | rfl | omega

def aBitsS : PSpec := ⟨[gi], fun (r, _) => (none, I (cond (wideB r) 16 8), [])⟩
theorem aBits_ok : GoodF Try.prog 116 aBitsS.spec := by
  have hT := tab_ok (fs := [(25, wideS.spec)]) tree_ok
  have hP : SpecsOk Try.prog (tab tree [(25, wideS.spec)]) := specs_cons tWide_ok specs_nil
  refine aBitsS.good (fn := Try.f116) hT hP Try.func116 (by kernel_rfl) rfl fun (r : Int) _ => ?_
  repeat' first
    | (refine Go.mk ?_; conv => whnf)
    | refine Need.go ?_ ?_
    | refine NilG.go (fun _ => ?_) (fun _ => ?_)
    | refine Br.dec (fun _ => ?_) (fun _ => ?_)
    | refine Br.go (fun _ => ?_) (fun _ => ?_)
    | refine draw_go hT hP mixed ?_
    | refine round_go hT hP ?_
  · rename_i h
    refine .mk [] [] _ rfl rfl rfl rfl rfl rfl (imm_int ?_)
    show _ = cond (wideB r) 16 8
    rw [show wideB r = true from decide_eq_true h]; rfl
  · rename_i h
    refine .mk [] [] _ rfl rfl rfl rfl rfl rfl (imm_int ?_)
    show _ = cond (wideB r) 16 8
    rw [show wideB r = false from decide_eq_false h]; rfl

def fitS : PSpec := ⟨[gR], fun (l, _) => (some (List.length l = 9), .agg [.run .i64 9 (fitR l)], [])⟩
theorem aFit_ok : GoodF Try.prog 100 fitS.spec := by
  have hT := tab_ok (fs := [(116, aBitsS.spec), (79, lowM.spec)]) tree_ok
  have hP : SpecsOk Try.prog (tab tree [(116, aBitsS.spec), (79, lowM.spec)]) := specs_cons aBits_ok (specs_cons lowM_ok specs_nil)
  refine fitS.good (fn := Try.f100) hT hP Try.func100 (by kernel_rfl) rfl fun (l : List Int) hp => ?_
  have hp : l.length = 9 := hp _ rfl
  obtain ⟨a, b, c, d, e, f, g, h, i, rfl⟩ := nine hp
  repeat' first
    | (refine Go.mk ?_; conv => whnf)
    | refine Need.go ?_ ?_
    | refine NilG.go (fun _ => ?_) (fun _ => ?_)
    | refine Br.dec (fun _ => ?_) (fun _ => ?_)
    | refine Br.go (fun _ => ?_) (fun _ => ?_)
    | refine draw_go hT hP mixed ?_
    | refine round_go hT hP ?_
  refine loop_unroll 10 ?_
  repeat' first
    | (refine Go.mk ?_; conv => whnf)
    | refine Need.go ?_ ?_
    | refine NilG.go (fun _ => ?_) (fun _ => ?_)
    | refine Br.dec (fun _ => ?_) (fun _ => ?_)
    | refine Br.go (fun _ => ?_) (fun _ => ?_)
    | refine draw_go hT hP mixed ?_
    | refine round_go hT hP ?_
  all_goals first
    | exact of_decide_eq_true rfl
    | exact .mk [] [] _ rfl rfl rfl rfl rfl rfl rfl

theorem rFit_ok : GoodF Try.prog 70 fitS.spec := by
  have hT := tab_ok (fs := [(73, wideS.spec), (34, modS.spec)]) tree_ok
  have hP : SpecsOk Try.prog (tab tree [(73, wideS.spec), (34, modS.spec)]) := specs_cons rWide_ok (specs_cons mod_ok specs_nil)
  refine fitS.good (fn := Try.f70) hT hP Try.func70 (by kernel_rfl) rfl fun (l : List Int) hp => ?_
  have hp : l.length = 9 := hp _ rfl
  obtain ⟨a, b, c, d, e, f, g, h, i, rfl⟩ := nine hp
  repeat' first
    | (refine Go.mk ?_; conv => whnf)
    | refine Need.go ?_ ?_
    | refine NilG.go (fun _ => ?_) (fun _ => ?_)
    | refine Br.dec (fun _ => ?_) (fun _ => ?_)
    | refine Br.go (fun _ => ?_) (fun _ => ?_)
    | refine draw_go hT hP mixed ?_
    | refine round_go hT hP ?_
  refine loop_unroll 10 ?_
  repeat' first
    | (refine Go.mk ?_; conv => whnf)
    | refine Need.go ?_ ?_
    | refine NilG.go (fun _ => ?_) (fun _ => ?_)
    | refine Br.dec (fun _ => ?_) (fun _ => ?_)
    | refine Br.go (fun _ => ?_) (fun _ => ?_)
    | refine draw_go hT hP mixed ?_
    | refine round_go hT hP ?_
  all_goals first
    | exact of_decide_eq_true rfl
    | exact .mk [] [] _ rfl rfl rfl rfl rfl rfl rfl

-- places

def fixF (a : Int) : Int := ([65534, 65535, 65530, 65531, 65532, 65533] : List Int).getD (a - 6).toNat 0
def plA (a : Int) (r : List Int) : Int :=
  if a = 0 ∨ a = 1 then r.getD 7 0 else if a = 2 then r.getD 8 0 else if a = 3 then (r.getD 8 0 + 1) % 65536 else if a = 4 then 256 + r.getD 3 0 else if a = 5 then 256 + (r.getD 3 0 + 1) % 256
  else if a < 0 ∨ a ≥ 12 then 0 else fixF a
def plR (a : Int) (r : List Int) : List Int :=
  if a = 0 then r.set 7 ((r.getD 7 0 + 1) % 65536) else if a = 4 then r.set 3 ((r.getD 3 0 - 1) % 256) else if a = 5 then r.set 3 ((r.getD 3 0 + 1) % 256) else r
theorem tupR {x y : Int} {l l' : List Int} (h : x = y) (h2 : l = l') : AV.tup [I1 x, .agg [.run .i64 9 l]] = AV.tup [I1 y, .agg [.run .i64 9 l']] := by rw [h, h2]

def fixS : PSpec := ⟨[gi], fun (a, _) => (some (6 ≤ a ∧ a < 12), I (fixF a), [])⟩
theorem fix_ok : GoodF Try.prog 117 fixS.spec := by
  have hT := tab_ok (fs := []) tree_ok
  have hP : SpecsOk Try.prog (tab tree []) := specs_nil
  refine fixS.good (fn := Try.f117) hT hP Try.func117 (by kernel_rfl) rfl fun (a : Int) hp => ?_
  have hp : 6 ≤ a ∧ a < 12 := hp _ rfl
  have e : IntKind.i64.wrap (a - 6) = a - 6 := w64 (by omega) (by omega)
  repeat' first
    | (refine Go.mk ?_; conv => whnf)
    | refine Need.go ?_ ?_
    | refine NilG.go (fun _ => ?_) (fun _ => ?_)
    | refine Br.dec (fun _ => ?_) (fun _ => ?_)
    | refine Br.go (fun _ => ?_) (fun _ => ?_)
    | refine draw_go hT hP mixed ?_
    | refine round_go hT hP ?_
  · rw [e]; show 0 ≤ a - 6 ∧ a - 6 < 6; omega
  · rw [e]; show (a - 6).toNat < 6; omega
  · refine .mk [] [] _ rfl rfl rfl rfl rfl rfl (imm_int ?_)
    rw [e]; rfl

def placeRS : PSpec := ⟨[gi, gR], fun (a, r, _) => (some (∃ q, r = fitR q), .tup [I1 (plA a r), .agg [.run .i64 9 (plR a r)]], [])⟩
theorem cPlace_ok : GoodF Try.prog 102 placeRS.spec := by
  have hT := tab_ok (fs := [(79, lowM.spec), (117, fixS.spec)]) tree_ok
  have hP : SpecsOk Try.prog (tab tree [(79, lowM.spec), (117, fixS.spec)]) := specs_cons lowM_ok (specs_cons fix_ok specs_nil)
  refine placeRS.good (fn := Try.f102) hT hP Try.func102 (by kernel_rfl) rfl fun (a : Int) (r : List Int) hp => ?_
  obtain ⟨q, rfl⟩ : ∃ q, r = fitR q := hp _ rfl
  repeat' first
    | (refine Go.mk ?_; conv => whnf)
    | refine Need.go ?_ ?_
    | refine NilG.go (fun _ => ?_) (fun _ => ?_)
    | refine Br.dec (fun _ => ?_) (fun _ => ?_)
    | refine Br.go (fun _ => ?_) (fun _ => ?_)
    | refine draw_go hT hP mixed ?_
    | refine round_go hT hP ?_
  all_goals first
    | exact of_decide_eq_true rfl
    | omega
    | skip
  all_goals (try refine .mk [] [] _ rfl rfl rfl rfl rfl rfl (tupR ?_ ?_))
  all_goals (try (dsimp only [gi, Den] at *; omega))
  all_goals clear hp
  all_goals (try simp_all [plA, plR, fitR, w64e])
  all_goals (try omega)
  all_goals (try (simp only [tmodE]; split <;> omega))

def addrS : PSpec := ⟨[gi, gR], fun (a, r, _) => (some (∃ q, r = fitR q), .tup [I1 (plA a r), .agg [.run .i64 9 (plR a r)]], [])⟩
theorem rAddr_ok : GoodF Try.prog 74 addrS.spec := by
  have hT := tab_ok (fs := [(70, fitS.spec)]) tree_ok
  have hP : SpecsOk Try.prog (tab tree [(70, fitS.spec)]) := specs_cons rFit_ok specs_nil
  refine addrS.good (fn := Try.f74) hT hP Try.func74 (by kernel_rfl) rfl fun (a : Int) (r : List Int) hp => ?_
  obtain ⟨q, rfl⟩ : ∃ q, r = fitR q := hp _ rfl
  repeat' first
    | (refine Go.mk ?_; conv => whnf)
    | refine Need.go ?_ ?_
    | refine NilG.go (fun _ => ?_) (fun _ => ?_)
    | refine Br.dec (fun _ => ?_) (fun _ => ?_)
    | refine Br.go (fun _ => ?_) (fun _ => ?_)
    | refine draw_go hT hP mixed ?_
    | refine round_go hT hP ?_
  all_goals first
    | exact of_decide_eq_true rfl
    | exact rfl
    | skip
  all_goals (try refine .mk [] [] _ rfl rfl rfl rfl rfl rfl (tupR ?_ ?_))
  all_goals (try (dsimp only [gi, Den] at *; omega))
  all_goals clear hp
  all_goals (try simp_all [plA, plR, fitR, w64e, fixF])
  all_goals (try omega)
  all_goals (try (simp only [tmodE]; split <;> omega))

-- the cycles of an instruction

def cycP (op : Int) (x : Ins) : Bool := decide (x.1 = op ∧ 0 ≤ op ∧ op ≤ 255)
def cycF (c : Cpu) (op : Int) : List Cyc :=
  if op = 256 then c.2.2.2.1 else if op = 257 then c.2.2.2.2 else if op = 258 then c.2.2.1 else match c.2.1.find? (cycP op) with | some x => x.2.2.2 | none => []
theorem find_at {α : Type} {l : List α} {p : α → Bool} {k : Nat} (d : α) (h0 : (l.take k).find? p = none) (h : k < l.length) (hp : p (l.getD k d) = true) : l.find? p = some (l.getD k d) := by
  have e : l = l.take k ++ l.drop k := (List.take_append_drop k l).symm
  have e2 : l.drop k = l.getD k d :: l.drop (k + 1) := by
    rw [List.drop_eq_getElem_cons h]; simp [h]
  have : (l.take k ++ l.drop k).find? p = some (l.getD k d) := by
    rw [List.find?_append, h0, e2, List.find?_cons, hp]; rfl
  rwa [List.take_append_drop] at this
theorem find_step {α : Type} {l : List α} {p : α → Bool} {k : Nat} (d : α) (h0 : (l.take k).find? p = none) (h : k < l.length) (hp : p (l.getD k d) = false) : (l.take (k + 1)).find? p = none := by
  have e2 : l.getD k d = l[k] := by simp [h]
  rw [e2] at hp
  rw [List.take_succ_eq_append_getElem h, List.find?_append, h0]
  simp [hp]
theorem find_end {α : Type} {l : List α} {p : α → Bool} {k : Nat} (h0 : (l.take k).find? p = none) (h : l.length ≤ k) : l.find? p = none := by
  rwa [List.take_of_length_le h] at h0
def cycS : PSpec := ⟨[gCpu, gi], fun (c, op, _) => (some (List.length c.2.1 ≤ 4611686018427387904), .cell (.ro CycT (cycF c op)), [])⟩
theorem cyc_ok : GoodF Try.prog 107 cycS.spec := by
  have hT := tab_ok (fs := []) tree_ok
  have hP : SpecsOk Try.prog (tab tree []) := specs_nil
  refine cycS.good (fn := Try.f107) hT hP Try.func107 (by kernel_rfl) rfl fun (c : Cpu) (op : Int) hp => ?_
  obtain ⟨cn, ci, cr, cq, cm⟩ := c
  have hp : ci.length ≤ 4611686018427387904 := hp _ rfl
  repeat' first
    | (refine Go.mk ?_; conv => whnf)
    | refine Need.go ?_ ?_
    | refine NilG.go (fun _ => ?_) (fun _ => ?_)
    | refine Br.dec (fun _ => ?_) (fun _ => ?_)
    | refine Br.go (fun _ => ?_) (fun _ => ?_)
    | refine draw_go hT hP mixed ?_
    | refine round_go hT hP ?_
  · rename_i h
    refine .mk [] [] _ rfl rfl rfl rfl rfl rfl (ro_eq ?_)
    simp_all [cycF]
  · rename_i h
    refine .mk [] [] _ rfl rfl rfl rfl rfl rfl (ro_eq ?_)
    simp_all [cycF]
  · rename_i h
    refine .mk [] [] _ rfl rfl rfl rfl rfl rfl (ro_eq ?_)
    simp_all [cycF]
  rename_i n1 n2 n3
  have n1 : ¬ op = 256 := n1
  have n2 : ¬ op = 257 := n2
  have n3 : ¬ op = 258 := n3
  have hF : cycF (cn, ci, cr, cq, cm) op = match ci.find? (cycP op) with | some x => x.2.2.2 | none => [] := by
    unfold cycF; rw [if_neg n1, if_neg n2, if_neg n3]
  refine up_go hT hP (A := Unit) ci.length (fun i _ => St.mk [.dead, I op, .dead, .dead, .dead, .dead, .dead, .dead, .dead, .dead, .dead, .dead, .dead, .dead, .dead, .dead, .dead, .dead, .dead, .dead, .dead, .cell (.ro InsT ci), I ci.length, I i, .dead, .dead, .dead, .dead, .dead, .dead, .dead, .dead, .dead, .dead, .dead, .dead, .dead, .dead, .dead, .dead, .dead, .dead] [])
    (fun k _ => (ci.take k).find? (cycP op) = none) () (Le.mk [] [] rfl rfl rfl ?_) (by simp) fun k _ hk hi => ?_
  rotate_right
  repeat' first
    | (refine Go.mk ?_; conv => whnf)
    | refine Need.go ?_ ?_
    | refine NilG.go (fun _ => ?_) (fun _ => ?_)
    | refine Br.dec (fun _ => ?_) (fun _ => ?_)
    | refine Br.go (fun _ => ?_) (fun _ => ?_)
    | refine draw_go hT hP mixed ?_
    | refine round_go hT hP ?_
  all_goals (try (dsimp only [gi, Den] at *; omega))
  · rename_i g1 g2 g3 g4
    have hlt : k < ci.length := by omega
    refine .mk [] [] _ rfl rfl rfl rfl rfl rfl (ro_eq ?_)
    show _ = cycF (cn, ci, cr, cq, cm) op
    rw [hF, find_at (dflt InsT) hi hlt (decide_eq_true ⟨g2, g3, g4⟩)]; rfl
  · rename_i g1 g2 g3 g4
    have hlt : k < ci.length := by omega
    apply Exists.intro
    apply Exists.intro ()
    refine And.intro (And.intro ?lt326 (And.intro ?ei326 ?inv326)) (Le.mk [] [] rfl rfl ?hh326 ?ht326)
    case hh326 => exact rfl
    case ht326 => repeat' first | exact trivial | exact ⟨rfl, rfl⟩ | refine And.intro ?_ ?_
    case lt326 => omega
    case ei326 => exact up_i (by omega)
    exact find_step (dflt InsT) hi hlt (decide_eq_false fun h => g4 h.2.2)
  · rename_i g1 g2 g3
    have hlt : k < ci.length := by omega
    apply Exists.intro
    apply Exists.intro ()
    refine And.intro (And.intro ?lt336 (And.intro ?ei336 ?inv336)) (Le.mk [] [] rfl rfl ?hh336 ?ht336)
    case hh336 => exact rfl
    case ht336 => repeat' first | exact trivial | exact ⟨rfl, rfl⟩ | refine And.intro ?_ ?_
    case lt336 => omega
    case ei336 => exact up_i (by omega)
    exact find_step (dflt InsT) hi hlt (decide_eq_false fun h => g3 h.2.1)
  · rename_i g1 g2
    have hlt : k < ci.length := by omega
    apply Exists.intro
    apply Exists.intro ()
    refine And.intro (And.intro ?lt346 (And.intro ?ei346 ?inv346)) (Le.mk [] [] rfl rfl ?hh346 ?ht346)
    case hh346 => exact rfl
    case ht346 => repeat' first | exact trivial | exact ⟨rfl, rfl⟩ | refine And.intro ?_ ?_
    case lt346 => omega
    case ei346 => exact up_i (by omega)
    exact find_step (dflt InsT) hi hlt (decide_eq_false fun h => g2 h.1)
  · rename_i g1
    refine .le (Le.nilro 4 CycT rfl) (.mk [] [] _ rfl rfl rfl rfl rfl rfl (ro_eq ?_))
    show _ = cycF (cn, ci, cr, cq, cm) op
    rw [hF, find_end hi (by omega)]
  · repeat' first | exact trivial | exact ⟨rfl, rfl⟩ | refine And.intro ?_ ?_

theorem cycOf_ok : GoodF Try.prog 71 cycS.spec := by
  have hT := tab_ok (fs := []) tree_ok
  have hP : SpecsOk Try.prog (tab tree []) := specs_nil
  refine cycS.good (fn := Try.f71) hT hP Try.func71 (by kernel_rfl) rfl fun (c : Cpu) (op : Int) hp => ?_
  obtain ⟨cn, ci, cr, cq, cm⟩ := c
  have hp : ci.length ≤ 4611686018427387904 := hp _ rfl
  repeat' first
    | (refine Go.mk ?_; conv => whnf)
    | refine Need.go ?_ ?_
    | refine NilG.go (fun _ => ?_) (fun _ => ?_)
    | refine Br.dec (fun _ => ?_) (fun _ => ?_)
    | refine Br.go (fun _ => ?_) (fun _ => ?_)
    | refine draw_go hT hP mixed ?_
    | refine round_go hT hP ?_
  · rename_i h
    refine .mk [] [] _ rfl rfl rfl rfl rfl rfl (ro_eq ?_)
    simp_all [cycF]
  · rename_i h
    refine .mk [] [] _ rfl rfl rfl rfl rfl rfl (ro_eq ?_)
    simp_all [cycF]
  · rename_i h
    refine .mk [] [] _ rfl rfl rfl rfl rfl rfl (ro_eq ?_)
    simp_all [cycF]
  rename_i n1 n2 n3
  have n1 : ¬ op = 256 := n1
  have n2 : ¬ op = 257 := n2
  have n3 : ¬ op = 258 := n3
  have hF : cycF (cn, ci, cr, cq, cm) op = match ci.find? (cycP op) with | some x => x.2.2.2 | none => [] := by
    unfold cycF; rw [if_neg n1, if_neg n2, if_neg n3]
  refine up_go hT hP (A := Unit) ci.length (fun i _ => St.mk [.dead, I op, .cell (.ptr 0 0), .dead, .dead, .dead, .dead, .dead, .dead, .dead, .dead, .dead, .dead, .dead, .dead, .dead, .dead, .dead, .dead, .dead, .dead, I ci.length, I i, .dead, .dead, .dead, .dead, .dead, .dead, .dead, .dead, .dead, .dead, .dead, .dead, .dead, .dead, .dead, .dead, .dead, .dead, .dead, .dead, .dead, .dead, .dead, .dead, .dead] [some (.var [.imm (.string cn), .ro InsT ci, .ro CycT cr, .ro CycT cq, .ro CycT cm])])
    (fun k _ => (ci.take k).find? (cycP op) = none) () (Le.mk [] [0] rfl rfl rfl ?_) (by simp) fun k _ hk hi => ?_
  rotate_right
  repeat' first
    | (refine Go.mk ?_; conv => whnf)
    | refine Need.go ?_ ?_
    | refine NilG.go (fun _ => ?_) (fun _ => ?_)
    | refine Br.dec (fun _ => ?_) (fun _ => ?_)
    | refine Br.go (fun _ => ?_) (fun _ => ?_)
    | refine draw_go hT hP mixed ?_
    | refine round_go hT hP ?_
  all_goals (try (dsimp only [gi, Den] at *; omega))
  · rename_i g1 g2 g3 g4
    have hlt : k < ci.length := by omega
    refine .mk [] [] _ rfl rfl rfl rfl rfl rfl (ro_eq ?_)
    show _ = cycF (cn, ci, cr, cq, cm) op
    rw [hF, find_at (dflt InsT) hi hlt (decide_eq_true ⟨g2, g3, g4⟩)]; rfl
  · rename_i g1 g2 g3 g4
    have hlt : k < ci.length := by omega
    apply Exists.intro
    apply Exists.intro ()
    refine And.intro (And.intro ?lt408 (And.intro ?ei408 ?inv408)) (Le.mk [] [0] rfl rfl ?hh408 ?ht408)
    case hh408 => exact rfl
    case ht408 => repeat' first | exact trivial | exact ⟨rfl, rfl⟩ | refine And.intro ?_ ?_
    case lt408 => omega
    case ei408 => exact up_i (by omega)
    exact find_step (dflt InsT) hi hlt (decide_eq_false fun h => g4 h.2.2)
  · rename_i g1 g2 g3
    have hlt : k < ci.length := by omega
    apply Exists.intro
    apply Exists.intro ()
    refine And.intro (And.intro ?lt418 (And.intro ?ei418 ?inv418)) (Le.mk [] [0] rfl rfl ?hh418 ?ht418)
    case hh418 => exact rfl
    case ht418 => repeat' first | exact trivial | exact ⟨rfl, rfl⟩ | refine And.intro ?_ ?_
    case lt418 => omega
    case ei418 => exact up_i (by omega)
    exact find_step (dflt InsT) hi hlt (decide_eq_false fun h => g3 h.2.1)
  · rename_i g1 g2
    have hlt : k < ci.length := by omega
    apply Exists.intro
    apply Exists.intro ()
    refine And.intro (And.intro ?lt428 (And.intro ?ei428 ?inv428)) (Le.mk [] [0] rfl rfl ?hh428 ?ht428)
    case hh428 => exact rfl
    case ht428 => repeat' first | exact trivial | exact ⟨rfl, rfl⟩ | refine And.intro ?_ ?_
    case lt428 => omega
    case ei428 => exact up_i (by omega)
    exact find_step (dflt InsT) hi hlt (decide_eq_false fun h => g2 h.1)
  · rename_i g1
    refine .le (Le.nilro 4 CycT rfl) (.mk [] [] _ rfl rfl rfl rfl rfl rfl (ro_eq ?_))
    show _ = cycF (cn, ci, cr, cq, cm) op
    rw [hF, find_end hi (by omega)]
  · repeat' first | exact trivial | exact ⟨rfl, rfl⟩ | refine And.intro ?_ ?_

-- the next cycle

def cycD : Cyc := (0, 0, 0, [])
def canB (c : Cpu) (op at_ : Int) : Bool := !decide (op = -1) && (decide (0 ≤ at_) && decide (at_ < (cycF c op).length))
def doF (c : Cpu) (op at_ : Int) : Cyc := if canB c op at_ then (cycF c op).getD at_.toNat cycD else cycD
theorem tupDo {a b c : Int} {l : List Stp} {o : Bool} {x : Cyc} {o' : Bool} (h : (a, b, c, l) = x) (h2 : o = o') : AV.tup [.agg [iv .i64 a, iv .i64 b, iv .i64 c, .ro StepT l], .c (bv o)] = AV.tup [.agg [iv .i64 x.1, iv .i64 x.2.1, iv .i64 x.2.2.1, .ro StepT x.2.2.2], .c (bv o')] := by subst h; subst h2; rfl
def doingS : PSpec := ⟨[gCpu, gK], fun (c, k, _) => (some (List.length c.2.1 ≤ 4611686018427387904), .tup [.agg [iv .i64 (doF c k.2.1 k.2.2.1).1, iv .i64 (doF c k.2.1 k.2.2.1).2.1, iv .i64 (doF c k.2.1 k.2.2.1).2.2.1, .ro StepT (doF c k.2.1 k.2.2.1).2.2.2], .c (bv (canB c k.2.1 k.2.2.1))], [])⟩
theorem doing_ok : GoodF Try.prog 103 doingS.spec := by
  have hT := tab_ok (fs := [(107, cycS.spec)]) tree_ok
  have hP : SpecsOk Try.prog (tab tree [(107, cycS.spec)]) := specs_cons cyc_ok specs_nil
  refine doingS.good (fn := Try.f103) hT hP Try.func103 (by kernel_rfl) rfl fun (c : Cpu) (k : Kor) hp => ?_
  obtain ⟨cn, ci, cr, cq, cm⟩ := c
  obtain ⟨r, op, at_, n⟩ := k
  have hp : ci.length ≤ 4611686018427387904 := hp _ rfl
  repeat' first
    | (refine Go.mk ?_; conv => whnf)
    | refine Need.go ?_ ?_
    | refine NilG.go (fun _ => ?_) (fun _ => ?_)
    | refine Br.dec (fun _ => ?_) (fun _ => ?_)
    | refine Br.go (fun _ => ?_) (fun _ => ?_)
    | refine draw_go hT hP mixed ?_
    | refine round_go hT hP ?_
  all_goals (try (dsimp only [gi, Den] at *; omega))
  · exact hp
  · rename_i g
    have g : op = -1 := g
    have hc : canB (cn, ci, cr, cq, cm) op at_ = false := by unfold canB; rw [decide_eq_true g]; rfl
    refine .le (Le.nilroH 2 _ [iv .i64 0, iv .i64 0, iv .i64 0, .ro StepT []] rfl ⟨.inl rfl, .inl rfl, .inl rfl, .inr ⟨rfl, _, rfl⟩, trivial⟩) (.mk [] [] _ rfl rfl rfl rfl rfl rfl (tupDo ?_ hc.symm))
    show cycD = doF _ _ _
    unfold doF; rw [if_neg (by rw [hc]; decide)]
  · rename_i g g2
    have g2 : at_ < 0 := g2
    have hc : canB (cn, ci, cr, cq, cm) op at_ = false := by unfold canB; rw [decide_eq_false (show ¬ 0 ≤ at_ by omega)]; simp
    refine .le (Le.nilroH 2 _ [iv .i64 0, iv .i64 0, iv .i64 0, .ro StepT []] rfl ⟨.inl rfl, .inl rfl, .inl rfl, .inr ⟨rfl, _, rfl⟩, trivial⟩) (.mk [] [] _ rfl rfl rfl rfl rfl rfl (tupDo ?_ hc.symm))
    show cycD = doF _ _ _
    unfold doF; rw [if_neg (by rw [hc]; decide)]
  · rename_i g g2 g3
    have g3 : at_ ≥ ((cycF (cn, ci, cr, cq, cm) op).length : Int) := g3
    have hc : canB (cn, ci, cr, cq, cm) op at_ = false := by unfold canB; rw [decide_eq_false (show ¬ at_ < ((cycF (cn, ci, cr, cq, cm) op).length : Int) by omega)]; simp
    refine .le (Le.nilroH 2 _ [iv .i64 0, iv .i64 0, iv .i64 0, .ro StepT []] rfl ⟨.inl rfl, .inl rfl, .inl rfl, .inr ⟨rfl, _, rfl⟩, trivial⟩) (.mk [] [] _ rfl rfl rfl rfl rfl rfl (tupDo ?_ hc.symm))
    show cycD = doF _ _ _
    unfold doF; rw [if_neg (by rw [hc]; decide)]
  · rename_i g g2 g3
    have g : ¬ op = -1 := g
    have g2 : ¬ at_ < 0 := g2
    have g3 : ¬ at_ ≥ ((cycF (cn, ci, cr, cq, cm) op).length : Int) := g3
    have hc : canB (cn, ci, cr, cq, cm) op at_ = true := by unfold canB; rw [decide_eq_false g, decide_eq_true (show 0 ≤ at_ by omega), decide_eq_true (show at_ < ((cycF (cn, ci, cr, cq, cm) op).length : Int) by omega)]; rfl
    refine .mk [] [] _ rfl rfl rfl rfl rfl rfl (tupDo ?_ hc.symm)
    unfold doF; rw [if_pos hc]; rfl

-- what begins between two instructions

theorem fin256 (p : Int → Prop) [DecidablePred p] (h : ∀ n : Fin 256, p (n.val : Int)) (x : Int) (h1 : 0 ≤ x) (h2 : x < 256) : p x := by
  have := h ⟨x.toNat, by omega⟩
  have e : ((x.toNat : Nat) : Int) = x := by omega
  simpa [e] using this
theorem land4 : ∀ x : Int, 0 ≤ x → x < 256 → (decide (land .i64 x 4 = 0)) = decide (x / 4 % 2 = 0) := fin256 (fun x => (decide (land .i64 x 4 = 0)) = decide (x / 4 % 2 = 0)) (by decide +kernel)
def startF (c : Cpu) (k : Kor) (irq : Bool) : Kor :=
  if (k.2.2.2 && decide (0 < c.2.2.2.2.length)) = true then (k.1, 257, 0, false) else if (irq && (decide (k.1.getD 4 0 / 4 % 2 = 0) && decide (0 < c.2.2.2.1.length))) = true then (k.1, 256, 0, k.2.2.2) else k
theorem aggK {r : List Int} {a b : Int} {n : Bool} {x : Kor} (h : (r, a, b, n) = x) : AV.agg [.run .i64 9 r, iv .i64 a, iv .i64 b, bv n] = AV.agg [.run .i64 9 x.1, iv .i64 x.2.1, iv .i64 x.2.2.1, bv x.2.2.2] := by subst h; rfl
def startS : PSpec := ⟨[gCpu, gK, gB], fun (c, k, i, _) => (some (List.length c.2.1 ≤ 4611686018427387904 ∧ ∃ q, k.1 = fitR q), .agg [.run .i64 9 (startF c k i).1, iv .i64 (startF c k i).2.1, iv .i64 (startF c k i).2.2.1, bv (startF c k i).2.2.2], [])⟩
theorem start_ok : GoodF Try.prog 101 startS.spec := by
  have hT := tab_ok (fs := [(107, cycS.spec)]) tree_ok
  have hP : SpecsOk Try.prog (tab tree [(107, cycS.spec)]) := specs_cons cyc_ok specs_nil
  refine startS.good (fn := Try.f101) hT hP Try.func101 (by kernel_rfl) rfl fun (c : Cpu) (k : Kor) (i : Bool) hp => ?_
  obtain ⟨cn, ci, cr, cq, cm⟩ := c
  obtain ⟨r, op, at_, n⟩ := k
  obtain ⟨hz, q, rfl⟩ : ci.length ≤ 4611686018427387904 ∧ ∃ q, r = fitR q := hp _ rfl
  clear hp
  have hl : land .i64 (q.getD 4 0 % 256) 4 = 0 ↔ q.getD 4 0 % 256 / 4 % 2 = 0 := by
    have := land4 (q.getD 4 0 % 256) (by omega) (by omega)
    simpa using this
  repeat' first
    | (refine Go.mk ?_; conv => whnf)
    | refine Need.go ?_ ?_
    | refine NilG.go (fun _ => ?_) (fun _ => ?_)
    | refine Br.dec (fun _ => ?_) (fun _ => ?_)
    | refine Br.go (fun _ => ?_) (fun _ => ?_)
    | refine draw_go hT hP mixed ?_
    | refine round_go hT hP ?_
  refine loop_unroll 3 ?_
  repeat' first
    | (refine Go.mk ?_; conv => whnf)
    | refine Need.go ?_ ?_
    | refine NilG.go (fun _ => ?_) (fun _ => ?_)
    | refine Br.dec (fun _ => ?_) (fun _ => ?_)
    | refine Br.go (fun _ => ?_) (fun _ => ?_)
    | refine draw_go hT hP mixed ?_
    | refine round_go hT hP ?_
  all_goals first
    | exact of_decide_eq_true rfl
    | exact hz
    | skip
  all_goals (try refine .mk [] [] _ rfl rfl rfl rfl rfl rfl (aggK ?_))
  all_goals (simp only [castL_eq] at *)
  all_goals (try simp_all [startF, fitR, cycF, w64e])
  all_goals trace_state

end Go.Proofs.Ytanaaecfghmmaaa

/- Numbers as bytes, seven bits each: plain functions. -/
namespace Go.Proofs.Ytanaaecfghmmaaa
open Go.Fw
set_option linter.unusedVariables false
set_option linter.unusedSimpArgs false

def enc7 (u : Nat) : List Int := if u < 128 then [(u : Int)] else ((u % 128 + 128 : Nat) : Int) :: enc7 (u / 128)
termination_by u
decreasing_by omega
theorem enc7_lt {u : Nat} (h : u < 128) : enc7 u = [(u : Int)] := by rw [enc7, if_pos h]
theorem enc7_ge {u : Nat} (h : ¬ u < 128) : enc7 u = ((u % 128 + 128 : Nat) : Int) :: enc7 (u / 128) := by rw [enc7, if_neg h]
theorem enc7_len : ∀ (k u : Nat), u < 128 ^ (k + 1) → (enc7 u).length ≤ k + 1
  | 0, u, h => by rw [enc7_lt (by simpa using h)]; simp
  | k + 1, u, h => by
    by_cases h1 : u < 128
    · rw [enc7_lt h1]; simp
    · rw [enc7_ge h1]
      have h2 : u / 128 < 128 ^ (k + 1) := by
        rw [Nat.pow_succ] at h
        exact Nat.div_lt_of_lt_mul (by rw [Nat.mul_comm]; exact h)
      have := enc7_len k (u / 128) h2
      simp only [List.length_cons]; omega
theorem enc7_10 {u : Nat} (h : u < 18446744073709551616) : (enc7 u).length ≤ 10 := enc7_len 9 u (Nat.lt_of_lt_of_le h (by decide))
theorem enc7_pos (u : Nat) : 0 < (enc7 u).length := by
  by_cases h1 : u < 128
  · rw [enc7_lt h1]; simp
  · rw [enc7_ge h1]; simp
def zig (n : Int) : Nat := if n < 0 then (-(2 * n) - 1).toNat else (2 * n).toNat
def i64P (n : Int) : Prop := -9223372036854775808 ≤ n ∧ n ≤ 9223372036854775807
theorem zig_lt {n : Int} (h : i64P n) : zig n < 18446744073709551616 := by
  unfold i64P at h; unfold zig; split <;> omega
def encI (n : Int) : List Int := enc7 (zig n)
theorem encI_len {n : Int} (h : i64P n) : (encI n).length ≤ 10 := enc7_10 (zig_lt h)
def encAll (l : List Int) : List Int := l.flatMap encI
theorem encAll_nil : encAll [] = [] := rfl
theorem encAll_cons (n : Int) (l : List Int) : encAll (n :: l) = encI n ++ encAll l := rfl
theorem encAll_append (l m : List Int) : encAll (l ++ m) = encAll l ++ encAll m := by unfold encAll; rw [List.flatMap_append]
theorem encAll_len {l : List Int} (h : ∀ n ∈ l, i64P n) : (encAll l).length ≤ 10 * l.length := by
  induction l with
  | nil => simp [encAll]
  | cons x r ih =>
    have h1 := encI_len (h x (List.mem_cons_self ..))
    have h2 := ih fun n hn => h n (List.mem_cons_of_mem _ hn)
    rw [encAll_cons, List.length_append, List.length_cons]; omega
theorem encAll_pos {l : List Int} (h : l ≠ []) : encAll l ≠ [] := by
  cases l with
  | nil => exact absurd rfl h
  | cons x r =>
    rw [encAll_cons]
    intro e
    have := enc7_pos (zig x)
    have e2 : (encI x ++ encAll r).length = 0 := by rw [e]; rfl
    rw [List.length_append] at e2
    unfold encI at e2
    omega
/-- the tail of a number whose last byte so far is d -/
def tail7 (d : Int) (u : Nat) : List Int := if u = 0 then [d] else (d + 128) :: enc7 u
theorem tail7_go {d : Int} {u : Nat} (h : u ≠ 0) : tail7 d u = (d + 128) :: tail7 ((u % 128 : Nat) : Int) (u / 128) := by
  rw [tail7, if_neg h, tail7]
  by_cases h1 : u < 128
  · rw [enc7_lt h1, if_pos (by omega), Nat.mod_eq_of_lt h1]
  · rw [enc7_ge h1, if_neg (by omega)]
    rfl
theorem tail7_first (u : Nat) (b : Nat) (hb : b < 2) : tail7 ((u % 64 * 2 + b : Nat) : Int) (u / 64) = enc7 (2 * u + b) := by
  rw [tail7]
  by_cases h : u / 64 = 0
  · rw [if_pos h, enc7_lt (u := 2 * u + b) (by omega), show u % 64 * 2 + b = 2 * u + b by omega]
  · rw [if_neg h, enc7_ge (u := 2 * u + b) (by omega), show (2 * u + b) / 128 = u / 64 by omega, show (2 * u + b) % 128 = u % 64 * 2 + b by omega]
    rfl

-- operators of uint64 and of bytes
theorem wu64 (x : Int) : IntKind.u64.wrap x = x % 18446744073709551616 := rfl
theorem wu8 (x : Int) : IntKind.u8.wrap x = x % 256 := rfl
theorem shl1_u64 (x : Int) : shl .u64 x 1 = (x * 2) % 18446744073709551616 := rfl
theorem shr_u64 (x : Int) (k : Nat) (hk : k ≤ 64) : shr .u64 x k = x / 2 ^ k := by
  unfold shr
  rw [Int.toNat_natCast, show IntKind.u64.bits = 64 from rfl, Nat.min_eq_left hk, Int.fdiv_eq_ediv_of_nonneg _ (by exact_mod_cast Nat.zero_le _)]
theorem shr7_u64 (x : Int) : shr .u64 x 7 = x / 128 := shr_u64 x 7 (by decide)
theorem shr6_u64 (x : Int) : shr .u64 x 6 = x / 64 := shr_u64 x 6 (by decide)
theorem shr1_u64 (x : Int) : shr .u64 x 1 = x / 2 := shr_u64 x 1 (by decide)
theorem landu_nat {a b : Nat} (ha : a < 2 ^ 64) (hb : b < 2 ^ 64) : land .u64 (a : Int) (b : Int) = ((a &&& b : Nat) : Int) := by
  show (((BitVec.ofInt 64 (a : Int) &&& BitVec.ofInt 64 (b : Int)).toNat : Nat) : Int) % 18446744073709551616 = _
  rw [BitVec.toNat_and, ofInt_toNat, ofInt_toNat, u64_nat ha, u64_nat hb]
  have := Nat.and_lt_two_pow a hb
  omega
theorem land_u64 {x : Int} (h : 0 ≤ x ∧ x < 18446744073709551616) (k : Nat) (hk : k < 63) : land .u64 x ((2 ^ k - 1 : Nat) : Int) = x % ((2 ^ k : Nat) : Int) := by
  obtain ⟨n, rfl⟩ := Int.eq_ofNat_of_zero_le h.1
  have hp : 2 ^ k ≤ 2 ^ 63 := Nat.pow_le_pow_right (by omega) (by omega)
  rw [landu_nat (by omega) (by omega), Nat.and_two_pow_sub_one_eq_mod, Int.natCast_emod]
theorem land63_u64 {x : Int} (h : 0 ≤ x ∧ x < 18446744073709551616) : land .u64 x 63 = x % 64 := land_u64 h 6 (by decide)
theorem land127_u64 {x : Int} (h : 0 ≤ x ∧ x < 18446744073709551616) : land .u64 x 127 = x % 128 := land_u64 h 7 (by decide)
theorem land1_u64 {x : Int} (h : 0 ≤ x ∧ x < 18446744073709551616) : land .u64 x 1 = x % 2 := land_u64 h 1 (by decide)
theorem lnot_u64 {x : Int} (h : 0 ≤ x ∧ x < 18446744073709551616) : lxor .u64 (if IntKind.u64.signed then -1 else IntKind.u64.max) x = 18446744073709551615 - x := by
  obtain ⟨n, rfl⟩ := Int.eq_ofNat_of_zero_le h.1
  have hn : n < 2 ^ 64 := by omega
  show (((BitVec.ofInt 64 18446744073709551615 ^^^ BitVec.ofInt 64 (n : Int)).toNat : Nat) : Int) % 18446744073709551616 = _
  have e : BitVec.ofInt 64 18446744073709551615 = BitVec.allOnes 64 := by decide
  rw [e, BitVec.allOnes_xor, BitVec.toNat_not, ofInt_toNat, u64_nat hn]
  omega
theorem or128_u8 : ∀ x : Int, 0 ≤ x → x < 256 → lor .u8 x 128 = x % 128 + 128 := fin256 (fun x => lor .u8 x 128 = x % 128 + 128) (by decide +kernel)
theorem shl1_u8 (x : Int) : shl .u8 x 1 = (x * 2) % 256 := rfl

end Go.Proofs.Ytanaaecfghmmaaa

