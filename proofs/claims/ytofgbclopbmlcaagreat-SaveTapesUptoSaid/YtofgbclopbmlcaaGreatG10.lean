/- Part 10 of the proof. Conditions: none. -/
import Derived.Test.YtofgbclopbmlcaaGreatG9
import Derived.Test.YtofgbclopbmlcaaGreatProg
import Derived.Laws.Bits64
namespace Go.Fw
open Go.IntKind (i64)
open Go.Proofs
abbrev zY:Cell:=.imm (.int .i64 0)
abbrev e0Y:Ty:=.pair (.sl (.int .u8)) .bool
abbrev e1Y:Ty:=.pair (.sl (.int .i64)) (.sl (.int .u8))
abbrev e2Y:Ty:=.pair (.int .i64) (.pair .str (.int .i64))
abbrev e3Y:Ty:=.sl e1Y
abbrev e4Y:Ty:=.sl e2Y
abbrev e5Y:Ty:=.pair (.int .i64) (.pair (.int .i64) (.int .i64))
abbrev e6Y:Ty:=.sl e4Y
abbrev e7Y:Ty:=.pair (.int .i64) (.pair (.int .i64) (.pair .bool (.int .u8)))
abbrev e8Y:Ty:=.pair (.ints .i64 9) (.pair (.int .i64) (.pair (.int .i64) .bool))
abbrev e9Y:Ty:=.pair (.int .i64) e5Y
abbrev QJd:Ty:=.pair (.int .i64) (.pair .str e2Y)
abbrev QLc:Ty:=.sl e9Y
abbrev QMB:Ty:=.sl QJd
abbrev QLd:Ty:=.pair .str (.pair (.int .i64) (.pair (.int .i64) (.pair (.int .i64) (.sl (.int .u8)))))
abbrev QLe:Ty:=.sl QLd
abbrev QLf:Ty:=.pair (.int .i64) (.pair (.int .i64) (.pair (.int .i64) QLc))
abbrev QFc:Ty:=.sl QLf
abbrev QMC:Ty:=.sl QFc
abbrev QLg:Ty:=.pair (.int .i64) (.pair .str (.pair (.int .i64) QFc))
abbrev QLh:Ty:=.sl QLg
abbrev QIy:Ty:=.pair (.int .i64) (.pair e8Y (.pair e3Y e5Y))
abbrev QLi:Ty:=.sl QIy
abbrev QLj:Ty:=.pair .str (.pair QLh (.pair QFc (.pair QFc QFc)))
abbrev QJe:Ty:=.pair .str (.pair QLj (.pair QLe (.sl (.pair .str .str))))
abbrev QLk:Ty:=.pair QJe (.pair QIy e4Y)
abbrev QMD:Ty:=.sl QLk
abbrev QME:Ty:=.pair QJe (.pair e4Y (.pair QLi (.pair QIy (.int .i64))))
abbrev ty1:TI:=⟨.other,1,8,[.imm .nilFunc],none,false⟩
abbrev ty2:TI:=⟨(.int .i64),1,8,[zY],(some (.int .i64)),false⟩
abbrev ty3:TI:=ty2
abbrev ty4:TI:=⟨.bool,1,1,[.imm (.bool false)],(some .bool),false⟩
abbrev ty5:TI:=⟨(.int .u8),1,1,[.imm (.int .u8 0)],(some (.int .u8)),false⟩
abbrev ty6:TI:=ty5
abbrev ty7:TI:=⟨(.struct [(2,0),(3,1),(4,2),(6,3)]),4,24,[zY,zY,.imm (.bool false),.imm (.int .u8 0)],(some e7Y),false⟩
abbrev ty8:TI:=ty7
abbrev ty9:TI:=⟨.str,1,16,[.imm (.string ByteArray.empty)],(some .str),false⟩
abbrev QMF:TI:=ty9
abbrev QMG:TI:=ty9
abbrev QJf:TI:=⟨(.int .u64),1,8,[.imm (.int .u64 0)],(some (.int .u64)),false⟩
abbrev QLl:TI:=⟨(.struct [(9,0),(12,1)]),2,24,[.imm (.string ByteArray.empty),.imm (.int .u64 0)],(some (.pair .str (.int .u64))),false⟩
abbrev QMH:TI:=QLl
abbrev QMI:TI:=⟨(.ptr 270),1,8,[.imm (.pointer none)],none,false⟩
abbrev QMJ:TI:=⟨(.ptr 273),1,8,[.imm (.pointer none)],none,false⟩
abbrev QMK:TI:=⟨(.ptr 281),1,8,[.imm (.pointer none)],none,false⟩
abbrev QLm:TI:=⟨(.struct [(17,0)]),1,8,[.imm (.pointer none)],none,false⟩
abbrev QML:TI:=QLm
abbrev QMM:TI:=⟨.iface,1,16,[.imm .nilIface],none,false⟩
abbrev QJg:TI:=⟨(.int .i32),1,4,[.imm (.int .i32 0)],(some (.int .i32)),false⟩
abbrev QMN:TI:=⟨(.slice 85),1,24,[.imm (.slice none 0 0)],(some QMD),false⟩
abbrev QMO:TI:=⟨(.slice 28),1,24,[.imm (.slice none 0 0)],(some QMB),false⟩
abbrev QMP:TI:=ty1
abbrev QMQ:TI:=ty2
abbrev QMR:TI:=ty1
abbrev QMS:TI:=⟨(.struct [(3,0),(9,1),(3,2),(9,3),(3,4)]),5,56,[zY,.imm (.string ByteArray.empty),zY,.imm (.string ByteArray.empty),zY],(some QJd),false⟩
abbrev QMT:TI:=⟨(.struct [(3,0),(9,1),(3,2),(9,3),(3,4)]),5,56,[zY,.imm (.string ByteArray.empty),zY,.imm (.string ByteArray.empty),zY],(some QJd),true⟩
abbrev QMU:TI:=ty1
abbrev QMV:TI:=⟨(.slice 165),1,24,[.imm (.slice none 0 0)],(some QLh),false⟩
abbrev QMW:TI:=⟨(.slice 172),1,24,[.imm (.slice none 0 0)],(some QFc),false⟩
abbrev QLn:TI:=⟨(.struct [(9,0),(30,1),(31,2),(31,3),(31,4)]),5,112,[.imm (.string ByteArray.empty),.imm (.slice none 0 0),.imm (.slice none 0 0),.imm (.slice none 0 0),.imm (.slice none 0 0)],(some QLj),false⟩
abbrev QMX:TI:=QLn
abbrev QMY:TI:=⟨(.slice 54),1,24,[.imm (.slice none 0 0)],(some QLe),false⟩
abbrev QMZ:TI:=⟨(.slice 114),1,24,[.imm (.slice none 0 0)],(some (.sl (.pair .str .str))),false⟩
abbrev QLo:TI:=⟨(.struct [(9,0),(33,1),(34,6),(35,7)]),8,176,[.imm (.string ByteArray.empty),.imm (.string ByteArray.empty),.imm (.slice none 0 0),.imm (.slice none 0 0),.imm (.slice none 0 0),.imm (.slice none 0 0),.imm (.slice none 0 0),.imm (.slice none 0 0)],(some QJe),false⟩
abbrev QM0:TI:=QLo
abbrev QLp:TI:=⟨(.array 9 3),9,72,[.run .i64 9 (List.replicate 9 0)],(some (.ints .i64 9)),true⟩
abbrev QM1:TI:=QLp
abbrev QM2:TI:=⟨(.struct [(39,0),(3,9),(3,10),(4,11)]),12,96,[.run .i64 9 (List.replicate 9 0),zY,zY,.imm (.bool false)],(some e8Y),false⟩
abbrev QM3:TI:=⟨(.struct [(39,0),(3,9),(3,10),(4,11)]),12,96,[.run .i64 9 (List.replicate 9 0),zY,zY,.imm (.bool false)],(some e8Y),true⟩
abbrev QM4:TI:=⟨(.slice 57),1,24,[.imm (.slice none 0 0)],(some e3Y),false⟩
abbrev QM5:TI:=⟨(.struct [(3,0),(3,1),(3,2)]),3,24,[zY,zY,zY],(some e5Y),false⟩
abbrev QM6:TI:=⟨(.struct [(3,0),(3,1),(3,2)]),3,24,[zY,zY,zY],(some e5Y),true⟩
abbrev QLq:TI:=⟨(.struct [(3,0),(41,1),(42,13),(44,14)]),17,152,[zY,.run .i64 9 (List.replicate 9 0),zY,zY,.imm (.bool false),.imm (.slice none 0 0),zY,zY,zY],(some QIy),false⟩
abbrev QM7:TI:=QLq
abbrev QM8:TI:=⟨(.slice 86),1,24,[.imm (.slice none 0 0)],(some e4Y),false⟩
abbrev QM9:TI:=ty1
abbrev QNa:TI:=⟨(.slice 4),1,24,[.imm (.slice none 0 0)],(some (.sl .bool)),false⟩
abbrev QNb:TI:=ty1
abbrev QNc:TI:=ty1
abbrev QNd:TI:=⟨(.slice 5),1,24,[.imm (.slice none 0 0)],(some (.sl (.int .u8))),false⟩
abbrev QLr:TI:=⟨(.struct [(9,0),(3,1),(3,2),(3,3),(52,4)]),5,64,[.imm (.string ByteArray.empty),zY,zY,zY,.imm (.slice none 0 0)],(some QLd),false⟩
abbrev QNe:TI:=QLr
abbrev QNf:TI:=⟨(.slice 3),1,24,[.imm (.slice none 0 0)],(some (.sl (.int .i64))),false⟩
abbrev QLs:TI:=⟨(.struct [(55,0),(52,1)]),2,48,[.imm (.slice none 0 0),.imm (.slice none 0 0)],(some e1Y),false⟩
abbrev QNg:TI:=QLs
abbrev QNh:TI:=ty1
abbrev QNi:TI:=ty1
abbrev QNj:TI:=ty1
abbrev QNk:TI:=ty1
abbrev QNl:TI:=ty1
abbrev QNm:TI:=ty1
abbrev QNn:TI:=⟨(.slice 70),1,24,[.imm (.slice none 0 0)],(some e4Y),false⟩
abbrev QNo:TI:=ty1
abbrev QNp:TI:=ty1
abbrev QNq:TI:=⟨(.struct [(3,0),(9,1),(3,2)]),3,32,[zY,.imm (.string ByteArray.empty),zY],(some e2Y),false⟩
abbrev QLt:TI:=⟨(.struct [(3,0),(9,1),(3,2)]),3,32,[zY,.imm (.string ByteArray.empty),zY],(some e2Y),true⟩
abbrev QNr:TI:=ty1
abbrev QNs:TI:=ty1
abbrev QNt:TI:=ty1
abbrev QNu:TI:=ty1
abbrev QNv:TI:=ty1
abbrev QNw:TI:=⟨(.slice 46),1,24,[.imm (.slice none 0 0)],(some QLi),false⟩
abbrev QNx:TI:=⟨(.slice 65),1,24,[.imm (.slice none 0 0)],(some e6Y),false⟩
abbrev QNy:TI:=ty1
abbrev QNz:TI:=⟨(.slice 55),1,24,[.imm (.slice none 0 0)],(some (.sl (.sl (.int .i64)))),false⟩
abbrev QLu:TI:=⟨(.struct [(37,0),(46,8),(47,25)]),26,352,[.imm (.string ByteArray.empty),.imm (.string ByteArray.empty),.imm (.slice none 0 0),.imm (.slice none 0 0),.imm (.slice none 0 0),.imm (.slice none 0 0),.imm (.slice none 0 0),.imm (.slice none 0 0),zY,.run .i64 9 (List.replicate 9 0),zY,zY,.imm (.bool false),.imm (.slice none 0 0),zY,zY,zY,.imm (.slice none 0 0)],(some QLk),false⟩
abbrev QNA:TI:=QLu
abbrev QNB:TI:=QLt
abbrev QNC:TI:=ty1
abbrev QND:TI:=ty1
abbrev QNE:TI:=⟨(.ptr 148),1,8,[.imm (.pointer none)],none,false⟩
abbrev QNF:TI:=ty1
abbrev QNG:TI:=ty1
abbrev QNH:TI:=ty1
abbrev QNI:TI:=ty1
abbrev QNJ:TI:=ty1
abbrev QNK:TI:=ty1
abbrev QJh:TI:=ty1
abbrev QJi:TI:=ty1
abbrev QJj:TI:=ty1
abbrev QJk:TI:=ty1
abbrev QJl:TI:=ty1
abbrev QJm:TI:=ty1
abbrev QJn:TI:=⟨(.slice 9),1,24,[.imm (.slice none 0 0)],(some (.sl .str)),false⟩
abbrev QJo:TI:=ty1
abbrev QJp:TI:=ty1
abbrev QJq:TI:=⟨(.struct [(9,0),(9,1)]),2,32,[.imm (.string ByteArray.empty),.imm (.string ByteArray.empty)],(some (.pair .str .str)),false⟩
abbrev QJr:TI:=⟨(.struct [(9,0),(9,1)]),2,32,[.imm (.string ByteArray.empty),.imm (.string ByteArray.empty)],(some (.pair .str .str)),true⟩
abbrev QJs:TI:=ty1
abbrev QJt:TI:=ty1
abbrev QJu:TI:=ty1
abbrev QJv:TI:=ty1
abbrev QJw:TI:=ty1
abbrev QJx:TI:=⟨(.map 114 4),1,8,[.imm (.map none)],none,false⟩
abbrev QJy:TI:=ty1
abbrev QJz:TI:=ty1
abbrev QJA:TI:=⟨(.ptr 46),1,8,[.imm (.pointer none)],none,false⟩
abbrev QJB:TI:=ty1
abbrev QJC:TI:=ty1
abbrev QJD:TI:=ty1
abbrev QJE:TI:=ty1
abbrev QJF:TI:=ty1
abbrev QJG:TI:=ty1
abbrev QJH:TI:=ty1
abbrev QJI:TI:=ty1
abbrev QJJ:TI:=⟨(.struct [(37,0),(47,8),(79,9),(46,10),(3,27)]),28,384,[.imm (.string ByteArray.empty),.imm (.string ByteArray.empty),.imm (.slice none 0 0),.imm (.slice none 0 0),.imm (.slice none 0 0),.imm (.slice none 0 0),.imm (.slice none 0 0),.imm (.slice none 0 0),.imm (.slice none 0 0),.imm (.slice none 0 0),zY,.run .i64 9 (List.replicate 9 0),zY,zY,.imm (.bool false),.imm (.slice none 0 0),zY,zY,zY,zY],(some QME),false⟩
abbrev QJK:TI:=⟨(.map 167 4),1,8,[.imm (.map none)],none,false⟩
abbrev QJL:TI:=⟨(.struct [(3,0),(9,1),(3,2),(31,3)]),4,56,[zY,.imm (.string ByteArray.empty),zY,.imm (.slice none 0 0)],(some QLg),false⟩
abbrev QJM:TI:=⟨(.struct [(9,0),(3,1)]),2,24,[.imm (.string ByteArray.empty),zY],(some (.pair .str (.int .i64))),true⟩
abbrev QJN:TI:=⟨(.slice 193),1,24,[.imm (.slice none 0 0)],(some QLc),false⟩
abbrev QJO:TI:=⟨(.struct [(3,0),(3,1),(3,2),(170,3)]),4,48,[zY,zY,zY,.imm (.slice none 0 0)],(some QLf),false⟩
abbrev QJP:TI:=ty1
abbrev QJQ:TI:=ty1
abbrev QJR:TI:=ty1
abbrev QJS:TI:=ty1
abbrev QJT:TI:=ty1
abbrev QJU:TI:=ty1
abbrev QJV:TI:=⟨(.struct [(3,0),(3,1),(3,2),(3,3)]),4,32,[zY,zY,zY,zY],(some e9Y),true⟩
abbrev QJW:TI:=ty1
abbrev QJX:TI:=⟨(.ptr 203),1,8,[.imm (.pointer none)],none,false⟩
abbrev QJY:TI:=⟨(.struct [(52,0),(4,1)]),2,32,[.imm (.slice none 0 0),.imm (.bool false)],(some e0Y),false⟩
abbrev QJZ:TI:=⟨(.ptr 31),1,8,[.imm (.pointer none)],none,false⟩
abbrev QJ0:TI:=⟨(.slice 210),1,24,[.imm (.slice none 0 0)],none,false⟩
abbrev QJ1:TI:=QJf
abbrev QJ2:TI:=⟨(.slice 31),1,24,[.imm (.slice none 0 0)],(some QMC),false⟩
abbrev QJ3:TI:=QJf
abbrev QJ4:TI:=ty1
abbrev QJ5:TI:=ty1
abbrev QJ6:TI:=ty1
abbrev QJ7:TI:=ty1
abbrev QJ8:TI:=ty1
abbrev QJ9:TI:=ty1
abbrev QKa:TI:=⟨(.array 8 3),8,64,[.run .i64 8 (List.replicate 8 0)],(some (.ints .i64 8)),true⟩
abbrev QKb:TI:=⟨(.array 10 3),10,80,[.run .i64 10 (List.replicate 10 0)],(some (.ints .i64 10)),true⟩
abbrev QKc:TI:=⟨(.map 4 3),1,8,[.imm (.map none)],none,false⟩
abbrev QKd:TI:=⟨(.array 6 3),6,48,[.run .i64 6 (List.replicate 6 0)],(some (.ints .i64 6)),true⟩
abbrev QKe:TI:=ty1
abbrev QKf:TI:=ty1
abbrev QKg:TI:=ty1
abbrev QKh:TI:=⟨(.int .u32),1,4,[.imm (.int .u32 0)],(some (.int .u32)),false⟩
abbrev QKi:TI:=⟨(.struct [(17,0),(17,1),(17,2),(9,3)]),4,40,[.imm (.pointer none),.imm (.pointer none),.imm (.pointer none),.imm (.string ByteArray.empty)],none,false⟩
abbrev QKj:TI:=⟨(.array 0 16),0,0,[],none,false⟩
abbrev QKk:TI:=⟨(.struct [(271,0)]),0,0,[],none,false⟩
abbrev QKl:TI:=ty5
abbrev QKm:TI:=ty5
abbrev QKn:TI:=ty1
abbrev QKo:TI:=⟨(.ptr 5),1,8,[.imm (.pointer none)],none,false⟩
abbrev QKp:TI:=QJg
abbrev QKq:TI:=QJg
abbrev QKr:TI:=⟨(.struct [(12,0),(12,1),(265,2),(274,3),(5,4),(5,5),(275,6),(276,7),(277,8),(278,9),(279,10)]),11,48,[.imm (.int .u64 0),.imm (.int .u64 0),.imm (.int .u32 0),.imm (.int .u8 0),.imm (.int .u8 0),.imm (.int .u8 0),.imm (.int .u8 0),.imm .nilFunc,.imm (.pointer none),.imm (.int .i32 0),.imm (.int .i32 0)],none,false⟩
abbrev lY(k:Nat)(t:TI):TTree:=.node k t .leaf .leaf
def tree:TTree:=(.node 89 QND (.node 41 QM3 (.node 21 QJg (.node 11 QMG (.node 6 ty6 (.node 3 ty3 (.node 2 ty2 (lY 1 ty1) .leaf) (.node 5 ty5 (lY 4 ty4) .leaf)) (.node 9 ty9 (.node 8 ty8 (lY 7 ty7) .leaf) (lY 10 QMF))) (.node 16 QMJ (.node 14 QMH (.node 13 QLl (lY 12 QJf) .leaf) (lY 15 QMI)) (.node 19 QML (.node 18 QLm (lY 17 QMK) .leaf) (lY 20 QMM)))) (.node 31 QMW (.node 26 QMR (.node 24 QMP (.node 23 QMO (lY 22 QMN) .leaf) (lY 25 QMQ)) (.node 29 QMU (.node 28 QMT (lY 27 QMS) .leaf) (lY 30 QMV))) (.node 36 QLo (.node 34 QMY (.node 33 QMX (lY 32 QLn) .leaf) (lY 35 QMZ)) (.node 39 QM1 (.node 38 QLp (lY 37 QM0) .leaf) (lY 40 QM2))))) (.node 63 QNl (.node 52 QNd (.node 47 QM8 (.node 44 QM6 (.node 43 QM5 (lY 42 QM4) .leaf) (.node 46 QM7 (lY 45 QLq) .leaf)) (.node 50 QNb (.node 49 QNa (lY 48 QM9) .leaf) (lY 51 QNc))) (.node 57 QNg (.node 55 QNf (.node 54 QNe (lY 53 QLr) .leaf) (lY 56 QLs)) (.node 61 QNj (.node 60 QNi (lY 59 QNh) .leaf) (lY 62 QNk)))) (.node 77 QNu (.node 69 QNq (.node 67 QNo (.node 65 QNn (lY 64 QNm) .leaf) (lY 68 QNp)) (.node 73 QNs (.node 72 QNr (lY 70 QLt) .leaf) (lY 76 QNt))) (.node 83 QNz (.node 80 QNx (.node 79 QNw (lY 78 QNv) .leaf) (lY 82 QNy)) (.node 86 QNB (.node 85 QNA (lY 84 QLu) .leaf) (lY 88 QNC)))))) (.node 172 QJO (.node 117 QJu (.node 103 QJk (.node 98 QNJ (.node 93 QNG (.node 92 QNF (lY 90 QNE) .leaf) (.node 97 QNI (lY 94 QNH) .leaf)) (.node 101 QJi (.node 100 QJh (lY 99 QNK) .leaf) (lY 102 QJj))) (.node 112 QJp (.node 109 QJn (.node 108 QJm (lY 105 QJl) .leaf) (lY 111 QJo)) (.node 115 QJs (.node 114 QJr (lY 113 QJq) .leaf) (lY 116 QJt)))) (.node 139 QJE (.node 124 QJz (.node 121 QJx (.node 120 QJw (lY 119 QJv) .leaf) (lY 122 QJy)) (.node 128 QJC (.node 127 QJB (lY 126 QJA) .leaf) (lY 130 QJD))) (.node 148 QJJ (.node 144 QJH (.node 143 QJG (lY 142 QJF) .leaf) (lY 146 QJI)) (.node 167 QJM (.node 165 QJL (lY 163 QJK) .leaf) (lY 170 QJN))))) (.node 244 QJ8 (.node 203 QJY (.node 188 QJT (.node 177 QJR (.node 176 QJQ (lY 175 QJP) .leaf) (lY 184 QJS)) (.node 200 QJW (.node 193 QJV (lY 191 QJU) .leaf) (lY 201 QJX))) (.node 224 QJ3 (.node 212 QJ1 (.node 211 QJ0 (lY 210 QJZ) .leaf) (lY 217 QJ2)) (.node 240 QJ6 (.node 239 QJ5 (lY 225 QJ4) .leaf) (lY 241 QJ7)))) (.node 270 QKi (.node 256 QKd (.node 250 QKb (.node 249 QKa (lY 246 QJ9) .leaf) (lY 255 QKc)) (.node 259 QKg (.node 258 QKf (lY 257 QKe) .leaf) (lY 265 QKh))) (.node 276 QKn (.node 274 QKl (.node 273 QKk (lY 271 QKj) .leaf) (lY 275 QKm)) (.node 279 QKq (.node 278 QKp (lY 277 QKo) .leaf) (lY 281 QKr)))))))
theorem Qc:Qe1 Tryz.prog tree=true:=by kernel_rfl
abbrev G0(f:Nat)(s:CSpec):Prop:=QR Tryz.prog f s
abbrev S0(T:Tab):Prop:=Q7 Tryz.prog T
end Go.Fw

namespace Go.Proofs.YtofgbclopbmlcaaGreat
open Go.IntKind (i64)
open Go.Fw
set_option linter.unusedVariables false
set_option linter.unusedSimpArgs false
set_option maxRecDepth 100000
abbrev gi:Sig:=⟨false,.int .i64⟩
abbrev I(n:Int):AV:=.cell (iv .i64 n)
abbrev I1(n:Int):V1:=.c (iv .i64 n)
def QaH(a:Int):Int:=imax 0 (imin a 62)
def QAH:PSpec:=⟨[gi],fun(a,_)=>(none,I (QaH a),[])⟩
theorem QcL:G0 171 QAH.spec:=by
 refine QAH.good (fn:=Tryz.f171) (QAE (fs:=[]) Qc) Qb Tryz.func171 (by kernel_rfl) rfl fun(a:Int) _=>?_
 repeat' first|(apply Ea;conv=>whnf)|apply Eb|apply Ed|apply Ee|(apply Ei;intro _)
 exact .k [] [] _ R R
def Qm2(a b:Int):Int:=land .i64 a (i64.wrap (shl .i64 1 (QaH b)-1))
def QLv:PSpec:=⟨[gi,gi],fun(a,b,_)=>(none,I (Qm2 a b),[])⟩
theorem QAI:G0 94 QLv.spec:=by
 have e:S0 _:=Qa QcL (Qb (T:=tree));have f:=tabs e Qc;refine QLv.gd f e Tryz.func94 fun(a b:Int) _=>?_
 repeat' first|(apply Ea;conv=>whnf)|apply Eb|apply Ed|apply Ee|(apply Ei;intro _)
 ·show 0≤QaH b;simp only[QaH,Q8];omega
 ·exact .k [] [] _ R R
def Qda(a b:Int):Int×Int:=(QaH a,imax 0 (imin b (i64.wrap (62-QaH a))))
def QAJ:PSpec:=⟨[gi,gi],fun(a,b,_)=>(none,.tup [I1 (Qda a b).1,I1 (Qda a b).2],[])⟩
theorem Qeq{a b c d:Int}(h1:a=c)(h2:b=d):AV.tup [I1 a,I1 b]=AV.tup [I1 c,I1 d]:=by rw[h1,h2]
theorem QoW:G0 260 QAJ.spec:=by
 have e:S0 _:=Qa QcL (Qb (T:=tree));have f:=tabs e Qc;refine QAJ.gd f e Tryz.func260 fun(a b:Int) _=>?_
 repeat' first|(apply Ea;conv=>whnf)|apply Eb|apply Ed|apply Ee|(apply Ei;intro _)
 exact .k [] [] _ R R
def QKs(n a s:Int):Int:=Qm2 (shr .i64 (Qm2 n 62) (Qda a s).1) (Qda a s).2
theorem Qfw(a s:Int):0≤(Qda a s).1∧0≤(Qda a s).2:=by
 simp only[Qda,QaH,Q8];constructor<;>omega
def QKt(n a s v:Int):Int :=
 lor .i64 (Q6 .i64 (Qm2 n 62) (shl .i64 (i64.wrap (shl .i64 1 (Qda a s).2-1)) (Qda a s).1)) (shl .i64 (Qm2 v (Qda a s).2) (Qda a s).1)
theorem mixed:Tryz.prog.follows .mixedOrders=true:=by kernel_rfl
abbrev gl:Sig:=⟨false,.sl (.int .i64)⟩
theorem Ef{T:Tab}(f:TabOk Tryz.prog T)(e:Q7 Tryz.prog T){m id:Nat}{st:St}{ops:Array Oper}{K:St→Prop}(h:Go (QIx T ops st K)):DrawG Tryz.prog m id ops st K:=QCB f e mixed h
theorem w64{x:Int}(h1:-9223372036854775808≤x)(h2:x≤9223372036854775807):i64.wrap x=x:=by
 rw[IntKind.wrap_i64];omega
def u64(x:Int):Nat:=(x%18446744073709551616).toNat
theorem Qaf{n:Nat}(h:n<2 ^ 64):u64 (n:Int)=n:=by unfold u64;omega
theorem QQ(x:Int):(BitVec.ofInt 64 x).toNat=u64 x:=by
 rw[BitVec.toNat_ofInt];rfl
theorem Qfx(x y:Int)(h:u64 x &&& u64 y<2 ^ 63):land .i64 x y=((u64 x &&& u64 y:Nat):Int):=by
 show i64.wrap (((BitVec.ofInt 64 x &&& BitVec.ofInt 64 y).toNat:Nat):Int)=_;rw[BitVec.toNat_and,QQ,QQ];exact w64 (by omega) (by omega)
theorem Qgn(x y:Int)(h:u64 x ||| u64 y<2 ^ 63):lor .i64 x y=((u64 x ||| u64 y:Nat):Int):=by
 show i64.wrap (((BitVec.ofInt 64 x ||| BitVec.ofInt 64 y).toNat:Nat):Int)=_;rw[BitVec.toNat_or,QQ,QQ];exact w64 (by omega) (by omega)
theorem Qdz(x y:Int)(h:u64 x<2 ^ 63):Q6 .i64 x y=((u64 x ^^^ (u64 x &&& u64 y):Nat):Int):=by
 have e:(BitVec.ofInt 64 x &&& ~~~(BitVec.ofInt 64 y))=BitVec.ofInt 64 x ^^^ (BitVec.ofInt 64 x &&& BitVec.ofInt 64 y):=by
  apply BitVec.eq_of_getLsbD_eq;intro i hi;simp only[BitVec.getLsbD_and,BitVec.getLsbD_not,BitVec.getLsbD_xor,hi,decide_true,Bool.true_and];cases(BitVec.ofInt 64 x).getLsbD i<;>cases(BitVec.ofInt 64 y).getLsbD i<;>rfl
 show i64.wrap (((BitVec.ofInt 64 x &&& ~~~(BitVec.ofInt 64 y)).toNat:Nat):Int)=_;rw[e,BitVec.toNat_xor,BitVec.toNat_and,QQ,QQ];have h2:u64 x ^^^ (u64 x &&& u64 y)<2 ^ 63:=Nat.xor_lt_two_pow h (Nat.lt_of_le_of_lt Nat.and_le_left h);exact w64 (by omega) (by omega)
theorem QlM{a b:Nat}(h:a≤b):2 ^ a≤2 ^ b:=Nat.pow_le_pow_right (by omega) h
theorem Qtn{b:Nat}(h:b≤62):i64.wrap (shl .i64 1 b-1)=((2 ^ b-1:Nat):Int):=by
 have h1:2 ^ b≤2 ^ 62:=QlM h;have h2:0<2 ^ b:=Nat.pow_pos (by omega)
 have e:shl .i64 1 (b:Int)=((2 ^ b:Nat):Int):=by
  show i64.wrap (1*2 ^ (min ((b:Int).toNat) 64))=_;have:min ((b:Int).toNat) 64=b:=by omega
  rw[this,Int.one_mul];have e2:(2:Int) ^ b=((2 ^ b:Nat):Int):=by simp
  rw[e2];exact w64 (by omega) (by omega)
 rw[e,w64 (by omega) (by omega)];omega
theorem Qto{x b:Nat}(h:x*2 ^ b<2 ^ 63)(hb:b≤62):shl .i64 (x:Int) (b:Int)=((x*2 ^ b:Nat):Int):=by
 show i64.wrap ((x:Int)*2 ^ (min ((b:Int).toNat) 64))=_;have:min ((b:Int).toNat) 64=b:=by omega
 rw[this];have e2:(x:Int)*2 ^ b=((x*2 ^ b:Nat):Int):=by simp
 rw[e2];exact w64 (by omega) (by omega)
theorem QAK{x b:Nat}(hb:b≤64):shr .i64 (x:Int) (b:Int)=((x/2 ^ b:Nat):Int):=by
 show(x:Int).fdiv (2 ^ (min ((b:Int).toNat) 64))=_;have:min ((b:Int).toNat) 64=b:=by omega
 rw[this];have e2:(2:Int) ^ b=((2 ^ b:Nat):Int):=by simp
 rw[e2,Int.fdiv_eq_ediv_of_nonneg _ (Int.natCast_nonneg _)];simp
theorem Qd5(x y i:Nat):(x ^^^ (x &&& y)).testBit i=(x.testBit i&&!y.testBit i):=by
 rw[Nat.testBit_xor,Nat.testBit_and];cases x.testBit i<;>cases y.testBit i<;>rfl
theorem Qtp(b:Int):0≤QaH b∧QaH b≤62:=by
 simp only[QaH,Q8,QS];omega
theorem Qfy{b:Int}(a:0≤b)(h2:b≤62):QaH b=b:=by
 simp only[QaH,Q8,QS];omega
theorem Qgo(x b:Int):Qm2 x b=((u64 x%2 ^ (QaH b).toNat:Nat):Int):=by
 obtain⟨a,h2⟩:=Qtp b;unfold Qm2;generalize QaH b=w at a h2;obtain⟨k,rfl⟩:=Yz a;have hk:k≤62:=by omega
 have h3:2 ^ k≤2 ^ 62:=QlM hk;have h4:0<2 ^ k:=Nat.pow_pos (by omega);rw[Qtn hk];have e:u64 ((2 ^ k-1:Nat):Int)=2 ^ k-1:=Qaf (by omega);have e2:u64 x &&& (2 ^ k-1)=u64 x%2 ^ k:=Nat.and_two_pow_sub_one_eq_mod _ _;have h5:u64 x%2 ^ k<2 ^ k:=Nat.mod_lt _ h4;rw[Qfx _ _ (by rw[e,e2];omega),e,e2];simp
end Go.Proofs.YtofgbclopbmlcaaGreat

namespace Go.Fw
open Go.IntKind (i64)
set_option linter.unusedVariables false
set_option linter.unusedSimpArgs false
structure WSpec where
 X:Type
 args:X→List V1
 bl:X→List Blk
 rd:List V1→List Blk→Option X
 out:X→Option Prop×AV×List (Option Blk)×List Blk
def WSpec.spec(s:WSpec):CSpec:={ wr:=true,run:=fun args bl=>match s.rd args bl with
 |some x=>some (s.out x)
 |none=>none }
theorem WSpec.good{P:Program}{T:Tab}{f:FuncId}{fn:Func}(hT:TabOk P T)(hP:Q7 P T)(hf:P.funcs[f]?=some fn)(hn:(fn.name == "runtime.NumGoroutine")=false)(s:WSpec)(hb:fn.body.isSome=true)
 (hrd:∀a b x,s.rd a b=some x→a=s.args x∧b=s.bl x)
 (h:∀x,(∀q,(s.out x).1=some q→q)→Go (QhS P T fn (s.args x) (s.bl x) (s.out x).2.1 (s.out x).2.2.1 (s.out x).2.2.2)):QR P f s.spec:=by
 refine⟨?_,fn,hf,hn,hb⟩;obtain⟨c,hc⟩:=Option.isSome_iff_exists.1 hb;refine Qj7 hT hf hc _ fun args bl p r upd fresh hrun hp=>?_
 unfold WSpec.spec at hrun;simp only at hrun;split at hrun
 ·rename_i x hx;obtain⟨rfl,rfl⟩:=hrd _ _ _ hx;injection hrun with hrun
  have h1:=(h x (by rw[hrun];exact hp)).out;rw[hrun,QhT] at h1;refine⟨_,fun E vs _ _ hv=>hv,?_⟩;unfold Qjm at h1;rw[hc] at h1;simp only[Qhu,Qfn,Qbi] at h1;exact Qg4 hT hP c h1
 ·cases hrun
theorem WSpec.gd{P:Program}{T:Tab}{f:FuncId}{fn:Func}(hT:TabOk P T)(hP:Q7 P T)(hf:P.funcs[f]?=some fn)(s:WSpec)(hrd:∀a b x,s.rd a b=some x→a=s.args x∧b=s.bl x)
 (h:∀x,(∀q,(s.out x).1=some q→q)→Go (QhS P T fn (s.args x) (s.bl x) (s.out x).2.1 (s.out x).2.2.1 (s.out x).2.2.2)) (hn:(fn.name == "runtime.NumGoroutine")=false:=by kernel_rfl) (hb:fn.body.isSome=true:=by rfl):QR P f s.spec:=s.good hT hP hf hn hb hrd h
end Go.Fw

namespace Go.Proofs.YtofgbclopbmlcaaGreat
open Go.IntKind (i64)
open Go.Fw
set_option linter.unusedVariables false
set_option linter.unusedSimpArgs false
set_option maxRecDepth 100000
abbrev gD:Sig:=⟨true,.pair (.sl (.int .i64)) (.sl (.int .u8))⟩
abbrev gC:Sig:=⟨true,.pair .str (.pair (.int .i64) (.pair (.int .i64) (.pair (.int .i64) (.sl (.int .u8)))))⟩
abbrev gb:Sig:=⟨false,.sl (.int .u8)⟩
abbrev Dv:=List Int×List Int
abbrev Cv:=ByteArray×Int×Int×Int×List Int
theorem Qki(n b:Int)(h1:0≤b)(r:b≤62):Qm2 n b=n%2 ^ b.toNat:=by
 rw[Qgo,Qfy h1 r];obtain⟨k,rfl⟩:=Yz h1;have j:k≤62:=by omega
 have e:(18446744073709551616:Int)=((2 ^ k:Nat):Int)*((2 ^ (64-k):Nat):Int):=by
  have:(18446744073709551616:Nat)=2 ^ k*2 ^ (64-k):=by
   rw[←Nat.pow_add];have:k+(64-k)=64:=by omega
   rw[this]
  rw[←Int.natCast_mul,←this];rfl
 have e2:(2:Int) ^ k=((2 ^ k:Nat):Int):=by simp
 show((u64 n%2 ^ k:Nat):Int)=n%2 ^ k;rw[e2,Int.natCast_emod];have:((u64 n:Nat):Int)=n%18446744073709551616:=by unfold u64;omega
 rw[this];exact Int.emod_emod_of_dvd n ⟨_,e⟩
def QLw:PSpec:=⟨[gi,gi],fun(n,b,_)=>(some (0≤b∧b≤62),I (n%2 ^ b.toNat),[])⟩
theorem QU:G0 94 QLw.spec:=by
 have c:S0 _:=Qa QcL (Qb (T:=tree));have p:=tabs c Qc;refine QLw.gd p c Tryz.func94 fun(a b:Int) f=>?_
 have f:0≤b∧b≤62:=f _ rfl
 repeat' first|(apply Ea;conv=>whnf)|apply Eb|apply Ec|apply Ed|apply Ee|(apply Ei;intro _)|apply Ef p c
 ·show 0≤QaH b;simp only[QaH,Q8];omega
 ·refine .k [] [] _ rfl (Qd ?_);exact Qki a b f.1 f.2
def QLx:PSpec:=⟨[gi,gi],fun(n,m,_)=>(some (0<m∧m≤4611686018427387904),I (n%m),[])⟩
theorem QCC(n:Int){m:Int}(h:0<m):-m<n.tmod m∧n.tmod m<m:=by
 constructor
 ·have:=Int.lt_tmod_of_pos n h;omega
 ·exact Int.tmod_lt_of_pos n h
theorem QoX(n:Int){m:Int}(h:0<m)(r:m≤4611686018427387904):(i64.wrap (n.tmod m+m)).tmod m=n%m:=by
 obtain⟨h3,h4⟩:=QCC n h;rw[w64 (by omega) (by omega),Yi (by omega),Int.add_emod_right];by_cases hn:0≤n
 ·rw[Yi hn,Ys]
 ·have e:=Int.mul_tdiv_add_tmod n m;rw[←Int.add_mul_emod_self_left (n.tmod m) m (n.tdiv m),Int.add_comm,e]
theorem QbC:G0 39 QLx.spec:=by
 have c:S0 _:=(Qb (T:=tree))
 have p:=tabs c Qc;refine QLx.gd p c Tryz.func39 fun(n m:Int) f=>?_
 have f:0<m∧m≤4611686018427387904:=f _ rfl
 repeat' first|(apply Ea;conv=>whnf)|apply Eb|apply Ec|apply Ed|apply Ee|(apply Ei;intro _)|apply Ef p c
 ·omega
 ·omega
 ·refine .k [] [] _ rfl (Qd ?_);exact QoX n f.1 f.2
def QeH(N:List Int):List Int→Nat→List Int
 | [],_=>[]
 |m::ms,i=>N.getD i 0%m::QeH N ms (i+1)
theorem Qcr(N:List Int):∀(ms:List Int) (i:Nat),(QeH N ms i).length=ms.length
 | [],_=>rfl
 |m::ms,i=>by simp[QeH,Qcr N ms]
theorem Qgp(N:List Int):∀(ms:List Int) (i k:Nat),k<ms.length→QeH N (ms.take (k+1)) i=QeH N (ms.take k) i++[N.getD (i+k) 0%ms.getD k 0]
 |m::ms,i,0,_=>by simp[QeH]
 |m::ms,i,k+1,h=>by
  have:=Qgp N ms (i+1) k (by simpa using h);simp only[List.take_succ_cons,QeH,this,List.cons_append];have e:i+1+k=i+(k+1):=by omega
  rw[e];simp
def QgX(N ms:List Int)(k:Nat):List Int:=QeH N (ms.take k) 0++List.replicate (ms.length-k) 0
theorem QlN(N ms:List Int){k:Nat}(h:k≤ms.length):(QgX N ms k).length=ms.length:=by
 simp[QgX,Qcr];omega
theorem QlO(N ms:List Int){k:Nat}(h:k<ms.length):(QgX N ms k).set k (N.getD k 0%ms.getD k 0)=QgX N ms (k+1):=by
 unfold QgX;have s:(QeH N (ms.take k) 0).length=k:=by rw[Qcr,Yq];omega
 have e:ms.length-k=(ms.length-(k+1))+1:=by omega
 rw[e,List.replicate_succ,Jq,Yb (by omega),s,Jk,Ji,Qgp N ms 0 k h];simp
theorem Qq9(N ms:List Int){k:Nat}(h:k<ms.length)(r:N.length≤k):QgX N ms k=QgX N ms (k+1):=by
 rw[←QlO N ms h];have:N.getD k 0=0:=by simp[r]
 rw[this,Int.zero_emod];have s:(QeH N (ms.take k) 0).length=k:=by rw[Qcr,Yq];omega
 unfold QgX;have e:ms.length-k=(ms.length-(k+1))+1:=by omega
 rw[e,List.replicate_succ,Jq,Yb (by omega),s,Jk,Ji]
def QFx:PSpec:=⟨[gD,gl],fun(d,ms,_)=>(some (List.length ms≤1000∧(∀m∈ms,0<m∧m≤4611686018427387904)),.cell (.own 0),[.arr (.int .i64) (QeH d.1 ms 0)])⟩
theorem QcT:G0 108 QFx.spec:=by
 have c:S0 _:=Qa QbC (Qb (T:=tree));have p:=tabs c Qc;refine QFx.gd p c Tryz.func108 fun(d:Dv) (ms:List Int) f=>?_
 obtain⟨N,M⟩:=d;obtain⟨f,hm⟩:ms.length≤1000∧(∀m∈ms,0<m∧m≤4611686018427387904):=f _ rfl
 repeat' first|(apply Ea;conv=>whnf)|apply Eb|apply Ec|apply Ed|apply Ee|(apply Ei;intro _)|apply Ef p c
 ·have:ty3.bytes=8:=rfl;rw[this];omega
 refine Q4 p c (X:=Int×List Int) (fun(i,n)=>St.mk (E2 ((.cell (.ptr 0 0))::E2 ((.cell (.own 1))::E5 ((.cell (.ro (.int .i64) ms))::(I ms.length)::(I i)::E20 (E1 []))))) [some (.var [.ro (.int .i64) N,.ro (.int .u8) M]),some (.arr (.int .i64) n)])
  (fun(i,n)=>∃k:Nat,i=k∧k≤ms.length∧n=QgX N ms k) (fun(i,_)=>(ms.length-i).toNat) (0,List.replicate ms.length 0) (Le.k [] [0,1] ?_) ?_ fun(i,n) q=>?_
 rotate_right
 repeat' first|(apply Ea;conv=>whnf)|apply Eb|apply Ec|apply Ed|apply Ee|(apply Ei;intro _)|apply Ef p c
 ·obtain⟨k,rfl,j,rfl⟩:=q;omega
 ·obtain⟨k,rfl,j,rfl⟩:=q;omega
 ·obtain⟨k,rfl,j,rfl⟩:=q;have g:k<ms.length:=by omega
  refine hm _ ?_;show ms.getD k 0∈ms;simp[g]
 ·obtain⟨k,rfl,j,rfl⟩:=q;rw[QlN N ms j];omega
 ·obtain⟨k,rfl,j,rfl⟩:=q;rw[QlN N ms j];omega
 ·obtain⟨k,rfl,j,rfl⟩:=q;have g:k<ms.length:=by omega
  have e:i64.wrap ((k:Int)+1)=((k+1:Nat):Int):=by rw[w64 (by omega) (by omega)];omega
  apply Yw (_,_);refine Yo ?_ (Yo ?_ (Le.k [] [0,1] ?hh))
  case hh=>repeat' constructor
  ·exact⟨k+1,e,by omega,QlO N ms g⟩
  ·show(ms.length-i64.wrap ((k:Int)+1)).toNat<(ms.length-(k:Int)).toNat;rw[e];omega
 ·obtain⟨k,rfl,j,rfl⟩:=q;have g:k<ms.length:=by omega
  have e:i64.wrap ((k:Int)+1)=((k+1:Nat):Int):=by rw[w64 (by omega) (by omega)];omega
  apply Yw (_,_);refine Yo ?_ (Yo ?_ (Le.k [] [0,1] ?hh))
  case hh=>repeat' constructor
  ·exact⟨k+1,e,by omega,Qq9 N ms g (by omega)⟩
  ·show(ms.length-i64.wrap ((k:Int)+1)).toNat<(ms.length-(k:Int)).toNat;rw[e];omega
 ·obtain⟨k,rfl,j,rfl⟩:=q;refine .mk [] [1] _ R R R R R ?_ rfl;have e:k=ms.length:=by omega
  subst e;show[some (Blk.arr (.int .i64) (QgX N ms ms.length))]=[some (Blk.arr (.int .i64) (QeH N ms 0))]
  simp[QgX]
 ·repeat' constructor
 ·exact⟨0,rfl,by omega,by simp[QgX,QeH]⟩
abbrev Qff:AV:=.agg [.own 0,.imm (.slice none 0 0)]
def Qb0(l:List Int)(a:Int):Int:=if a<0 then 0 else if a≥l.length then 0 else l.getD a.toNat 0
def QCD:WSpec:=⟨List Int×Int,fun x=>[.c (.own 0),.c (.ptr 1 0)],fun x=>[.arr (.int .i64) x.1,.var [iv .i64 x.2]],fun a b=>(match a,b with| [.c (.own 0),.c (.ptr 1 0)],[.arr (.int .i64) l,.var [.imm (.int .i64 n)]]=>some (l,n)|_,_=>none),
 fun x=>(none,I (Qb0 x.1 x.2),[some (.arr (.int .i64) x.1),some (.var [iv .i64 x.2])],[])⟩
theorem Qgq:G0 142 QCD.spec:=by
 have e:S0 _:=(Qb (T:=tree))
 have hT:=tabs e Qc;refine QCD.gd hT e Tryz.func142 ?_ fun((l,a):List Int×Int) _=>?_
 ·intro a b x h;simp only[QCD] at h;split at h
  ·injection h with h;subst h;exact⟨rfl,rfl⟩
  ·cases h
 repeat' first|(apply Ea;conv=>whnf)|apply Eb|apply Ec|apply Ed|apply Ee|(apply Ei;intro _)|apply Ef hT e
 ·rename_i h;refine .k [] [0,1] _ rfl (Qd ?_);show 0=Qb0 l a;rw[Qb0,Yf h]
 ·rename_i h d;refine .k [] [0,1] _ rfl (Qd ?_);show 0=Qb0 l a;rw[Qb0,Yb h,Yf d]
 ·dsimp only at *;omega
 ·dsimp only at *;omega
 ·rename_i h d;refine .k [] [0,1] _ rfl (Qd ?_);show _=Qb0 l a;rw[Qb0,Yb h,Yb d];rfl
theorem QhU{l:List Int}{a:Int}(h:∀i:Nat,i<l.length→¬a=i):Qb0 l a=0:=by
 unfold Qb0;split
 ·rfl
 ·split
  ·rfl
  ·rename_i h1 d;exact YD (by omega:a=(a.toNat:Int)) (h a.toNat (by omega))
theorem Ql{l l':List Int}(h:l=l'):[some (Blk.arr (.int .i64) l)]=[some (Blk.arr (.int .i64) l')]:=by rw[h]
def Qr(f:List Int→List Int):Nat→List Int→List Int
 |0,l=>l
 |n+1,l=>Qr f n (f l)
theorem Qfz(f:List Int→List Int):∀(m n:Nat) (l:List Int),Qr f (m+n) l=Qr f n (Qr f m l)
 |0,n,l=>by rw[Jh];rfl
 |m+1,n,l=>by
  have e:m+1+n=(m+n)+1:=by omega
  rw[e];exact Qfz f m n (f l)
theorem QX(f:List Int→List Int)(n:Nat)(l:List Int):Qr f (n+1) l=f (Qr f n l):=by
 rw[Qfz f n 1];rfl
theorem QhV{f:List Int→List Int}{l:List Int}(h:f l=l):∀n,Qr f n l=l
 |0=>rfl
 |n+1=>by rw[Qr,h];exact QhV h n
abbrev s0(N:List Int):Int:=N.getD 0 0%256
abbrev s1(N:List Int):Int:=N.getD 1 0%64
abbrev s2(N:List Int):Int:=N.getD 2 0%256
abbrev s3(N:List Int):Int:=N.getD 3 0%2
abbrev s4(N:List Int):Int:=N.getD 4 0%2
abbrev s5(N:List Int):Int:=N.getD 5 0%4
abbrev s6(N:List Int):Int:=N.getD 6 0%1048576
abbrev s7(N:List Int):Int:=N.getD 7 0%256
def Qbe(N:List Int):List Int:=[s0 N,s1 N,s2 N,s3 N,s4 N,s5 N,s6 N,s7 N]
theorem QdA(N:List Int):Qbe N=[s0 N,s1 N,s2 N,s3 N,s4 N,s5 N,s6 N,s7 N]:=rfl
theorem sR(N:List Int):(0≤s0 N∧s0 N<256)∧(0≤s1 N∧s1 N<64)∧(0≤s2 N∧s2 N<256)∧(0≤s3 N∧s3 N<2)∧(0≤s4 N∧s4 N<2)∧(0≤s5 N∧s5 N<4)∧(0≤s6 N∧s6 N<1048576)∧(0≤s7 N∧s7 N<256):=by
 unfold s0 s1 s2 s3 s4 s5 s6 s7;omega
def Qah:List Int→List Int
 | [a,l,g,f,o,c,s,z]=>if l>0 then (if l-1=0 then [a,0,g,f,o,c,(s+1)%1048576,a] else [a,l-1,g,f,o,c,s,z]) else [a,l,g,f,o,c,s,z]
 |l=>l
theorem QfA{a l g f o c s z:Int}(w:0≤a∧a<256)(E:0≤l∧l<64)(u:0≤g∧g<256)(t:0≤f∧f<2)(r:0≤o∧o<2)(A:0≤c∧c<4)(D:0≤s∧s<1048576)(C:0≤z∧z<256) :
 Qbe [a,l,g,f,o,c,s,z]=[a,l,g,f,o,c,s,z]:=by
 show[a%256,l%64,g%256,f%2,o%2,c%4,s%1048576,z%256]=_;rw[YC w.1 w.2,YC E.1 E.2,YC u.1 u.2,YC t.1 t.2,YC r.1 r.2,YC A.1 A.2,YC D.1 D.2,YC C.1 C.2]
theorem QhW(N:List Int):Qbe (Qbe N)=Qbe N:=by
 obtain⟨w,E,u,t,r,A,D,C⟩:=sR N;exact QfA w E u t r A D C
theorem Qnn{a l g f o c s z:Int}(w:0≤a∧a<256)(E:0≤l∧l<64)(u:0≤g∧g<256)(t:0≤f∧f<2)(r:0≤o∧o<2)(A:0≤c∧c<4)(D:0≤s∧s<1048576)(C:0≤z∧z<256) :
 Qbe (Qah [a,l,g,f,o,c,s,z])=Qah [a,l,g,f,o,c,s,z]:=by
 by_cases e1:l>0
 ·by_cases e2:l-1=0
  ·have e:Qah [a,l,g,f,o,c,s,z]=[a,0,g,f,o,c,(s+1)%1048576,a]:=by rw[Qah,Yf e1,Yf e2]
   rw[e];exact QfA w (by omega) u t r A (by omega) w
  ·have e:Qah [a,l,g,f,o,c,s,z]=[a,l-1,g,f,o,c,s,z]:=by rw[Qah,Yf e1,Yb e2]
   rw[e];exact QfA w (by omega) u t r A D C
 ·have e:Qah [a,l,g,f,o,c,s,z]=[a,l,g,f,o,c,s,z]:=by rw[Qah,Yb e1]
  rw[e];exact QfA w E u t r A D C
theorem Qra{l:List Int}(h:Qbe l=l):Qbe (Qah l)=Qah l:=by
 obtain⟨w,E,u,t,r,A,D,C⟩:=sR l;have:=Qnn w E u t r A D C;rw[←QdA,h] at this;exact this
theorem Qer(N:List Int):∀n,Qbe (Qr Qah n (Qbe N))=Qr Qah n (Qbe N)
 |0=>QhW N
 |n+1=>by rw[QX];exact Qra (Qer N n)
theorem QoY{a g f o c s z:Int}(n:Nat):Qr Qah n [a,0,g,f,o,c,s,z]=[a,0,g,f,o,c,s,z]:=QhV rfl n
theorem Qno{a g f o c s z:Int}:∀(n:Nat) (l:Int),(n:Int)<l→Qr Qah n [a,l,g,f,o,c,s,z]=[a,l-n,g,f,o,c,s,z]
 |0,l,_=>by rw[Qr];simp
 |n+1,l,h=>by
  rw[Qr,Qah,Yf (by omega),Yb (by omega),Qno n (l-1) (by omega)];have:l-1-(n:Int)=l-((n+1:Nat):Int):=by omega
  rw[this]
theorem QCE{a l g f o c s z:Int}(hl:0<l)(n:Nat)(h:l≤n):Qr Qah n [a,l,g,f,o,c,s,z]=[a,0,g,f,o,c,(s+1)%1048576,a]:=by
 have e:n=(l-1).toNat+((n-l.toNat)+1):=by omega
 rw[e,Qfz,Qno _ _ (by omega)];have e1:l-(((l-1).toNat:Nat):Int)=1:=by omega
 rw[e1,Qr,Qah,Yf (by omega),Yf (by omega)];exact QoY _
def QoZ:PSpec:=⟨[gC,gD],fun(c,d,_)=>(some (c.2.1=5),Qff,[.arr (.int .i64) (Qbe d.1)])⟩
theorem QbL:G0 58 QoZ.spec:=by
 have j:S0 _:=Qa QcT (Qb (T:=tree));have p:=tabs j Qc;refine QoZ.gd p j Tryz.func58 fun(c:Cv) (d:Dv) F=>?_
 obtain⟨cn,H,cb,cs,cd⟩:=c;obtain rfl:H=5:=F _ rfl;obtain⟨N,M⟩:=d
 repeat' first|(apply Ea;conv=>whnf)|apply Eb|apply Ec|apply Ed|apply Ee|(apply Ei;intro _)|apply Ef p j|apply Eg p j
 ·exact(by decide:([256,64,256,2,2,4,1048576,256]:List Int).length≤1000∧∀m∈([256,64,256,2,2,4,1048576,256]:List Int),0<m∧m≤4611686018427387904)
 ·exact .k [] [5] _ R R
def QFy:PSpec:=⟨[gD],fun(d,_)=>(none,.cell (.own 0),[.arr (.int .i64) (Qbe d.1)])⟩
theorem Qe2:G0 203 QFy.spec:=by
 have j:S0 _:=Qa QU (Qb (T:=tree));have p:=tabs j Qc;refine QFy.gd p j Tryz.func203 fun(d:Dv) _=>?_
 obtain⟨N,M⟩:=d
 repeat' first|(apply Ea;conv=>whnf)|apply Eb|apply Ec|apply Ed|apply Ee|(apply Ei;intro _)|apply Ef p j|apply Eg p j
 ·exact Ya rfl
 refine QP 9 ?_
 repeat' first|(apply Ea;conv=>whnf)|apply Eb|apply Ec|apply Ed|apply Ee|(apply Ei;intro _)|apply Ef p j|apply Eg p j
 all_goals first
  |exact Ya rfl
  |exact .k [] [1] _ R R
def QFz:PSpec:=⟨[],fun _=>(none,Qff,[.arr (.int .i64) [0,0,0,0,0,0,0,0]])⟩
theorem QCF:G0 112 QFz.spec:=by
 have j:S0 _:=(Qb (T:=tree))
 have p:=tabs j Qc;refine QFz.gd p j Tryz.func112 fun _=>?_
 repeat' first|(apply Ea;conv=>whnf)|apply Eb|apply Ec|apply Ed|apply Ee|(apply Ei;intro _)|apply Ef p j|apply Eg p j
 all_goals first
  |exact Ya rfl
  |exact .k [] [1] _ R R
def Qo0:PSpec:=⟨[gC,gD],fun(c,d,_)=>(some (c.2.1=5),Qff,[.arr (.int .i64) (Qah (Qbe d.1))])⟩
theorem Qrb:G0 79 Qo0.spec:=by
 have j:S0 _:=Qa QbL (Qb (T:=tree));have p:=tabs j Qc;refine Qo0.gd p j Tryz.func79 fun(c:Cv) (d:Dv) F=>?_
 obtain⟨cn,H,cb,cs,cd⟩:=c;obtain rfl:H=5:=F _ rfl;obtain⟨N,M⟩:=d;obtain⟨w,E,u,t,r,A,D,C⟩:=sR N
 repeat' first|(apply Ea;conv=>whnf)|apply Eb|apply Ec|apply Ed|apply Ee|(apply Ei;intro _)|apply Ef p j|apply Eg p j
 all_goals first
  |exact rfl
  |exact Ya rfl
  |skip
 ·rename_i B q;have B:s1 N>0:=B;have q:i64.wrap (s1 N-1)=0:=q;rw[w64 (by omega) (by omega)] at q;refine .mk [] [3] _ R R R R R (Ql (l:=[s0 N,i64.wrap (s1 N-1),s2 N,s3 N,s4 N,s5 N,Int.tmod (i64.wrap (s6 N+1)) 1048576,s0 N]) ?_) rfl;show _=Qah (Qbe N);rw[QdA,Qah,Yf B,Yf q,w64 (x:=s1 N-1) (by omega) (by omega),q,w64 (x:=s6 N+1) (by omega) (by omega),Yi (by omega)]
 ·rename_i B q;have B:s1 N>0:=B;have q:¬i64.wrap (s1 N-1)=0:=q;rw[w64 (by omega) (by omega)] at q;refine .mk [] [3] _ R R R R R (Ql (l:=[s0 N,i64.wrap (s1 N-1),s2 N,s3 N,s4 N,s5 N,s6 N,s7 N]) ?_) rfl;show _=Qah (Qbe N);rw[QdA,Qah,Yf B,Yb q,w64 (x:=s1 N-1) (by omega) (by omega)]
 ·rename_i B;have B:¬s1 N>0:=B;refine .mk [] [3] _ R R R R R (Ql (l:=Qbe N) ?_) rfl;show _=Qah (Qbe N);rw[QdA,Qah,Yb B]
def QAL:PSpec:=⟨[gD,gi],fun(d,k,_)=>(some (k≤4611686018427387904),Qff,[.arr (.int .i64) (Qr Qah k.toNat (Qbe d.1))])⟩
theorem QxF:G0 159 QAL.spec:=by
 have j:S0 _:=Qa Qe2 (Qa QU (Qb (T:=tree)));have p:=tabs j Qc;refine QAL.gd p j Tryz.func159 fun(d:Dv) (k:Int) F=>?_
 have F:k≤4611686018427387904:=F _ rfl;obtain⟨N,M⟩:=d;obtain⟨w,E,u,t,r,A,D,C⟩:=sR N
 repeat' first|(apply Ea;conv=>whnf)|apply Eb|apply Ec|apply Ed|apply Ee|(apply Ei;intro _)|apply Ef p j|apply Eg p j
 all_goals first
  |exact rfl
  |exact Ya rfl
  |skip
 ·rename_i g;refine .mk [] [2] _ R R R R R (Ql (l:=Qbe N) ?_) rfl;show _=Qr Qah k.toNat (Qbe N);have:k.toNat=0:=by omega
  rw[this];rfl
 ·rename_i G g;have g:s1 N=0:=g;refine .mk [] [2] _ R R R R R (Ql (l:=Qbe N) ?_) rfl;show _=Qr Qah k.toNat (Qbe N);rw[QdA,g,QoY]
 ·rename_i G g q;have q:k<s1 N:=q;refine .mk [] [2] _ R R R R R (Ql (l:=[s0 N,i64.wrap (s1 N-k),s2 N,s3 N,s4 N,s5 N,s6 N,s7 N]) ?_) rfl;show _=Qr Qah k.toNat (Qbe N);rw[QdA,Qno _ _ (by omega),w64 (by omega) (by omega)];have:((k.toNat:Nat):Int)=k:=by omega
  rw[this]
 ·rename_i G g q;have g:¬s1 N=0:=g;have q:¬k<s1 N:=q;refine .mk [] [2] _ R R R R R (Ql (l:=[s0 N,0,s2 N,s3 N,s4 N,s5 N,i64.wrap (s6 N+1)%1048576,s0 N]) ?_) rfl;show _=Qr Qah k.toNat (Qbe N);rw[QdA,QCE (by omega) _ (by omega),w64 (by omega) (by omega)]
def QlP(N:List Int)(k:Int):List Int:=[s0 N,s1 N,if s3 N=1 then s2 N else k%256,1,if s3 N=1 then 1 else s4 N,s5 N,s6 N,s7 N]
def QLy:PSpec:=⟨[gD,gi],fun(d,k,_)=>(none,Qff,[.arr (.int .i64) (QlP d.1 k)])⟩
theorem QFA:G0 242 QLy.spec:=by
 have j:S0 _:=Qa Qe2 (Qa QU (Qb (T:=tree)));have p:=tabs j Qc;refine QLy.gd p j Tryz.func242 fun(d:Dv) (k:Int) _=>?_
 obtain⟨N,M⟩:=d
 repeat' first|(apply Ea;conv=>whnf)|apply Eb|apply Ec|apply Ed|apply Ee|(apply Ei;intro _)|apply Ef p j|apply Eg p j
 all_goals first
  |exact Ya rfl
  |(rename_i h
    have h:s3 N=1:=h;refine .mk [] [2] _ R R R R R (Ql (l:=[s0 N,s1 N,s2 N,s3 N,1,s5 N,s6 N,s7 N]) ?_) rfl;show _=QlP N k
    rw[QlP,Yf h,Yf h,h])
  |(rename_i h
    have h:¬s3 N=1:=h;refine .mk [] [2] _ R R R R R (Ql (l:=[s0 N,s1 N,k%2 ^ (8:Int).toNat,1,s4 N,s5 N,s6 N,s7 N]) ?_) rfl;show _=QlP N k
    rw[QlP,Yb h,Yb h];rfl)
def QdS(b:Bool):Int:=match b with|true=>1|false=>0
def Qo1:PSpec:=⟨[⟨false,.bool⟩],fun(b,_)=>(none,I (QdS b),[])⟩
theorem QxG:G0 234 Qo1.spec:=by
 have j:S0 _:=(Qb (T:=tree))
 have p:=tabs j Qc;refine Qo1.gd p j Tryz.func234 fun(b:Bool) _=>?_
 repeat' first|(apply Ea;conv=>whnf)|apply Eb|apply Ec|apply Ed|apply Ee|(apply Ei;intro _)|apply Ef p j|apply Eg p j
 all_goals
  rename_i h;subst h;exact .k [] [] _ R R
theorem Qnp:G0 119 Qo1.spec:=by
 have j:S0 _:=(Qb (T:=tree))
 have p:=tabs j Qc;refine Qo1.gd p j Tryz.func119 fun(b:Bool) _=>?_
 repeat' first|(apply Ea;conv=>whnf)|apply Eb|apply Ec|apply Ed|apply Ee|(apply Ei;intro _)|apply Ef p j|apply Eg p j
 all_goals
  rename_i h;subst h;exact .k [] [] _ R R
theorem QCG(f o:Int)(b:Bool)(t:0≤f∧f<2)(r:0≤o∧o<2):lor .i64 (lor .i64 f (shl .i64 (QdS b) 1)) (shl .i64 o 2)=f+2*QdS b+4*o:=by
 have e1:f=0∨f=1:=by omega
 have e2:o=0∨o=1:=by omega
 rcases e1 with rfl|rfl<;>rcases e2 with rfl|rfl<;>cases b<;>decide +kernel
theorem Qcs{x y:Int}(u:x=y):AV.tup [.agg [.own 0,.imm (.slice none 0 0)],I1 x]=AV.tup [.agg [.own 0,.imm (.slice none 0 0)],I1 y]:=by rw[u]
def srF(N:List Int)(a:Int):Int:=Qb0 [s2 N,s3 N+2*QdS (decide (s1 N>0))+4*s4 N,s5 N] a
def srN(N:List Int)(a:Int):List Int:=[s0 N,s1 N,s2 N,if a=0 then 0 else s3 N,if a=1 then 0 else s4 N,s5 N,s6 N,s7 N]
def QAM:PSpec:=⟨[gD,gi],fun(d,a,_)=>(none,.tup [.agg [.own 0,.imm (.slice none 0 0)],I1 (srF d.1 a)],[.arr (.int .i64) (srN d.1 a)])⟩
theorem QxH:G0 175 QAM.spec:=by
 have j:S0 _:=Qa Qe2 (Qa QxG (Qb (T:=tree)));have p:=tabs j Qc;refine QAM.gd p j Tryz.func175 fun(d:Dv) (a:Int) _=>?_
 obtain⟨N,M⟩:=d;obtain⟨w,E,u,t,r,A,D,C⟩:=sR N
 repeat' first|(apply Ea;conv=>whnf)|apply Eb|apply Ec|apply Ed|apply Ee|(apply Ei;intro _)|apply Ef p j|apply Eg p j
 all_goals(try subst_vars)
 all_goals first
  |exact rfl
  |exact Ya rfl
  |exact .k [] [2] _ R R
  |skip
 ·refine .k [] [2] _ rfl (Qcs ?_);exact QCG (s3 N) (s4 N) (decide (s1 N>0)) t r
 ·rename_i G B q
  have e:srF N a=0:=QhU fun i hi=>by
   have:i<3:=hi;omega
  refine .mk [] [2] _ R R R R R (Ql (l:=Qbe N) ?_) (Qcs e.symm);show _=srN N a;rw[QdA,srN,Yb G,Yb B]
theorem Ql9{f z:Nat}(h:f+z≤62):Qda (f:Int) (z:Int)=((f:Int),(z:Int)):=by
 simp only[Qda,QaH,Q8,QS];have e1:max 0 (min (f:Int) 62)=f:=by omega
 rw[e1,w64 (x:=62-(f:Int)) (by omega) (by omega)];have e2:max 0 (min (z:Int) (62-f))=z:=by omega
 rw[e2]
theorem QC5(v:Int){k:Nat}(h:k≤62):((u64 v%2 ^ k:Nat):Int)=v%2 ^ k:=by
 have:=Qki v k (by omega) (by omega);rw[Qgo,Qfy (by omega) (by omega)] at this;exact this
theorem Qt6{N V f z:Nat}(hN:N<2 ^ 62)(c:V<2 ^ z)(h:f+z≤62) :
 (N ^^^ (N &&& (2 ^ z-1)*2 ^ f)) ||| V*2 ^ f=2 ^ f*(2 ^ z*(N/2 ^ (f+z))+V)+N%2 ^ f:=by
 apply Nat.eq_of_testBit_eq;intro i;rw[Nat.testBit_two_pow_mul_add _ (Nat.mod_lt _ (Nat.pow_pos (by omega))),Nat.testBit_or,Qd5,Nat.testBit_mul_two_pow,Nat.testBit_mul_two_pow,Nat.testBit_two_pow_sub_one];by_cases m:i<f
 ·rw[Yf m,Nat.testBit_mod_two_pow];have e:decide (f≤i)=false:=by simp;omega
  simp[e,m]
 ·rw[Yb m,Nat.testBit_two_pow_mul_add _ c];have e:decide (f≤i)=true:=by simp;omega
  by_cases j:i-f<z
  ·simp[e,j]
  ·rw[Yb j,Nat.testBit_div_two_pow];have e3:V.testBit (i-f)=false:=Nat.testBit_lt_two_pow (Jn c (QlM (by omega)));have e4:i-f-z+(f+z)=i:=by omega
   have e5:f+z+(i-f-z)=i:=by omega
   simp[e,j,e3,e4,e5]
theorem Qx5{n f z:Nat}(a:n<2 ^ 62)(h:f+z≤62):QKs (n:Int) (f:Int) (z:Int)=((n/2 ^ f%2 ^ z:Nat):Int):=by
 have b:Qm2 (n:Int) 62=((u64 (n:Int)%2 ^ 62:Nat):Int):=Qgo n 62;rw[Qaf (by omega),Nat.mod_eq_of_lt a] at b;unfold QKs;rw[Ql9 h,b];simp only;rw[QAK (by omega),Qgo,Qfy (by omega) (by omega),Qaf (Nat.lt_of_le_of_lt (Nat.div_le_self _ _) (by omega))];simp
theorem Qx6{n f z:Nat}(v:Int)(a:n<2 ^ 62)(h:f+z≤62):QKt (n:Int) (f:Int) (z:Int) v=((2 ^ f*(2 ^ z*(n/2 ^ (f+z))+u64 v%2 ^ z)+n%2 ^ f:Nat):Int):=by
 have hz:2 ^ f*2 ^ z≤2 ^ 62:=by rw[←Nat.pow_add];exact QlM h
 have d:0<2 ^ z:=Nat.pow_pos (by omega);have g:0<2 ^ f:=Nat.pow_pos (by omega);have c:u64 v%2 ^ z<2 ^ z:=Nat.mod_lt _ d;have b:Qm2 (n:Int) 62=((u64 (n:Int)%2 ^ 62:Nat):Int):=Qgo n 62;rw[Qaf (by omega),Nat.mod_eq_of_lt a] at b;have hv:Qm2 v z=((u64 v%2 ^ z:Nat):Int):=by rw[Qgo,Qfy (by omega) (by omega)];simp
 have b1:(2 ^ z-1)*2 ^ f<2 ^ 63:=by
  have:(2 ^ z-1)*2 ^ f≤2 ^ z*2 ^ f:=YL _ (by omega);rw[Nat.mul_comm (2 ^ z)] at this;omega
 have b2:u64 v%2 ^ z*2 ^ f<2 ^ 63:=by
  have:u64 v%2 ^ z*2 ^ f≤2 ^ z*2 ^ f:=YL _ (by omega);rw[Nat.mul_comm (2 ^ z)] at this;omega
 have key:=Qt6 a c h
 have b3:2 ^ f*(2 ^ z*(n/2 ^ (f+z))+u64 v%2 ^ z)+n%2 ^ f<2 ^ 62:=by
  rw[←key];refine Nat.or_lt_two_pow (Nat.xor_lt_two_pow a (Nat.lt_of_le_of_lt Nat.and_le_left a)) ?_;have:u64 v%2 ^ z*2 ^ f<2 ^ z*2 ^ f:=Nat.mul_lt_mul_of_pos_right c g;rw[Nat.mul_comm (2 ^ z)] at this;omega
 rw[←key];unfold QKt;rw[Ql9 h];simp only;rw[b,hv,Qtn (by omega),Qto b1 (by omega),Qto b2 (by omega)];have u1:u64 (n:Int)=n:=Qaf (by omega);have u2:u64 (((2 ^ z-1)*2 ^ f:Nat):Int)=(2 ^ z-1)*2 ^ f:=Qaf (by omega);have u3:u64 ((u64 v%2 ^ z*2 ^ f:Nat):Int)=u64 v%2 ^ z*2 ^ f:=Qaf (by omega);rw[Qdz _ _ (by rw[u1];omega),u1,u2]
 have u4:u64 ((n ^^^ n &&& (2 ^ z-1)*2 ^ f:Nat):Int)=n ^^^ (n &&& (2 ^ z-1)*2 ^ f):=Qaf (by
  have:n ^^^ (n &&& (2 ^ z-1)*2 ^ f)<2 ^ 62:=Nat.xor_lt_two_pow a (Nat.lt_of_le_of_lt Nat.and_le_left a)
  omega)
 rw[Qgn _ _ (by rw[u3,u4,key];omega),u3,u4]
def QLC:PSpec:=⟨[gi,gi,gi],fun(n,a,s,_)=>(some (0≤n∧n<4611686018427387904∧0≤a∧0≤s∧a+s≤62),I (n/2 ^ a.toNat%2 ^ s.toNat),[])⟩
theorem Qib:G0 233 QLC.spec:=by
 have b:S0 _:=Qa QoW (Qa QAI (Qb (T:=tree)));have c:=tabs b Qc;refine QLC.gd c b Tryz.func233 fun(n a s:Int) d=>?_
 obtain⟨h,h2,g,f,h5⟩:0≤n∧n<4611686018427387904∧0≤a∧0≤s∧a+s≤62:=d _ rfl
 repeat' first|(apply Ea;conv=>whnf)|apply Eb|apply Ec|apply Ed|apply Ee|(apply Ei;intro _)|apply Ef c b
 ·exact(Qfw a s).1
 ·refine .k [] [] _ rfl (Qd ?_);show QKs n a s=_;obtain⟨n,rfl⟩:=Yz h;obtain⟨a,rfl⟩:=Yz g;obtain⟨s,rfl⟩:=Yz f;rw[Qx5 (by omega) (by omega)];simp
def QLD:PSpec:=⟨[gi,gi,gi,gi],fun(n,a,s,v,_)=>(some (0≤n∧n<4611686018427387904∧0≤a∧0≤s∧a+s≤62),I (2 ^ a.toNat*(2 ^ s.toNat*(n/2 ^ (a+s).toNat)+v%2 ^ s.toNat)+n%2 ^ a.toNat),[])⟩
theorem Qic:G0 237 QLD.spec:=by
 have b:S0 _:=Qa QoW (Qa QAI (Qb (T:=tree)));have c:=tabs b Qc;refine QLD.gd c b Tryz.func237 fun(n a s v:Int) d=>?_
 obtain⟨h,h2,g,f,h5⟩:0≤n∧n<4611686018427387904∧0≤a∧0≤s∧a+s≤62:=d _ rfl
 repeat' first|(apply Ea;conv=>whnf)|apply Eb|apply Ec|apply Ed|apply Ee|(apply Ei;intro _)|apply Ef c b
 ·exact(Qfw a s).2
 ·exact(Qfw a s).1
 ·exact(Qfw a s).1
 ·refine .k [] [] _ rfl (Qd ?_);show QKt n a s v=_;obtain⟨n,rfl⟩:=Yz h;obtain⟨a,rfl⟩:=Yz g;obtain⟨s,rfl⟩:=Yz f;have e:((a:Int)+(s:Int)).toNat=a+s:=by omega
  rw[Qx6 v (by omega) (by omega),e,←QC5 v (by omega)];simp
def vo(N:List Int)(i:Nat):List Int:=[N.getD i 0%4096,N.getD (i+1) 0%16,N.getD (i+2) 0%256,N.getD (i+3) 0%4096,N.getD (i+4) 0%2,N.getD (i+5) 0%16384]
def Qao(N:List Int):List Int:=vo N 0++vo N 6
def Qy(k:Int):List Int→List Int
 | [p,v,r,c,f,w] =>
   [p,if (r>0∧v>0)∧w+k≥r*64 then v-1 else v,r,if p>0 then (if c+k≥p then 0 else c+k) else c,if p>0∧c+k≥p then 1-f else f,
     if r>0∧v>0 then (if w+k≥r*64 then 0 else w+k) else w]
 |l=>l
def Qi:List Int→Int
 | [p,v,r,c,f,w]=>min (if p>0 then max 1 (p-c)-1 else 100000) (if r>0∧v>0 then max 1 (r*64-w)-1 else 100000)
 |_=>100000
inductive vOk:List Int→Prop
 |mk {p v r c f w:Int} (u:0≤p∧p<4096) (z:0≤v∧v<16) (s:0≤r∧r<256) (y:0≤c∧c<4096) (A:0≤f∧f<2) (t:0≤w∧w<16384):vOk [p,v,r,c,f,w]
theorem Qaq(N:List Int)(i:Nat):vOk (vo N i):=⟨by omega,by omega,by omega,by omega,by omega,by omega⟩
theorem vOk.len{l:List Int}(h:vOk l):l.length=6:=by cases h;rfl
theorem Quf{l:List Int}(h:vOk l):vo l 0=l:=by
 cases h with
 |mk u z s y A t =>
  rename_i p v r c f w;show[p%4096,v%16,r%256,c%4096,f%2,w%16384]=_;rw[YC u.1 u.2,YC z.1 z.2,YC s.1 s.2,YC y.1 y.2,YC A.1 A.2,YC t.1 t.2]
theorem QF8{a b:List Int}(h:a.length=6):vo (a++b) 6=vo b 0:=by
 have e:∀j,(a++b).getD (6+j) 0=b.getD j 0:=by
  intro j;simp only[Yd];rw[YO (by omega)];have:6+j-a.length=j:=by omega
  rw[this]
 unfold vo
 rw[show(a++b).getD 6 0=b.getD 0 0 from e 0,show(a++b).getD (6+1) 0=b.getD 1 0 from e 1,show(a++b).getD (6+2) 0=b.getD 2 0 from e 2,show(a++b).getD (6+3) 0=b.getD 3 0 from e 3,
  show(a++b).getD (6+4) 0=b.getD 4 0 from e 4,show(a++b).getD (6+5) 0=b.getD 5 0 from e 5]
theorem QF9{a b:List Int}(h:vOk a):vo (a++b) 0=vo a 0:=by cases h;rfl
theorem Qpt{a b:List Int}(B:vOk a)(D:vOk b):Qao (a++b)=a++b:=by
 rw[Qao,QF9 B,QF8 B.len,Quf B,Quf D]
theorem QbU{l:List Int}(h:vOk l){k:Int}(hk:0≤k):vOk (Qy k l):=by
 cases h with
 |mk u z s y A t =>
  refine⟨u,?_,s,?_,?_,?_⟩
  ·split<;>omega
  ·split
   ·split<;>omega
   ·exact y
  ·split<;>omega
  ·split
   ·split<;>omega
   ·exact t
theorem Qma(k:Int)(l:List Int):(Qy k l).length=l.length:=by
 unfold Qy;split<;>rfl
theorem l6{a b c d e f a' b' c' d' e' f':Int}(h1:a=a')(C:b=b')(h3:c=c')(h4:d=d')(h5:e=e')(h6:f=f'):[a,b,c,d,e,f]=[a',b',c',d',e',f']:=by rw[h1,C,h3,h4,h5,h6]
theorem Qug{l:List Int}(h:vOk l){j:Int}(hj:0<j)(g:j≤Qi l):Qy 1 (Qy j l)=Qy (j+1) l:=by
 cases h with
 |mk u z s y A t =>
  rename_i p v r c f w;have e1:Qi [p,v,r,c,f,w]=min (if p>0 then max 1 (p-c)-1 else 100000) (if r>0∧v>0 then max 1 (r*64-w)-1 else 100000):=rfl;rw[e1] at g;have q1:p>0→¬c+j≥p:=fun h=>by rw[Yf h] at g;omega
  have q2:r>0∧v>0→¬w+j≥r*64:=fun h=>by rw[Yf h] at g;omega
  have e2:Qy j [p,v,r,c,f,w]=[p,v,r,if p>0 then c+j else c,f,if r>0∧v>0 then w+j else w]:=by
   refine l6 rfl ?_ rfl ?_ ?_ ?_
   ·exact Yb fun h=>q2 h.1 h.2
   ·by_cases h:p>0
    ·rw[Yf h,Yf h,Yb (q1 h)]
    ·rw[Yb h,Yb h]
   ·exact Yb fun h=>q1 h.1 h.2
   ·by_cases h:r>0∧v>0
    ·rw[Yf h,Yf h,Yb (q2 h)]
    ·rw[Yb h,Yb h]
  rw[e2];by_cases q:p>0
  ·rw[Yf q];by_cases m:r>0∧v>0
   ·rw[Yf m];refine l6 rfl ?_ rfl ?_ ?_ ?_<;>simp only[q,m,and_self,true_and,if_true,Int.add_assoc]
   ·rw[Yb m];refine l6 rfl ?_ rfl ?_ ?_ ?_<;>simp only[q,m,false_and,true_and,if_true,if_false,Int.add_assoc]
  ·rw[Yb q];by_cases m:r>0∧v>0
   ·rw[Yf m];refine l6 rfl ?_ rfl ?_ ?_ ?_<;>simp only[q,m,and_self,false_and,true_and,if_true,if_false,Int.add_assoc]
   ·rw[Yb m];refine l6 rfl ?_ rfl ?_ ?_ ?_<;>simp only[q,m,false_and,if_false]
theorem Qjs{l:List Int}(h:vOk l)(g:Qi l=100000)(k:Int):Qy k l=l:=by
 cases h with
 |mk u z s y A t =>
  rename_i p v r c f w;have e1:Qi [p,v,r,c,f,w]=min (if p>0 then max 1 (p-c)-1 else 100000) (if r>0∧v>0 then max 1 (r*64-w)-1 else 100000):=rfl;rw[e1] at g;have q:¬p>0:=fun h=>by rw[Yf h] at g;omega
  have m:¬(r>0∧v>0):=fun h=>by rw[Yf h] at g;omega
  refine l6 rfl ?_ rfl ?_ ?_ ?_
  ·exact Yb fun h=>m h.1
  ·exact Yb q
  ·exact Yb fun h=>q h.1
  ·exact Yb m
theorem Qeb{l:List Int}(h:vOk l):0≤Qi l∧Qi l≤100000:=by
 cases h with
 |mk u z s y A t =>
  rename_i p v r c f w;have e1:Qi [p,v,r,c,f,w]=min (if p>0 then max 1 (p-c)-1 else 100000) (if r>0∧v>0 then max 1 (r*64-w)-1 else 100000):=rfl;rw[e1];by_cases q:p>0<;>by_cases m:r>0∧v>0<;>simp only[q,m,and_self,if_true,if_false]<;>omega
theorem QfJ{l:List Int}(h:vOk l):∀n,vOk (Qr (Qy 1) n l)
 |0=>h
 |n+1=>by rw[QX];exact QbU (QfJ h n) (by decide)
theorem Qid{l:List Int}(h:vOk l):∀n:Nat,0<n→(n:Int)≤Qi l+1→Qr (Qy 1) n l=Qy n l
 |1,_,_=>rfl
 |n+2,_,g=>by
  rw[QX,Qid h (n+1) (by omega) (by omega),Qug h (by omega) (by omega)];rfl
theorem Qrv{l:List Int}(h:vOk l)(g:Qi l=100000)(n:Nat):Qr (Qy 1) n l=l:=QhV (Qjs h g 1) n
theorem Qb2{a:List Int}(h:vOk a){r:Int}(s:0<r)(g:Qi a≥r∨Qi a=100000):Qy r a=Qr (Qy 1) r.toNat a:=by
 rcases g with g|g
 ·rw[Qid h r.toNat (by omega) (by omega)];have e:((r.toNat:Nat):Int)=r:=by omega
  rw[e]
 ·rw[Qrv h g,Qjs h g]
theorem Qet{a:List Int}(h:vOk a){r:Int}(g:Qi a<r):Qr (Qy 1) (r-(Qi a+1)).toNat (Qy (Qi a+1) a)=Qr (Qy 1) r.toNat a:=by
 have hq0:=Qeb h;have e:r.toNat=(Qi a+1).toNat+(r-(Qi a+1)).toNat:=by omega
 rw[e,Qfz,Qid h (Qi a+1).toNat (by omega) (by omega)];have e2:(((Qi a+1).toNat:Nat):Int)=Qi a+1:=by omega
 rw[e2]
theorem QNM{a b:List Int}(h:a.length=6):((a++b).drop 0).take 6=a:=List.take_left' h
theorem QKw{a b:List Int}(h:a.length=6)(C:b.length=6):((a++b).drop 6).take 6=b:=by rw[List.drop_left' h];exact Yh (by omega)
theorem QnD{x:Blk}{l l':List Int}(h:l=l'):[some x,some (Blk.arr (.int .i64) l)]=[some x,some (Blk.arr (.int .i64) l')]:=by rw[h]
def Qb7(off:Nat)(l:List Int)(k:Int):List Int:=l.take off++(Qy k ((l.drop off).take 6)++l.drop (off+6))
theorem Quh{a b:List Int}(h:a.length=6)(k:Int):Qb7 0 (a++b) k=Qy k a++b:=by
 unfold Qb7;simp[←h]
theorem Qie{a b:List Int}(h:a.length=6)(C:b.length=6)(k:Int):Qb7 6 (a++b) k=a++Qy k b:=by
 unfold Qb7;rw[List.take_left' h,List.drop_left' h,Yh (by omega),List.drop_eq_nil_of_le (by simp[h,C]),Jd]
def QaP(l:List Int):List Int:=Qy 1 (l.take 6)++Qy 1 (l.drop 6)
theorem Qif{a b:List Int}(h:a.length=6):QaP (a++b)=Qy 1 a++Qy 1 b:=by unfold QaP;simp[←h]
theorem Qig{a b:List Int}(B:vOk a)(D:vOk b):∀n,Qr QaP n (a++b)=Qr (Qy 1) n a++Qr (Qy 1) n b
 |0=>rfl
 |n+1=>by rw[QX,Qig B D n,Qif (QfJ B n).len,QX,QX]
end Go.Proofs.YtofgbclopbmlcaaGreat

namespace Go.Fw
open Go.IntKind (i64)
set_option linter.unusedVariables false
set_option linter.unusedSimpArgs false
theorem QR.cases{P:Program}{f:Nat}{gs:List Sig}{o o1 o2:Args gs→Option Prop×AV×List Blk}(h1:QR P f (PSpec.spec ⟨gs,o1⟩))(h2:QR P f (PSpec.spec ⟨gs,o2⟩))
 (h:∀xs,(∀q,(o xs).1=some q→q)→((∀q,(o1 xs).1=some q→q)∧(o1 xs).2=(o xs).2)∨((∀q,(o2 xs).1=some q→q)∧(o2 xs).2=(o xs).2)):QR P f (PSpec.spec ⟨gs,o⟩):=by
 refine⟨?_,h1.2⟩;intro E0 vs args bl p r upd fresh hH hU hok hvs hrun hp;unfold PSpec.spec at hrun;simp only at hrun;split at hrun
 ·split at hrun
  ·rename_i xs hxs;simp only[Yc,YM] at hrun;obtain⟨rfl,rfl,rfl,rfl⟩:=hrun
   have run:∀o':Args gs→Option Prop×AV×List Blk,(o' xs).2=(o xs).2→(PSpec.spec ⟨gs,o'⟩).run args []=some ((o' xs).1,(o xs).2.1,[],(o xs).2.2):=by
    intro o' he;unfold PSpec.spec;simp only[hxs,he]
   rcases h xs hp with⟨hp',he⟩|⟨hp',he⟩
   ·exact h1.1 E0 vs args [] _ _ _ _ hH hU hok hvs (run o1 he) hp'
   ·exact h2.1 E0 vs args [] _ _ _ _ hH hU hok hvs (run o2 he) hp'
  ·cases hrun
 ·cases hrun
theorem QR.map{P:Program}{f:Nat}{gs:List Sig}{o o':Args gs→Option Prop×AV×List Blk}(h1:QR P f (PSpec.spec ⟨gs,o⟩))
 (h:∀xs,(∀q,(o' xs).1=some q→q)→(∀q,(o xs).1=some q→q)∧(o xs).2.2=(o' xs).2.2∧∀E v,AVR E (o xs).2.1 v→AVR E (o' xs).2.1 v):QR P f (PSpec.spec ⟨gs,o'⟩):=by
 refine⟨?_,h1.2⟩;intro E0 vs args bl p r upd fresh hH hU hok hvs hrun hp;unfold PSpec.spec at hrun;simp only at hrun;split at hrun
 ·split at hrun
  ·rename_i xs hxs;simp only[Yc,YM] at hrun;obtain⟨rfl,rfl,rfl,rfl⟩:=hrun;obtain⟨k1,k2,k3⟩:=h xs hp
   have run:(PSpec.spec ⟨gs,o⟩).run args []=some ((o xs).1,(o xs).2.1,[],(o' xs).2.2):=by
    unfold PSpec.spec;simp only[hxs,k2]
   refine(h1.1 E0 vs args [] _ _ _ _ hH hU hok hvs run k1).mono ?_
   rintro e w' ⟨v,E',he,hw,hb⟩
   exact⟨v,E',he,hw,k3 E' v hb.val,hb.ok,hb.H,hb.U,hb.ext,hb.fr⟩
  ·cases hrun
 ·cases hrun
theorem QR.nil{P:Program}{f:Nat}{gs:List Sig}{o o':Args gs→Option Prop×AV×List Blk}(t:Ty)(h1:QR P f (PSpec.spec ⟨gs,o⟩))
 (h:∀xs,(∀q,(o' xs).1=some q→q)→(∀q,(o xs).1=some q→q)∧noA (o xs).2.2.length (o xs).2.1=some (o' xs).2.1∧(o xs).2.2++[.arr t []]=(o' xs).2.2):QR P f (PSpec.spec ⟨gs,o'⟩):=by
 refine⟨?_,h1.2⟩;intro E0 vs args bl p r upd fresh hH hU hok hvs hrun hp;unfold PSpec.spec at hrun;simp only at hrun;split at hrun
 ·split at hrun
  ·rename_i xs hxs;simp only[Yc,YM] at hrun;obtain⟨rfl,rfl,rfl,rfl⟩:=hrun;obtain⟨k1,k2,k3⟩:=h xs hp
   have run:(PSpec.spec ⟨gs,o⟩).run args []=some ((o xs).1,(o xs).2.1,[],(o xs).2.2):=by
    unfold PSpec.spec;simp only[hxs]
   refine(h1.1 E0 vs args [] _ _ _ _ hH hU hok hvs run k1).mono ?_
   rintro e w' ⟨v,E',he,hw,hb⟩
   have:=Back.nil hb t (r:=(o' xs).2.1) (by simpa using k2);rw[k3] at this;exact⟨v,Qcb E' [] _ t,he,hw,this⟩
  ·cases hrun
 ·cases hrun
inductive Conv:AV×List Blk→AV×List Blk→Prop where
 |refl {x:AV×List Blk}:Conv x x
 |nil {r r2:AV} {fr:List Blk} {y:AV×List Blk} (t:Ty) (h:noA fr.length r=some r2) (h2:Conv (r2,fr++[.arr t []]) y):Conv (r,fr) y
theorem Back.conv{E0:Env}{upd:List (Option Blk)}{x y:AV×List Blk}(h:Conv x y):∀{E:Env} {v:Value},Back E0 0 x.1 upd x.2 v E→∃E',E'.w=E.w∧Back E0 0 y.1 upd y.2 v E':=by
 induction h with
 |refl=>intro E v hb;exact⟨E,rfl,hb⟩
 |nil t h h2 ih =>
  intro E v hb;obtain⟨E',e,hb'⟩:=ih (Back.nil hb t (by simpa using h));exact⟨E',e,hb'⟩
theorem QR.sel{P:Program}{f:Nat}{s0:CSpec}{gs:List Sig}{o:Args gs→Option Prop×AV×List Blk}(h0:QR P f s0)
 (h:∀xs,(∀q,(o xs).1=some q→q)→∃o1:Args gs→Option Prop×AV×List Blk,QR P f (PSpec.spec ⟨gs,o1⟩)∧(∀q,(o1 xs).1=some q→q)∧Conv (o1 xs).2 (o xs).2):QR P f (PSpec.spec ⟨gs,o⟩):=by
 refine⟨?_,h0.2⟩;intro E0 vs args bl p r upd fresh hH hU hok hvs hrun hp;unfold PSpec.spec at hrun;simp only at hrun;split at hrun
 ·split at hrun
  ·rename_i xs hxs;simp only[Yc,YM] at hrun;obtain⟨rfl,rfl,rfl,rfl⟩:=hrun;obtain⟨o1,g1,k1,k2⟩:=h xs hp
   have run:(PSpec.spec ⟨gs,o1⟩).run args []=some ((o1 xs).1,(o1 xs).2.1,[],(o1 xs).2.2):=by
    unfold PSpec.spec;simp only[hxs]
   refine(g1.1 E0 vs args [] _ _ _ _ hH hU hok hvs run k1).mono ?_
   rintro e w' ⟨v,E',he,hw,hb⟩
   obtain⟨E2,e2,hb2⟩:=Back.conv k2 hb;exact⟨v,E2,he,e2.trans hw,hb2⟩
  ·cases hrun
 ·cases hrun
theorem AVR.nil_ro{E:Env}{a:Cell}{t:Ty}{v:Value}(h:AVR E (.agg [a,.imm (.slice none 0 0)]) v):AVR E (.agg [a,.ro t []]) v:=by
 obtain⟨vals,e,r,s,e1,h1,r2,s2,e2,h2,h3⟩:=h;refine⟨vals,e,r,s,e1,h1,r2,s2,e2,?_,h3⟩;obtain⟨e3,_⟩:=h2;exact⟨_,e3,none,0,rfl,YE _,fun hne=>YD rfl hne⟩
end Go.Fw

namespace Go.Proofs.YtofgbclopbmlcaaGreat
open Go.IntKind (i64)
open Go.Fw
set_option linter.unusedVariables false
set_option linter.unusedSimpArgs false
set_option maxRecDepth 100000
def addF(a b c n:Int):Int×Int :=
 let s:=i64.wrap (i64.wrap (Qm2 a (QaH n)+Qm2 b (QaH n))+land .i64 c 1)
 (Qm2 s (QaH n),shr .i64 s (QaH n))
end Go.Proofs.YtofgbclopbmlcaaGreat

