/- The facts of this seat that the walks use: its types, by their numbers; that its functions are entered. Printed by my gen2.py. -/
import Derived.Test.YtfpgmanaikgemaaGreatDoorAmD
import Derived.Test.YtfpgmanaikgemaaGreatDoorProg
import Derived.KernelRfl
namespace Go.Am
open Go Go.Proofs
set_option maxRecDepth 100000
theorem ti2 : tiOf Tryz.prog 2 = some ⟨1, 8, .int .i64, .p (.int .i64 0)⟩ := by kernel_rfl
theorem ti3 : tiOf Tryz.prog 3 = some ⟨1, 8, .int .i64, .p (.int .i64 0)⟩ := by kernel_rfl
theorem ti4 : tiOf Tryz.prog 4 = some ⟨1, 1, .bool, .p (.bool false)⟩ := by kernel_rfl
theorem ti5 : tiOf Tryz.prog 5 = some ⟨1, 1, .int .u8, .p (.int .u8 0)⟩ := by kernel_rfl
theorem ti9 : tiOf Tryz.prog 9 = some ⟨1, 16, .string, .p (.str [])⟩ := by kernel_rfl
theorem ti12 : tiOf Tryz.prog 12 = some ⟨1, 8, .int .u64, .p (.int .u64 0)⟩ := by kernel_rfl
theorem ti13 : tiOf Tryz.prog 13 = some ⟨2, 24, .struct [(0, 9), (1, 12)], .agg [.p (.str []), .p (.int .u64 0)]⟩ := by kernel_rfl
theorem ti21 : tiOf Tryz.prog 21 = some ⟨1, 4, .int .i32, .p (.int .i32 0)⟩ := by kernel_rfl
theorem ti22 : tiOf Tryz.prog 22 = some ⟨1, 24, .slice 3, .cl []⟩ := by kernel_rfl
theorem ti24 : tiOf Tryz.prog 24 = some ⟨1, 24, .slice 72, .cl []⟩ := by kernel_rfl
theorem ti25 : tiOf Tryz.prog 25 = some ⟨1, 8, .int .i64, .p (.int .i64 0)⟩ := by kernel_rfl
theorem ti28 : tiOf Tryz.prog 28 = some ⟨1, 24, .slice 75, .cl []⟩ := by kernel_rfl
theorem ti29 : tiOf Tryz.prog 29 = some ⟨1, 24, .slice 22, .cl []⟩ := by kernel_rfl
theorem ti30 : tiOf Tryz.prog 30 = some ⟨1, 24, .slice 77, .cl []⟩ := by kernel_rfl
theorem ti31 : tiOf Tryz.prog 31 = some ⟨4, 32, .struct [(0, 3), (1, 3), (2, 3), (3, 3)], .agg [.p (.int .i64 0), .p (.int .i64 0), .p (.int .i64 0), .p (.int .i64 0)]⟩ := by kernel_rfl
theorem fl31 : flatT Tryz.prog 31 = some [.int, .int, .int, .int] := by kernel_rfl
theorem ti32 : tiOf Tryz.prog 32 = some ⟨4, 32, .struct [(0, 3), (1, 3), (2, 3), (3, 3)], .agg [.p (.int .i64 0), .p (.int .i64 0), .p (.int .i64 0), .p (.int .i64 0)]⟩ := by kernel_rfl
theorem fl32 : flatT Tryz.prog 32 = some [.int, .int, .int, .int] := by kernel_rfl
theorem ti33 : tiOf Tryz.prog 33 = some ⟨8, 128, .struct [(0, 28), (1, 29), (2, 30), (3, 22), (4, 32)], .agg [.cl [], .cl [], .cl [], .cl [], .p (.int .i64 0), .p (.int .i64 0), .p (.int .i64 0), .p (.int .i64 0)]⟩ := by kernel_rfl
theorem ti34 : tiOf Tryz.prog 34 = some ⟨8, 128, .struct [(0, 28), (1, 29), (2, 30), (3, 22), (4, 32)], .agg [.cl [], .cl [], .cl [], .cl [], .p (.int .i64 0), .p (.int .i64 0), .p (.int .i64 0), .p (.int .i64 0)]⟩ := by kernel_rfl
theorem ti36 : tiOf Tryz.prog 36 = some ⟨1, 8, .ptr 38, .np⟩ := by kernel_rfl
theorem ti37 : tiOf Tryz.prog 37 = some ⟨2, 32, .struct [(0, 22), (1, 3)], .agg [.cl [], .p (.int .i64 0)]⟩ := by kernel_rfl
theorem ti38 : tiOf Tryz.prog 38 = some ⟨2, 32, .struct [(0, 22), (1, 3)], .agg [.cl [], .p (.int .i64 0)]⟩ := by kernel_rfl
theorem ti39 : tiOf Tryz.prog 39 = some ⟨1, 24, .slice 70, .cl []⟩ := by kernel_rfl
theorem ti50 : tiOf Tryz.prog 50 = some ⟨4, 32, .array 4 3, .agg [.p (.int .i64 0), .p (.int .i64 0), .p (.int .i64 0), .p (.int .i64 0)]⟩ := by kernel_rfl
theorem ti52 : tiOf Tryz.prog 52 = some ⟨1, 24, .slice 9, .cl []⟩ := by kernel_rfl
theorem ti53 : tiOf Tryz.prog 53 = some ⟨4, 48, .struct [(0, 3), (1, 22), (2, 3), (3, 3)], .agg [.p (.int .i64 0), .cl [], .p (.int .i64 0), .p (.int .i64 0)]⟩ := by kernel_rfl
theorem ti54 : tiOf Tryz.prog 54 = some ⟨4, 48, .struct [(0, 3), (1, 22), (2, 3), (3, 3)], .agg [.p (.int .i64 0), .cl [], .p (.int .i64 0), .p (.int .i64 0)]⟩ := by kernel_rfl
theorem ti64 : tiOf Tryz.prog 64 = some ⟨1, 24, .slice 4, .cl []⟩ := by kernel_rfl
theorem ti69 : tiOf Tryz.prog 69 = some ⟨2, 32, .struct [(0, 3), (1, 52)], .agg [.p (.int .i64 0), .cl []]⟩ := by kernel_rfl
theorem ti70 : tiOf Tryz.prog 70 = some ⟨2, 32, .struct [(0, 3), (1, 52)], .agg [.p (.int .i64 0), .cl []]⟩ := by kernel_rfl
theorem ti71 : tiOf Tryz.prog 71 = some ⟨4, 64, .struct [(0, 3), (1, 3), (2, 52), (3, 22)], .agg [.p (.int .i64 0), .p (.int .i64 0), .cl [], .cl []]⟩ := by kernel_rfl
theorem ti72 : tiOf Tryz.prog 72 = some ⟨4, 64, .struct [(0, 3), (1, 3), (2, 52), (3, 22)], .agg [.p (.int .i64 0), .p (.int .i64 0), .cl [], .cl []]⟩ := by kernel_rfl
theorem ti74 : tiOf Tryz.prog 74 = some ⟨3, 32, .struct [(0, 9), (1, 3), (2, 3)], .agg [.p (.str []), .p (.int .i64 0), .p (.int .i64 0)]⟩ := by kernel_rfl
theorem fl74 : flatT Tryz.prog 74 = some [.str, .int, .int] := by kernel_rfl
theorem ti75 : tiOf Tryz.prog 75 = some ⟨3, 32, .struct [(0, 9), (1, 3), (2, 3)], .agg [.p (.str []), .p (.int .i64 0), .p (.int .i64 0)]⟩ := by kernel_rfl
theorem fl75 : flatT Tryz.prog 75 = some [.str, .int, .int] := by kernel_rfl
theorem ti76 : tiOf Tryz.prog 76 = some ⟨6, 56, .struct [(0, 9), (1, 4), (2, 3), (3, 3), (4, 3), (5, 3)], .agg [.p (.str []), .p (.bool false), .p (.int .i64 0), .p (.int .i64 0), .p (.int .i64 0), .p (.int .i64 0)]⟩ := by kernel_rfl
theorem fl76 : flatT Tryz.prog 76 = some [.str, .bool, .int, .int, .int, .int] := by kernel_rfl
theorem ti77 : tiOf Tryz.prog 77 = some ⟨6, 56, .struct [(0, 9), (1, 4), (2, 3), (3, 3), (4, 3), (5, 3)], .agg [.p (.str []), .p (.bool false), .p (.int .i64 0), .p (.int .i64 0), .p (.int .i64 0), .p (.int .i64 0)]⟩ := by kernel_rfl
theorem fl77 : flatT Tryz.prog 77 = some [.str, .bool, .int, .int, .int, .int] := by kernel_rfl
theorem ti81 : tiOf Tryz.prog 81 = some ⟨1, 8, .ptr 34, .np⟩ := by kernel_rfl
theorem ti83 : tiOf Tryz.prog 83 = some ⟨3, 40, .struct [(0, 9), (1, 9), (2, 4)], .agg [.p (.str []), .p (.str []), .p (.bool false)]⟩ := by kernel_rfl
theorem fl83 : flatT Tryz.prog 83 = some [.str, .str, .bool] := by kernel_rfl
theorem ti84 : tiOf Tryz.prog 84 = some ⟨3, 40, .struct [(0, 9), (1, 9), (2, 4)], .agg [.p (.str []), .p (.str []), .p (.bool false)]⟩ := by kernel_rfl
theorem fl84 : flatT Tryz.prog 84 = some [.str, .str, .bool] := by kernel_rfl
theorem ti85 : tiOf Tryz.prog 85 = some ⟨21, 280, .array 7 84, .agg [.p (.str []), .p (.str []), .p (.bool false), .p (.str []), .p (.str []), .p (.bool false), .p (.str []), .p (.str []), .p (.bool false), .p (.str []), .p (.str []), .p (.bool false), .p (.str []), .p (.str []), .p (.bool false), .p (.str []), .p (.str []), .p (.bool false), .p (.str []), .p (.str []), .p (.bool false)]⟩ := by kernel_rfl
theorem ti88 : tiOf Tryz.prog 88 = some ⟨1, 8, .ptr 91, .np⟩ := by kernel_rfl
theorem ti89 : tiOf Tryz.prog 89 = some ⟨1, 24, .slice 5, .cl []⟩ := by kernel_rfl
theorem ti90 : tiOf Tryz.prog 90 = some ⟨2, 32, .struct [(0, 88), (1, 89)], .agg [.np, .cl []]⟩ := by kernel_rfl
theorem ti91 : tiOf Tryz.prog 91 = some ⟨2, 32, .struct [(0, 88), (1, 89)], .agg [.np, .cl []]⟩ := by kernel_rfl
theorem ti110 : tiOf Tryz.prog 110 = some ⟨1, 8, .ptr 112, .np⟩ := by kernel_rfl
theorem ti111 : tiOf Tryz.prog 111 = some ⟨9, 136, .struct [(0, 34), (8, 4)], .agg [.cl [], .cl [], .cl [], .cl [], .p (.int .i64 0), .p (.int .i64 0), .p (.int .i64 0), .p (.int .i64 0), .p (.bool false)]⟩ := by kernel_rfl
theorem ti112 : tiOf Tryz.prog 112 = some ⟨9, 136, .struct [(0, 34), (8, 4)], .agg [.cl [], .cl [], .cl [], .cl [], .p (.int .i64 0), .p (.int .i64 0), .p (.int .i64 0), .p (.int .i64 0), .p (.bool false)]⟩ := by kernel_rfl
theorem ti116 : tiOf Tryz.prog 116 = some ⟨24, 24, .array 24 4, .agg [.p (.bool false), .p (.bool false), .p (.bool false), .p (.bool false), .p (.bool false), .p (.bool false), .p (.bool false), .p (.bool false), .p (.bool false), .p (.bool false), .p (.bool false), .p (.bool false), .p (.bool false), .p (.bool false), .p (.bool false), .p (.bool false), .p (.bool false), .p (.bool false), .p (.bool false), .p (.bool false), .p (.bool false), .p (.bool false), .p (.bool false), .p (.bool false)]⟩ := by kernel_rfl
theorem ti134 : tiOf Tryz.prog 134 = some ⟨1, 8, .int .u64, .p (.int .u64 0)⟩ := by kernel_rfl
theorem ti140 : tiOf Tryz.prog 140 = some ⟨1, 8, .ptr 5, .np⟩ := by kernel_rfl
theorem ti143 : tiOf Tryz.prog 143 = some ⟨1, 24, .slice 84, .cl []⟩ := by kernel_rfl
theorem ti147 : tiOf Tryz.prog 147 = some ⟨1, 8, .ptr 150, .np⟩ := by kernel_rfl
theorem ti148 : tiOf Tryz.prog 148 = some ⟨1, 24, .slice 153, .cl []⟩ := by kernel_rfl
theorem ti153 : tiOf Tryz.prog 153 = some ⟨2, 16, .array 2 3, .agg [.p (.int .i64 0), .p (.int .i64 0)]⟩ := by kernel_rfl
theorem ti171 : tiOf Tryz.prog 171 = some ⟨1, 4, .int .u32, .p (.int .u32 0)⟩ := by kernel_rfl
theorem ti174 : tiOf Tryz.prog 174 = some ⟨1, 8, .int .u64, .p (.int .u64 0)⟩ := by kernel_rfl
theorem ti187 : tiOf Tryz.prog 187 = some ⟨1, 8, .ptr 189, .np⟩ := by kernel_rfl
theorem ti188 : tiOf Tryz.prog 188 = some ⟨9, 200, .struct [(0, 29), (1, 64), (2, 22), (3, 22), (4, 22), (5, 22), (6, 22), (7, 3), (8, 22)], .agg [.cl [], .cl [], .cl [], .cl [], .cl [], .cl [], .cl [], .p (.int .i64 0), .cl []]⟩ := by kernel_rfl
theorem ti189 : tiOf Tryz.prog 189 = some ⟨9, 200, .struct [(0, 29), (1, 64), (2, 22), (3, 22), (4, 22), (5, 22), (6, 22), (7, 3), (8, 22)], .agg [.cl [], .cl [], .cl [], .cl [], .cl [], .cl [], .cl [], .p (.int .i64 0), .cl []]⟩ := by kernel_rfl
theorem ti192 : tiOf Tryz.prog 192 = some ⟨24, 24, .array 24 5, .agg [.p (.int .u8 0), .p (.int .u8 0), .p (.int .u8 0), .p (.int .u8 0), .p (.int .u8 0), .p (.int .u8 0), .p (.int .u8 0), .p (.int .u8 0), .p (.int .u8 0), .p (.int .u8 0), .p (.int .u8 0), .p (.int .u8 0), .p (.int .u8 0), .p (.int .u8 0), .p (.int .u8 0), .p (.int .u8 0), .p (.int .u8 0), .p (.int .u8 0), .p (.int .u8 0), .p (.int .u8 0), .p (.int .u8 0), .p (.int .u8 0), .p (.int .u8 0), .p (.int .u8 0)]⟩ := by kernel_rfl
theorem ti203 : tiOf Tryz.prog 203 = some ⟨1, 8, .int .i64, .p (.int .i64 0)⟩ := by kernel_rfl
theorem ti211 : tiOf Tryz.prog 211 = some ⟨20, 160, .array 20 174, .agg [.p (.int .u64 0), .p (.int .u64 0), .p (.int .u64 0), .p (.int .u64 0), .p (.int .u64 0), .p (.int .u64 0), .p (.int .u64 0), .p (.int .u64 0), .p (.int .u64 0), .p (.int .u64 0), .p (.int .u64 0), .p (.int .u64 0), .p (.int .u64 0), .p (.int .u64 0), .p (.int .u64 0), .p (.int .u64 0), .p (.int .u64 0), .p (.int .u64 0), .p (.int .u64 0), .p (.int .u64 0)]⟩ := by kernel_rfl
theorem ti212 : tiOf Tryz.prog 212 = some ⟨65, 65, .array 65 5, .agg [.p (.int .u8 0), .p (.int .u8 0), .p (.int .u8 0), .p (.int .u8 0), .p (.int .u8 0), .p (.int .u8 0), .p (.int .u8 0), .p (.int .u8 0), .p (.int .u8 0), .p (.int .u8 0), .p (.int .u8 0), .p (.int .u8 0), .p (.int .u8 0), .p (.int .u8 0), .p (.int .u8 0), .p (.int .u8 0), .p (.int .u8 0), .p (.int .u8 0), .p (.int .u8 0), .p (.int .u8 0), .p (.int .u8 0), .p (.int .u8 0), .p (.int .u8 0), .p (.int .u8 0), .p (.int .u8 0), .p (.int .u8 0), .p (.int .u8 0), .p (.int .u8 0), .p (.int .u8 0), .p (.int .u8 0), .p (.int .u8 0), .p (.int .u8 0), .p (.int .u8 0), .p (.int .u8 0), .p (.int .u8 0), .p (.int .u8 0), .p (.int .u8 0), .p (.int .u8 0), .p (.int .u8 0), .p (.int .u8 0), .p (.int .u8 0), .p (.int .u8 0), .p (.int .u8 0), .p (.int .u8 0), .p (.int .u8 0), .p (.int .u8 0), .p (.int .u8 0), .p (.int .u8 0), .p (.int .u8 0), .p (.int .u8 0), .p (.int .u8 0), .p (.int .u8 0), .p (.int .u8 0), .p (.int .u8 0), .p (.int .u8 0), .p (.int .u8 0), .p (.int .u8 0), .p (.int .u8 0), .p (.int .u8 0), .p (.int .u8 0), .p (.int .u8 0), .p (.int .u8 0), .p (.int .u8 0), .p (.int .u8 0), .p (.int .u8 0)]⟩ := by kernel_rfl
theorem ti215 : tiOf Tryz.prog 215 = some ⟨1, 8, .int .u64, .p (.int .u64 0)⟩ := by kernel_rfl
theorem ti219 : tiOf Tryz.prog 219 = some ⟨1, 8, .ptr 3, .np⟩ := by kernel_rfl
theorem ti222 : tiOf Tryz.prog 222 = some ⟨256, 256, .array 256 5, .agg [.p (.int .u8 0), .p (.int .u8 0), .p (.int .u8 0), .p (.int .u8 0), .p (.int .u8 0), .p (.int .u8 0), .p (.int .u8 0), .p (.int .u8 0), .p (.int .u8 0), .p (.int .u8 0), .p (.int .u8 0), .p (.int .u8 0), .p (.int .u8 0), .p (.int .u8 0), .p (.int .u8 0), .p (.int .u8 0), .p (.int .u8 0), .p (.int .u8 0), .p (.int .u8 0), .p (.int .u8 0), .p (.int .u8 0), .p (.int .u8 0), .p (.int .u8 0), .p (.int .u8 0), .p (.int .u8 0), .p (.int .u8 0), .p (.int .u8 0), .p (.int .u8 0), .p (.int .u8 0), .p (.int .u8 0), .p (.int .u8 0), .p (.int .u8 0), .p (.int .u8 0), .p (.int .u8 0), .p (.int .u8 0), .p (.int .u8 0), .p (.int .u8 0), .p (.int .u8 0), .p (.int .u8 0), .p (.int .u8 0), .p (.int .u8 0), .p (.int .u8 0), .p (.int .u8 0), .p (.int .u8 0), .p (.int .u8 0), .p (.int .u8 0), .p (.int .u8 0), .p (.int .u8 0), .p (.int .u8 0), .p (.int .u8 0), .p (.int .u8 0), .p (.int .u8 0), .p (.int .u8 0), .p (.int .u8 0), .p (.int .u8 0), .p (.int .u8 0), .p (.int .u8 0), .p (.int .u8 0), .p (.int .u8 0), .p (.int .u8 0), .p (.int .u8 0), .p (.int .u8 0), .p (.int .u8 0), .p (.int .u8 0), .p (.int .u8 0), .p (.int .u8 0), .p (.int .u8 0), .p (.int .u8 0), .p (.int .u8 0), .p (.int .u8 0), .p (.int .u8 0), .p (.int .u8 0), .p (.int .u8 0), .p (.int .u8 0), .p (.int .u8 0), .p (.int .u8 0), .p (.int .u8 0), .p (.int .u8 0), .p (.int .u8 0), .p (.int .u8 0), .p (.int .u8 0), .p (.int .u8 0), .p (.int .u8 0), .p (.int .u8 0), .p (.int .u8 0), .p (.int .u8 0), .p (.int .u8 0), .p (.int .u8 0), .p (.int .u8 0), .p (.int .u8 0), .p (.int .u8 0), .p (.int .u8 0), .p (.int .u8 0), .p (.int .u8 0), .p (.int .u8 0), .p (.int .u8 0), .p (.int .u8 0), .p (.int .u8 0), .p (.int .u8 0), .p (.int .u8 0), .p (.int .u8 0), .p (.int .u8 0), .p (.int .u8 0), .p (.int .u8 0), .p (.int .u8 0), .p (.int .u8 0), .p (.int .u8 0), .p (.int .u8 0), .p (.int .u8 0), .p (.int .u8 0), .p (.int .u8 0), .p (.int .u8 0), .p (.int .u8 0), .p (.int .u8 0), .p (.int .u8 0), .p (.int .u8 0), .p (.int .u8 0), .p (.int .u8 0), .p (.int .u8 0), .p (.int .u8 0), .p (.int .u8 0), .p (.int .u8 0), .p (.int .u8 0), .p (.int .u8 0), .p (.int .u8 0), .p (.int .u8 0), .p (.int .u8 0), .p (.int .u8 0), .p (.int .u8 0), .p (.int .u8 0), .p (.int .u8 0), .p (.int .u8 0), .p (.int .u8 0), .p (.int .u8 0), .p (.int .u8 0), .p (.int .u8 0), .p (.int .u8 0), .p (.int .u8 0), .p (.int .u8 0), .p (.int .u8 0), .p (.int .u8 0), .p (.int .u8 0), .p (.int .u8 0), .p (.int .u8 0), .p (.int .u8 0), .p (.int .u8 0), .p (.int .u8 0), .p (.int .u8 0), .p (.int .u8 0), .p (.int .u8 0), .p (.int .u8 0), .p (.int .u8 0), .p (.int .u8 0), .p (.int .u8 0), .p (.int .u8 0), .p (.int .u8 0), .p (.int .u8 0), .p (.int .u8 0), .p (.int .u8 0), .p (.int .u8 0), .p (.int .u8 0), .p (.int .u8 0), .p (.int .u8 0), .p (.int .u8 0), .p (.int .u8 0), .p (.int .u8 0), .p (.int .u8 0), .p (.int .u8 0), .p (.int .u8 0), .p (.int .u8 0), .p (.int .u8 0), .p (.int .u8 0), .p (.int .u8 0), .p (.int .u8 0), .p (.int .u8 0), .p (.int .u8 0), .p (.int .u8 0), .p (.int .u8 0), .p (.int .u8 0), .p (.int .u8 0), .p (.int .u8 0), .p (.int .u8 0), .p (.int .u8 0), .p (.int .u8 0), .p (.int .u8 0), .p (.int .u8 0), .p (.int .u8 0), .p (.int .u8 0), .p (.int .u8 0), .p (.int .u8 0), .p (.int .u8 0), .p (.int .u8 0), .p (.int .u8 0), .p (.int .u8 0), .p (.int .u8 0), .p (.int .u8 0), .p (.int .u8 0), .p (.int .u8 0), .p (.int .u8 0), .p (.int .u8 0), .p (.int .u8 0), .p (.int .u8 0), .p (.int .u8 0), .p (.int .u8 0), .p (.int .u8 0), .p (.int .u8 0), .p (.int .u8 0), .p (.int .u8 0), .p (.int .u8 0), .p (.int .u8 0), .p (.int .u8 0), .p (.int .u8 0), .p (.int .u8 0), .p (.int .u8 0), .p (.int .u8 0), .p (.int .u8 0), .p (.int .u8 0), .p (.int .u8 0), .p (.int .u8 0), .p (.int .u8 0), .p (.int .u8 0), .p (.int .u8 0), .p (.int .u8 0), .p (.int .u8 0), .p (.int .u8 0), .p (.int .u8 0), .p (.int .u8 0), .p (.int .u8 0), .p (.int .u8 0), .p (.int .u8 0), .p (.int .u8 0), .p (.int .u8 0), .p (.int .u8 0), .p (.int .u8 0), .p (.int .u8 0), .p (.int .u8 0), .p (.int .u8 0), .p (.int .u8 0), .p (.int .u8 0), .p (.int .u8 0), .p (.int .u8 0), .p (.int .u8 0), .p (.int .u8 0), .p (.int .u8 0), .p (.int .u8 0), .p (.int .u8 0), .p (.int .u8 0), .p (.int .u8 0), .p (.int .u8 0), .p (.int .u8 0), .p (.int .u8 0), .p (.int .u8 0), .p (.int .u8 0), .p (.int .u8 0), .p (.int .u8 0), .p (.int .u8 0)]⟩ := by kernel_rfl
theorem ti223 : tiOf Tryz.prog 223 = some ⟨2, 2, .struct [(0, 5), (1, 5)], .agg [.p (.int .u8 0), .p (.int .u8 0)]⟩ := by kernel_rfl
theorem fl223 : flatT Tryz.prog 223 = some [.int, .int] := by kernel_rfl
theorem ti224 : tiOf Tryz.prog 224 = some ⟨2, 2, .struct [(0, 5), (1, 5)], .agg [.p (.int .u8 0), .p (.int .u8 0)]⟩ := by kernel_rfl
theorem fl224 : flatT Tryz.prog 224 = some [.int, .int] := by kernel_rfl
theorem ti225 : tiOf Tryz.prog 225 = some ⟨32, 32, .array 16 224, .agg [.p (.int .u8 0), .p (.int .u8 0), .p (.int .u8 0), .p (.int .u8 0), .p (.int .u8 0), .p (.int .u8 0), .p (.int .u8 0), .p (.int .u8 0), .p (.int .u8 0), .p (.int .u8 0), .p (.int .u8 0), .p (.int .u8 0), .p (.int .u8 0), .p (.int .u8 0), .p (.int .u8 0), .p (.int .u8 0), .p (.int .u8 0), .p (.int .u8 0), .p (.int .u8 0), .p (.int .u8 0), .p (.int .u8 0), .p (.int .u8 0), .p (.int .u8 0), .p (.int .u8 0), .p (.int .u8 0), .p (.int .u8 0), .p (.int .u8 0), .p (.int .u8 0), .p (.int .u8 0), .p (.int .u8 0), .p (.int .u8 0), .p (.int .u8 0)]⟩ := by kernel_rfl
theorem ti227 : tiOf Tryz.prog 227 = some ⟨1, 8, .ptr 215, .np⟩ := by kernel_rfl
theorem ti229 : tiOf Tryz.prog 229 = some ⟨32, 32, .array 32 5, .agg [.p (.int .u8 0), .p (.int .u8 0), .p (.int .u8 0), .p (.int .u8 0), .p (.int .u8 0), .p (.int .u8 0), .p (.int .u8 0), .p (.int .u8 0), .p (.int .u8 0), .p (.int .u8 0), .p (.int .u8 0), .p (.int .u8 0), .p (.int .u8 0), .p (.int .u8 0), .p (.int .u8 0), .p (.int .u8 0), .p (.int .u8 0), .p (.int .u8 0), .p (.int .u8 0), .p (.int .u8 0), .p (.int .u8 0), .p (.int .u8 0), .p (.int .u8 0), .p (.int .u8 0), .p (.int .u8 0), .p (.int .u8 0), .p (.int .u8 0), .p (.int .u8 0), .p (.int .u8 0), .p (.int .u8 0), .p (.int .u8 0), .p (.int .u8 0)]⟩ := by kernel_rfl
theorem ti230 : tiOf Tryz.prog 230 = some ⟨64, 64, .array 64 5, .agg [.p (.int .u8 0), .p (.int .u8 0), .p (.int .u8 0), .p (.int .u8 0), .p (.int .u8 0), .p (.int .u8 0), .p (.int .u8 0), .p (.int .u8 0), .p (.int .u8 0), .p (.int .u8 0), .p (.int .u8 0), .p (.int .u8 0), .p (.int .u8 0), .p (.int .u8 0), .p (.int .u8 0), .p (.int .u8 0), .p (.int .u8 0), .p (.int .u8 0), .p (.int .u8 0), .p (.int .u8 0), .p (.int .u8 0), .p (.int .u8 0), .p (.int .u8 0), .p (.int .u8 0), .p (.int .u8 0), .p (.int .u8 0), .p (.int .u8 0), .p (.int .u8 0), .p (.int .u8 0), .p (.int .u8 0), .p (.int .u8 0), .p (.int .u8 0), .p (.int .u8 0), .p (.int .u8 0), .p (.int .u8 0), .p (.int .u8 0), .p (.int .u8 0), .p (.int .u8 0), .p (.int .u8 0), .p (.int .u8 0), .p (.int .u8 0), .p (.int .u8 0), .p (.int .u8 0), .p (.int .u8 0), .p (.int .u8 0), .p (.int .u8 0), .p (.int .u8 0), .p (.int .u8 0), .p (.int .u8 0), .p (.int .u8 0), .p (.int .u8 0), .p (.int .u8 0), .p (.int .u8 0), .p (.int .u8 0), .p (.int .u8 0), .p (.int .u8 0), .p (.int .u8 0), .p (.int .u8 0), .p (.int .u8 0), .p (.int .u8 0), .p (.int .u8 0), .p (.int .u8 0), .p (.int .u8 0), .p (.int .u8 0)]⟩ := by kernel_rfl
theorem enters2 : Enters Tryz.prog 2 := fun args w => Tryz.call2 args w
theorem enters3 : Enters Tryz.prog 3 := fun args w => Tryz.call3 args w
theorem enters4 : Enters Tryz.prog 4 := fun args w => Tryz.call4 args w
theorem enters5 : Enters Tryz.prog 5 := fun args w => Tryz.call5 args w
theorem enters6 : Enters Tryz.prog 6 := fun args w => Tryz.call6 args w
theorem enters7 : Enters Tryz.prog 7 := fun args w => Tryz.call7 args w
theorem enters8 : Enters Tryz.prog 8 := fun args w => Tryz.call8 args w
theorem enters9 : Enters Tryz.prog 9 := fun args w => Tryz.call9 args w
theorem enters10 : Enters Tryz.prog 10 := fun args w => Tryz.call10 args w
theorem enters11 : Enters Tryz.prog 11 := fun args w => Tryz.call11 args w
theorem enters12 : Enters Tryz.prog 12 := fun args w => Tryz.call12 args w
theorem enters13 : Enters Tryz.prog 13 := fun args w => Tryz.call13 args w
theorem enters14 : Enters Tryz.prog 14 := fun args w => Tryz.call14 args w
theorem enters15 : Enters Tryz.prog 15 := fun args w => Tryz.call15 args w
theorem enters16 : Enters Tryz.prog 16 := fun args w => Tryz.call16 args w
theorem enters17 : Enters Tryz.prog 17 := fun args w => Tryz.call17 args w
theorem enters18 : Enters Tryz.prog 18 := fun args w => Tryz.call18 args w
theorem enters19 : Enters Tryz.prog 19 := fun args w => Tryz.call19 args w
theorem enters20 : Enters Tryz.prog 20 := fun args w => Tryz.call20 args w
theorem enters21 : Enters Tryz.prog 21 := fun args w => Tryz.call21 args w
theorem enters22 : Enters Tryz.prog 22 := fun args w => Tryz.call22 args w
theorem enters23 : Enters Tryz.prog 23 := fun args w => Tryz.call23 args w
theorem enters24 : Enters Tryz.prog 24 := fun args w => Tryz.call24 args w
theorem enters25 : Enters Tryz.prog 25 := fun args w => Tryz.call25 args w
theorem enters26 : Enters Tryz.prog 26 := fun args w => Tryz.call26 args w
theorem enters27 : Enters Tryz.prog 27 := fun args w => Tryz.call27 args w
theorem enters28 : Enters Tryz.prog 28 := fun args w => Tryz.call28 args w
theorem enters29 : Enters Tryz.prog 29 := fun args w => Tryz.call29 args w
theorem enters30 : Enters Tryz.prog 30 := fun args w => Tryz.call30 args w
theorem enters31 : Enters Tryz.prog 31 := fun args w => Tryz.call31 args w
theorem enters32 : Enters Tryz.prog 32 := fun args w => Tryz.call32 args w
theorem enters33 : Enters Tryz.prog 33 := fun args w => Tryz.call33 args w
theorem enters34 : Enters Tryz.prog 34 := fun args w => Tryz.call34 args w
theorem enters35 : Enters Tryz.prog 35 := fun args w => Tryz.call35 args w
theorem enters36 : Enters Tryz.prog 36 := fun args w => Tryz.call36 args w
theorem enters37 : Enters Tryz.prog 37 := fun args w => Tryz.call37 args w
theorem enters38 : Enters Tryz.prog 38 := fun args w => Tryz.call38 args w
theorem enters39 : Enters Tryz.prog 39 := fun args w => Tryz.call39 args w
theorem enters40 : Enters Tryz.prog 40 := fun args w => Tryz.call40 args w
theorem enters41 : Enters Tryz.prog 41 := fun args w => Tryz.call41 args w
theorem enters42 : Enters Tryz.prog 42 := fun args w => Tryz.call42 args w
theorem enters43 : Enters Tryz.prog 43 := fun args w => Tryz.call43 args w
theorem enters44 : Enters Tryz.prog 44 := fun args w => Tryz.call44 args w
theorem enters45 : Enters Tryz.prog 45 := fun args w => Tryz.call45 args w
theorem enters46 : Enters Tryz.prog 46 := fun args w => Tryz.call46 args w
theorem enters47 : Enters Tryz.prog 47 := fun args w => Tryz.call47 args w
theorem enters48 : Enters Tryz.prog 48 := fun args w => Tryz.call48 args w
theorem enters49 : Enters Tryz.prog 49 := fun args w => Tryz.call49 args w
theorem enters50 : Enters Tryz.prog 50 := fun args w => Tryz.call50 args w
theorem enters51 : Enters Tryz.prog 51 := fun args w => Tryz.call51 args w
theorem enters52 : Enters Tryz.prog 52 := fun args w => Tryz.call52 args w
theorem enters53 : Enters Tryz.prog 53 := fun args w => Tryz.call53 args w
theorem enters54 : Enters Tryz.prog 54 := fun args w => Tryz.call54 args w
theorem enters55 : Enters Tryz.prog 55 := fun args w => Tryz.call55 args w
theorem enters56 : Enters Tryz.prog 56 := fun args w => Tryz.call56 args w
theorem enters57 : Enters Tryz.prog 57 := fun args w => Tryz.call57 args w
theorem enters58 : Enters Tryz.prog 58 := fun args w => Tryz.call58 args w
theorem enters59 : Enters Tryz.prog 59 := fun args w => Tryz.call59 args w
theorem enters60 : Enters Tryz.prog 60 := fun args w => Tryz.call60 args w
theorem enters61 : Enters Tryz.prog 61 := fun args w => Tryz.call61 args w
theorem enters62 : Enters Tryz.prog 62 := fun args w => Tryz.call62 args w
theorem enters63 : Enters Tryz.prog 63 := fun args w => Tryz.call63 args w
theorem enters64 : Enters Tryz.prog 64 := fun args w => Tryz.call64 args w
theorem enters65 : Enters Tryz.prog 65 := fun args w => Tryz.call65 args w
theorem enters66 : Enters Tryz.prog 66 := fun args w => Tryz.call66 args w
theorem enters67 : Enters Tryz.prog 67 := fun args w => Tryz.call67 args w
theorem enters68 : Enters Tryz.prog 68 := fun args w => Tryz.call68 args w
theorem enters69 : Enters Tryz.prog 69 := fun args w => Tryz.call69 args w
theorem enters70 : Enters Tryz.prog 70 := fun args w => Tryz.call70 args w
theorem enters71 : Enters Tryz.prog 71 := fun args w => Tryz.call71 args w
theorem enters72 : Enters Tryz.prog 72 := fun args w => Tryz.call72 args w
theorem enters73 : Enters Tryz.prog 73 := fun args w => Tryz.call73 args w
theorem enters74 : Enters Tryz.prog 74 := fun args w => Tryz.call74 args w
theorem enters75 : Enters Tryz.prog 75 := fun args w => Tryz.call75 args w
theorem enters76 : Enters Tryz.prog 76 := fun args w => Tryz.call76 args w
theorem enters77 : Enters Tryz.prog 77 := fun args w => Tryz.call77 args w
theorem enters78 : Enters Tryz.prog 78 := fun args w => Tryz.call78 args w
theorem enters79 : Enters Tryz.prog 79 := fun args w => Tryz.call79 args w
theorem enters80 : Enters Tryz.prog 80 := fun args w => Tryz.call80 args w
theorem enters81 : Enters Tryz.prog 81 := fun args w => Tryz.call81 args w
theorem enters82 : Enters Tryz.prog 82 := fun args w => Tryz.call82 args w
theorem enters83 : Enters Tryz.prog 83 := fun args w => Tryz.call83 args w
theorem enters84 : Enters Tryz.prog 84 := fun args w => Tryz.call84 args w
theorem enters85 : Enters Tryz.prog 85 := fun args w => Tryz.call85 args w
theorem enters86 : Enters Tryz.prog 86 := fun args w => Tryz.call86 args w
theorem enters87 : Enters Tryz.prog 87 := fun args w => Tryz.call87 args w
theorem enters88 : Enters Tryz.prog 88 := fun args w => Tryz.call88 args w
theorem enters89 : Enters Tryz.prog 89 := fun args w => Tryz.call89 args w
theorem enters90 : Enters Tryz.prog 90 := fun args w => Tryz.call90 args w
theorem enters91 : Enters Tryz.prog 91 := fun args w => Tryz.call91 args w
theorem enters92 : Enters Tryz.prog 92 := fun args w => Tryz.call92 args w
theorem enters93 : Enters Tryz.prog 93 := fun args w => Tryz.call93 args w
theorem enters94 : Enters Tryz.prog 94 := fun args w => Tryz.call94 args w
theorem enters95 : Enters Tryz.prog 95 := fun args w => Tryz.call95 args w
theorem enters96 : Enters Tryz.prog 96 := fun args w => Tryz.call96 args w
theorem enters97 : Enters Tryz.prog 97 := fun args w => Tryz.call97 args w
theorem enters98 : Enters Tryz.prog 98 := fun args w => Tryz.call98 args w
theorem enters99 : Enters Tryz.prog 99 := fun args w => Tryz.call99 args w
theorem enters100 : Enters Tryz.prog 100 := fun args w => Tryz.call100 args w
theorem enters101 : Enters Tryz.prog 101 := fun args w => Tryz.call101 args w
theorem enters102 : Enters Tryz.prog 102 := fun args w => Tryz.call102 args w
theorem enters103 : Enters Tryz.prog 103 := fun args w => Tryz.call103 args w
theorem enters104 : Enters Tryz.prog 104 := fun args w => Tryz.call104 args w
theorem enters105 : Enters Tryz.prog 105 := fun args w => Tryz.call105 args w
theorem enters106 : Enters Tryz.prog 106 := fun args w => Tryz.call106 args w
theorem enters107 : Enters Tryz.prog 107 := fun args w => Tryz.call107 args w
theorem enters108 : Enters Tryz.prog 108 := fun args w => Tryz.call108 args w
theorem enters109 : Enters Tryz.prog 109 := fun args w => Tryz.call109 args w
theorem enters110 : Enters Tryz.prog 110 := fun args w => Tryz.call110 args w
theorem enters111 : Enters Tryz.prog 111 := fun args w => Tryz.call111 args w
theorem enters112 : Enters Tryz.prog 112 := fun args w => Tryz.call112 args w
theorem enters113 : Enters Tryz.prog 113 := fun args w => Tryz.call113 args w
theorem enters114 : Enters Tryz.prog 114 := fun args w => Tryz.call114 args w
theorem enters115 : Enters Tryz.prog 115 := fun args w => Tryz.call115 args w
theorem enters116 : Enters Tryz.prog 116 := fun args w => Tryz.call116 args w
theorem enters118 : Enters Tryz.prog 118 := fun args w => Tryz.call118 args w
theorem enters119 : Enters Tryz.prog 119 := fun args w => Tryz.call119 args w
theorem enters120 : Enters Tryz.prog 120 := fun args w => Tryz.call120 args w
theorem enters121 : Enters Tryz.prog 121 := fun args w => Tryz.call121 args w
theorem enters122 : Enters Tryz.prog 122 := fun args w => Tryz.call122 args w
theorem enters123 : Enters Tryz.prog 123 := fun args w => Tryz.call123 args w
theorem enters124 : Enters Tryz.prog 124 := fun args w => Tryz.call124 args w
theorem enters125 : Enters Tryz.prog 125 := fun args w => Tryz.call125 args w
theorem enters126 : Enters Tryz.prog 126 := fun args w => Tryz.call126 args w
theorem enters127 : Enters Tryz.prog 127 := fun args w => Tryz.call127 args w
theorem enters128 : Enters Tryz.prog 128 := fun args w => Tryz.call128 args w
theorem enters129 : Enters Tryz.prog 129 := fun args w => Tryz.call129 args w
theorem enters130 : Enters Tryz.prog 130 := fun args w => Tryz.call130 args w
theorem enters131 : Enters Tryz.prog 131 := fun args w => Tryz.call131 args w
theorem enters132 : Enters Tryz.prog 132 := fun args w => Tryz.call132 args w
theorem enters133 : Enters Tryz.prog 133 := fun args w => Tryz.call133 args w
theorem enters134 : Enters Tryz.prog 134 := fun args w => Tryz.call134 args w
theorem enters135 : Enters Tryz.prog 135 := fun args w => Tryz.call135 args w
theorem enters136 : Enters Tryz.prog 136 := fun args w => Tryz.call136 args w
theorem enters137 : Enters Tryz.prog 137 := fun args w => Tryz.call137 args w
theorem enters138 : Enters Tryz.prog 138 := fun args w => Tryz.call138 args w
theorem enters139 : Enters Tryz.prog 139 := fun args w => Tryz.call139 args w
theorem enters140 : Enters Tryz.prog 140 := fun args w => Tryz.call140 args w
theorem enters141 : Enters Tryz.prog 141 := fun args w => Tryz.call141 args w
theorem enters142 : Enters Tryz.prog 142 := fun args w => Tryz.call142 args w
theorem enters143 : Enters Tryz.prog 143 := fun args w => Tryz.call143 args w
theorem enters144 : Enters Tryz.prog 144 := fun args w => Tryz.call144 args w
theorem enters145 : Enters Tryz.prog 145 := fun args w => Tryz.call145 args w
theorem enters146 : Enters Tryz.prog 146 := fun args w => Tryz.call146 args w
theorem enters147 : Enters Tryz.prog 147 := fun args w => Tryz.call147 args w
theorem enters148 : Enters Tryz.prog 148 := fun args w => Tryz.call148 args w
theorem enters149 : Enters Tryz.prog 149 := fun args w => Tryz.call149 args w
theorem enters150 : Enters Tryz.prog 150 := fun args w => Tryz.call150 args w
theorem enters152 : Enters Tryz.prog 152 := fun args w => Tryz.call152 args w
theorem enters153 : Enters Tryz.prog 153 := fun args w => Tryz.call153 args w
theorem enters155 : Enters Tryz.prog 155 := fun args w => Tryz.call155 args w
theorem enters156 : Enters Tryz.prog 156 := fun args w => Tryz.call156 args w
theorem enters157 : Enters Tryz.prog 157 := fun args w => Tryz.call157 args w
theorem enters158 : Enters Tryz.prog 158 := fun args w => Tryz.call158 args w
theorem enters159 : Enters Tryz.prog 159 := fun args w => Tryz.call159 args w
theorem enters160 : Enters Tryz.prog 160 := fun args w => Tryz.call160 args w
theorem enters161 : Enters Tryz.prog 161 := fun args w => Tryz.call161 args w
theorem enters162 : Enters Tryz.prog 162 := fun args w => Tryz.call162 args w
theorem enters163 : Enters Tryz.prog 163 := fun args w => Tryz.call163 args w
theorem enters164 : Enters Tryz.prog 164 := fun args w => Tryz.call164 args w
theorem enters165 : Enters Tryz.prog 165 := fun args w => Tryz.call165 args w
theorem enters166 : Enters Tryz.prog 166 := fun args w => Tryz.call166 args w
theorem enters167 : Enters Tryz.prog 167 := fun args w => Tryz.call167 args w
theorem enters168 : Enters Tryz.prog 168 := fun args w => Tryz.call168 args w
theorem enters169 : Enters Tryz.prog 169 := fun args w => Tryz.call169 args w
theorem enters170 : Enters Tryz.prog 170 := fun args w => Tryz.call170 args w
theorem enters171 : Enters Tryz.prog 171 := fun args w => Tryz.call171 args w
theorem enters172 : Enters Tryz.prog 172 := fun args w => Tryz.call172 args w
theorem enters173 : Enters Tryz.prog 173 := fun args w => Tryz.call173 args w
theorem enters174 : Enters Tryz.prog 174 := fun args w => Tryz.call174 args w
theorem enters175 : Enters Tryz.prog 175 := fun args w => Tryz.call175 args w
theorem enters176 : Enters Tryz.prog 176 := fun args w => Tryz.call176 args w
theorem enters177 : Enters Tryz.prog 177 := fun args w => Tryz.call177 args w
theorem enters178 : Enters Tryz.prog 178 := fun args w => Tryz.call178 args w
theorem enters180 : Enters Tryz.prog 180 := fun args w => Tryz.call180 args w
theorem enters181 : Enters Tryz.prog 181 := fun args w => Tryz.call181 args w
theorem enters182 : Enters Tryz.prog 182 := fun args w => Tryz.call182 args w
theorem enters183 : Enters Tryz.prog 183 := fun args w => Tryz.call183 args w
theorem enters184 : Enters Tryz.prog 184 := fun args w => Tryz.call184 args w
theorem enters185 : Enters Tryz.prog 185 := fun args w => Tryz.call185 args w
theorem enters186 : Enters Tryz.prog 186 := fun args w => Tryz.call186 args w
theorem enters187 : Enters Tryz.prog 187 := fun args w => Tryz.call187 args w
theorem enters188 : Enters Tryz.prog 188 := fun args w => Tryz.call188 args w
theorem enters189 : Enters Tryz.prog 189 := fun args w => Tryz.call189 args w
theorem enters190 : Enters Tryz.prog 190 := fun args w => Tryz.call190 args w
theorem enters191 : Enters Tryz.prog 191 := fun args w => Tryz.call191 args w
theorem enters192 : Enters Tryz.prog 192 := fun args w => Tryz.call192 args w
theorem enters194 : Enters Tryz.prog 194 := fun args w => Tryz.call194 args w
theorem enters195 : Enters Tryz.prog 195 := fun args w => Tryz.call195 args w
theorem enters221 : Enters Tryz.prog 221 := fun args w => Tryz.call221 args w
theorem mixed : Tryz.prog.follows .mixedOrders = true := by kernel_rfl
attribute [go_sem] ti2 ti3 ti4 ti5 ti9 ti12 ti13 ti21 ti22 ti24 ti25 ti28
attribute [go_sem] ti29 ti30 ti31 fl31 ti32 fl32 ti33 ti34 ti36 ti37 ti38 ti39
attribute [go_sem] ti50 ti52 ti53 ti54 ti64 ti69 ti70 ti71 ti72 ti74 fl74 ti75
attribute [go_sem] fl75 ti76 fl76 ti77 fl77 ti81 ti83 fl83 ti84 fl84 ti85 ti88
attribute [go_sem] ti89 ti90 ti91 ti110 ti111 ti112 ti116 ti134 ti140 ti143 ti147 ti148
attribute [go_sem] ti153 ti171 ti174 ti187 ti188 ti189 ti192 ti203 ti211 ti212 ti215 ti219
attribute [go_sem] ti222 ti223 fl223 ti224 fl224 ti225 ti227 ti229 ti230 Tryz.ntmps2 Tryz.results2 Tryz.ntmps3
attribute [go_sem] Tryz.results3 Tryz.ntmps4 Tryz.results4 Tryz.ntmps5 Tryz.results5 Tryz.ntmps6 Tryz.results6 Tryz.ntmps7 Tryz.results7 Tryz.ntmps8 Tryz.results8 Tryz.ntmps9
attribute [go_sem] Tryz.results9 Tryz.ntmps10 Tryz.results10 Tryz.ntmps11 Tryz.results11 Tryz.ntmps12 Tryz.results12 Tryz.ntmps13 Tryz.results13 Tryz.ntmps14 Tryz.results14 Tryz.ntmps15
attribute [go_sem] Tryz.results15 Tryz.ntmps16 Tryz.results16 Tryz.ntmps17 Tryz.results17 Tryz.ntmps18 Tryz.results18 Tryz.ntmps19 Tryz.results19 Tryz.ntmps20 Tryz.results20 Tryz.ntmps21
attribute [go_sem] Tryz.results21 Tryz.ntmps22 Tryz.results22 Tryz.ntmps23 Tryz.results23 Tryz.ntmps24 Tryz.results24 Tryz.ntmps25 Tryz.results25 Tryz.ntmps26 Tryz.results26 Tryz.ntmps27
attribute [go_sem] Tryz.results27 Tryz.ntmps28 Tryz.results28 Tryz.ntmps29 Tryz.results29 Tryz.ntmps30 Tryz.results30 Tryz.ntmps31 Tryz.results31 Tryz.ntmps32 Tryz.results32 Tryz.ntmps33
attribute [go_sem] Tryz.results33 Tryz.ntmps34 Tryz.results34 Tryz.ntmps35 Tryz.results35 Tryz.ntmps36 Tryz.results36 Tryz.ntmps37 Tryz.results37 Tryz.ntmps38 Tryz.results38 Tryz.ntmps39
attribute [go_sem] Tryz.results39 Tryz.ntmps40 Tryz.results40 Tryz.ntmps41 Tryz.results41 Tryz.ntmps42 Tryz.results42 Tryz.ntmps43 Tryz.results43 Tryz.ntmps44 Tryz.results44 Tryz.ntmps45
attribute [go_sem] Tryz.results45 Tryz.ntmps46 Tryz.results46 Tryz.ntmps47 Tryz.results47 Tryz.ntmps48 Tryz.results48 Tryz.ntmps49 Tryz.results49 Tryz.ntmps50 Tryz.results50 Tryz.ntmps51
attribute [go_sem] Tryz.results51 Tryz.ntmps52 Tryz.results52 Tryz.ntmps53 Tryz.results53 Tryz.ntmps54 Tryz.results54 Tryz.ntmps55 Tryz.results55 Tryz.ntmps56 Tryz.results56 Tryz.ntmps57
attribute [go_sem] Tryz.results57 Tryz.ntmps58 Tryz.results58 Tryz.ntmps59 Tryz.results59 Tryz.ntmps60 Tryz.results60 Tryz.ntmps61 Tryz.results61 Tryz.ntmps62 Tryz.results62 Tryz.ntmps63
attribute [go_sem] Tryz.results63 Tryz.ntmps64 Tryz.results64 Tryz.ntmps65 Tryz.results65 Tryz.ntmps66 Tryz.results66 Tryz.ntmps67 Tryz.results67 Tryz.ntmps68 Tryz.results68 Tryz.ntmps69
attribute [go_sem] Tryz.results69 Tryz.ntmps70 Tryz.results70 Tryz.ntmps71 Tryz.results71 Tryz.ntmps72 Tryz.results72 Tryz.ntmps73 Tryz.results73 Tryz.ntmps74 Tryz.results74 Tryz.ntmps75
attribute [go_sem] Tryz.results75 Tryz.ntmps76 Tryz.results76 Tryz.ntmps77 Tryz.results77 Tryz.ntmps78 Tryz.results78 Tryz.ntmps79 Tryz.results79 Tryz.ntmps80 Tryz.results80 Tryz.ntmps81
attribute [go_sem] Tryz.results81 Tryz.ntmps82 Tryz.results82 Tryz.ntmps83 Tryz.results83 Tryz.ntmps84 Tryz.results84 Tryz.ntmps85 Tryz.results85 Tryz.ntmps86 Tryz.results86 Tryz.ntmps87
attribute [go_sem] Tryz.results87 Tryz.ntmps88 Tryz.results88 Tryz.ntmps89 Tryz.results89 Tryz.ntmps90 Tryz.results90 Tryz.ntmps91 Tryz.results91 Tryz.ntmps92 Tryz.results92 Tryz.ntmps93
attribute [go_sem] Tryz.results93 Tryz.ntmps94 Tryz.results94 Tryz.ntmps95 Tryz.results95 Tryz.ntmps96 Tryz.results96 Tryz.ntmps97 Tryz.results97 Tryz.ntmps98 Tryz.results98 Tryz.ntmps99
attribute [go_sem] Tryz.results99 Tryz.ntmps100 Tryz.results100 Tryz.ntmps101 Tryz.results101 Tryz.ntmps102 Tryz.results102 Tryz.ntmps103 Tryz.results103 Tryz.ntmps104 Tryz.results104 Tryz.ntmps105
attribute [go_sem] Tryz.results105 Tryz.ntmps106 Tryz.results106 Tryz.ntmps107 Tryz.results107 Tryz.ntmps108 Tryz.results108 Tryz.ntmps109 Tryz.results109 Tryz.ntmps110 Tryz.results110 Tryz.ntmps111
attribute [go_sem] Tryz.results111 Tryz.ntmps112 Tryz.results112 Tryz.ntmps113 Tryz.results113 Tryz.ntmps114 Tryz.results114 Tryz.ntmps115 Tryz.results115 Tryz.ntmps116 Tryz.results116 Tryz.ntmps118
attribute [go_sem] Tryz.results118 Tryz.ntmps119 Tryz.results119 Tryz.ntmps120 Tryz.results120 Tryz.ntmps121 Tryz.results121 Tryz.ntmps122 Tryz.results122 Tryz.ntmps123 Tryz.results123 Tryz.ntmps124
attribute [go_sem] Tryz.results124 Tryz.ntmps125 Tryz.results125 Tryz.ntmps126 Tryz.results126 Tryz.ntmps127 Tryz.results127 Tryz.ntmps128 Tryz.results128 Tryz.ntmps129 Tryz.results129 Tryz.ntmps130
attribute [go_sem] Tryz.results130 Tryz.ntmps131 Tryz.results131 Tryz.ntmps132 Tryz.results132 Tryz.ntmps133 Tryz.results133 Tryz.ntmps134 Tryz.results134 Tryz.ntmps135 Tryz.results135 Tryz.ntmps136
attribute [go_sem] Tryz.results136 Tryz.ntmps137 Tryz.results137 Tryz.ntmps138 Tryz.results138 Tryz.ntmps139 Tryz.results139 Tryz.ntmps140 Tryz.results140 Tryz.ntmps141 Tryz.results141 Tryz.ntmps142
attribute [go_sem] Tryz.results142 Tryz.ntmps143 Tryz.results143 Tryz.ntmps144 Tryz.results144 Tryz.ntmps145 Tryz.results145 Tryz.ntmps146 Tryz.results146 Tryz.ntmps147 Tryz.results147 Tryz.ntmps148
attribute [go_sem] Tryz.results148 Tryz.ntmps149 Tryz.results149 Tryz.ntmps150 Tryz.results150 Tryz.ntmps152 Tryz.results152 Tryz.ntmps153 Tryz.results153 Tryz.ntmps155 Tryz.results155 Tryz.ntmps156
attribute [go_sem] Tryz.results156 Tryz.ntmps157 Tryz.results157 Tryz.ntmps158 Tryz.results158 Tryz.ntmps159 Tryz.results159 Tryz.ntmps160 Tryz.results160 Tryz.ntmps161 Tryz.results161 Tryz.ntmps162
attribute [go_sem] Tryz.results162 Tryz.ntmps163 Tryz.results163 Tryz.ntmps164 Tryz.results164 Tryz.ntmps165 Tryz.results165 Tryz.ntmps166 Tryz.results166 Tryz.ntmps167 Tryz.results167 Tryz.ntmps168
attribute [go_sem] Tryz.results168 Tryz.ntmps169 Tryz.results169 Tryz.ntmps170 Tryz.results170 Tryz.ntmps171 Tryz.results171 Tryz.ntmps172 Tryz.results172 Tryz.ntmps173 Tryz.results173 Tryz.ntmps174
attribute [go_sem] Tryz.results174 Tryz.ntmps175 Tryz.results175 Tryz.ntmps176 Tryz.results176 Tryz.ntmps177 Tryz.results177 Tryz.ntmps178 Tryz.results178 Tryz.ntmps180 Tryz.results180 Tryz.ntmps181
attribute [go_sem] Tryz.results181 Tryz.ntmps182 Tryz.results182 Tryz.ntmps183 Tryz.results183 Tryz.ntmps184 Tryz.results184 Tryz.ntmps185 Tryz.results185 Tryz.ntmps186 Tryz.results186 Tryz.ntmps187
attribute [go_sem] Tryz.results187 Tryz.ntmps188 Tryz.results188 Tryz.ntmps189 Tryz.results189 Tryz.ntmps190 Tryz.results190 Tryz.ntmps191 Tryz.results191 Tryz.ntmps192 Tryz.results192 Tryz.ntmps194
attribute [go_sem] Tryz.results194 Tryz.ntmps195 Tryz.results195 Tryz.ntmps221 Tryz.results221
end Go.Am
