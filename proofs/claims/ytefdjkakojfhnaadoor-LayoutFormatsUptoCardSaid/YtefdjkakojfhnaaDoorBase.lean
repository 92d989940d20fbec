/- The facts of this seat that the walks use: its types, by their numbers; that its functions are entered. Printed by my gen2.py. -/
import Derived.Test.YtefdjkakojfhnaaDoorAmD
import Derived.Test.YtefdjkakojfhnaaDoorProg
import Derived.KernelRfl
namespace Go.Am
open Go Go.Proofs
set_option maxRecDepth 100000
theorem ti2 : tiOf Tryd.prog 2 = some ⟨1, 8, .int .i64, .p (.int .i64 0)⟩ := by kernel_rfl
theorem ti3 : tiOf Tryd.prog 3 = some ⟨1, 8, .int .i64, .p (.int .i64 0)⟩ := by kernel_rfl
theorem ti4 : tiOf Tryd.prog 4 = some ⟨1, 1, .bool, .p (.bool false)⟩ := by kernel_rfl
theorem ti5 : tiOf Tryd.prog 5 = some ⟨1, 1, .int .u8, .p (.int .u8 0)⟩ := by kernel_rfl
theorem ti9 : tiOf Tryd.prog 9 = some ⟨1, 16, .string, .p (.str [])⟩ := by kernel_rfl
theorem ti12 : tiOf Tryd.prog 12 = some ⟨1, 8, .int .u64, .p (.int .u64 0)⟩ := by kernel_rfl
theorem ti13 : tiOf Tryd.prog 13 = some ⟨2, 24, .struct [(0, 9), (1, 12)], .agg [.p (.str []), .p (.int .u64 0)]⟩ := by kernel_rfl
theorem ti21 : tiOf Tryd.prog 21 = some ⟨1, 4, .int .i32, .p (.int .i32 0)⟩ := by kernel_rfl
theorem ti22 : tiOf Tryd.prog 22 = some ⟨1, 24, .slice 3, .cl []⟩ := by kernel_rfl
theorem ti25 : tiOf Tryd.prog 25 = some ⟨1, 24, .slice 9, .cl []⟩ := by kernel_rfl
theorem ti26 : tiOf Tryd.prog 26 = some ⟨1, 24, .slice 72, .cl []⟩ := by kernel_rfl
theorem ti27 : tiOf Tryd.prog 27 = some ⟨1, 8, .int .i64, .p (.int .i64 0)⟩ := by kernel_rfl
theorem ti32 : tiOf Tryd.prog 32 = some ⟨1, 8, .ptr 34, .np⟩ := by kernel_rfl
theorem ti33 : tiOf Tryd.prog 33 = some ⟨2, 32, .struct [(0, 22), (1, 3)], .agg [.cl [], .p (.int .i64 0)]⟩ := by kernel_rfl
theorem ti34 : tiOf Tryd.prog 34 = some ⟨2, 32, .struct [(0, 22), (1, 3)], .agg [.cl [], .p (.int .i64 0)]⟩ := by kernel_rfl
theorem ti35 : tiOf Tryd.prog 35 = some ⟨1, 24, .slice 5, .cl []⟩ := by kernel_rfl
theorem ti43 : tiOf Tryd.prog 43 = some ⟨1, 24, .slice 59, .cl []⟩ := by kernel_rfl
theorem ti44 : tiOf Tryd.prog 44 = some ⟨1, 24, .slice 82, .cl []⟩ := by kernel_rfl
theorem ti45 : tiOf Tryd.prog 45 = some ⟨1, 24, .slice 22, .cl []⟩ := by kernel_rfl
theorem ti46 : tiOf Tryd.prog 46 = some ⟨1, 24, .slice 86, .cl []⟩ := by kernel_rfl
theorem ti47 : tiOf Tryd.prog 47 = some ⟨4, 32, .struct [(0, 3), (1, 3), (2, 3), (3, 3)], .agg [.p (.int .i64 0), .p (.int .i64 0), .p (.int .i64 0), .p (.int .i64 0)]⟩ := by kernel_rfl
theorem fl47 : flatT Tryd.prog 47 = some [.int, .int, .int, .int] := by kernel_rfl
theorem ti48 : tiOf Tryd.prog 48 = some ⟨4, 32, .struct [(0, 3), (1, 3), (2, 3), (3, 3)], .agg [.p (.int .i64 0), .p (.int .i64 0), .p (.int .i64 0), .p (.int .i64 0)]⟩ := by kernel_rfl
theorem fl48 : flatT Tryd.prog 48 = some [.int, .int, .int, .int] := by kernel_rfl
theorem ti49 : tiOf Tryd.prog 49 = some ⟨8, 128, .struct [(0, 44), (1, 45), (2, 46), (3, 22), (4, 48)], .agg [.cl [], .cl [], .cl [], .cl [], .p (.int .i64 0), .p (.int .i64 0), .p (.int .i64 0), .p (.int .i64 0)]⟩ := by kernel_rfl
theorem ti50 : tiOf Tryd.prog 50 = some ⟨8, 128, .struct [(0, 44), (1, 45), (2, 46), (3, 22), (4, 48)], .agg [.cl [], .cl [], .cl [], .cl [], .p (.int .i64 0), .p (.int .i64 0), .p (.int .i64 0), .p (.int .i64 0)]⟩ := by kernel_rfl
theorem ti54 : tiOf Tryd.prog 54 = some ⟨1, 24, .slice 43, .cl []⟩ := by kernel_rfl
theorem ti58 : tiOf Tryd.prog 58 = some ⟨4, 64, .struct [(0, 3), (1, 3), (2, 25), (3, 22)], .agg [.p (.int .i64 0), .p (.int .i64 0), .cl [], .cl []]⟩ := by kernel_rfl
theorem ti59 : tiOf Tryd.prog 59 = some ⟨4, 64, .struct [(0, 3), (1, 3), (2, 25), (3, 22)], .agg [.p (.int .i64 0), .p (.int .i64 0), .cl [], .cl []]⟩ := by kernel_rfl
theorem ti66 : tiOf Tryd.prog 66 = some ⟨1, 24, .slice 26, .cl []⟩ := by kernel_rfl
theorem ti71 : tiOf Tryd.prog 71 = some ⟨2, 32, .struct [(0, 3), (1, 25)], .agg [.p (.int .i64 0), .cl []]⟩ := by kernel_rfl
theorem ti72 : tiOf Tryd.prog 72 = some ⟨2, 32, .struct [(0, 3), (1, 25)], .agg [.p (.int .i64 0), .cl []]⟩ := by kernel_rfl
theorem ti81 : tiOf Tryd.prog 81 = some ⟨3, 32, .struct [(0, 9), (1, 3), (2, 3)], .agg [.p (.str []), .p (.int .i64 0), .p (.int .i64 0)]⟩ := by kernel_rfl
theorem fl81 : flatT Tryd.prog 81 = some [.str, .int, .int] := by kernel_rfl
theorem ti82 : tiOf Tryd.prog 82 = some ⟨3, 32, .struct [(0, 9), (1, 3), (2, 3)], .agg [.p (.str []), .p (.int .i64 0), .p (.int .i64 0)]⟩ := by kernel_rfl
theorem fl82 : flatT Tryd.prog 82 = some [.str, .int, .int] := by kernel_rfl
theorem ti84 : tiOf Tryd.prog 84 = some ⟨1, 8, .ptr 50, .np⟩ := by kernel_rfl
theorem ti85 : tiOf Tryd.prog 85 = some ⟨6, 56, .struct [(0, 9), (1, 4), (2, 3), (3, 3), (4, 3), (5, 3)], .agg [.p (.str []), .p (.bool false), .p (.int .i64 0), .p (.int .i64 0), .p (.int .i64 0), .p (.int .i64 0)]⟩ := by kernel_rfl
theorem fl85 : flatT Tryd.prog 85 = some [.str, .bool, .int, .int, .int, .int] := by kernel_rfl
theorem ti86 : tiOf Tryd.prog 86 = some ⟨6, 56, .struct [(0, 9), (1, 4), (2, 3), (3, 3), (4, 3), (5, 3)], .agg [.p (.str []), .p (.bool false), .p (.int .i64 0), .p (.int .i64 0), .p (.int .i64 0), .p (.int .i64 0)]⟩ := by kernel_rfl
theorem fl86 : flatT Tryd.prog 86 = some [.str, .bool, .int, .int, .int, .int] := by kernel_rfl
theorem ti87 : tiOf Tryd.prog 87 = some ⟨4, 48, .struct [(0, 3), (1, 22), (2, 3), (3, 3)], .agg [.p (.int .i64 0), .cl [], .p (.int .i64 0), .p (.int .i64 0)]⟩ := by kernel_rfl
theorem ti88 : tiOf Tryd.prog 88 = some ⟨4, 48, .struct [(0, 3), (1, 22), (2, 3), (3, 3)], .agg [.p (.int .i64 0), .cl [], .p (.int .i64 0), .p (.int .i64 0)]⟩ := by kernel_rfl
theorem ti93 : tiOf Tryd.prog 93 = some ⟨3, 40, .struct [(0, 9), (1, 9), (2, 4)], .agg [.p (.str []), .p (.str []), .p (.bool false)]⟩ := by kernel_rfl
theorem fl93 : flatT Tryd.prog 93 = some [.str, .str, .bool] := by kernel_rfl
theorem ti94 : tiOf Tryd.prog 94 = some ⟨3, 40, .struct [(0, 9), (1, 9), (2, 4)], .agg [.p (.str []), .p (.str []), .p (.bool false)]⟩ := by kernel_rfl
theorem fl94 : flatT Tryd.prog 94 = some [.str, .str, .bool] := by kernel_rfl
theorem ti95 : tiOf Tryd.prog 95 = some ⟨21, 280, .array 7 94, .agg [.p (.str []), .p (.str []), .p (.bool false), .p (.str []), .p (.str []), .p (.bool false), .p (.str []), .p (.str []), .p (.bool false), .p (.str []), .p (.str []), .p (.bool false), .p (.str []), .p (.str []), .p (.bool false), .p (.str []), .p (.str []), .p (.bool false), .p (.str []), .p (.str []), .p (.bool false)]⟩ := by kernel_rfl
theorem ti103 : tiOf Tryd.prog 103 = some ⟨1, 8, .ptr 105, .np⟩ := by kernel_rfl
theorem ti104 : tiOf Tryd.prog 104 = some ⟨2, 32, .struct [(0, 103), (1, 35)], .agg [.np, .cl []]⟩ := by kernel_rfl
theorem ti105 : tiOf Tryd.prog 105 = some ⟨2, 32, .struct [(0, 103), (1, 35)], .agg [.np, .cl []]⟩ := by kernel_rfl
theorem ti119 : tiOf Tryd.prog 119 = some ⟨1, 24, .slice 4, .cl []⟩ := by kernel_rfl
theorem ti126 : tiOf Tryd.prog 126 = some ⟨1, 24, .slice 94, .cl []⟩ := by kernel_rfl
theorem ti130 : tiOf Tryd.prog 130 = some ⟨1, 8, .int .u64, .p (.int .u64 0)⟩ := by kernel_rfl
theorem ti136 : tiOf Tryd.prog 136 = some ⟨1, 8, .ptr 5, .np⟩ := by kernel_rfl
theorem ti146 : tiOf Tryd.prog 146 = some ⟨1, 4, .int .u32, .p (.int .u32 0)⟩ := by kernel_rfl
theorem ti149 : tiOf Tryd.prog 149 = some ⟨1, 8, .int .u64, .p (.int .u64 0)⟩ := by kernel_rfl
theorem ti158 : tiOf Tryd.prog 158 = some ⟨24, 24, .array 24 5, .agg [.p (.int .u8 0), .p (.int .u8 0), .p (.int .u8 0), .p (.int .u8 0), .p (.int .u8 0), .p (.int .u8 0), .p (.int .u8 0), .p (.int .u8 0), .p (.int .u8 0), .p (.int .u8 0), .p (.int .u8 0), .p (.int .u8 0), .p (.int .u8 0), .p (.int .u8 0), .p (.int .u8 0), .p (.int .u8 0), .p (.int .u8 0), .p (.int .u8 0), .p (.int .u8 0), .p (.int .u8 0), .p (.int .u8 0), .p (.int .u8 0), .p (.int .u8 0), .p (.int .u8 0)]⟩ := by kernel_rfl
theorem ti165 : tiOf Tryd.prog 165 = some ⟨20, 160, .array 20 149, .agg [.p (.int .u64 0), .p (.int .u64 0), .p (.int .u64 0), .p (.int .u64 0), .p (.int .u64 0), .p (.int .u64 0), .p (.int .u64 0), .p (.int .u64 0), .p (.int .u64 0), .p (.int .u64 0), .p (.int .u64 0), .p (.int .u64 0), .p (.int .u64 0), .p (.int .u64 0), .p (.int .u64 0), .p (.int .u64 0), .p (.int .u64 0), .p (.int .u64 0), .p (.int .u64 0), .p (.int .u64 0)]⟩ := by kernel_rfl
theorem ti166 : tiOf Tryd.prog 166 = some ⟨65, 65, .array 65 5, .agg [.p (.int .u8 0), .p (.int .u8 0), .p (.int .u8 0), .p (.int .u8 0), .p (.int .u8 0), .p (.int .u8 0), .p (.int .u8 0), .p (.int .u8 0), .p (.int .u8 0), .p (.int .u8 0), .p (.int .u8 0), .p (.int .u8 0), .p (.int .u8 0), .p (.int .u8 0), .p (.int .u8 0), .p (.int .u8 0), .p (.int .u8 0), .p (.int .u8 0), .p (.int .u8 0), .p (.int .u8 0), .p (.int .u8 0), .p (.int .u8 0), .p (.int .u8 0), .p (.int .u8 0), .p (.int .u8 0), .p (.int .u8 0), .p (.int .u8 0), .p (.int .u8 0), .p (.int .u8 0), .p (.int .u8 0), .p (.int .u8 0), .p (.int .u8 0), .p (.int .u8 0), .p (.int .u8 0), .p (.int .u8 0), .p (.int .u8 0), .p (.int .u8 0), .p (.int .u8 0), .p (.int .u8 0), .p (.int .u8 0), .p (.int .u8 0), .p (.int .u8 0), .p (.int .u8 0), .p (.int .u8 0), .p (.int .u8 0), .p (.int .u8 0), .p (.int .u8 0), .p (.int .u8 0), .p (.int .u8 0), .p (.int .u8 0), .p (.int .u8 0), .p (.int .u8 0), .p (.int .u8 0), .p (.int .u8 0), .p (.int .u8 0), .p (.int .u8 0), .p (.int .u8 0), .p (.int .u8 0), .p (.int .u8 0), .p (.int .u8 0), .p (.int .u8 0), .p (.int .u8 0), .p (.int .u8 0), .p (.int .u8 0), .p (.int .u8 0)]⟩ := by kernel_rfl
theorem ti168 : tiOf Tryd.prog 168 = some ⟨256, 256, .array 256 5, .agg [.p (.int .u8 0), .p (.int .u8 0), .p (.int .u8 0), .p (.int .u8 0), .p (.int .u8 0), .p (.int .u8 0), .p (.int .u8 0), .p (.int .u8 0), .p (.int .u8 0), .p (.int .u8 0), .p (.int .u8 0), .p (.int .u8 0), .p (.int .u8 0), .p (.int .u8 0), .p (.int .u8 0), .p (.int .u8 0), .p (.int .u8 0), .p (.int .u8 0), .p (.int .u8 0), .p (.int .u8 0), .p (.int .u8 0), .p (.int .u8 0), .p (.int .u8 0), .p (.int .u8 0), .p (.int .u8 0), .p (.int .u8 0), .p (.int .u8 0), .p (.int .u8 0), .p (.int .u8 0), .p (.int .u8 0), .p (.int .u8 0), .p (.int .u8 0), .p (.int .u8 0), .p (.int .u8 0), .p (.int .u8 0), .p (.int .u8 0), .p (.int .u8 0), .p (.int .u8 0), .p (.int .u8 0), .p (.int .u8 0), .p (.int .u8 0), .p (.int .u8 0), .p (.int .u8 0), .p (.int .u8 0), .p (.int .u8 0), .p (.int .u8 0), .p (.int .u8 0), .p (.int .u8 0), .p (.int .u8 0), .p (.int .u8 0), .p (.int .u8 0), .p (.int .u8 0), .p (.int .u8 0), .p (.int .u8 0), .p (.int .u8 0), .p (.int .u8 0), .p (.int .u8 0), .p (.int .u8 0), .p (.int .u8 0), .p (.int .u8 0), .p (.int .u8 0), .p (.int .u8 0), .p (.int .u8 0), .p (.int .u8 0), .p (.int .u8 0), .p (.int .u8 0), .p (.int .u8 0), .p (.int .u8 0), .p (.int .u8 0), .p (.int .u8 0), .p (.int .u8 0), .p (.int .u8 0), .p (.int .u8 0), .p (.int .u8 0), .p (.int .u8 0), .p (.int .u8 0), .p (.int .u8 0), .p (.int .u8 0), .p (.int .u8 0), .p (.int .u8 0), .p (.int .u8 0), .p (.int .u8 0), .p (.int .u8 0), .p (.int .u8 0), .p (.int .u8 0), .p (.int .u8 0), .p (.int .u8 0), .p (.int .u8 0), .p (.int .u8 0), .p (.int .u8 0), .p (.int .u8 0), .p (.int .u8 0), .p (.int .u8 0), .p (.int .u8 0), .p (.int .u8 0), .p (.int .u8 0), .p (.int .u8 0), .p (.int .u8 0), .p (.int .u8 0), .p (.int .u8 0), .p (.int .u8 0), .p (.int .u8 0), .p (.int .u8 0), .p (.int .u8 0), .p (.int .u8 0), .p (.int .u8 0), .p (.int .u8 0), .p (.int .u8 0), .p (.int .u8 0), .p (.int .u8 0), .p (.int .u8 0), .p (.int .u8 0), .p (.int .u8 0), .p (.int .u8 0), .p (.int .u8 0), .p (.int .u8 0), .p (.int .u8 0), .p (.int .u8 0), .p (.int .u8 0), .p (.int .u8 0), .p (.int .u8 0), .p (.int .u8 0), .p (.int .u8 0), .p (.int .u8 0), .p (.int .u8 0), .p (.int .u8 0), .p (.int .u8 0), .p (.int .u8 0), .p (.int .u8 0), .p (.int .u8 0), .p (.int .u8 0), .p (.int .u8 0), .p (.int .u8 0), .p (.int .u8 0), .p (.int .u8 0), .p (.int .u8 0), .p (.int .u8 0), .p (.int .u8 0), .p (.int .u8 0), .p (.int .u8 0), .p (.int .u8 0), .p (.int .u8 0), .p (.int .u8 0), .p (.int .u8 0), .p (.int .u8 0), .p (.int .u8 0), .p (.int .u8 0), .p (.int .u8 0), .p (.int .u8 0), .p (.int .u8 0), .p (.int .u8 0), .p (.int .u8 0), .p (.int .u8 0), .p (.int .u8 0), .p (.int .u8 0), .p (.int .u8 0), .p (.int .u8 0), .p (.int .u8 0), .p (.int .u8 0), .p (.int .u8 0), .p (.int .u8 0), .p (.int .u8 0), .p (.int .u8 0), .p (.int .u8 0), .p (.int .u8 0), .p (.int .u8 0), .p (.int .u8 0), .p (.int .u8 0), .p (.int .u8 0), .p (.int .u8 0), .p (.int .u8 0), .p (.int .u8 0), .p (.int .u8 0), .p (.int .u8 0), .p (.int .u8 0), .p (.int .u8 0), .p (.int .u8 0), .p (.int .u8 0), .p (.int .u8 0), .p (.int .u8 0), .p (.int .u8 0), .p (.int .u8 0), .p (.int .u8 0), .p (.int .u8 0), .p (.int .u8 0), .p (.int .u8 0), .p (.int .u8 0), .p (.int .u8 0), .p (.int .u8 0), .p (.int .u8 0), .p (.int .u8 0), .p (.int .u8 0), .p (.int .u8 0), .p (.int .u8 0), .p (.int .u8 0), .p (.int .u8 0), .p (.int .u8 0), .p (.int .u8 0), .p (.int .u8 0), .p (.int .u8 0), .p (.int .u8 0), .p (.int .u8 0), .p (.int .u8 0), .p (.int .u8 0), .p (.int .u8 0), .p (.int .u8 0), .p (.int .u8 0), .p (.int .u8 0), .p (.int .u8 0), .p (.int .u8 0), .p (.int .u8 0), .p (.int .u8 0), .p (.int .u8 0), .p (.int .u8 0), .p (.int .u8 0), .p (.int .u8 0), .p (.int .u8 0), .p (.int .u8 0), .p (.int .u8 0), .p (.int .u8 0), .p (.int .u8 0), .p (.int .u8 0), .p (.int .u8 0), .p (.int .u8 0), .p (.int .u8 0), .p (.int .u8 0), .p (.int .u8 0), .p (.int .u8 0), .p (.int .u8 0), .p (.int .u8 0), .p (.int .u8 0), .p (.int .u8 0), .p (.int .u8 0), .p (.int .u8 0), .p (.int .u8 0), .p (.int .u8 0), .p (.int .u8 0), .p (.int .u8 0), .p (.int .u8 0), .p (.int .u8 0), .p (.int .u8 0), .p (.int .u8 0), .p (.int .u8 0), .p (.int .u8 0), .p (.int .u8 0), .p (.int .u8 0), .p (.int .u8 0), .p (.int .u8 0), .p (.int .u8 0), .p (.int .u8 0), .p (.int .u8 0), .p (.int .u8 0), .p (.int .u8 0), .p (.int .u8 0), .p (.int .u8 0), .p (.int .u8 0)]⟩ := by kernel_rfl
theorem ti169 : tiOf Tryd.prog 169 = some ⟨2, 2, .struct [(0, 5), (1, 5)], .agg [.p (.int .u8 0), .p (.int .u8 0)]⟩ := by kernel_rfl
theorem fl169 : flatT Tryd.prog 169 = some [.int, .int] := by kernel_rfl
theorem ti170 : tiOf Tryd.prog 170 = some ⟨2, 2, .struct [(0, 5), (1, 5)], .agg [.p (.int .u8 0), .p (.int .u8 0)]⟩ := by kernel_rfl
theorem fl170 : flatT Tryd.prog 170 = some [.int, .int] := by kernel_rfl
theorem ti171 : tiOf Tryd.prog 171 = some ⟨32, 32, .array 16 170, .agg [.p (.int .u8 0), .p (.int .u8 0), .p (.int .u8 0), .p (.int .u8 0), .p (.int .u8 0), .p (.int .u8 0), .p (.int .u8 0), .p (.int .u8 0), .p (.int .u8 0), .p (.int .u8 0), .p (.int .u8 0), .p (.int .u8 0), .p (.int .u8 0), .p (.int .u8 0), .p (.int .u8 0), .p (.int .u8 0), .p (.int .u8 0), .p (.int .u8 0), .p (.int .u8 0), .p (.int .u8 0), .p (.int .u8 0), .p (.int .u8 0), .p (.int .u8 0), .p (.int .u8 0), .p (.int .u8 0), .p (.int .u8 0), .p (.int .u8 0), .p (.int .u8 0), .p (.int .u8 0), .p (.int .u8 0), .p (.int .u8 0), .p (.int .u8 0)]⟩ := by kernel_rfl
theorem ti174 : tiOf Tryd.prog 174 = some ⟨32, 32, .array 32 5, .agg [.p (.int .u8 0), .p (.int .u8 0), .p (.int .u8 0), .p (.int .u8 0), .p (.int .u8 0), .p (.int .u8 0), .p (.int .u8 0), .p (.int .u8 0), .p (.int .u8 0), .p (.int .u8 0), .p (.int .u8 0), .p (.int .u8 0), .p (.int .u8 0), .p (.int .u8 0), .p (.int .u8 0), .p (.int .u8 0), .p (.int .u8 0), .p (.int .u8 0), .p (.int .u8 0), .p (.int .u8 0), .p (.int .u8 0), .p (.int .u8 0), .p (.int .u8 0), .p (.int .u8 0), .p (.int .u8 0), .p (.int .u8 0), .p (.int .u8 0), .p (.int .u8 0), .p (.int .u8 0), .p (.int .u8 0), .p (.int .u8 0), .p (.int .u8 0)]⟩ := by kernel_rfl
theorem ti175 : tiOf Tryd.prog 175 = some ⟨64, 64, .array 64 5, .agg [.p (.int .u8 0), .p (.int .u8 0), .p (.int .u8 0), .p (.int .u8 0), .p (.int .u8 0), .p (.int .u8 0), .p (.int .u8 0), .p (.int .u8 0), .p (.int .u8 0), .p (.int .u8 0), .p (.int .u8 0), .p (.int .u8 0), .p (.int .u8 0), .p (.int .u8 0), .p (.int .u8 0), .p (.int .u8 0), .p (.int .u8 0), .p (.int .u8 0), .p (.int .u8 0), .p (.int .u8 0), .p (.int .u8 0), .p (.int .u8 0), .p (.int .u8 0), .p (.int .u8 0), .p (.int .u8 0), .p (.int .u8 0), .p (.int .u8 0), .p (.int .u8 0), .p (.int .u8 0), .p (.int .u8 0), .p (.int .u8 0), .p (.int .u8 0), .p (.int .u8 0), .p (.int .u8 0), .p (.int .u8 0), .p (.int .u8 0), .p (.int .u8 0), .p (.int .u8 0), .p (.int .u8 0), .p (.int .u8 0), .p (.int .u8 0), .p (.int .u8 0), .p (.int .u8 0), .p (.int .u8 0), .p (.int .u8 0), .p (.int .u8 0), .p (.int .u8 0), .p (.int .u8 0), .p (.int .u8 0), .p (.int .u8 0), .p (.int .u8 0), .p (.int .u8 0), .p (.int .u8 0), .p (.int .u8 0), .p (.int .u8 0), .p (.int .u8 0), .p (.int .u8 0), .p (.int .u8 0), .p (.int .u8 0), .p (.int .u8 0), .p (.int .u8 0), .p (.int .u8 0), .p (.int .u8 0), .p (.int .u8 0)]⟩ := by kernel_rfl
theorem enters2 : Enters Tryd.prog 2 := fun args w => Tryd.call2 args w
theorem enters3 : Enters Tryd.prog 3 := fun args w => Tryd.call3 args w
theorem enters4 : Enters Tryd.prog 4 := fun args w => Tryd.call4 args w
theorem enters5 : Enters Tryd.prog 5 := fun args w => Tryd.call5 args w
theorem enters6 : Enters Tryd.prog 6 := fun args w => Tryd.call6 args w
theorem enters7 : Enters Tryd.prog 7 := fun args w => Tryd.call7 args w
theorem enters8 : Enters Tryd.prog 8 := fun args w => Tryd.call8 args w
theorem enters9 : Enters Tryd.prog 9 := fun args w => Tryd.call9 args w
theorem enters10 : Enters Tryd.prog 10 := fun args w => Tryd.call10 args w
theorem enters11 : Enters Tryd.prog 11 := fun args w => Tryd.call11 args w
theorem enters12 : Enters Tryd.prog 12 := fun args w => Tryd.call12 args w
theorem enters13 : Enters Tryd.prog 13 := fun args w => Tryd.call13 args w
theorem enters14 : Enters Tryd.prog 14 := fun args w => Tryd.call14 args w
theorem enters15 : Enters Tryd.prog 15 := fun args w => Tryd.call15 args w
theorem enters16 : Enters Tryd.prog 16 := fun args w => Tryd.call16 args w
theorem enters17 : Enters Tryd.prog 17 := fun args w => Tryd.call17 args w
theorem enters18 : Enters Tryd.prog 18 := fun args w => Tryd.call18 args w
theorem enters19 : Enters Tryd.prog 19 := fun args w => Tryd.call19 args w
theorem enters20 : Enters Tryd.prog 20 := fun args w => Tryd.call20 args w
theorem enters21 : Enters Tryd.prog 21 := fun args w => Tryd.call21 args w
theorem enters22 : Enters Tryd.prog 22 := fun args w => Tryd.call22 args w
theorem enters23 : Enters Tryd.prog 23 := fun args w => Tryd.call23 args w
theorem enters24 : Enters Tryd.prog 24 := fun args w => Tryd.call24 args w
theorem enters25 : Enters Tryd.prog 25 := fun args w => Tryd.call25 args w
theorem enters26 : Enters Tryd.prog 26 := fun args w => Tryd.call26 args w
theorem enters27 : Enters Tryd.prog 27 := fun args w => Tryd.call27 args w
theorem enters28 : Enters Tryd.prog 28 := fun args w => Tryd.call28 args w
theorem enters29 : Enters Tryd.prog 29 := fun args w => Tryd.call29 args w
theorem enters30 : Enters Tryd.prog 30 := fun args w => Tryd.call30 args w
theorem enters31 : Enters Tryd.prog 31 := fun args w => Tryd.call31 args w
theorem enters32 : Enters Tryd.prog 32 := fun args w => Tryd.call32 args w
theorem enters33 : Enters Tryd.prog 33 := fun args w => Tryd.call33 args w
theorem enters34 : Enters Tryd.prog 34 := fun args w => Tryd.call34 args w
theorem enters35 : Enters Tryd.prog 35 := fun args w => Tryd.call35 args w
theorem enters36 : Enters Tryd.prog 36 := fun args w => Tryd.call36 args w
theorem enters37 : Enters Tryd.prog 37 := fun args w => Tryd.call37 args w
theorem enters38 : Enters Tryd.prog 38 := fun args w => Tryd.call38 args w
theorem enters39 : Enters Tryd.prog 39 := fun args w => Tryd.call39 args w
theorem enters40 : Enters Tryd.prog 40 := fun args w => Tryd.call40 args w
theorem enters41 : Enters Tryd.prog 41 := fun args w => Tryd.call41 args w
theorem enters42 : Enters Tryd.prog 42 := fun args w => Tryd.call42 args w
theorem enters43 : Enters Tryd.prog 43 := fun args w => Tryd.call43 args w
theorem enters44 : Enters Tryd.prog 44 := fun args w => Tryd.call44 args w
theorem enters45 : Enters Tryd.prog 45 := fun args w => Tryd.call45 args w
theorem enters46 : Enters Tryd.prog 46 := fun args w => Tryd.call46 args w
theorem enters47 : Enters Tryd.prog 47 := fun args w => Tryd.call47 args w
theorem enters48 : Enters Tryd.prog 48 := fun args w => Tryd.call48 args w
theorem enters49 : Enters Tryd.prog 49 := fun args w => Tryd.call49 args w
theorem enters50 : Enters Tryd.prog 50 := fun args w => Tryd.call50 args w
theorem enters51 : Enters Tryd.prog 51 := fun args w => Tryd.call51 args w
theorem enters52 : Enters Tryd.prog 52 := fun args w => Tryd.call52 args w
theorem enters53 : Enters Tryd.prog 53 := fun args w => Tryd.call53 args w
theorem enters54 : Enters Tryd.prog 54 := fun args w => Tryd.call54 args w
theorem enters55 : Enters Tryd.prog 55 := fun args w => Tryd.call55 args w
theorem enters56 : Enters Tryd.prog 56 := fun args w => Tryd.call56 args w
theorem enters57 : Enters Tryd.prog 57 := fun args w => Tryd.call57 args w
theorem enters58 : Enters Tryd.prog 58 := fun args w => Tryd.call58 args w
theorem enters59 : Enters Tryd.prog 59 := fun args w => Tryd.call59 args w
theorem enters60 : Enters Tryd.prog 60 := fun args w => Tryd.call60 args w
theorem enters61 : Enters Tryd.prog 61 := fun args w => Tryd.call61 args w
theorem enters62 : Enters Tryd.prog 62 := fun args w => Tryd.call62 args w
theorem enters63 : Enters Tryd.prog 63 := fun args w => Tryd.call63 args w
theorem enters64 : Enters Tryd.prog 64 := fun args w => Tryd.call64 args w
theorem enters65 : Enters Tryd.prog 65 := fun args w => Tryd.call65 args w
theorem enters66 : Enters Tryd.prog 66 := fun args w => Tryd.call66 args w
theorem enters67 : Enters Tryd.prog 67 := fun args w => Tryd.call67 args w
theorem enters68 : Enters Tryd.prog 68 := fun args w => Tryd.call68 args w
theorem enters69 : Enters Tryd.prog 69 := fun args w => Tryd.call69 args w
theorem enters70 : Enters Tryd.prog 70 := fun args w => Tryd.call70 args w
theorem enters71 : Enters Tryd.prog 71 := fun args w => Tryd.call71 args w
theorem enters72 : Enters Tryd.prog 72 := fun args w => Tryd.call72 args w
theorem enters73 : Enters Tryd.prog 73 := fun args w => Tryd.call73 args w
theorem enters74 : Enters Tryd.prog 74 := fun args w => Tryd.call74 args w
theorem enters75 : Enters Tryd.prog 75 := fun args w => Tryd.call75 args w
theorem enters76 : Enters Tryd.prog 76 := fun args w => Tryd.call76 args w
theorem enters77 : Enters Tryd.prog 77 := fun args w => Tryd.call77 args w
theorem enters78 : Enters Tryd.prog 78 := fun args w => Tryd.call78 args w
theorem enters79 : Enters Tryd.prog 79 := fun args w => Tryd.call79 args w
theorem enters80 : Enters Tryd.prog 80 := fun args w => Tryd.call80 args w
theorem enters81 : Enters Tryd.prog 81 := fun args w => Tryd.call81 args w
theorem enters82 : Enters Tryd.prog 82 := fun args w => Tryd.call82 args w
theorem enters83 : Enters Tryd.prog 83 := fun args w => Tryd.call83 args w
theorem enters84 : Enters Tryd.prog 84 := fun args w => Tryd.call84 args w
theorem enters85 : Enters Tryd.prog 85 := fun args w => Tryd.call85 args w
theorem enters86 : Enters Tryd.prog 86 := fun args w => Tryd.call86 args w
theorem enters87 : Enters Tryd.prog 87 := fun args w => Tryd.call87 args w
theorem enters88 : Enters Tryd.prog 88 := fun args w => Tryd.call88 args w
theorem enters89 : Enters Tryd.prog 89 := fun args w => Tryd.call89 args w
theorem enters90 : Enters Tryd.prog 90 := fun args w => Tryd.call90 args w
theorem enters91 : Enters Tryd.prog 91 := fun args w => Tryd.call91 args w
theorem enters92 : Enters Tryd.prog 92 := fun args w => Tryd.call92 args w
theorem enters93 : Enters Tryd.prog 93 := fun args w => Tryd.call93 args w
theorem enters94 : Enters Tryd.prog 94 := fun args w => Tryd.call94 args w
theorem enters95 : Enters Tryd.prog 95 := fun args w => Tryd.call95 args w
theorem enters97 : Enters Tryd.prog 97 := fun args w => Tryd.call97 args w
theorem enters98 : Enters Tryd.prog 98 := fun args w => Tryd.call98 args w
theorem enters99 : Enters Tryd.prog 99 := fun args w => Tryd.call99 args w
theorem enters100 : Enters Tryd.prog 100 := fun args w => Tryd.call100 args w
theorem enters101 : Enters Tryd.prog 101 := fun args w => Tryd.call101 args w
theorem enters103 : Enters Tryd.prog 103 := fun args w => Tryd.call103 args w
theorem enters104 : Enters Tryd.prog 104 := fun args w => Tryd.call104 args w
theorem enters105 : Enters Tryd.prog 105 := fun args w => Tryd.call105 args w
theorem enters106 : Enters Tryd.prog 106 := fun args w => Tryd.call106 args w
theorem enters107 : Enters Tryd.prog 107 := fun args w => Tryd.call107 args w
theorem enters108 : Enters Tryd.prog 108 := fun args w => Tryd.call108 args w
theorem enters109 : Enters Tryd.prog 109 := fun args w => Tryd.call109 args w
theorem enters110 : Enters Tryd.prog 110 := fun args w => Tryd.call110 args w
theorem enters112 : Enters Tryd.prog 112 := fun args w => Tryd.call112 args w
theorem enters113 : Enters Tryd.prog 113 := fun args w => Tryd.call113 args w
theorem enters115 : Enters Tryd.prog 115 := fun args w => Tryd.call115 args w
theorem enters116 : Enters Tryd.prog 116 := fun args w => Tryd.call116 args w
theorem enters117 : Enters Tryd.prog 117 := fun args w => Tryd.call117 args w
theorem enters118 : Enters Tryd.prog 118 := fun args w => Tryd.call118 args w
theorem enters119 : Enters Tryd.prog 119 := fun args w => Tryd.call119 args w
theorem enters120 : Enters Tryd.prog 120 := fun args w => Tryd.call120 args w
theorem enters121 : Enters Tryd.prog 121 := fun args w => Tryd.call121 args w
theorem enters122 : Enters Tryd.prog 122 := fun args w => Tryd.call122 args w
theorem enters124 : Enters Tryd.prog 124 := fun args w => Tryd.call124 args w
theorem enters125 : Enters Tryd.prog 125 := fun args w => Tryd.call125 args w
theorem enters126 : Enters Tryd.prog 126 := fun args w => Tryd.call126 args w
theorem enters152 : Enters Tryd.prog 152 := fun args w => Tryd.call152 args w
theorem mixed : Tryd.prog.follows .mixedOrders = true := by kernel_rfl
attribute [go_sem] ti2 ti3 ti4 ti5 ti9 ti12 ti13 ti21 ti22 ti25 ti26 ti27
attribute [go_sem] ti32 ti33 ti34 ti35 ti43 ti44 ti45 ti46 ti47 fl47 ti48 fl48
attribute [go_sem] ti49 ti50 ti54 ti58 ti59 ti66 ti71 ti72 ti81 fl81 ti82 fl82
attribute [go_sem] ti84 ti85 fl85 ti86 fl86 ti87 ti88 ti93 fl93 ti94 fl94 ti95
attribute [go_sem] ti103 ti104 ti105 ti119 ti126 ti130 ti136 ti146 ti149 ti158 ti165 ti166
attribute [go_sem] ti168 ti169 fl169 ti170 fl170 ti171 ti174 ti175 Tryd.ntmps2 Tryd.results2 Tryd.ntmps3 Tryd.results3
attribute [go_sem] Tryd.ntmps4 Tryd.results4 Tryd.ntmps5 Tryd.results5 Tryd.ntmps6 Tryd.results6 Tryd.ntmps7 Tryd.results7 Tryd.ntmps8 Tryd.results8 Tryd.ntmps9 Tryd.results9
attribute [go_sem] Tryd.ntmps10 Tryd.results10 Tryd.ntmps11 Tryd.results11 Tryd.ntmps12 Tryd.results12 Tryd.ntmps13 Tryd.results13 Tryd.ntmps14 Tryd.results14 Tryd.ntmps15 Tryd.results15
attribute [go_sem] Tryd.ntmps16 Tryd.results16 Tryd.ntmps17 Tryd.results17 Tryd.ntmps18 Tryd.results18 Tryd.ntmps19 Tryd.results19 Tryd.ntmps20 Tryd.results20 Tryd.ntmps21 Tryd.results21
attribute [go_sem] Tryd.ntmps22 Tryd.results22 Tryd.ntmps23 Tryd.results23 Tryd.ntmps24 Tryd.results24 Tryd.ntmps25 Tryd.results25 Tryd.ntmps26 Tryd.results26 Tryd.ntmps27 Tryd.results27
attribute [go_sem] Tryd.ntmps28 Tryd.results28 Tryd.ntmps29 Tryd.results29 Tryd.ntmps30 Tryd.results30 Tryd.ntmps31 Tryd.results31 Tryd.ntmps32 Tryd.results32 Tryd.ntmps33 Tryd.results33
attribute [go_sem] Tryd.ntmps34 Tryd.results34 Tryd.ntmps35 Tryd.results35 Tryd.ntmps36 Tryd.results36 Tryd.ntmps37 Tryd.results37 Tryd.ntmps38 Tryd.results38 Tryd.ntmps39 Tryd.results39
attribute [go_sem] Tryd.ntmps40 Tryd.results40 Tryd.ntmps41 Tryd.results41 Tryd.ntmps42 Tryd.results42 Tryd.ntmps43 Tryd.results43 Tryd.ntmps44 Tryd.results44 Tryd.ntmps45 Tryd.results45
attribute [go_sem] Tryd.ntmps46 Tryd.results46 Tryd.ntmps47 Tryd.results47 Tryd.ntmps48 Tryd.results48 Tryd.ntmps49 Tryd.results49 Tryd.ntmps50 Tryd.results50 Tryd.ntmps51 Tryd.results51
attribute [go_sem] Tryd.ntmps52 Tryd.results52 Tryd.ntmps53 Tryd.results53 Tryd.ntmps54 Tryd.results54 Tryd.ntmps55 Tryd.results55 Tryd.ntmps56 Tryd.results56 Tryd.ntmps57 Tryd.results57
attribute [go_sem] Tryd.ntmps58 Tryd.results58 Tryd.ntmps59 Tryd.results59 Tryd.ntmps60 Tryd.results60 Tryd.ntmps61 Tryd.results61 Tryd.ntmps62 Tryd.results62 Tryd.ntmps63 Tryd.results63
attribute [go_sem] Tryd.ntmps64 Tryd.results64 Tryd.ntmps65 Tryd.results65 Tryd.ntmps66 Tryd.results66 Tryd.ntmps67 Tryd.results67 Tryd.ntmps68 Tryd.results68 Tryd.ntmps69 Tryd.results69
attribute [go_sem] Tryd.ntmps70 Tryd.results70 Tryd.ntmps71 Tryd.results71 Tryd.ntmps72 Tryd.results72 Tryd.ntmps73 Tryd.results73 Tryd.ntmps74 Tryd.results74 Tryd.ntmps75 Tryd.results75
attribute [go_sem] Tryd.ntmps76 Tryd.results76 Tryd.ntmps77 Tryd.results77 Tryd.ntmps78 Tryd.results78 Tryd.ntmps79 Tryd.results79 Tryd.ntmps80 Tryd.results80 Tryd.ntmps81 Tryd.results81
attribute [go_sem] Tryd.ntmps82 Tryd.results82 Tryd.ntmps83 Tryd.results83 Tryd.ntmps84 Tryd.results84 Tryd.ntmps85 Tryd.results85 Tryd.ntmps86 Tryd.results86 Tryd.ntmps87 Tryd.results87
attribute [go_sem] Tryd.ntmps88 Tryd.results88 Tryd.ntmps89 Tryd.results89 Tryd.ntmps90 Tryd.results90 Tryd.ntmps91 Tryd.results91 Tryd.ntmps92 Tryd.results92 Tryd.ntmps93 Tryd.results93
attribute [go_sem] Tryd.ntmps94 Tryd.results94 Tryd.ntmps95 Tryd.results95 Tryd.ntmps97 Tryd.results97 Tryd.ntmps98 Tryd.results98 Tryd.ntmps99 Tryd.results99 Tryd.ntmps100 Tryd.results100
attribute [go_sem] Tryd.ntmps101 Tryd.results101 Tryd.ntmps103 Tryd.results103 Tryd.ntmps104 Tryd.results104 Tryd.ntmps105 Tryd.results105 Tryd.ntmps106 Tryd.results106 Tryd.ntmps107 Tryd.results107
attribute [go_sem] Tryd.ntmps108 Tryd.results108 Tryd.ntmps109 Tryd.results109 Tryd.ntmps110 Tryd.results110 Tryd.ntmps112 Tryd.results112 Tryd.ntmps113 Tryd.results113 Tryd.ntmps115 Tryd.results115
attribute [go_sem] Tryd.ntmps116 Tryd.results116 Tryd.ntmps117 Tryd.results117 Tryd.ntmps118 Tryd.results118 Tryd.ntmps119 Tryd.results119 Tryd.ntmps120 Tryd.results120 Tryd.ntmps121 Tryd.results121
attribute [go_sem] Tryd.ntmps122 Tryd.results122 Tryd.ntmps124 Tryd.results124 Tryd.ntmps125 Tryd.results125 Tryd.ntmps126 Tryd.results126 Tryd.ntmps152 Tryd.results152
end Go.Am
