/- The facts of this seat that the walks use: its types, by their numbers; that its functions are entered. Printed by my gen2.py. -/
import Derived.Test.YtpjbedkmjlgmgaaDoorAmD
import Derived.Test.YtpjbedkmjlgmgaaDoorProg
import Derived.KernelRfl
namespace Go.Am
open Go Go.Proofs
set_option maxRecDepth 100000
theorem ti2 : tiOf Tryd.prog 2 = some ⟨1, 8, .int .i64, .p (.int .i64 0)⟩ := by kernel_rfl
theorem ti3 : tiOf Tryd.prog 3 = some ⟨1, 8, .int .i64, .p (.int .i64 0)⟩ := by kernel_rfl
theorem ti4 : tiOf Tryd.prog 4 = some ⟨1, 1, .bool, .p (.bool false)⟩ := by kernel_rfl
theorem ti5 : tiOf Tryd.prog 5 = some ⟨1, 1, .int .u8, .p (.int .u8 0)⟩ := by kernel_rfl
theorem ti9 : tiOf Tryd.prog 9 = some ⟨1, 16, .string, .p (.str [])⟩ := by kernel_rfl
theorem ti12 : tiOf Tryd.prog 12 = some ⟨1, 8, .int .u64, .p (.int .u64 0)⟩ := by kernel_rfl
theorem ti13 : tiOf Tryd.prog 13 = some ⟨2, 24, .struct [(0, 9), (1, 12)], .agg [.p (.str []), .p (.int .u64 0)]⟩ := by kernel_rfl
theorem ti21 : tiOf Tryd.prog 21 = some ⟨1, 4, .int .i32, .p (.int .i32 0)⟩ := by kernel_rfl
theorem ti22 : tiOf Tryd.prog 22 = some ⟨1, 24, .slice 3, .cl []⟩ := by kernel_rfl
theorem ti25 : tiOf Tryd.prog 25 = some ⟨4, 48, .struct [(0, 3), (1, 9), (2, 9), (3, 3)], .agg [.p (.int .i64 0), .p (.str []), .p (.str []), .p (.int .i64 0)]⟩ := by kernel_rfl
theorem fl25 : flatT Tryd.prog 25 = some [.int, .str, .str, .int] := by kernel_rfl
theorem ti26 : tiOf Tryd.prog 26 = some ⟨4, 48, .struct [(0, 3), (1, 9), (2, 9), (3, 3)], .agg [.p (.int .i64 0), .p (.str []), .p (.str []), .p (.int .i64 0)]⟩ := by kernel_rfl
theorem fl26 : flatT Tryd.prog 26 = some [.int, .str, .str, .int] := by kernel_rfl
theorem ti29 : tiOf Tryd.prog 29 = some ⟨2, 16, .array 2 3, .agg [.p (.int .i64 0), .p (.int .i64 0)]⟩ := by kernel_rfl
theorem ti31 : tiOf Tryd.prog 31 = some ⟨2, 16, .struct [(0, 3), (1, 3)], .agg [.p (.int .i64 0), .p (.int .i64 0)]⟩ := by kernel_rfl
theorem fl31 : flatT Tryd.prog 31 = some [.int, .int] := by kernel_rfl
theorem ti32 : tiOf Tryd.prog 32 = some ⟨2, 16, .struct [(0, 3), (1, 3)], .agg [.p (.int .i64 0), .p (.int .i64 0)]⟩ := by kernel_rfl
theorem fl32 : flatT Tryd.prog 32 = some [.int, .int] := by kernel_rfl
theorem ti33 : tiOf Tryd.prog 33 = some ⟨1, 8, .int .i64, .p (.int .i64 0)⟩ := by kernel_rfl
theorem ti37 : tiOf Tryd.prog 37 = some ⟨1, 24, .slice 26, .cl []⟩ := by kernel_rfl
theorem ti38 : tiOf Tryd.prog 38 = some ⟨1, 24, .slice 32, .cl []⟩ := by kernel_rfl
theorem ti42 : tiOf Tryd.prog 42 = some ⟨1, 8, .ptr 44, .np⟩ := by kernel_rfl
theorem ti43 : tiOf Tryd.prog 43 = some ⟨2, 32, .struct [(0, 22), (1, 3)], .agg [.cl [], .p (.int .i64 0)]⟩ := by kernel_rfl
theorem ti44 : tiOf Tryd.prog 44 = some ⟨2, 32, .struct [(0, 22), (1, 3)], .agg [.cl [], .p (.int .i64 0)]⟩ := by kernel_rfl
theorem ti45 : tiOf Tryd.prog 45 = some ⟨1, 24, .slice 9, .cl []⟩ := by kernel_rfl
theorem ti47 : tiOf Tryd.prog 47 = some ⟨1, 24, .slice 51, .cl []⟩ := by kernel_rfl
theorem ti50 : tiOf Tryd.prog 50 = some ⟨2, 32, .struct [(0, 3), (1, 45)], .agg [.p (.int .i64 0), .cl []]⟩ := by kernel_rfl
theorem ti51 : tiOf Tryd.prog 51 = some ⟨2, 32, .struct [(0, 3), (1, 45)], .agg [.p (.int .i64 0), .cl []]⟩ := by kernel_rfl
theorem ti52 : tiOf Tryd.prog 52 = some ⟨3, 32, .struct [(0, 9), (1, 3), (2, 3)], .agg [.p (.str []), .p (.int .i64 0), .p (.int .i64 0)]⟩ := by kernel_rfl
theorem fl52 : flatT Tryd.prog 52 = some [.str, .int, .int] := by kernel_rfl
theorem ti53 : tiOf Tryd.prog 53 = some ⟨3, 32, .struct [(0, 9), (1, 3), (2, 3)], .agg [.p (.str []), .p (.int .i64 0), .p (.int .i64 0)]⟩ := by kernel_rfl
theorem fl53 : flatT Tryd.prog 53 = some [.str, .int, .int] := by kernel_rfl
theorem ti54 : tiOf Tryd.prog 54 = some ⟨33, 352, .array 11 53, .agg [.p (.str []), .p (.int .i64 0), .p (.int .i64 0), .p (.str []), .p (.int .i64 0), .p (.int .i64 0), .p (.str []), .p (.int .i64 0), .p (.int .i64 0), .p (.str []), .p (.int .i64 0), .p (.int .i64 0), .p (.str []), .p (.int .i64 0), .p (.int .i64 0), .p (.str []), .p (.int .i64 0), .p (.int .i64 0), .p (.str []), .p (.int .i64 0), .p (.int .i64 0), .p (.str []), .p (.int .i64 0), .p (.int .i64 0), .p (.str []), .p (.int .i64 0), .p (.int .i64 0), .p (.str []), .p (.int .i64 0), .p (.int .i64 0), .p (.str []), .p (.int .i64 0), .p (.int .i64 0)]⟩ := by kernel_rfl
theorem ti57 : tiOf Tryd.prog 57 = some ⟨1, 24, .slice 53, .cl []⟩ := by kernel_rfl
theorem ti65 : tiOf Tryd.prog 65 = some ⟨13, 208, .array 13 9, .agg [.p (.str []), .p (.str []), .p (.str []), .p (.str []), .p (.str []), .p (.str []), .p (.str []), .p (.str []), .p (.str []), .p (.str []), .p (.str []), .p (.str []), .p (.str [])]⟩ := by kernel_rfl
theorem ti73 : tiOf Tryd.prog 73 = some ⟨1, 24, .slice 5, .cl []⟩ := by kernel_rfl
theorem ti76 : tiOf Tryd.prog 76 = some ⟨1, 8, .ptr 78, .np⟩ := by kernel_rfl
theorem ti77 : tiOf Tryd.prog 77 = some ⟨2, 32, .struct [(0, 76), (1, 73)], .agg [.np, .cl []]⟩ := by kernel_rfl
theorem ti78 : tiOf Tryd.prog 78 = some ⟨2, 32, .struct [(0, 76), (1, 73)], .agg [.np, .cl []]⟩ := by kernel_rfl
theorem ti87 : tiOf Tryd.prog 87 = some ⟨1, 8, .ptr 5, .np⟩ := by kernel_rfl
theorem ti91 : tiOf Tryd.prog 91 = some ⟨24, 24, .array 24 5, .agg [.p (.int .u8 0), .p (.int .u8 0), .p (.int .u8 0), .p (.int .u8 0), .p (.int .u8 0), .p (.int .u8 0), .p (.int .u8 0), .p (.int .u8 0), .p (.int .u8 0), .p (.int .u8 0), .p (.int .u8 0), .p (.int .u8 0), .p (.int .u8 0), .p (.int .u8 0), .p (.int .u8 0), .p (.int .u8 0), .p (.int .u8 0), .p (.int .u8 0), .p (.int .u8 0), .p (.int .u8 0), .p (.int .u8 0), .p (.int .u8 0), .p (.int .u8 0), .p (.int .u8 0)]⟩ := by kernel_rfl
theorem ti92 : tiOf Tryd.prog 92 = some ⟨1, 8, .int .u64, .p (.int .u64 0)⟩ := by kernel_rfl
theorem ti105 : tiOf Tryd.prog 105 = some ⟨20, 160, .array 20 92, .agg [.p (.int .u64 0), .p (.int .u64 0), .p (.int .u64 0), .p (.int .u64 0), .p (.int .u64 0), .p (.int .u64 0), .p (.int .u64 0), .p (.int .u64 0), .p (.int .u64 0), .p (.int .u64 0), .p (.int .u64 0), .p (.int .u64 0), .p (.int .u64 0), .p (.int .u64 0), .p (.int .u64 0), .p (.int .u64 0), .p (.int .u64 0), .p (.int .u64 0), .p (.int .u64 0), .p (.int .u64 0)]⟩ := by kernel_rfl
theorem ti106 : tiOf Tryd.prog 106 = some ⟨1, 4, .int .u32, .p (.int .u32 0)⟩ := by kernel_rfl
theorem ti107 : tiOf Tryd.prog 107 = some ⟨65, 65, .array 65 5, .agg [.p (.int .u8 0), .p (.int .u8 0), .p (.int .u8 0), .p (.int .u8 0), .p (.int .u8 0), .p (.int .u8 0), .p (.int .u8 0), .p (.int .u8 0), .p (.int .u8 0), .p (.int .u8 0), .p (.int .u8 0), .p (.int .u8 0), .p (.int .u8 0), .p (.int .u8 0), .p (.int .u8 0), .p (.int .u8 0), .p (.int .u8 0), .p (.int .u8 0), .p (.int .u8 0), .p (.int .u8 0), .p (.int .u8 0), .p (.int .u8 0), .p (.int .u8 0), .p (.int .u8 0), .p (.int .u8 0), .p (.int .u8 0), .p (.int .u8 0), .p (.int .u8 0), .p (.int .u8 0), .p (.int .u8 0), .p (.int .u8 0), .p (.int .u8 0), .p (.int .u8 0), .p (.int .u8 0), .p (.int .u8 0), .p (.int .u8 0), .p (.int .u8 0), .p (.int .u8 0), .p (.int .u8 0), .p (.int .u8 0), .p (.int .u8 0), .p (.int .u8 0), .p (.int .u8 0), .p (.int .u8 0), .p (.int .u8 0), .p (.int .u8 0), .p (.int .u8 0), .p (.int .u8 0), .p (.int .u8 0), .p (.int .u8 0), .p (.int .u8 0), .p (.int .u8 0), .p (.int .u8 0), .p (.int .u8 0), .p (.int .u8 0), .p (.int .u8 0), .p (.int .u8 0), .p (.int .u8 0), .p (.int .u8 0), .p (.int .u8 0), .p (.int .u8 0), .p (.int .u8 0), .p (.int .u8 0), .p (.int .u8 0), .p (.int .u8 0)]⟩ := by kernel_rfl
theorem ti109 : tiOf Tryd.prog 109 = some ⟨1, 8, .int .u64, .p (.int .u64 0)⟩ := by kernel_rfl
theorem ti112 : tiOf Tryd.prog 112 = some ⟨256, 256, .array 256 5, .agg [.p (.int .u8 0), .p (.int .u8 0), .p (.int .u8 0), .p (.int .u8 0), .p (.int .u8 0), .p (.int .u8 0), .p (.int .u8 0), .p (.int .u8 0), .p (.int .u8 0), .p (.int .u8 0), .p (.int .u8 0), .p (.int .u8 0), .p (.int .u8 0), .p (.int .u8 0), .p (.int .u8 0), .p (.int .u8 0), .p (.int .u8 0), .p (.int .u8 0), .p (.int .u8 0), .p (.int .u8 0), .p (.int .u8 0), .p (.int .u8 0), .p (.int .u8 0), .p (.int .u8 0), .p (.int .u8 0), .p (.int .u8 0), .p (.int .u8 0), .p (.int .u8 0), .p (.int .u8 0), .p (.int .u8 0), .p (.int .u8 0), .p (.int .u8 0), .p (.int .u8 0), .p (.int .u8 0), .p (.int .u8 0), .p (.int .u8 0), .p (.int .u8 0), .p (.int .u8 0), .p (.int .u8 0), .p (.int .u8 0), .p (.int .u8 0), .p (.int .u8 0), .p (.int .u8 0), .p (.int .u8 0), .p (.int .u8 0), .p (.int .u8 0), .p (.int .u8 0), .p (.int .u8 0), .p (.int .u8 0), .p (.int .u8 0), .p (.int .u8 0), .p (.int .u8 0), .p (.int .u8 0), .p (.int .u8 0), .p (.int .u8 0), .p (.int .u8 0), .p (.int .u8 0), .p (.int .u8 0), .p (.int .u8 0), .p (.int .u8 0), .p (.int .u8 0), .p (.int .u8 0), .p (.int .u8 0), .p (.int .u8 0), .p (.int .u8 0), .p (.int .u8 0), .p (.int .u8 0), .p (.int .u8 0), .p (.int .u8 0), .p (.int .u8 0), .p (.int .u8 0), .p (.int .u8 0), .p (.int .u8 0), .p (.int .u8 0), .p (.int .u8 0), .p (.int .u8 0), .p (.int .u8 0), .p (.int .u8 0), .p (.int .u8 0), .p (.int .u8 0), .p (.int .u8 0), .p (.int .u8 0), .p (.int .u8 0), .p (.int .u8 0), .p (.int .u8 0), .p (.int .u8 0), .p (.int .u8 0), .p (.int .u8 0), .p (.int .u8 0), .p (.int .u8 0), .p (.int .u8 0), .p (.int .u8 0), .p (.int .u8 0), .p (.int .u8 0), .p (.int .u8 0), .p (.int .u8 0), .p (.int .u8 0), .p (.int .u8 0), .p (.int .u8 0), .p (.int .u8 0), .p (.int .u8 0), .p (.int .u8 0), .p (.int .u8 0), .p (.int .u8 0), .p (.int .u8 0), .p (.int .u8 0), .p (.int .u8 0), .p (.int .u8 0), .p (.int .u8 0), .p (.int .u8 0), .p (.int .u8 0), .p (.int .u8 0), .p (.int .u8 0), .p (.int .u8 0), .p (.int .u8 0), .p (.int .u8 0), .p (.int .u8 0), .p (.int .u8 0), .p (.int .u8 0), .p (.int .u8 0), .p (.int .u8 0), .p (.int .u8 0), .p (.int .u8 0), .p (.int .u8 0), .p (.int .u8 0), .p (.int .u8 0), .p (.int .u8 0), .p (.int .u8 0), .p (.int .u8 0), .p (.int .u8 0), .p (.int .u8 0), .p (.int .u8 0), .p (.int .u8 0), .p (.int .u8 0), .p (.int .u8 0), .p (.int .u8 0), .p (.int .u8 0), .p (.int .u8 0), .p (.int .u8 0), .p (.int .u8 0), .p (.int .u8 0), .p (.int .u8 0), .p (.int .u8 0), .p (.int .u8 0), .p (.int .u8 0), .p (.int .u8 0), .p (.int .u8 0), .p (.int .u8 0), .p (.int .u8 0), .p (.int .u8 0), .p (.int .u8 0), .p (.int .u8 0), .p (.int .u8 0), .p (.int .u8 0), .p (.int .u8 0), .p (.int .u8 0), .p (.int .u8 0), .p (.int .u8 0), .p (.int .u8 0), .p (.int .u8 0), .p (.int .u8 0), .p (.int .u8 0), .p (.int .u8 0), .p (.int .u8 0), .p (.int .u8 0), .p (.int .u8 0), .p (.int .u8 0), .p (.int .u8 0), .p (.int .u8 0), .p (.int .u8 0), .p (.int .u8 0), .p (.int .u8 0), .p (.int .u8 0), .p (.int .u8 0), .p (.int .u8 0), .p (.int .u8 0), .p (.int .u8 0), .p (.int .u8 0), .p (.int .u8 0), .p (.int .u8 0), .p (.int .u8 0), .p (.int .u8 0), .p (.int .u8 0), .p (.int .u8 0), .p (.int .u8 0), .p (.int .u8 0), .p (.int .u8 0), .p (.int .u8 0), .p (.int .u8 0), .p (.int .u8 0), .p (.int .u8 0), .p (.int .u8 0), .p (.int .u8 0), .p (.int .u8 0), .p (.int .u8 0), .p (.int .u8 0), .p (.int .u8 0), .p (.int .u8 0), .p (.int .u8 0), .p (.int .u8 0), .p (.int .u8 0), .p (.int .u8 0), .p (.int .u8 0), .p (.int .u8 0), .p (.int .u8 0), .p (.int .u8 0), .p (.int .u8 0), .p (.int .u8 0), .p (.int .u8 0), .p (.int .u8 0), .p (.int .u8 0), .p (.int .u8 0), .p (.int .u8 0), .p (.int .u8 0), .p (.int .u8 0), .p (.int .u8 0), .p (.int .u8 0), .p (.int .u8 0), .p (.int .u8 0), .p (.int .u8 0), .p (.int .u8 0), .p (.int .u8 0), .p (.int .u8 0), .p (.int .u8 0), .p (.int .u8 0), .p (.int .u8 0), .p (.int .u8 0), .p (.int .u8 0), .p (.int .u8 0), .p (.int .u8 0), .p (.int .u8 0), .p (.int .u8 0), .p (.int .u8 0), .p (.int .u8 0), .p (.int .u8 0), .p (.int .u8 0), .p (.int .u8 0), .p (.int .u8 0), .p (.int .u8 0), .p (.int .u8 0), .p (.int .u8 0), .p (.int .u8 0), .p (.int .u8 0), .p (.int .u8 0), .p (.int .u8 0), .p (.int .u8 0), .p (.int .u8 0), .p (.int .u8 0), .p (.int .u8 0), .p (.int .u8 0), .p (.int .u8 0), .p (.int .u8 0), .p (.int .u8 0), .p (.int .u8 0), .p (.int .u8 0), .p (.int .u8 0)]⟩ := by kernel_rfl
theorem ti113 : tiOf Tryd.prog 113 = some ⟨2, 2, .struct [(0, 5), (1, 5)], .agg [.p (.int .u8 0), .p (.int .u8 0)]⟩ := by kernel_rfl
theorem fl113 : flatT Tryd.prog 113 = some [.int, .int] := by kernel_rfl
theorem ti114 : tiOf Tryd.prog 114 = some ⟨2, 2, .struct [(0, 5), (1, 5)], .agg [.p (.int .u8 0), .p (.int .u8 0)]⟩ := by kernel_rfl
theorem fl114 : flatT Tryd.prog 114 = some [.int, .int] := by kernel_rfl
theorem ti115 : tiOf Tryd.prog 115 = some ⟨32, 32, .array 16 114, .agg [.p (.int .u8 0), .p (.int .u8 0), .p (.int .u8 0), .p (.int .u8 0), .p (.int .u8 0), .p (.int .u8 0), .p (.int .u8 0), .p (.int .u8 0), .p (.int .u8 0), .p (.int .u8 0), .p (.int .u8 0), .p (.int .u8 0), .p (.int .u8 0), .p (.int .u8 0), .p (.int .u8 0), .p (.int .u8 0), .p (.int .u8 0), .p (.int .u8 0), .p (.int .u8 0), .p (.int .u8 0), .p (.int .u8 0), .p (.int .u8 0), .p (.int .u8 0), .p (.int .u8 0), .p (.int .u8 0), .p (.int .u8 0), .p (.int .u8 0), .p (.int .u8 0), .p (.int .u8 0), .p (.int .u8 0), .p (.int .u8 0), .p (.int .u8 0)]⟩ := by kernel_rfl
theorem ti118 : tiOf Tryd.prog 118 = some ⟨32, 32, .array 32 5, .agg [.p (.int .u8 0), .p (.int .u8 0), .p (.int .u8 0), .p (.int .u8 0), .p (.int .u8 0), .p (.int .u8 0), .p (.int .u8 0), .p (.int .u8 0), .p (.int .u8 0), .p (.int .u8 0), .p (.int .u8 0), .p (.int .u8 0), .p (.int .u8 0), .p (.int .u8 0), .p (.int .u8 0), .p (.int .u8 0), .p (.int .u8 0), .p (.int .u8 0), .p (.int .u8 0), .p (.int .u8 0), .p (.int .u8 0), .p (.int .u8 0), .p (.int .u8 0), .p (.int .u8 0), .p (.int .u8 0), .p (.int .u8 0), .p (.int .u8 0), .p (.int .u8 0), .p (.int .u8 0), .p (.int .u8 0), .p (.int .u8 0), .p (.int .u8 0)]⟩ := by kernel_rfl
theorem ti119 : tiOf Tryd.prog 119 = some ⟨64, 64, .array 64 5, .agg [.p (.int .u8 0), .p (.int .u8 0), .p (.int .u8 0), .p (.int .u8 0), .p (.int .u8 0), .p (.int .u8 0), .p (.int .u8 0), .p (.int .u8 0), .p (.int .u8 0), .p (.int .u8 0), .p (.int .u8 0), .p (.int .u8 0), .p (.int .u8 0), .p (.int .u8 0), .p (.int .u8 0), .p (.int .u8 0), .p (.int .u8 0), .p (.int .u8 0), .p (.int .u8 0), .p (.int .u8 0), .p (.int .u8 0), .p (.int .u8 0), .p (.int .u8 0), .p (.int .u8 0), .p (.int .u8 0), .p (.int .u8 0), .p (.int .u8 0), .p (.int .u8 0), .p (.int .u8 0), .p (.int .u8 0), .p (.int .u8 0), .p (.int .u8 0), .p (.int .u8 0), .p (.int .u8 0), .p (.int .u8 0), .p (.int .u8 0), .p (.int .u8 0), .p (.int .u8 0), .p (.int .u8 0), .p (.int .u8 0), .p (.int .u8 0), .p (.int .u8 0), .p (.int .u8 0), .p (.int .u8 0), .p (.int .u8 0), .p (.int .u8 0), .p (.int .u8 0), .p (.int .u8 0), .p (.int .u8 0), .p (.int .u8 0), .p (.int .u8 0), .p (.int .u8 0), .p (.int .u8 0), .p (.int .u8 0), .p (.int .u8 0), .p (.int .u8 0), .p (.int .u8 0), .p (.int .u8 0), .p (.int .u8 0), .p (.int .u8 0), .p (.int .u8 0), .p (.int .u8 0), .p (.int .u8 0), .p (.int .u8 0)]⟩ := by kernel_rfl
theorem enters2 : Enters Tryd.prog 2 := fun args w => Tryd.call2 args w
theorem enters3 : Enters Tryd.prog 3 := fun args w => Tryd.call3 args w
theorem enters4 : Enters Tryd.prog 4 := fun args w => Tryd.call4 args w
theorem enters5 : Enters Tryd.prog 5 := fun args w => Tryd.call5 args w
theorem enters6 : Enters Tryd.prog 6 := fun args w => Tryd.call6 args w
theorem enters7 : Enters Tryd.prog 7 := fun args w => Tryd.call7 args w
theorem enters8 : Enters Tryd.prog 8 := fun args w => Tryd.call8 args w
theorem enters9 : Enters Tryd.prog 9 := fun args w => Tryd.call9 args w
theorem enters10 : Enters Tryd.prog 10 := fun args w => Tryd.call10 args w
theorem enters11 : Enters Tryd.prog 11 := fun args w => Tryd.call11 args w
theorem enters12 : Enters Tryd.prog 12 := fun args w => Tryd.call12 args w
theorem enters13 : Enters Tryd.prog 13 := fun args w => Tryd.call13 args w
theorem enters14 : Enters Tryd.prog 14 := fun args w => Tryd.call14 args w
theorem enters15 : Enters Tryd.prog 15 := fun args w => Tryd.call15 args w
theorem enters16 : Enters Tryd.prog 16 := fun args w => Tryd.call16 args w
theorem enters17 : Enters Tryd.prog 17 := fun args w => Tryd.call17 args w
theorem enters18 : Enters Tryd.prog 18 := fun args w => Tryd.call18 args w
theorem enters19 : Enters Tryd.prog 19 := fun args w => Tryd.call19 args w
theorem enters20 : Enters Tryd.prog 20 := fun args w => Tryd.call20 args w
theorem enters21 : Enters Tryd.prog 21 := fun args w => Tryd.call21 args w
theorem enters22 : Enters Tryd.prog 22 := fun args w => Tryd.call22 args w
theorem enters23 : Enters Tryd.prog 23 := fun args w => Tryd.call23 args w
theorem enters24 : Enters Tryd.prog 24 := fun args w => Tryd.call24 args w
theorem enters25 : Enters Tryd.prog 25 := fun args w => Tryd.call25 args w
theorem enters26 : Enters Tryd.prog 26 := fun args w => Tryd.call26 args w
theorem enters27 : Enters Tryd.prog 27 := fun args w => Tryd.call27 args w
theorem enters28 : Enters Tryd.prog 28 := fun args w => Tryd.call28 args w
theorem enters29 : Enters Tryd.prog 29 := fun args w => Tryd.call29 args w
theorem enters30 : Enters Tryd.prog 30 := fun args w => Tryd.call30 args w
theorem enters31 : Enters Tryd.prog 31 := fun args w => Tryd.call31 args w
theorem enters32 : Enters Tryd.prog 32 := fun args w => Tryd.call32 args w
theorem enters33 : Enters Tryd.prog 33 := fun args w => Tryd.call33 args w
theorem enters34 : Enters Tryd.prog 34 := fun args w => Tryd.call34 args w
theorem enters35 : Enters Tryd.prog 35 := fun args w => Tryd.call35 args w
theorem enters36 : Enters Tryd.prog 36 := fun args w => Tryd.call36 args w
theorem enters37 : Enters Tryd.prog 37 := fun args w => Tryd.call37 args w
theorem enters38 : Enters Tryd.prog 38 := fun args w => Tryd.call38 args w
theorem enters39 : Enters Tryd.prog 39 := fun args w => Tryd.call39 args w
theorem enters40 : Enters Tryd.prog 40 := fun args w => Tryd.call40 args w
theorem enters41 : Enters Tryd.prog 41 := fun args w => Tryd.call41 args w
theorem enters42 : Enters Tryd.prog 42 := fun args w => Tryd.call42 args w
theorem enters43 : Enters Tryd.prog 43 := fun args w => Tryd.call43 args w
theorem enters44 : Enters Tryd.prog 44 := fun args w => Tryd.call44 args w
theorem enters45 : Enters Tryd.prog 45 := fun args w => Tryd.call45 args w
theorem enters46 : Enters Tryd.prog 46 := fun args w => Tryd.call46 args w
theorem enters47 : Enters Tryd.prog 47 := fun args w => Tryd.call47 args w
theorem enters48 : Enters Tryd.prog 48 := fun args w => Tryd.call48 args w
theorem enters49 : Enters Tryd.prog 49 := fun args w => Tryd.call49 args w
theorem enters50 : Enters Tryd.prog 50 := fun args w => Tryd.call50 args w
theorem enters51 : Enters Tryd.prog 51 := fun args w => Tryd.call51 args w
theorem enters52 : Enters Tryd.prog 52 := fun args w => Tryd.call52 args w
theorem enters53 : Enters Tryd.prog 53 := fun args w => Tryd.call53 args w
theorem enters54 : Enters Tryd.prog 54 := fun args w => Tryd.call54 args w
theorem enters55 : Enters Tryd.prog 55 := fun args w => Tryd.call55 args w
theorem enters56 : Enters Tryd.prog 56 := fun args w => Tryd.call56 args w
theorem enters57 : Enters Tryd.prog 57 := fun args w => Tryd.call57 args w
theorem enters58 : Enters Tryd.prog 58 := fun args w => Tryd.call58 args w
theorem enters61 : Enters Tryd.prog 61 := fun args w => Tryd.call61 args w
theorem enters62 : Enters Tryd.prog 62 := fun args w => Tryd.call62 args w
theorem enters64 : Enters Tryd.prog 64 := fun args w => Tryd.call64 args w
theorem enters65 : Enters Tryd.prog 65 := fun args w => Tryd.call65 args w
theorem enters66 : Enters Tryd.prog 66 := fun args w => Tryd.call66 args w
theorem enters67 : Enters Tryd.prog 67 := fun args w => Tryd.call67 args w
theorem enters68 : Enters Tryd.prog 68 := fun args w => Tryd.call68 args w
theorem enters69 : Enters Tryd.prog 69 := fun args w => Tryd.call69 args w
theorem enters70 : Enters Tryd.prog 70 := fun args w => Tryd.call70 args w
theorem enters71 : Enters Tryd.prog 71 := fun args w => Tryd.call71 args w
theorem enters73 : Enters Tryd.prog 73 := fun args w => Tryd.call73 args w
theorem enters74 : Enters Tryd.prog 74 := fun args w => Tryd.call74 args w
theorem enters75 : Enters Tryd.prog 75 := fun args w => Tryd.call75 args w
theorem enters76 : Enters Tryd.prog 76 := fun args w => Tryd.call76 args w
theorem enters78 : Enters Tryd.prog 78 := fun args w => Tryd.call78 args w
theorem enters104 : Enters Tryd.prog 104 := fun args w => Tryd.call104 args w
theorem mixed : Tryd.prog.follows .mixedOrders = true := by kernel_rfl
attribute [go_sem] ti2 ti3 ti4 ti5 ti9 ti12 ti13 ti21 ti22 ti25 fl25 ti26
attribute [go_sem] fl26 ti29 ti31 fl31 ti32 fl32 ti33 ti37 ti38 ti42 ti43 ti44
attribute [go_sem] ti45 ti47 ti50 ti51 ti52 fl52 ti53 fl53 ti54 ti57 ti65 ti73
attribute [go_sem] ti76 ti77 ti78 ti87 ti91 ti92 ti105 ti106 ti107 ti109 ti112 ti113
attribute [go_sem] fl113 ti114 fl114 ti115 ti118 ti119 Tryd.ntmps2 Tryd.results2 Tryd.ntmps3 Tryd.results3 Tryd.ntmps4 Tryd.results4
attribute [go_sem] Tryd.ntmps5 Tryd.results5 Tryd.ntmps6 Tryd.results6 Tryd.ntmps7 Tryd.results7 Tryd.ntmps8 Tryd.results8 Tryd.ntmps9 Tryd.results9 Tryd.ntmps10 Tryd.results10
attribute [go_sem] Tryd.ntmps11 Tryd.results11 Tryd.ntmps12 Tryd.results12 Tryd.ntmps13 Tryd.results13 Tryd.ntmps14 Tryd.results14 Tryd.ntmps15 Tryd.results15 Tryd.ntmps16 Tryd.results16
attribute [go_sem] Tryd.ntmps17 Tryd.results17 Tryd.ntmps18 Tryd.results18 Tryd.ntmps19 Tryd.results19 Tryd.ntmps20 Tryd.results20 Tryd.ntmps21 Tryd.results21 Tryd.ntmps22 Tryd.results22
attribute [go_sem] Tryd.ntmps23 Tryd.results23 Tryd.ntmps24 Tryd.results24 Tryd.ntmps25 Tryd.results25 Tryd.ntmps26 Tryd.results26 Tryd.ntmps27 Tryd.results27 Tryd.ntmps28 Tryd.results28
attribute [go_sem] Tryd.ntmps29 Tryd.results29 Tryd.ntmps30 Tryd.results30 Tryd.ntmps31 Tryd.results31 Tryd.ntmps32 Tryd.results32 Tryd.ntmps33 Tryd.results33 Tryd.ntmps34 Tryd.results34
attribute [go_sem] Tryd.ntmps35 Tryd.results35 Tryd.ntmps36 Tryd.results36 Tryd.ntmps37 Tryd.results37 Tryd.ntmps38 Tryd.results38 Tryd.ntmps39 Tryd.results39 Tryd.ntmps40 Tryd.results40
attribute [go_sem] Tryd.ntmps41 Tryd.results41 Tryd.ntmps42 Tryd.results42 Tryd.ntmps43 Tryd.results43 Tryd.ntmps44 Tryd.results44 Tryd.ntmps45 Tryd.results45 Tryd.ntmps46 Tryd.results46
attribute [go_sem] Tryd.ntmps47 Tryd.results47 Tryd.ntmps48 Tryd.results48 Tryd.ntmps49 Tryd.results49 Tryd.ntmps50 Tryd.results50 Tryd.ntmps51 Tryd.results51 Tryd.ntmps52 Tryd.results52
attribute [go_sem] Tryd.ntmps53 Tryd.results53 Tryd.ntmps54 Tryd.results54 Tryd.ntmps55 Tryd.results55 Tryd.ntmps56 Tryd.results56 Tryd.ntmps57 Tryd.results57 Tryd.ntmps58 Tryd.results58
attribute [go_sem] Tryd.ntmps61 Tryd.results61 Tryd.ntmps62 Tryd.results62 Tryd.ntmps64 Tryd.results64 Tryd.ntmps65 Tryd.results65 Tryd.ntmps66 Tryd.results66 Tryd.ntmps67 Tryd.results67
attribute [go_sem] Tryd.ntmps68 Tryd.results68 Tryd.ntmps69 Tryd.results69 Tryd.ntmps70 Tryd.results70 Tryd.ntmps71 Tryd.results71 Tryd.ntmps73 Tryd.results73 Tryd.ntmps74 Tryd.results74
attribute [go_sem] Tryd.ntmps75 Tryd.results75 Tryd.ntmps76 Tryd.results76 Tryd.ntmps78 Tryd.results78 Tryd.ntmps104 Tryd.results104
end Go.Am
