/- The facts of this seat that the walks use: its types, by their numbers; that its functions are entered. Printed by my gen2.py. -/
import Derived.Test.YtefdjkakojfhnaaAmD
import Derived.Test.YtefdjkakojfhnaaProg
import Derived.KernelRfl
namespace Go.Am
open Go Go.Proofs
set_option maxRecDepth 100000
theorem ti2 : tiOf Try.prog 2 = some ⟨1, 8, .int .i64, .p (.int .i64 0)⟩ := by kernel_rfl
theorem ti3 : tiOf Try.prog 3 = some ⟨1, 8, .int .i64, .p (.int .i64 0)⟩ := by kernel_rfl
theorem ti4 : tiOf Try.prog 4 = some ⟨1, 1, .bool, .p (.bool false)⟩ := by kernel_rfl
theorem ti5 : tiOf Try.prog 5 = some ⟨1, 1, .int .u8, .p (.int .u8 0)⟩ := by kernel_rfl
theorem ti9 : tiOf Try.prog 9 = some ⟨1, 16, .string, .p (.str [])⟩ := by kernel_rfl
theorem ti12 : tiOf Try.prog 12 = some ⟨1, 8, .int .u64, .p (.int .u64 0)⟩ := by kernel_rfl
theorem ti13 : tiOf Try.prog 13 = some ⟨2, 24, .struct [(0, 9), (1, 12)], .agg [.p (.str []), .p (.int .u64 0)]⟩ := by kernel_rfl
theorem ti21 : tiOf Try.prog 21 = some ⟨1, 4, .int .i32, .p (.int .i32 0)⟩ := by kernel_rfl
theorem ti22 : tiOf Try.prog 22 = some ⟨1, 24, .slice 36, .cl []⟩ := by kernel_rfl
theorem ti23 : tiOf Try.prog 23 = some ⟨1, 24, .slice 3, .cl []⟩ := by kernel_rfl
theorem ti26 : tiOf Try.prog 26 = some ⟨1, 24, .slice 22, .cl []⟩ := by kernel_rfl
theorem ti27 : tiOf Try.prog 27 = some ⟨1, 24, .slice 38, .cl []⟩ := by kernel_rfl
theorem ti28 : tiOf Try.prog 28 = some ⟨1, 8, .int .i64, .p (.int .i64 0)⟩ := by kernel_rfl
theorem ti34 : tiOf Try.prog 34 = some ⟨1, 24, .slice 9, .cl []⟩ := by kernel_rfl
theorem ti35 : tiOf Try.prog 35 = some ⟨2, 32, .struct [(0, 3), (1, 34)], .agg [.p (.int .i64 0), .cl []]⟩ := by kernel_rfl
theorem ti36 : tiOf Try.prog 36 = some ⟨2, 32, .struct [(0, 3), (1, 34)], .agg [.p (.int .i64 0), .cl []]⟩ := by kernel_rfl
theorem ti37 : tiOf Try.prog 37 = some ⟨4, 64, .struct [(0, 3), (1, 3), (2, 34), (3, 23)], .agg [.p (.int .i64 0), .p (.int .i64 0), .cl [], .cl []]⟩ := by kernel_rfl
theorem ti38 : tiOf Try.prog 38 = some ⟨4, 64, .struct [(0, 3), (1, 3), (2, 34), (3, 23)], .agg [.p (.int .i64 0), .p (.int .i64 0), .cl [], .cl []]⟩ := by kernel_rfl
theorem ti40 : tiOf Try.prog 40 = some ⟨1, 8, .ptr 42, .bad⟩ := by kernel_rfl
theorem ti41 : tiOf Try.prog 41 = some ⟨2, 32, .struct [(0, 23), (1, 3)], .agg [.cl [], .p (.int .i64 0)]⟩ := by kernel_rfl
theorem ti42 : tiOf Try.prog 42 = some ⟨2, 32, .struct [(0, 23), (1, 3)], .agg [.cl [], .p (.int .i64 0)]⟩ := by kernel_rfl
theorem ti47 : tiOf Try.prog 47 = some ⟨3, 40, .struct [(0, 9), (1, 9), (2, 4)], .agg [.p (.str []), .p (.str []), .p (.bool false)]⟩ := by kernel_rfl
theorem ti48 : tiOf Try.prog 48 = some ⟨3, 40, .struct [(0, 9), (1, 9), (2, 4)], .agg [.p (.str []), .p (.str []), .p (.bool false)]⟩ := by kernel_rfl
theorem ti49 : tiOf Try.prog 49 = some ⟨21, 280, .array 7 48, .agg [.p (.str []), .p (.str []), .p (.bool false), .p (.str []), .p (.str []), .p (.bool false), .p (.str []), .p (.str []), .p (.bool false), .p (.str []), .p (.str []), .p (.bool false), .p (.str []), .p (.str []), .p (.bool false), .p (.str []), .p (.str []), .p (.bool false), .p (.str []), .p (.str []), .p (.bool false)]⟩ := by kernel_rfl
theorem ti57 : tiOf Try.prog 57 = some ⟨1, 24, .slice 48, .cl []⟩ := by kernel_rfl
theorem ti66 : tiOf Try.prog 66 = some ⟨1, 24, .slice 5, .cl []⟩ := by kernel_rfl
theorem ti78 : tiOf Try.prog 78 = some ⟨1, 4, .int .u32, .p (.int .u32 0)⟩ := by kernel_rfl
theorem ti82 : tiOf Try.prog 82 = some ⟨1, 8, .ptr 5, .bad⟩ := by kernel_rfl
theorem enters2 : Enters Try.prog 2 := fun args w => Try.call2 args w
theorem enters3 : Enters Try.prog 3 := fun args w => Try.call3 args w
theorem enters4 : Enters Try.prog 4 := fun args w => Try.call4 args w
theorem enters5 : Enters Try.prog 5 := fun args w => Try.call5 args w
theorem enters6 : Enters Try.prog 6 := fun args w => Try.call6 args w
theorem enters7 : Enters Try.prog 7 := fun args w => Try.call7 args w
theorem enters8 : Enters Try.prog 8 := fun args w => Try.call8 args w
theorem enters9 : Enters Try.prog 9 := fun args w => Try.call9 args w
theorem enters10 : Enters Try.prog 10 := fun args w => Try.call10 args w
theorem enters11 : Enters Try.prog 11 := fun args w => Try.call11 args w
theorem enters12 : Enters Try.prog 12 := fun args w => Try.call12 args w
theorem enters13 : Enters Try.prog 13 := fun args w => Try.call13 args w
theorem enters14 : Enters Try.prog 14 := fun args w => Try.call14 args w
theorem enters15 : Enters Try.prog 15 := fun args w => Try.call15 args w
theorem enters16 : Enters Try.prog 16 := fun args w => Try.call16 args w
theorem enters17 : Enters Try.prog 17 := fun args w => Try.call17 args w
theorem enters18 : Enters Try.prog 18 := fun args w => Try.call18 args w
theorem enters19 : Enters Try.prog 19 := fun args w => Try.call19 args w
theorem enters20 : Enters Try.prog 20 := fun args w => Try.call20 args w
theorem enters21 : Enters Try.prog 21 := fun args w => Try.call21 args w
theorem enters22 : Enters Try.prog 22 := fun args w => Try.call22 args w
theorem enters23 : Enters Try.prog 23 := fun args w => Try.call23 args w
theorem enters24 : Enters Try.prog 24 := fun args w => Try.call24 args w
theorem enters25 : Enters Try.prog 25 := fun args w => Try.call25 args w
theorem enters26 : Enters Try.prog 26 := fun args w => Try.call26 args w
theorem enters27 : Enters Try.prog 27 := fun args w => Try.call27 args w
theorem enters28 : Enters Try.prog 28 := fun args w => Try.call28 args w
theorem enters29 : Enters Try.prog 29 := fun args w => Try.call29 args w
theorem enters30 : Enters Try.prog 30 := fun args w => Try.call30 args w
theorem enters31 : Enters Try.prog 31 := fun args w => Try.call31 args w
theorem enters32 : Enters Try.prog 32 := fun args w => Try.call32 args w
theorem enters33 : Enters Try.prog 33 := fun args w => Try.call33 args w
theorem enters34 : Enters Try.prog 34 := fun args w => Try.call34 args w
theorem enters35 : Enters Try.prog 35 := fun args w => Try.call35 args w
theorem enters36 : Enters Try.prog 36 := fun args w => Try.call36 args w
theorem mixed : Try.prog.follows .mixedOrders = true := by kernel_rfl
attribute [go_sem] ti2 ti3 ti4 ti5 ti9 ti12 ti13 ti21 ti22 ti23 ti26 ti27
attribute [go_sem] ti28 ti34 ti35 ti36 ti37 ti38 ti40 ti41 ti42 ti47 ti48 ti49
attribute [go_sem] ti57 ti66 ti78 ti82 Try.ntmps2 Try.results2 Try.ntmps3 Try.results3 Try.ntmps4 Try.results4 Try.ntmps5 Try.results5
attribute [go_sem] Try.ntmps6 Try.results6 Try.ntmps7 Try.results7 Try.ntmps8 Try.results8 Try.ntmps9 Try.results9 Try.ntmps10 Try.results10 Try.ntmps11 Try.results11
attribute [go_sem] Try.ntmps12 Try.results12 Try.ntmps13 Try.results13 Try.ntmps14 Try.results14 Try.ntmps15 Try.results15 Try.ntmps16 Try.results16 Try.ntmps17 Try.results17
attribute [go_sem] Try.ntmps18 Try.results18 Try.ntmps19 Try.results19 Try.ntmps20 Try.results20 Try.ntmps21 Try.results21 Try.ntmps22 Try.results22 Try.ntmps23 Try.results23
attribute [go_sem] Try.ntmps24 Try.results24 Try.ntmps25 Try.results25 Try.ntmps26 Try.results26 Try.ntmps27 Try.results27 Try.ntmps28 Try.results28 Try.ntmps29 Try.results29
attribute [go_sem] Try.ntmps30 Try.results30 Try.ntmps31 Try.results31 Try.ntmps32 Try.results32 Try.ntmps33 Try.results33 Try.ntmps34 Try.results34 Try.ntmps35 Try.results35
attribute [go_sem] Try.ntmps36 Try.results36
end Go.Am
