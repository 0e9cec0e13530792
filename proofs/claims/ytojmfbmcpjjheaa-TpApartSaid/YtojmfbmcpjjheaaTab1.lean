import Derived.Test.YtojmfbmcpjjheaaPe18
import Derived.Test.YtojmfbmcpjjheaaPe20
import Derived.Test.YtojmfbmcpjjheaaProg
import Derived.KernelRfl
namespace Go.Proofs.Ytojmfbmcpjjheaa.Pe
open Go.Pe
set_option maxRecDepth 20000
def ti1 : TI := ⟨1, false, 8, [.nilFunc], [.lit (.nilFunc)], .other, false⟩
theorem ok1 : TypeOK Try.prog 1 ti1 := TypeOK.of (d := _) (z := .nilFunc) Try.underlying1 (by kernel_rfl) trivial rfl rfl rfl rfl rfl rfl [none] rfl rfl
def ti2 : TI := ⟨1, false, 8, [.int .i64 0], [.lit (.int .i64 0)], .int .i64, false⟩
theorem ok2 : TypeOK Try.prog 2 ti2 := TypeOK.of (d := _) (z := .int .i64 0) Try.underlying2 (by kernel_rfl) rfl rfl rfl rfl rfl rfl rfl [none] rfl rfl
def ti3 : TI := ⟨1, false, 8, [.int .i64 0], [.lit (.int .i64 0)], .int .i64, false⟩
theorem ok3 : TypeOK Try.prog 3 ti3 := TypeOK.of (d := _) (z := .int .i64 0) Try.underlying3 (by kernel_rfl) rfl rfl rfl rfl rfl rfl rfl [none] rfl rfl
def ti4 : TI := ⟨1, false, 1, [.bool false], [.lit (.bool false)], .bool, false⟩
theorem ok4 : TypeOK Try.prog 4 ti4 := TypeOK.of (d := _) (z := .bool false) Try.underlying4 (by kernel_rfl) rfl rfl rfl rfl rfl rfl rfl [none] rfl rfl
def ti5 : TI := ⟨1, false, 1, [.int .u8 0], [.lit (.int .u8 0)], .int .u8, false⟩
theorem ok5 : TypeOK Try.prog 5 ti5 := TypeOK.of (d := _) (z := .int .u8 0) Try.underlying5 (by kernel_rfl) rfl rfl rfl rfl rfl rfl rfl [none] rfl rfl
def ti6 : TI := ⟨1, false, 1, [.int .u8 0], [.lit (.int .u8 0)], .int .u8, false⟩
theorem ok6 : TypeOK Try.prog 6 ti6 := TypeOK.of (d := _) (z := .int .u8 0) Try.underlying6 (by kernel_rfl) rfl rfl rfl rfl rfl rfl rfl [none] rfl rfl
def ti7 : TI := ⟨4, true, 24, [.int .i64 0, .int .i64 0, .bool false, .int .u8 0], [.lit (.int .i64 0), .lit (.int .i64 0), .lit (.bool false), .lit (.int .u8 0)], .struct [(0, 2), (1, 3), (2, 4), (3, 6)], false⟩
theorem ok7 : TypeOK Try.prog 7 ti7 := TypeOK.of (d := _) (z := .agg #[.int .i64 0, .int .i64 0, .bool false, .int .u8 0]) Try.underlying7 (by kernel_rfl) ⟨_, rfl, rfl⟩ rfl rfl rfl rfl rfl rfl [none, none, none, none] rfl rfl
def ti8 : TI := ⟨4, true, 24, [.int .i64 0, .int .i64 0, .bool false, .int .u8 0], [.lit (.int .i64 0), .lit (.int .i64 0), .lit (.bool false), .lit (.int .u8 0)], .struct [(0, 2), (1, 3), (2, 4), (3, 6)], false⟩
theorem ok8 : TypeOK Try.prog 8 ti8 := TypeOK.of (d := _) (z := .agg #[.int .i64 0, .int .i64 0, .bool false, .int .u8 0]) Try.underlying8 (by kernel_rfl) ⟨_, rfl, rfl⟩ rfl rfl rfl rfl rfl rfl [none, none, none, none] rfl rfl
def ti9 : TI := ⟨1, false, 16, [.string ⟨#[]⟩], [.lit (.string ⟨#[]⟩)], .str, false⟩
theorem ok9 : TypeOK Try.prog 9 ti9 := TypeOK.of (d := _) (z := .string ⟨#[]⟩) Try.underlying9 (by kernel_rfl) rfl rfl rfl rfl rfl rfl rfl [none] rfl rfl
def ti10 : TI := ⟨1, false, 16, [.string ⟨#[]⟩], [.lit (.string ⟨#[]⟩)], .str, false⟩
theorem ok10 : TypeOK Try.prog 10 ti10 := TypeOK.of (d := _) (z := .string ⟨#[]⟩) Try.underlying10 (by kernel_rfl) rfl rfl rfl rfl rfl rfl rfl [none] rfl rfl
def ti11 : TI := ⟨1, false, 16, [.string ⟨#[]⟩], [.lit (.string ⟨#[]⟩)], .str, false⟩
theorem ok11 : TypeOK Try.prog 11 ti11 := TypeOK.of (d := _) (z := .string ⟨#[]⟩) Try.underlying11 (by kernel_rfl) rfl rfl rfl rfl rfl rfl rfl [none] rfl rfl
def ti12 : TI := ⟨1, false, 8, [.int .u64 0], [.lit (.int .u64 0)], .int .u64, false⟩
theorem ok12 : TypeOK Try.prog 12 ti12 := TypeOK.of (d := _) (z := .int .u64 0) Try.underlying12 (by kernel_rfl) rfl rfl rfl rfl rfl rfl rfl [none] rfl rfl
def ti13 : TI := ⟨2, true, 24, [.string ⟨#[]⟩, .int .u64 0], [.lit (.string ⟨#[]⟩), .lit (.int .u64 0)], .struct [(0, 9), (1, 12)], false⟩
theorem ok13 : TypeOK Try.prog 13 ti13 := TypeOK.of (d := _) (z := .agg #[.string ⟨#[]⟩, .int .u64 0]) Try.underlying13 (by kernel_rfl) ⟨_, rfl, rfl⟩ rfl rfl rfl rfl rfl rfl [none, none] rfl rfl
def ti14 : TI := ⟨2, true, 24, [.string ⟨#[]⟩, .int .u64 0], [.lit (.string ⟨#[]⟩), .lit (.int .u64 0)], .struct [(0, 9), (1, 12)], false⟩
theorem ok14 : TypeOK Try.prog 14 ti14 := TypeOK.of (d := _) (z := .agg #[.string ⟨#[]⟩, .int .u64 0]) Try.underlying14 (by kernel_rfl) ⟨_, rfl, rfl⟩ rfl rfl rfl rfl rfl rfl [none, none] rfl rfl
def ti15 : TI := ⟨1, false, 8, [.pointer none], [.lit (.pointer none)], .other, false⟩
theorem ok15 : TypeOK Try.prog 15 ti15 := TypeOK.of (d := _) (z := .pointer none) Try.underlying15 (by kernel_rfl) trivial rfl rfl rfl rfl rfl rfl [none] rfl rfl
def ti16 : TI := ⟨1, false, 8, [.pointer none], [.lit (.pointer none)], .other, false⟩
theorem ok16 : TypeOK Try.prog 16 ti16 := TypeOK.of (d := _) (z := .pointer none) Try.underlying16 (by kernel_rfl) trivial rfl rfl rfl rfl rfl rfl [none] rfl rfl
def ti17 : TI := ⟨1, false, 8, [.pointer none], [.lit (.pointer none)], .other, false⟩
theorem ok17 : TypeOK Try.prog 17 ti17 := TypeOK.of (d := _) (z := .pointer none) Try.underlying17 (by kernel_rfl) trivial rfl rfl rfl rfl rfl rfl [none] rfl rfl
def ti18 : TI := ⟨1, true, 8, [.pointer none], [.lit (.pointer none)], .struct [(0, 17)], false⟩
theorem ok18 : TypeOK Try.prog 18 ti18 := TypeOK.of (d := _) (z := .agg #[.pointer none]) Try.underlying18 (by kernel_rfl) ⟨_, rfl, rfl⟩ rfl rfl rfl rfl rfl rfl [none] rfl rfl
def ti19 : TI := ⟨1, true, 8, [.pointer none], [.lit (.pointer none)], .struct [(0, 17)], false⟩
theorem ok19 : TypeOK Try.prog 19 ti19 := TypeOK.of (d := _) (z := .agg #[.pointer none]) Try.underlying19 (by kernel_rfl) ⟨_, rfl, rfl⟩ rfl rfl rfl rfl rfl rfl [none] rfl rfl
def ti20 : TI := ⟨1, false, 16, [.nilIface], [.lit (.nilIface)], .other, false⟩
theorem ok20 : TypeOK Try.prog 20 ti20 := TypeOK.of (d := _) (z := .nilIface) Try.underlying20 (by kernel_rfl) trivial rfl rfl rfl rfl rfl rfl [none] rfl rfl
def ti21 : TI := ⟨1, false, 4, [.int .i32 0], [.lit (.int .i32 0)], .int .i32, false⟩
theorem ok21 : TypeOK Try.prog 21 ti21 := TypeOK.of (d := _) (z := .int .i32 0) Try.underlying21 (by kernel_rfl) rfl rfl rfl rfl rfl rfl rfl [none] rfl rfl
def ti22 : TI := ⟨1, false, 24, [.slice none 0 0], [.lit (.slice none 0 0)], .slice 5, false⟩
theorem ok22 : TypeOK Try.prog 22 ti22 := TypeOK.of (d := _) (z := .slice none 0 0) Try.underlying22 (by kernel_rfl) rfl rfl rfl rfl rfl rfl rfl [none] rfl rfl
def ti23 : TI := ⟨1, false, 8, [.nilFunc], [.lit (.nilFunc)], .other, false⟩
theorem ok23 : TypeOK Try.prog 23 ti23 := TypeOK.of (d := _) (z := .nilFunc) Try.underlying23 (by kernel_rfl) trivial rfl rfl rfl rfl rfl rfl [none] rfl rfl
def ti24 : TI := ⟨1, false, 24, [.slice none 0 0], [.lit (.slice none 0 0)], .slice 29, false⟩
theorem ok24 : TypeOK Try.prog 24 ti24 := TypeOK.of (d := _) (z := .slice none 0 0) Try.underlying24 (by kernel_rfl) rfl rfl rfl rfl rfl rfl rfl [none] rfl rfl
def ti26 : TI := ⟨1, false, 8, [.nilFunc], [.lit (.nilFunc)], .other, false⟩
theorem ok26 : TypeOK Try.prog 26 ti26 := TypeOK.of (d := _) (z := .nilFunc) Try.underlying26 (by kernel_rfl) trivial rfl rfl rfl rfl rfl rfl [none] rfl rfl
def ti27 : TI := ⟨1, false, 8, [.nilFunc], [.lit (.nilFunc)], .other, false⟩
theorem ok27 : TypeOK Try.prog 27 ti27 := TypeOK.of (d := _) (z := .nilFunc) Try.underlying27 (by kernel_rfl) trivial rfl rfl rfl rfl rfl rfl [none] rfl rfl
def ti28 : TI := ⟨7, true, 72, [.int .i64 0, .int .i64 0, .int .i64 0, .int .i64 0, .int .i64 0, .int .i64 0, .slice none 0 0], [.lit (.int .i64 0), .lit (.int .i64 0), .lit (.int .i64 0), .lit (.int .i64 0), .lit (.int .i64 0), .lit (.int .i64 0), .im 1 []], .struct [(0, 3), (1, 3), (2, 3), (3, 3), (4, 3), (5, 3), (6, 22)], false⟩
theorem ok28 : TypeOK Try.prog 28 ti28 := TypeOK.of (d := _) (z := .agg #[.int .i64 0, .int .i64 0, .int .i64 0, .int .i64 0, .int .i64 0, .int .i64 0, .slice none 0 0]) Try.underlying28 (by kernel_rfl) ⟨_, rfl, rfl⟩ rfl rfl rfl rfl rfl rfl [none, none, none, none, none, none, some 1] rfl rfl
def ti29 : TI := ⟨7, true, 72, [.int .i64 0, .int .i64 0, .int .i64 0, .int .i64 0, .int .i64 0, .int .i64 0, .slice none 0 0], [.lit (.int .i64 0), .lit (.int .i64 0), .lit (.int .i64 0), .lit (.int .i64 0), .lit (.int .i64 0), .lit (.int .i64 0), .im 1 []], .struct [(0, 3), (1, 3), (2, 3), (3, 3), (4, 3), (5, 3), (6, 22)], false⟩
theorem ok29 : TypeOK Try.prog 29 ti29 := TypeOK.of (d := _) (z := .agg #[.int .i64 0, .int .i64 0, .int .i64 0, .int .i64 0, .int .i64 0, .int .i64 0, .slice none 0 0]) Try.underlying29 (by kernel_rfl) ⟨_, rfl, rfl⟩ rfl rfl rfl rfl rfl rfl [none, none, none, none, none, none, some 1] rfl rfl
def ti30 : TI := ⟨1, false, 8, [.nilFunc], [.lit (.nilFunc)], .other, false⟩
theorem ok30 : TypeOK Try.prog 30 ti30 := TypeOK.of (d := _) (z := .nilFunc) Try.underlying30 (by kernel_rfl) trivial rfl rfl rfl rfl rfl rfl [none] rfl rfl
def ti31 : TI := ⟨1, false, 8, [.int .i64 0], [.lit (.int .i64 0)], .int .i64, false⟩
theorem ok31 : TypeOK Try.prog 31 ti31 := TypeOK.of (d := _) (z := .int .i64 0) Try.underlying31 (by kernel_rfl) rfl rfl rfl rfl rfl rfl rfl [none] rfl rfl
def ti33 : TI := ⟨1, false, 8, [.nilFunc], [.lit (.nilFunc)], .other, false⟩
theorem ok33 : TypeOK Try.prog 33 ti33 := TypeOK.of (d := _) (z := .nilFunc) Try.underlying33 (by kernel_rfl) trivial rfl rfl rfl rfl rfl rfl [none] rfl rfl
def ti35 : TI := ⟨1, false, 8, [.nilFunc], [.lit (.nilFunc)], .other, false⟩
theorem ok35 : TypeOK Try.prog 35 ti35 := TypeOK.of (d := _) (z := .nilFunc) Try.underlying35 (by kernel_rfl) trivial rfl rfl rfl rfl rfl rfl [none] rfl rfl
def ti36 : TI := ⟨1, false, 8, [.nilFunc], [.lit (.nilFunc)], .other, false⟩
theorem ok36 : TypeOK Try.prog 36 ti36 := TypeOK.of (d := _) (z := .nilFunc) Try.underlying36 (by kernel_rfl) trivial rfl rfl rfl rfl rfl rfl [none] rfl rfl
def ti37 : TI := ⟨1, false, 8, [.nilFunc], [.lit (.nilFunc)], .other, false⟩
theorem ok37 : TypeOK Try.prog 37 ti37 := TypeOK.of (d := _) (z := .nilFunc) Try.underlying37 (by kernel_rfl) trivial rfl rfl rfl rfl rfl rfl [none] rfl rfl
def ti38 : TI := ⟨1, false, 8, [.nilFunc], [.lit (.nilFunc)], .other, false⟩
theorem ok38 : TypeOK Try.prog 38 ti38 := TypeOK.of (d := _) (z := .nilFunc) Try.underlying38 (by kernel_rfl) trivial rfl rfl rfl rfl rfl rfl [none] rfl rfl
def ti39 : TI := ⟨1, false, 8, [.nilFunc], [.lit (.nilFunc)], .other, false⟩
theorem ok39 : TypeOK Try.prog 39 ti39 := TypeOK.of (d := _) (z := .nilFunc) Try.underlying39 (by kernel_rfl) trivial rfl rfl rfl rfl rfl rfl [none] rfl rfl
def ti40 : TI := ⟨1, false, 8, [.nilFunc], [.lit (.nilFunc)], .other, false⟩
theorem ok40 : TypeOK Try.prog 40 ti40 := TypeOK.of (d := _) (z := .nilFunc) Try.underlying40 (by kernel_rfl) trivial rfl rfl rfl rfl rfl rfl [none] rfl rfl
def ti41 : TI := ⟨1, false, 8, [.nilFunc], [.lit (.nilFunc)], .other, false⟩
theorem ok41 : TypeOK Try.prog 41 ti41 := TypeOK.of (d := _) (z := .nilFunc) Try.underlying41 (by kernel_rfl) trivial rfl rfl rfl rfl rfl rfl [none] rfl rfl
def ti42 : TI := ⟨1, false, 8, [.nilFunc], [.lit (.nilFunc)], .other, false⟩
theorem ok42 : TypeOK Try.prog 42 ti42 := TypeOK.of (d := _) (z := .nilFunc) Try.underlying42 (by kernel_rfl) trivial rfl rfl rfl rfl rfl rfl [none] rfl rfl
def ti43 : TI := ⟨1, false, 8, [.nilFunc], [.lit (.nilFunc)], .other, false⟩
theorem ok43 : TypeOK Try.prog 43 ti43 := TypeOK.of (d := _) (z := .nilFunc) Try.underlying43 (by kernel_rfl) trivial rfl rfl rfl rfl rfl rfl [none] rfl rfl
def ti44 : TI := ⟨1, false, 8, [.nilFunc], [.lit (.nilFunc)], .other, false⟩
theorem ok44 : TypeOK Try.prog 44 ti44 := TypeOK.of (d := _) (z := .nilFunc) Try.underlying44 (by kernel_rfl) trivial rfl rfl rfl rfl rfl rfl [none] rfl rfl
def ti45 : TI := ⟨5, true, 40, [.nilFunc, .nilFunc, .nilFunc, .nilFunc, .nilFunc], [.lit (.nilFunc), .lit (.nilFunc), .lit (.nilFunc), .lit (.nilFunc), .lit (.nilFunc)], .array 5 23, false⟩
theorem ok45 : TypeOK Try.prog 45 ti45 := TypeOK.of (d := _) (z := .agg #[.nilFunc, .nilFunc, .nilFunc, .nilFunc, .nilFunc]) Try.underlying45 (by kernel_rfl) rfl rfl rfl rfl rfl rfl rfl [none, none, none, none, none] rfl rfl
def ti46 : TI := ⟨1, false, 8, [.nilFunc], [.lit (.nilFunc)], .other, false⟩
theorem ok46 : TypeOK Try.prog 46 ti46 := TypeOK.of (d := _) (z := .nilFunc) Try.underlying46 (by kernel_rfl) trivial rfl rfl rfl rfl rfl rfl [none] rfl rfl
def ti47 : TI := ⟨1, false, 8, [.int .u64 0], [.lit (.int .u64 0)], .int .u64, false⟩
theorem ok47 : TypeOK Try.prog 47 ti47 := TypeOK.of (d := _) (z := .int .u64 0) Try.underlying47 (by kernel_rfl) rfl rfl rfl rfl rfl rfl rfl [none] rfl rfl
def ti48 : TI := ⟨1, false, 8, [.nilFunc], [.lit (.nilFunc)], .other, false⟩
theorem ok48 : TypeOK Try.prog 48 ti48 := TypeOK.of (d := _) (z := .nilFunc) Try.underlying48 (by kernel_rfl) trivial rfl rfl rfl rfl rfl rfl [none] rfl rfl
def ti49 : TI := ⟨4, true, 40, [.pointer none, .pointer none, .pointer none, .string ⟨#[]⟩], [.lit (.pointer none), .lit (.pointer none), .lit (.pointer none), .lit (.string ⟨#[]⟩)], .struct [(0, 17), (1, 17), (2, 17), (3, 9)], false⟩
theorem ok49 : TypeOK Try.prog 49 ti49 := TypeOK.of (d := _) (z := .agg #[.pointer none, .pointer none, .pointer none, .string ⟨#[]⟩]) Try.underlying49 (by kernel_rfl) ⟨_, rfl, rfl⟩ rfl rfl rfl rfl rfl rfl [none, none, none, none] rfl rfl
def ti50 : TI := ⟨4, true, 40, [.pointer none, .pointer none, .pointer none, .string ⟨#[]⟩], [.lit (.pointer none), .lit (.pointer none), .lit (.pointer none), .lit (.string ⟨#[]⟩)], .struct [(0, 17), (1, 17), (2, 17), (3, 9)], false⟩
theorem ok50 : TypeOK Try.prog 50 ti50 := TypeOK.of (d := _) (z := .agg #[.pointer none, .pointer none, .pointer none, .string ⟨#[]⟩]) Try.underlying50 (by kernel_rfl) ⟨_, rfl, rfl⟩ rfl rfl rfl rfl rfl rfl [none, none, none, none] rfl rfl
def ti51 : TI := ⟨0, true, 0, [], [], .array 0 16, false⟩
theorem ok51 : TypeOK Try.prog 51 ti51 := TypeOK.of (d := _) (z := .agg #[]) Try.underlying51 (by kernel_rfl) rfl rfl rfl rfl rfl rfl rfl [] rfl rfl
def ti52 : TI := ⟨0, true, 0, [], [], .struct [(0, 51)], false⟩
theorem ok52 : TypeOK Try.prog 52 ti52 := TypeOK.of (d := _) (z := .agg #[]) Try.underlying52 (by kernel_rfl) ⟨_, rfl, rfl⟩ rfl rfl rfl rfl rfl rfl [] rfl rfl
def ti53 : TI := ⟨0, true, 0, [], [], .struct [(0, 51)], false⟩
theorem ok53 : TypeOK Try.prog 53 ti53 := TypeOK.of (d := _) (z := .agg #[]) Try.underlying53 (by kernel_rfl) ⟨_, rfl, rfl⟩ rfl rfl rfl rfl rfl rfl [] rfl rfl
def ti54 : TI := ⟨1, false, 8, [.nilFunc], [.lit (.nilFunc)], .other, false⟩
theorem ok54 : TypeOK Try.prog 54 ti54 := TypeOK.of (d := _) (z := .nilFunc) Try.underlying54 (by kernel_rfl) trivial rfl rfl rfl rfl rfl rfl [none] rfl rfl
def ti55 : TI := ⟨1, false, 4, [.int .u32 0], [.lit (.int .u32 0)], .int .u32, false⟩
theorem ok55 : TypeOK Try.prog 55 ti55 := TypeOK.of (d := _) (z := .int .u32 0) Try.underlying55 (by kernel_rfl) rfl rfl rfl rfl rfl rfl rfl [none] rfl rfl
def ti56 : TI := ⟨1, false, 1, [.int .u8 0], [.lit (.int .u8 0)], .int .u8, false⟩
theorem ok56 : TypeOK Try.prog 56 ti56 := TypeOK.of (d := _) (z := .int .u8 0) Try.underlying56 (by kernel_rfl) rfl rfl rfl rfl rfl rfl rfl [none] rfl rfl
def ti57 : TI := ⟨1, false, 1, [.int .u8 0], [.lit (.int .u8 0)], .int .u8, false⟩
theorem ok57 : TypeOK Try.prog 57 ti57 := TypeOK.of (d := _) (z := .int .u8 0) Try.underlying57 (by kernel_rfl) rfl rfl rfl rfl rfl rfl rfl [none] rfl rfl
def ti58 : TI := ⟨1, false, 8, [.nilFunc], [.lit (.nilFunc)], .other, false⟩
theorem ok58 : TypeOK Try.prog 58 ti58 := TypeOK.of (d := _) (z := .nilFunc) Try.underlying58 (by kernel_rfl) trivial rfl rfl rfl rfl rfl rfl [none] rfl rfl
def ti59 : TI := ⟨1, false, 8, [.pointer none], [.lit (.pointer none)], .other, false⟩
theorem ok59 : TypeOK Try.prog 59 ti59 := TypeOK.of (d := _) (z := .pointer none) Try.underlying59 (by kernel_rfl) trivial rfl rfl rfl rfl rfl rfl [none] rfl rfl
def ti60 : TI := ⟨1, false, 4, [.int .i32 0], [.lit (.int .i32 0)], .int .i32, false⟩
theorem ok60 : TypeOK Try.prog 60 ti60 := TypeOK.of (d := _) (z := .int .i32 0) Try.underlying60 (by kernel_rfl) rfl rfl rfl rfl rfl rfl rfl [none] rfl rfl
def ti61 : TI := ⟨1, false, 4, [.int .i32 0], [.lit (.int .i32 0)], .int .i32, false⟩
theorem ok61 : TypeOK Try.prog 61 ti61 := TypeOK.of (d := _) (z := .int .i32 0) Try.underlying61 (by kernel_rfl) rfl rfl rfl rfl rfl rfl rfl [none] rfl rfl
def ti62 : TI := ⟨11, true, 48, [.int .u64 0, .int .u64 0, .int .u32 0, .int .u8 0, .int .u8 0, .int .u8 0, .int .u8 0, .nilFunc, .pointer none, .int .i32 0, .int .i32 0], [.lit (.int .u64 0), .lit (.int .u64 0), .lit (.int .u32 0), .lit (.int .u8 0), .lit (.int .u8 0), .lit (.int .u8 0), .lit (.int .u8 0), .lit (.nilFunc), .lit (.pointer none), .lit (.int .i32 0), .lit (.int .i32 0)], .struct [(0, 12), (1, 12), (2, 55), (3, 56), (4, 5), (5, 5), (6, 57), (7, 58), (8, 59), (9, 60), (10, 61)], false⟩
theorem ok62 : TypeOK Try.prog 62 ti62 := TypeOK.of (d := _) (z := .agg #[.int .u64 0, .int .u64 0, .int .u32 0, .int .u8 0, .int .u8 0, .int .u8 0, .int .u8 0, .nilFunc, .pointer none, .int .i32 0, .int .i32 0]) Try.underlying62 (by kernel_rfl) ⟨_, rfl, rfl⟩ rfl rfl rfl rfl rfl rfl [none, none, none, none, none, none, none, none, none, none, none] rfl rfl
def ti63 : TI := ⟨11, true, 48, [.int .u64 0, .int .u64 0, .int .u32 0, .int .u8 0, .int .u8 0, .int .u8 0, .int .u8 0, .nilFunc, .pointer none, .int .i32 0, .int .i32 0], [.lit (.int .u64 0), .lit (.int .u64 0), .lit (.int .u32 0), .lit (.int .u8 0), .lit (.int .u8 0), .lit (.int .u8 0), .lit (.int .u8 0), .lit (.nilFunc), .lit (.pointer none), .lit (.int .i32 0), .lit (.int .i32 0)], .struct [(0, 12), (1, 12), (2, 55), (3, 56), (4, 5), (5, 5), (6, 57), (7, 58), (8, 59), (9, 60), (10, 61)], false⟩
theorem ok63 : TypeOK Try.prog 63 ti63 := TypeOK.of (d := _) (z := .agg #[.int .u64 0, .int .u64 0, .int .u32 0, .int .u8 0, .int .u8 0, .int .u8 0, .int .u8 0, .nilFunc, .pointer none, .int .i32 0, .int .i32 0]) Try.underlying63 (by kernel_rfl) ⟨_, rfl, rfl⟩ rfl rfl rfl rfl rfl rfl [none, none, none, none, none, none, none, none, none, none, none] rfl rfl
def tab : Tab := fun
  | 1 => some ti1
  | 2 => some ti2
  | 3 => some ti3
  | 4 => some ti4
  | 5 => some ti5
  | 6 => some ti6
  | 7 => some ti7
  | 8 => some ti8
  | 9 => some ti9
  | 10 => some ti10
  | 11 => some ti11
  | 12 => some ti12
  | 13 => some ti13
  | 14 => some ti14
  | 15 => some ti15
  | 16 => some ti16
  | 17 => some ti17
  | 18 => some ti18
  | 19 => some ti19
  | 20 => some ti20
  | 21 => some ti21
  | 22 => some ti22
  | 23 => some ti23
  | 24 => some ti24
  | 26 => some ti26
  | 27 => some ti27
  | 28 => some ti28
  | 29 => some ti29
  | 30 => some ti30
  | 31 => some ti31
  | 33 => some ti33
  | 35 => some ti35
  | 36 => some ti36
  | 37 => some ti37
  | 38 => some ti38
  | 39 => some ti39
  | 40 => some ti40
  | 41 => some ti41
  | 42 => some ti42
  | 43 => some ti43
  | 44 => some ti44
  | 45 => some ti45
  | 46 => some ti46
  | 47 => some ti47
  | 48 => some ti48
  | 49 => some ti49
  | 50 => some ti50
  | 51 => some ti51
  | 52 => some ti52
  | 53 => some ti53
  | 54 => some ti54
  | 55 => some ti55
  | 56 => some ti56
  | 57 => some ti57
  | 58 => some ti58
  | 59 => some ti59
  | 60 => some ti60
  | 61 => some ti61
  | 62 => some ti62
  | 63 => some ti63
  | _ => none
theorem tabOK : TabOK Try.prog tab := by
  intro t ti h
  unfold tab at h
  split at h <;> first | (cases h; done) | (simp only [Option.some.injEq] at h; subst h; first | exact ok1 | exact ok2 | exact ok3 | exact ok4 | exact ok5 | exact ok6 | exact ok7 | exact ok8 | exact ok9 | exact ok10 | exact ok11 | exact ok12 | exact ok13 | exact ok14 | exact ok15 | exact ok16 | exact ok17 | exact ok18 | exact ok19 | exact ok20 | exact ok21 | exact ok22 | exact ok23 | exact ok24 | exact ok26 | exact ok27 | exact ok28 | exact ok29 | exact ok30 | exact ok31 | exact ok33 | exact ok35 | exact ok36 | exact ok37 | exact ok38 | exact ok39 | exact ok40 | exact ok41 | exact ok42 | exact ok43 | exact ok44 | exact ok45 | exact ok46 | exact ok47 | exact ok48 | exact ok49 | exact ok50 | exact ok51 | exact ok52 | exact ok53 | exact ok54 | exact ok55 | exact ok56 | exact ok57 | exact ok58 | exact ok59 | exact ok60 | exact ok61 | exact ok62 | exact ok63)
theorem tab1 : tab 1 = some ti1 := rfl
theorem tab2 : tab 2 = some ti2 := rfl
theorem tab3 : tab 3 = some ti3 := rfl
theorem tab4 : tab 4 = some ti4 := rfl
theorem tab5 : tab 5 = some ti5 := rfl
theorem tab6 : tab 6 = some ti6 := rfl
theorem tab7 : tab 7 = some ti7 := rfl
theorem tab8 : tab 8 = some ti8 := rfl
theorem tab9 : tab 9 = some ti9 := rfl
theorem tab10 : tab 10 = some ti10 := rfl
theorem tab11 : tab 11 = some ti11 := rfl
theorem tab12 : tab 12 = some ti12 := rfl
theorem tab13 : tab 13 = some ti13 := rfl
theorem tab14 : tab 14 = some ti14 := rfl
theorem tab15 : tab 15 = some ti15 := rfl
theorem tab16 : tab 16 = some ti16 := rfl
theorem tab17 : tab 17 = some ti17 := rfl
theorem tab18 : tab 18 = some ti18 := rfl
theorem tab19 : tab 19 = some ti19 := rfl
theorem tab20 : tab 20 = some ti20 := rfl
theorem tab21 : tab 21 = some ti21 := rfl
theorem tab22 : tab 22 = some ti22 := rfl
theorem tab23 : tab 23 = some ti23 := rfl
theorem tab24 : tab 24 = some ti24 := rfl
theorem tab26 : tab 26 = some ti26 := rfl
theorem tab27 : tab 27 = some ti27 := rfl
theorem tab28 : tab 28 = some ti28 := rfl
theorem tab29 : tab 29 = some ti29 := rfl
theorem tab30 : tab 30 = some ti30 := rfl
theorem tab31 : tab 31 = some ti31 := rfl
theorem tab33 : tab 33 = some ti33 := rfl
theorem tab35 : tab 35 = some ti35 := rfl
theorem tab36 : tab 36 = some ti36 := rfl
theorem tab37 : tab 37 = some ti37 := rfl
theorem tab38 : tab 38 = some ti38 := rfl
theorem tab39 : tab 39 = some ti39 := rfl
theorem tab40 : tab 40 = some ti40 := rfl
theorem tab41 : tab 41 = some ti41 := rfl
theorem tab42 : tab 42 = some ti42 := rfl
theorem tab43 : tab 43 = some ti43 := rfl
theorem tab44 : tab 44 = some ti44 := rfl
theorem tab45 : tab 45 = some ti45 := rfl
theorem tab46 : tab 46 = some ti46 := rfl
theorem tab47 : tab 47 = some ti47 := rfl
theorem tab48 : tab 48 = some ti48 := rfl
theorem tab49 : tab 49 = some ti49 := rfl
theorem tab50 : tab 50 = some ti50 := rfl
theorem tab51 : tab 51 = some ti51 := rfl
theorem tab52 : tab 52 = some ti52 := rfl
theorem tab53 : tab 53 = some ti53 := rfl
theorem tab54 : tab 54 = some ti54 := rfl
theorem tab55 : tab 55 = some ti55 := rfl
theorem tab56 : tab 56 = some ti56 := rfl
theorem tab57 : tab 57 = some ti57 := rfl
theorem tab58 : tab 58 = some ti58 := rfl
theorem tab59 : tab 59 = some ti59 := rfl
theorem tab60 : tab 60 = some ti60 := rfl
theorem tab61 : tab 61 = some ti61 := rfl
theorem tab62 : tab 62 = some ti62 := rfl
theorem tab63 : tab 63 = some ti63 := rfl
attribute [go_sem] tab1 ti1 tab2 ti2 tab3 ti3 tab4 ti4 tab5 ti5 tab6 ti6 tab7 ti7 tab8 ti8 tab9 ti9 tab10 ti10 tab11 ti11 tab12 ti12 tab13 ti13 tab14 ti14 tab15 ti15 tab16 ti16 tab17 ti17 tab18 ti18 tab19 ti19 tab20 ti20 tab21 ti21 tab22 ti22 tab23 ti23 tab24 ti24 tab26 ti26 tab27 ti27 tab28 ti28 tab29 ti29 tab30 ti30 tab31 ti31 tab33 ti33 tab35 ti35 tab36 ti36 tab37 ti37 tab38 ti38 tab39 ti39 tab40 ti40 tab41 ti41 tab42 ti42 tab43 ti43 tab44 ti44 tab45 ti45 tab46 ti46 tab47 ti47 tab48 ti48 tab49 ti49 tab50 ti50 tab51 ti51 tab52 ti52 tab53 ti53 tab54 ti54 tab55 ti55 tab56 ti56 tab57 ti57 tab58 ti58 tab59 ti59 tab60 ti60 tab61 ti61 tab62 ti62 tab63 ti63
theorem mixed : Try.prog.follows .mixedOrders = true := by kernel_rfl
end Go.Proofs.Ytojmfbmcpjjheaa.Pe
