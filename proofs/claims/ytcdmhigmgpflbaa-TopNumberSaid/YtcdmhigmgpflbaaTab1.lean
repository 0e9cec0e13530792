import Derived.Test.YtcdmhigmgpflbaaPe18
import Derived.Test.YtcdmhigmgpflbaaPe20
import Derived.Test.YtcdmhigmgpflbaaProg
import Derived.KernelRfl
namespace Go.Proofs.Ytcdmhigmgpflbaa.Pe
open Go.Pe
set_option maxRecDepth 20000
set_option maxHeartbeats 4000000
def ti1 : TI := ⟨1,false,8,[.nilFunc],[.lit (.nilFunc)],.other,false,false⟩
theorem ok1 : TypeOK Try.prog 1 ti1 := TypeOK.of (d := _) (z := .nilFunc) Try.underlying1 (by kernel_rfl) trivial rfl rfl rfl rfl rfl rfl [none] rfl rfl (.inl rfl)
def ti2 : TI := ⟨1,false,8,[.int .i64 0],[.lit (.int .i64 0)],.int .i64,false,false⟩
theorem ok2 : TypeOK Try.prog 2 ti2 := TypeOK.of (d := _) (z := .int .i64 0) Try.underlying2 (by kernel_rfl) rfl rfl rfl rfl rfl rfl rfl [none] rfl rfl (.inl rfl)
def ti3 : TI := ⟨1,false,8,[.int .i64 0],[.lit (.int .i64 0)],.int .i64,false,false⟩
theorem ok3 : TypeOK Try.prog 3 ti3 := TypeOK.of (d := _) (z := .int .i64 0) Try.underlying3 (by kernel_rfl) rfl rfl rfl rfl rfl rfl rfl [none] rfl rfl (.inl rfl)
def ti4 : TI := ⟨1,false,1,[.bool false],[.lit (.bool false)],.bool,false,false⟩
theorem ok4 : TypeOK Try.prog 4 ti4 := TypeOK.of (d := _) (z := .bool false) Try.underlying4 (by kernel_rfl) rfl rfl rfl rfl rfl rfl rfl [none] rfl rfl (.inl rfl)
def ti5 : TI := ⟨1,false,1,[.int .u8 0],[.lit (.int .u8 0)],.int .u8,false,false⟩
theorem ok5 : TypeOK Try.prog 5 ti5 := TypeOK.of (d := _) (z := .int .u8 0) Try.underlying5 (by kernel_rfl) rfl rfl rfl rfl rfl rfl rfl [none] rfl rfl (.inl rfl)
def ti6 : TI := ⟨1,false,1,[.int .u8 0],[.lit (.int .u8 0)],.int .u8,false,false⟩
theorem ok6 : TypeOK Try.prog 6 ti6 := TypeOK.of (d := _) (z := .int .u8 0) Try.underlying6 (by kernel_rfl) rfl rfl rfl rfl rfl rfl rfl [none] rfl rfl (.inl rfl)
def ti7 : TI := ⟨4,true,24,[.int .i64 0,.int .i64 0,.bool false,.int .u8 0],[.lit (.int .i64 0),.lit (.int .i64 0),.lit (.bool false),.lit (.int .u8 0)],.struct [(0,2),(1,3),(2,4),(3,6)],false,false⟩
theorem ok7 : TypeOK Try.prog 7 ti7 := TypeOK.of (d := _) (z := .agg #[.int .i64 0,.int .i64 0,.bool false,.int .u8 0]) Try.underlying7 (by kernel_rfl) ⟨_,rfl,rfl⟩ rfl rfl rfl rfl rfl rfl [none,none,none,none] rfl rfl (.inl rfl)
def ti8 : TI := ⟨4,true,24,[.int .i64 0,.int .i64 0,.bool false,.int .u8 0],[.lit (.int .i64 0),.lit (.int .i64 0),.lit (.bool false),.lit (.int .u8 0)],.struct [(0,2),(1,3),(2,4),(3,6)],false,false⟩
theorem ok8 : TypeOK Try.prog 8 ti8 := TypeOK.of (d := _) (z := .agg #[.int .i64 0,.int .i64 0,.bool false,.int .u8 0]) Try.underlying8 (by kernel_rfl) ⟨_,rfl,rfl⟩ rfl rfl rfl rfl rfl rfl [none,none,none,none] rfl rfl (.inl rfl)
def ti9 : TI := ⟨1,false,16,[.string ⟨#[]⟩],[.lit (.string ⟨#[]⟩)],.str,false,false⟩
theorem ok9 : TypeOK Try.prog 9 ti9 := TypeOK.of (d := _) (z := .string ⟨#[]⟩) Try.underlying9 (by kernel_rfl) rfl rfl rfl rfl rfl rfl rfl [none] rfl rfl (.inl rfl)
def ti10 : TI := ⟨1,false,16,[.string ⟨#[]⟩],[.lit (.string ⟨#[]⟩)],.str,false,false⟩
theorem ok10 : TypeOK Try.prog 10 ti10 := TypeOK.of (d := _) (z := .string ⟨#[]⟩) Try.underlying10 (by kernel_rfl) rfl rfl rfl rfl rfl rfl rfl [none] rfl rfl (.inl rfl)
def ti11 : TI := ⟨1,false,16,[.string ⟨#[]⟩],[.lit (.string ⟨#[]⟩)],.str,false,false⟩
theorem ok11 : TypeOK Try.prog 11 ti11 := TypeOK.of (d := _) (z := .string ⟨#[]⟩) Try.underlying11 (by kernel_rfl) rfl rfl rfl rfl rfl rfl rfl [none] rfl rfl (.inl rfl)
def ti12 : TI := ⟨1,false,8,[.int .u64 0],[.lit (.int .u64 0)],.int .u64,false,false⟩
theorem ok12 : TypeOK Try.prog 12 ti12 := TypeOK.of (d := _) (z := .int .u64 0) Try.underlying12 (by kernel_rfl) rfl rfl rfl rfl rfl rfl rfl [none] rfl rfl (.inl rfl)
def ti16 : TI := ⟨1,false,8,[.pointer none],[.lit (.pointer none)],.other,false,false⟩
theorem ok16 : TypeOK Try.prog 16 ti16 := TypeOK.of (d := _) (z := .pointer none) Try.underlying16 (by kernel_rfl) trivial rfl rfl rfl rfl rfl rfl [none] rfl rfl (.inl rfl)
def ti20 : TI := ⟨1,false,16,[.nilIface],[.lit (.nilIface)],.other,false,false⟩
theorem ok20 : TypeOK Try.prog 20 ti20 := TypeOK.of (d := _) (z := .nilIface) Try.underlying20 (by kernel_rfl) trivial rfl rfl rfl rfl rfl rfl [none] rfl rfl (.inl rfl)
def ti21 : TI := ⟨1,false,4,[.int .i32 0],[.lit (.int .i32 0)],.int .i32,false,false⟩
theorem ok21 : TypeOK Try.prog 21 ti21 := TypeOK.of (d := _) (z := .int .i32 0) Try.underlying21 (by kernel_rfl) rfl rfl rfl rfl rfl rfl rfl [none] rfl rfl (.inl rfl)
def ti22 : TI := ⟨1,false,24,[.slice none 0 0],[.lit (.slice none 0 0)],.slice 47,false,false⟩
theorem ok22 : TypeOK Try.prog 22 ti22 := TypeOK.of (d := _) (z := .slice none 0 0) Try.underlying22 (by kernel_rfl) rfl rfl rfl rfl rfl rfl rfl [none] rfl rfl (.inl rfl)
def ti23 : TI := ⟨1,false,24,[.slice none 0 0],[.lit (.slice none 0 0)],.slice 161,true,false⟩
theorem ok23 : TypeOK Try.prog 23 ti23 := TypeOK.of (d := _) (z := .slice none 0 0) Try.underlying23 (by kernel_rfl) rfl rfl rfl rfl rfl rfl rfl [none] rfl rfl (.inl rfl)
def ti25 : TI := ⟨9,true,104,[.int .i64 0,.bool false,.int .i64 0,.int .i64 0,.int .i64 0,.int .i64 0,.int .i64 0,.slice none 0 0,.slice none 0 0],[.lit (.int .i64 0),.lit (.bool false),.lit (.int .i64 0),.lit (.int .i64 0),.lit (.int .i64 0),.lit (.int .i64 0),.lit (.int .i64 0),.lit (.slice none 0 0),.im 4 []],.struct [(0,3),(1,4),(2,3),(3,3),(4,3),(5,3),(6,3),(7,22),(8,23)],false,false⟩
theorem ok25 : TypeOK Try.prog 25 ti25 := TypeOK.of (d := _) (z := .agg #[.int .i64 0,.bool false,.int .i64 0,.int .i64 0,.int .i64 0,.int .i64 0,.int .i64 0,.slice none 0 0,.slice none 0 0]) Try.underlying25 (by kernel_rfl) ⟨_,rfl,rfl⟩ rfl rfl rfl rfl rfl rfl [none,none,none,none,none,none,none,none,some 4] rfl rfl (.inl rfl)
def ti26 : TI := ⟨1,false,24,[.slice none 0 0],[.lit (.slice none 0 0)],.slice 38,false,false⟩
theorem ok26 : TypeOK Try.prog 26 ti26 := TypeOK.of (d := _) (z := .slice none 0 0) Try.underlying26 (by kernel_rfl) rfl rfl rfl rfl rfl rfl rfl [none] rfl rfl (.inl rfl)
def ti28 : TI := ⟨1,false,8,[.nilFunc],[.lit (.nilFunc)],.other,false,false⟩
theorem ok28 : TypeOK Try.prog 28 ti28 := TypeOK.of (d := _) (z := .nilFunc) Try.underlying28 (by kernel_rfl) trivial rfl rfl rfl rfl rfl rfl [none] rfl rfl (.inl rfl)
def ti31 : TI := ⟨1,false,24,[.slice none 0 0],[.lit (.slice none 0 0)],.slice 5,false,false⟩
theorem ok31 : TypeOK Try.prog 31 ti31 := TypeOK.of (d := _) (z := .slice none 0 0) Try.underlying31 (by kernel_rfl) rfl rfl rfl rfl rfl rfl rfl [none] rfl rfl (.inl rfl)
def ti36 : TI := ⟨1,false,8,[.nilFunc],[.lit (.nilFunc)],.other,false,false⟩
theorem ok36 : TypeOK Try.prog 36 ti36 := TypeOK.of (d := _) (z := .nilFunc) Try.underlying36 (by kernel_rfl) trivial rfl rfl rfl rfl rfl rfl [none] rfl rfl (.inl rfl)
def ti38 : TI := ⟨3,true,40,[.int .i64 0,.slice none 0 0,.bool false],[.lit (.int .i64 0),.im 1 [],.lit (.bool false)],.struct [(0,3),(1,31),(2,4)],false,false⟩
theorem ok38 : TypeOK Try.prog 38 ti38 := TypeOK.of (d := _) (z := .agg #[.int .i64 0,.slice none 0 0,.bool false]) Try.underlying38 (by kernel_rfl) ⟨_,rfl,rfl⟩ rfl rfl rfl rfl rfl rfl [none,some 1,none] rfl rfl (.inl rfl)
def ti40 : TI := ⟨1,false,8,[.nilFunc],[.lit (.nilFunc)],.other,false,false⟩
theorem ok40 : TypeOK Try.prog 40 ti40 := TypeOK.of (d := _) (z := .nilFunc) Try.underlying40 (by kernel_rfl) trivial rfl rfl rfl rfl rfl rfl [none] rfl rfl (.inl rfl)
def ti47 : TI := ⟨3,true,40,[.int .i64 0,.bool false,.slice none 0 0],[.lit (.int .i64 0),.lit (.bool false),.im 1 []],.struct [(0,3),(1,4),(2,31)],false,false⟩
theorem ok47 : TypeOK Try.prog 47 ti47 := TypeOK.of (d := _) (z := .agg #[.int .i64 0,.bool false,.slice none 0 0]) Try.underlying47 (by kernel_rfl) ⟨_,rfl,rfl⟩ rfl rfl rfl rfl rfl rfl [none,none,some 1] rfl rfl (.inl rfl)
def ti48 : TI := ⟨1,false,8,[.int .u64 0],[.lit (.int .u64 0)],.int .u64,false,false⟩
theorem ok48 : TypeOK Try.prog 48 ti48 := TypeOK.of (d := _) (z := .int .u64 0) Try.underlying48 (by kernel_rfl) rfl rfl rfl rfl rfl rfl rfl [none] rfl rfl (.inl rfl)
def ti50 : TI := ⟨1,false,4,[.int .u32 0],[.lit (.int .u32 0)],.int .u32,false,false⟩
theorem ok50 : TypeOK Try.prog 50 ti50 := TypeOK.of (d := _) (z := .int .u32 0) Try.underlying50 (by kernel_rfl) rfl rfl rfl rfl rfl rfl rfl [none] rfl rfl (.inl rfl)
def ti57 : TI := ⟨1,false,24,[.slice none 0 0],[.lit (.slice none 0 0)],.slice 31,false,false⟩
theorem ok57 : TypeOK Try.prog 57 ti57 := TypeOK.of (d := _) (z := .slice none 0 0) Try.underlying57 (by kernel_rfl) rfl rfl rfl rfl rfl rfl rfl [none] rfl rfl (.inl rfl)
def ti58 : TI := ⟨1,false,24,[.slice none 0 0],[.lit (.slice none 0 0)],.slice 3,false,false⟩
theorem ok58 : TypeOK Try.prog 58 ti58 := TypeOK.of (d := _) (z := .slice none 0 0) Try.underlying58 (by kernel_rfl) rfl rfl rfl rfl rfl rfl rfl [none] rfl rfl (.inl rfl)
def ti70 : TI := ⟨1,false,2,[.int .u16 0],[.lit (.int .u16 0)],.int .u16,false,false⟩
theorem ok70 : TypeOK Try.prog 70 ti70 := TypeOK.of (d := _) (z := .int .u16 0) Try.underlying70 (by kernel_rfl) rfl rfl rfl rfl rfl rfl rfl [none] rfl rfl (.inl rfl)
def ti76 : TI := ⟨1,false,8,[.int .i64 0],[.lit (.int .i64 0)],.int .i64,false,false⟩
theorem ok76 : TypeOK Try.prog 76 ti76 := TypeOK.of (d := _) (z := .int .i64 0) Try.underlying76 (by kernel_rfl) rfl rfl rfl rfl rfl rfl rfl [none] rfl rfl (.inl rfl)
def ti78 : TI := ⟨9,true,88,[.int .i64 0,.slice none 0 0,.int .i64 0,.int .i64 0,.int .i64 0,.int .i64 0,.int .i64 0,.int .i64 0,.int .i64 0],[.lit (.int .i64 0),.im 1 [],.lit (.int .i64 0),.lit (.int .i64 0),.lit (.int .i64 0),.lit (.int .i64 0),.lit (.int .i64 0),.lit (.int .i64 0),.lit (.int .i64 0)],.struct [(0,3),(1,31),(2,3),(3,3),(4,3),(5,3),(6,3),(7,3),(8,76)],false,false⟩
theorem ok78 : TypeOK Try.prog 78 ti78 := TypeOK.of (d := _) (z := .agg #[.int .i64 0,.slice none 0 0,.int .i64 0,.int .i64 0,.int .i64 0,.int .i64 0,.int .i64 0,.int .i64 0,.int .i64 0]) Try.underlying78 (by kernel_rfl) ⟨_,rfl,rfl⟩ rfl rfl rfl rfl rfl rfl [none,some 1,none,none,none,none,none,none,none] rfl rfl (.inl rfl)
def ti80 : TI := ⟨10,true,96,[.int .i64 0,.int .i64 0,.slice none 0 0,.int .i64 0,.int .i64 0,.int .i64 0,.int .i64 0,.int .i64 0,.int .i64 0,.int .i64 0],[.lit (.int .i64 0),.lit (.int .i64 0),.im 1 [],.lit (.int .i64 0),.lit (.int .i64 0),.lit (.int .i64 0),.lit (.int .i64 0),.lit (.int .i64 0),.lit (.int .i64 0),.lit (.int .i64 0)],.struct [(0,3),(1,3),(2,31),(3,3),(4,3),(5,3),(6,3),(7,3),(8,3),(9,76)],false,false⟩
theorem ok80 : TypeOK Try.prog 80 ti80 := TypeOK.of (d := _) (z := .agg #[.int .i64 0,.int .i64 0,.slice none 0 0,.int .i64 0,.int .i64 0,.int .i64 0,.int .i64 0,.int .i64 0,.int .i64 0,.int .i64 0]) Try.underlying80 (by kernel_rfl) ⟨_,rfl,rfl⟩ rfl rfl rfl rfl rfl rfl [none,none,some 1,none,none,none,none,none,none,none] rfl rfl (.inl rfl)
def ti85 : TI := ⟨6,true,40,[.int .i64 0,.int .i64 0,.bool false,.bool false,.int .i64 0,.int .i64 0],[.lit (.int .i64 0),.lit (.int .i64 0),.lit (.bool false),.lit (.bool false),.lit (.int .i64 0),.lit (.int .i64 0)],.struct [(0,3),(1,3),(2,4),(3,4),(4,3),(5,3)],false,false⟩
theorem ok85 : TypeOK Try.prog 85 ti85 := TypeOK.of (d := _) (z := .agg #[.int .i64 0,.int .i64 0,.bool false,.bool false,.int .i64 0,.int .i64 0]) Try.underlying85 (by kernel_rfl) ⟨_,rfl,rfl⟩ rfl rfl rfl rfl rfl rfl [none,none,none,none,none,none] rfl rfl (.inl rfl)
def ti87 : TI := ⟨1,false,24,[.slice none 0 0],[.lit (.slice none 0 0)],.slice 85,false,false⟩
theorem ok87 : TypeOK Try.prog 87 ti87 := TypeOK.of (d := _) (z := .slice none 0 0) Try.underlying87 (by kernel_rfl) rfl rfl rfl rfl rfl rfl rfl [none] rfl rfl (.inl rfl)
def ti91 : TI := ⟨4,true,32,[.bool false,.int .i64 0,.int .i64 0,.int .i64 0],[.lit (.bool false),.lit (.int .i64 0),.lit (.int .i64 0),.lit (.int .i64 0)],.struct [(0,4),(1,3),(2,3),(3,3)],false,false⟩
theorem ok91 : TypeOK Try.prog 91 ti91 := TypeOK.of (d := _) (z := .agg #[.bool false,.int .i64 0,.int .i64 0,.int .i64 0]) Try.underlying91 (by kernel_rfl) ⟨_,rfl,rfl⟩ rfl rfl rfl rfl rfl rfl [none,none,none,none] rfl rfl (.inl rfl)
def ti117 : TI := ⟨1,false,8,[.nilFunc],[.lit (.nilFunc)],.other,false,false⟩
theorem ok117 : TypeOK Try.prog 117 ti117 := TypeOK.of (d := _) (z := .nilFunc) Try.underlying117 (by kernel_rfl) trivial rfl rfl rfl rfl rfl rfl [none] rfl rfl (.inl rfl)
def ti119 : TI := ⟨1,false,8,[.pointer none],[.lit (.pointer none)],.other,false,false⟩
theorem ok119 : TypeOK Try.prog 119 ti119 := TypeOK.of (d := _) (z := .pointer none) Try.underlying119 (by kernel_rfl) trivial rfl rfl rfl rfl rfl rfl [none] rfl rfl (.inl rfl)
def ti121 : TI := ⟨10,true,128,[.int .i64 0,.bool false,.int .i64 0,.int .i64 0,.int .i64 0,.int .i64 0,.int .i64 0,.slice none 0 0,.slice none 0 0,.slice none 0 0],[.lit (.int .i64 0),.lit (.bool false),.lit (.int .i64 0),.lit (.int .i64 0),.lit (.int .i64 0),.lit (.int .i64 0),.lit (.int .i64 0),.lit (.slice none 0 0),.im 4 [],.im 1 []],.struct [(0,25),(9,31)],false,false⟩
theorem ok121 : TypeOK Try.prog 121 ti121 := TypeOK.of (d := _) (z := .agg #[.int .i64 0,.bool false,.int .i64 0,.int .i64 0,.int .i64 0,.int .i64 0,.int .i64 0,.slice none 0 0,.slice none 0 0,.slice none 0 0]) Try.underlying121 (by kernel_rfl) ⟨_,rfl,rfl⟩ rfl rfl rfl rfl rfl rfl [none,none,none,none,none,none,none,none,some 4,some 1] rfl rfl (.inl rfl)
def ti126 : TI := ⟨1,false,8,[.nilFunc],[.lit (.nilFunc)],.other,false,false⟩
theorem ok126 : TypeOK Try.prog 126 ti126 := TypeOK.of (d := _) (z := .nilFunc) Try.underlying126 (by kernel_rfl) trivial rfl rfl rfl rfl rfl rfl [none] rfl rfl (.inl rfl)
def ti131 : TI := ⟨7,true,72,[.int .i64 0,.int .i64 0,.int .i64 0,.int .i64 0,.int .i64 0,.int .i64 0,.slice none 0 0],[.lit (.int .i64 0),.lit (.int .i64 0),.lit (.int .i64 0),.lit (.int .i64 0),.lit (.int .i64 0),.lit (.int .i64 0),.im 1 []],.struct [(0,3),(1,3),(2,3),(3,3),(4,3),(5,3),(6,31)],false,false⟩
theorem ok131 : TypeOK Try.prog 131 ti131 := TypeOK.of (d := _) (z := .agg #[.int .i64 0,.int .i64 0,.int .i64 0,.int .i64 0,.int .i64 0,.int .i64 0,.slice none 0 0]) Try.underlying131 (by kernel_rfl) ⟨_,rfl,rfl⟩ rfl rfl rfl rfl rfl rfl [none,none,none,none,none,none,some 1] rfl rfl (.inl rfl)
def ti134 : TI := ⟨1,false,8,[.nilFunc],[.lit (.nilFunc)],.other,false,false⟩
theorem ok134 : TypeOK Try.prog 134 ti134 := TypeOK.of (d := _) (z := .nilFunc) Try.underlying134 (by kernel_rfl) trivial rfl rfl rfl rfl rfl rfl [none] rfl rfl (.inl rfl)
def ti135 : TI := ⟨1,false,24,[.slice none 0 0],[.lit (.slice none 0 0)],.slice 131,false,false⟩
theorem ok135 : TypeOK Try.prog 135 ti135 := TypeOK.of (d := _) (z := .slice none 0 0) Try.underlying135 (by kernel_rfl) rfl rfl rfl rfl rfl rfl rfl [none] rfl rfl (.inl rfl)
def ti137 : TI := ⟨2,true,48,[.slice none 0 0,.slice none 0 0],[.lit (.slice none 0 0),.lit (.slice none 0 0)],.struct [(0,135),(1,135)],false,false⟩
theorem ok137 : TypeOK Try.prog 137 ti137 := TypeOK.of (d := _) (z := .agg #[.slice none 0 0,.slice none 0 0]) Try.underlying137 (by kernel_rfl) ⟨_,rfl,rfl⟩ rfl rfl rfl rfl rfl rfl [none,none] rfl rfl (.inl rfl)
def ti138 : TI := ⟨1,false,8,[.nilFunc],[.lit (.nilFunc)],.other,false,false⟩
theorem ok138 : TypeOK Try.prog 138 ti138 := TypeOK.of (d := _) (z := .nilFunc) Try.underlying138 (by kernel_rfl) trivial rfl rfl rfl rfl rfl rfl [none] rfl rfl (.inl rfl)
def ti139 : TI := ⟨1,false,8,[.nilFunc],[.lit (.nilFunc)],.other,false,false⟩
theorem ok139 : TypeOK Try.prog 139 ti139 := TypeOK.of (d := _) (z := .nilFunc) Try.underlying139 (by kernel_rfl) trivial rfl rfl rfl rfl rfl rfl [none] rfl rfl (.inl rfl)
def ti147 : TI := ⟨64,true,64,[.bool false,.bool false,.bool false,.bool false,.bool false,.bool false,.bool false,.bool false,.bool false,.bool false,.bool false,.bool false,.bool false,.bool false,.bool false,.bool false,.bool false,.bool false,.bool false,.bool false,.bool false,.bool false,.bool false,.bool false,.bool false,.bool false,.bool false,.bool false,.bool false,.bool false,.bool false,.bool false,.bool false,.bool false,.bool false,.bool false,.bool false,.bool false,.bool false,.bool false,.bool false,.bool false,.bool false,.bool false,.bool false,.bool false,.bool false,.bool false,.bool false,.bool false,.bool false,.bool false,.bool false,.bool false,.bool false,.bool false,.bool false,.bool false,.bool false,.bool false,.bool false,.bool false,.bool false,.bool false],[.lit (.bool false),.lit (.bool false),.lit (.bool false),.lit (.bool false),.lit (.bool false),.lit (.bool false),.lit (.bool false),.lit (.bool false),.lit (.bool false),.lit (.bool false),.lit (.bool false),.lit (.bool false),.lit (.bool false),.lit (.bool false),.lit (.bool false),.lit (.bool false),.lit (.bool false),.lit (.bool false),.lit (.bool false),.lit (.bool false),.lit (.bool false),.lit (.bool false),.lit (.bool false),.lit (.bool false),.lit (.bool false),.lit (.bool false),.lit (.bool false),.lit (.bool false),.lit (.bool false),.lit (.bool false),.lit (.bool false),.lit (.bool false),.lit (.bool false),.lit (.bool false),.lit (.bool false),.lit (.bool false),.lit (.bool false),.lit (.bool false),.lit (.bool false),.lit (.bool false),.lit (.bool false),.lit (.bool false),.lit (.bool false),.lit (.bool false),.lit (.bool false),.lit (.bool false),.lit (.bool false),.lit (.bool false),.lit (.bool false),.lit (.bool false),.lit (.bool false),.lit (.bool false),.lit (.bool false),.lit (.bool false),.lit (.bool false),.lit (.bool false),.lit (.bool false),.lit (.bool false),.lit (.bool false),.lit (.bool false),.lit (.bool false),.lit (.bool false),.lit (.bool false),.lit (.bool false)],.array 64 4,false,false⟩
theorem ok147 : TypeOK Try.prog 147 ti147 := TypeOK.of (d := _) (z := .agg #[.bool false,.bool false,.bool false,.bool false,.bool false,.bool false,.bool false,.bool false,.bool false,.bool false,.bool false,.bool false,.bool false,.bool false,.bool false,.bool false,.bool false,.bool false,.bool false,.bool false,.bool false,.bool false,.bool false,.bool false,.bool false,.bool false,.bool false,.bool false,.bool false,.bool false,.bool false,.bool false,.bool false,.bool false,.bool false,.bool false,.bool false,.bool false,.bool false,.bool false,.bool false,.bool false,.bool false,.bool false,.bool false,.bool false,.bool false,.bool false,.bool false,.bool false,.bool false,.bool false,.bool false,.bool false,.bool false,.bool false,.bool false,.bool false,.bool false,.bool false,.bool false,.bool false,.bool false,.bool false]) Try.underlying147 (by kernel_rfl) rfl rfl rfl rfl rfl rfl rfl [none,none,none,none,none,none,none,none,none,none,none,none,none,none,none,none,none,none,none,none,none,none,none,none,none,none,none,none,none,none,none,none,none,none,none,none,none,none,none,none,none,none,none,none,none,none,none,none,none,none,none,none,none,none,none,none,none,none,none,none,none,none,none,none] rfl rfl (.inl rfl)
def ti149 : TI := ⟨1,false,8,[.nilFunc],[.lit (.nilFunc)],.other,false,false⟩
theorem ok149 : TypeOK Try.prog 149 ti149 := TypeOK.of (d := _) (z := .nilFunc) Try.underlying149 (by kernel_rfl) trivial rfl rfl rfl rfl rfl rfl [none] rfl rfl (.inl rfl)
def ti153 : TI := ⟨1,false,8,[.pointer none],[.lit (.pointer none)],.other,false,false⟩
theorem ok153 : TypeOK Try.prog 153 ti153 := TypeOK.of (d := _) (z := .pointer none) Try.underlying153 (by kernel_rfl) trivial rfl rfl rfl rfl rfl rfl [none] rfl rfl (.inl rfl)
def ti155 : TI := ⟨4,true,32,[.bool false,.int .i64 0,.int .i64 0,.int .i64 0],[.lit (.bool false),.lit (.int .i64 0),.lit (.int .i64 0),.lit (.int .i64 0)],.struct [(0,91)],false,false⟩
theorem ok155 : TypeOK Try.prog 155 ti155 := TypeOK.of (d := _) (z := .agg #[.bool false,.int .i64 0,.int .i64 0,.int .i64 0]) Try.underlying155 (by kernel_rfl) ⟨_,rfl,rfl⟩ rfl rfl rfl rfl rfl rfl [none,none,none,none] rfl rfl (.inl rfl)
def ti161 : TI := ⟨4,true,32,[.int .i64 0,.int .i64 0,.int .i64 0,.int .i64 0],[.lit (.int .i64 0),.lit (.int .i64 0),.lit (.int .i64 0),.lit (.int .i64 0)],.struct [(0,3),(1,3),(2,3),(3,3)],false,true⟩
theorem ok161 : TypeOK Try.prog 161 ti161 := TypeOK.of (d := _) (z := .agg #[.int .i64 0,.int .i64 0,.int .i64 0,.int .i64 0]) Try.underlying161 (by kernel_rfl) ⟨_,rfl,rfl⟩ rfl rfl rfl rfl rfl rfl [none,none,none,none] rfl rfl (.inr (by kernel_rfl))
def ti166 : TI := ⟨1,false,8,[.pointer none],[.lit (.pointer none)],.other,false,false⟩
theorem ok166 : TypeOK Try.prog 166 ti166 := TypeOK.of (d := _) (z := .pointer none) Try.underlying166 (by kernel_rfl) trivial rfl rfl rfl rfl rfl rfl [none] rfl rfl (.inl rfl)
def ti168 : TI := ⟨1,true,8,[.pointer none],[.lit (.pointer none)],.struct [(0,166)],false,false⟩
theorem ok168 : TypeOK Try.prog 168 ti168 := TypeOK.of (d := _) (z := .agg #[.pointer none]) Try.underlying168 (by kernel_rfl) ⟨_,rfl,rfl⟩ rfl rfl rfl rfl rfl rfl [none] rfl rfl (.inl rfl)
def ti171 : TI := ⟨1,false,8,[.int .i64 0],[.lit (.int .i64 0)],.int .i64,false,false⟩
theorem ok171 : TypeOK Try.prog 171 ti171 := TypeOK.of (d := _) (z := .int .i64 0) Try.underlying171 (by kernel_rfl) rfl rfl rfl rfl rfl rfl rfl [none] rfl rfl (.inl rfl)
def ti173 : TI := ⟨1,false,8,[.nilFunc],[.lit (.nilFunc)],.other,false,false⟩
theorem ok173 : TypeOK Try.prog 173 ti173 := TypeOK.of (d := _) (z := .nilFunc) Try.underlying173 (by kernel_rfl) trivial rfl rfl rfl rfl rfl rfl [none] rfl rfl (.inl rfl)
def ti175 : TI := ⟨2,true,16,[.int .i64 0,.nilFunc],[.lit (.int .i64 0),.lit (.nilFunc)],.struct [(0,3),(1,173)],false,false⟩
theorem ok175 : TypeOK Try.prog 175 ti175 := TypeOK.of (d := _) (z := .agg #[.int .i64 0,.nilFunc]) Try.underlying175 (by kernel_rfl) ⟨_,rfl,rfl⟩ rfl rfl rfl rfl rfl rfl [none,none] rfl rfl (.inl rfl)
def ti180 : TI := ⟨1,false,8,[.pointer none],[.lit (.pointer none)],.other,false,false⟩
theorem ok180 : TypeOK Try.prog 180 ti180 := TypeOK.of (d := _) (z := .pointer none) Try.underlying180 (by kernel_rfl) trivial rfl rfl rfl rfl rfl rfl [none] rfl rfl (.inl rfl)
def ti181 : TI := ⟨1,false,8,[.pointer none],[.lit (.pointer none)],.other,false,false⟩
theorem ok181 : TypeOK Try.prog 181 ti181 := TypeOK.of (d := _) (z := .pointer none) Try.underlying181 (by kernel_rfl) trivial rfl rfl rfl rfl rfl rfl [none] rfl rfl (.inl rfl)
def ti183 : TI := ⟨10,true,96,[.int .i64 0,.int .i64 0,.slice none 0 0,.int .i64 0,.int .i64 0,.int .i64 0,.int .i64 0,.int .i64 0,.int .i64 0,.int .i64 0],[.lit (.int .i64 0),.lit (.int .i64 0),.im 1 [],.lit (.int .i64 0),.lit (.int .i64 0),.lit (.int .i64 0),.lit (.int .i64 0),.lit (.int .i64 0),.lit (.int .i64 0),.lit (.int .i64 0)],.struct [(0,80)],false,false⟩
theorem ok183 : TypeOK Try.prog 183 ti183 := TypeOK.of (d := _) (z := .agg #[.int .i64 0,.int .i64 0,.slice none 0 0,.int .i64 0,.int .i64 0,.int .i64 0,.int .i64 0,.int .i64 0,.int .i64 0,.int .i64 0]) Try.underlying183 (by kernel_rfl) ⟨_,rfl,rfl⟩ rfl rfl rfl rfl rfl rfl [none,none,some 1,none,none,none,none,none,none,none] rfl rfl (.inl rfl)
def ti184 : TI := ⟨1,false,8,[.nilFunc],[.lit (.nilFunc)],.other,false,false⟩
theorem ok184 : TypeOK Try.prog 184 ti184 := TypeOK.of (d := _) (z := .nilFunc) Try.underlying184 (by kernel_rfl) trivial rfl rfl rfl rfl rfl rfl [none] rfl rfl (.inl rfl)
def ti186 : TI := ⟨1,false,8,[.map none],[.lit (.map none)],.map 3 184,false,false⟩
theorem ok186 : TypeOK Try.prog 186 ti186 := TypeOK.of (d := _) (z := .map none) Try.underlying186 (by kernel_rfl) rfl rfl rfl rfl rfl rfl rfl [none] rfl rfl (.inl rfl)
def ti188 : TI := ⟨8,true,80,[.int .i64 0,.int .i64 0,.int .i64 0,.int .i64 0,.int .i64 0,.int .i64 0,.slice none 0 0,.bool false],[.lit (.int .i64 0),.lit (.int .i64 0),.lit (.int .i64 0),.lit (.int .i64 0),.lit (.int .i64 0),.lit (.int .i64 0),.im 1 [],.lit (.bool false)],.struct [(0,131),(7,4)],false,false⟩
theorem ok188 : TypeOK Try.prog 188 ti188 := TypeOK.of (d := _) (z := .agg #[.int .i64 0,.int .i64 0,.int .i64 0,.int .i64 0,.int .i64 0,.int .i64 0,.slice none 0 0,.bool false]) Try.underlying188 (by kernel_rfl) ⟨_,rfl,rfl⟩ rfl rfl rfl rfl rfl rfl [none,none,none,none,none,none,some 1,none] rfl rfl (.inl rfl)
def ti191 : TI := ⟨1,false,8,[.pointer none],[.lit (.pointer none)],.other,false,false⟩
theorem ok191 : TypeOK Try.prog 191 ti191 := TypeOK.of (d := _) (z := .pointer none) Try.underlying191 (by kernel_rfl) trivial rfl rfl rfl rfl rfl rfl [none] rfl rfl (.inl rfl)
def ti193 : TI := ⟨9,true,88,[.int .i64 0,.slice none 0 0,.int .i64 0,.int .i64 0,.int .i64 0,.int .i64 0,.int .i64 0,.int .i64 0,.int .i64 0],[.lit (.int .i64 0),.im 1 [],.lit (.int .i64 0),.lit (.int .i64 0),.lit (.int .i64 0),.lit (.int .i64 0),.lit (.int .i64 0),.lit (.int .i64 0),.lit (.int .i64 0)],.struct [(0,78)],false,false⟩
theorem ok193 : TypeOK Try.prog 193 ti193 := TypeOK.of (d := _) (z := .agg #[.int .i64 0,.slice none 0 0,.int .i64 0,.int .i64 0,.int .i64 0,.int .i64 0,.int .i64 0,.int .i64 0,.int .i64 0]) Try.underlying193 (by kernel_rfl) ⟨_,rfl,rfl⟩ rfl rfl rfl rfl rfl rfl [none,some 1,none,none,none,none,none,none,none] rfl rfl (.inl rfl)
def ti194 : TI := ⟨1,false,8,[.nilFunc],[.lit (.nilFunc)],.other,false,false⟩
theorem ok194 : TypeOK Try.prog 194 ti194 := TypeOK.of (d := _) (z := .nilFunc) Try.underlying194 (by kernel_rfl) trivial rfl rfl rfl rfl rfl rfl [none] rfl rfl (.inl rfl)
def ti196 : TI := ⟨1,true,8,[.nilFunc],[.lit (.nilFunc)],.struct [(0,194)],false,false⟩
theorem ok196 : TypeOK Try.prog 196 ti196 := TypeOK.of (d := _) (z := .agg #[.nilFunc]) Try.underlying196 (by kernel_rfl) ⟨_,rfl,rfl⟩ rfl rfl rfl rfl rfl rfl [none] rfl rfl (.inl rfl)
def ti197 : TI := ⟨3,true,24,[.nilFunc,.nilFunc,.nilFunc],[.lit (.nilFunc),.lit (.nilFunc),.lit (.nilFunc)],.array 3 196,false,false⟩
theorem ok197 : TypeOK Try.prog 197 ti197 := TypeOK.of (d := _) (z := .agg #[.nilFunc,.nilFunc,.nilFunc]) Try.underlying197 (by kernel_rfl) rfl rfl rfl rfl rfl rfl rfl [none,none,none] rfl rfl (.inl rfl)
def ti205 : TI := ⟨1,false,8,[.nilFunc],[.lit (.nilFunc)],.other,false,false⟩
theorem ok205 : TypeOK Try.prog 205 ti205 := TypeOK.of (d := _) (z := .nilFunc) Try.underlying205 (by kernel_rfl) trivial rfl rfl rfl rfl rfl rfl [none] rfl rfl (.inl rfl)
def ti208 : TI := ⟨1,false,8,[.map none],[.lit (.map none)],.map 5 175,false,false⟩
theorem ok208 : TypeOK Try.prog 208 ti208 := TypeOK.of (d := _) (z := .map none) Try.underlying208 (by kernel_rfl) rfl rfl rfl rfl rfl rfl rfl [none] rfl rfl (.inl rfl)
def ti214 : TI := ⟨5,true,40,[.nilFunc,.nilFunc,.nilFunc,.nilFunc,.nilFunc],[.lit (.nilFunc),.lit (.nilFunc),.lit (.nilFunc),.lit (.nilFunc),.lit (.nilFunc)],.array 5 28,false,false⟩
theorem ok214 : TypeOK Try.prog 214 ti214 := TypeOK.of (d := _) (z := .agg #[.nilFunc,.nilFunc,.nilFunc,.nilFunc,.nilFunc]) Try.underlying214 (by kernel_rfl) rfl rfl rfl rfl rfl rfl rfl [none,none,none,none,none] rfl rfl (.inl rfl)
def ti215 : TI := ⟨1,false,8,[.pointer none],[.lit (.pointer none)],.other,false,false⟩
theorem ok215 : TypeOK Try.prog 215 ti215 := TypeOK.of (d := _) (z := .pointer none) Try.underlying215 (by kernel_rfl) trivial rfl rfl rfl rfl rfl rfl [none] rfl rfl (.inl rfl)
def ti217 : TI := ⟨3,true,24,[.int .i64 0,.int .i64 0,.int .i64 0],[.lit (.int .i64 0),.lit (.int .i64 0),.lit (.int .i64 0)],.struct [(0,3),(1,3),(2,3)],false,true⟩
theorem ok217 : TypeOK Try.prog 217 ti217 := TypeOK.of (d := _) (z := .agg #[.int .i64 0,.int .i64 0,.int .i64 0]) Try.underlying217 (by kernel_rfl) ⟨_,rfl,rfl⟩ rfl rfl rfl rfl rfl rfl [none,none,none] rfl rfl (.inr (by kernel_rfl))
def ti221 : TI := ⟨1,false,8,[.nilFunc],[.lit (.nilFunc)],.other,false,false⟩
theorem ok221 : TypeOK Try.prog 221 ti221 := TypeOK.of (d := _) (z := .nilFunc) Try.underlying221 (by kernel_rfl) trivial rfl rfl rfl rfl rfl rfl [none] rfl rfl (.inl rfl)
def tab : Tab := fun
  | 1 => some ti1
  | 2 => some ti2
  | 3 => some ti3
  | 4 => some ti4
  | 5 => some ti5
  | 6 => some ti6
  | 7 => some ti7
  | 8 => some ti8
  | 9 => some ti9
  | 10 => some ti10
  | 11 => some ti11
  | 12 => some ti12
  | 16 => some ti16
  | 20 => some ti20
  | 21 => some ti21
  | 22 => some ti22
  | 23 => some ti23
  | 25 => some ti25
  | 26 => some ti26
  | 28 => some ti28
  | 31 => some ti31
  | 36 => some ti36
  | 38 => some ti38
  | 40 => some ti40
  | 47 => some ti47
  | 48 => some ti48
  | 50 => some ti50
  | 57 => some ti57
  | 58 => some ti58
  | 70 => some ti70
  | 76 => some ti76
  | 78 => some ti78
  | 80 => some ti80
  | 85 => some ti85
  | 87 => some ti87
  | 91 => some ti91
  | 117 => some ti117
  | 119 => some ti119
  | 121 => some ti121
  | 126 => some ti126
  | 131 => some ti131
  | 134 => some ti134
  | 135 => some ti135
  | 137 => some ti137
  | 138 => some ti138
  | 139 => some ti139
  | 147 => some ti147
  | 149 => some ti149
  | 153 => some ti153
  | 155 => some ti155
  | 161 => some ti161
  | 166 => some ti166
  | 168 => some ti168
  | 171 => some ti171
  | 173 => some ti173
  | 175 => some ti175
  | 180 => some ti180
  | 181 => some ti181
  | 183 => some ti183
  | 184 => some ti184
  | 186 => some ti186
  | 188 => some ti188
  | 191 => some ti191
  | 193 => some ti193
  | 194 => some ti194
  | 196 => some ti196
  | 197 => some ti197
  | 205 => some ti205
  | 208 => some ti208
  | 214 => some ti214
  | 215 => some ti215
  | 217 => some ti217
  | 221 => some ti221
  | _ => none
theorem tabOK : TabOK Try.prog tab := by
  intro t ti h
  unfold tab at h
  split at h <;> first | (cases h; done) | (simp only [Option.some.injEq] at h; subst h; first | exact ok1 | exact ok2 | exact ok3 | exact ok4 | exact ok5 | exact ok6 | exact ok7 | exact ok8 | exact ok9 | exact ok10 | exact ok11 | exact ok12 | exact ok16 | exact ok20 | exact ok21 | exact ok22 | exact ok23 | exact ok25 | exact ok26 | exact ok28 | exact ok31 | exact ok36 | exact ok38 | exact ok40 | exact ok47 | exact ok48 | exact ok50 | exact ok57 | exact ok58 | exact ok70 | exact ok76 | exact ok78 | exact ok80 | exact ok85 | exact ok87 | exact ok91 | exact ok117 | exact ok119 | exact ok121 | exact ok126 | exact ok131 | exact ok134 | exact ok135 | exact ok137 | exact ok138 | exact ok139 | exact ok147 | exact ok149 | exact ok153 | exact ok155 | exact ok161 | exact ok166 | exact ok168 | exact ok171 | exact ok173 | exact ok175 | exact ok180 | exact ok181 | exact ok183 | exact ok184 | exact ok186 | exact ok188 | exact ok191 | exact ok193 | exact ok194 | exact ok196 | exact ok197 | exact ok205 | exact ok208 | exact ok214 | exact ok215 | exact ok217 | exact ok221)
theorem tab1 : tab 1 = some ti1 := rfl
theorem tab2 : tab 2 = some ti2 := rfl
theorem tab3 : tab 3 = some ti3 := rfl
theorem tab4 : tab 4 = some ti4 := rfl
theorem tab5 : tab 5 = some ti5 := rfl
theorem tab6 : tab 6 = some ti6 := rfl
theorem tab7 : tab 7 = some ti7 := rfl
theorem tab8 : tab 8 = some ti8 := rfl
theorem tab9 : tab 9 = some ti9 := rfl
theorem tab10 : tab 10 = some ti10 := rfl
theorem tab11 : tab 11 = some ti11 := rfl
theorem tab12 : tab 12 = some ti12 := rfl
theorem tab16 : tab 16 = some ti16 := rfl
theorem tab20 : tab 20 = some ti20 := rfl
theorem tab21 : tab 21 = some ti21 := rfl
theorem tab22 : tab 22 = some ti22 := rfl
theorem tab23 : tab 23 = some ti23 := rfl
theorem tab25 : tab 25 = some ti25 := rfl
theorem tab26 : tab 26 = some ti26 := rfl
theorem tab28 : tab 28 = some ti28 := rfl
theorem tab31 : tab 31 = some ti31 := rfl
theorem tab36 : tab 36 = some ti36 := rfl
theorem tab38 : tab 38 = some ti38 := rfl
theorem tab40 : tab 40 = some ti40 := rfl
theorem tab47 : tab 47 = some ti47 := rfl
theorem tab48 : tab 48 = some ti48 := rfl
theorem tab50 : tab 50 = some ti50 := rfl
theorem tab57 : tab 57 = some ti57 := rfl
theorem tab58 : tab 58 = some ti58 := rfl
theorem tab70 : tab 70 = some ti70 := rfl
theorem tab76 : tab 76 = some ti76 := rfl
theorem tab78 : tab 78 = some ti78 := rfl
theorem tab80 : tab 80 = some ti80 := rfl
theorem tab85 : tab 85 = some ti85 := rfl
theorem tab87 : tab 87 = some ti87 := rfl
theorem tab91 : tab 91 = some ti91 := rfl
theorem tab117 : tab 117 = some ti117 := rfl
theorem tab119 : tab 119 = some ti119 := rfl
theorem tab121 : tab 121 = some ti121 := rfl
theorem tab126 : tab 126 = some ti126 := rfl
theorem tab131 : tab 131 = some ti131 := rfl
theorem tab134 : tab 134 = some ti134 := rfl
theorem tab135 : tab 135 = some ti135 := rfl
theorem tab137 : tab 137 = some ti137 := rfl
theorem tab138 : tab 138 = some ti138 := rfl
theorem tab139 : tab 139 = some ti139 := rfl
theorem tab147 : tab 147 = some ti147 := rfl
theorem tab149 : tab 149 = some ti149 := rfl
theorem tab153 : tab 153 = some ti153 := rfl
theorem tab155 : tab 155 = some ti155 := rfl
theorem tab161 : tab 161 = some ti161 := rfl
theorem tab166 : tab 166 = some ti166 := rfl
theorem tab168 : tab 168 = some ti168 := rfl
theorem tab171 : tab 171 = some ti171 := rfl
theorem tab173 : tab 173 = some ti173 := rfl
theorem tab175 : tab 175 = some ti175 := rfl
theorem tab180 : tab 180 = some ti180 := rfl
theorem tab181 : tab 181 = some ti181 := rfl
theorem tab183 : tab 183 = some ti183 := rfl
theorem tab184 : tab 184 = some ti184 := rfl
theorem tab186 : tab 186 = some ti186 := rfl
theorem tab188 : tab 188 = some ti188 := rfl
theorem tab191 : tab 191 = some ti191 := rfl
theorem tab193 : tab 193 = some ti193 := rfl
theorem tab194 : tab 194 = some ti194 := rfl
theorem tab196 : tab 196 = some ti196 := rfl
theorem tab197 : tab 197 = some ti197 := rfl
theorem tab205 : tab 205 = some ti205 := rfl
theorem tab208 : tab 208 = some ti208 := rfl
theorem tab214 : tab 214 = some ti214 := rfl
theorem tab215 : tab 215 = some ti215 := rfl
theorem tab217 : tab 217 = some ti217 := rfl
theorem tab221 : tab 221 = some ti221 := rfl
attribute [go_sem] tab1 ti1 tab2 ti2 tab3 ti3 tab4 ti4 tab5 ti5 tab6 ti6 tab7 ti7 tab8 ti8 tab9 ti9 tab10 ti10 tab11 ti11 tab12 ti12 tab16 ti16 tab20 ti20 tab21 ti21 tab22 ti22 tab23 ti23 tab25 ti25 tab26 ti26 tab28 ti28 tab31 ti31 tab36 ti36 tab38 ti38 tab40 ti40 tab47 ti47 tab48 ti48 tab50 ti50 tab57 ti57 tab58 ti58 tab70 ti70 tab76 ti76 tab78 ti78 tab80 ti80 tab85 ti85 tab87 ti87 tab91 ti91 tab117 ti117 tab119 ti119 tab121 ti121 tab126 ti126 tab131 ti131 tab134 ti134 tab135 ti135 tab137 ti137 tab138 ti138 tab139 ti139 tab147 ti147 tab149 ti149 tab153 ti153 tab155 ti155 tab161 ti161 tab166 ti166 tab168 ti168 tab171 ti171 tab173 ti173 tab175 ti175 tab180 ti180 tab181 ti181 tab183 ti183 tab184 ti184 tab186 ti186 tab188 ti188 tab191 ti191 tab193 ti193 tab194 ti194 tab196 ti196 tab197 ti197 tab205 ti205 tab208 ti208 tab214 ti214 tab215 ti215 tab217 ti217 tab221 ti221
theorem mixed : Try.prog.follows .mixedOrders = true := by kernel_rfl
end Go.Proofs.Ytcdmhigmgpflbaa.Pe

