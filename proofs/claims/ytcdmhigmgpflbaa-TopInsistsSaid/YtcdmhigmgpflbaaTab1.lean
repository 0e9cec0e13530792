import Derived.Test.YtcdmhigmgpflbaaPe18
import Derived.Test.YtcdmhigmgpflbaaPe20
import Derived.Test.YtcdmhigmgpflbaaProg
import Derived.KernelRfl
namespace Go.Proofs.Ytcdmhigmgpflbaa.Pe
open Go.Pe
set_option maxRecDepth 20000
set_option maxHeartbeats 4000000
def ti1 : TI := ⟨1,false,8,[.nilFunc],[.lit (.nilFunc)],.other,false,false⟩
theorem ok1 : TypeOK Try.prog 1 ti1 := TypeOK.of (d := _) (z := .nilFunc) Try.underlying1 (by kernel_rfl) trivial rfl rfl rfl rfl rfl rfl [none] rfl rfl (.inl rfl)
def ti2 : TI := ⟨1,false,8,[.int .i64 0],[.lit (.int .i64 0)],.int .i64,false,false⟩
theorem ok2 : TypeOK Try.prog 2 ti2 := TypeOK.of (d := _) (z := .int .i64 0) Try.underlying2 (by kernel_rfl) rfl rfl rfl rfl rfl rfl rfl [none] rfl rfl (.inl rfl)
def ti3 : TI := ⟨1,false,8,[.int .i64 0],[.lit (.int .i64 0)],.int .i64,false,false⟩
theorem ok3 : TypeOK Try.prog 3 ti3 := TypeOK.of (d := _) (z := .int .i64 0) Try.underlying3 (by kernel_rfl) rfl rfl rfl rfl rfl rfl rfl [none] rfl rfl (.inl rfl)
def ti4 : TI := ⟨1,false,1,[.bool false],[.lit (.bool false)],.bool,false,false⟩
theorem ok4 : TypeOK Try.prog 4 ti4 := TypeOK.of (d := _) (z := .bool false) Try.underlying4 (by kernel_rfl) rfl rfl rfl rfl rfl rfl rfl [none] rfl rfl (.inl rfl)
def ti5 : TI := ⟨1,false,1,[.int .u8 0],[.lit (.int .u8 0)],.int .u8,false,false⟩
theorem ok5 : TypeOK Try.prog 5 ti5 := TypeOK.of (d := _) (z := .int .u8 0) Try.underlying5 (by kernel_rfl) rfl rfl rfl rfl rfl rfl rfl [none] rfl rfl (.inl rfl)
def ti6 : TI := ⟨1,false,1,[.int .u8 0],[.lit (.int .u8 0)],.int .u8,false,false⟩
theorem ok6 : TypeOK Try.prog 6 ti6 := TypeOK.of (d := _) (z := .int .u8 0) Try.underlying6 (by kernel_rfl) rfl rfl rfl rfl rfl rfl rfl [none] rfl rfl (.inl rfl)
def ti7 : TI := ⟨4,true,24,[.int .i64 0,.int .i64 0,.bool false,.int .u8 0],[.lit (.int .i64 0),.lit (.int .i64 0),.lit (.bool false),.lit (.int .u8 0)],.struct [(0,2),(1,3),(2,4),(3,6)],false,false⟩
theorem ok7 : TypeOK Try.prog 7 ti7 := TypeOK.of (d := _) (z := .agg #[.int .i64 0,.int .i64 0,.bool false,.int .u8 0]) Try.underlying7 (by kernel_rfl) ⟨_,rfl,rfl⟩ rfl rfl rfl rfl rfl rfl [none,none,none,none] rfl rfl (.inl rfl)
def ti8 : TI := ⟨4,true,24,[.int .i64 0,.int .i64 0,.bool false,.int .u8 0],[.lit (.int .i64 0),.lit (.int .i64 0),.lit (.bool false),.lit (.int .u8 0)],.struct [(0,2),(1,3),(2,4),(3,6)],false,false⟩
theorem ok8 : TypeOK Try.prog 8 ti8 := TypeOK.of (d := _) (z := .agg #[.int .i64 0,.int .i64 0,.bool false,.int .u8 0]) Try.underlying8 (by kernel_rfl) ⟨_,rfl,rfl⟩ rfl rfl rfl rfl rfl rfl [none,none,none,none] rfl rfl (.inl rfl)
def ti9 : TI := ⟨1,false,16,[.string ⟨#[]⟩],[.lit (.string ⟨#[]⟩)],.str,false,false⟩
theorem ok9 : TypeOK Try.prog 9 ti9 := TypeOK.of (d := _) (z := .string ⟨#[]⟩) Try.underlying9 (by kernel_rfl) rfl rfl rfl rfl rfl rfl rfl [none] rfl rfl (.inl rfl)
def ti10 : TI := ⟨1,false,16,[.string ⟨#[]⟩],[.lit (.string ⟨#[]⟩)],.str,false,false⟩
theorem ok10 : TypeOK Try.prog 10 ti10 := TypeOK.of (d := _) (z := .string ⟨#[]⟩) Try.underlying10 (by kernel_rfl) rfl rfl rfl rfl rfl rfl rfl [none] rfl rfl (.inl rfl)
def ti11 : TI := ⟨1,false,16,[.string ⟨#[]⟩],[.lit (.string ⟨#[]⟩)],.str,false,false⟩
theorem ok11 : TypeOK Try.prog 11 ti11 := TypeOK.of (d := _) (z := .string ⟨#[]⟩) Try.underlying11 (by kernel_rfl) rfl rfl rfl rfl rfl rfl rfl [none] rfl rfl (.inl rfl)
def ti12 : TI := ⟨1,false,8,[.int .u64 0],[.lit (.int .u64 0)],.int .u64,false,false⟩
theorem ok12 : TypeOK Try.prog 12 ti12 := TypeOK.of (d := _) (z := .int .u64 0) Try.underlying12 (by kernel_rfl) rfl rfl rfl rfl rfl rfl rfl [none] rfl rfl (.inl rfl)
def ti13 : TI := ⟨2,true,24,[.string ⟨#[]⟩,.int .u64 0],[.lit (.string ⟨#[]⟩),.lit (.int .u64 0)],.struct [(0,9),(1,12)],false,false⟩
theorem ok13 : TypeOK Try.prog 13 ti13 := TypeOK.of (d := _) (z := .agg #[.string ⟨#[]⟩,.int .u64 0]) Try.underlying13 (by kernel_rfl) ⟨_,rfl,rfl⟩ rfl rfl rfl rfl rfl rfl [none,none] rfl rfl (.inl rfl)
def ti14 : TI := ⟨2,true,24,[.string ⟨#[]⟩,.int .u64 0],[.lit (.string ⟨#[]⟩),.lit (.int .u64 0)],.struct [(0,9),(1,12)],false,false⟩
theorem ok14 : TypeOK Try.prog 14 ti14 := TypeOK.of (d := _) (z := .agg #[.string ⟨#[]⟩,.int .u64 0]) Try.underlying14 (by kernel_rfl) ⟨_,rfl,rfl⟩ rfl rfl rfl rfl rfl rfl [none,none] rfl rfl (.inl rfl)
def ti15 : TI := ⟨1,false,8,[.pointer none],[.lit (.pointer none)],.other,false,false⟩
theorem ok15 : TypeOK Try.prog 15 ti15 := TypeOK.of (d := _) (z := .pointer none) Try.underlying15 (by kernel_rfl) trivial rfl rfl rfl rfl rfl rfl [none] rfl rfl (.inl rfl)
def ti16 : TI := ⟨1,false,8,[.pointer none],[.lit (.pointer none)],.other,false,false⟩
theorem ok16 : TypeOK Try.prog 16 ti16 := TypeOK.of (d := _) (z := .pointer none) Try.underlying16 (by kernel_rfl) trivial rfl rfl rfl rfl rfl rfl [none] rfl rfl (.inl rfl)
def ti17 : TI := ⟨1,false,8,[.pointer none],[.lit (.pointer none)],.other,false,false⟩
theorem ok17 : TypeOK Try.prog 17 ti17 := TypeOK.of (d := _) (z := .pointer none) Try.underlying17 (by kernel_rfl) trivial rfl rfl rfl rfl rfl rfl [none] rfl rfl (.inl rfl)
def ti18 : TI := ⟨1,true,8,[.pointer none],[.lit (.pointer none)],.struct [(0,17)],false,false⟩
theorem ok18 : TypeOK Try.prog 18 ti18 := TypeOK.of (d := _) (z := .agg #[.pointer none]) Try.underlying18 (by kernel_rfl) ⟨_,rfl,rfl⟩ rfl rfl rfl rfl rfl rfl [none] rfl rfl (.inl rfl)
def ti19 : TI := ⟨1,true,8,[.pointer none],[.lit (.pointer none)],.struct [(0,17)],false,false⟩
theorem ok19 : TypeOK Try.prog 19 ti19 := TypeOK.of (d := _) (z := .agg #[.pointer none]) Try.underlying19 (by kernel_rfl) ⟨_,rfl,rfl⟩ rfl rfl rfl rfl rfl rfl [none] rfl rfl (.inl rfl)
def ti20 : TI := ⟨1,false,16,[.nilIface],[.lit (.nilIface)],.other,false,false⟩
theorem ok20 : TypeOK Try.prog 20 ti20 := TypeOK.of (d := _) (z := .nilIface) Try.underlying20 (by kernel_rfl) trivial rfl rfl rfl rfl rfl rfl [none] rfl rfl (.inl rfl)
def ti21 : TI := ⟨1,false,4,[.int .i32 0],[.lit (.int .i32 0)],.int .i32,false,false⟩
theorem ok21 : TypeOK Try.prog 21 ti21 := TypeOK.of (d := _) (z := .int .i32 0) Try.underlying21 (by kernel_rfl) rfl rfl rfl rfl rfl rfl rfl [none] rfl rfl (.inl rfl)
def ti22 : TI := ⟨1,false,24,[.slice none 0 0],[.lit (.slice none 0 0)],.slice 47,false,false⟩
theorem ok22 : TypeOK Try.prog 22 ti22 := TypeOK.of (d := _) (z := .slice none 0 0) Try.underlying22 (by kernel_rfl) rfl rfl rfl rfl rfl rfl rfl [none] rfl rfl (.inl rfl)
def ti23 : TI := ⟨1,false,24,[.slice none 0 0],[.lit (.slice none 0 0)],.slice 161,true,false⟩
theorem ok23 : TypeOK Try.prog 23 ti23 := TypeOK.of (d := _) (z := .slice none 0 0) Try.underlying23 (by kernel_rfl) rfl rfl rfl rfl rfl rfl rfl [none] rfl rfl (.inl rfl)
def ti24 : TI := ⟨9,true,104,[.int .i64 0,.bool false,.int .i64 0,.int .i64 0,.int .i64 0,.int .i64 0,.int .i64 0,.slice none 0 0,.slice none 0 0],[.lit (.int .i64 0),.lit (.bool false),.lit (.int .i64 0),.lit (.int .i64 0),.lit (.int .i64 0),.lit (.int .i64 0),.lit (.int .i64 0),.lit (.slice none 0 0),.im 4 []],.struct [(0,3),(1,4),(2,3),(3,3),(4,3),(5,3),(6,3),(7,22),(8,23)],false,false⟩
theorem ok24 : TypeOK Try.prog 24 ti24 := TypeOK.of (d := _) (z := .agg #[.int .i64 0,.bool false,.int .i64 0,.int .i64 0,.int .i64 0,.int .i64 0,.int .i64 0,.slice none 0 0,.slice none 0 0]) Try.underlying24 (by kernel_rfl) ⟨_,rfl,rfl⟩ rfl rfl rfl rfl rfl rfl [none,none,none,none,none,none,none,none,some 4] rfl rfl (.inl rfl)
def ti25 : TI := ⟨9,true,104,[.int .i64 0,.bool false,.int .i64 0,.int .i64 0,.int .i64 0,.int .i64 0,.int .i64 0,.slice none 0 0,.slice none 0 0],[.lit (.int .i64 0),.lit (.bool false),.lit (.int .i64 0),.lit (.int .i64 0),.lit (.int .i64 0),.lit (.int .i64 0),.lit (.int .i64 0),.lit (.slice none 0 0),.im 4 []],.struct [(0,3),(1,4),(2,3),(3,3),(4,3),(5,3),(6,3),(7,22),(8,23)],false,false⟩
theorem ok25 : TypeOK Try.prog 25 ti25 := TypeOK.of (d := _) (z := .agg #[.int .i64 0,.bool false,.int .i64 0,.int .i64 0,.int .i64 0,.int .i64 0,.int .i64 0,.slice none 0 0,.slice none 0 0]) Try.underlying25 (by kernel_rfl) ⟨_,rfl,rfl⟩ rfl rfl rfl rfl rfl rfl [none,none,none,none,none,none,none,none,some 4] rfl rfl (.inl rfl)
def ti26 : TI := ⟨1,false,24,[.slice none 0 0],[.lit (.slice none 0 0)],.slice 38,false,false⟩
theorem ok26 : TypeOK Try.prog 26 ti26 := TypeOK.of (d := _) (z := .slice none 0 0) Try.underlying26 (by kernel_rfl) rfl rfl rfl rfl rfl rfl rfl [none] rfl rfl (.inl rfl)
def ti27 : TI := ⟨2,true,16,[.int .i64 0,.int .i64 0],[.lit (.int .i64 0),.lit (.int .i64 0)],.array 2 3,false,false⟩
theorem ok27 : TypeOK Try.prog 27 ti27 := TypeOK.of (d := _) (z := .agg #[.int .i64 0,.int .i64 0]) Try.underlying27 (by kernel_rfl) rfl rfl rfl rfl rfl rfl rfl [none,none] rfl rfl (.inl rfl)
def ti28 : TI := ⟨1,false,8,[.nilFunc],[.lit (.nilFunc)],.other,false,false⟩
theorem ok28 : TypeOK Try.prog 28 ti28 := TypeOK.of (d := _) (z := .nilFunc) Try.underlying28 (by kernel_rfl) trivial rfl rfl rfl rfl rfl rfl [none] rfl rfl (.inl rfl)
def ti29 : TI := ⟨1,false,8,[.nilFunc],[.lit (.nilFunc)],.other,false,false⟩
theorem ok29 : TypeOK Try.prog 29 ti29 := TypeOK.of (d := _) (z := .nilFunc) Try.underlying29 (by kernel_rfl) trivial rfl rfl rfl rfl rfl rfl [none] rfl rfl (.inl rfl)
def ti30 : TI := ⟨1,false,8,[.nilFunc],[.lit (.nilFunc)],.other,false,false⟩
theorem ok30 : TypeOK Try.prog 30 ti30 := TypeOK.of (d := _) (z := .nilFunc) Try.underlying30 (by kernel_rfl) trivial rfl rfl rfl rfl rfl rfl [none] rfl rfl (.inl rfl)
def ti31 : TI := ⟨1,false,24,[.slice none 0 0],[.lit (.slice none 0 0)],.slice 5,false,false⟩
theorem ok31 : TypeOK Try.prog 31 ti31 := TypeOK.of (d := _) (z := .slice none 0 0) Try.underlying31 (by kernel_rfl) rfl rfl rfl rfl rfl rfl rfl [none] rfl rfl (.inl rfl)
def ti32 : TI := ⟨1,false,8,[.nilFunc],[.lit (.nilFunc)],.other,false,false⟩
theorem ok32 : TypeOK Try.prog 32 ti32 := TypeOK.of (d := _) (z := .nilFunc) Try.underlying32 (by kernel_rfl) trivial rfl rfl rfl rfl rfl rfl [none] rfl rfl (.inl rfl)
def ti33 : TI := ⟨1,false,8,[.nilFunc],[.lit (.nilFunc)],.other,false,false⟩
theorem ok33 : TypeOK Try.prog 33 ti33 := TypeOK.of (d := _) (z := .nilFunc) Try.underlying33 (by kernel_rfl) trivial rfl rfl rfl rfl rfl rfl [none] rfl rfl (.inl rfl)
def ti34 : TI := ⟨1,false,8,[.nilFunc],[.lit (.nilFunc)],.other,false,false⟩
theorem ok34 : TypeOK Try.prog 34 ti34 := TypeOK.of (d := _) (z := .nilFunc) Try.underlying34 (by kernel_rfl) trivial rfl rfl rfl rfl rfl rfl [none] rfl rfl (.inl rfl)
def ti35 : TI := ⟨1,false,8,[.nilFunc],[.lit (.nilFunc)],.other,false,false⟩
theorem ok35 : TypeOK Try.prog 35 ti35 := TypeOK.of (d := _) (z := .nilFunc) Try.underlying35 (by kernel_rfl) trivial rfl rfl rfl rfl rfl rfl [none] rfl rfl (.inl rfl)
def ti36 : TI := ⟨1,false,8,[.nilFunc],[.lit (.nilFunc)],.other,false,false⟩
theorem ok36 : TypeOK Try.prog 36 ti36 := TypeOK.of (d := _) (z := .nilFunc) Try.underlying36 (by kernel_rfl) trivial rfl rfl rfl rfl rfl rfl [none] rfl rfl (.inl rfl)
def ti37 : TI := ⟨3,true,40,[.int .i64 0,.slice none 0 0,.bool false],[.lit (.int .i64 0),.im 1 [],.lit (.bool false)],.struct [(0,3),(1,31),(2,4)],false,false⟩
theorem ok37 : TypeOK Try.prog 37 ti37 := TypeOK.of (d := _) (z := .agg #[.int .i64 0,.slice none 0 0,.bool false]) Try.underlying37 (by kernel_rfl) ⟨_,rfl,rfl⟩ rfl rfl rfl rfl rfl rfl [none,some 1,none] rfl rfl (.inl rfl)
def ti38 : TI := ⟨3,true,40,[.int .i64 0,.slice none 0 0,.bool false],[.lit (.int .i64 0),.im 1 [],.lit (.bool false)],.struct [(0,3),(1,31),(2,4)],false,false⟩
theorem ok38 : TypeOK Try.prog 38 ti38 := TypeOK.of (d := _) (z := .agg #[.int .i64 0,.slice none 0 0,.bool false]) Try.underlying38 (by kernel_rfl) ⟨_,rfl,rfl⟩ rfl rfl rfl rfl rfl rfl [none,some 1,none] rfl rfl (.inl rfl)
def ti39 : TI := ⟨1,false,8,[.nilFunc],[.lit (.nilFunc)],.other,false,false⟩
theorem ok39 : TypeOK Try.prog 39 ti39 := TypeOK.of (d := _) (z := .nilFunc) Try.underlying39 (by kernel_rfl) trivial rfl rfl rfl rfl rfl rfl [none] rfl rfl (.inl rfl)
def ti40 : TI := ⟨1,false,8,[.nilFunc],[.lit (.nilFunc)],.other,false,false⟩
theorem ok40 : TypeOK Try.prog 40 ti40 := TypeOK.of (d := _) (z := .nilFunc) Try.underlying40 (by kernel_rfl) trivial rfl rfl rfl rfl rfl rfl [none] rfl rfl (.inl rfl)
def ti42 : TI := ⟨1,false,8,[.nilFunc],[.lit (.nilFunc)],.other,false,false⟩
theorem ok42 : TypeOK Try.prog 42 ti42 := TypeOK.of (d := _) (z := .nilFunc) Try.underlying42 (by kernel_rfl) trivial rfl rfl rfl rfl rfl rfl [none] rfl rfl (.inl rfl)
def ti43 : TI := ⟨1,false,8,[.nilFunc],[.lit (.nilFunc)],.other,false,false⟩
theorem ok43 : TypeOK Try.prog 43 ti43 := TypeOK.of (d := _) (z := .nilFunc) Try.underlying43 (by kernel_rfl) trivial rfl rfl rfl rfl rfl rfl [none] rfl rfl (.inl rfl)
def ti44 : TI := ⟨1,false,8,[.nilFunc],[.lit (.nilFunc)],.other,false,false⟩
theorem ok44 : TypeOK Try.prog 44 ti44 := TypeOK.of (d := _) (z := .nilFunc) Try.underlying44 (by kernel_rfl) trivial rfl rfl rfl rfl rfl rfl [none] rfl rfl (.inl rfl)
def ti45 : TI := ⟨1,false,8,[.nilFunc],[.lit (.nilFunc)],.other,false,false⟩
theorem ok45 : TypeOK Try.prog 45 ti45 := TypeOK.of (d := _) (z := .nilFunc) Try.underlying45 (by kernel_rfl) trivial rfl rfl rfl rfl rfl rfl [none] rfl rfl (.inl rfl)
def ti46 : TI := ⟨3,true,40,[.int .i64 0,.bool false,.slice none 0 0],[.lit (.int .i64 0),.lit (.bool false),.im 1 []],.struct [(0,3),(1,4),(2,31)],false,false⟩
theorem ok46 : TypeOK Try.prog 46 ti46 := TypeOK.of (d := _) (z := .agg #[.int .i64 0,.bool false,.slice none 0 0]) Try.underlying46 (by kernel_rfl) ⟨_,rfl,rfl⟩ rfl rfl rfl rfl rfl rfl [none,none,some 1] rfl rfl (.inl rfl)
def ti47 : TI := ⟨3,true,40,[.int .i64 0,.bool false,.slice none 0 0],[.lit (.int .i64 0),.lit (.bool false),.im 1 []],.struct [(0,3),(1,4),(2,31)],false,false⟩
theorem ok47 : TypeOK Try.prog 47 ti47 := TypeOK.of (d := _) (z := .agg #[.int .i64 0,.bool false,.slice none 0 0]) Try.underlying47 (by kernel_rfl) ⟨_,rfl,rfl⟩ rfl rfl rfl rfl rfl rfl [none,none,some 1] rfl rfl (.inl rfl)
def ti48 : TI := ⟨1,false,8,[.int .u64 0],[.lit (.int .u64 0)],.int .u64,false,false⟩
theorem ok48 : TypeOK Try.prog 48 ti48 := TypeOK.of (d := _) (z := .int .u64 0) Try.underlying48 (by kernel_rfl) rfl rfl rfl rfl rfl rfl rfl [none] rfl rfl (.inl rfl)
def ti49 : TI := ⟨1,false,8,[.nilFunc],[.lit (.nilFunc)],.other,false,false⟩
theorem ok49 : TypeOK Try.prog 49 ti49 := TypeOK.of (d := _) (z := .nilFunc) Try.underlying49 (by kernel_rfl) trivial rfl rfl rfl rfl rfl rfl [none] rfl rfl (.inl rfl)
def ti50 : TI := ⟨1,false,4,[.int .u32 0],[.lit (.int .u32 0)],.int .u32,false,false⟩
theorem ok50 : TypeOK Try.prog 50 ti50 := TypeOK.of (d := _) (z := .int .u32 0) Try.underlying50 (by kernel_rfl) rfl rfl rfl rfl rfl rfl rfl [none] rfl rfl (.inl rfl)
def ti51 : TI := ⟨3,true,12,[.int .u32 0,.int .u32 0,.int .u32 0],[.lit (.int .u32 0),.lit (.int .u32 0),.lit (.int .u32 0)],.array 3 50,false,false⟩
theorem ok51 : TypeOK Try.prog 51 ti51 := TypeOK.of (d := _) (z := .agg #[.int .u32 0,.int .u32 0,.int .u32 0]) Try.underlying51 (by kernel_rfl) rfl rfl rfl rfl rfl rfl rfl [none,none,none] rfl rfl (.inl rfl)
def ti52 : TI := ⟨1,false,8,[.nilFunc],[.lit (.nilFunc)],.other,false,false⟩
theorem ok52 : TypeOK Try.prog 52 ti52 := TypeOK.of (d := _) (z := .nilFunc) Try.underlying52 (by kernel_rfl) trivial rfl rfl rfl rfl rfl rfl [none] rfl rfl (.inl rfl)
def ti53 : TI := ⟨2,true,2,[.int .u8 0,.int .u8 0],[.lit (.int .u8 0),.lit (.int .u8 0)],.array 2 5,false,false⟩
theorem ok53 : TypeOK Try.prog 53 ti53 := TypeOK.of (d := _) (z := .agg #[.int .u8 0,.int .u8 0]) Try.underlying53 (by kernel_rfl) rfl rfl rfl rfl rfl rfl rfl [none,none] rfl rfl (.inl rfl)
def ti54 : TI := ⟨1,false,8,[.nilFunc],[.lit (.nilFunc)],.other,false,false⟩
theorem ok54 : TypeOK Try.prog 54 ti54 := TypeOK.of (d := _) (z := .nilFunc) Try.underlying54 (by kernel_rfl) trivial rfl rfl rfl rfl rfl rfl [none] rfl rfl (.inl rfl)
def ti55 : TI := ⟨1,false,8,[.nilFunc],[.lit (.nilFunc)],.other,false,false⟩
theorem ok55 : TypeOK Try.prog 55 ti55 := TypeOK.of (d := _) (z := .nilFunc) Try.underlying55 (by kernel_rfl) trivial rfl rfl rfl rfl rfl rfl [none] rfl rfl (.inl rfl)
def ti56 : TI := ⟨1,false,8,[.nilFunc],[.lit (.nilFunc)],.other,false,false⟩
theorem ok56 : TypeOK Try.prog 56 ti56 := TypeOK.of (d := _) (z := .nilFunc) Try.underlying56 (by kernel_rfl) trivial rfl rfl rfl rfl rfl rfl [none] rfl rfl (.inl rfl)
def ti57 : TI := ⟨1,false,24,[.slice none 0 0],[.lit (.slice none 0 0)],.slice 31,false,false⟩
theorem ok57 : TypeOK Try.prog 57 ti57 := TypeOK.of (d := _) (z := .slice none 0 0) Try.underlying57 (by kernel_rfl) rfl rfl rfl rfl rfl rfl rfl [none] rfl rfl (.inl rfl)
def ti58 : TI := ⟨1,false,24,[.slice none 0 0],[.lit (.slice none 0 0)],.slice 3,false,false⟩
theorem ok58 : TypeOK Try.prog 58 ti58 := TypeOK.of (d := _) (z := .slice none 0 0) Try.underlying58 (by kernel_rfl) rfl rfl rfl rfl rfl rfl rfl [none] rfl rfl (.inl rfl)
def ti60 : TI := ⟨1,false,8,[.nilFunc],[.lit (.nilFunc)],.other,false,false⟩
theorem ok60 : TypeOK Try.prog 60 ti60 := TypeOK.of (d := _) (z := .nilFunc) Try.underlying60 (by kernel_rfl) trivial rfl rfl rfl rfl rfl rfl [none] rfl rfl (.inl rfl)
def ti61 : TI := ⟨1,false,8,[.nilFunc],[.lit (.nilFunc)],.other,false,false⟩
theorem ok61 : TypeOK Try.prog 61 ti61 := TypeOK.of (d := _) (z := .nilFunc) Try.underlying61 (by kernel_rfl) trivial rfl rfl rfl rfl rfl rfl [none] rfl rfl (.inl rfl)
def ti62 : TI := ⟨1,false,8,[.nilFunc],[.lit (.nilFunc)],.other,false,false⟩
theorem ok62 : TypeOK Try.prog 62 ti62 := TypeOK.of (d := _) (z := .nilFunc) Try.underlying62 (by kernel_rfl) trivial rfl rfl rfl rfl rfl rfl [none] rfl rfl (.inl rfl)
def ti63 : TI := ⟨1,false,8,[.nilFunc],[.lit (.nilFunc)],.other,false,false⟩
theorem ok63 : TypeOK Try.prog 63 ti63 := TypeOK.of (d := _) (z := .nilFunc) Try.underlying63 (by kernel_rfl) trivial rfl rfl rfl rfl rfl rfl [none] rfl rfl (.inl rfl)
def ti64 : TI := ⟨1,false,8,[.nilFunc],[.lit (.nilFunc)],.other,false,false⟩
theorem ok64 : TypeOK Try.prog 64 ti64 := TypeOK.of (d := _) (z := .nilFunc) Try.underlying64 (by kernel_rfl) trivial rfl rfl rfl rfl rfl rfl [none] rfl rfl (.inl rfl)
def ti65 : TI := ⟨1,false,8,[.nilFunc],[.lit (.nilFunc)],.other,false,false⟩
theorem ok65 : TypeOK Try.prog 65 ti65 := TypeOK.of (d := _) (z := .nilFunc) Try.underlying65 (by kernel_rfl) trivial rfl rfl rfl rfl rfl rfl [none] rfl rfl (.inl rfl)
def ti66 : TI := ⟨1,false,8,[.nilFunc],[.lit (.nilFunc)],.other,false,false⟩
theorem ok66 : TypeOK Try.prog 66 ti66 := TypeOK.of (d := _) (z := .nilFunc) Try.underlying66 (by kernel_rfl) trivial rfl rfl rfl rfl rfl rfl [none] rfl rfl (.inl rfl)
def ti68 : TI := ⟨1,false,8,[.nilFunc],[.lit (.nilFunc)],.other,false,false⟩
theorem ok68 : TypeOK Try.prog 68 ti68 := TypeOK.of (d := _) (z := .nilFunc) Try.underlying68 (by kernel_rfl) trivial rfl rfl rfl rfl rfl rfl [none] rfl rfl (.inl rfl)
def ti69 : TI := ⟨1,false,8,[.nilFunc],[.lit (.nilFunc)],.other,false,false⟩
theorem ok69 : TypeOK Try.prog 69 ti69 := TypeOK.of (d := _) (z := .nilFunc) Try.underlying69 (by kernel_rfl) trivial rfl rfl rfl rfl rfl rfl [none] rfl rfl (.inl rfl)
def ti70 : TI := ⟨1,false,2,[.int .u16 0],[.lit (.int .u16 0)],.int .u16,false,false⟩
theorem ok70 : TypeOK Try.prog 70 ti70 := TypeOK.of (d := _) (z := .int .u16 0) Try.underlying70 (by kernel_rfl) rfl rfl rfl rfl rfl rfl rfl [none] rfl rfl (.inl rfl)
def ti71 : TI := ⟨1,false,8,[.nilFunc],[.lit (.nilFunc)],.other,false,false⟩
theorem ok71 : TypeOK Try.prog 71 ti71 := TypeOK.of (d := _) (z := .nilFunc) Try.underlying71 (by kernel_rfl) trivial rfl rfl rfl rfl rfl rfl [none] rfl rfl (.inl rfl)
def ti72 : TI := ⟨1,false,8,[.nilFunc],[.lit (.nilFunc)],.other,false,false⟩
theorem ok72 : TypeOK Try.prog 72 ti72 := TypeOK.of (d := _) (z := .nilFunc) Try.underlying72 (by kernel_rfl) trivial rfl rfl rfl rfl rfl rfl [none] rfl rfl (.inl rfl)
def ti73 : TI := ⟨1,false,8,[.nilFunc],[.lit (.nilFunc)],.other,false,false⟩
theorem ok73 : TypeOK Try.prog 73 ti73 := TypeOK.of (d := _) (z := .nilFunc) Try.underlying73 (by kernel_rfl) trivial rfl rfl rfl rfl rfl rfl [none] rfl rfl (.inl rfl)
def ti74 : TI := ⟨1,false,8,[.nilFunc],[.lit (.nilFunc)],.other,false,false⟩
theorem ok74 : TypeOK Try.prog 74 ti74 := TypeOK.of (d := _) (z := .nilFunc) Try.underlying74 (by kernel_rfl) trivial rfl rfl rfl rfl rfl rfl [none] rfl rfl (.inl rfl)
def ti75 : TI := ⟨1,false,8,[.nilFunc],[.lit (.nilFunc)],.other,false,false⟩
theorem ok75 : TypeOK Try.prog 75 ti75 := TypeOK.of (d := _) (z := .nilFunc) Try.underlying75 (by kernel_rfl) trivial rfl rfl rfl rfl rfl rfl [none] rfl rfl (.inl rfl)
def ti76 : TI := ⟨1,false,8,[.int .i64 0],[.lit (.int .i64 0)],.int .i64,false,false⟩
theorem ok76 : TypeOK Try.prog 76 ti76 := TypeOK.of (d := _) (z := .int .i64 0) Try.underlying76 (by kernel_rfl) rfl rfl rfl rfl rfl rfl rfl [none] rfl rfl (.inl rfl)
def ti77 : TI := ⟨9,true,88,[.int .i64 0,.slice none 0 0,.int .i64 0,.int .i64 0,.int .i64 0,.int .i64 0,.int .i64 0,.int .i64 0,.int .i64 0],[.lit (.int .i64 0),.im 1 [],.lit (.int .i64 0),.lit (.int .i64 0),.lit (.int .i64 0),.lit (.int .i64 0),.lit (.int .i64 0),.lit (.int .i64 0),.lit (.int .i64 0)],.struct [(0,3),(1,31),(2,3),(3,3),(4,3),(5,3),(6,3),(7,3),(8,76)],false,false⟩
theorem ok77 : TypeOK Try.prog 77 ti77 := TypeOK.of (d := _) (z := .agg #[.int .i64 0,.slice none 0 0,.int .i64 0,.int .i64 0,.int .i64 0,.int .i64 0,.int .i64 0,.int .i64 0,.int .i64 0]) Try.underlying77 (by kernel_rfl) ⟨_,rfl,rfl⟩ rfl rfl rfl rfl rfl rfl [none,some 1,none,none,none,none,none,none,none] rfl rfl (.inl rfl)
def ti78 : TI := ⟨9,true,88,[.int .i64 0,.slice none 0 0,.int .i64 0,.int .i64 0,.int .i64 0,.int .i64 0,.int .i64 0,.int .i64 0,.int .i64 0],[.lit (.int .i64 0),.im 1 [],.lit (.int .i64 0),.lit (.int .i64 0),.lit (.int .i64 0),.lit (.int .i64 0),.lit (.int .i64 0),.lit (.int .i64 0),.lit (.int .i64 0)],.struct [(0,3),(1,31),(2,3),(3,3),(4,3),(5,3),(6,3),(7,3),(8,76)],false,false⟩
theorem ok78 : TypeOK Try.prog 78 ti78 := TypeOK.of (d := _) (z := .agg #[.int .i64 0,.slice none 0 0,.int .i64 0,.int .i64 0,.int .i64 0,.int .i64 0,.int .i64 0,.int .i64 0,.int .i64 0]) Try.underlying78 (by kernel_rfl) ⟨_,rfl,rfl⟩ rfl rfl rfl rfl rfl rfl [none,some 1,none,none,none,none,none,none,none] rfl rfl (.inl rfl)
def ti79 : TI := ⟨10,true,96,[.int .i64 0,.int .i64 0,.slice none 0 0,.int .i64 0,.int .i64 0,.int .i64 0,.int .i64 0,.int .i64 0,.int .i64 0,.int .i64 0],[.lit (.int .i64 0),.lit (.int .i64 0),.im 1 [],.lit (.int .i64 0),.lit (.int .i64 0),.lit (.int .i64 0),.lit (.int .i64 0),.lit (.int .i64 0),.lit (.int .i64 0),.lit (.int .i64 0)],.struct [(0,3),(1,3),(2,31),(3,3),(4,3),(5,3),(6,3),(7,3),(8,3),(9,76)],false,false⟩
theorem ok79 : TypeOK Try.prog 79 ti79 := TypeOK.of (d := _) (z := .agg #[.int .i64 0,.int .i64 0,.slice none 0 0,.int .i64 0,.int .i64 0,.int .i64 0,.int .i64 0,.int .i64 0,.int .i64 0,.int .i64 0]) Try.underlying79 (by kernel_rfl) ⟨_,rfl,rfl⟩ rfl rfl rfl rfl rfl rfl [none,none,some 1,none,none,none,none,none,none,none] rfl rfl (.inl rfl)
def ti80 : TI := ⟨10,true,96,[.int .i64 0,.int .i64 0,.slice none 0 0,.int .i64 0,.int .i64 0,.int .i64 0,.int .i64 0,.int .i64 0,.int .i64 0,.int .i64 0],[.lit (.int .i64 0),.lit (.int .i64 0),.im 1 [],.lit (.int .i64 0),.lit (.int .i64 0),.lit (.int .i64 0),.lit (.int .i64 0),.lit (.int .i64 0),.lit (.int .i64 0),.lit (.int .i64 0)],.struct [(0,3),(1,3),(2,31),(3,3),(4,3),(5,3),(6,3),(7,3),(8,3),(9,76)],false,false⟩
theorem ok80 : TypeOK Try.prog 80 ti80 := TypeOK.of (d := _) (z := .agg #[.int .i64 0,.int .i64 0,.slice none 0 0,.int .i64 0,.int .i64 0,.int .i64 0,.int .i64 0,.int .i64 0,.int .i64 0,.int .i64 0]) Try.underlying80 (by kernel_rfl) ⟨_,rfl,rfl⟩ rfl rfl rfl rfl rfl rfl [none,none,some 1,none,none,none,none,none,none,none] rfl rfl (.inl rfl)
def ti82 : TI := ⟨1,false,8,[.nilFunc],[.lit (.nilFunc)],.other,false,false⟩
theorem ok82 : TypeOK Try.prog 82 ti82 := TypeOK.of (d := _) (z := .nilFunc) Try.underlying82 (by kernel_rfl) trivial rfl rfl rfl rfl rfl rfl [none] rfl rfl (.inl rfl)
def ti83 : TI := ⟨1,false,8,[.nilFunc],[.lit (.nilFunc)],.other,false,false⟩
theorem ok83 : TypeOK Try.prog 83 ti83 := TypeOK.of (d := _) (z := .nilFunc) Try.underlying83 (by kernel_rfl) trivial rfl rfl rfl rfl rfl rfl [none] rfl rfl (.inl rfl)
def ti84 : TI := ⟨6,true,40,[.int .i64 0,.int .i64 0,.bool false,.bool false,.int .i64 0,.int .i64 0],[.lit (.int .i64 0),.lit (.int .i64 0),.lit (.bool false),.lit (.bool false),.lit (.int .i64 0),.lit (.int .i64 0)],.struct [(0,3),(1,3),(2,4),(3,4),(4,3),(5,3)],false,false⟩
theorem ok84 : TypeOK Try.prog 84 ti84 := TypeOK.of (d := _) (z := .agg #[.int .i64 0,.int .i64 0,.bool false,.bool false,.int .i64 0,.int .i64 0]) Try.underlying84 (by kernel_rfl) ⟨_,rfl,rfl⟩ rfl rfl rfl rfl rfl rfl [none,none,none,none,none,none] rfl rfl (.inl rfl)
def ti85 : TI := ⟨6,true,40,[.int .i64 0,.int .i64 0,.bool false,.bool false,.int .i64 0,.int .i64 0],[.lit (.int .i64 0),.lit (.int .i64 0),.lit (.bool false),.lit (.bool false),.lit (.int .i64 0),.lit (.int .i64 0)],.struct [(0,3),(1,3),(2,4),(3,4),(4,3),(5,3)],false,false⟩
theorem ok85 : TypeOK Try.prog 85 ti85 := TypeOK.of (d := _) (z := .agg #[.int .i64 0,.int .i64 0,.bool false,.bool false,.int .i64 0,.int .i64 0]) Try.underlying85 (by kernel_rfl) ⟨_,rfl,rfl⟩ rfl rfl rfl rfl rfl rfl [none,none,none,none,none,none] rfl rfl (.inl rfl)
def ti86 : TI := ⟨1,false,8,[.nilFunc],[.lit (.nilFunc)],.other,false,false⟩
theorem ok86 : TypeOK Try.prog 86 ti86 := TypeOK.of (d := _) (z := .nilFunc) Try.underlying86 (by kernel_rfl) trivial rfl rfl rfl rfl rfl rfl [none] rfl rfl (.inl rfl)
def ti87 : TI := ⟨1,false,24,[.slice none 0 0],[.lit (.slice none 0 0)],.slice 85,false,false⟩
theorem ok87 : TypeOK Try.prog 87 ti87 := TypeOK.of (d := _) (z := .slice none 0 0) Try.underlying87 (by kernel_rfl) rfl rfl rfl rfl rfl rfl rfl [none] rfl rfl (.inl rfl)
def ti88 : TI := ⟨1,false,8,[.nilFunc],[.lit (.nilFunc)],.other,false,false⟩
theorem ok88 : TypeOK Try.prog 88 ti88 := TypeOK.of (d := _) (z := .nilFunc) Try.underlying88 (by kernel_rfl) trivial rfl rfl rfl rfl rfl rfl [none] rfl rfl (.inl rfl)
def ti89 : TI := ⟨1,false,8,[.nilFunc],[.lit (.nilFunc)],.other,false,false⟩
theorem ok89 : TypeOK Try.prog 89 ti89 := TypeOK.of (d := _) (z := .nilFunc) Try.underlying89 (by kernel_rfl) trivial rfl rfl rfl rfl rfl rfl [none] rfl rfl (.inl rfl)
def ti90 : TI := ⟨4,true,32,[.bool false,.int .i64 0,.int .i64 0,.int .i64 0],[.lit (.bool false),.lit (.int .i64 0),.lit (.int .i64 0),.lit (.int .i64 0)],.struct [(0,4),(1,3),(2,3),(3,3)],false,false⟩
theorem ok90 : TypeOK Try.prog 90 ti90 := TypeOK.of (d := _) (z := .agg #[.bool false,.int .i64 0,.int .i64 0,.int .i64 0]) Try.underlying90 (by kernel_rfl) ⟨_,rfl,rfl⟩ rfl rfl rfl rfl rfl rfl [none,none,none,none] rfl rfl (.inl rfl)
def ti91 : TI := ⟨4,true,32,[.bool false,.int .i64 0,.int .i64 0,.int .i64 0],[.lit (.bool false),.lit (.int .i64 0),.lit (.int .i64 0),.lit (.int .i64 0)],.struct [(0,4),(1,3),(2,3),(3,3)],false,false⟩
theorem ok91 : TypeOK Try.prog 91 ti91 := TypeOK.of (d := _) (z := .agg #[.bool false,.int .i64 0,.int .i64 0,.int .i64 0]) Try.underlying91 (by kernel_rfl) ⟨_,rfl,rfl⟩ rfl rfl rfl rfl rfl rfl [none,none,none,none] rfl rfl (.inl rfl)
def ti93 : TI := ⟨1,false,8,[.nilFunc],[.lit (.nilFunc)],.other,false,false⟩
theorem ok93 : TypeOK Try.prog 93 ti93 := TypeOK.of (d := _) (z := .nilFunc) Try.underlying93 (by kernel_rfl) trivial rfl rfl rfl rfl rfl rfl [none] rfl rfl (.inl rfl)
def ti94 : TI := ⟨1,false,8,[.nilFunc],[.lit (.nilFunc)],.other,false,false⟩
theorem ok94 : TypeOK Try.prog 94 ti94 := TypeOK.of (d := _) (z := .nilFunc) Try.underlying94 (by kernel_rfl) trivial rfl rfl rfl rfl rfl rfl [none] rfl rfl (.inl rfl)
def ti96 : TI := ⟨1,false,8,[.nilFunc],[.lit (.nilFunc)],.other,false,false⟩
theorem ok96 : TypeOK Try.prog 96 ti96 := TypeOK.of (d := _) (z := .nilFunc) Try.underlying96 (by kernel_rfl) trivial rfl rfl rfl rfl rfl rfl [none] rfl rfl (.inl rfl)
def ti97 : TI := ⟨1,false,8,[.nilFunc],[.lit (.nilFunc)],.other,false,false⟩
theorem ok97 : TypeOK Try.prog 97 ti97 := TypeOK.of (d := _) (z := .nilFunc) Try.underlying97 (by kernel_rfl) trivial rfl rfl rfl rfl rfl rfl [none] rfl rfl (.inl rfl)
def ti98 : TI := ⟨1,false,24,[.slice none 0 0],[.lit (.slice none 0 0)],.slice 106,false,false⟩
theorem ok98 : TypeOK Try.prog 98 ti98 := TypeOK.of (d := _) (z := .slice none 0 0) Try.underlying98 (by kernel_rfl) rfl rfl rfl rfl rfl rfl rfl [none] rfl rfl (.inl rfl)
def ti99 : TI := ⟨1,false,8,[.nilFunc],[.lit (.nilFunc)],.other,false,false⟩
theorem ok99 : TypeOK Try.prog 99 ti99 := TypeOK.of (d := _) (z := .nilFunc) Try.underlying99 (by kernel_rfl) trivial rfl rfl rfl rfl rfl rfl [none] rfl rfl (.inl rfl)
def ti101 : TI := ⟨1,false,8,[.nilFunc],[.lit (.nilFunc)],.other,false,false⟩
theorem ok101 : TypeOK Try.prog 101 ti101 := TypeOK.of (d := _) (z := .nilFunc) Try.underlying101 (by kernel_rfl) trivial rfl rfl rfl rfl rfl rfl [none] rfl rfl (.inl rfl)
def ti102 : TI := ⟨1,false,8,[.nilFunc],[.lit (.nilFunc)],.other,false,false⟩
theorem ok102 : TypeOK Try.prog 102 ti102 := TypeOK.of (d := _) (z := .nilFunc) Try.underlying102 (by kernel_rfl) trivial rfl rfl rfl rfl rfl rfl [none] rfl rfl (.inl rfl)
def ti104 : TI := ⟨1,false,8,[.nilFunc],[.lit (.nilFunc)],.other,false,false⟩
theorem ok104 : TypeOK Try.prog 104 ti104 := TypeOK.of (d := _) (z := .nilFunc) Try.underlying104 (by kernel_rfl) trivial rfl rfl rfl rfl rfl rfl [none] rfl rfl (.inl rfl)
def ti105 : TI := ⟨2,true,48,[.slice none 0 0,.slice none 0 0],[.lit (.slice none 0 0),.lit (.slice none 0 0)],.struct [(0,58),(1,58)],false,false⟩
theorem ok105 : TypeOK Try.prog 105 ti105 := TypeOK.of (d := _) (z := .agg #[.slice none 0 0,.slice none 0 0]) Try.underlying105 (by kernel_rfl) ⟨_,rfl,rfl⟩ rfl rfl rfl rfl rfl rfl [none,none] rfl rfl (.inl rfl)
def ti106 : TI := ⟨2,true,48,[.slice none 0 0,.slice none 0 0],[.lit (.slice none 0 0),.lit (.slice none 0 0)],.struct [(0,58),(1,58)],false,false⟩
theorem ok106 : TypeOK Try.prog 106 ti106 := TypeOK.of (d := _) (z := .agg #[.slice none 0 0,.slice none 0 0]) Try.underlying106 (by kernel_rfl) ⟨_,rfl,rfl⟩ rfl rfl rfl rfl rfl rfl [none,none] rfl rfl (.inl rfl)
def ti107 : TI := ⟨1,false,8,[.nilFunc],[.lit (.nilFunc)],.other,false,false⟩
theorem ok107 : TypeOK Try.prog 107 ti107 := TypeOK.of (d := _) (z := .nilFunc) Try.underlying107 (by kernel_rfl) trivial rfl rfl rfl rfl rfl rfl [none] rfl rfl (.inl rfl)
def ti108 : TI := ⟨1,false,24,[.slice none 0 0],[.lit (.slice none 0 0)],.slice 50,false,false⟩
theorem ok108 : TypeOK Try.prog 108 ti108 := TypeOK.of (d := _) (z := .slice none 0 0) Try.underlying108 (by kernel_rfl) rfl rfl rfl rfl rfl rfl rfl [none] rfl rfl (.inl rfl)
def ti109 : TI := ⟨1,false,8,[.nilFunc],[.lit (.nilFunc)],.other,false,false⟩
theorem ok109 : TypeOK Try.prog 109 ti109 := TypeOK.of (d := _) (z := .nilFunc) Try.underlying109 (by kernel_rfl) trivial rfl rfl rfl rfl rfl rfl [none] rfl rfl (.inl rfl)
def ti110 : TI := ⟨1,false,24,[.slice none 0 0],[.lit (.slice none 0 0)],.slice 70,false,false⟩
theorem ok110 : TypeOK Try.prog 110 ti110 := TypeOK.of (d := _) (z := .slice none 0 0) Try.underlying110 (by kernel_rfl) rfl rfl rfl rfl rfl rfl rfl [none] rfl rfl (.inl rfl)
def ti111 : TI := ⟨1,false,24,[.slice none 0 0],[.lit (.slice none 0 0)],.slice 4,false,false⟩
theorem ok111 : TypeOK Try.prog 111 ti111 := TypeOK.of (d := _) (z := .slice none 0 0) Try.underlying111 (by kernel_rfl) rfl rfl rfl rfl rfl rfl rfl [none] rfl rfl (.inl rfl)
def ti112 : TI := ⟨1,false,8,[.nilFunc],[.lit (.nilFunc)],.other,false,false⟩
theorem ok112 : TypeOK Try.prog 112 ti112 := TypeOK.of (d := _) (z := .nilFunc) Try.underlying112 (by kernel_rfl) trivial rfl rfl rfl rfl rfl rfl [none] rfl rfl (.inl rfl)
def ti113 : TI := ⟨1,false,8,[.nilFunc],[.lit (.nilFunc)],.other,false,false⟩
theorem ok113 : TypeOK Try.prog 113 ti113 := TypeOK.of (d := _) (z := .nilFunc) Try.underlying113 (by kernel_rfl) trivial rfl rfl rfl rfl rfl rfl [none] rfl rfl (.inl rfl)
def ti114 : TI := ⟨1,false,8,[.nilFunc],[.lit (.nilFunc)],.other,false,false⟩
theorem ok114 : TypeOK Try.prog 114 ti114 := TypeOK.of (d := _) (z := .nilFunc) Try.underlying114 (by kernel_rfl) trivial rfl rfl rfl rfl rfl rfl [none] rfl rfl (.inl rfl)
def ti115 : TI := ⟨1,false,8,[.nilFunc],[.lit (.nilFunc)],.other,false,false⟩
theorem ok115 : TypeOK Try.prog 115 ti115 := TypeOK.of (d := _) (z := .nilFunc) Try.underlying115 (by kernel_rfl) trivial rfl rfl rfl rfl rfl rfl [none] rfl rfl (.inl rfl)
def ti116 : TI := ⟨1,false,8,[.nilFunc],[.lit (.nilFunc)],.other,false,false⟩
theorem ok116 : TypeOK Try.prog 116 ti116 := TypeOK.of (d := _) (z := .nilFunc) Try.underlying116 (by kernel_rfl) trivial rfl rfl rfl rfl rfl rfl [none] rfl rfl (.inl rfl)
def ti117 : TI := ⟨1,false,8,[.nilFunc],[.lit (.nilFunc)],.other,false,false⟩
theorem ok117 : TypeOK Try.prog 117 ti117 := TypeOK.of (d := _) (z := .nilFunc) Try.underlying117 (by kernel_rfl) trivial rfl rfl rfl rfl rfl rfl [none] rfl rfl (.inl rfl)
def ti118 : TI := ⟨1,false,8,[.nilFunc],[.lit (.nilFunc)],.other,false,false⟩
theorem ok118 : TypeOK Try.prog 118 ti118 := TypeOK.of (d := _) (z := .nilFunc) Try.underlying118 (by kernel_rfl) trivial rfl rfl rfl rfl rfl rfl [none] rfl rfl (.inl rfl)
def ti119 : TI := ⟨1,false,8,[.pointer none],[.lit (.pointer none)],.other,false,false⟩
theorem ok119 : TypeOK Try.prog 119 ti119 := TypeOK.of (d := _) (z := .pointer none) Try.underlying119 (by kernel_rfl) trivial rfl rfl rfl rfl rfl rfl [none] rfl rfl (.inl rfl)
def ti120 : TI := ⟨10,true,128,[.int .i64 0,.bool false,.int .i64 0,.int .i64 0,.int .i64 0,.int .i64 0,.int .i64 0,.slice none 0 0,.slice none 0 0,.slice none 0 0],[.lit (.int .i64 0),.lit (.bool false),.lit (.int .i64 0),.lit (.int .i64 0),.lit (.int .i64 0),.lit (.int .i64 0),.lit (.int .i64 0),.lit (.slice none 0 0),.im 4 [],.im 1 []],.struct [(0,25),(9,31)],false,false⟩
theorem ok120 : TypeOK Try.prog 120 ti120 := TypeOK.of (d := _) (z := .agg #[.int .i64 0,.bool false,.int .i64 0,.int .i64 0,.int .i64 0,.int .i64 0,.int .i64 0,.slice none 0 0,.slice none 0 0,.slice none 0 0]) Try.underlying120 (by kernel_rfl) ⟨_,rfl,rfl⟩ rfl rfl rfl rfl rfl rfl [none,none,none,none,none,none,none,none,some 4,some 1] rfl rfl (.inl rfl)
def ti121 : TI := ⟨10,true,128,[.int .i64 0,.bool false,.int .i64 0,.int .i64 0,.int .i64 0,.int .i64 0,.int .i64 0,.slice none 0 0,.slice none 0 0,.slice none 0 0],[.lit (.int .i64 0),.lit (.bool false),.lit (.int .i64 0),.lit (.int .i64 0),.lit (.int .i64 0),.lit (.int .i64 0),.lit (.int .i64 0),.lit (.slice none 0 0),.im 4 [],.im 1 []],.struct [(0,25),(9,31)],false,false⟩
theorem ok121 : TypeOK Try.prog 121 ti121 := TypeOK.of (d := _) (z := .agg #[.int .i64 0,.bool false,.int .i64 0,.int .i64 0,.int .i64 0,.int .i64 0,.int .i64 0,.slice none 0 0,.slice none 0 0,.slice none 0 0]) Try.underlying121 (by kernel_rfl) ⟨_,rfl,rfl⟩ rfl rfl rfl rfl rfl rfl [none,none,none,none,none,none,none,none,some 4,some 1] rfl rfl (.inl rfl)
def ti122 : TI := ⟨1,false,8,[.nilFunc],[.lit (.nilFunc)],.other,false,false⟩
theorem ok122 : TypeOK Try.prog 122 ti122 := TypeOK.of (d := _) (z := .nilFunc) Try.underlying122 (by kernel_rfl) trivial rfl rfl rfl rfl rfl rfl [none] rfl rfl (.inl rfl)
def ti123 : TI := ⟨1,false,8,[.nilFunc],[.lit (.nilFunc)],.other,false,false⟩
theorem ok123 : TypeOK Try.prog 123 ti123 := TypeOK.of (d := _) (z := .nilFunc) Try.underlying123 (by kernel_rfl) trivial rfl rfl rfl rfl rfl rfl [none] rfl rfl (.inl rfl)
def ti124 : TI := ⟨1,false,8,[.nilFunc],[.lit (.nilFunc)],.other,false,false⟩
theorem ok124 : TypeOK Try.prog 124 ti124 := TypeOK.of (d := _) (z := .nilFunc) Try.underlying124 (by kernel_rfl) trivial rfl rfl rfl rfl rfl rfl [none] rfl rfl (.inl rfl)
def ti125 : TI := ⟨1,false,8,[.nilFunc],[.lit (.nilFunc)],.other,false,false⟩
theorem ok125 : TypeOK Try.prog 125 ti125 := TypeOK.of (d := _) (z := .nilFunc) Try.underlying125 (by kernel_rfl) trivial rfl rfl rfl rfl rfl rfl [none] rfl rfl (.inl rfl)
def ti126 : TI := ⟨1,false,8,[.nilFunc],[.lit (.nilFunc)],.other,false,false⟩
theorem ok126 : TypeOK Try.prog 126 ti126 := TypeOK.of (d := _) (z := .nilFunc) Try.underlying126 (by kernel_rfl) trivial rfl rfl rfl rfl rfl rfl [none] rfl rfl (.inl rfl)
def ti127 : TI := ⟨1,false,8,[.nilFunc],[.lit (.nilFunc)],.other,false,false⟩
theorem ok127 : TypeOK Try.prog 127 ti127 := TypeOK.of (d := _) (z := .nilFunc) Try.underlying127 (by kernel_rfl) trivial rfl rfl rfl rfl rfl rfl [none] rfl rfl (.inl rfl)
def ti128 : TI := ⟨1,false,8,[.nilFunc],[.lit (.nilFunc)],.other,false,false⟩
theorem ok128 : TypeOK Try.prog 128 ti128 := TypeOK.of (d := _) (z := .nilFunc) Try.underlying128 (by kernel_rfl) trivial rfl rfl rfl rfl rfl rfl [none] rfl rfl (.inl rfl)
def ti129 : TI := ⟨1,false,8,[.nilFunc],[.lit (.nilFunc)],.other,false,false⟩
theorem ok129 : TypeOK Try.prog 129 ti129 := TypeOK.of (d := _) (z := .nilFunc) Try.underlying129 (by kernel_rfl) trivial rfl rfl rfl rfl rfl rfl [none] rfl rfl (.inl rfl)
def ti130 : TI := ⟨7,true,72,[.int .i64 0,.int .i64 0,.int .i64 0,.int .i64 0,.int .i64 0,.int .i64 0,.slice none 0 0],[.lit (.int .i64 0),.lit (.int .i64 0),.lit (.int .i64 0),.lit (.int .i64 0),.lit (.int .i64 0),.lit (.int .i64 0),.im 1 []],.struct [(0,3),(1,3),(2,3),(3,3),(4,3),(5,3),(6,31)],false,false⟩
theorem ok130 : TypeOK Try.prog 130 ti130 := TypeOK.of (d := _) (z := .agg #[.int .i64 0,.int .i64 0,.int .i64 0,.int .i64 0,.int .i64 0,.int .i64 0,.slice none 0 0]) Try.underlying130 (by kernel_rfl) ⟨_,rfl,rfl⟩ rfl rfl rfl rfl rfl rfl [none,none,none,none,none,none,some 1] rfl rfl (.inl rfl)
def ti131 : TI := ⟨7,true,72,[.int .i64 0,.int .i64 0,.int .i64 0,.int .i64 0,.int .i64 0,.int .i64 0,.slice none 0 0],[.lit (.int .i64 0),.lit (.int .i64 0),.lit (.int .i64 0),.lit (.int .i64 0),.lit (.int .i64 0),.lit (.int .i64 0),.im 1 []],.struct [(0,3),(1,3),(2,3),(3,3),(4,3),(5,3),(6,31)],false,false⟩
theorem ok131 : TypeOK Try.prog 131 ti131 := TypeOK.of (d := _) (z := .agg #[.int .i64 0,.int .i64 0,.int .i64 0,.int .i64 0,.int .i64 0,.int .i64 0,.slice none 0 0]) Try.underlying131 (by kernel_rfl) ⟨_,rfl,rfl⟩ rfl rfl rfl rfl rfl rfl [none,none,none,none,none,none,some 1] rfl rfl (.inl rfl)
def ti133 : TI := ⟨1,false,8,[.nilFunc],[.lit (.nilFunc)],.other,false,false⟩
theorem ok133 : TypeOK Try.prog 133 ti133 := TypeOK.of (d := _) (z := .nilFunc) Try.underlying133 (by kernel_rfl) trivial rfl rfl rfl rfl rfl rfl [none] rfl rfl (.inl rfl)
def ti134 : TI := ⟨1,false,8,[.nilFunc],[.lit (.nilFunc)],.other,false,false⟩
theorem ok134 : TypeOK Try.prog 134 ti134 := TypeOK.of (d := _) (z := .nilFunc) Try.underlying134 (by kernel_rfl) trivial rfl rfl rfl rfl rfl rfl [none] rfl rfl (.inl rfl)
def ti135 : TI := ⟨1,false,24,[.slice none 0 0],[.lit (.slice none 0 0)],.slice 131,false,false⟩
theorem ok135 : TypeOK Try.prog 135 ti135 := TypeOK.of (d := _) (z := .slice none 0 0) Try.underlying135 (by kernel_rfl) rfl rfl rfl rfl rfl rfl rfl [none] rfl rfl (.inl rfl)
def ti136 : TI := ⟨2,true,48,[.slice none 0 0,.slice none 0 0],[.lit (.slice none 0 0),.lit (.slice none 0 0)],.struct [(0,135),(1,135)],false,false⟩
theorem ok136 : TypeOK Try.prog 136 ti136 := TypeOK.of (d := _) (z := .agg #[.slice none 0 0,.slice none 0 0]) Try.underlying136 (by kernel_rfl) ⟨_,rfl,rfl⟩ rfl rfl rfl rfl rfl rfl [none,none] rfl rfl (.inl rfl)
def ti137 : TI := ⟨2,true,48,[.slice none 0 0,.slice none 0 0],[.lit (.slice none 0 0),.lit (.slice none 0 0)],.struct [(0,135),(1,135)],false,false⟩
theorem ok137 : TypeOK Try.prog 137 ti137 := TypeOK.of (d := _) (z := .agg #[.slice none 0 0,.slice none 0 0]) Try.underlying137 (by kernel_rfl) ⟨_,rfl,rfl⟩ rfl rfl rfl rfl rfl rfl [none,none] rfl rfl (.inl rfl)
def ti138 : TI := ⟨1,false,8,[.nilFunc],[.lit (.nilFunc)],.other,false,false⟩
theorem ok138 : TypeOK Try.prog 138 ti138 := TypeOK.of (d := _) (z := .nilFunc) Try.underlying138 (by kernel_rfl) trivial rfl rfl rfl rfl rfl rfl [none] rfl rfl (.inl rfl)
def ti139 : TI := ⟨1,false,8,[.nilFunc],[.lit (.nilFunc)],.other,false,false⟩
theorem ok139 : TypeOK Try.prog 139 ti139 := TypeOK.of (d := _) (z := .nilFunc) Try.underlying139 (by kernel_rfl) trivial rfl rfl rfl rfl rfl rfl [none] rfl rfl (.inl rfl)
def ti141 : TI := ⟨1,false,8,[.nilFunc],[.lit (.nilFunc)],.other,false,false⟩
theorem ok141 : TypeOK Try.prog 141 ti141 := TypeOK.of (d := _) (z := .nilFunc) Try.underlying141 (by kernel_rfl) trivial rfl rfl rfl rfl rfl rfl [none] rfl rfl (.inl rfl)
def ti142 : TI := ⟨1,false,8,[.nilFunc],[.lit (.nilFunc)],.other,false,false⟩
theorem ok142 : TypeOK Try.prog 142 ti142 := TypeOK.of (d := _) (z := .nilFunc) Try.underlying142 (by kernel_rfl) trivial rfl rfl rfl rfl rfl rfl [none] rfl rfl (.inl rfl)
def ti144 : TI := ⟨1,false,8,[.nilFunc],[.lit (.nilFunc)],.other,false,false⟩
theorem ok144 : TypeOK Try.prog 144 ti144 := TypeOK.of (d := _) (z := .nilFunc) Try.underlying144 (by kernel_rfl) trivial rfl rfl rfl rfl rfl rfl [none] rfl rfl (.inl rfl)
def ti145 : TI := ⟨1,false,8,[.nilFunc],[.lit (.nilFunc)],.other,false,false⟩
theorem ok145 : TypeOK Try.prog 145 ti145 := TypeOK.of (d := _) (z := .nilFunc) Try.underlying145 (by kernel_rfl) trivial rfl rfl rfl rfl rfl rfl [none] rfl rfl (.inl rfl)
def ti146 : TI := ⟨1,false,8,[.nilFunc],[.lit (.nilFunc)],.other,false,false⟩
theorem ok146 : TypeOK Try.prog 146 ti146 := TypeOK.of (d := _) (z := .nilFunc) Try.underlying146 (by kernel_rfl) trivial rfl rfl rfl rfl rfl rfl [none] rfl rfl (.inl rfl)
def ti147 : TI := ⟨64,true,64,[.bool false,.bool false,.bool false,.bool false,.bool false,.bool false,.bool false,.bool false,.bool false,.bool false,.bool false,.bool false,.bool false,.bool false,.bool false,.bool false,.bool false,.bool false,.bool false,.bool false,.bool false,.bool false,.bool false,.bool false,.bool false,.bool false,.bool false,.bool false,.bool false,.bool false,.bool false,.bool false,.bool false,.bool false,.bool false,.bool false,.bool false,.bool false,.bool false,.bool false,.bool false,.bool false,.bool false,.bool false,.bool false,.bool false,.bool false,.bool false,.bool false,.bool false,.bool false,.bool false,.bool false,.bool false,.bool false,.bool false,.bool false,.bool false,.bool false,.bool false,.bool false,.bool false,.bool false,.bool false],[.lit (.bool false),.lit (.bool false),.lit (.bool false),.lit (.bool false),.lit (.bool false),.lit (.bool false),.lit (.bool false),.lit (.bool false),.lit (.bool false),.lit (.bool false),.lit (.bool false),.lit (.bool false),.lit (.bool false),.lit (.bool false),.lit (.bool false),.lit (.bool false),.lit (.bool false),.lit (.bool false),.lit (.bool false),.lit (.bool false),.lit (.bool false),.lit (.bool false),.lit (.bool false),.lit (.bool false),.lit (.bool false),.lit (.bool false),.lit (.bool false),.lit (.bool false),.lit (.bool false),.lit (.bool false),.lit (.bool false),.lit (.bool false),.lit (.bool false),.lit (.bool false),.lit (.bool false),.lit (.bool false),.lit (.bool false),.lit (.bool false),.lit (.bool false),.lit (.bool false),.lit (.bool false),.lit (.bool false),.lit (.bool false),.lit (.bool false),.lit (.bool false),.lit (.bool false),.lit (.bool false),.lit (.bool false),.lit (.bool false),.lit (.bool false),.lit (.bool false),.lit (.bool false),.lit (.bool false),.lit (.bool false),.lit (.bool false),.lit (.bool false),.lit (.bool false),.lit (.bool false),.lit (.bool false),.lit (.bool false),.lit (.bool false),.lit (.bool false),.lit (.bool false),.lit (.bool false)],.array 64 4,false,false⟩
theorem ok147 : TypeOK Try.prog 147 ti147 := TypeOK.of (d := _) (z := .agg #[.bool false,.bool false,.bool false,.bool false,.bool false,.bool false,.bool false,.bool false,.bool false,.bool false,.bool false,.bool false,.bool false,.bool false,.bool false,.bool false,.bool false,.bool false,.bool false,.bool false,.bool false,.bool false,.bool false,.bool false,.bool false,.bool false,.bool false,.bool false,.bool false,.bool false,.bool false,.bool false,.bool false,.bool false,.bool false,.bool false,.bool false,.bool false,.bool false,.bool false,.bool false,.bool false,.bool false,.bool false,.bool false,.bool false,.bool false,.bool false,.bool false,.bool false,.bool false,.bool false,.bool false,.bool false,.bool false,.bool false,.bool false,.bool false,.bool false,.bool false,.bool false,.bool false,.bool false,.bool false]) Try.underlying147 (by kernel_rfl) rfl rfl rfl rfl rfl rfl rfl [none,none,none,none,none,none,none,none,none,none,none,none,none,none,none,none,none,none,none,none,none,none,none,none,none,none,none,none,none,none,none,none,none,none,none,none,none,none,none,none,none,none,none,none,none,none,none,none,none,none,none,none,none,none,none,none,none,none,none,none,none,none,none,none] rfl rfl (.inl rfl)
def ti148 : TI := ⟨1,false,8,[.nilFunc],[.lit (.nilFunc)],.other,false,false⟩
theorem ok148 : TypeOK Try.prog 148 ti148 := TypeOK.of (d := _) (z := .nilFunc) Try.underlying148 (by kernel_rfl) trivial rfl rfl rfl rfl rfl rfl [none] rfl rfl (.inl rfl)
def ti149 : TI := ⟨1,false,8,[.nilFunc],[.lit (.nilFunc)],.other,false,false⟩
theorem ok149 : TypeOK Try.prog 149 ti149 := TypeOK.of (d := _) (z := .nilFunc) Try.underlying149 (by kernel_rfl) trivial rfl rfl rfl rfl rfl rfl [none] rfl rfl (.inl rfl)
def ti150 : TI := ⟨1,false,8,[.nilFunc],[.lit (.nilFunc)],.other,false,false⟩
theorem ok150 : TypeOK Try.prog 150 ti150 := TypeOK.of (d := _) (z := .nilFunc) Try.underlying150 (by kernel_rfl) trivial rfl rfl rfl rfl rfl rfl [none] rfl rfl (.inl rfl)
def ti151 : TI := ⟨1,false,8,[.nilFunc],[.lit (.nilFunc)],.other,false,false⟩
theorem ok151 : TypeOK Try.prog 151 ti151 := TypeOK.of (d := _) (z := .nilFunc) Try.underlying151 (by kernel_rfl) trivial rfl rfl rfl rfl rfl rfl [none] rfl rfl (.inl rfl)
def ti152 : TI := ⟨1,false,8,[.nilFunc],[.lit (.nilFunc)],.other,false,false⟩
theorem ok152 : TypeOK Try.prog 152 ti152 := TypeOK.of (d := _) (z := .nilFunc) Try.underlying152 (by kernel_rfl) trivial rfl rfl rfl rfl rfl rfl [none] rfl rfl (.inl rfl)
def ti153 : TI := ⟨1,false,8,[.pointer none],[.lit (.pointer none)],.other,false,false⟩
theorem ok153 : TypeOK Try.prog 153 ti153 := TypeOK.of (d := _) (z := .pointer none) Try.underlying153 (by kernel_rfl) trivial rfl rfl rfl rfl rfl rfl [none] rfl rfl (.inl rfl)
def ti154 : TI := ⟨4,true,32,[.bool false,.int .i64 0,.int .i64 0,.int .i64 0],[.lit (.bool false),.lit (.int .i64 0),.lit (.int .i64 0),.lit (.int .i64 0)],.struct [(0,91)],false,false⟩
theorem ok154 : TypeOK Try.prog 154 ti154 := TypeOK.of (d := _) (z := .agg #[.bool false,.int .i64 0,.int .i64 0,.int .i64 0]) Try.underlying154 (by kernel_rfl) ⟨_,rfl,rfl⟩ rfl rfl rfl rfl rfl rfl [none,none,none,none] rfl rfl (.inl rfl)
def ti155 : TI := ⟨4,true,32,[.bool false,.int .i64 0,.int .i64 0,.int .i64 0],[.lit (.bool false),.lit (.int .i64 0),.lit (.int .i64 0),.lit (.int .i64 0)],.struct [(0,91)],false,false⟩
theorem ok155 : TypeOK Try.prog 155 ti155 := TypeOK.of (d := _) (z := .agg #[.bool false,.int .i64 0,.int .i64 0,.int .i64 0]) Try.underlying155 (by kernel_rfl) ⟨_,rfl,rfl⟩ rfl rfl rfl rfl rfl rfl [none,none,none,none] rfl rfl (.inl rfl)
def ti157 : TI := ⟨1,false,8,[.nilFunc],[.lit (.nilFunc)],.other,false,false⟩
theorem ok157 : TypeOK Try.prog 157 ti157 := TypeOK.of (d := _) (z := .nilFunc) Try.underlying157 (by kernel_rfl) trivial rfl rfl rfl rfl rfl rfl [none] rfl rfl (.inl rfl)
def ti159 : TI := ⟨1,false,8,[.nilFunc],[.lit (.nilFunc)],.other,false,false⟩
theorem ok159 : TypeOK Try.prog 159 ti159 := TypeOK.of (d := _) (z := .nilFunc) Try.underlying159 (by kernel_rfl) trivial rfl rfl rfl rfl rfl rfl [none] rfl rfl (.inl rfl)
def ti160 : TI := ⟨4,true,32,[.int .i64 0,.int .i64 0,.int .i64 0,.int .i64 0],[.lit (.int .i64 0),.lit (.int .i64 0),.lit (.int .i64 0),.lit (.int .i64 0)],.struct [(0,3),(1,3),(2,3),(3,3)],false,true⟩
theorem ok160 : TypeOK Try.prog 160 ti160 := TypeOK.of (d := _) (z := .agg #[.int .i64 0,.int .i64 0,.int .i64 0,.int .i64 0]) Try.underlying160 (by kernel_rfl) ⟨_,rfl,rfl⟩ rfl rfl rfl rfl rfl rfl [none,none,none,none] rfl rfl (.inr (by kernel_rfl))
def ti161 : TI := ⟨4,true,32,[.int .i64 0,.int .i64 0,.int .i64 0,.int .i64 0],[.lit (.int .i64 0),.lit (.int .i64 0),.lit (.int .i64 0),.lit (.int .i64 0)],.struct [(0,3),(1,3),(2,3),(3,3)],false,true⟩
theorem ok161 : TypeOK Try.prog 161 ti161 := TypeOK.of (d := _) (z := .agg #[.int .i64 0,.int .i64 0,.int .i64 0,.int .i64 0]) Try.underlying161 (by kernel_rfl) ⟨_,rfl,rfl⟩ rfl rfl rfl rfl rfl rfl [none,none,none,none] rfl rfl (.inr (by kernel_rfl))
def ti162 : TI := ⟨1,false,8,[.nilFunc],[.lit (.nilFunc)],.other,false,false⟩
theorem ok162 : TypeOK Try.prog 162 ti162 := TypeOK.of (d := _) (z := .nilFunc) Try.underlying162 (by kernel_rfl) trivial rfl rfl rfl rfl rfl rfl [none] rfl rfl (.inl rfl)
def ti163 : TI := ⟨1,false,8,[.nilFunc],[.lit (.nilFunc)],.other,false,false⟩
theorem ok163 : TypeOK Try.prog 163 ti163 := TypeOK.of (d := _) (z := .nilFunc) Try.underlying163 (by kernel_rfl) trivial rfl rfl rfl rfl rfl rfl [none] rfl rfl (.inl rfl)
def ti164 : TI := ⟨1,false,8,[.nilFunc],[.lit (.nilFunc)],.other,false,false⟩
theorem ok164 : TypeOK Try.prog 164 ti164 := TypeOK.of (d := _) (z := .nilFunc) Try.underlying164 (by kernel_rfl) trivial rfl rfl rfl rfl rfl rfl [none] rfl rfl (.inl rfl)
def ti165 : TI := ⟨1,false,8,[.nilFunc],[.lit (.nilFunc)],.other,false,false⟩
theorem ok165 : TypeOK Try.prog 165 ti165 := TypeOK.of (d := _) (z := .nilFunc) Try.underlying165 (by kernel_rfl) trivial rfl rfl rfl rfl rfl rfl [none] rfl rfl (.inl rfl)
def ti166 : TI := ⟨1,false,8,[.pointer none],[.lit (.pointer none)],.other,false,false⟩
theorem ok166 : TypeOK Try.prog 166 ti166 := TypeOK.of (d := _) (z := .pointer none) Try.underlying166 (by kernel_rfl) trivial rfl rfl rfl rfl rfl rfl [none] rfl rfl (.inl rfl)
def ti167 : TI := ⟨1,true,8,[.pointer none],[.lit (.pointer none)],.struct [(0,166)],false,false⟩
theorem ok167 : TypeOK Try.prog 167 ti167 := TypeOK.of (d := _) (z := .agg #[.pointer none]) Try.underlying167 (by kernel_rfl) ⟨_,rfl,rfl⟩ rfl rfl rfl rfl rfl rfl [none] rfl rfl (.inl rfl)
def ti168 : TI := ⟨1,true,8,[.pointer none],[.lit (.pointer none)],.struct [(0,166)],false,false⟩
theorem ok168 : TypeOK Try.prog 168 ti168 := TypeOK.of (d := _) (z := .agg #[.pointer none]) Try.underlying168 (by kernel_rfl) ⟨_,rfl,rfl⟩ rfl rfl rfl rfl rfl rfl [none] rfl rfl (.inl rfl)
def ti169 : TI := ⟨1,false,8,[.nilFunc],[.lit (.nilFunc)],.other,false,false⟩
theorem ok169 : TypeOK Try.prog 169 ti169 := TypeOK.of (d := _) (z := .nilFunc) Try.underlying169 (by kernel_rfl) trivial rfl rfl rfl rfl rfl rfl [none] rfl rfl (.inl rfl)
def ti170 : TI := ⟨1,false,8,[.nilFunc],[.lit (.nilFunc)],.other,false,false⟩
theorem ok170 : TypeOK Try.prog 170 ti170 := TypeOK.of (d := _) (z := .nilFunc) Try.underlying170 (by kernel_rfl) trivial rfl rfl rfl rfl rfl rfl [none] rfl rfl (.inl rfl)
def ti171 : TI := ⟨1,false,8,[.int .i64 0],[.lit (.int .i64 0)],.int .i64,false,false⟩
theorem ok171 : TypeOK Try.prog 171 ti171 := TypeOK.of (d := _) (z := .int .i64 0) Try.underlying171 (by kernel_rfl) rfl rfl rfl rfl rfl rfl rfl [none] rfl rfl (.inl rfl)
def ti173 : TI := ⟨1,false,8,[.nilFunc],[.lit (.nilFunc)],.other,false,false⟩
theorem ok173 : TypeOK Try.prog 173 ti173 := TypeOK.of (d := _) (z := .nilFunc) Try.underlying173 (by kernel_rfl) trivial rfl rfl rfl rfl rfl rfl [none] rfl rfl (.inl rfl)
def ti174 : TI := ⟨2,true,16,[.int .i64 0,.nilFunc],[.lit (.int .i64 0),.lit (.nilFunc)],.struct [(0,3),(1,173)],false,false⟩
theorem ok174 : TypeOK Try.prog 174 ti174 := TypeOK.of (d := _) (z := .agg #[.int .i64 0,.nilFunc]) Try.underlying174 (by kernel_rfl) ⟨_,rfl,rfl⟩ rfl rfl rfl rfl rfl rfl [none,none] rfl rfl (.inl rfl)
def ti175 : TI := ⟨2,true,16,[.int .i64 0,.nilFunc],[.lit (.int .i64 0),.lit (.nilFunc)],.struct [(0,3),(1,173)],false,false⟩
theorem ok175 : TypeOK Try.prog 175 ti175 := TypeOK.of (d := _) (z := .agg #[.int .i64 0,.nilFunc]) Try.underlying175 (by kernel_rfl) ⟨_,rfl,rfl⟩ rfl rfl rfl rfl rfl rfl [none,none] rfl rfl (.inl rfl)
def ti176 : TI := ⟨1,false,8,[.nilFunc],[.lit (.nilFunc)],.other,false,false⟩
theorem ok176 : TypeOK Try.prog 176 ti176 := TypeOK.of (d := _) (z := .nilFunc) Try.underlying176 (by kernel_rfl) trivial rfl rfl rfl rfl rfl rfl [none] rfl rfl (.inl rfl)
def ti177 : TI := ⟨1,false,8,[.nilFunc],[.lit (.nilFunc)],.other,false,false⟩
theorem ok177 : TypeOK Try.prog 177 ti177 := TypeOK.of (d := _) (z := .nilFunc) Try.underlying177 (by kernel_rfl) trivial rfl rfl rfl rfl rfl rfl [none] rfl rfl (.inl rfl)
def ti178 : TI := ⟨1,false,8,[.nilFunc],[.lit (.nilFunc)],.other,false,false⟩
theorem ok178 : TypeOK Try.prog 178 ti178 := TypeOK.of (d := _) (z := .nilFunc) Try.underlying178 (by kernel_rfl) trivial rfl rfl rfl rfl rfl rfl [none] rfl rfl (.inl rfl)
def ti179 : TI := ⟨1,false,8,[.nilFunc],[.lit (.nilFunc)],.other,false,false⟩
theorem ok179 : TypeOK Try.prog 179 ti179 := TypeOK.of (d := _) (z := .nilFunc) Try.underlying179 (by kernel_rfl) trivial rfl rfl rfl rfl rfl rfl [none] rfl rfl (.inl rfl)
def ti180 : TI := ⟨1,false,8,[.pointer none],[.lit (.pointer none)],.other,false,false⟩
theorem ok180 : TypeOK Try.prog 180 ti180 := TypeOK.of (d := _) (z := .pointer none) Try.underlying180 (by kernel_rfl) trivial rfl rfl rfl rfl rfl rfl [none] rfl rfl (.inl rfl)
def ti181 : TI := ⟨1,false,8,[.pointer none],[.lit (.pointer none)],.other,false,false⟩
theorem ok181 : TypeOK Try.prog 181 ti181 := TypeOK.of (d := _) (z := .pointer none) Try.underlying181 (by kernel_rfl) trivial rfl rfl rfl rfl rfl rfl [none] rfl rfl (.inl rfl)
def ti182 : TI := ⟨10,true,96,[.int .i64 0,.int .i64 0,.slice none 0 0,.int .i64 0,.int .i64 0,.int .i64 0,.int .i64 0,.int .i64 0,.int .i64 0,.int .i64 0],[.lit (.int .i64 0),.lit (.int .i64 0),.im 1 [],.lit (.int .i64 0),.lit (.int .i64 0),.lit (.int .i64 0),.lit (.int .i64 0),.lit (.int .i64 0),.lit (.int .i64 0),.lit (.int .i64 0)],.struct [(0,80)],false,false⟩
theorem ok182 : TypeOK Try.prog 182 ti182 := TypeOK.of (d := _) (z := .agg #[.int .i64 0,.int .i64 0,.slice none 0 0,.int .i64 0,.int .i64 0,.int .i64 0,.int .i64 0,.int .i64 0,.int .i64 0,.int .i64 0]) Try.underlying182 (by kernel_rfl) ⟨_,rfl,rfl⟩ rfl rfl rfl rfl rfl rfl [none,none,some 1,none,none,none,none,none,none,none] rfl rfl (.inl rfl)
def ti183 : TI := ⟨10,true,96,[.int .i64 0,.int .i64 0,.slice none 0 0,.int .i64 0,.int .i64 0,.int .i64 0,.int .i64 0,.int .i64 0,.int .i64 0,.int .i64 0],[.lit (.int .i64 0),.lit (.int .i64 0),.im 1 [],.lit (.int .i64 0),.lit (.int .i64 0),.lit (.int .i64 0),.lit (.int .i64 0),.lit (.int .i64 0),.lit (.int .i64 0),.lit (.int .i64 0)],.struct [(0,80)],false,false⟩
theorem ok183 : TypeOK Try.prog 183 ti183 := TypeOK.of (d := _) (z := .agg #[.int .i64 0,.int .i64 0,.slice none 0 0,.int .i64 0,.int .i64 0,.int .i64 0,.int .i64 0,.int .i64 0,.int .i64 0,.int .i64 0]) Try.underlying183 (by kernel_rfl) ⟨_,rfl,rfl⟩ rfl rfl rfl rfl rfl rfl [none,none,some 1,none,none,none,none,none,none,none] rfl rfl (.inl rfl)
def ti184 : TI := ⟨1,false,8,[.nilFunc],[.lit (.nilFunc)],.other,false,false⟩
theorem ok184 : TypeOK Try.prog 184 ti184 := TypeOK.of (d := _) (z := .nilFunc) Try.underlying184 (by kernel_rfl) trivial rfl rfl rfl rfl rfl rfl [none] rfl rfl (.inl rfl)
def ti185 : TI := ⟨1,false,8,[.nilFunc],[.lit (.nilFunc)],.other,false,false⟩
theorem ok185 : TypeOK Try.prog 185 ti185 := TypeOK.of (d := _) (z := .nilFunc) Try.underlying185 (by kernel_rfl) trivial rfl rfl rfl rfl rfl rfl [none] rfl rfl (.inl rfl)
def ti186 : TI := ⟨1,false,8,[.map none],[.lit (.map none)],.map 3 184,false,false⟩
theorem ok186 : TypeOK Try.prog 186 ti186 := TypeOK.of (d := _) (z := .map none) Try.underlying186 (by kernel_rfl) rfl rfl rfl rfl rfl rfl rfl [none] rfl rfl (.inl rfl)
def ti187 : TI := ⟨8,true,80,[.int .i64 0,.int .i64 0,.int .i64 0,.int .i64 0,.int .i64 0,.int .i64 0,.slice none 0 0,.bool false],[.lit (.int .i64 0),.lit (.int .i64 0),.lit (.int .i64 0),.lit (.int .i64 0),.lit (.int .i64 0),.lit (.int .i64 0),.im 1 [],.lit (.bool false)],.struct [(0,131),(7,4)],false,false⟩
theorem ok187 : TypeOK Try.prog 187 ti187 := TypeOK.of (d := _) (z := .agg #[.int .i64 0,.int .i64 0,.int .i64 0,.int .i64 0,.int .i64 0,.int .i64 0,.slice none 0 0,.bool false]) Try.underlying187 (by kernel_rfl) ⟨_,rfl,rfl⟩ rfl rfl rfl rfl rfl rfl [none,none,none,none,none,none,some 1,none] rfl rfl (.inl rfl)
def ti188 : TI := ⟨8,true,80,[.int .i64 0,.int .i64 0,.int .i64 0,.int .i64 0,.int .i64 0,.int .i64 0,.slice none 0 0,.bool false],[.lit (.int .i64 0),.lit (.int .i64 0),.lit (.int .i64 0),.lit (.int .i64 0),.lit (.int .i64 0),.lit (.int .i64 0),.im 1 [],.lit (.bool false)],.struct [(0,131),(7,4)],false,false⟩
theorem ok188 : TypeOK Try.prog 188 ti188 := TypeOK.of (d := _) (z := .agg #[.int .i64 0,.int .i64 0,.int .i64 0,.int .i64 0,.int .i64 0,.int .i64 0,.slice none 0 0,.bool false]) Try.underlying188 (by kernel_rfl) ⟨_,rfl,rfl⟩ rfl rfl rfl rfl rfl rfl [none,none,none,none,none,none,some 1,none] rfl rfl (.inl rfl)
def ti190 : TI := ⟨1,false,8,[.nilFunc],[.lit (.nilFunc)],.other,false,false⟩
theorem ok190 : TypeOK Try.prog 190 ti190 := TypeOK.of (d := _) (z := .nilFunc) Try.underlying190 (by kernel_rfl) trivial rfl rfl rfl rfl rfl rfl [none] rfl rfl (.inl rfl)
def ti191 : TI := ⟨1,false,8,[.pointer none],[.lit (.pointer none)],.other,false,false⟩
theorem ok191 : TypeOK Try.prog 191 ti191 := TypeOK.of (d := _) (z := .pointer none) Try.underlying191 (by kernel_rfl) trivial rfl rfl rfl rfl rfl rfl [none] rfl rfl (.inl rfl)
def ti192 : TI := ⟨9,true,88,[.int .i64 0,.slice none 0 0,.int .i64 0,.int .i64 0,.int .i64 0,.int .i64 0,.int .i64 0,.int .i64 0,.int .i64 0],[.lit (.int .i64 0),.im 1 [],.lit (.int .i64 0),.lit (.int .i64 0),.lit (.int .i64 0),.lit (.int .i64 0),.lit (.int .i64 0),.lit (.int .i64 0),.lit (.int .i64 0)],.struct [(0,78)],false,false⟩
theorem ok192 : TypeOK Try.prog 192 ti192 := TypeOK.of (d := _) (z := .agg #[.int .i64 0,.slice none 0 0,.int .i64 0,.int .i64 0,.int .i64 0,.int .i64 0,.int .i64 0,.int .i64 0,.int .i64 0]) Try.underlying192 (by kernel_rfl) ⟨_,rfl,rfl⟩ rfl rfl rfl rfl rfl rfl [none,some 1,none,none,none,none,none,none,none] rfl rfl (.inl rfl)
def ti193 : TI := ⟨9,true,88,[.int .i64 0,.slice none 0 0,.int .i64 0,.int .i64 0,.int .i64 0,.int .i64 0,.int .i64 0,.int .i64 0,.int .i64 0],[.lit (.int .i64 0),.im 1 [],.lit (.int .i64 0),.lit (.int .i64 0),.lit (.int .i64 0),.lit (.int .i64 0),.lit (.int .i64 0),.lit (.int .i64 0),.lit (.int .i64 0)],.struct [(0,78)],false,false⟩
theorem ok193 : TypeOK Try.prog 193 ti193 := TypeOK.of (d := _) (z := .agg #[.int .i64 0,.slice none 0 0,.int .i64 0,.int .i64 0,.int .i64 0,.int .i64 0,.int .i64 0,.int .i64 0,.int .i64 0]) Try.underlying193 (by kernel_rfl) ⟨_,rfl,rfl⟩ rfl rfl rfl rfl rfl rfl [none,some 1,none,none,none,none,none,none,none] rfl rfl (.inl rfl)
def ti194 : TI := ⟨1,false,8,[.nilFunc],[.lit (.nilFunc)],.other,false,false⟩
theorem ok194 : TypeOK Try.prog 194 ti194 := TypeOK.of (d := _) (z := .nilFunc) Try.underlying194 (by kernel_rfl) trivial rfl rfl rfl rfl rfl rfl [none] rfl rfl (.inl rfl)
def ti195 : TI := ⟨1,true,8,[.nilFunc],[.lit (.nilFunc)],.struct [(0,194)],false,false⟩
theorem ok195 : TypeOK Try.prog 195 ti195 := TypeOK.of (d := _) (z := .agg #[.nilFunc]) Try.underlying195 (by kernel_rfl) ⟨_,rfl,rfl⟩ rfl rfl rfl rfl rfl rfl [none] rfl rfl (.inl rfl)
def ti196 : TI := ⟨1,true,8,[.nilFunc],[.lit (.nilFunc)],.struct [(0,194)],false,false⟩
theorem ok196 : TypeOK Try.prog 196 ti196 := TypeOK.of (d := _) (z := .agg #[.nilFunc]) Try.underlying196 (by kernel_rfl) ⟨_,rfl,rfl⟩ rfl rfl rfl rfl rfl rfl [none] rfl rfl (.inl rfl)
def ti197 : TI := ⟨3,true,24,[.nilFunc,.nilFunc,.nilFunc],[.lit (.nilFunc),.lit (.nilFunc),.lit (.nilFunc)],.array 3 196,false,false⟩
theorem ok197 : TypeOK Try.prog 197 ti197 := TypeOK.of (d := _) (z := .agg #[.nilFunc,.nilFunc,.nilFunc]) Try.underlying197 (by kernel_rfl) rfl rfl rfl rfl rfl rfl rfl [none,none,none] rfl rfl (.inl rfl)
def ti198 : TI := ⟨1,false,8,[.nilFunc],[.lit (.nilFunc)],.other,false,false⟩
theorem ok198 : TypeOK Try.prog 198 ti198 := TypeOK.of (d := _) (z := .nilFunc) Try.underlying198 (by kernel_rfl) trivial rfl rfl rfl rfl rfl rfl [none] rfl rfl (.inl rfl)
def ti199 : TI := ⟨1,false,8,[.nilFunc],[.lit (.nilFunc)],.other,false,false⟩
theorem ok199 : TypeOK Try.prog 199 ti199 := TypeOK.of (d := _) (z := .nilFunc) Try.underlying199 (by kernel_rfl) trivial rfl rfl rfl rfl rfl rfl [none] rfl rfl (.inl rfl)
def ti200 : TI := ⟨1,false,8,[.nilFunc],[.lit (.nilFunc)],.other,false,false⟩
theorem ok200 : TypeOK Try.prog 200 ti200 := TypeOK.of (d := _) (z := .nilFunc) Try.underlying200 (by kernel_rfl) trivial rfl rfl rfl rfl rfl rfl [none] rfl rfl (.inl rfl)
def ti201 : TI := ⟨1,false,8,[.nilFunc],[.lit (.nilFunc)],.other,false,false⟩
theorem ok201 : TypeOK Try.prog 201 ti201 := TypeOK.of (d := _) (z := .nilFunc) Try.underlying201 (by kernel_rfl) trivial rfl rfl rfl rfl rfl rfl [none] rfl rfl (.inl rfl)
def ti202 : TI := ⟨1,false,8,[.nilFunc],[.lit (.nilFunc)],.other,false,false⟩
theorem ok202 : TypeOK Try.prog 202 ti202 := TypeOK.of (d := _) (z := .nilFunc) Try.underlying202 (by kernel_rfl) trivial rfl rfl rfl rfl rfl rfl [none] rfl rfl (.inl rfl)
def ti203 : TI := ⟨1,false,8,[.nilFunc],[.lit (.nilFunc)],.other,false,false⟩
theorem ok203 : TypeOK Try.prog 203 ti203 := TypeOK.of (d := _) (z := .nilFunc) Try.underlying203 (by kernel_rfl) trivial rfl rfl rfl rfl rfl rfl [none] rfl rfl (.inl rfl)
def ti204 : TI := ⟨1,false,8,[.nilFunc],[.lit (.nilFunc)],.other,false,false⟩
theorem ok204 : TypeOK Try.prog 204 ti204 := TypeOK.of (d := _) (z := .nilFunc) Try.underlying204 (by kernel_rfl) trivial rfl rfl rfl rfl rfl rfl [none] rfl rfl (.inl rfl)
def ti205 : TI := ⟨1,false,8,[.nilFunc],[.lit (.nilFunc)],.other,false,false⟩
theorem ok205 : TypeOK Try.prog 205 ti205 := TypeOK.of (d := _) (z := .nilFunc) Try.underlying205 (by kernel_rfl) trivial rfl rfl rfl rfl rfl rfl [none] rfl rfl (.inl rfl)
def ti206 : TI := ⟨1,false,8,[.nilFunc],[.lit (.nilFunc)],.other,false,false⟩
theorem ok206 : TypeOK Try.prog 206 ti206 := TypeOK.of (d := _) (z := .nilFunc) Try.underlying206 (by kernel_rfl) trivial rfl rfl rfl rfl rfl rfl [none] rfl rfl (.inl rfl)
def ti208 : TI := ⟨1,false,8,[.map none],[.lit (.map none)],.map 5 175,false,false⟩
theorem ok208 : TypeOK Try.prog 208 ti208 := TypeOK.of (d := _) (z := .map none) Try.underlying208 (by kernel_rfl) rfl rfl rfl rfl rfl rfl rfl [none] rfl rfl (.inl rfl)
def ti209 : TI := ⟨1,false,8,[.nilFunc],[.lit (.nilFunc)],.other,false,false⟩
theorem ok209 : TypeOK Try.prog 209 ti209 := TypeOK.of (d := _) (z := .nilFunc) Try.underlying209 (by kernel_rfl) trivial rfl rfl rfl rfl rfl rfl [none] rfl rfl (.inl rfl)
def ti210 : TI := ⟨1,false,8,[.nilFunc],[.lit (.nilFunc)],.other,false,false⟩
theorem ok210 : TypeOK Try.prog 210 ti210 := TypeOK.of (d := _) (z := .nilFunc) Try.underlying210 (by kernel_rfl) trivial rfl rfl rfl rfl rfl rfl [none] rfl rfl (.inl rfl)
def ti211 : TI := ⟨1,false,8,[.nilFunc],[.lit (.nilFunc)],.other,false,false⟩
theorem ok211 : TypeOK Try.prog 211 ti211 := TypeOK.of (d := _) (z := .nilFunc) Try.underlying211 (by kernel_rfl) trivial rfl rfl rfl rfl rfl rfl [none] rfl rfl (.inl rfl)
def ti212 : TI := ⟨1,false,8,[.nilFunc],[.lit (.nilFunc)],.other,false,false⟩
theorem ok212 : TypeOK Try.prog 212 ti212 := TypeOK.of (d := _) (z := .nilFunc) Try.underlying212 (by kernel_rfl) trivial rfl rfl rfl rfl rfl rfl [none] rfl rfl (.inl rfl)
def ti213 : TI := ⟨1,false,8,[.nilFunc],[.lit (.nilFunc)],.other,false,false⟩
theorem ok213 : TypeOK Try.prog 213 ti213 := TypeOK.of (d := _) (z := .nilFunc) Try.underlying213 (by kernel_rfl) trivial rfl rfl rfl rfl rfl rfl [none] rfl rfl (.inl rfl)
def ti214 : TI := ⟨5,true,40,[.nilFunc,.nilFunc,.nilFunc,.nilFunc,.nilFunc],[.lit (.nilFunc),.lit (.nilFunc),.lit (.nilFunc),.lit (.nilFunc),.lit (.nilFunc)],.array 5 28,false,false⟩
theorem ok214 : TypeOK Try.prog 214 ti214 := TypeOK.of (d := _) (z := .agg #[.nilFunc,.nilFunc,.nilFunc,.nilFunc,.nilFunc]) Try.underlying214 (by kernel_rfl) rfl rfl rfl rfl rfl rfl rfl [none,none,none,none,none] rfl rfl (.inl rfl)
def ti215 : TI := ⟨1,false,8,[.pointer none],[.lit (.pointer none)],.other,false,false⟩
theorem ok215 : TypeOK Try.prog 215 ti215 := TypeOK.of (d := _) (z := .pointer none) Try.underlying215 (by kernel_rfl) trivial rfl rfl rfl rfl rfl rfl [none] rfl rfl (.inl rfl)
def ti216 : TI := ⟨3,true,24,[.int .i64 0,.int .i64 0,.int .i64 0],[.lit (.int .i64 0),.lit (.int .i64 0),.lit (.int .i64 0)],.struct [(0,3),(1,3),(2,3)],false,true⟩
theorem ok216 : TypeOK Try.prog 216 ti216 := TypeOK.of (d := _) (z := .agg #[.int .i64 0,.int .i64 0,.int .i64 0]) Try.underlying216 (by kernel_rfl) ⟨_,rfl,rfl⟩ rfl rfl rfl rfl rfl rfl [none,none,none] rfl rfl (.inr (by kernel_rfl))
def ti217 : TI := ⟨3,true,24,[.int .i64 0,.int .i64 0,.int .i64 0],[.lit (.int .i64 0),.lit (.int .i64 0),.lit (.int .i64 0)],.struct [(0,3),(1,3),(2,3)],false,true⟩
theorem ok217 : TypeOK Try.prog 217 ti217 := TypeOK.of (d := _) (z := .agg #[.int .i64 0,.int .i64 0,.int .i64 0]) Try.underlying217 (by kernel_rfl) ⟨_,rfl,rfl⟩ rfl rfl rfl rfl rfl rfl [none,none,none] rfl rfl (.inr (by kernel_rfl))
def ti218 : TI := ⟨1,false,8,[.nilFunc],[.lit (.nilFunc)],.other,false,false⟩
theorem ok218 : TypeOK Try.prog 218 ti218 := TypeOK.of (d := _) (z := .nilFunc) Try.underlying218 (by kernel_rfl) trivial rfl rfl rfl rfl rfl rfl [none] rfl rfl (.inl rfl)
def ti219 : TI := ⟨1,false,8,[.nilFunc],[.lit (.nilFunc)],.other,false,false⟩
theorem ok219 : TypeOK Try.prog 219 ti219 := TypeOK.of (d := _) (z := .nilFunc) Try.underlying219 (by kernel_rfl) trivial rfl rfl rfl rfl rfl rfl [none] rfl rfl (.inl rfl)
def ti220 : TI := ⟨1,false,8,[.nilFunc],[.lit (.nilFunc)],.other,false,false⟩
theorem ok220 : TypeOK Try.prog 220 ti220 := TypeOK.of (d := _) (z := .nilFunc) Try.underlying220 (by kernel_rfl) trivial rfl rfl rfl rfl rfl rfl [none] rfl rfl (.inl rfl)
def ti221 : TI := ⟨1,false,8,[.nilFunc],[.lit (.nilFunc)],.other,false,false⟩
theorem ok221 : TypeOK Try.prog 221 ti221 := TypeOK.of (d := _) (z := .nilFunc) Try.underlying221 (by kernel_rfl) trivial rfl rfl rfl rfl rfl rfl [none] rfl rfl (.inl rfl)
def ti222 : TI := ⟨1,false,8,[.nilFunc],[.lit (.nilFunc)],.other,false,false⟩
theorem ok222 : TypeOK Try.prog 222 ti222 := TypeOK.of (d := _) (z := .nilFunc) Try.underlying222 (by kernel_rfl) trivial rfl rfl rfl rfl rfl rfl [none] rfl rfl (.inl rfl)
def ti223 : TI := ⟨1,false,8,[.nilFunc],[.lit (.nilFunc)],.other,false,false⟩
theorem ok223 : TypeOK Try.prog 223 ti223 := TypeOK.of (d := _) (z := .nilFunc) Try.underlying223 (by kernel_rfl) trivial rfl rfl rfl rfl rfl rfl [none] rfl rfl (.inl rfl)
def ti224 : TI := ⟨1,false,8,[.nilFunc],[.lit (.nilFunc)],.other,false,false⟩
theorem ok224 : TypeOK Try.prog 224 ti224 := TypeOK.of (d := _) (z := .nilFunc) Try.underlying224 (by kernel_rfl) trivial rfl rfl rfl rfl rfl rfl [none] rfl rfl (.inl rfl)
def ti225 : TI := ⟨4,true,40,[.pointer none,.pointer none,.pointer none,.string ⟨#[]⟩],[.lit (.pointer none),.lit (.pointer none),.lit (.pointer none),.lit (.string ⟨#[]⟩)],.struct [(0,17),(1,17),(2,17),(3,9)],false,false⟩
theorem ok225 : TypeOK Try.prog 225 ti225 := TypeOK.of (d := _) (z := .agg #[.pointer none,.pointer none,.pointer none,.string ⟨#[]⟩]) Try.underlying225 (by kernel_rfl) ⟨_,rfl,rfl⟩ rfl rfl rfl rfl rfl rfl [none,none,none,none] rfl rfl (.inl rfl)
def ti226 : TI := ⟨4,true,40,[.pointer none,.pointer none,.pointer none,.string ⟨#[]⟩],[.lit (.pointer none),.lit (.pointer none),.lit (.pointer none),.lit (.string ⟨#[]⟩)],.struct [(0,17),(1,17),(2,17),(3,9)],false,false⟩
theorem ok226 : TypeOK Try.prog 226 ti226 := TypeOK.of (d := _) (z := .agg #[.pointer none,.pointer none,.pointer none,.string ⟨#[]⟩]) Try.underlying226 (by kernel_rfl) ⟨_,rfl,rfl⟩ rfl rfl rfl rfl rfl rfl [none,none,none,none] rfl rfl (.inl rfl)
def ti227 : TI := ⟨0,true,0,[],[],.array 0 16,false,false⟩
theorem ok227 : TypeOK Try.prog 227 ti227 := TypeOK.of (d := _) (z := .agg #[]) Try.underlying227 (by kernel_rfl) rfl rfl rfl rfl rfl rfl rfl [] rfl rfl (.inl rfl)
def ti228 : TI := ⟨0,true,0,[],[],.struct [(0,227)],false,false⟩
theorem ok228 : TypeOK Try.prog 228 ti228 := TypeOK.of (d := _) (z := .agg #[]) Try.underlying228 (by kernel_rfl) ⟨_,rfl,rfl⟩ rfl rfl rfl rfl rfl rfl [] rfl rfl (.inl rfl)
def ti229 : TI := ⟨0,true,0,[],[],.struct [(0,227)],false,false⟩
theorem ok229 : TypeOK Try.prog 229 ti229 := TypeOK.of (d := _) (z := .agg #[]) Try.underlying229 (by kernel_rfl) ⟨_,rfl,rfl⟩ rfl rfl rfl rfl rfl rfl [] rfl rfl (.inl rfl)
def ti230 : TI := ⟨1,false,1,[.int .u8 0],[.lit (.int .u8 0)],.int .u8,false,false⟩
theorem ok230 : TypeOK Try.prog 230 ti230 := TypeOK.of (d := _) (z := .int .u8 0) Try.underlying230 (by kernel_rfl) rfl rfl rfl rfl rfl rfl rfl [none] rfl rfl (.inl rfl)
def ti231 : TI := ⟨1,false,1,[.int .u8 0],[.lit (.int .u8 0)],.int .u8,false,false⟩
theorem ok231 : TypeOK Try.prog 231 ti231 := TypeOK.of (d := _) (z := .int .u8 0) Try.underlying231 (by kernel_rfl) rfl rfl rfl rfl rfl rfl rfl [none] rfl rfl (.inl rfl)
def ti232 : TI := ⟨1,false,8,[.nilFunc],[.lit (.nilFunc)],.other,false,false⟩
theorem ok232 : TypeOK Try.prog 232 ti232 := TypeOK.of (d := _) (z := .nilFunc) Try.underlying232 (by kernel_rfl) trivial rfl rfl rfl rfl rfl rfl [none] rfl rfl (.inl rfl)
def ti233 : TI := ⟨1,false,8,[.pointer none],[.lit (.pointer none)],.other,false,false⟩
theorem ok233 : TypeOK Try.prog 233 ti233 := TypeOK.of (d := _) (z := .pointer none) Try.underlying233 (by kernel_rfl) trivial rfl rfl rfl rfl rfl rfl [none] rfl rfl (.inl rfl)
def ti234 : TI := ⟨1,false,4,[.int .i32 0],[.lit (.int .i32 0)],.int .i32,false,false⟩
theorem ok234 : TypeOK Try.prog 234 ti234 := TypeOK.of (d := _) (z := .int .i32 0) Try.underlying234 (by kernel_rfl) rfl rfl rfl rfl rfl rfl rfl [none] rfl rfl (.inl rfl)
def ti235 : TI := ⟨1,false,4,[.int .i32 0],[.lit (.int .i32 0)],.int .i32,false,false⟩
theorem ok235 : TypeOK Try.prog 235 ti235 := TypeOK.of (d := _) (z := .int .i32 0) Try.underlying235 (by kernel_rfl) rfl rfl rfl rfl rfl rfl rfl [none] rfl rfl (.inl rfl)
def ti236 : TI := ⟨11,true,48,[.int .u64 0,.int .u64 0,.int .u32 0,.int .u8 0,.int .u8 0,.int .u8 0,.int .u8 0,.nilFunc,.pointer none,.int .i32 0,.int .i32 0],[.lit (.int .u64 0),.lit (.int .u64 0),.lit (.int .u32 0),.lit (.int .u8 0),.lit (.int .u8 0),.lit (.int .u8 0),.lit (.int .u8 0),.lit (.nilFunc),.lit (.pointer none),.lit (.int .i32 0),.lit (.int .i32 0)],.struct [(0,12),(1,12),(2,50),(3,230),(4,5),(5,5),(6,231),(7,232),(8,233),(9,234),(10,235)],false,false⟩
theorem ok236 : TypeOK Try.prog 236 ti236 := TypeOK.of (d := _) (z := .agg #[.int .u64 0,.int .u64 0,.int .u32 0,.int .u8 0,.int .u8 0,.int .u8 0,.int .u8 0,.nilFunc,.pointer none,.int .i32 0,.int .i32 0]) Try.underlying236 (by kernel_rfl) ⟨_,rfl,rfl⟩ rfl rfl rfl rfl rfl rfl [none,none,none,none,none,none,none,none,none,none,none] rfl rfl (.inl rfl)
def ti237 : TI := ⟨11,true,48,[.int .u64 0,.int .u64 0,.int .u32 0,.int .u8 0,.int .u8 0,.int .u8 0,.int .u8 0,.nilFunc,.pointer none,.int .i32 0,.int .i32 0],[.lit (.int .u64 0),.lit (.int .u64 0),.lit (.int .u32 0),.lit (.int .u8 0),.lit (.int .u8 0),.lit (.int .u8 0),.lit (.int .u8 0),.lit (.nilFunc),.lit (.pointer none),.lit (.int .i32 0),.lit (.int .i32 0)],.struct [(0,12),(1,12),(2,50),(3,230),(4,5),(5,5),(6,231),(7,232),(8,233),(9,234),(10,235)],false,false⟩
theorem ok237 : TypeOK Try.prog 237 ti237 := TypeOK.of (d := _) (z := .agg #[.int .u64 0,.int .u64 0,.int .u32 0,.int .u8 0,.int .u8 0,.int .u8 0,.int .u8 0,.nilFunc,.pointer none,.int .i32 0,.int .i32 0]) Try.underlying237 (by kernel_rfl) ⟨_,rfl,rfl⟩ rfl rfl rfl rfl rfl rfl [none,none,none,none,none,none,none,none,none,none,none] rfl rfl (.inl rfl)
def tab : Tab := fun
  | 1 => some ti1
  | 2 => some ti2
  | 3 => some ti3
  | 4 => some ti4
  | 5 => some ti5
  | 6 => some ti6
  | 7 => some ti7
  | 8 => some ti8
  | 9 => some ti9
  | 10 => some ti10
  | 11 => some ti11
  | 12 => some ti12
  | 13 => some ti13
  | 14 => some ti14
  | 15 => some ti15
  | 16 => some ti16
  | 17 => some ti17
  | 18 => some ti18
  | 19 => some ti19
  | 20 => some ti20
  | 21 => some ti21
  | 22 => some ti22
  | 23 => some ti23
  | 24 => some ti24
  | 25 => some ti25
  | 26 => some ti26
  | 27 => some ti27
  | 28 => some ti28
  | 29 => some ti29
  | 30 => some ti30
  | 31 => some ti31
  | 32 => some ti32
  | 33 => some ti33
  | 34 => some ti34
  | 35 => some ti35
  | 36 => some ti36
  | 37 => some ti37
  | 38 => some ti38
  | 39 => some ti39
  | 40 => some ti40
  | 42 => some ti42
  | 43 => some ti43
  | 44 => some ti44
  | 45 => some ti45
  | 46 => some ti46
  | 47 => some ti47
  | 48 => some ti48
  | 49 => some ti49
  | 50 => some ti50
  | 51 => some ti51
  | 52 => some ti52
  | 53 => some ti53
  | 54 => some ti54
  | 55 => some ti55
  | 56 => some ti56
  | 57 => some ti57
  | 58 => some ti58
  | 60 => some ti60
  | 61 => some ti61
  | 62 => some ti62
  | 63 => some ti63
  | 64 => some ti64
  | 65 => some ti65
  | 66 => some ti66
  | 68 => some ti68
  | 69 => some ti69
  | 70 => some ti70
  | 71 => some ti71
  | 72 => some ti72
  | 73 => some ti73
  | 74 => some ti74
  | 75 => some ti75
  | 76 => some ti76
  | 77 => some ti77
  | 78 => some ti78
  | 79 => some ti79
  | 80 => some ti80
  | 82 => some ti82
  | 83 => some ti83
  | 84 => some ti84
  | 85 => some ti85
  | 86 => some ti86
  | 87 => some ti87
  | 88 => some ti88
  | 89 => some ti89
  | 90 => some ti90
  | 91 => some ti91
  | 93 => some ti93
  | 94 => some ti94
  | 96 => some ti96
  | 97 => some ti97
  | 98 => some ti98
  | 99 => some ti99
  | 101 => some ti101
  | 102 => some ti102
  | 104 => some ti104
  | 105 => some ti105
  | 106 => some ti106
  | 107 => some ti107
  | 108 => some ti108
  | 109 => some ti109
  | 110 => some ti110
  | 111 => some ti111
  | 112 => some ti112
  | 113 => some ti113
  | 114 => some ti114
  | 115 => some ti115
  | 116 => some ti116
  | 117 => some ti117
  | 118 => some ti118
  | 119 => some ti119
  | 120 => some ti120
  | 121 => some ti121
  | 122 => some ti122
  | 123 => some ti123
  | 124 => some ti124
  | 125 => some ti125
  | 126 => some ti126
  | 127 => some ti127
  | 128 => some ti128
  | 129 => some ti129
  | 130 => some ti130
  | 131 => some ti131
  | 133 => some ti133
  | 134 => some ti134
  | 135 => some ti135
  | 136 => some ti136
  | 137 => some ti137
  | 138 => some ti138
  | 139 => some ti139
  | 141 => some ti141
  | 142 => some ti142
  | 144 => some ti144
  | 145 => some ti145
  | 146 => some ti146
  | 147 => some ti147
  | 148 => some ti148
  | 149 => some ti149
  | 150 => some ti150
  | 151 => some ti151
  | 152 => some ti152
  | 153 => some ti153
  | 154 => some ti154
  | 155 => some ti155
  | 157 => some ti157
  | 159 => some ti159
  | 160 => some ti160
  | 161 => some ti161
  | 162 => some ti162
  | 163 => some ti163
  | 164 => some ti164
  | 165 => some ti165
  | 166 => some ti166
  | 167 => some ti167
  | 168 => some ti168
  | 169 => some ti169
  | 170 => some ti170
  | 171 => some ti171
  | 173 => some ti173
  | 174 => some ti174
  | 175 => some ti175
  | 176 => some ti176
  | 177 => some ti177
  | 178 => some ti178
  | 179 => some ti179
  | 180 => some ti180
  | 181 => some ti181
  | 182 => some ti182
  | 183 => some ti183
  | 184 => some ti184
  | 185 => some ti185
  | 186 => some ti186
  | 187 => some ti187
  | 188 => some ti188
  | 190 => some ti190
  | 191 => some ti191
  | 192 => some ti192
  | 193 => some ti193
  | 194 => some ti194
  | 195 => some ti195
  | 196 => some ti196
  | 197 => some ti197
  | 198 => some ti198
  | 199 => some ti199
  | 200 => some ti200
  | 201 => some ti201
  | 202 => some ti202
  | 203 => some ti203
  | 204 => some ti204
  | 205 => some ti205
  | 206 => some ti206
  | 208 => some ti208
  | 209 => some ti209
  | 210 => some ti210
  | 211 => some ti211
  | 212 => some ti212
  | 213 => some ti213
  | 214 => some ti214
  | 215 => some ti215
  | 216 => some ti216
  | 217 => some ti217
  | 218 => some ti218
  | 219 => some ti219
  | 220 => some ti220
  | 221 => some ti221
  | 222 => some ti222
  | 223 => some ti223
  | 224 => some ti224
  | 225 => some ti225
  | 226 => some ti226
  | 227 => some ti227
  | 228 => some ti228
  | 229 => some ti229
  | 230 => some ti230
  | 231 => some ti231
  | 232 => some ti232
  | 233 => some ti233
  | 234 => some ti234
  | 235 => some ti235
  | 236 => some ti236
  | 237 => some ti237
  | _ => none
theorem tabOK : TabOK Try.prog tab := by
  intro t ti h
  unfold tab at h
  split at h <;> first | (cases h; done) | (simp only [Option.some.injEq] at h; subst h; first | exact ok1 | exact ok2 | exact ok3 | exact ok4 | exact ok5 | exact ok6 | exact ok7 | exact ok8 | exact ok9 | exact ok10 | exact ok11 | exact ok12 | exact ok13 | exact ok14 | exact ok15 | exact ok16 | exact ok17 | exact ok18 | exact ok19 | exact ok20 | exact ok21 | exact ok22 | exact ok23 | exact ok24 | exact ok25 | exact ok26 | exact ok27 | exact ok28 | exact ok29 | exact ok30 | exact ok31 | exact ok32 | exact ok33 | exact ok34 | exact ok35 | exact ok36 | exact ok37 | exact ok38 | exact ok39 | exact ok40 | exact ok42 | exact ok43 | exact ok44 | exact ok45 | exact ok46 | exact ok47 | exact ok48 | exact ok49 | exact ok50 | exact ok51 | exact ok52 | exact ok53 | exact ok54 | exact ok55 | exact ok56 | exact ok57 | exact ok58 | exact ok60 | exact ok61 | exact ok62 | exact ok63 | exact ok64 | exact ok65 | exact ok66 | exact ok68 | exact ok69 | exact ok70 | exact ok71 | exact ok72 | exact ok73 | exact ok74 | exact ok75 | exact ok76 | exact ok77 | exact ok78 | exact ok79 | exact ok80 | exact ok82 | exact ok83 | exact ok84 | exact ok85 | exact ok86 | exact ok87 | exact ok88 | exact ok89 | exact ok90 | exact ok91 | exact ok93 | exact ok94 | exact ok96 | exact ok97 | exact ok98 | exact ok99 | exact ok101 | exact ok102 | exact ok104 | exact ok105 | exact ok106 | exact ok107 | exact ok108 | exact ok109 | exact ok110 | exact ok111 | exact ok112 | exact ok113 | exact ok114 | exact ok115 | exact ok116 | exact ok117 | exact ok118 | exact ok119 | exact ok120 | exact ok121 | exact ok122 | exact ok123 | exact ok124 | exact ok125 | exact ok126 | exact ok127 | exact ok128 | exact ok129 | exact ok130 | exact ok131 | exact ok133 | exact ok134 | exact ok135 | exact ok136 | exact ok137 | exact ok138 | exact ok139 | exact ok141 | exact ok142 | exact ok144 | exact ok145 | exact ok146 | exact ok147 | exact ok148 | exact ok149 | exact ok150 | exact ok151 | exact ok152 | exact ok153 | exact ok154 | exact ok155 | exact ok157 | exact ok159 | exact ok160 | exact ok161 | exact ok162 | exact ok163 | exact ok164 | exact ok165 | exact ok166 | exact ok167 | exact ok168 | exact ok169 | exact ok170 | exact ok171 | exact ok173 | exact ok174 | exact ok175 | exact ok176 | exact ok177 | exact ok178 | exact ok179 | exact ok180 | exact ok181 | exact ok182 | exact ok183 | exact ok184 | exact ok185 | exact ok186 | exact ok187 | exact ok188 | exact ok190 | exact ok191 | exact ok192 | exact ok193 | exact ok194 | exact ok195 | exact ok196 | exact ok197 | exact ok198 | exact ok199 | exact ok200 | exact ok201 | exact ok202 | exact ok203 | exact ok204 | exact ok205 | exact ok206 | exact ok208 | exact ok209 | exact ok210 | exact ok211 | exact ok212 | exact ok213 | exact ok214 | exact ok215 | exact ok216 | exact ok217 | exact ok218 | exact ok219 | exact ok220 | exact ok221 | exact ok222 | exact ok223 | exact ok224 | exact ok225 | exact ok226 | exact ok227 | exact ok228 | exact ok229 | exact ok230 | exact ok231 | exact ok232 | exact ok233 | exact ok234 | exact ok235 | exact ok236 | exact ok237)
theorem tab1 : tab 1 = some ti1 := rfl
theorem tab2 : tab 2 = some ti2 := rfl
theorem tab3 : tab 3 = some ti3 := rfl
theorem tab4 : tab 4 = some ti4 := rfl
theorem tab5 : tab 5 = some ti5 := rfl
theorem tab6 : tab 6 = some ti6 := rfl
theorem tab7 : tab 7 = some ti7 := rfl
theorem tab8 : tab 8 = some ti8 := rfl
theorem tab9 : tab 9 = some ti9 := rfl
theorem tab10 : tab 10 = some ti10 := rfl
theorem tab11 : tab 11 = some ti11 := rfl
theorem tab12 : tab 12 = some ti12 := rfl
theorem tab13 : tab 13 = some ti13 := rfl
theorem tab14 : tab 14 = some ti14 := rfl
theorem tab15 : tab 15 = some ti15 := rfl
theorem tab16 : tab 16 = some ti16 := rfl
theorem tab17 : tab 17 = some ti17 := rfl
theorem tab18 : tab 18 = some ti18 := rfl
theorem tab19 : tab 19 = some ti19 := rfl
theorem tab20 : tab 20 = some ti20 := rfl
theorem tab21 : tab 21 = some ti21 := rfl
theorem tab22 : tab 22 = some ti22 := rfl
theorem tab23 : tab 23 = some ti23 := rfl
theorem tab24 : tab 24 = some ti24 := rfl
theorem tab25 : tab 25 = some ti25 := rfl
theorem tab26 : tab 26 = some ti26 := rfl
theorem tab27 : tab 27 = some ti27 := rfl
theorem tab28 : tab 28 = some ti28 := rfl
theorem tab29 : tab 29 = some ti29 := rfl
theorem tab30 : tab 30 = some ti30 := rfl
theorem tab31 : tab 31 = some ti31 := rfl
theorem tab32 : tab 32 = some ti32 := rfl
theorem tab33 : tab 33 = some ti33 := rfl
theorem tab34 : tab 34 = some ti34 := rfl
theorem tab35 : tab 35 = some ti35 := rfl
theorem tab36 : tab 36 = some ti36 := rfl
theorem tab37 : tab 37 = some ti37 := rfl
theorem tab38 : tab 38 = some ti38 := rfl
theorem tab39 : tab 39 = some ti39 := rfl
theorem tab40 : tab 40 = some ti40 := rfl
theorem tab42 : tab 42 = some ti42 := rfl
theorem tab43 : tab 43 = some ti43 := rfl
theorem tab44 : tab 44 = some ti44 := rfl
theorem tab45 : tab 45 = some ti45 := rfl
theorem tab46 : tab 46 = some ti46 := rfl
theorem tab47 : tab 47 = some ti47 := rfl
theorem tab48 : tab 48 = some ti48 := rfl
theorem tab49 : tab 49 = some ti49 := rfl
theorem tab50 : tab 50 = some ti50 := rfl
theorem tab51 : tab 51 = some ti51 := rfl
theorem tab52 : tab 52 = some ti52 := rfl
theorem tab53 : tab 53 = some ti53 := rfl
theorem tab54 : tab 54 = some ti54 := rfl
theorem tab55 : tab 55 = some ti55 := rfl
theorem tab56 : tab 56 = some ti56 := rfl
theorem tab57 : tab 57 = some ti57 := rfl
theorem tab58 : tab 58 = some ti58 := rfl
theorem tab60 : tab 60 = some ti60 := rfl
theorem tab61 : tab 61 = some ti61 := rfl
theorem tab62 : tab 62 = some ti62 := rfl
theorem tab63 : tab 63 = some ti63 := rfl
theorem tab64 : tab 64 = some ti64 := rfl
theorem tab65 : tab 65 = some ti65 := rfl
theorem tab66 : tab 66 = some ti66 := rfl
theorem tab68 : tab 68 = some ti68 := rfl
theorem tab69 : tab 69 = some ti69 := rfl
theorem tab70 : tab 70 = some ti70 := rfl
theorem tab71 : tab 71 = some ti71 := rfl
theorem tab72 : tab 72 = some ti72 := rfl
theorem tab73 : tab 73 = some ti73 := rfl
theorem tab74 : tab 74 = some ti74 := rfl
theorem tab75 : tab 75 = some ti75 := rfl
theorem tab76 : tab 76 = some ti76 := rfl
theorem tab77 : tab 77 = some ti77 := rfl
theorem tab78 : tab 78 = some ti78 := rfl
theorem tab79 : tab 79 = some ti79 := rfl
theorem tab80 : tab 80 = some ti80 := rfl
theorem tab82 : tab 82 = some ti82 := rfl
theorem tab83 : tab 83 = some ti83 := rfl
theorem tab84 : tab 84 = some ti84 := rfl
theorem tab85 : tab 85 = some ti85 := rfl
theorem tab86 : tab 86 = some ti86 := rfl
theorem tab87 : tab 87 = some ti87 := rfl
theorem tab88 : tab 88 = some ti88 := rfl
theorem tab89 : tab 89 = some ti89 := rfl
theorem tab90 : tab 90 = some ti90 := rfl
theorem tab91 : tab 91 = some ti91 := rfl
theorem tab93 : tab 93 = some ti93 := rfl
theorem tab94 : tab 94 = some ti94 := rfl
theorem tab96 : tab 96 = some ti96 := rfl
theorem tab97 : tab 97 = some ti97 := rfl
theorem tab98 : tab 98 = some ti98 := rfl
theorem tab99 : tab 99 = some ti99 := rfl
theorem tab101 : tab 101 = some ti101 := rfl
theorem tab102 : tab 102 = some ti102 := rfl
theorem tab104 : tab 104 = some ti104 := rfl
theorem tab105 : tab 105 = some ti105 := rfl
theorem tab106 : tab 106 = some ti106 := rfl
theorem tab107 : tab 107 = some ti107 := rfl
theorem tab108 : tab 108 = some ti108 := rfl
theorem tab109 : tab 109 = some ti109 := rfl
theorem tab110 : tab 110 = some ti110 := rfl
theorem tab111 : tab 111 = some ti111 := rfl
theorem tab112 : tab 112 = some ti112 := rfl
theorem tab113 : tab 113 = some ti113 := rfl
theorem tab114 : tab 114 = some ti114 := rfl
theorem tab115 : tab 115 = some ti115 := rfl
theorem tab116 : tab 116 = some ti116 := rfl
theorem tab117 : tab 117 = some ti117 := rfl
theorem tab118 : tab 118 = some ti118 := rfl
theorem tab119 : tab 119 = some ti119 := rfl
theorem tab120 : tab 120 = some ti120 := rfl
theorem tab121 : tab 121 = some ti121 := rfl
theorem tab122 : tab 122 = some ti122 := rfl
theorem tab123 : tab 123 = some ti123 := rfl
theorem tab124 : tab 124 = some ti124 := rfl
theorem tab125 : tab 125 = some ti125 := rfl
theorem tab126 : tab 126 = some ti126 := rfl
theorem tab127 : tab 127 = some ti127 := rfl
theorem tab128 : tab 128 = some ti128 := rfl
theorem tab129 : tab 129 = some ti129 := rfl
theorem tab130 : tab 130 = some ti130 := rfl
theorem tab131 : tab 131 = some ti131 := rfl
theorem tab133 : tab 133 = some ti133 := rfl
theorem tab134 : tab 134 = some ti134 := rfl
theorem tab135 : tab 135 = some ti135 := rfl
theorem tab136 : tab 136 = some ti136 := rfl
theorem tab137 : tab 137 = some ti137 := rfl
theorem tab138 : tab 138 = some ti138 := rfl
theorem tab139 : tab 139 = some ti139 := rfl
theorem tab141 : tab 141 = some ti141 := rfl
theorem tab142 : tab 142 = some ti142 := rfl
theorem tab144 : tab 144 = some ti144 := rfl
theorem tab145 : tab 145 = some ti145 := rfl
theorem tab146 : tab 146 = some ti146 := rfl
theorem tab147 : tab 147 = some ti147 := rfl
theorem tab148 : tab 148 = some ti148 := rfl
theorem tab149 : tab 149 = some ti149 := rfl
theorem tab150 : tab 150 = some ti150 := rfl
theorem tab151 : tab 151 = some ti151 := rfl
theorem tab152 : tab 152 = some ti152 := rfl
theorem tab153 : tab 153 = some ti153 := rfl
theorem tab154 : tab 154 = some ti154 := rfl
theorem tab155 : tab 155 = some ti155 := rfl
theorem tab157 : tab 157 = some ti157 := rfl
theorem tab159 : tab 159 = some ti159 := rfl
theorem tab160 : tab 160 = some ti160 := rfl
theorem tab161 : tab 161 = some ti161 := rfl
theorem tab162 : tab 162 = some ti162 := rfl
theorem tab163 : tab 163 = some ti163 := rfl
theorem tab164 : tab 164 = some ti164 := rfl
theorem tab165 : tab 165 = some ti165 := rfl
theorem tab166 : tab 166 = some ti166 := rfl
theorem tab167 : tab 167 = some ti167 := rfl
theorem tab168 : tab 168 = some ti168 := rfl
theorem tab169 : tab 169 = some ti169 := rfl
theorem tab170 : tab 170 = some ti170 := rfl
theorem tab171 : tab 171 = some ti171 := rfl
theorem tab173 : tab 173 = some ti173 := rfl
theorem tab174 : tab 174 = some ti174 := rfl
theorem tab175 : tab 175 = some ti175 := rfl
theorem tab176 : tab 176 = some ti176 := rfl
theorem tab177 : tab 177 = some ti177 := rfl
theorem tab178 : tab 178 = some ti178 := rfl
theorem tab179 : tab 179 = some ti179 := rfl
theorem tab180 : tab 180 = some ti180 := rfl
theorem tab181 : tab 181 = some ti181 := rfl
theorem tab182 : tab 182 = some ti182 := rfl
theorem tab183 : tab 183 = some ti183 := rfl
theorem tab184 : tab 184 = some ti184 := rfl
theorem tab185 : tab 185 = some ti185 := rfl
theorem tab186 : tab 186 = some ti186 := rfl
theorem tab187 : tab 187 = some ti187 := rfl
theorem tab188 : tab 188 = some ti188 := rfl
theorem tab190 : tab 190 = some ti190 := rfl
theorem tab191 : tab 191 = some ti191 := rfl
theorem tab192 : tab 192 = some ti192 := rfl
theorem tab193 : tab 193 = some ti193 := rfl
theorem tab194 : tab 194 = some ti194 := rfl
theorem tab195 : tab 195 = some ti195 := rfl
theorem tab196 : tab 196 = some ti196 := rfl
theorem tab197 : tab 197 = some ti197 := rfl
theorem tab198 : tab 198 = some ti198 := rfl
theorem tab199 : tab 199 = some ti199 := rfl
theorem tab200 : tab 200 = some ti200 := rfl
theorem tab201 : tab 201 = some ti201 := rfl
theorem tab202 : tab 202 = some ti202 := rfl
theorem tab203 : tab 203 = some ti203 := rfl
theorem tab204 : tab 204 = some ti204 := rfl
theorem tab205 : tab 205 = some ti205 := rfl
theorem tab206 : tab 206 = some ti206 := rfl
theorem tab208 : tab 208 = some ti208 := rfl
theorem tab209 : tab 209 = some ti209 := rfl
theorem tab210 : tab 210 = some ti210 := rfl
theorem tab211 : tab 211 = some ti211 := rfl
theorem tab212 : tab 212 = some ti212 := rfl
theorem tab213 : tab 213 = some ti213 := rfl
theorem tab214 : tab 214 = some ti214 := rfl
theorem tab215 : tab 215 = some ti215 := rfl
theorem tab216 : tab 216 = some ti216 := rfl
theorem tab217 : tab 217 = some ti217 := rfl
theorem tab218 : tab 218 = some ti218 := rfl
theorem tab219 : tab 219 = some ti219 := rfl
theorem tab220 : tab 220 = some ti220 := rfl
theorem tab221 : tab 221 = some ti221 := rfl
theorem tab222 : tab 222 = some ti222 := rfl
theorem tab223 : tab 223 = some ti223 := rfl
theorem tab224 : tab 224 = some ti224 := rfl
theorem tab225 : tab 225 = some ti225 := rfl
theorem tab226 : tab 226 = some ti226 := rfl
theorem tab227 : tab 227 = some ti227 := rfl
theorem tab228 : tab 228 = some ti228 := rfl
theorem tab229 : tab 229 = some ti229 := rfl
theorem tab230 : tab 230 = some ti230 := rfl
theorem tab231 : tab 231 = some ti231 := rfl
theorem tab232 : tab 232 = some ti232 := rfl
theorem tab233 : tab 233 = some ti233 := rfl
theorem tab234 : tab 234 = some ti234 := rfl
theorem tab235 : tab 235 = some ti235 := rfl
theorem tab236 : tab 236 = some ti236 := rfl
theorem tab237 : tab 237 = some ti237 := rfl
attribute [go_sem] tab1 ti1 tab2 ti2 tab3 ti3 tab4 ti4 tab5 ti5 tab6 ti6 tab7 ti7 tab8 ti8 tab9 ti9 tab10 ti10 tab11 ti11 tab12 ti12 tab13 ti13 tab14 ti14 tab15 ti15 tab16 ti16 tab17 ti17 tab18 ti18 tab19 ti19 tab20 ti20 tab21 ti21 tab22 ti22 tab23 ti23 tab24 ti24 tab25 ti25 tab26 ti26 tab27 ti27 tab28 ti28 tab29 ti29 tab30 ti30 tab31 ti31 tab32 ti32 tab33 ti33 tab34 ti34 tab35 ti35 tab36 ti36 tab37 ti37 tab38 ti38 tab39 ti39 tab40 ti40 tab42 ti42 tab43 ti43 tab44 ti44 tab45 ti45 tab46 ti46 tab47 ti47 tab48 ti48 tab49 ti49 tab50 ti50 tab51 ti51 tab52 ti52 tab53 ti53 tab54 ti54 tab55 ti55 tab56 ti56 tab57 ti57 tab58 ti58 tab60 ti60 tab61 ti61 tab62 ti62 tab63 ti63 tab64 ti64 tab65 ti65 tab66 ti66 tab68 ti68 tab69 ti69 tab70 ti70 tab71 ti71 tab72 ti72 tab73 ti73 tab74 ti74 tab75 ti75 tab76 ti76 tab77 ti77 tab78 ti78 tab79 ti79 tab80 ti80 tab82 ti82 tab83 ti83 tab84 ti84 tab85 ti85 tab86 ti86 tab87 ti87 tab88 ti88 tab89 ti89 tab90 ti90 tab91 ti91 tab93 ti93 tab94 ti94 tab96 ti96 tab97 ti97 tab98 ti98 tab99 ti99 tab101 ti101 tab102 ti102 tab104 ti104 tab105 ti105 tab106 ti106 tab107 ti107 tab108 ti108 tab109 ti109 tab110 ti110 tab111 ti111 tab112 ti112 tab113 ti113 tab114 ti114 tab115 ti115 tab116 ti116 tab117 ti117 tab118 ti118 tab119 ti119 tab120 ti120 tab121 ti121 tab122 ti122 tab123 ti123 tab124 ti124 tab125 ti125 tab126 ti126 tab127 ti127 tab128 ti128 tab129 ti129 tab130 ti130 tab131 ti131 tab133 ti133 tab134 ti134 tab135 ti135 tab136 ti136 tab137 ti137 tab138 ti138 tab139 ti139 tab141 ti141 tab142 ti142 tab144 ti144 tab145 ti145 tab146 ti146 tab147 ti147 tab148 ti148 tab149 ti149 tab150 ti150 tab151 ti151 tab152 ti152 tab153 ti153 tab154 ti154 tab155 ti155 tab157 ti157 tab159 ti159 tab160 ti160 tab161 ti161 tab162 ti162 tab163 ti163 tab164 ti164 tab165 ti165 tab166 ti166 tab167 ti167 tab168 ti168 tab169 ti169 tab170 ti170 tab171 ti171 tab173 ti173 tab174 ti174 tab175 ti175 tab176 ti176 tab177 ti177 tab178 ti178 tab179 ti179 tab180 ti180 tab181 ti181 tab182 ti182 tab183 ti183 tab184 ti184 tab185 ti185 tab186 ti186 tab187 ti187 tab188 ti188 tab190 ti190 tab191 ti191 tab192 ti192 tab193 ti193 tab194 ti194 tab195 ti195 tab196 ti196 tab197 ti197 tab198 ti198 tab199 ti199 tab200 ti200 tab201 ti201 tab202 ti202 tab203 ti203 tab204 ti204 tab205 ti205 tab206 ti206 tab208 ti208 tab209 ti209 tab210 ti210 tab211 ti211 tab212 ti212 tab213 ti213 tab214 ti214 tab215 ti215 tab216 ti216 tab217 ti217 tab218 ti218 tab219 ti219 tab220 ti220 tab221 ti221 tab222 ti222 tab223 ti223 tab224 ti224 tab225 ti225 tab226 ti226 tab227 ti227 tab228 ti228 tab229 ti229 tab230 ti230 tab231 ti231 tab232 ti232 tab233 ti233 tab234 ti234 tab235 ti235 tab236 ti236 tab237 ti237
theorem mixed : Try.prog.follows .mixedOrders = true := by kernel_rfl
end Go.Proofs.Ytcdmhigmgpflbaa.Pe

