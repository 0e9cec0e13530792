import Derived.Test.YtcdmhigmgpflbaaGreatPe18
import Derived.Test.YtcdmhigmgpflbaaGreatPe20
import Derived.Test.YtcdmhigmgpflbaaGreatProg
import Derived.KernelRfl
set_option maxRecDepth 20000
set_option maxHeartbeats 4000000
namespace Go.Proofs.YtcdmhigmgpflbaaGreat.Pe
open Go.Pe
def ti1 : TI := ⟨1,false,8,[.nilFunc],[.lit (.nilFunc)],.other,false,false⟩
theorem ok1 : TypeOK Tryz.prog 1 ti1 := TypeOK.of (d := _) (z := .nilFunc) Tryz.underlying1 (by kernel_rfl) trivial rfl rfl rfl rfl rfl rfl [none] rfl rfl (.inl rfl)
def ti2 : TI := ⟨1,false,8,[.int .i64 0],[.lit (.int .i64 0)],.int .i64,false,false⟩
theorem ok2 : TypeOK Tryz.prog 2 ti2 := TypeOK.of (d := _) (z := .int .i64 0) Tryz.underlying2 (by kernel_rfl) rfl rfl rfl rfl rfl rfl rfl [none] rfl rfl (.inl rfl)
def ti3 : TI := ⟨1,false,8,[.int .i64 0],[.lit (.int .i64 0)],.int .i64,false,false⟩
theorem ok3 : TypeOK Tryz.prog 3 ti3 := TypeOK.of (d := _) (z := .int .i64 0) Tryz.underlying3 (by kernel_rfl) rfl rfl rfl rfl rfl rfl rfl [none] rfl rfl (.inl rfl)
def ti4 : TI := ⟨1,false,1,[.bool false],[.lit (.bool false)],.bool,false,false⟩
theorem ok4 : TypeOK Tryz.prog 4 ti4 := TypeOK.of (d := _) (z := .bool false) Tryz.underlying4 (by kernel_rfl) rfl rfl rfl rfl rfl rfl rfl [none] rfl rfl (.inl rfl)
def ti5 : TI := ⟨1,false,1,[.int .u8 0],[.lit (.int .u8 0)],.int .u8,false,false⟩
theorem ok5 : TypeOK Tryz.prog 5 ti5 := TypeOK.of (d := _) (z := .int .u8 0) Tryz.underlying5 (by kernel_rfl) rfl rfl rfl rfl rfl rfl rfl [none] rfl rfl (.inl rfl)
def ti6 : TI := ⟨1,false,1,[.int .u8 0],[.lit (.int .u8 0)],.int .u8,false,false⟩
theorem ok6 : TypeOK Tryz.prog 6 ti6 := TypeOK.of (d := _) (z := .int .u8 0) Tryz.underlying6 (by kernel_rfl) rfl rfl rfl rfl rfl rfl rfl [none] rfl rfl (.inl rfl)
def ti7 : TI := ⟨4,true,24,[.int .i64 0,.int .i64 0,.bool false,.int .u8 0],[.lit (.int .i64 0),.lit (.int .i64 0),.lit (.bool false),.lit (.int .u8 0)],.struct [(0,2),(1,3),(2,4),(3,6)],false,false⟩
theorem ok7 : TypeOK Tryz.prog 7 ti7 := TypeOK.of (d := _) (z := .agg #[.int .i64 0,.int .i64 0,.bool false,.int .u8 0]) Tryz.underlying7 (by kernel_rfl) ⟨_,rfl,rfl⟩ rfl rfl rfl rfl rfl rfl [none,none,none,none] rfl rfl (.inl rfl)
def ti8 : TI := ⟨4,true,24,[.int .i64 0,.int .i64 0,.bool false,.int .u8 0],[.lit (.int .i64 0),.lit (.int .i64 0),.lit (.bool false),.lit (.int .u8 0)],.struct [(0,2),(1,3),(2,4),(3,6)],false,false⟩
theorem ok8 : TypeOK Tryz.prog 8 ti8 := TypeOK.of (d := _) (z := .agg #[.int .i64 0,.int .i64 0,.bool false,.int .u8 0]) Tryz.underlying8 (by kernel_rfl) ⟨_,rfl,rfl⟩ rfl rfl rfl rfl rfl rfl [none,none,none,none] rfl rfl (.inl rfl)
def ti9 : TI := ⟨1,false,16,[.string ⟨#[]⟩],[.lit (.string ⟨#[]⟩)],.str,false,false⟩
theorem ok9 : TypeOK Tryz.prog 9 ti9 := TypeOK.of (d := _) (z := .string ⟨#[]⟩) Tryz.underlying9 (by kernel_rfl) rfl rfl rfl rfl rfl rfl rfl [none] rfl rfl (.inl rfl)
def ti10 : TI := ⟨1,false,16,[.string ⟨#[]⟩],[.lit (.string ⟨#[]⟩)],.str,false,false⟩
theorem ok10 : TypeOK Tryz.prog 10 ti10 := TypeOK.of (d := _) (z := .string ⟨#[]⟩) Tryz.underlying10 (by kernel_rfl) rfl rfl rfl rfl rfl rfl rfl [none] rfl rfl (.inl rfl)
def ti11 : TI := ⟨1,false,16,[.string ⟨#[]⟩],[.lit (.string ⟨#[]⟩)],.str,false,false⟩
theorem ok11 : TypeOK Tryz.prog 11 ti11 := TypeOK.of (d := _) (z := .string ⟨#[]⟩) Tryz.underlying11 (by kernel_rfl) rfl rfl rfl rfl rfl rfl rfl [none] rfl rfl (.inl rfl)
def ti12 : TI := ⟨1,false,8,[.int .u64 0],[.lit (.int .u64 0)],.int .u64,false,false⟩
theorem ok12 : TypeOK Tryz.prog 12 ti12 := TypeOK.of (d := _) (z := .int .u64 0) Tryz.underlying12 (by kernel_rfl) rfl rfl rfl rfl rfl rfl rfl [none] rfl rfl (.inl rfl)
def ti14 : TI := ⟨2,true,24,[.string ⟨#[]⟩,.int .u64 0],[.lit (.string ⟨#[]⟩),.lit (.int .u64 0)],.struct [(0,9),(1,12)],false,false⟩
theorem ok14 : TypeOK Tryz.prog 14 ti14 := TypeOK.of (d := _) (z := .agg #[.string ⟨#[]⟩,.int .u64 0]) Tryz.underlying14 (by kernel_rfl) ⟨_,rfl,rfl⟩ rfl rfl rfl rfl rfl rfl [none,none] rfl rfl (.inl rfl)
def ti20 : TI := ⟨1,false,16,[.nilIface],[.lit (.nilIface)],.other,false,false⟩
theorem ok20 : TypeOK Tryz.prog 20 ti20 := TypeOK.of (d := _) (z := .nilIface) Tryz.underlying20 (by kernel_rfl) trivial rfl rfl rfl rfl rfl rfl [none] rfl rfl (.inl rfl)
def ti22 : TI := ⟨1,false,24,[.slice none 0 0],[.lit (.slice none 0 0)],.slice 5,false,false⟩
theorem ok22 : TypeOK Tryz.prog 22 ti22 := TypeOK.of (d := _) (z := .slice none 0 0) Tryz.underlying22 (by kernel_rfl) rfl rfl rfl rfl rfl rfl rfl [none] rfl rfl (.inl rfl)
def ti23 : TI := ⟨1,false,24,[.slice none 0 0],[.lit (.slice none 0 0)],.slice 59,false,false⟩
theorem ok23 : TypeOK Tryz.prog 23 ti23 := TypeOK.of (d := _) (z := .slice none 0 0) Tryz.underlying23 (by kernel_rfl) rfl rfl rfl rfl rfl rfl rfl [none] rfl rfl (.inl rfl)
def ti24 : TI := ⟨1,false,24,[.slice none 0 0],[.lit (.slice none 0 0)],.slice 102,true,false⟩
theorem ok24 : TypeOK Tryz.prog 24 ti24 := TypeOK.of (d := _) (z := .slice none 0 0) Tryz.underlying24 (by kernel_rfl) rfl rfl rfl rfl rfl rfl rfl [none] rfl rfl (.inl rfl)
def ti26 : TI := ⟨9,true,104,[.int .i64 0,.bool false,.int .i64 0,.int .i64 0,.int .i64 0,.int .i64 0,.int .i64 0,.slice none 0 0,.slice none 0 0],[.lit (.int .i64 0),.lit (.bool false),.lit (.int .i64 0),.lit (.int .i64 0),.lit (.int .i64 0),.lit (.int .i64 0),.lit (.int .i64 0),.lit (.slice none 0 0),.im 4 []],.struct [(0,3),(1,4),(2,3),(3,3),(4,3),(5,3),(6,3),(7,23),(8,24)],false,false⟩
theorem ok26 : TypeOK Tryz.prog 26 ti26 := TypeOK.of (d := _) (z := .agg #[.int .i64 0,.bool false,.int .i64 0,.int .i64 0,.int .i64 0,.int .i64 0,.int .i64 0,.slice none 0 0,.slice none 0 0]) Tryz.underlying26 (by kernel_rfl) ⟨_,rfl,rfl⟩ rfl rfl rfl rfl rfl rfl [none,none,none,none,none,none,none,none,some 4] rfl rfl (.inl rfl)
def ti27 : TI := ⟨1,false,24,[.slice none 0 0],[.lit (.slice none 0 0)],.slice 3,false,false⟩
theorem ok27 : TypeOK Tryz.prog 27 ti27 := TypeOK.of (d := _) (z := .slice none 0 0) Tryz.underlying27 (by kernel_rfl) rfl rfl rfl rfl rfl rfl rfl [none] rfl rfl (.inl rfl)
def ti28 : TI := ⟨1,false,8,[.nilFunc],[.lit (.nilFunc)],.other,false,false⟩
theorem ok28 : TypeOK Tryz.prog 28 ti28 := TypeOK.of (d := _) (z := .nilFunc) Tryz.underlying28 (by kernel_rfl) trivial rfl rfl rfl rfl rfl rfl [none] rfl rfl (.inl rfl)
def ti42 : TI := ⟨1,false,8,[.int .u64 0],[.lit (.int .u64 0)],.int .u64,false,false⟩
theorem ok42 : TypeOK Tryz.prog 42 ti42 := TypeOK.of (d := _) (z := .int .u64 0) Tryz.underlying42 (by kernel_rfl) rfl rfl rfl rfl rfl rfl rfl [none] rfl rfl (.inl rfl)
def ti47 : TI := ⟨1,false,8,[.int .i64 0],[.lit (.int .i64 0)],.int .i64,false,false⟩
theorem ok47 : TypeOK Tryz.prog 47 ti47 := TypeOK.of (d := _) (z := .int .i64 0) Tryz.underlying47 (by kernel_rfl) rfl rfl rfl rfl rfl rfl rfl [none] rfl rfl (.inl rfl)
def ti49 : TI := ⟨9,true,88,[.int .i64 0,.slice none 0 0,.int .i64 0,.int .i64 0,.int .i64 0,.int .i64 0,.int .i64 0,.int .i64 0,.int .i64 0],[.lit (.int .i64 0),.im 1 [],.lit (.int .i64 0),.lit (.int .i64 0),.lit (.int .i64 0),.lit (.int .i64 0),.lit (.int .i64 0),.lit (.int .i64 0),.lit (.int .i64 0)],.struct [(0,3),(1,22),(2,3),(3,3),(4,3),(5,3),(6,3),(7,3),(8,47)],false,false⟩
theorem ok49 : TypeOK Tryz.prog 49 ti49 := TypeOK.of (d := _) (z := .agg #[.int .i64 0,.slice none 0 0,.int .i64 0,.int .i64 0,.int .i64 0,.int .i64 0,.int .i64 0,.int .i64 0,.int .i64 0]) Tryz.underlying49 (by kernel_rfl) ⟨_,rfl,rfl⟩ rfl rfl rfl rfl rfl rfl [none,some 1,none,none,none,none,none,none,none] rfl rfl (.inl rfl)
def ti51 : TI := ⟨10,true,96,[.int .i64 0,.int .i64 0,.slice none 0 0,.int .i64 0,.int .i64 0,.int .i64 0,.int .i64 0,.int .i64 0,.int .i64 0,.int .i64 0],[.lit (.int .i64 0),.lit (.int .i64 0),.im 1 [],.lit (.int .i64 0),.lit (.int .i64 0),.lit (.int .i64 0),.lit (.int .i64 0),.lit (.int .i64 0),.lit (.int .i64 0),.lit (.int .i64 0)],.struct [(0,3),(1,3),(2,22),(3,3),(4,3),(5,3),(6,3),(7,3),(8,3),(9,47)],false,false⟩
theorem ok51 : TypeOK Tryz.prog 51 ti51 := TypeOK.of (d := _) (z := .agg #[.int .i64 0,.int .i64 0,.slice none 0 0,.int .i64 0,.int .i64 0,.int .i64 0,.int .i64 0,.int .i64 0,.int .i64 0,.int .i64 0]) Tryz.underlying51 (by kernel_rfl) ⟨_,rfl,rfl⟩ rfl rfl rfl rfl rfl rfl [none,none,some 1,none,none,none,none,none,none,none] rfl rfl (.inl rfl)
def ti55 : TI := ⟨1,false,8,[.nilFunc],[.lit (.nilFunc)],.other,false,false⟩
theorem ok55 : TypeOK Tryz.prog 55 ti55 := TypeOK.of (d := _) (z := .nilFunc) Tryz.underlying55 (by kernel_rfl) trivial rfl rfl rfl rfl rfl rfl [none] rfl rfl (.inl rfl)
def ti59 : TI := ⟨3,true,40,[.int .i64 0,.bool false,.slice none 0 0],[.lit (.int .i64 0),.lit (.bool false),.im 1 []],.struct [(0,3),(1,4),(2,22)],false,false⟩
theorem ok59 : TypeOK Tryz.prog 59 ti59 := TypeOK.of (d := _) (z := .agg #[.int .i64 0,.bool false,.slice none 0 0]) Tryz.underlying59 (by kernel_rfl) ⟨_,rfl,rfl⟩ rfl rfl rfl rfl rfl rfl [none,none,some 1] rfl rfl (.inl rfl)
def ti62 : TI := ⟨1,false,24,[.slice none 0 0],[.lit (.slice none 0 0)],.slice 22,false,false⟩
theorem ok62 : TypeOK Tryz.prog 62 ti62 := TypeOK.of (d := _) (z := .slice none 0 0) Tryz.underlying62 (by kernel_rfl) rfl rfl rfl rfl rfl rfl rfl [none] rfl rfl (.inl rfl)
def ti64 : TI := ⟨1,false,4,[.int .u32 0],[.lit (.int .u32 0)],.int .u32,false,false⟩
theorem ok64 : TypeOK Tryz.prog 64 ti64 := TypeOK.of (d := _) (z := .int .u32 0) Tryz.underlying64 (by kernel_rfl) rfl rfl rfl rfl rfl rfl rfl [none] rfl rfl (.inl rfl)
def ti70 : TI := ⟨7,true,72,[.int .i64 0,.int .i64 0,.int .i64 0,.int .i64 0,.int .i64 0,.int .i64 0,.slice none 0 0],[.lit (.int .i64 0),.lit (.int .i64 0),.lit (.int .i64 0),.lit (.int .i64 0),.lit (.int .i64 0),.lit (.int .i64 0),.im 1 []],.struct [(0,3),(1,3),(2,3),(3,3),(4,3),(5,3),(6,22)],false,false⟩
theorem ok70 : TypeOK Tryz.prog 70 ti70 := TypeOK.of (d := _) (z := .agg #[.int .i64 0,.int .i64 0,.int .i64 0,.int .i64 0,.int .i64 0,.int .i64 0,.slice none 0 0]) Tryz.underlying70 (by kernel_rfl) ⟨_,rfl,rfl⟩ rfl rfl rfl rfl rfl rfl [none,none,none,none,none,none,some 1] rfl rfl (.inl rfl)
def ti73 : TI := ⟨1,false,8,[.nilFunc],[.lit (.nilFunc)],.other,false,false⟩
theorem ok73 : TypeOK Tryz.prog 73 ti73 := TypeOK.of (d := _) (z := .nilFunc) Tryz.underlying73 (by kernel_rfl) trivial rfl rfl rfl rfl rfl rfl [none] rfl rfl (.inl rfl)
def ti74 : TI := ⟨1,false,24,[.slice none 0 0],[.lit (.slice none 0 0)],.slice 70,false,false⟩
theorem ok74 : TypeOK Tryz.prog 74 ti74 := TypeOK.of (d := _) (z := .slice none 0 0) Tryz.underlying74 (by kernel_rfl) rfl rfl rfl rfl rfl rfl rfl [none] rfl rfl (.inl rfl)
def ti76 : TI := ⟨2,true,48,[.slice none 0 0,.slice none 0 0],[.lit (.slice none 0 0),.lit (.slice none 0 0)],.struct [(0,74),(1,74)],false,false⟩
theorem ok76 : TypeOK Tryz.prog 76 ti76 := TypeOK.of (d := _) (z := .agg #[.slice none 0 0,.slice none 0 0]) Tryz.underlying76 (by kernel_rfl) ⟨_,rfl,rfl⟩ rfl rfl rfl rfl rfl rfl [none,none] rfl rfl (.inl rfl)
def ti77 : TI := ⟨1,false,8,[.nilFunc],[.lit (.nilFunc)],.other,false,false⟩
theorem ok77 : TypeOK Tryz.prog 77 ti77 := TypeOK.of (d := _) (z := .nilFunc) Tryz.underlying77 (by kernel_rfl) trivial rfl rfl rfl rfl rfl rfl [none] rfl rfl (.inl rfl)
def ti78 : TI := ⟨1,false,8,[.nilFunc],[.lit (.nilFunc)],.other,false,false⟩
theorem ok78 : TypeOK Tryz.prog 78 ti78 := TypeOK.of (d := _) (z := .nilFunc) Tryz.underlying78 (by kernel_rfl) trivial rfl rfl rfl rfl rfl rfl [none] rfl rfl (.inl rfl)
def ti86 : TI := ⟨1,false,8,[.pointer none],[.lit (.pointer none)],.other,false,false⟩
theorem ok86 : TypeOK Tryz.prog 86 ti86 := TypeOK.of (d := _) (z := .pointer none) Tryz.underlying86 (by kernel_rfl) trivial rfl rfl rfl rfl rfl rfl [none] rfl rfl (.inl rfl)
def ti88 : TI := ⟨10,true,128,[.int .i64 0,.bool false,.int .i64 0,.int .i64 0,.int .i64 0,.int .i64 0,.int .i64 0,.slice none 0 0,.slice none 0 0,.slice none 0 0],[.lit (.int .i64 0),.lit (.bool false),.lit (.int .i64 0),.lit (.int .i64 0),.lit (.int .i64 0),.lit (.int .i64 0),.lit (.int .i64 0),.lit (.slice none 0 0),.im 4 [],.im 1 []],.struct [(0,26),(9,22)],false,false⟩
theorem ok88 : TypeOK Tryz.prog 88 ti88 := TypeOK.of (d := _) (z := .agg #[.int .i64 0,.bool false,.int .i64 0,.int .i64 0,.int .i64 0,.int .i64 0,.int .i64 0,.slice none 0 0,.slice none 0 0,.slice none 0 0]) Tryz.underlying88 (by kernel_rfl) ⟨_,rfl,rfl⟩ rfl rfl rfl rfl rfl rfl [none,none,none,none,none,none,none,none,some 4,some 1] rfl rfl (.inl rfl)
def ti91 : TI := ⟨2,true,48,[.slice none 0 0,.slice none 0 0],[.lit (.slice none 0 0),.lit (.slice none 0 0)],.struct [(0,74),(1,74)],false,false⟩
theorem ok91 : TypeOK Tryz.prog 91 ti91 := TypeOK.of (d := _) (z := .agg #[.slice none 0 0,.slice none 0 0]) Tryz.underlying91 (by kernel_rfl) ⟨_,rfl,rfl⟩ rfl rfl rfl rfl rfl rfl [none,none] rfl rfl (.inl rfl)
def ti93 : TI := ⟨5,true,104,[.slice none 0 0,.slice none 0 0,.slice none 0 0,.slice none 0 0,.int .i64 0],[.lit (.slice none 0 0),.lit (.slice none 0 0),.lit (.slice none 0 0),.lit (.slice none 0 0),.lit (.int .i64 0)],.struct [(0,91),(2,91),(4,3)],false,false⟩
theorem ok93 : TypeOK Tryz.prog 93 ti93 := TypeOK.of (d := _) (z := .agg #[.slice none 0 0,.slice none 0 0,.slice none 0 0,.slice none 0 0,.int .i64 0]) Tryz.underlying93 (by kernel_rfl) ⟨_,rfl,rfl⟩ rfl rfl rfl rfl rfl rfl [none,none,none,none,none] rfl rfl (.inl rfl)
def ti102 : TI := ⟨4,true,32,[.int .i64 0,.int .i64 0,.int .i64 0,.int .i64 0],[.lit (.int .i64 0),.lit (.int .i64 0),.lit (.int .i64 0),.lit (.int .i64 0)],.struct [(0,3),(1,3),(2,3),(3,3)],false,true⟩
theorem ok102 : TypeOK Tryz.prog 102 ti102 := TypeOK.of (d := _) (z := .agg #[.int .i64 0,.int .i64 0,.int .i64 0,.int .i64 0]) Tryz.underlying102 (by kernel_rfl) ⟨_,rfl,rfl⟩ rfl rfl rfl rfl rfl rfl [none,none,none,none] rfl rfl (.inr (by kernel_rfl))
def ti105 : TI := ⟨1,false,8,[.pointer none],[.lit (.pointer none)],.other,false,false⟩
theorem ok105 : TypeOK Tryz.prog 105 ti105 := TypeOK.of (d := _) (z := .pointer none) Tryz.underlying105 (by kernel_rfl) trivial rfl rfl rfl rfl rfl rfl [none] rfl rfl (.inl rfl)
def ti106 : TI := ⟨1,false,8,[.pointer none],[.lit (.pointer none)],.other,false,false⟩
theorem ok106 : TypeOK Tryz.prog 106 ti106 := TypeOK.of (d := _) (z := .pointer none) Tryz.underlying106 (by kernel_rfl) trivial rfl rfl rfl rfl rfl rfl [none] rfl rfl (.inl rfl)
def ti108 : TI := ⟨10,true,96,[.int .i64 0,.int .i64 0,.slice none 0 0,.int .i64 0,.int .i64 0,.int .i64 0,.int .i64 0,.int .i64 0,.int .i64 0,.int .i64 0],[.lit (.int .i64 0),.lit (.int .i64 0),.im 1 [],.lit (.int .i64 0),.lit (.int .i64 0),.lit (.int .i64 0),.lit (.int .i64 0),.lit (.int .i64 0),.lit (.int .i64 0),.lit (.int .i64 0)],.struct [(0,51)],false,false⟩
theorem ok108 : TypeOK Tryz.prog 108 ti108 := TypeOK.of (d := _) (z := .agg #[.int .i64 0,.int .i64 0,.slice none 0 0,.int .i64 0,.int .i64 0,.int .i64 0,.int .i64 0,.int .i64 0,.int .i64 0,.int .i64 0]) Tryz.underlying108 (by kernel_rfl) ⟨_,rfl,rfl⟩ rfl rfl rfl rfl rfl rfl [none,none,some 1,none,none,none,none,none,none,none] rfl rfl (.inl rfl)
def ti109 : TI := ⟨1,false,8,[.nilFunc],[.lit (.nilFunc)],.other,false,false⟩
theorem ok109 : TypeOK Tryz.prog 109 ti109 := TypeOK.of (d := _) (z := .nilFunc) Tryz.underlying109 (by kernel_rfl) trivial rfl rfl rfl rfl rfl rfl [none] rfl rfl (.inl rfl)
def ti111 : TI := ⟨1,false,8,[.map none],[.lit (.map none)],.map 3 109,false,false⟩
theorem ok111 : TypeOK Tryz.prog 111 ti111 := TypeOK.of (d := _) (z := .map none) Tryz.underlying111 (by kernel_rfl) rfl rfl rfl rfl rfl rfl rfl [none] rfl rfl (.inl rfl)
def ti113 : TI := ⟨8,true,80,[.int .i64 0,.int .i64 0,.int .i64 0,.int .i64 0,.int .i64 0,.int .i64 0,.slice none 0 0,.bool false],[.lit (.int .i64 0),.lit (.int .i64 0),.lit (.int .i64 0),.lit (.int .i64 0),.lit (.int .i64 0),.lit (.int .i64 0),.im 1 [],.lit (.bool false)],.struct [(0,70),(7,4)],false,false⟩
theorem ok113 : TypeOK Tryz.prog 113 ti113 := TypeOK.of (d := _) (z := .agg #[.int .i64 0,.int .i64 0,.int .i64 0,.int .i64 0,.int .i64 0,.int .i64 0,.slice none 0 0,.bool false]) Tryz.underlying113 (by kernel_rfl) ⟨_,rfl,rfl⟩ rfl rfl rfl rfl rfl rfl [none,none,none,none,none,none,some 1,none] rfl rfl (.inl rfl)
def ti116 : TI := ⟨1,false,8,[.pointer none],[.lit (.pointer none)],.other,false,false⟩
theorem ok116 : TypeOK Tryz.prog 116 ti116 := TypeOK.of (d := _) (z := .pointer none) Tryz.underlying116 (by kernel_rfl) trivial rfl rfl rfl rfl rfl rfl [none] rfl rfl (.inl rfl)
def ti118 : TI := ⟨9,true,88,[.int .i64 0,.slice none 0 0,.int .i64 0,.int .i64 0,.int .i64 0,.int .i64 0,.int .i64 0,.int .i64 0,.int .i64 0],[.lit (.int .i64 0),.im 1 [],.lit (.int .i64 0),.lit (.int .i64 0),.lit (.int .i64 0),.lit (.int .i64 0),.lit (.int .i64 0),.lit (.int .i64 0),.lit (.int .i64 0)],.struct [(0,49)],false,false⟩
theorem ok118 : TypeOK Tryz.prog 118 ti118 := TypeOK.of (d := _) (z := .agg #[.int .i64 0,.slice none 0 0,.int .i64 0,.int .i64 0,.int .i64 0,.int .i64 0,.int .i64 0,.int .i64 0,.int .i64 0]) Tryz.underlying118 (by kernel_rfl) ⟨_,rfl,rfl⟩ rfl rfl rfl rfl rfl rfl [none,some 1,none,none,none,none,none,none,none] rfl rfl (.inl rfl)
def ti119 : TI := ⟨1,false,8,[.nilFunc],[.lit (.nilFunc)],.other,false,false⟩
theorem ok119 : TypeOK Tryz.prog 119 ti119 := TypeOK.of (d := _) (z := .nilFunc) Tryz.underlying119 (by kernel_rfl) trivial rfl rfl rfl rfl rfl rfl [none] rfl rfl (.inl rfl)
def ti121 : TI := ⟨1,true,8,[.nilFunc],[.lit (.nilFunc)],.struct [(0,119)],false,false⟩
theorem ok121 : TypeOK Tryz.prog 121 ti121 := TypeOK.of (d := _) (z := .agg #[.nilFunc]) Tryz.underlying121 (by kernel_rfl) ⟨_,rfl,rfl⟩ rfl rfl rfl rfl rfl rfl [none] rfl rfl (.inl rfl)
def ti122 : TI := ⟨3,true,24,[.nilFunc,.nilFunc,.nilFunc],[.lit (.nilFunc),.lit (.nilFunc),.lit (.nilFunc)],.array 3 121,false,false⟩
theorem ok122 : TypeOK Tryz.prog 122 ti122 := TypeOK.of (d := _) (z := .agg #[.nilFunc,.nilFunc,.nilFunc]) Tryz.underlying122 (by kernel_rfl) rfl rfl rfl rfl rfl rfl rfl [none,none,none] rfl rfl (.inl rfl)
def ti125 : TI := ⟨1,false,8,[.int .i64 0],[.lit (.int .i64 0)],.int .i64,false,false⟩
theorem ok125 : TypeOK Tryz.prog 125 ti125 := TypeOK.of (d := _) (z := .int .i64 0) Tryz.underlying125 (by kernel_rfl) rfl rfl rfl rfl rfl rfl rfl [none] rfl rfl (.inl rfl)
def ti127 : TI := ⟨1,false,8,[.nilFunc],[.lit (.nilFunc)],.other,false,false⟩
theorem ok127 : TypeOK Tryz.prog 127 ti127 := TypeOK.of (d := _) (z := .nilFunc) Tryz.underlying127 (by kernel_rfl) trivial rfl rfl rfl rfl rfl rfl [none] rfl rfl (.inl rfl)
def ti129 : TI := ⟨2,true,16,[.int .i64 0,.nilFunc],[.lit (.int .i64 0),.lit (.nilFunc)],.struct [(0,3),(1,127)],false,false⟩
theorem ok129 : TypeOK Tryz.prog 129 ti129 := TypeOK.of (d := _) (z := .agg #[.int .i64 0,.nilFunc]) Tryz.underlying129 (by kernel_rfl) ⟨_,rfl,rfl⟩ rfl rfl rfl rfl rfl rfl [none,none] rfl rfl (.inl rfl)
def ti142 : TI := ⟨5,true,40,[.nilFunc,.nilFunc,.nilFunc,.nilFunc,.nilFunc],[.lit (.nilFunc),.lit (.nilFunc),.lit (.nilFunc),.lit (.nilFunc),.lit (.nilFunc)],.array 5 28,false,false⟩
theorem ok142 : TypeOK Tryz.prog 142 ti142 := TypeOK.of (d := _) (z := .agg #[.nilFunc,.nilFunc,.nilFunc,.nilFunc,.nilFunc]) Tryz.underlying142 (by kernel_rfl) rfl rfl rfl rfl rfl rfl rfl [none,none,none,none,none] rfl rfl (.inl rfl)
def ti144 : TI := ⟨1,false,8,[.map none],[.lit (.map none)],.map 5 129,false,false⟩
theorem ok144 : TypeOK Tryz.prog 144 ti144 := TypeOK.of (d := _) (z := .map none) Tryz.underlying144 (by kernel_rfl) rfl rfl rfl rfl rfl rfl rfl [none] rfl rfl (.inl rfl)
def ti151 : TI := ⟨1,false,8,[.nilFunc],[.lit (.nilFunc)],.other,false,false⟩
theorem ok151 : TypeOK Tryz.prog 151 ti151 := TypeOK.of (d := _) (z := .nilFunc) Tryz.underlying151 (by kernel_rfl) trivial rfl rfl rfl rfl rfl rfl [none] rfl rfl (.inl rfl)
def ti154 : TI := ⟨1,false,8,[.nilFunc],[.lit (.nilFunc)],.other,false,false⟩
theorem ok154 : TypeOK Tryz.prog 154 ti154 := TypeOK.of (d := _) (z := .nilFunc) Tryz.underlying154 (by kernel_rfl) trivial rfl rfl rfl rfl rfl rfl [none] rfl rfl (.inl rfl)
def tab : Tab := fun
  | 1 => some ti1
  | 2 => some ti2
  | 3 => some ti3
  | 4 => some ti4
  | 5 => some ti5
  | 6 => some ti6
  | 7 => some ti7
  | 8 => some ti8
  | 9 => some ti9
  | 10 => some ti10
  | 11 => some ti11
  | 12 => some ti12
  | 14 => some ti14
  | 20 => some ti20
  | 22 => some ti22
  | 23 => some ti23
  | 24 => some ti24
  | 26 => some ti26
  | 27 => some ti27
  | 28 => some ti28
  | 42 => some ti42
  | 47 => some ti47
  | 49 => some ti49
  | 51 => some ti51
  | 55 => some ti55
  | 59 => some ti59
  | 62 => some ti62
  | 64 => some ti64
  | 70 => some ti70
  | 73 => some ti73
  | 74 => some ti74
  | 76 => some ti76
  | 77 => some ti77
  | 78 => some ti78
  | 86 => some ti86
  | 88 => some ti88
  | 91 => some ti91
  | 93 => some ti93
  | 102 => some ti102
  | 105 => some ti105
  | 106 => some ti106
  | 108 => some ti108
  | 109 => some ti109
  | 111 => some ti111
  | 113 => some ti113
  | 116 => some ti116
  | 118 => some ti118
  | 119 => some ti119
  | 121 => some ti121
  | 122 => some ti122
  | 125 => some ti125
  | 127 => some ti127
  | 129 => some ti129
  | 142 => some ti142
  | 144 => some ti144
  | 151 => some ti151
  | 154 => some ti154
  | _ => none
theorem tabOK : TabOK Tryz.prog tab := by
  intro t ti h
  unfold tab at h
  split at h <;> first | (cases h; done) | (simp only [Option.some.injEq] at h; subst h; first | exact ok1 | exact ok2 | exact ok3 | exact ok4 | exact ok5 | exact ok6 | exact ok7 | exact ok8 | exact ok9 | exact ok10 | exact ok11 | exact ok12 | exact ok14 | exact ok20 | exact ok22 | exact ok23 | exact ok24 | exact ok26 | exact ok27 | exact ok28 | exact ok42 | exact ok47 | exact ok49 | exact ok51 | exact ok55 | exact ok59 | exact ok62 | exact ok64 | exact ok70 | exact ok73 | exact ok74 | exact ok76 | exact ok77 | exact ok78 | exact ok86 | exact ok88 | exact ok91 | exact ok93 | exact ok102 | exact ok105 | exact ok106 | exact ok108 | exact ok109 | exact ok111 | exact ok113 | exact ok116 | exact ok118 | exact ok119 | exact ok121 | exact ok122 | exact ok125 | exact ok127 | exact ok129 | exact ok142 | exact ok144 | exact ok151 | exact ok154)
theorem tab1 : tab 1 = some ti1 := rfl
theorem tab2 : tab 2 = some ti2 := rfl
theorem tab3 : tab 3 = some ti3 := rfl
theorem tab4 : tab 4 = some ti4 := rfl
theorem tab5 : tab 5 = some ti5 := rfl
theorem tab6 : tab 6 = some ti6 := rfl
theorem tab7 : tab 7 = some ti7 := rfl
theorem tab8 : tab 8 = some ti8 := rfl
theorem tab9 : tab 9 = some ti9 := rfl
theorem tab10 : tab 10 = some ti10 := rfl
theorem tab11 : tab 11 = some ti11 := rfl
theorem tab12 : tab 12 = some ti12 := rfl
theorem tab14 : tab 14 = some ti14 := rfl
theorem tab20 : tab 20 = some ti20 := rfl
theorem tab22 : tab 22 = some ti22 := rfl
theorem tab23 : tab 23 = some ti23 := rfl
theorem tab24 : tab 24 = some ti24 := rfl
theorem tab26 : tab 26 = some ti26 := rfl
theorem tab27 : tab 27 = some ti27 := rfl
theorem tab28 : tab 28 = some ti28 := rfl
theorem tab42 : tab 42 = some ti42 := rfl
theorem tab47 : tab 47 = some ti47 := rfl
theorem tab49 : tab 49 = some ti49 := rfl
theorem tab51 : tab 51 = some ti51 := rfl
theorem tab55 : tab 55 = some ti55 := rfl
theorem tab59 : tab 59 = some ti59 := rfl
theorem tab62 : tab 62 = some ti62 := rfl
theorem tab64 : tab 64 = some ti64 := rfl
theorem tab70 : tab 70 = some ti70 := rfl
theorem tab73 : tab 73 = some ti73 := rfl
theorem tab74 : tab 74 = some ti74 := rfl
theorem tab76 : tab 76 = some ti76 := rfl
theorem tab77 : tab 77 = some ti77 := rfl
theorem tab78 : tab 78 = some ti78 := rfl
theorem tab86 : tab 86 = some ti86 := rfl
theorem tab88 : tab 88 = some ti88 := rfl
theorem tab91 : tab 91 = some ti91 := rfl
theorem tab93 : tab 93 = some ti93 := rfl
theorem tab102 : tab 102 = some ti102 := rfl
theorem tab105 : tab 105 = some ti105 := rfl
theorem tab106 : tab 106 = some ti106 := rfl
theorem tab108 : tab 108 = some ti108 := rfl
theorem tab109 : tab 109 = some ti109 := rfl
theorem tab111 : tab 111 = some ti111 := rfl
theorem tab113 : tab 113 = some ti113 := rfl
theorem tab116 : tab 116 = some ti116 := rfl
theorem tab118 : tab 118 = some ti118 := rfl
theorem tab119 : tab 119 = some ti119 := rfl
theorem tab121 : tab 121 = some ti121 := rfl
theorem tab122 : tab 122 = some ti122 := rfl
theorem tab125 : tab 125 = some ti125 := rfl
theorem tab127 : tab 127 = some ti127 := rfl
theorem tab129 : tab 129 = some ti129 := rfl
theorem tab142 : tab 142 = some ti142 := rfl
theorem tab144 : tab 144 = some ti144 := rfl
theorem tab151 : tab 151 = some ti151 := rfl
theorem tab154 : tab 154 = some ti154 := rfl
attribute [go_sem] tab1 ti1 tab2 ti2 tab3 ti3 tab4 ti4 tab5 ti5 tab6 ti6 tab7 ti7 tab8 ti8 tab9 ti9 tab10 ti10 tab11 ti11 tab12 ti12 tab14 ti14 tab20 ti20 tab22 ti22 tab23 ti23 tab24 ti24 tab26 ti26 tab27 ti27 tab28 ti28 tab42 ti42 tab47 ti47 tab49 ti49 tab51 ti51 tab55 ti55 tab59 ti59 tab62 ti62 tab64 ti64 tab70 ti70 tab73 ti73 tab74 ti74 tab76 ti76 tab77 ti77 tab78 ti78 tab86 ti86 tab88 ti88 tab91 ti91 tab93 ti93 tab102 ti102 tab105 ti105 tab106 ti106 tab108 ti108 tab109 ti109 tab111 ti111 tab113 ti113 tab116 ti116 tab118 ti118 tab119 ti119 tab121 ti121 tab122 ti122 tab125 ti125 tab127 ti127 tab129 ti129 tab142 ti142 tab144 ti144 tab151 ti151 tab154 ti154
theorem mixed : Tryz.prog.follows .mixedOrders = true := by kernel_rfl
end Go.Proofs.YtcdmhigmgpflbaaGreat.Pe
