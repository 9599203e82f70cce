/-
  A text of the proof: see the text that is imported last.
-/
import Derived.Test.YtoankoojoeaooaaAx15
import Derived.Test.YtoankoojoeaooaaProg
import Derived.KernelRfl
namespace Go.AX.Q23
open Go Go.AX Go.Proofs
def ti1 : TI := ⟨.fn, 1, 8, [.val .nilFunc]⟩
def ti2 : TI := ⟨.int .i64, 1, 8, [.val (.int .i64 0)]⟩
def ti3 : TI := ⟨.int .i64, 1, 8, [.val (.int .i64 0)]⟩
def ti4 : TI := ⟨.bool, 1, 1, [.val (.bool false)]⟩
def ti5 : TI := ⟨.int .u8, 1, 1, [.val (.int .u8 0)]⟩
def ti6 : TI := ⟨.int .u8, 1, 1, [.val (.int .u8 0)]⟩
def ti7 : TI := ⟨.struct [(0, 1, 2), (1, 1, 3), (2, 1, 4), (3, 1, 6)], 4, 24, [.val (.int .i64 0), .val (.int .i64 0), .val (.bool false), .val (.int .u8 0)]⟩
def ti8 : TI := ⟨.struct [(0, 1, 2), (1, 1, 3), (2, 1, 4), (3, 1, 6)], 4, 24, [.val (.int .i64 0), .val (.int .i64 0), .val (.bool false), .val (.int .u8 0)]⟩
def ti9 : TI := ⟨.str, 1, 16, [.val (.string ByteArray.empty)]⟩
def ti10 : TI := ⟨.str, 1, 16, [.val (.string ByteArray.empty)]⟩
def ti11 : TI := ⟨.str, 1, 16, [.val (.string ByteArray.empty)]⟩
def ti12 : TI := ⟨.int .u64, 1, 8, [.val (.int .u64 0)]⟩
def ti15 : TI := ⟨.ptr, 1, 8, [.val (.pointer none)]⟩
def ti16 : TI := ⟨.ptr, 1, 8, [.val (.pointer none)]⟩
def ti17 : TI := ⟨.ptr, 1, 8, [.val (.pointer none)]⟩
def ti21 : TI := ⟨.int .i32, 1, 4, [.val (.int .i32 0)]⟩
def ti22 : TI := ⟨.slice 3, 1, 24, [.nil 1]⟩
def ti23 : TI := ⟨.fn, 1, 8, [.val .nilFunc]⟩
def ti24 : TI := ⟨.slice 22, 1, 24, [.nil 1]⟩
def ti25 : TI := ⟨.fn, 1, 8, [.val .nilFunc]⟩
def ti26 : TI := ⟨.fn, 1, 8, [.val .nilFunc]⟩
def ti27 : TI := ⟨.fn, 1, 8, [.val .nilFunc]⟩
def ti28 : TI := ⟨.slice 59, 1, 24, [.nil 2]⟩
def ti29 : TI := ⟨.int .u64, 1, 8, [.val (.int .u64 0)]⟩
def ti30 : TI := ⟨.struct [(0, 1, 4), (1, 1, 29), (2, 1, 29)], 3, 24, [.val (.bool false), .val (.int .u64 0), .val (.int .u64 0)]⟩
def ti31 : TI := ⟨.struct [(0, 1, 4), (1, 1, 29), (2, 1, 29)], 3, 24, [.val (.bool false), .val (.int .u64 0), .val (.int .u64 0)]⟩
def ti32 : TI := ⟨.slice 72, 1, 24, [.nil 2]⟩
def ti33 : TI := ⟨.slice 74, 1, 24, [.nil 3]⟩
def ti34 : TI := ⟨.slice 62, 1, 24, [.nil 3]⟩
def ti35 : TI := ⟨.struct [(0, 1, 3), (1, 1, 28), (2, 3, 31), (5, 1, 3), (6, 1, 3), (7, 1, 3), (8, 1, 32), (9, 1, 33), (10, 1, 34)], 11, 152, [.val (.int .i64 0), .nil 2, .val (.bool false), .val (.int .u64 0), .val (.int .u64 0), .val (.int .i64 0), .val (.int .i64 0), .val (.int .i64 0), .nil 2, .nil 3, .nil 3]⟩
def ti36 : TI := ⟨.struct [(0, 1, 3), (1, 1, 28), (2, 3, 31), (5, 1, 3), (6, 1, 3), (7, 1, 3), (8, 1, 32), (9, 1, 33), (10, 1, 34)], 11, 152, [.val (.int .i64 0), .nil 2, .val (.bool false), .val (.int .u64 0), .val (.int .u64 0), .val (.int .i64 0), .val (.int .i64 0), .val (.int .i64 0), .nil 2, .nil 3, .nil 3]⟩
def ti37 : TI := ⟨.fn, 1, 8, [.val .nilFunc]⟩
def ti38 : TI := ⟨.ptr, 1, 8, [.val (.pointer none)]⟩
def ti39 : TI := ⟨.fn, 1, 8, [.val .nilFunc]⟩
def ti40 : TI := ⟨.fn, 1, 8, [.val .nilFunc]⟩
def ti41 : TI := ⟨.slice 36, 1, 24, [.nil 11]⟩
def ti42 : TI := ⟨.int .i64, 1, 8, [.val (.int .i64 0)]⟩
def ti44 : TI := ⟨.fn, 1, 8, [.val .nilFunc]⟩
def ti45 : TI := ⟨.fn, 1, 8, [.val .nilFunc]⟩
def ti46 : TI := ⟨.fn, 1, 8, [.val .nilFunc]⟩
def ti47 : TI := ⟨.slice 57, 1, 24, [.nil 3]⟩
def ti48 : TI := ⟨.fn, 1, 8, [.val .nilFunc]⟩
def ti49 : TI := ⟨.slice 47, 1, 24, [.nil 1]⟩
def ti50 : TI := ⟨.fn, 1, 8, [.val .nilFunc]⟩
def ti51 : TI := ⟨.fn, 1, 8, [.val .nilFunc]⟩
def ti52 : TI := ⟨.fn, 1, 8, [.val .nilFunc]⟩
def ti53 : TI := ⟨.fn, 1, 8, [.val .nilFunc]⟩
def ti54 : TI := ⟨.arr 5 3, 5, 40, [.val (.int .i64 0), .val (.int .i64 0), .val (.int .i64 0), .val (.int .i64 0), .val (.int .i64 0)]⟩
def ti55 : TI := ⟨.fn, 1, 8, [.val .nilFunc]⟩
def ti56 : TI := ⟨.struct [(0, 1, 3), (1, 1, 3), (2, 1, 3)], 3, 24, [.val (.int .i64 0), .val (.int .i64 0), .val (.int .i64 0)]⟩
def ti57 : TI := ⟨.struct [(0, 1, 3), (1, 1, 3), (2, 1, 3)], 3, 24, [.val (.int .i64 0), .val (.int .i64 0), .val (.int .i64 0)]⟩
def ti58 : TI := ⟨.struct [(0, 1, 4), (1, 1, 22)], 2, 32, [.val (.bool false), .nil 1]⟩
def ti59 : TI := ⟨.struct [(0, 1, 4), (1, 1, 22)], 2, 32, [.val (.bool false), .nil 1]⟩
def ti60 : TI := ⟨.slice 5, 1, 24, [.nil 1]⟩
def ti61 : TI := ⟨.struct [(0, 1, 3), (1, 1, 3), (2, 1, 60)], 3, 40, [.val (.int .i64 0), .val (.int .i64 0), .nil 1]⟩
def ti62 : TI := ⟨.struct [(0, 1, 3), (1, 1, 3), (2, 1, 60)], 3, 40, [.val (.int .i64 0), .val (.int .i64 0), .nil 1]⟩
def ti63 : TI := ⟨.struct [(0, 1, 22), (1, 1, 3)], 2, 32, [.nil 1, .val (.int .i64 0)]⟩
def ti64 : TI := ⟨.struct [(0, 1, 22), (1, 1, 3)], 2, 32, [.nil 1, .val (.int .i64 0)]⟩
def ti65 : TI := ⟨.fn, 1, 8, [.val .nilFunc]⟩
def ti66 : TI := ⟨.fn, 1, 8, [.val .nilFunc]⟩
def ti67 : TI := ⟨.fn, 1, 8, [.val .nilFunc]⟩
def ti68 : TI := ⟨.fn, 1, 8, [.val .nilFunc]⟩
def ti69 : TI := ⟨.fn, 1, 8, [.val .nilFunc]⟩
def ti70 : TI := ⟨.fn, 1, 8, [.val .nilFunc]⟩
def ti71 : TI := ⟨.struct [(0, 1, 3), (1, 1, 3)], 2, 16, [.val (.int .i64 0), .val (.int .i64 0)]⟩
def ti72 : TI := ⟨.struct [(0, 1, 3), (1, 1, 3)], 2, 16, [.val (.int .i64 0), .val (.int .i64 0)]⟩
def ti73 : TI := ⟨.struct [(0, 1, 3), (1, 1, 3), (2, 1, 3)], 3, 24, [.val (.int .i64 0), .val (.int .i64 0), .val (.int .i64 0)]⟩
def ti74 : TI := ⟨.struct [(0, 1, 3), (1, 1, 3), (2, 1, 3)], 3, 24, [.val (.int .i64 0), .val (.int .i64 0), .val (.int .i64 0)]⟩
def ti75 : TI := ⟨.fn, 1, 8, [.val .nilFunc]⟩
def ti76 : TI := ⟨.int .u64, 1, 8, [.val (.int .u64 0)]⟩
def ti77 : TI := ⟨.fn, 1, 8, [.val .nilFunc]⟩
def ti78 : TI := ⟨.fn, 1, 8, [.val .nilFunc]⟩
def ti79 : TI := ⟨.fn, 1, 8, [.val .nilFunc]⟩
def ti80 : TI := ⟨.fn, 1, 8, [.val .nilFunc]⟩
def ti81 : TI := ⟨.fn, 1, 8, [.val .nilFunc]⟩
def ti84 : TI := ⟨.arr 0 16, 0, 0, []⟩
def ti87 : TI := ⟨.fn, 1, 8, [.val .nilFunc]⟩
def ti88 : TI := ⟨.int .u32, 1, 4, [.val (.int .u32 0)]⟩
def ti89 : TI := ⟨.int .u8, 1, 1, [.val (.int .u8 0)]⟩
def ti90 : TI := ⟨.int .u8, 1, 1, [.val (.int .u8 0)]⟩
def ti91 : TI := ⟨.fn, 1, 8, [.val .nilFunc]⟩
def ti92 : TI := ⟨.ptr, 1, 8, [.val (.pointer none)]⟩
def ti93 : TI := ⟨.int .i32, 1, 4, [.val (.int .i32 0)]⟩
def ti94 : TI := ⟨.int .i32, 1, 4, [.val (.int .i32 0)]⟩
def tt : TT := (.node 49 ti49 (.node 27 ti27 (.node 11 ti11 (.node 6 ti6 (.node 3 ti3 (.node 2 ti2 (.node 1 ti1 .tip .tip) .tip) (.node 5 ti5 (.node 4 ti4 .tip .tip) .tip)) (.node 9 ti9 (.node 8 ti8 (.node 7 ti7 .tip .tip) .tip) (.node 10 ti10 .tip .tip))) (.node 22 ti22 (.node 16 ti16 (.node 15 ti15 (.node 12 ti12 .tip .tip) .tip) (.node 21 ti21 (.node 17 ti17 .tip .tip) .tip)) (.node 25 ti25 (.node 24 ti24 (.node 23 ti23 .tip .tip) .tip) (.node 26 ti26 .tip .tip)))) (.node 38 ti38 (.node 33 ti33 (.node 30 ti30 (.node 29 ti29 (.node 28 ti28 .tip .tip) .tip) (.node 32 ti32 (.node 31 ti31 .tip .tip) .tip)) (.node 36 ti36 (.node 35 ti35 (.node 34 ti34 .tip .tip) .tip) (.node 37 ti37 .tip .tip))) (.node 44 ti44 (.node 41 ti41 (.node 40 ti40 (.node 39 ti39 .tip .tip) .tip) (.node 42 ti42 .tip .tip)) (.node 47 ti47 (.node 46 ti46 (.node 45 ti45 .tip .tip) .tip) (.node 48 ti48 .tip .tip))))) (.node 70 ti70 (.node 60 ti60 (.node 55 ti55 (.node 52 ti52 (.node 51 ti51 (.node 50 ti50 .tip .tip) .tip) (.node 54 ti54 (.node 53 ti53 .tip .tip) .tip)) (.node 58 ti58 (.node 57 ti57 (.node 56 ti56 .tip .tip) .tip) (.node 59 ti59 .tip .tip))) (.node 65 ti65 (.node 63 ti63 (.node 62 ti62 (.node 61 ti61 .tip .tip) .tip) (.node 64 ti64 .tip .tip)) (.node 68 ti68 (.node 67 ti67 (.node 66 ti66 .tip .tip) .tip) (.node 69 ti69 .tip .tip)))) (.node 81 ti81 (.node 76 ti76 (.node 73 ti73 (.node 72 ti72 (.node 71 ti71 .tip .tip) .tip) (.node 75 ti75 (.node 74 ti74 .tip .tip) .tip)) (.node 79 ti79 (.node 78 ti78 (.node 77 ti77 .tip .tip) .tip) (.node 80 ti80 .tip .tip))) (.node 90 ti90 (.node 88 ti88 (.node 87 ti87 (.node 84 ti84 .tip .tip) .tip) (.node 89 ti89 .tip .tip)) (.node 93 ti93 (.node 92 ti92 (.node 91 ti91 .tip .tip) .tip) (.node 94 ti94 .tip .tip))))))
theorem tabOk : TabOk Try.prog tt := tabB_ok (by kernel_rfl)
end Go.AX.Q23
