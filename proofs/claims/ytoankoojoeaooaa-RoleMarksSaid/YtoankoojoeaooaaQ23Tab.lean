/-
  The table of the types.
-/
import Derived.Test.YtoankoojoeaooaaAx15
import Derived.Test.YtoankoojoeaooaaProg
import Derived.KernelRfl
namespace Go.AX.Q23
open Go Go.AX Go.Proofs
set_option maxRecDepth 100000
def ti3 : TI := ⟨.int .i64, 1, 8, [.val (.int .i64 0)]⟩
def ti4 : TI := ⟨.bool, 1, 1, [.val (.bool false)]⟩
def ti5 : TI := ⟨.int .u8, 1, 1, [.val (.int .u8 0)]⟩
def ti9 : TI := ⟨.str, 1, 16, [.val (.string ByteArray.empty)]⟩
def ti22 : TI := ⟨.slice 3, 1, 24, [.nil 1]⟩
def ti24 : TI := ⟨.slice 22, 1, 24, [.nil 1]⟩
def ti28 : TI := ⟨.slice 59, 1, 24, [.nil 2]⟩
def ti29 : TI := ⟨.int .u64, 1, 8, [.val (.int .u64 0)]⟩
def ti30 : TI := ⟨.struct [(0, 1, 4), (1, 1, 29), (2, 1, 29)], 3, 24, [.val (.bool false), .val (.int .u64 0), .val (.int .u64 0)]⟩
def ti31 : TI := ⟨.struct [(0, 1, 4), (1, 1, 29), (2, 1, 29)], 3, 24, [.val (.bool false), .val (.int .u64 0), .val (.int .u64 0)]⟩
def ti32 : TI := ⟨.slice 72, 1, 24, [.nil 2]⟩
def ti33 : TI := ⟨.slice 74, 1, 24, [.nil 3]⟩
def ti34 : TI := ⟨.slice 62, 1, 24, [.nil 3]⟩
def ti35 : TI := ⟨.struct [(0, 1, 3), (1, 1, 28), (2, 3, 31), (5, 1, 3), (6, 1, 3), (7, 1, 3), (8, 1, 32), (9, 1, 33), (10, 1, 34)], 11, 152, [.val (.int .i64 0), .nil 2, .val (.bool false), .val (.int .u64 0), .val (.int .u64 0), .val (.int .i64 0), .val (.int .i64 0), .val (.int .i64 0), .nil 2, .nil 3, .nil 3]⟩
def ti36 : TI := ⟨.struct [(0, 1, 3), (1, 1, 28), (2, 3, 31), (5, 1, 3), (6, 1, 3), (7, 1, 3), (8, 1, 32), (9, 1, 33), (10, 1, 34)], 11, 152, [.val (.int .i64 0), .nil 2, .val (.bool false), .val (.int .u64 0), .val (.int .u64 0), .val (.int .i64 0), .val (.int .i64 0), .val (.int .i64 0), .nil 2, .nil 3, .nil 3]⟩
def ti38 : TI := ⟨.ptr, 1, 8, [.val (.pointer none)]⟩
def ti41 : TI := ⟨.slice 36, 1, 24, [.nil 11]⟩
def ti42 : TI := ⟨.int .i64, 1, 8, [.val (.int .i64 0)]⟩
def ti47 : TI := ⟨.slice 57, 1, 24, [.nil 3]⟩
def ti49 : TI := ⟨.slice 47, 1, 24, [.nil 1]⟩
def ti54 : TI := ⟨.arr 5 3, 5, 40, [.val (.int .i64 0), .val (.int .i64 0), .val (.int .i64 0), .val (.int .i64 0), .val (.int .i64 0)]⟩
def ti56 : TI := ⟨.struct [(0, 1, 3), (1, 1, 3), (2, 1, 3)], 3, 24, [.val (.int .i64 0), .val (.int .i64 0), .val (.int .i64 0)]⟩
def ti57 : TI := ⟨.struct [(0, 1, 3), (1, 1, 3), (2, 1, 3)], 3, 24, [.val (.int .i64 0), .val (.int .i64 0), .val (.int .i64 0)]⟩
def ti58 : TI := ⟨.struct [(0, 1, 4), (1, 1, 22)], 2, 32, [.val (.bool false), .nil 1]⟩
def ti59 : TI := ⟨.struct [(0, 1, 4), (1, 1, 22)], 2, 32, [.val (.bool false), .nil 1]⟩
def ti60 : TI := ⟨.slice 5, 1, 24, [.nil 1]⟩
def ti61 : TI := ⟨.struct [(0, 1, 3), (1, 1, 3), (2, 1, 60)], 3, 40, [.val (.int .i64 0), .val (.int .i64 0), .nil 1]⟩
def ti62 : TI := ⟨.struct [(0, 1, 3), (1, 1, 3), (2, 1, 60)], 3, 40, [.val (.int .i64 0), .val (.int .i64 0), .nil 1]⟩
def ti63 : TI := ⟨.struct [(0, 1, 22), (1, 1, 3)], 2, 32, [.nil 1, .val (.int .i64 0)]⟩
def ti64 : TI := ⟨.struct [(0, 1, 22), (1, 1, 3)], 2, 32, [.nil 1, .val (.int .i64 0)]⟩
def ti71 : TI := ⟨.struct [(0, 1, 3), (1, 1, 3)], 2, 16, [.val (.int .i64 0), .val (.int .i64 0)]⟩
def ti72 : TI := ⟨.struct [(0, 1, 3), (1, 1, 3)], 2, 16, [.val (.int .i64 0), .val (.int .i64 0)]⟩
def ti73 : TI := ⟨.struct [(0, 1, 3), (1, 1, 3), (2, 1, 3)], 3, 24, [.val (.int .i64 0), .val (.int .i64 0), .val (.int .i64 0)]⟩
def ti74 : TI := ⟨.struct [(0, 1, 3), (1, 1, 3), (2, 1, 3)], 3, 24, [.val (.int .i64 0), .val (.int .i64 0), .val (.int .i64 0)]⟩
def ti76 : TI := ⟨.int .u64, 1, 8, [.val (.int .u64 0)]⟩
def tt : TT := (.node 42 ti42 (.node 30 ti30 (.node 22 ti22 (.node 5 ti5 (.node 4 ti4 (.node 3 ti3 .tip .tip) .tip) (.node 9 ti9 .tip .tip)) (.node 28 ti28 (.node 24 ti24 .tip .tip) (.node 29 ti29 .tip .tip))) (.node 35 ti35 (.node 33 ti33 (.node 32 ti32 (.node 31 ti31 .tip .tip) .tip) (.node 34 ti34 .tip .tip)) (.node 38 ti38 (.node 36 ti36 .tip .tip) (.node 41 ti41 .tip .tip)))) (.node 61 ti61 (.node 57 ti57 (.node 54 ti54 (.node 49 ti49 (.node 47 ti47 .tip .tip) .tip) (.node 56 ti56 .tip .tip)) (.node 59 ti59 (.node 58 ti58 .tip .tip) (.node 60 ti60 .tip .tip))) (.node 72 ti72 (.node 64 ti64 (.node 63 ti63 (.node 62 ti62 .tip .tip) .tip) (.node 71 ti71 .tip .tip)) (.node 74 ti74 (.node 73 ti73 .tip .tip) (.node 76 ti76 .tip .tip)))))
theorem tabOk : TabOk Try.prog tt := tabB_ok (by kernel_rfl)
end Go.AX.Q23
