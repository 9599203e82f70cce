/-
  The table of the types.
-/
import Derived.Test.YtikcogmkchljaaaAx15
import Derived.Test.YtikcogmkchljaaaProg
import Derived.KernelRfl
namespace Go.AX.Q32
open Go Go.AX Go.Proofs
set_option maxRecDepth 100000
def ti3 : TI := ⟨.int .i64, 1, 8, [.val (.int .i64 0)]⟩
def ti4 : TI := ⟨.bool, 1, 1, [.val (.bool false)]⟩
def ti5 : TI := ⟨.int .u8, 1, 1, [.val (.int .u8 0)]⟩
def ti9 : TI := ⟨.str, 1, 16, [.val (.string ByteArray.empty)]⟩
def ti22 : TI := ⟨.struct [(0, 1, 3), (1, 1, 3), (2, 1, 3), (3, 1, 3), (4, 1, 3), (5, 1, 4)], 6, 48, [.val (.int .i64 0), .val (.int .i64 0), .val (.int .i64 0), .val (.int .i64 0), .val (.int .i64 0), .val (.bool false)]⟩
def ti23 : TI := ⟨.struct [(0, 1, 3), (1, 1, 3), (2, 1, 3), (3, 1, 3), (4, 1, 3), (5, 1, 4)], 6, 48, [.val (.int .i64 0), .val (.int .i64 0), .val (.int .i64 0), .val (.int .i64 0), .val (.int .i64 0), .val (.bool false)]⟩
def ti24 : TI := ⟨.slice 3, 1, 24, [.nil 1]⟩
def ti25 : TI := ⟨.ptr, 1, 8, [.val (.pointer none)]⟩
def ti29 : TI := ⟨.slice 23, 1, 24, [.nil 6]⟩
def ti30 : TI := ⟨.slice 5, 1, 24, [.nil 1]⟩
def ti31 : TI := ⟨.int .i64, 1, 8, [.val (.int .i64 0)]⟩
def ti36 : TI := ⟨.struct [(0, 1, 3), (1, 1, 30)], 2, 32, [.val (.int .i64 0), .nil 1]⟩
def ti37 : TI := ⟨.struct [(0, 1, 3), (1, 1, 30)], 2, 32, [.val (.int .i64 0), .nil 1]⟩
def ti39 : TI := ⟨.slice 37, 1, 24, [.nil 2]⟩
def ti61 : TI := ⟨.struct [(0, 1, 24), (1, 1, 3)], 2, 32, [.nil 1, .val (.int .i64 0)]⟩
def ti62 : TI := ⟨.struct [(0, 1, 24), (1, 1, 3)], 2, 32, [.nil 1, .val (.int .i64 0)]⟩
def ti65 : TI := ⟨.fn, 1, 8, [.val .nilFunc]⟩
def ti73 : TI := ⟨.int .u64, 1, 8, [.val (.int .u64 0)]⟩
def tt : TT := (.node 30 ti30 (.node 22 ti22 (.node 5 ti5 (.node 4 ti4 (.node 3 ti3 .tip .tip) .tip) (.node 9 ti9 .tip .tip)) (.node 25 ti25 (.node 24 ti24 (.node 23 ti23 .tip .tip) .tip) (.node 29 ti29 .tip .tip))) (.node 61 ti61 (.node 37 ti37 (.node 36 ti36 (.node 31 ti31 .tip .tip) .tip) (.node 39 ti39 .tip .tip)) (.node 65 ti65 (.node 62 ti62 .tip .tip) (.node 73 ti73 .tip .tip))))
theorem tabOk : TabOk Try.prog tt := tabB_ok (by kernel_rfl)
end Go.AX.Q32
