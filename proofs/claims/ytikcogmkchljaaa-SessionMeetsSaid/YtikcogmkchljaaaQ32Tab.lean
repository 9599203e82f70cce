/-
  The table of the types.
-/
import Derived.Test.YtikcogmkchljaaaAx15
import Derived.Test.YtikcogmkchljaaaProg
import Derived.KernelRfl
namespace Go.AX.Q32
open Go Go.AX Go.Proofs
set_option maxRecDepth 100000
def ti3 : TI := ⟨.int .i64, 1, 8, [.val (.int .i64 0)]⟩
def ti4 : TI := ⟨.bool, 1, 1, [.val (.bool false)]⟩
def ti5 : TI := ⟨.int .u8, 1, 1, [.val (.int .u8 0)]⟩
def ti9 : TI := ⟨.str, 1, 16, [.val (.string ByteArray.empty)]⟩
def ti22 : TI := ⟨.struct [(0, 1, 3), (1, 1, 3), (2, 1, 3), (3, 1, 3), (4, 1, 3), (5, 1, 4)], 6, 48, [.val (.int .i64 0), .val (.int .i64 0), .val (.int .i64 0), .val (.int .i64 0), .val (.int .i64 0), .val (.bool false)]⟩
def ti23 : TI := ⟨.struct [(0, 1, 3), (1, 1, 3), (2, 1, 3), (3, 1, 3), (4, 1, 3), (5, 1, 4)], 6, 48, [.val (.int .i64 0), .val (.int .i64 0), .val (.int .i64 0), .val (.int .i64 0), .val (.int .i64 0), .val (.bool false)]⟩
def ti24 : TI := ⟨.slice 3, 1, 24, [.nil 1]⟩
def ti25 : TI := ⟨.ptr, 1, 8, [.val (.pointer none)]⟩
def ti29 : TI := ⟨.slice 23, 1, 24, [.nil 6]⟩
def ti30 : TI := ⟨.slice 5, 1, 24, [.nil 1]⟩
def ti31 : TI := ⟨.int .i64, 1, 8, [.val (.int .i64 0)]⟩
def ti36 : TI := ⟨.struct [(0, 1, 3), (1, 1, 30)], 2, 32, [.val (.int .i64 0), .nil 1]⟩
def ti37 : TI := ⟨.struct [(0, 1, 3), (1, 1, 30)], 2, 32, [.val (.int .i64 0), .nil 1]⟩
def ti39 : TI := ⟨.slice 37, 1, 24, [.nil 2]⟩
def ti44 : TI := ⟨.slice 30, 1, 24, [.nil 1]⟩
def ti49 : TI := ⟨.struct [(0, 1, 3), (1, 6, 23), (7, 1, 3), (8, 6, 23), (14, 1, 3), (15, 1, 3)], 16, 128, [.val (.int .i64 0), .val (.int .i64 0), .val (.int .i64 0), .val (.int .i64 0), .val (.int .i64 0), .val (.int .i64 0), .val (.bool false), .val (.int .i64 0), .val (.int .i64 0), .val (.int .i64 0), .val (.int .i64 0), .val (.int .i64 0), .val (.int .i64 0), .val (.bool false), .val (.int .i64 0), .val (.int .i64 0)]⟩
def ti50 : TI := ⟨.struct [(0, 1, 3), (1, 6, 23), (7, 1, 3), (8, 6, 23), (14, 1, 3), (15, 1, 3)], 16, 128, [.val (.int .i64 0), .val (.int .i64 0), .val (.int .i64 0), .val (.int .i64 0), .val (.int .i64 0), .val (.int .i64 0), .val (.bool false), .val (.int .i64 0), .val (.int .i64 0), .val (.int .i64 0), .val (.int .i64 0), .val (.int .i64 0), .val (.int .i64 0), .val (.bool false), .val (.int .i64 0), .val (.int .i64 0)]⟩
def ti51 : TI := ⟨.slice 50, 1, 24, [.nil 16]⟩
def ti61 : TI := ⟨.struct [(0, 1, 24), (1, 1, 3)], 2, 32, [.nil 1, .val (.int .i64 0)]⟩
def ti62 : TI := ⟨.struct [(0, 1, 24), (1, 1, 3)], 2, 32, [.nil 1, .val (.int .i64 0)]⟩
def ti65 : TI := ⟨.fn, 1, 8, [.val .nilFunc]⟩
def ti66 : TI := ⟨.ptr, 1, 8, [.val (.pointer none)]⟩
def ti67 : TI := ⟨.struct [(0, 1, 30), (1, 1, 4)], 2, 32, [.nil 1, .val (.bool false)]⟩
def ti68 : TI := ⟨.struct [(0, 1, 30), (1, 1, 4)], 2, 32, [.nil 1, .val (.bool false)]⟩
def ti69 : TI := ⟨.map 3 3, 1, 8, [.val (.map none)]⟩
def ti73 : TI := ⟨.int .u64, 1, 8, [.val (.int .u64 0)]⟩
def ti77 : TI := ⟨.ptr, 1, 8, [.val (.pointer none)]⟩
def ti85 : TI := ⟨.map 5 4, 1, 8, [.val (.map none)]⟩
def ti86 : TI := ⟨.map 5 3, 1, 8, [.val (.map none)]⟩
def ti87 : TI := ⟨.arr 5 3, 5, 40, [.val (.int .i64 0), .val (.int .i64 0), .val (.int .i64 0), .val (.int .i64 0), .val (.int .i64 0)]⟩
def tt : TT := (.node 49 ti49 (.node 25 ti25 (.node 9 ti9 (.node 4 ti4 (.node 3 ti3 .tip .tip) (.node 5 ti5 .tip .tip)) (.node 23 ti23 (.node 22 ti22 .tip .tip) (.node 24 ti24 .tip .tip))) (.node 36 ti36 (.node 30 ti30 (.node 29 ti29 .tip .tip) (.node 31 ti31 .tip .tip)) (.node 39 ti39 (.node 37 ti37 .tip .tip) (.node 44 ti44 .tip .tip)))) (.node 68 ti68 (.node 62 ti62 (.node 51 ti51 (.node 50 ti50 .tip .tip) (.node 61 ti61 .tip .tip)) (.node 66 ti66 (.node 65 ti65 .tip .tip) (.node 67 ti67 .tip .tip))) (.node 85 ti85 (.node 73 ti73 (.node 69 ti69 .tip .tip) (.node 77 ti77 .tip .tip)) (.node 87 ti87 (.node 86 ti86 .tip .tip) .tip))))
theorem tabOk : TabOk Try.prog tt := tabB_ok (by kernel_rfl)
end Go.AX.Q32
