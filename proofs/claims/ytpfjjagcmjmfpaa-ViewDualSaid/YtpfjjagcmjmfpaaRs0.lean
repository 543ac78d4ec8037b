/- Accesses and results. -/
import Derived.Test.YtpfjjagcmjmfpaaGAr
set_option linter.unusedSimpArgs false
set_option linter.unusedVariables false
namespace Go.Ct
open Go Go.RowKit
/-- An access; a result. -/
structure Ac where
  k : Int
  c : Int
  o : Int
  n : Int
structure Rs where
  err : Int
  found : Bool
  val : Int
  key : ByteArray
  cnt : Int
  ref : Int
  root : Int
  ro : Bool
abbrev Ac.cells (a : Ac) : List Value := [.int .i64 a.k, .int .i64 a.c, .int .i64 a.o, .int .i64 a.n]
abbrev Rs.cells (r : Rs) : List Value := [.int .i64 r.err, .bool r.found, .int .u64 r.val, .string r.key, .int .i64 r.cnt, .int .i64 r.ref, .int .i64 r.root, .bool r.ro]
abbrev Rs.zero : Rs := ⟨0, false, 0, ⟨#[]⟩, 0, 0, 0, false⟩
abbrev Ac.zero : Ac := ⟨0, 0, 0, 0⟩
theorem ac_len (a : Ac) : a.cells.length = 4 := rfl
def acC (l : List Ac) : List Value := l.flatMap Ac.cells
end Go.Ct
