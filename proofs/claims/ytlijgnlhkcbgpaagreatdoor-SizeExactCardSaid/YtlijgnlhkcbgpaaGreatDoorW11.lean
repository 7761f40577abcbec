/- Parts of a proof: Zy, Rg. -/
import Derived.Test.YtlijgnlhkcbgpaaGreatDoorW10
import Derived.Test.YtlijgnlhkcbgpaaGreatDoorW08
set_option linter.unusedVariables false
set_option linter.unusedSimpArgs false
set_option maxRecDepth 100000
set_option maxHeartbeats 4000000
section
namespace Go.Q9
open Go.Proofs.Tryz
open Go.E
instance:Jn prog 112 [.int .i64 0,.int .i64 0,.int .i64 0,.int .u64 0,.slice none 0 0,.int .u64 0,.string .empty,.int .u64 0,.slice none 0 0,.int .i64 0,.int .i64 0,.int .i64 0,.int .i64 0,.int .i64 0] [(0,1),(1,1),(2,1),(3,1),(4,1),(5,1),(6,1),(7,1),(8,1),(9,1),(10,1),(11,1),(12,1),(13,1)]:=⟨by kernel_rfl⟩
instance:Fo prog 67 0 0:=⟨by kernel_rfl⟩
instance:Fo prog 67 1 1:=⟨by kernel_rfl⟩
instance:Fo prog 67 2 2:=⟨by kernel_rfl⟩
instance:Fo prog 69 0 0:=⟨by kernel_rfl⟩
instance:Fo prog 69 1 3:=⟨by kernel_rfl⟩
instance:Fo prog 112 0 0:=⟨by kernel_rfl⟩
instance:Fo prog 112 13 13:=⟨by kernel_rfl⟩
instance:Fo prog 112 2 2:=⟨by kernel_rfl⟩
instance:Fo prog 112 4 4:=⟨by kernel_rfl⟩
instance:Fo prog 112 8 8:=⟨by kernel_rfl⟩
instance:Fo prog 112 9 9:=⟨by kernel_rfl⟩
instance:One prog 3:=⟨by kernel_rfl⟩
instance:One prog 45:=⟨by kernel_rfl⟩
instance:One prog 40:=⟨by kernel_rfl⟩
instance:One prog 64:=⟨by kernel_rfl⟩
instance:One prog 65:=⟨by kernel_rfl⟩
instance:Row prog 112 14:=⟨by kernel_rfl⟩
instance:fR prog 40 146:=⟨by kernel_rfl⟩
instance:fR prog 64 112:=⟨by kernel_rfl⟩
instance:fR prog 65 45:=⟨by kernel_rfl⟩
instance:Ss prog 146 (.agg [.string .empty,.int .u64 0].toArray) 2 24:=⟨by kernel_rfl⟩
instance:Ss prog 45 (.int .i64 0) 1 8:=⟨by kernel_rfl⟩
instance:Ss prog 112 (.agg [.int .i64 0,.int .i64 0,.int .i64 0,.int .u64 0,.slice none 0 0,.int .u64 0,.string .empty,.int .u64 0,.slice none 0 0,.int .i64 0,.int .i64 0,.int .i64 0,.int .i64 0,.int .i64 0].toArray) 14 152:=⟨by kernel_rfl⟩
instance:Sz prog 3 1:=⟨by kernel_rfl⟩
instance:Sz prog 24 1:=⟨by kernel_rfl⟩
instance:Sz prog 45 1:=⟨by kernel_rfl⟩
instance:Sz prog 40 1:=⟨by kernel_rfl⟩
instance:Sz prog 64 1:=⟨by kernel_rfl⟩
instance:Sz prog 65 1:=⟨by kernel_rfl⟩
instance:Sz prog 112 14:=⟨by kernel_rfl⟩
instance:Zc prog 112 [.int .i64 0,.int .i64 0,.int .i64 0,.int .u64 0,.slice none 0 0,.int .u64 0,.string .empty,.int .u64 0,.slice none 0 0,.int .i64 0,.int .i64 0,.int .i64 0,.int .i64 0,.int .i64 0]:=⟨by kernel_rfl⟩
instance:Jn prog 75 [.int .i64 0,.int .i64 0,.int .i64 0,.int .i64 0] [(0,1),(1,1),(2,1),(3,1)]:=⟨by kernel_rfl⟩
instance:Fo prog 77 0 0:=⟨by kernel_rfl⟩
instance:Fo prog 77 10 34:=⟨by kernel_rfl⟩
instance:Fo prog 77 11 35:=⟨by kernel_rfl⟩
instance:Fo prog 77 12 36:=⟨by kernel_rfl⟩
instance:Fo prog 77 2 26:=⟨by kernel_rfl⟩
instance:Fo prog 77 3 27:=⟨by kernel_rfl⟩
instance:Fo prog 77 4 28:=⟨by kernel_rfl⟩
instance:Fo prog 77 5 29:=⟨by kernel_rfl⟩
instance:Fo prog 77 6 30:=⟨by kernel_rfl⟩
instance:Fo prog 77 7 31:=⟨by kernel_rfl⟩
instance:Fo prog 77 8 32:=⟨by kernel_rfl⟩
instance:Fo prog 77 9 33:=⟨by kernel_rfl⟩
instance:One prog 73:=⟨by kernel_rfl⟩
instance:One prog 22:=⟨by kernel_rfl⟩
instance:One prog 31:=⟨by kernel_rfl⟩
instance:One prog 24:=⟨by kernel_rfl⟩
instance:One prog 4:=⟨by kernel_rfl⟩
instance:Row prog 75 4:=⟨by kernel_rfl⟩
instance:fR prog 73 24:=⟨by kernel_rfl⟩
instance:fR prog 22 3:=⟨by kernel_rfl⟩
instance:Ss prog 3 (.int .i64 0) 1 8:=⟨by kernel_rfl⟩
instance:Ss prog 24 (.int .i64 0) 1 8:=⟨by kernel_rfl⟩
instance:Sz prog 75 4:=⟨by kernel_rfl⟩
instance:Sz prog 73 1:=⟨by kernel_rfl⟩
instance:Sz prog 22 1:=⟨by kernel_rfl⟩
instance:Sz prog 4 1:=⟨by kernel_rfl⟩
instance:Fo prog 26 0 0:=⟨by kernel_rfl⟩
instance:HH prog 112 0 0:=⟨by kernel_rfl⟩
instance:HH prog 112 10 10:=⟨by kernel_rfl⟩
instance:HH prog 112 12 12:=⟨by kernel_rfl⟩
instance:HH prog 112 13 13:=⟨by kernel_rfl⟩
instance:Fo prog 26 1 1:=⟨by kernel_rfl⟩
instance:HH prog 112 1 1:=⟨by kernel_rfl⟩
instance:HH prog 112 11 11:=⟨by kernel_rfl⟩
instance:HH prog 112 2 2:=⟨by kernel_rfl⟩
instance:HH prog 112 9 9:=⟨by kernel_rfl⟩
instance:Row prog 26 2:=⟨by kernel_rfl⟩
instance:Jn prog 146 [.string .empty,.int .u64 0] [(0,1),(1,1)]:=⟨by kernel_rfl⟩
instance:Fo prog 146 0 0:=⟨by kernel_rfl⟩
instance:Fo prog 146 1 1:=⟨by kernel_rfl⟩
instance:One prog 32:=⟨by kernel_rfl⟩
instance:One prog 9:=⟨by kernel_rfl⟩
instance:Row prog 146 2:=⟨by kernel_rfl⟩
instance:Sz prog 146 2:=⟨by kernel_rfl⟩
instance:Fo prog 112 1 1:=⟨by kernel_rfl⟩
instance:Fo prog 112 10 10:=⟨by kernel_rfl⟩
instance:Fo prog 112 11 11:=⟨by kernel_rfl⟩
instance:Fo prog 112 12 12:=⟨by kernel_rfl⟩
instance:Fo prog 112 3 3:=⟨by kernel_rfl⟩
instance:Fo prog 112 5 5:=⟨by kernel_rfl⟩
instance:Fo prog 112 6 6:=⟨by kernel_rfl⟩
instance:Fo prog 112 7 7:=⟨by kernel_rfl⟩
instance:Sz prog 32 1:=⟨by kernel_rfl⟩
instance:Jn prog 48 [.int .i64 0,↑false,.int .u64 0,.string .empty,.int .i64 0,.int .i64 0,.int .i64 0,↑false] [(0,1),(1,1),(2,1),(3,1),(4,1),(5,1),(6,2)]:=⟨by kernel_rfl⟩
instance:Fo prog 77 1 1:=⟨by kernel_rfl⟩
instance:Fo prog 48 4 4:=⟨by kernel_rfl⟩
instance:Fo prog 50 1 1:=⟨by kernel_rfl⟩
instance:Fo prog 50 10 11:=⟨by kernel_rfl⟩
instance:Fo prog 50 11 12:=⟨by kernel_rfl⟩
instance:Fo prog 50 7 8:=⟨by kernel_rfl⟩
instance:Fo prog 50 8 9:=⟨by kernel_rfl⟩
instance:Row prog 48 8:=⟨by kernel_rfl⟩
instance:Sz prog 26 2:=⟨by kernel_rfl⟩
instance:Sz prog 48 8:=⟨by kernel_rfl⟩
instance:Zc prog 26 [.int .i64 0,↑false]:=⟨by kernel_rfl⟩
instance:Zc prog 48 [.int .i64 0,↑false,.int .u64 0,.string .empty,.int .i64 0,.int .i64 0,.int .i64 0,↑false]:=⟨by kernel_rfl⟩
instance:Fo prog 50 9 10:=⟨by kernel_rfl⟩
instance:HH prog 112 6 6:=⟨by kernel_rfl⟩
instance:HH prog 112 7 7:=⟨by kernel_rfl⟩
instance:Fo prog 50 12 13:=⟨by kernel_rfl⟩
instance:Jn prog 26 [.int .i64 0,↑false] [(0,1),(1,1)]:=⟨by kernel_rfl⟩
instance:Jn prog 195 [.int .i64 0,.int .i64 0] [(0,1),(1,1)]:=⟨by kernel_rfl⟩
instance:Jn prog 42 [↑false,.slice none 0 0,.slice none 0 0] [(0,1),(1,1),(2,1)]:=⟨by kernel_rfl⟩
instance:Fo prog 195 0 0:=⟨by kernel_rfl⟩
instance:Fo prog 195 1 1:=⟨by kernel_rfl⟩
instance:Fo prog 42 0 0:=⟨by kernel_rfl⟩
instance:Fo prog 42 1 1:=⟨by kernel_rfl⟩
instance:Fo prog 42 2 2:=⟨by kernel_rfl⟩
instance:One prog 39:=⟨by kernel_rfl⟩
instance:Row prog 195 2:=⟨by kernel_rfl⟩
instance:Row prog 42 3:=⟨by kernel_rfl⟩
instance:fR prog 39 195:=⟨by kernel_rfl⟩
instance:Ss prog 195 (.agg [.int .i64 0,.int .i64 0].toArray) 2 16:=⟨by kernel_rfl⟩
instance:Sz prog 195 2:=⟨by kernel_rfl⟩
instance:Sz prog 39 1:=⟨by kernel_rfl⟩
instance:Sz prog 42 3:=⟨by kernel_rfl⟩
instance:Zc prog 146 [.string .empty,.int .u64 0]:=⟨by kernel_rfl⟩
instance:Zc prog 195 [.int .i64 0,.int .i64 0]:=⟨by kernel_rfl⟩
instance:Zc prog 42 [↑false,.slice none 0 0,.slice none 0 0]:=⟨by kernel_rfl⟩
instance:Fo prog 77 13 40:=⟨by kernel_rfl⟩
instance:Fo prog 77 14 41:=⟨by kernel_rfl⟩
instance:Fo prog 50 0 0:=⟨by kernel_rfl⟩
instance:Row prog 50 25:=⟨by kernel_rfl⟩
instance:Sz prog 50 25:=⟨by kernel_rfl⟩
instance:Zc prog 50 [.int .i64 0,.int .i64 0,↑false,.int .i64 0,.int .i64 0,.int .i64 0,.int .i64 0,.int .u64 0,.int .u64 0,.string .empty,.int .u64 0,.int .u64 0,.int .i64 0,↑false,↑false,.slice none 0 0,.slice none 0 0,.int .i64 0,↑false,.int .u64 0,.string .empty,.int .i64 0,.int .i64 0,.int .i64 0,↑false]:=⟨by kernel_rfl⟩
instance:Zc prog 75 [.int .i64 0,.int .i64 0,.int .i64 0,.int .i64 0]:=⟨by kernel_rfl⟩
instance:Jn prog 115 [.slice none 0 0,.int .i64 0] [(0,1),(1,1)]:=⟨by kernel_rfl⟩
instance:Fo prog 115 0 0:=⟨by kernel_rfl⟩
instance:Fo prog 115 1 1:=⟨by kernel_rfl⟩
instance:Jn prog 77 [.pointer none,.int .i64 0,.int .i64 0,↑false,.int .i64 0,.int .i64 0,.int .i64 0,.int .i64 0,.int .u64 0,.int .u64 0,.string .empty,.int .u64 0,.int .u64 0,.int .i64 0,↑false,↑false,.slice none 0 0,.slice none 0 0,.int .i64 0,↑false,.int .u64 0,.string .empty,.int .i64 0,.int .i64 0,.int .i64 0,↑false,.slice none 0 0,.slice none 0 0,.slice none 0 0,.slice none 0 0,.int .i64 0,.int .i64 0,.int .i64 0,.int .i64 0,.int .i64 0,↑false,.int .i64 0,.int .i64 0,.int .i64 0,.int .i64 0,↑false,.int .i64 0,↑false,.int .u64 0,.string .empty,.int .i64 0,.int .i64 0,.int .i64 0,↑false,↑false,.slice none 0 0,.slice none 0 0] [(0,1),(1,25),(26,1),(27,1),(28,1),(29,1),(30,1),(31,1),(32,1),(33,1),(34,1),(35,1),(36,4),(40,1),(41,8),(49,3)]:=⟨by kernel_rfl⟩
instance:Jn prog 67 [.slice none 0 0,.slice none 0 0,.int .i64 0] [(0,1),(1,1),(2,1)]:=⟨by kernel_rfl⟩
instance:Jn prog 69 [.slice none 0 0,.slice none 0 0,.int .i64 0,.int .i64 0] [(0,3),(3,1)]:=⟨by kernel_rfl⟩
instance:fR prog 134 32:=⟨by kernel_rfl⟩
instance:fR prog 168 9:=⟨by kernel_rfl⟩
instance:Ss prog 32 (.int .u64 0) 1 8:=⟨by kernel_rfl⟩
instance:Ss prog 9 (.string .empty) 1 16:=⟨by kernel_rfl⟩
instance:Sz prog 9 1:=⟨by kernel_rfl⟩
instance:Jn prog 50 [.int .i64 0,.int .i64 0,↑false,.int .i64 0,.int .i64 0,.int .i64 0,.int .i64 0,.int .u64 0,.int .u64 0,.string .empty,.int .u64 0,.int .u64 0,.int .i64 0,↑false,↑false,.slice none 0 0,.slice none 0 0,.int .i64 0,↑false,.int .u64 0,.string .empty,.int .i64 0,.int .i64 0,.int .i64 0,↑false] [(0,1),(1,2),(3,1),(4,1),(5,1),(6,1),(7,1),(8,1),(9,1),(10,1),(11,1),(12,1),(13,1),(14,3),(17,8)]:=⟨by kernel_rfl⟩
instance:Fo prog 36 1 1:=⟨by kernel_rfl⟩
instance:Fo prog 36 2 2:=⟨by kernel_rfl⟩
instance:One prog 33:=⟨by kernel_rfl⟩
instance:fR prog 33 26:=⟨by kernel_rfl⟩
instance:Fo prog 36 3 3:=⟨by kernel_rfl⟩
instance:Fo prog 48 6 6:=⟨by kernel_rfl⟩
instance:One prog 34:=⟨by kernel_rfl⟩
instance:fR prog 34 43:=⟨by kernel_rfl⟩
instance:Ss prog 26 (.agg [.int .i64 0,↑false].toArray) 2 16:=⟨by kernel_rfl⟩
instance:Ss prog 43 (.pointer none) 1 8:=⟨by kernel_rfl⟩
instance:Sz prog 33 1:=⟨by kernel_rfl⟩
instance:Sz prog 34 1:=⟨by kernel_rfl⟩
instance:Fo prog 36 0 0:=⟨by kernel_rfl⟩
instance:Jn prog 36 [.pointer none,.int .u64 0,.slice none 0 0,.slice none 0 0] [(0,1),(1,1),(2,1),(3,1)]:=⟨by kernel_rfl⟩
instance:One prog 43:=⟨by kernel_rfl⟩
instance:Sz prog 43 1:=⟨by kernel_rfl⟩
instance:Fo prog 110 0 0:=⟨by kernel_rfl⟩
instance:Fo prog 110 1 1:=⟨by kernel_rfl⟩
instance:Fo prog 110 2 2:=⟨by kernel_rfl⟩
instance:Fo prog 110 3 3:=⟨by kernel_rfl⟩
instance:Jn prog 91 [.int .i64 0,.int .i64 0,.int .i64 0,.int .i64 0,.nilFunc,.nilFunc,.int .i64 0,↑false,.int .u64 0,.string .empty,.int .i64 0,.int .i64 0,.int .i64 0,↑false] [(0,4),(4,1),(5,1),(6,8)]:=⟨by kernel_rfl⟩
instance:Fo prog 201 0 0:=⟨by kernel_rfl⟩
instance:Fo prog 201 1 1:=⟨by kernel_rfl⟩
instance:One prog 86:=⟨by kernel_rfl⟩
instance:One prog 88:=⟨by kernel_rfl⟩
instance:One prog 89:=⟨by kernel_rfl⟩
instance:One prog 93:=⟨by kernel_rfl⟩
instance:Row prog 201 3:=⟨by kernel_rfl⟩
instance:Row prog 91 14:=⟨by kernel_rfl⟩
instance:Sz prog 89 1:=⟨by kernel_rfl⟩
instance:Sz prog 91 14:=⟨by kernel_rfl⟩
instance:Zc prog 89 [.nilFunc]:=⟨by kernel_rfl⟩
instance:Zc prog 91 [.int .i64 0,.int .i64 0,.int .i64 0,.int .i64 0,.nilFunc,.nilFunc,.int .i64 0,↑false,.int .u64 0,.string .empty,.int .i64 0,.int .i64 0,.int .i64 0,↑false]:=⟨by kernel_rfl⟩
instance:Zc prog 24 [.int .i64 0]:=⟨by kernel_rfl⟩
instance:Zc prog 45 [.int .i64 0]:=⟨by kernel_rfl⟩
instance:Jn prog 123 [.nilIface,.int .i64 0,.int .i64 0,.int .i64 0,.int .i64 0,.nilFunc,.nilFunc,.int .i64 0,↑false,.int .u64 0,.string .empty,.int .i64 0,.int .i64 0,.int .i64 0,↑false,.int .i64 0,↑false] [(0,1),(1,14),(15,1),(16,1)]:=⟨by kernel_rfl⟩
instance:Fo prog 75 0 0:=⟨by kernel_rfl⟩
instance:Fo prog 91 0 0:=⟨by kernel_rfl⟩
instance:Fo prog 91 3 6:=⟨by kernel_rfl⟩
instance:Fo prog 123 0 0:=⟨by kernel_rfl⟩
instance:Fo prog 123 1 1:=⟨by kernel_rfl⟩
instance:Fo prog 123 2 15:=⟨by kernel_rfl⟩
instance:Fo prog 123 3 16:=⟨by kernel_rfl⟩
instance:Jn prog 132 [.nilIface,.int .i64 0,↑false] [(0,1),(1,1),(2,1)]:=⟨by kernel_rfl⟩
instance:Fo prog 132 1 1:=⟨by kernel_rfl⟩
instance:Fo prog 132 2 2:=⟨by kernel_rfl⟩
instance:Fo prog 75 1 1:=⟨by kernel_rfl⟩
instance:Fo prog 75 2 2:=⟨by kernel_rfl⟩
instance:Fo prog 75 3 3:=⟨by kernel_rfl⟩
instance:One prog 130:=⟨by kernel_rfl⟩
instance:One prog 52:=⟨by kernel_rfl⟩
instance:One prog 92:=⟨by kernel_rfl⟩
instance:Jn prog 201 [.nilIface,.int .i64 0,↑false] [(0,1),(1,2)]:=⟨by kernel_rfl⟩
instance:Sz prog 201 3:=⟨by kernel_rfl⟩
instance:Zc prog 201 [.nilIface,.int .i64 0,↑false]:=⟨by kernel_rfl⟩
instance:Jn prog 199 [.int .i64 0,.int .i64 0,.int .i64 0,.int .u64 0,.slice none 0 0,.int .u64 0,.string .empty,.int .u64 0,.slice none 0 0,.int .i64 0,.int .i64 0,.int .i64 0,.int .i64 0,.int .i64 0,.int .i64 0] [(0,14),(14,1)]:=⟨by kernel_rfl⟩
instance:Jn prog 72 [.int .i64 0,↑false,↑false,.slice none 0 0,.slice none 0 0] [(0,2),(2,1),(3,1),(4,1)]:=⟨by kernel_rfl⟩
instance:Fo prog 199 0 0:=⟨by kernel_rfl⟩
instance:Fo prog 199 1 14:=⟨by kernel_rfl⟩
instance:Fo prog 48 5 5:=⟨by kernel_rfl⟩
instance:Fo prog 72 0 0:=⟨by kernel_rfl⟩
instance:Fo prog 72 1 2:=⟨by kernel_rfl⟩
instance:Fo prog 72 2 3:=⟨by kernel_rfl⟩
instance:Fo prog 72 3 4:=⟨by kernel_rfl⟩
instance:HH prog 112 8 8:=⟨by kernel_rfl⟩
instance:One prog 37:=⟨by kernel_rfl⟩
instance:One prog 70:=⟨by kernel_rfl⟩
instance:fR prog 70 199:=⟨by kernel_rfl⟩
instance:Ss prog 199 (.agg [.int .i64 0,.int .i64 0,.int .i64 0,.int .u64 0,.slice none 0 0,.int .u64 0,.string .empty,.int .u64 0,.slice none 0 0,.int .i64 0,.int .i64 0,.int .i64 0,.int .i64 0,.int .i64 0,.int .i64 0].toArray) 15 160:=⟨by kernel_rfl⟩
instance:Sz prog 199 15:=⟨by kernel_rfl⟩
instance:Sz prog 70 1:=⟨by kernel_rfl⟩
instance:fR prog 139 4:=⟨by kernel_rfl⟩
instance:Ss prog 4 (.bool false) 1 1:=⟨by kernel_rfl⟩
instance:Jn prog 110 [.slice none 0 0,.slice none 0 0,.int .i64 0,.int .i64 0] [(0,1),(1,1),(2,1),(3,1)]:=⟨by kernel_rfl⟩
instance:Row prog 67 3:=⟨by kernel_rfl⟩
instance:Sz prog 67 3:=⟨by kernel_rfl⟩
instance:Zc prog 67 [.slice none 0 0,.slice none 0 0,.int .i64 0]:=⟨by kernel_rfl⟩
instance:Fo prog 55 0 0:=⟨by kernel_rfl⟩
instance:Fo prog 55 1 1:=⟨by kernel_rfl⟩
instance:Row prog 55 2:=⟨by kernel_rfl⟩
instance:fR prog 79 55:=⟨by kernel_rfl⟩
instance:Sz prog 55 2:=⟨by kernel_rfl⟩
instance:Zc prog 55 [.pointer none,.pointer none]:=⟨by kernel_rfl⟩
instance:Jn prog 103 [.nilIface,.pointer none,.int .i64 0] [(0,1),(1,1),(2,1)]:=⟨by kernel_rfl⟩
instance:Fo prog 103 0 0:=⟨by kernel_rfl⟩
instance:Fo prog 103 1 1:=⟨by kernel_rfl⟩
instance:Fo prog 103 2 2:=⟨by kernel_rfl⟩
instance:Fo prog 48 1 1:=⟨by kernel_rfl⟩
instance:HH prog 48 1 1:=⟨by kernel_rfl⟩
instance:Jn prog 55 [.pointer none,.pointer none] [(0,1),(1,1)]:=⟨by kernel_rfl⟩
instance:Ss prog 55 (.agg [.pointer none,.pointer none].toArray) 2 16:=⟨by kernel_rfl⟩
instance (c:Cc):YC (zQ c):=⟨eO c⟩
instance:Ox prog YL:=⟨λ_ h=>eF h⟩
end Go.Q9
end
section
namespace Go.Ct
variable{α β:Type}{a b c:Nat}
theorem jN.at{t:I α}{Q:α->Prop}(h:jN a b t Q){j L L0:Nat}(hj:a<=j)(hL:L0<=L):gD t j L λj' L' v=>b<=j'/\L0<=L'/\Q v:=
 (h j L hj).mono (bD _) (bD _) λi i' M M' a hi hM hq=>⟨by omega,by omega,hq.2.2⟩
theorem jN.wk{a' b':Nat}{t:I α}{Q Q':α->Prop}(h:jN a b t Q)(ha:a<=a')(hb:b'<=b)(hQ:∀v,Q v->Q' v):jN a' b' t Q':=λj L hj=>(h j L (by omega)).mono (bD _) (bD _) λi i' M M' v hi hM hq=>⟨by omega,by omega,hQ v hq.2.2⟩
theorem jN.then{t:I α}{Q:α->Prop}(h:jN a b t Q){f:α->I β}{j L:Nat}{Q2:Nat->Nat->β->Prop}(hj:a<=j)(k:∀j' L' v,b<=j'->L<=L'->Q v->gD (f v) j' L' Q2):gD (t.bind f) j L Q2:=
 gD.bind ((h j L hj).mono (bD _) (bD _) λi i' M M' v hi hM hq=>k i' M' v (by omega) (by omega) hq.2.2)
theorem Iz{v s:Int}{f:Int->I β}{j L:Nat}{Q:Nat->Nat->β->Prop}(k:∀L' w,L<=L'->gD (f w) j L' Q):gD ((wR v s).bind f) j L Q:=by
 refine gD.bind ?_
 unfold wR
 exact gD.bif (λ_ M n hM hn=>k M _ hM) λ_ M n hM hn=>k M _ hM
theorem rO(t:bC)(v s:Int):Good 30 (Mj t v s):=λj L hj=>Iz λL' w hL _=>⟨by omega,hL,trivial⟩
theorem KD(t:bC):Good 30 (GS t):=λj L hj v M d hM hd=>gD.bif (λ_=>⟨by omega,hM,trivial⟩) λ_ M2 d2 hM2 hd2 s=>
 gD.bif (λ_ M3 d3 hM3 hd3 _ M4 d4 hM4 hd4 s2=>(rO t v s2).at (by omega) (by omega)) λ_=>(rO t v s).at (by omega) (by omega)
theorem Oa(i m p:Int):Good 30 (EO i m p):=λj L hj M a hM ha M2 b hM2 hb _ M3 b2 hM3 hb2=>⟨by omega,by omega,trivial⟩
theorem BK(i m:Int):Good 30 (GV i m):=λj L hj M a hM ha p=>gD.bif (λ_=>⟨by omega,hM,trivial⟩) λ_=>(Oa i m p).at (by omega) hM
theorem Nr(i m p:Int):Good 30 (EN i m p):=λj L hj M a hM ha=>⟨by omega,bG _ 7 0 p 0 0,λf _ _=>(BK i m).at (by omega) hM⟩
theorem uB(t:bC)(i m:Int):Good 30 (wQ t i m):=λj L hj M a hM ha p=>gD.bif (λ_=>⟨by omega,hM,trivial⟩) λ_ M2 b hM2 hb=>
 gD.bif (λ_=>gD.bif (λ_=>(Nr i m p).at (by omega) (by omega)) λ_=>(KD t).then (by omega) λj' L' r hj' hL' _ M3 c hM3 hc M4 e hM4 he=>
  gD.bif (λ_ M5 f hM5 hf _=>(BK i m).at (by omega) (by omega)) λ_=>(Nr i m p).at (by omega) (by omega)) λ_=>(Oa i m p).at (by omega) (by omega)
theorem gS(t:bC)(i:Int):Good 30 (oJ t i):=λj L hj M a hM ha m=>(uB t i m).at (by omega) hM
theorem vG(t:bC)(v:Int):Good 30 (vR t v):=λj L hj M d hM hd=>(gS t d.dC).then hj λj' L' m hj' hL' _ M2 d2 hM2 hd2=>
 gD.bif (λ_ M3 d3 hM3 hd3 _=>⟨by omega,by omega,trivial⟩) λ_ M3 d3 hM3 hd3 _=>⟨by omega,by omega,trivial⟩
theorem oT(t:bC):Good 30 (tV t):=λj L hj v M d hM hd=>gD.bif (λ_=>⟨by omega,hM,trivial⟩) λ_ M2 d2 hM2 hd2 s=>
 gD.bif (λ_=>(vG t v).then (by omega) λj' L' _ hj' hL' _ M4 d4 hM4 hd4 s2=>(rO t v s2).at (by omega) (by omega)) λ_=>(rO t v s).at (by omega) (by omega)
theorem kR(t:bC)(i o n:Int):Good 30 (mE t i o n):=λj L hj M a hM ha ok=>gD.bif (λ_=>(uB t i n).then (by omega) λj' L' m hj' hL' _=>⟨hj',by omega,trivial⟩) λ_=>⟨by omega,hM,trivial⟩
theorem zC(t:bC)(o e n:Int):Good 30 (Dn t o e n):=λj L hj=>⟨by omega,bG _ 8 0 o e n,λd _ ok=>gD.bif (λ_=>(vG t d).then (by omega) λj' L' _ hj' hL' _ M a hM ha s=>
 Iz λL2 w hL2 _=>⟨by omega,by omega,trivial⟩) λ_=>⟨by omega,bD _,trivial⟩⟩
theorem uV{f:Int->I β}{c ix r:Int}{j L:Nat}{Q:Nat->Nat->β->Prop}(hj:1<=j)(k:∀L' v,L<=L'->1<=v->gD (f v) (j-1) L' Q):gD ((nU c ix r).bind f) j L Q:=
 λM n hM hn=>⟨hj,(fH hn ix r).mono (by omega),λa ha=>k M a hM ha⟩
theorem Hy(t:bC)(i c ix:Int):Good 30 (Hx t i c ix):=λj L hj M n hM hn=>(gS t _).then hj λj' L' m hj' hL' _ M2 a hM2 ha=>
 ⟨by omega,bG _ 2 _ 0 0 0,λr _=>uV (by omega) λL3 v hL3 _=>(kR t i c v).then (by omega) λj4 L4 ok hj4 hL4 _=>gD.bif (λ_=>⟨hj4,by omega,trivial⟩) λ_=>⟨hj4,by omega,trivial⟩⟩
theorem jW(t:bC)(p c:Int)(h:Nat)(l:Int):Good 30 (yF t p c h l):=λj L hj=>(gS t p).then hj λj' L' m hj' hL' _ M n hM hn=>
 gD.bif (λ_=>⟨hj',by omega,trivial⟩) λ_=>gD.bif (λ_=>⟨hj',by omega,trivial⟩) λ_=>(gS t c).then (by omega) λj2 L2 q hj2 hL2 _ M2 b hM2 hb=>
  gD.bif (λ_=>⟨hj2,by omega,trivial⟩) λ_=>⟨by omega,(eD hb).mono (by omega),λs _ M3 n3 hM3 hn3=>⟨by omega,(fA (fH hn3 _ _) ((eD hb).mono (by omega)) l).mono (by omega),λr _=>(kR t p m r).at (by omega) (by omega)⟩⟩
theorem Oh(t:bC)(key:ByteArray)(h:Nat):∀(n:Nat) (i l:Int),Good 60 (Mp t key h n i l)
 |0,i,l=>λj L hj=>⟨hj,bD _,trivial⟩
 |n+1,i,l=>λj L hj=>(gS t i).then (by omega) λj' L' r hj' hL' _ M m hM hm=>gD.bif (λ_=>gD.bif (λ_=>⟨hj',by omega,trivial⟩) λ_=>⟨hj',by omega,trivial⟩) λ_=>
  gD.bif (λ_=>⟨hj',by omega,trivial⟩) λ_=>gD.bif (λ_=>⟨hj',by omega,trivial⟩) λ_ M2 s hM2 hs=>
   gD.bif (λ_=>gD.bif (λ_=>⟨hj',by omega,trivial⟩) λ_=>⟨hj',by omega,trivial⟩) λ_=>(Oh t key h n _ _).at hj' (by omega)
theorem Ud(c:Call)(n:Nat):Good 60 (tH c n):=λj L hj=>(oT c.aE).then (by omega) λj' L' r hj' hL' _=>(Oh _ _ _ n r 0).at hj' hL'
theorem Ja{f:Int->I β}{L:Nat}{Q:Nat->Nat->β->Prop}:∀(l:List (Node×Int)) (r:Int) (j:Nat),(∀z∈l,z.1.Fit (L+1))->l.length<=j->1<=r->(∀r,1<=r->gD (f r) (j-l.length) L Q)->gD ((gR l r).bind f) j L Q
 |[],r,j,_,_,hr,k=>k r hr
 |n::l,r,j,hl,hj,hr,k=>by
  refine⟨by simp at hj;omega,hl n (by simp),λr2 h2=>?_⟩
  refine Ja l r2 (j-1) (λz hz=>hl z (by simp[hz])) (by simp at hj;omega) h2 λr3 h3=>?_
  have:=k r3 h3
  rw[Qb]at this
  rwa [show j-1-l.length=j-(l.length+1) by omega]
theorem Hb(h:Nat)(g f:Int):∀(n:Nat) (k:Int) (l:List (Node×Int)),(eZ h g f k n l).length=l.length+2*n
 |0,k,l=>rfl
 |n+1,k,l=>by unfold eZ;rw[Hb h g f n];simp;omega
theorem uN(h:Nat)(g f:Int):∀(n:Nat) (k:Int) (z:Node×Int) (l:List (Node×Int)),(eZ h g f k n (z::l)).head?=some z
 |0,k,z,l=>rfl
 |n+1,k,z,l=>by unfold eZ;exact uN h g f n _ _ _
theorem qX(x:Node)(a:Int)(h:Nat)(key:ByteArray)(v:Nat)(lv g f:Int):1<=(bT x a h key v lv g f).length:=by
 unfold bT;dsimp only
 split<;>rw[Hb]<;>simp<;>omega
theorem uJ(x:Node)(a:Int)(h:Nat)(key:ByteArray)(v:Nat)(lv g f f':Int):(bT x a h key v lv g f).head?=(bT x a h key v lv g f').head?:=by
 unfold bT;dsimp only
 split<;>rw[uN,uN]
theorem NP{f:Int->I β}{x:Node}{a:Int}{h:Nat}{key:ByteArray}{v:Nat}{lv g:Int}{j L:Nat}{Q:Nat->Nat->β->Prop}(hj:24<=j)(ha:1<=a)(hx:x.key.size<=64)(hk:key.size<=64)(hh:h<18446744073709551616)(hne:bR x.key key=false)(hl:0<=lv)
  (k:∀j' r,j-24<=j'->1<=r->gD (f r) j' L Q):gD ((nM x a h key v lv g).bind f) j L Q:=by
 cases hd:bT x a h key v lv g 0 with
 |nil=>
  have:=qX x a h key v lv g 0
  rw[hd]at this
  simp at this
 |cons n l=>
  have e:nM x a h key v lv g=.alloc n.1 n.2 λf=>gR (bT x a h key v lv g f).tail f:=by unfold nM;rw[hd]
  rw[e]
  have hn:n.1.Fit (L+1):=by
   have h1:=uJ x a h key v lv g 0 1
   rw[hd]at h1
   exact(nJ (L+1) x a h key v lv g 1 (by decide) ha hx hk hh hne hl).1 n (List.mem_of_head? h1.symm)
  refine⟨by omega,hn,λr hr=>?_⟩
  obtain⟨g1,g2⟩:=nJ (L+1) x a h key v lv g r hr ha hx hk hh hne hl
  refine Ja _ r (j-1) (λz hz=>g1 z (List.mem_of_mem_tail hz)) (by rw[List.length_tail];omega) hr λr3 h3=>k _ r3 (by rw[List.length_tail];omega) h3
theorem Un(h:Nat)(b:UInt8):qJ h b<18446744073709551616:=by unfold qJ;exact Nat.mod_lt _ (by omega)
theorem UK(l:List UInt8):Ly l<18446744073709551616:=by
 rcases List.eq_nil_or_concat l with rfl|⟨l,b,rfl⟩
 ·unfold Ly;rw[List.foldl_nil];omega
 ·rw[List.concat_eq_append];unfold Ly;rw[List.foldl_append,List.foldl_cons,List.foldl_nil];exact Un _ _
theorem eI(s:ByteArray)(m:Nat):aH s m<18446744073709551616:=fU Nat.and_le_left (UK _)
theorem sU(c:Call)(i m:Int)(h:Nat)(level gen:Int)(hk:c.key.size<=64)(hh:h<18446744073709551616)(hl:0<=level):Good 60 (lJ c i m h level gen):=λj L hj M n hM hn=>
 gD.bif (λ_=>gD.bif (λ_=>⟨hj,hM,trivial⟩) λ_=>⟨by omega,Ch hn _ _,λa _=>(kR c.aE i m a).then (by omega) λj' L' ok hj' hL' _=>⟨hj',by omega,trivial⟩⟩) λ_ M2 s hM2 hs=>
 gD.bif (λ_=>⟨hj,by omega,trivial⟩) λ_=>gD.bif (λ_=>gD.bif (λ_=>⟨hj,by omega,trivial⟩) λ_=>⟨by omega,iF _ 4 _ _ _ (by decide) hh hk,λa _=>uV (by omega) λL3 r hL3 _=>
  (kR c.aE i m r).then (by omega) λj' L' ok hj' hL' _=>⟨hj',by omega,trivial⟩⟩) λhsame=>gD.bif (λ_=>⟨hj,by omega,trivial⟩) λ_=>
 gD.bif (λ_=>⟨by omega,iF _ 4 _ _ _ (by decide) hh hk,λa _=>⟨by omega,(eB hn _ _).mono (by omega),λr _=>(kR c.aE i m r).then (by omega) λj' L' ok hj' hL' _=>⟨hj',by omega,trivial⟩⟩⟩) λhhas=>
  NP (by omega) (pV (by simpa using hhas)) hs.2 hk hh (by simpa[show (aB n (slice h level)).2=true by simpa using hhas]using hsame) (by omega) λj' r hj' _=>⟨by omega,bG _ 2 _ 0 0 0,λq _=>uV (by omega) λL3 v hL3 _=>
   (kR c.aE i m v).then (by omega) λj' L' ok hj' hL' _=>⟨hj',by omega,trivial⟩⟩
theorem mW(t:bC)(i m ix gen:Int):Good 60 (qS t i m ix gen):=λj L hj M n hM hn M2 b hM2 hb=>gD.bif (λ_=>⟨hj,by omega,trivial⟩) λ_=>(Hy t i m ix).at (by omega) (by omega)
theorem Io(c:Call)(h:Nat)(gen:Int)(hk:c.key.size<=64)(hh:h<18446744073709551616):∀(n:Nat) (p i level:Int),0<=level->Good 60 (Dx c h gen n p i level)
 |0,p,i,level,hl=>λj L hj=>⟨hj,bD _,trivial⟩
 |n+1,p,i,level,hl=>λj L hj=>(gS c.aE i).then (by omega) λj' L' m hj' hL' _ M a hM ha=>gD.bif (λ_=>(jW c.aE p i h (level-1)).then (by omega) λj2 L2 ok hj2 hL2 _=>⟨hj2,by omega,trivial⟩) λ_=>
  (sU c i m h level gen hk hh hl).then hj' λj2 L2 r hj2 hL2 _=>gD.bif (λ_=>⟨hj2,by omega,trivial⟩) λ_=>gD.bif (λ_=>⟨hj2,by omega,trivial⟩) λ_=>
  (mW c.aE i m (slice h level) gen).then hj2 λj3 L3 b hj3 hL3 _=>gD.bif (λ_=>⟨hj3,by omega,trivial⟩) λ_=>(Io c h gen hk hh n i b (level+1) (by omega)).at hj3 (by omega)
theorem Yl(c:Call)(k:Nat)(hk:c.key.size<=64):∀n,Good 60 (yN c k n)
 |0=>λj L hj=>⟨hj,bD _,trivial⟩
 |n+1=>λj L hj=>(oT c.aE).then (by omega) λj' L' i hj' hL' _ M a hM ha=>(Io c _ _ hk (eI _ _) k 0 i 0 (JA _)).then hj' λj2 L2 o hj2 hL2 _=>by
  cases o with
  |some r=>exact⟨hj2,by omega,trivial⟩
  |none=>exact(Yl c k hk n).at hj2 (by omega)
theorem qM(c:Call)(i m:Int)(h:Nat)(level:Int):Good 60 (kT c i m h level):=λj L hj M n hM hn=>
 gD.bif (λ_=>gD.bif (λ_=>⟨hj,hM,trivial⟩) λ_=>gD.bif (λ_=>⟨hj,hM,trivial⟩) λ_=>⟨by omega,(pH hn _).mono (by omega),λa _=>(kR c.aE i m a).then (by omega) λj' L' ok hj' hL' _=>⟨hj',by omega,trivial⟩⟩) λ_ M2 s hM2 hs=>
 gD.bif (λ_=>⟨hj,by omega,trivial⟩) λ_=>gD.bif (λ_=>⟨hj,by omega,trivial⟩) λ_=>gD.bif (λ_=>⟨hj,by omega,trivial⟩) λ_=>gD.bif (λ_=>⟨hj,by omega,trivial⟩) λ_ M3 q hM3 hq=>
  ⟨by omega,(fA ((eW hn _).mono (by omega)) hq level).mono (by omega),λr _=>(kR c.aE i m r).then (by omega) λj' L' ok hj' hL' _=>⟨hj',by omega,trivial⟩⟩
theorem GH(t:bC)(path:List Int)(h:Nat):∀l,Good 60 (QP t path h l)
 |0=>λj L hj=>⟨hj,bD _,trivial⟩
 |l+1=>λj L hj=>(gS t _).then (by omega) λj' L' m hj' hL' _ M n hM hn=>gD.bif (λ_=>⟨hj',by omega,trivial⟩) λ_=>(jW t _ _ h l).then (by omega) λj2 L2 ok hj2 hL2 _=>(GH t path h l).at hj2 (by omega)
theorem Ev(c:Call)(h:Nat)(gen:Int):∀(n:Nat) (path:List Int) (i level:Int),Good 60 (sY c h gen n path i level)
 |0,path,i,level=>λj L hj=>⟨hj,bD _,trivial⟩
 |n+1,path,i,level=>λj L hj=>(gS c.aE i).then (by omega) λj' L' m hj' hL' _ M a hM ha=>gD.bif (λ_=>(jW c.aE _ i h (level-1)).then (by omega) λj2 L2 ok hj2 hL2 _=>⟨hj2,by omega,trivial⟩) λ_=>
  (qM c i m h level).then hj' λj2 L2 r hj2 hL2 _=>gD.bif (λ_=>gD.bif (λ_=>(GH c.aE path h _).then hj2 λj3 L3 _ hj3 hL3 _=>⟨hj3,by omega,trivial⟩) λ_=>⟨hj2,by omega,trivial⟩) λ_=>gD.bif (λ_=>⟨hj2,by omega,trivial⟩) λ_=>
  (mW c.aE i m (slice h level) gen).then hj2 λj3 L3 b hj3 hL3 _=>gD.bif (λ_=>⟨hj3,by omega,trivial⟩) λ_=>(Ev c h gen n _ b (level+1)).at hj3 (by omega)
theorem Og(c:Call)(k:Nat):∀n,Good 60 (pE c k n)
 |0=>λj L hj=>⟨hj,bD _,trivial⟩
 |n+1=>λj L hj=>(oT c.aE).then (by omega) λj' L' i hj' hL' _ M a hM ha=>(Ev c _ _ k [i] i 0).then hj' λj2 L2 o hj2 hL2 _=>by
  cases o with
  |some r=>exact⟨hj2,by omega,trivial⟩
  |none=>exact(Og c k n).at hj2 (by omega)
theorem Ei(m:Int):jN 60 50 (wK m):=λj L hj=>⟨by omega,λg=>⟨by omega,bG _ 2 g 0 0 0,λi _=>⟨by omega,λc=>⟨by omega,bD _,trivial⟩⟩⟩⟩
theorem Dy(r:Int):jN 60 50 (Vn r):=λj L hj=>⟨by omega,λc=>⟨by omega,bD _,trivial⟩⟩
theorem Ov(t:bC)(fz:Bool):∀n,jN 60 50 (Xl t fz n)
 |0=>λj L hj=>⟨by omega,bD _,trivial⟩
 |n+1=>λj L hj=>(oT t).then (by omega) λj' L' r hj' hL' _=>(gS t r).then (by omega) λj2 L2 m hj2 hL2 _=>⟨by omega,λg=>⟨by omega,bG _ 2 g 0 0 0,λi _=>(zC t r m i).then (by omega) λj3 L3 ok hj3 hL3 _=>
  gD.bif (λ_=>(Ov t fz n).at hj3 (by omega)) λ_=>gD.bif (λ_=>(Dy r).at hj3 (by omega)) λ_=>(Ei m).at hj3 (by omega)⟩⟩
theorem xJ(t:bC)(fz:Bool)(n:Nat):jN 60 50 (iL t fz n):=λj L hj=>gD.bif (λ_ r=>gD.bif (λ_=>(Dy r).at (by omega) (bD _)) λ_=>(gS t r).then (by omega) λj2 L2 m hj2 hL2 _=>(Ei m).at hj2 hL2) λ_=>(Ov t fz n).at hj (bD _)
theorem Ha(t:bC):∀n,Good 60 (vK t n)
 |0=>λj L hj=>⟨hj,bD _,trivial⟩
 |n+1=>λj L hj=>(oT t).then (by omega) λj' L' r hj' hL' _=>(gS t r).then (by omega) λj2 L2 m hj2 hL2 _=>⟨by omega,fY _,λc _=>⟨by omega,λg=>⟨by omega,bG _ 2 g 0 0 0,λi _=>(zC t r m i).then (by omega) λj3 L3 ok hj3 hL3 _=>
  gD.bif (λ_=>⟨hj3,by omega,trivial⟩) λ_=>(Ha t n).at hj3 (by omega)⟩⟩⟩
theorem Yi(t:bC)(w:Wk)(i:Int):Good 30 (xG t w i):=λj L hj=>(gS t i).then hj λj' L' m hj' hL' _ M n hM hn=>⟨hj',by omega,trivial⟩
theorem DC(t:bC)(st:Bool){K:Wk->I Nx}(hK:∀w,Good 60 (K w)):∀l,Good 60 (ZF t st K l)
 |[]=>λj L hj=>⟨hj,bD _,trivial⟩
 |p::l=>λj L hj M c hM hc=>gD.bif (λ_=>(DC t st hK l).at hj hM) λ_ M2 s hM2 hs=>gD.bif (λ_=>⟨hj,by omega,trivial⟩) λ_=>(Yi t _ _).then (by omega) λj' L' w hj' hL' _=>(hK w).at hj' (by omega)
theorem FZ(t:bC){K:Wk->I Nx}(hK:∀w,Good 60 (K w))(w:Wk):Good 60 (Ty t K w):=by
 unfold Ty
 split
 ·exact λj L hj=>⟨hj,bD _,trivial⟩
 ·exact DC t _ hK _
theorem k9(w:Wk):Good 60 (.ret (⟨w,⟨.empty,0⟩,false⟩:Nx)):=λj L hj=>⟨hj,bD _,trivial⟩
theorem Fy(t:bC):∀(n:Nat) (w:Wk),Good 60 (nB t n w)
 |0,w=>FZ t (k9) w
 |n+1,w=>FZ t (Fy t n) w
theorem O4(t:bC)(n:Nat)(w:Wk):Good 60 (Nj t n w):=λj L hj=>gD.bif (λ_=>(Fy t n w).at hj (bD _)) λ_ r=>(Yi t _ r).then (by omega) λj' L' w hj' hL' _=>(Fy t n w).at (by omega) (by omega)
theorem AR(t:bC)(n:Nat):∀(c:Nat) (k:Int) (w:Wk),Good 60 (Du t n c k w)
 |0,k,w=>λj L hj=>⟨hj,bD _,trivial⟩
 |c+1,k,w=>λj L hj=>(O4 t n w).then hj λj' L' z hj' hL' _=>gD.bif (λ_=>⟨hj',by omega,trivial⟩) λ_=>(AR t n c _ z.w).at hj' (by omega)
theorem HQ(c:Call)(n:Nat)(hk:c.kind=8->refused c=0->c.key.size<=64):jN 60 50 (bY c n):=by
 have wk:∀{a:Nat} {t:I Result},a<=60->Good a t->jN 60 50 t:=λha h=>jN.wk h ha (by omega) λv h=>h
 have one:∀{α:Type} {t:I α} (f:α->Result),Good 30 t->jN 60 50 (t.bind λv=>.ret (f v)):=λf h j L hj=>jN.then h (by omega) λj' L' v hj' hL' _=>⟨by omega,hL',trivial⟩
 unfold bY
 by_cases hr:refused c≠0
 ·rw[if_pos hr];exact λj L hj=>⟨by omega,bD _,trivial⟩
 rw[if_neg hr]
 by_cases h1:c.kind=1
 ·rw[if_pos h1];exact one _ (gS _ _)
 rw[if_neg h1]
 by_cases h2:c.kind=2
 ·rw[if_pos h2];exact one _ (kR _ _ _ _)
 rw[if_neg h2]
 by_cases h3:c.kind=3
 ·rw[if_pos h3];exact one _ (oT _)
 rw[if_neg h3]
 by_cases h4:c.kind=4
 ·rw[if_pos h4];exact one _ (zC _ _ _ _)
 rw[if_neg h4]
 by_cases h5:c.kind=5
 ·rw[if_pos h5];exact one _ (Hy _ _ _ _)
 rw[if_neg h5]
 by_cases h6:c.kind=6
 ·rw[if_pos h6];exact one _ (jW _ _ _ _ _)
 rw[if_neg h6]
 by_cases h7:c.kind=7
 ·rw[if_pos h7];exact wk (by omega) (Ud _ _)
 rw[if_neg h7]
 by_cases h8:c.kind=8
 ·rw[if_pos h8];exact wk (by omega) (Yl _ _ (hk h8 (Classical.not_not.1 hr)) _)
 rw[if_neg h8]
 by_cases h9:c.kind=9
 ·rw[if_pos h9];exact wk (by omega) (Og _ _ _)
 rw[if_neg h9]
 by_cases h10:c.kind=10
 ·rw[if_pos h10];exact xJ _ _ _
 rw[if_neg h10]
 by_cases h11:c.kind=11
 ·rw[if_pos h11];exact xJ _ _ _
 rw[if_neg h11]
 by_cases h12:c.kind=12
 ·rw[if_pos h12];exact wk (by omega) (Ha _ _)
 rw[if_neg h12]
 by_cases h14:c.kind=14
 ·rw[if_pos h14];exact wk (bD _) (AR _ _ _ _ _)
 rw[if_neg h14]
 exact λj L hj=>⟨by omega,bD _,trivial⟩
end Go.Ct
end
