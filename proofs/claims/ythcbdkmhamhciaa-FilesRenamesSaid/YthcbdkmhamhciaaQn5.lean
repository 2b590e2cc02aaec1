/-
  Part 5 of the proof of FilesRenamesP: what the statement's proof uses of the texts in wip/tpl.
-/
import Derived.WalkKit
import Derived.Laws.StructEq
import Derived.Test.YthcbdkmhamhciaaQn4
namespace Go.Proofs.Ythcbdkmhamhciaa
open Go.RowKit
instance : Typ Try.prog 0 1 false := ⟨by kernel_rfl⟩
instance : Typ Try.prog 1 1 false := ⟨by kernel_rfl⟩
instance : Zer Try.prog 1 [.v .nilFunc] := ⟨[.nilFunc], by kernel_rfl, rfl, rfl⟩
instance : Typ Try.prog 2 1 false := ⟨by kernel_rfl⟩
instance : Zer Try.prog 2 [.v (.int .i64 0)] := ⟨[.int .i64 0], by kernel_rfl, rfl, rfl⟩
instance : Typ Try.prog 3 1 false := ⟨by kernel_rfl⟩
instance : Zer Try.prog 3 [.v (.int .i64 0)] := ⟨[.int .i64 0], by kernel_rfl, rfl, rfl⟩
instance : Typ Try.prog 4 1 false := ⟨by kernel_rfl⟩
instance : Zer Try.prog 4 [.v (.bool false)] := ⟨[.bool false], by kernel_rfl, rfl, rfl⟩
instance : Typ Try.prog 5 1 false := ⟨by kernel_rfl⟩
instance : Zer Try.prog 5 [.v (.int .u8 0)] := ⟨[.int .u8 0], by kernel_rfl, rfl, rfl⟩
instance : Typ Try.prog 6 1 false := ⟨by kernel_rfl⟩
instance : Zer Try.prog 6 [.v (.int .u8 0)] := ⟨[.int .u8 0], by kernel_rfl, rfl, rfl⟩
instance : Typ Try.prog 7 4 true := ⟨by kernel_rfl⟩
instance : Zer Try.prog 7 [.v (.int .i64 0), .v (.int .i64 0), .v (.bool false), .v (.int .u8 0)] := ⟨[.int .i64 0, .int .i64 0, .bool false, .int .u8 0], by kernel_rfl, rfl, rfl⟩
instance : Plc Try.prog 7 [(0, 1), (1, 1), (2, 1), (3, 1)] := ⟨by kernel_rfl⟩
instance : Fld Try.prog 7 0 0 1 := ⟨by kernel_rfl⟩
instance : Fld Try.prog 7 1 1 1 := ⟨by kernel_rfl⟩
instance : Fld Try.prog 7 2 2 1 := ⟨by kernel_rfl⟩
instance : Fld Try.prog 7 3 3 1 := ⟨by kernel_rfl⟩
instance : Typ Try.prog 8 4 true := ⟨by kernel_rfl⟩
instance : Zer Try.prog 8 [.v (.int .i64 0), .v (.int .i64 0), .v (.bool false), .v (.int .u8 0)] := ⟨[.int .i64 0, .int .i64 0, .bool false, .int .u8 0], by kernel_rfl, rfl, rfl⟩
instance : Plc Try.prog 8 [(0, 1), (1, 1), (2, 1), (3, 1)] := ⟨by kernel_rfl⟩
instance : Fld Try.prog 8 0 0 1 := ⟨by kernel_rfl⟩
instance : Fld Try.prog 8 1 1 1 := ⟨by kernel_rfl⟩
instance : Fld Try.prog 8 2 2 1 := ⟨by kernel_rfl⟩
instance : Fld Try.prog 8 3 3 1 := ⟨by kernel_rfl⟩
instance : Typ Try.prog 9 1 false := ⟨by kernel_rfl⟩
instance : Zer Try.prog 9 [.v (.string ⟨#[]⟩)] := ⟨[.string ⟨#[]⟩], by kernel_rfl, rfl, rfl⟩
instance : Typ Try.prog 10 1 false := ⟨by kernel_rfl⟩
instance : Zer Try.prog 10 [.v (.string ⟨#[]⟩)] := ⟨[.string ⟨#[]⟩], by kernel_rfl, rfl, rfl⟩
instance : Typ Try.prog 11 1 false := ⟨by kernel_rfl⟩
instance : Zer Try.prog 11 [.v (.string ⟨#[]⟩)] := ⟨[.string ⟨#[]⟩], by kernel_rfl, rfl, rfl⟩
instance : Typ Try.prog 12 1 false := ⟨by kernel_rfl⟩
instance : Zer Try.prog 12 [.v (.int .u64 0)] := ⟨[.int .u64 0], by kernel_rfl, rfl, rfl⟩
instance : Typ Try.prog 13 2 true := ⟨by kernel_rfl⟩
instance : Zer Try.prog 13 [.v (.string ⟨#[]⟩), .v (.int .u64 0)] := ⟨[.string ⟨#[]⟩, .int .u64 0], by kernel_rfl, rfl, rfl⟩
instance : Plc Try.prog 13 [(0, 1), (1, 1)] := ⟨by kernel_rfl⟩
instance : Fld Try.prog 13 0 0 1 := ⟨by kernel_rfl⟩
instance : Fld Try.prog 13 1 1 1 := ⟨by kernel_rfl⟩
instance : Typ Try.prog 14 2 true := ⟨by kernel_rfl⟩
instance : Zer Try.prog 14 [.v (.string ⟨#[]⟩), .v (.int .u64 0)] := ⟨[.string ⟨#[]⟩, .int .u64 0], by kernel_rfl, rfl, rfl⟩
instance : Plc Try.prog 14 [(0, 1), (1, 1)] := ⟨by kernel_rfl⟩
instance : Fld Try.prog 14 0 0 1 := ⟨by kernel_rfl⟩
instance : Fld Try.prog 14 1 1 1 := ⟨by kernel_rfl⟩
instance : Typ Try.prog 15 1 false := ⟨by kernel_rfl⟩
instance : Zer Try.prog 15 [.v (.pointer none)] := ⟨[.pointer none], by kernel_rfl, rfl, rfl⟩
instance : Typ Try.prog 16 1 false := ⟨by kernel_rfl⟩
instance : Zer Try.prog 16 [.v (.pointer none)] := ⟨[.pointer none], by kernel_rfl, rfl, rfl⟩
instance : Typ Try.prog 17 1 false := ⟨by kernel_rfl⟩
instance : Zer Try.prog 17 [.v (.pointer none)] := ⟨[.pointer none], by kernel_rfl, rfl, rfl⟩
instance : Typ Try.prog 18 1 true := ⟨by kernel_rfl⟩
instance : Zer Try.prog 18 [.v (.pointer none)] := ⟨[.pointer none], by kernel_rfl, rfl, rfl⟩
instance : Plc Try.prog 18 [(0, 1)] := ⟨by kernel_rfl⟩
instance : Fld Try.prog 18 0 0 1 := ⟨by kernel_rfl⟩
instance : Typ Try.prog 19 1 true := ⟨by kernel_rfl⟩
instance : Zer Try.prog 19 [.v (.pointer none)] := ⟨[.pointer none], by kernel_rfl, rfl, rfl⟩
instance : Plc Try.prog 19 [(0, 1)] := ⟨by kernel_rfl⟩
instance : Fld Try.prog 19 0 0 1 := ⟨by kernel_rfl⟩
instance : Typ Try.prog 20 1 false := ⟨by kernel_rfl⟩
instance : Zer Try.prog 20 [.v .nilIface] := ⟨[.nilIface], by kernel_rfl, rfl, rfl⟩
instance : Typ Try.prog 21 1 false := ⟨by kernel_rfl⟩
instance : Zer Try.prog 21 [.v (.int .i32 0)] := ⟨[.int .i32 0], by kernel_rfl, rfl, rfl⟩
instance : Typ Try.prog 22 1 false := ⟨by kernel_rfl⟩
instance : Elm Try.prog 22 79 2 32 := ⟨by kernel_rfl, by decide⟩
instance : Zer Try.prog 22 [.v (.slice none 0 0)] := ⟨[.slice none 0 0], by kernel_rfl, rfl, rfl⟩
instance : Typ Try.prog 23 1 true := ⟨by kernel_rfl⟩
instance : Zer Try.prog 23 [.v (.slice none 0 0)] := ⟨[.slice none 0 0], by kernel_rfl, rfl, rfl⟩
instance : Plc Try.prog 23 [(0, 1)] := ⟨by kernel_rfl⟩
instance : Fld Try.prog 23 0 0 1 := ⟨by kernel_rfl⟩
instance : Typ Try.prog 24 1 true := ⟨by kernel_rfl⟩
instance : Zer Try.prog 24 [.v (.slice none 0 0)] := ⟨[.slice none 0 0], by kernel_rfl, rfl, rfl⟩
instance : Plc Try.prog 24 [(0, 1)] := ⟨by kernel_rfl⟩
instance : Fld Try.prog 24 0 0 1 := ⟨by kernel_rfl⟩
instance : Typ Try.prog 25 1 false := ⟨by kernel_rfl⟩
instance : Zer Try.prog 25 [.v (.int .i64 0)] := ⟨[.int .i64 0], by kernel_rfl, rfl, rfl⟩
instance : Typ Try.prog 26 1 false := ⟨by kernel_rfl⟩
instance : Typ Try.prog 27 1 false := ⟨by kernel_rfl⟩
instance : Zer Try.prog 27 [.v .nilFunc] := ⟨[.nilFunc], by kernel_rfl, rfl, rfl⟩
instance : Typ Try.prog 28 1 false := ⟨by kernel_rfl⟩
instance : Zer Try.prog 28 [.v .nilFunc] := ⟨[.nilFunc], by kernel_rfl, rfl, rfl⟩
instance : Typ Try.prog 29 1 false := ⟨by kernel_rfl⟩
instance : Zer Try.prog 29 [.v .nilFunc] := ⟨[.nilFunc], by kernel_rfl, rfl, rfl⟩
instance : Typ Try.prog 30 1 false := ⟨by kernel_rfl⟩
instance : Zer Try.prog 30 [.v .nilFunc] := ⟨[.nilFunc], by kernel_rfl, rfl, rfl⟩
instance : Typ Try.prog 31 1 false := ⟨by kernel_rfl⟩
instance : Elm Try.prog 31 3 1 8 := ⟨by kernel_rfl, by decide⟩
instance : Zer Try.prog 31 [.v (.slice none 0 0)] := ⟨[.slice none 0 0], by kernel_rfl, rfl, rfl⟩
instance : Typ Try.prog 32 1 false := ⟨by kernel_rfl⟩
instance : Elm Try.prog 32 101 2 24 := ⟨by kernel_rfl, by decide⟩
instance : Zer Try.prog 32 [.v (.slice none 0 0)] := ⟨[.slice none 0 0], by kernel_rfl, rfl, rfl⟩
instance : Typ Try.prog 33 8 true := ⟨by kernel_rfl⟩
instance : Zer Try.prog 33 [.v (.int .i64 0), .v (.int .i64 0), .v (.int .i64 0), .v (.int .i64 0), .v (.int .i64 0), .v (.int .i64 0), .v (.string ⟨#[]⟩), .v (.slice none 0 0)] := ⟨[.int .i64 0, .int .i64 0, .int .i64 0, .int .i64 0, .int .i64 0, .int .i64 0, .string ⟨#[]⟩, .slice none 0 0], by kernel_rfl, rfl, rfl⟩
instance : Plc Try.prog 33 [(0, 1), (1, 1), (2, 1), (3, 1), (4, 1), (5, 1), (6, 1), (7, 1)] := ⟨by kernel_rfl⟩
instance : Fld Try.prog 33 0 0 1 := ⟨by kernel_rfl⟩
instance : Fld Try.prog 33 1 1 1 := ⟨by kernel_rfl⟩
instance : Fld Try.prog 33 2 2 1 := ⟨by kernel_rfl⟩
instance : Fld Try.prog 33 3 3 1 := ⟨by kernel_rfl⟩
instance : Fld Try.prog 33 4 4 1 := ⟨by kernel_rfl⟩
instance : Fld Try.prog 33 5 5 1 := ⟨by kernel_rfl⟩
instance : Fld Try.prog 33 6 6 1 := ⟨by kernel_rfl⟩
instance : Fld Try.prog 33 7 7 1 := ⟨by kernel_rfl⟩
instance : Typ Try.prog 34 8 true := ⟨by kernel_rfl⟩
instance : Zer Try.prog 34 [.v (.int .i64 0), .v (.int .i64 0), .v (.int .i64 0), .v (.int .i64 0), .v (.int .i64 0), .v (.int .i64 0), .v (.string ⟨#[]⟩), .v (.slice none 0 0)] := ⟨[.int .i64 0, .int .i64 0, .int .i64 0, .int .i64 0, .int .i64 0, .int .i64 0, .string ⟨#[]⟩, .slice none 0 0], by kernel_rfl, rfl, rfl⟩
instance : Plc Try.prog 34 [(0, 1), (1, 1), (2, 1), (3, 1), (4, 1), (5, 1), (6, 1), (7, 1)] := ⟨by kernel_rfl⟩
instance : Fld Try.prog 34 0 0 1 := ⟨by kernel_rfl⟩
instance : Fld Try.prog 34 1 1 1 := ⟨by kernel_rfl⟩
instance : Fld Try.prog 34 2 2 1 := ⟨by kernel_rfl⟩
instance : Fld Try.prog 34 3 3 1 := ⟨by kernel_rfl⟩
instance : Fld Try.prog 34 4 4 1 := ⟨by kernel_rfl⟩
instance : Fld Try.prog 34 5 5 1 := ⟨by kernel_rfl⟩
instance : Fld Try.prog 34 6 6 1 := ⟨by kernel_rfl⟩
instance : Fld Try.prog 34 7 7 1 := ⟨by kernel_rfl⟩
instance : Typ Try.prog 35 1 false := ⟨by kernel_rfl⟩
instance : Zer Try.prog 35 [.v (.pointer none)] := ⟨[.pointer none], by kernel_rfl, rfl, rfl⟩
instance : Typ Try.prog 36 1 false := ⟨by kernel_rfl⟩
instance : Zer Try.prog 36 [.v .nilFunc] := ⟨[.nilFunc], by kernel_rfl, rfl, rfl⟩
instance : Typ Try.prog 37 1 false := ⟨by kernel_rfl⟩
instance : Zer Try.prog 37 [.v .nilFunc] := ⟨[.nilFunc], by kernel_rfl, rfl, rfl⟩
instance : Typ Try.prog 38 2 true := ⟨by kernel_rfl⟩
instance : Zer Try.prog 38 [.v (.int .i64 0), .v (.int .i64 0)] := ⟨[.int .i64 0, .int .i64 0], by kernel_rfl, rfl, rfl⟩
instance : Plc Try.prog 38 [(0, 1), (1, 1)] := ⟨by kernel_rfl⟩
instance : Fld Try.prog 38 0 0 1 := ⟨by kernel_rfl⟩
instance : Fld Try.prog 38 1 1 1 := ⟨by kernel_rfl⟩
instance : Typ Try.prog 39 2 true := ⟨by kernel_rfl⟩
instance : Zer Try.prog 39 [.v (.int .i64 0), .v (.int .i64 0)] := ⟨[.int .i64 0, .int .i64 0], by kernel_rfl, rfl, rfl⟩
instance : Plc Try.prog 39 [(0, 1), (1, 1)] := ⟨by kernel_rfl⟩
instance : Fld Try.prog 39 0 0 1 := ⟨by kernel_rfl⟩
instance : Fld Try.prog 39 1 1 1 := ⟨by kernel_rfl⟩
instance : Typ Try.prog 40 1 false := ⟨by kernel_rfl⟩
instance : Zer Try.prog 40 [.v .nilFunc] := ⟨[.nilFunc], by kernel_rfl, rfl, rfl⟩
instance : Typ Try.prog 41 1 false := ⟨by kernel_rfl⟩
instance : Zer Try.prog 41 [.v .nilFunc] := ⟨[.nilFunc], by kernel_rfl, rfl, rfl⟩
instance : Typ Try.prog 42 1 false := ⟨by kernel_rfl⟩
instance : Zer Try.prog 42 [.v .nilFunc] := ⟨[.nilFunc], by kernel_rfl, rfl, rfl⟩
instance : Typ Try.prog 43 1 false := ⟨by kernel_rfl⟩
instance : Elm Try.prog 43 68 7 64 := ⟨by kernel_rfl, by decide⟩
instance : Zer Try.prog 43 [.v (.slice none 0 0)] := ⟨[.slice none 0 0], by kernel_rfl, rfl, rfl⟩
instance : Typ Try.prog 44 1 false := ⟨by kernel_rfl⟩
instance : Zer Try.prog 44 [.v (.int .i64 0)] := ⟨[.int .i64 0], by kernel_rfl, rfl, rfl⟩
instance : Typ Try.prog 45 1 false := ⟨by kernel_rfl⟩
instance : Typ Try.prog 46 1 false := ⟨by kernel_rfl⟩
instance : Zer Try.prog 46 [.v .nilFunc] := ⟨[.nilFunc], by kernel_rfl, rfl, rfl⟩
instance : Typ Try.prog 47 1 false := ⟨by kernel_rfl⟩
instance : Zer Try.prog 47 [.v .nilFunc] := ⟨[.nilFunc], by kernel_rfl, rfl, rfl⟩
instance : Typ Try.prog 48 1 false := ⟨by kernel_rfl⟩
instance : Zer Try.prog 48 [.v .nilFunc] := ⟨[.nilFunc], by kernel_rfl, rfl, rfl⟩
instance : Typ Try.prog 49 1 false := ⟨by kernel_rfl⟩
instance : Zer Try.prog 49 [.v .nilFunc] := ⟨[.nilFunc], by kernel_rfl, rfl, rfl⟩
instance : Typ Try.prog 50 1 false := ⟨by kernel_rfl⟩
instance : Zer Try.prog 50 [.v .nilFunc] := ⟨[.nilFunc], by kernel_rfl, rfl, rfl⟩
instance : Typ Try.prog 51 1 false := ⟨by kernel_rfl⟩
instance : Zer Try.prog 51 [.v .nilFunc] := ⟨[.nilFunc], by kernel_rfl, rfl, rfl⟩
instance : Typ Try.prog 52 1 false := ⟨by kernel_rfl⟩
instance : Elm Try.prog 52 31 1 24 := ⟨by kernel_rfl, by decide⟩
instance : Zer Try.prog 52 [.v (.slice none 0 0)] := ⟨[.slice none 0 0], by kernel_rfl, rfl, rfl⟩
instance : Typ Try.prog 53 1 false := ⟨by kernel_rfl⟩
instance : Typ Try.prog 54 1 false := ⟨by kernel_rfl⟩
instance : Zer Try.prog 54 [.v .nilFunc] := ⟨[.nilFunc], by kernel_rfl, rfl, rfl⟩
instance : Typ Try.prog 55 1 false := ⟨by kernel_rfl⟩
instance : Zer Try.prog 55 [.v .nilFunc] := ⟨[.nilFunc], by kernel_rfl, rfl, rfl⟩
instance : Typ Try.prog 56 1 false := ⟨by kernel_rfl⟩
instance : Elm Try.prog 56 39 2 16 := ⟨by kernel_rfl, by decide⟩
instance : Zer Try.prog 56 [.v (.slice none 0 0)] := ⟨[.slice none 0 0], by kernel_rfl, rfl, rfl⟩
instance : Typ Try.prog 57 1 false := ⟨by kernel_rfl⟩
instance : Elm Try.prog 57 9 1 16 := ⟨by kernel_rfl, by decide⟩
instance : Zer Try.prog 57 [.v (.slice none 0 0)] := ⟨[.slice none 0 0], by kernel_rfl, rfl, rfl⟩
instance : Typ Try.prog 58 1 false := ⟨by kernel_rfl⟩
instance : Typ Try.prog 59 1 false := ⟨by kernel_rfl⟩
instance : Zer Try.prog 59 [.v .nilFunc] := ⟨[.nilFunc], by kernel_rfl, rfl, rfl⟩
instance : Typ Try.prog 60 1 false := ⟨by kernel_rfl⟩
instance : Typ Try.prog 61 1 false := ⟨by kernel_rfl⟩
instance : Zer Try.prog 61 [.v .nilFunc] := ⟨[.nilFunc], by kernel_rfl, rfl, rfl⟩
instance : Typ Try.prog 62 1 false := ⟨by kernel_rfl⟩
instance : Zer Try.prog 62 [.v .nilFunc] := ⟨[.nilFunc], by kernel_rfl, rfl, rfl⟩
instance : Typ Try.prog 63 1 false := ⟨by kernel_rfl⟩
instance : Zer Try.prog 63 [.v .nilFunc] := ⟨[.nilFunc], by kernel_rfl, rfl, rfl⟩
instance : Typ Try.prog 64 1 false := ⟨by kernel_rfl⟩
instance : Zer Try.prog 64 [.v .nilFunc] := ⟨[.nilFunc], by kernel_rfl, rfl, rfl⟩
instance : Typ Try.prog 65 1 false := ⟨by kernel_rfl⟩
instance : Zer Try.prog 65 [.v .nilFunc] := ⟨[.nilFunc], by kernel_rfl, rfl, rfl⟩
instance : Typ Try.prog 66 1 false := ⟨by kernel_rfl⟩
instance : Zer Try.prog 66 [.v .nilFunc] := ⟨[.nilFunc], by kernel_rfl, rfl, rfl⟩
instance : Typ Try.prog 67 7 true := ⟨by kernel_rfl⟩
instance : Zer Try.prog 67 [.v (.int .i64 0), .v (.int .i64 0), .v (.string ⟨#[]⟩), .v (.int .i64 0), .v (.int .i64 0), .v (.int .i64 0), .v (.int .i64 0)] := ⟨[.int .i64 0, .int .i64 0, .string ⟨#[]⟩, .int .i64 0, .int .i64 0, .int .i64 0, .int .i64 0], by kernel_rfl, rfl, rfl⟩
instance : Plc Try.prog 67 [(0, 2), (2, 1), (3, 2), (5, 2)] := ⟨by kernel_rfl⟩
instance : Fld Try.prog 67 0 0 2 := ⟨by kernel_rfl⟩
instance : Fld Try.prog 67 1 2 1 := ⟨by kernel_rfl⟩
instance : Fld Try.prog 67 2 3 2 := ⟨by kernel_rfl⟩
instance : Fld Try.prog 67 3 5 2 := ⟨by kernel_rfl⟩
instance : Typ Try.prog 68 7 true := ⟨by kernel_rfl⟩
instance : Zer Try.prog 68 [.v (.int .i64 0), .v (.int .i64 0), .v (.string ⟨#[]⟩), .v (.int .i64 0), .v (.int .i64 0), .v (.int .i64 0), .v (.int .i64 0)] := ⟨[.int .i64 0, .int .i64 0, .string ⟨#[]⟩, .int .i64 0, .int .i64 0, .int .i64 0, .int .i64 0], by kernel_rfl, rfl, rfl⟩
instance : Plc Try.prog 68 [(0, 2), (2, 1), (3, 2), (5, 2)] := ⟨by kernel_rfl⟩
instance : Fld Try.prog 68 0 0 2 := ⟨by kernel_rfl⟩
instance : Fld Try.prog 68 1 2 1 := ⟨by kernel_rfl⟩
instance : Fld Try.prog 68 2 3 2 := ⟨by kernel_rfl⟩
instance : Fld Try.prog 68 3 5 2 := ⟨by kernel_rfl⟩
instance : Typ Try.prog 69 1 false := ⟨by kernel_rfl⟩
instance : Zer Try.prog 69 [.v .nilFunc] := ⟨[.nilFunc], by kernel_rfl, rfl, rfl⟩
instance : Typ Try.prog 70 1 false := ⟨by kernel_rfl⟩
instance : Zer Try.prog 70 [.v .nilFunc] := ⟨[.nilFunc], by kernel_rfl, rfl, rfl⟩
instance : Typ Try.prog 71 1 false := ⟨by kernel_rfl⟩
instance : Zer Try.prog 71 [.v .nilFunc] := ⟨[.nilFunc], by kernel_rfl, rfl, rfl⟩
instance : Typ Try.prog 72 1 false := ⟨by kernel_rfl⟩
instance : Zer Try.prog 72 [.v .nilFunc] := ⟨[.nilFunc], by kernel_rfl, rfl, rfl⟩
instance : Typ Try.prog 73 1 false := ⟨by kernel_rfl⟩
instance : Zer Try.prog 73 [.v .nilFunc] := ⟨[.nilFunc], by kernel_rfl, rfl, rfl⟩
instance : Typ Try.prog 74 1 false := ⟨by kernel_rfl⟩
instance : Zer Try.prog 74 [.v .nilFunc] := ⟨[.nilFunc], by kernel_rfl, rfl, rfl⟩
instance : Typ Try.prog 75 1 false := ⟨by kernel_rfl⟩
instance : Zer Try.prog 75 [.v .nilFunc] := ⟨[.nilFunc], by kernel_rfl, rfl, rfl⟩
instance : Typ Try.prog 76 1 false := ⟨by kernel_rfl⟩
instance : Zer Try.prog 76 [.v .nilFunc] := ⟨[.nilFunc], by kernel_rfl, rfl, rfl⟩
instance : Typ Try.prog 77 1 false := ⟨by kernel_rfl⟩
instance : Elm Try.prog 77 34 8 88 := ⟨by kernel_rfl, by decide⟩
instance : Zer Try.prog 77 [.v (.slice none 0 0)] := ⟨[.slice none 0 0], by kernel_rfl, rfl, rfl⟩
instance : Typ Try.prog 78 2 true := ⟨by kernel_rfl⟩
instance : Zer Try.prog 78 [.v (.int .i64 0), .v (.slice none 0 0)] := ⟨[.int .i64 0, .slice none 0 0], by kernel_rfl, rfl, rfl⟩
instance : Plc Try.prog 78 [(0, 1), (1, 1)] := ⟨by kernel_rfl⟩
instance : Fld Try.prog 78 0 0 1 := ⟨by kernel_rfl⟩
instance : Fld Try.prog 78 1 1 1 := ⟨by kernel_rfl⟩
instance : Typ Try.prog 79 2 true := ⟨by kernel_rfl⟩
instance : Zer Try.prog 79 [.v (.int .i64 0), .v (.slice none 0 0)] := ⟨[.int .i64 0, .slice none 0 0], by kernel_rfl, rfl, rfl⟩
instance : Plc Try.prog 79 [(0, 1), (1, 1)] := ⟨by kernel_rfl⟩
instance : Fld Try.prog 79 0 0 1 := ⟨by kernel_rfl⟩
instance : Fld Try.prog 79 1 1 1 := ⟨by kernel_rfl⟩
instance : Typ Try.prog 80 2 true := ⟨by kernel_rfl⟩
instance : Zer Try.prog 80 [.v (.slice none 0 0), .v (.int .i64 0)] := ⟨[.slice none 0 0, .int .i64 0], by kernel_rfl, rfl, rfl⟩
instance : Plc Try.prog 80 [(0, 1), (1, 1)] := ⟨by kernel_rfl⟩
instance : Fld Try.prog 80 0 0 1 := ⟨by kernel_rfl⟩
instance : Fld Try.prog 80 1 1 1 := ⟨by kernel_rfl⟩
instance : Typ Try.prog 81 2 true := ⟨by kernel_rfl⟩
instance : Zer Try.prog 81 [.v (.slice none 0 0), .v (.int .i64 0)] := ⟨[.slice none 0 0, .int .i64 0], by kernel_rfl, rfl, rfl⟩
instance : Plc Try.prog 81 [(0, 1), (1, 1)] := ⟨by kernel_rfl⟩
instance : Fld Try.prog 81 0 0 1 := ⟨by kernel_rfl⟩
instance : Fld Try.prog 81 1 1 1 := ⟨by kernel_rfl⟩
instance : Typ Try.prog 82 1 false := ⟨by kernel_rfl⟩
instance : Zer Try.prog 82 [.v .nilFunc] := ⟨[.nilFunc], by kernel_rfl, rfl, rfl⟩
instance : Typ Try.prog 83 1 false := ⟨by kernel_rfl⟩
instance : Zer Try.prog 83 [.v .nilFunc] := ⟨[.nilFunc], by kernel_rfl, rfl, rfl⟩
instance : Typ Try.prog 84 1 false := ⟨by kernel_rfl⟩
instance : Zer Try.prog 84 [.v .nilFunc] := ⟨[.nilFunc], by kernel_rfl, rfl, rfl⟩
instance : Typ Try.prog 85 1 false := ⟨by kernel_rfl⟩
instance : Zer Try.prog 85 [.v .nilFunc] := ⟨[.nilFunc], by kernel_rfl, rfl, rfl⟩
instance : Typ Try.prog 86 1 false := ⟨by kernel_rfl⟩
instance : Zer Try.prog 86 [.v .nilFunc] := ⟨[.nilFunc], by kernel_rfl, rfl, rfl⟩
instance : Typ Try.prog 87 1 false := ⟨by kernel_rfl⟩
instance : Zer Try.prog 87 [.v .nilFunc] := ⟨[.nilFunc], by kernel_rfl, rfl, rfl⟩
instance : Typ Try.prog 88 1 false := ⟨by kernel_rfl⟩
instance : Typ Try.prog 89 1 false := ⟨by kernel_rfl⟩
instance : Zer Try.prog 89 [.v .nilFunc] := ⟨[.nilFunc], by kernel_rfl, rfl, rfl⟩
instance : Typ Try.prog 90 1 false := ⟨by kernel_rfl⟩
instance : Zer Try.prog 90 [.v .nilFunc] := ⟨[.nilFunc], by kernel_rfl, rfl, rfl⟩
instance : Typ Try.prog 91 1 false := ⟨by kernel_rfl⟩
instance : Zer Try.prog 91 [.v .nilFunc] := ⟨[.nilFunc], by kernel_rfl, rfl, rfl⟩
instance : Typ Try.prog 92 1 false := ⟨by kernel_rfl⟩
instance : Zer Try.prog 92 [.v (.pointer none)] := ⟨[.pointer none], by kernel_rfl, rfl, rfl⟩
instance : Typ Try.prog 93 1 false := ⟨by kernel_rfl⟩
instance : Zer Try.prog 93 [.v .nilFunc] := ⟨[.nilFunc], by kernel_rfl, rfl, rfl⟩
instance : Typ Try.prog 94 1 false := ⟨by kernel_rfl⟩
instance : Zer Try.prog 94 [.v (.pointer none)] := ⟨[.pointer none], by kernel_rfl, rfl, rfl⟩
instance : Typ Try.prog 95 1 false := ⟨by kernel_rfl⟩
instance : Zer Try.prog 95 [.v .nilFunc] := ⟨[.nilFunc], by kernel_rfl, rfl, rfl⟩
instance : Typ Try.prog 96 1 false := ⟨by kernel_rfl⟩
instance : Zer Try.prog 96 [.v .nilFunc] := ⟨[.nilFunc], by kernel_rfl, rfl, rfl⟩
instance : Typ Try.prog 97 1 false := ⟨by kernel_rfl⟩
instance : Zer Try.prog 97 [.v .nilFunc] := ⟨[.nilFunc], by kernel_rfl, rfl, rfl⟩
instance : Typ Try.prog 98 1 false := ⟨by kernel_rfl⟩
instance : Zer Try.prog 98 [.v .nilFunc] := ⟨[.nilFunc], by kernel_rfl, rfl, rfl⟩
instance : Typ Try.prog 99 1 false := ⟨by kernel_rfl⟩
instance : Zer Try.prog 99 [.v .nilFunc] := ⟨[.nilFunc], by kernel_rfl, rfl, rfl⟩
instance : Typ Try.prog 100 2 true := ⟨by kernel_rfl⟩
instance : Zer Try.prog 100 [.v (.string ⟨#[]⟩), .v (.int .i64 0)] := ⟨[.string ⟨#[]⟩, .int .i64 0], by kernel_rfl, rfl, rfl⟩
instance : Plc Try.prog 100 [(0, 1), (1, 1)] := ⟨by kernel_rfl⟩
instance : Fld Try.prog 100 0 0 1 := ⟨by kernel_rfl⟩
instance : Fld Try.prog 100 1 1 1 := ⟨by kernel_rfl⟩
instance : Typ Try.prog 101 2 true := ⟨by kernel_rfl⟩
instance : Zer Try.prog 101 [.v (.string ⟨#[]⟩), .v (.int .i64 0)] := ⟨[.string ⟨#[]⟩, .int .i64 0], by kernel_rfl, rfl, rfl⟩
instance : Plc Try.prog 101 [(0, 1), (1, 1)] := ⟨by kernel_rfl⟩
instance : Fld Try.prog 101 0 0 1 := ⟨by kernel_rfl⟩
instance : Fld Try.prog 101 1 1 1 := ⟨by kernel_rfl⟩
instance : Typ Try.prog 102 1 false := ⟨by kernel_rfl⟩
instance : Zer Try.prog 102 [.v .nilFunc] := ⟨[.nilFunc], by kernel_rfl, rfl, rfl⟩
instance : Typ Try.prog 103 1 false := ⟨by kernel_rfl⟩
instance : Zer Try.prog 103 [.v .nilFunc] := ⟨[.nilFunc], by kernel_rfl, rfl, rfl⟩
instance : Typ Try.prog 104 1 false := ⟨by kernel_rfl⟩
instance : Typ Try.prog 105 1 false := ⟨by kernel_rfl⟩
instance : Zer Try.prog 105 [.v .nilFunc] := ⟨[.nilFunc], by kernel_rfl, rfl, rfl⟩
instance : Typ Try.prog 106 1 false := ⟨by kernel_rfl⟩
instance : Zer Try.prog 106 [.v .nilFunc] := ⟨[.nilFunc], by kernel_rfl, rfl, rfl⟩
instance : Typ Try.prog 107 1 false := ⟨by kernel_rfl⟩
instance : Zer Try.prog 107 [.v .nilFunc] := ⟨[.nilFunc], by kernel_rfl, rfl, rfl⟩
instance : Typ Try.prog 108 1 false := ⟨by kernel_rfl⟩
instance : Zer Try.prog 108 [.v .nilFunc] := ⟨[.nilFunc], by kernel_rfl, rfl, rfl⟩
instance : Typ Try.prog 109 1 false := ⟨by kernel_rfl⟩
instance : Elm Try.prog 109 44 1 8 := ⟨by kernel_rfl, by decide⟩
instance : Zer Try.prog 109 [.v (.slice none 0 0)] := ⟨[.slice none 0 0], by kernel_rfl, rfl, rfl⟩
instance : Typ Try.prog 110 1 false := ⟨by kernel_rfl⟩
instance : Zer Try.prog 110 [.v .nilFunc] := ⟨[.nilFunc], by kernel_rfl, rfl, rfl⟩
instance : Typ Try.prog 111 1 false := ⟨by kernel_rfl⟩
instance : Zer Try.prog 111 [.v .nilFunc] := ⟨[.nilFunc], by kernel_rfl, rfl, rfl⟩
instance : Typ Try.prog 112 1 false := ⟨by kernel_rfl⟩
instance : Zer Try.prog 112 [.v .nilFunc] := ⟨[.nilFunc], by kernel_rfl, rfl, rfl⟩
instance : Typ Try.prog 113 1 false := ⟨by kernel_rfl⟩
instance : Zer Try.prog 113 [.v .nilFunc] := ⟨[.nilFunc], by kernel_rfl, rfl, rfl⟩
instance : Typ Try.prog 114 1 false := ⟨by kernel_rfl⟩
instance : Zer Try.prog 114 [.v .nilFunc] := ⟨[.nilFunc], by kernel_rfl, rfl, rfl⟩
instance : Typ Try.prog 115 1 false := ⟨by kernel_rfl⟩
instance : Zer Try.prog 115 [.v .nilFunc] := ⟨[.nilFunc], by kernel_rfl, rfl, rfl⟩
instance : Typ Try.prog 116 1 false := ⟨by kernel_rfl⟩
instance : Zer Try.prog 116 [.v .nilFunc] := ⟨[.nilFunc], by kernel_rfl, rfl, rfl⟩
instance : Typ Try.prog 117 1 false := ⟨by kernel_rfl⟩
instance : Zer Try.prog 117 [.v .nilFunc] := ⟨[.nilFunc], by kernel_rfl, rfl, rfl⟩
instance : Typ Try.prog 118 1 false := ⟨by kernel_rfl⟩
instance : Zer Try.prog 118 [.v .nilFunc] := ⟨[.nilFunc], by kernel_rfl, rfl, rfl⟩
instance : Typ Try.prog 119 1 false := ⟨by kernel_rfl⟩
instance : Zer Try.prog 119 [.v .nilFunc] := ⟨[.nilFunc], by kernel_rfl, rfl, rfl⟩
instance : Typ Try.prog 120 1 false := ⟨by kernel_rfl⟩
instance : Zer Try.prog 120 [.v .nilFunc] := ⟨[.nilFunc], by kernel_rfl, rfl, rfl⟩
instance : Typ Try.prog 121 1 false := ⟨by kernel_rfl⟩
instance : Zer Try.prog 121 [.v .nilFunc] := ⟨[.nilFunc], by kernel_rfl, rfl, rfl⟩
instance : Typ Try.prog 122 1 false := ⟨by kernel_rfl⟩
instance : Zer Try.prog 122 [.v .nilFunc] := ⟨[.nilFunc], by kernel_rfl, rfl, rfl⟩
instance : Typ Try.prog 123 1 false := ⟨by kernel_rfl⟩
instance : Zer Try.prog 123 [.v .nilFunc] := ⟨[.nilFunc], by kernel_rfl, rfl, rfl⟩
instance : Typ Try.prog 124 1 false := ⟨by kernel_rfl⟩
instance : Zer Try.prog 124 [.v .nilFunc] := ⟨[.nilFunc], by kernel_rfl, rfl, rfl⟩
instance : Typ Try.prog 125 1 false := ⟨by kernel_rfl⟩
instance : Zer Try.prog 125 [.v .nilFunc] := ⟨[.nilFunc], by kernel_rfl, rfl, rfl⟩
instance : Typ Try.prog 126 1 false := ⟨by kernel_rfl⟩
instance : Zer Try.prog 126 [.v .nilFunc] := ⟨[.nilFunc], by kernel_rfl, rfl, rfl⟩
instance : Typ Try.prog 127 1 false := ⟨by kernel_rfl⟩
instance : Zer Try.prog 127 [.v .nilFunc] := ⟨[.nilFunc], by kernel_rfl, rfl, rfl⟩
instance : Typ Try.prog 128 1 false := ⟨by kernel_rfl⟩
instance : Zer Try.prog 128 [.v .nilFunc] := ⟨[.nilFunc], by kernel_rfl, rfl, rfl⟩
instance : Typ Try.prog 129 1 false := ⟨by kernel_rfl⟩
instance : Zer Try.prog 129 [.v .nilFunc] := ⟨[.nilFunc], by kernel_rfl, rfl, rfl⟩
instance : Typ Try.prog 130 256 true := ⟨by kernel_rfl⟩
instance : Typ Try.prog 131 256 true := ⟨by kernel_rfl⟩
instance : Typ Try.prog 132 1 false := ⟨by kernel_rfl⟩
instance : Typ Try.prog 133 1 false := ⟨by kernel_rfl⟩
instance : Zer Try.prog 133 [.v .nilFunc] := ⟨[.nilFunc], by kernel_rfl, rfl, rfl⟩
instance : Typ Try.prog 134 1 false := ⟨by kernel_rfl⟩
instance : Zer Try.prog 134 [.v .nilFunc] := ⟨[.nilFunc], by kernel_rfl, rfl, rfl⟩
instance : Typ Try.prog 135 1 false := ⟨by kernel_rfl⟩
instance : Zer Try.prog 135 [.v .nilFunc] := ⟨[.nilFunc], by kernel_rfl, rfl, rfl⟩
instance : Typ Try.prog 136 1 false := ⟨by kernel_rfl⟩
instance : Zer Try.prog 136 [.v (.int .u64 0)] := ⟨[.int .u64 0], by kernel_rfl, rfl, rfl⟩
instance : Typ Try.prog 137 1 false := ⟨by kernel_rfl⟩
instance : Zer Try.prog 137 [.v (.pointer none)] := ⟨[.pointer none], by kernel_rfl, rfl, rfl⟩
instance : Typ Try.prog 138 1 false := ⟨by kernel_rfl⟩
instance : Zer Try.prog 138 [.v .nilFunc] := ⟨[.nilFunc], by kernel_rfl, rfl, rfl⟩
instance : Typ Try.prog 139 4 true := ⟨by kernel_rfl⟩
instance : Zer Try.prog 139 [.v (.pointer none), .v (.pointer none), .v (.pointer none), .v (.string ⟨#[]⟩)] := ⟨[.pointer none, .pointer none, .pointer none, .string ⟨#[]⟩], by kernel_rfl, rfl, rfl⟩
instance : Plc Try.prog 139 [(0, 1), (1, 1), (2, 1), (3, 1)] := ⟨by kernel_rfl⟩
instance : Fld Try.prog 139 0 0 1 := ⟨by kernel_rfl⟩
instance : Fld Try.prog 139 1 1 1 := ⟨by kernel_rfl⟩
instance : Fld Try.prog 139 2 2 1 := ⟨by kernel_rfl⟩
instance : Fld Try.prog 139 3 3 1 := ⟨by kernel_rfl⟩
instance : Typ Try.prog 140 4 true := ⟨by kernel_rfl⟩
instance : Zer Try.prog 140 [.v (.pointer none), .v (.pointer none), .v (.pointer none), .v (.string ⟨#[]⟩)] := ⟨[.pointer none, .pointer none, .pointer none, .string ⟨#[]⟩], by kernel_rfl, rfl, rfl⟩
instance : Plc Try.prog 140 [(0, 1), (1, 1), (2, 1), (3, 1)] := ⟨by kernel_rfl⟩
instance : Fld Try.prog 140 0 0 1 := ⟨by kernel_rfl⟩
instance : Fld Try.prog 140 1 1 1 := ⟨by kernel_rfl⟩
instance : Fld Try.prog 140 2 2 1 := ⟨by kernel_rfl⟩
instance : Fld Try.prog 140 3 3 1 := ⟨by kernel_rfl⟩
instance : Typ Try.prog 141 0 true := ⟨by kernel_rfl⟩
instance : Typ Try.prog 142 0 true := ⟨by kernel_rfl⟩
instance : Plc Try.prog 142 [(0, 0)] := ⟨by kernel_rfl⟩
instance : Typ Try.prog 143 0 true := ⟨by kernel_rfl⟩
instance : Plc Try.prog 143 [(0, 0)] := ⟨by kernel_rfl⟩
instance : Typ Try.prog 144 1 false := ⟨by kernel_rfl⟩
instance : Zer Try.prog 144 [.v .nilFunc] := ⟨[.nilFunc], by kernel_rfl, rfl, rfl⟩
instance : Typ Try.prog 145 1 false := ⟨by kernel_rfl⟩
instance : Zer Try.prog 145 [.v (.int .u32 0)] := ⟨[.int .u32 0], by kernel_rfl, rfl, rfl⟩
instance : Typ Try.prog 146 1 false := ⟨by kernel_rfl⟩
instance : Zer Try.prog 146 [.v (.int .u8 0)] := ⟨[.int .u8 0], by kernel_rfl, rfl, rfl⟩
instance : Typ Try.prog 147 1 false := ⟨by kernel_rfl⟩
instance : Zer Try.prog 147 [.v (.int .u8 0)] := ⟨[.int .u8 0], by kernel_rfl, rfl, rfl⟩
instance : Typ Try.prog 148 1 false := ⟨by kernel_rfl⟩
instance : Zer Try.prog 148 [.v .nilFunc] := ⟨[.nilFunc], by kernel_rfl, rfl, rfl⟩
instance : Typ Try.prog 149 1 false := ⟨by kernel_rfl⟩
instance : Zer Try.prog 149 [.v (.pointer none)] := ⟨[.pointer none], by kernel_rfl, rfl, rfl⟩
instance : Typ Try.prog 150 1 false := ⟨by kernel_rfl⟩
instance : Zer Try.prog 150 [.v (.int .i32 0)] := ⟨[.int .i32 0], by kernel_rfl, rfl, rfl⟩
instance : Typ Try.prog 151 1 false := ⟨by kernel_rfl⟩
instance : Zer Try.prog 151 [.v (.int .i32 0)] := ⟨[.int .i32 0], by kernel_rfl, rfl, rfl⟩
instance : Typ Try.prog 152 11 true := ⟨by kernel_rfl⟩
instance : Zer Try.prog 152 [.v (.int .u64 0), .v (.int .u64 0), .v (.int .u32 0), .v (.int .u8 0), .v (.int .u8 0), .v (.int .u8 0), .v (.int .u8 0), .v .nilFunc, .v (.pointer none), .v (.int .i32 0), .v (.int .i32 0)] := ⟨[.int .u64 0, .int .u64 0, .int .u32 0, .int .u8 0, .int .u8 0, .int .u8 0, .int .u8 0, .nilFunc, .pointer none, .int .i32 0, .int .i32 0], by kernel_rfl, rfl, rfl⟩
instance : Plc Try.prog 152 [(0, 1), (1, 1), (2, 1), (3, 1), (4, 1), (5, 1), (6, 1), (7, 1), (8, 1), (9, 1), (10, 1)] := ⟨by kernel_rfl⟩
instance : Fld Try.prog 152 0 0 1 := ⟨by kernel_rfl⟩
instance : Fld Try.prog 152 1 1 1 := ⟨by kernel_rfl⟩
instance : Fld Try.prog 152 2 2 1 := ⟨by kernel_rfl⟩
instance : Fld Try.prog 152 3 3 1 := ⟨by kernel_rfl⟩
instance : Fld Try.prog 152 4 4 1 := ⟨by kernel_rfl⟩
instance : Fld Try.prog 152 5 5 1 := ⟨by kernel_rfl⟩
instance : Fld Try.prog 152 6 6 1 := ⟨by kernel_rfl⟩
instance : Fld Try.prog 152 7 7 1 := ⟨by kernel_rfl⟩
instance : Fld Try.prog 152 8 8 1 := ⟨by kernel_rfl⟩
instance : Fld Try.prog 152 9 9 1 := ⟨by kernel_rfl⟩
instance : Fld Try.prog 152 10 10 1 := ⟨by kernel_rfl⟩
instance : Typ Try.prog 153 11 true := ⟨by kernel_rfl⟩
instance : Zer Try.prog 153 [.v (.int .u64 0), .v (.int .u64 0), .v (.int .u32 0), .v (.int .u8 0), .v (.int .u8 0), .v (.int .u8 0), .v (.int .u8 0), .v .nilFunc, .v (.pointer none), .v (.int .i32 0), .v (.int .i32 0)] := ⟨[.int .u64 0, .int .u64 0, .int .u32 0, .int .u8 0, .int .u8 0, .int .u8 0, .int .u8 0, .nilFunc, .pointer none, .int .i32 0, .int .i32 0], by kernel_rfl, rfl, rfl⟩
instance : Plc Try.prog 153 [(0, 1), (1, 1), (2, 1), (3, 1), (4, 1), (5, 1), (6, 1), (7, 1), (8, 1), (9, 1), (10, 1)] := ⟨by kernel_rfl⟩
instance : Fld Try.prog 153 0 0 1 := ⟨by kernel_rfl⟩
instance : Fld Try.prog 153 1 1 1 := ⟨by kernel_rfl⟩
instance : Fld Try.prog 153 2 2 1 := ⟨by kernel_rfl⟩
instance : Fld Try.prog 153 3 3 1 := ⟨by kernel_rfl⟩
instance : Fld Try.prog 153 4 4 1 := ⟨by kernel_rfl⟩
instance : Fld Try.prog 153 5 5 1 := ⟨by kernel_rfl⟩
instance : Fld Try.prog 153 6 6 1 := ⟨by kernel_rfl⟩
instance : Fld Try.prog 153 7 7 1 := ⟨by kernel_rfl⟩
instance : Fld Try.prog 153 8 8 1 := ⟨by kernel_rfl⟩
instance : Fld Try.prog 153 9 9 1 := ⟨by kernel_rfl⟩
instance : Fld Try.prog 153 10 10 1 := ⟨by kernel_rfl⟩
instance : Typ Try.prog 154 1 false := ⟨by kernel_rfl⟩
instance : Zer Try.prog 154 [.v (.pointer none)] := ⟨[.pointer none], by kernel_rfl, rfl, rfl⟩
instance : Fun Try.prog 2 := ⟨by kernel_rfl⟩
instance : Fun Try.prog 3 := ⟨by kernel_rfl⟩
instance : Fun Try.prog 4 := ⟨by kernel_rfl⟩
instance : Fun Try.prog 5 := ⟨by kernel_rfl⟩
instance : Fun Try.prog 6 := ⟨by kernel_rfl⟩
instance : Fun Try.prog 7 := ⟨by kernel_rfl⟩
instance : Fun Try.prog 8 := ⟨by kernel_rfl⟩
instance : Fun Try.prog 9 := ⟨by kernel_rfl⟩
instance : Fun Try.prog 10 := ⟨by kernel_rfl⟩
instance : Fun Try.prog 11 := ⟨by kernel_rfl⟩
instance : Fun Try.prog 12 := ⟨by kernel_rfl⟩
instance : Fun Try.prog 13 := ⟨by kernel_rfl⟩
instance : Fun Try.prog 14 := ⟨by kernel_rfl⟩
instance : Fun Try.prog 15 := ⟨by kernel_rfl⟩
instance : Fun Try.prog 16 := ⟨by kernel_rfl⟩
instance : Fun Try.prog 17 := ⟨by kernel_rfl⟩
instance : Fun Try.prog 18 := ⟨by kernel_rfl⟩
instance : Fun Try.prog 19 := ⟨by kernel_rfl⟩
instance : Fun Try.prog 20 := ⟨by kernel_rfl⟩
instance : Fun Try.prog 21 := ⟨by kernel_rfl⟩
instance : Fun Try.prog 22 := ⟨by kernel_rfl⟩
instance : Fun Try.prog 23 := ⟨by kernel_rfl⟩
instance : Fun Try.prog 24 := ⟨by kernel_rfl⟩
instance : Fun Try.prog 25 := ⟨by kernel_rfl⟩
instance : Fun Try.prog 26 := ⟨by kernel_rfl⟩
instance : Fun Try.prog 27 := ⟨by kernel_rfl⟩
instance : Fun Try.prog 28 := ⟨by kernel_rfl⟩
instance : Fun Try.prog 29 := ⟨by kernel_rfl⟩
instance : Fun Try.prog 30 := ⟨by kernel_rfl⟩
instance : Fun Try.prog 31 := ⟨by kernel_rfl⟩
instance : Fun Try.prog 32 := ⟨by kernel_rfl⟩
instance : Fun Try.prog 33 := ⟨by kernel_rfl⟩
instance : Fun Try.prog 34 := ⟨by kernel_rfl⟩
instance : Fun Try.prog 35 := ⟨by kernel_rfl⟩
instance : Fun Try.prog 36 := ⟨by kernel_rfl⟩
instance : Fun Try.prog 37 := ⟨by kernel_rfl⟩
instance : Fun Try.prog 38 := ⟨by kernel_rfl⟩
instance : Fun Try.prog 39 := ⟨by kernel_rfl⟩
instance : Fun Try.prog 40 := ⟨by kernel_rfl⟩
instance : Fun Try.prog 41 := ⟨by kernel_rfl⟩
instance : Fun Try.prog 42 := ⟨by kernel_rfl⟩
instance : Fun Try.prog 43 := ⟨by kernel_rfl⟩
instance : Fun Try.prog 44 := ⟨by kernel_rfl⟩
instance : Fun Try.prog 45 := ⟨by kernel_rfl⟩
instance : Fun Try.prog 46 := ⟨by kernel_rfl⟩
instance : Fun Try.prog 47 := ⟨by kernel_rfl⟩
instance : Fun Try.prog 48 := ⟨by kernel_rfl⟩
instance : Fun Try.prog 49 := ⟨by kernel_rfl⟩
instance : Fun Try.prog 50 := ⟨by kernel_rfl⟩
instance : Fun Try.prog 51 := ⟨by kernel_rfl⟩
instance : Fun Try.prog 52 := ⟨by kernel_rfl⟩
instance : Fun Try.prog 53 := ⟨by kernel_rfl⟩
instance : Fun Try.prog 54 := ⟨by kernel_rfl⟩
instance : Fun Try.prog 55 := ⟨by kernel_rfl⟩
instance : Fun Try.prog 56 := ⟨by kernel_rfl⟩
instance : Fun Try.prog 57 := ⟨by kernel_rfl⟩
instance : Fun Try.prog 58 := ⟨by kernel_rfl⟩
instance : Fun Try.prog 59 := ⟨by kernel_rfl⟩
instance : Fun Try.prog 60 := ⟨by kernel_rfl⟩
instance : Fun Try.prog 61 := ⟨by kernel_rfl⟩
instance : Fun Try.prog 62 := ⟨by kernel_rfl⟩
instance : Fun Try.prog 63 := ⟨by kernel_rfl⟩
instance : Fun Try.prog 64 := ⟨by kernel_rfl⟩
instance : Fun Try.prog 65 := ⟨by kernel_rfl⟩
instance : Fun Try.prog 66 := ⟨by kernel_rfl⟩
instance : Fun Try.prog 67 := ⟨by kernel_rfl⟩
instance : Fun Try.prog 68 := ⟨by kernel_rfl⟩
instance : Fun Try.prog 69 := ⟨by kernel_rfl⟩
instance : Fun Try.prog 70 := ⟨by kernel_rfl⟩
instance : Fun Try.prog 71 := ⟨by kernel_rfl⟩
instance : Fun Try.prog 72 := ⟨by kernel_rfl⟩
instance : Fun Try.prog 73 := ⟨by kernel_rfl⟩
instance : Fun Try.prog 74 := ⟨by kernel_rfl⟩
instance : Fun Try.prog 75 := ⟨by kernel_rfl⟩
instance : Fun Try.prog 76 := ⟨by kernel_rfl⟩
instance : Fun Try.prog 77 := ⟨by kernel_rfl⟩
instance : Fun Try.prog 78 := ⟨by kernel_rfl⟩
instance : Fun Try.prog 79 := ⟨by kernel_rfl⟩
instance : Fun Try.prog 80 := ⟨by kernel_rfl⟩
instance : Fun Try.prog 81 := ⟨by kernel_rfl⟩
instance : Fun Try.prog 82 := ⟨by kernel_rfl⟩
instance : Fun Try.prog 83 := ⟨by kernel_rfl⟩
instance : Fun Try.prog 84 := ⟨by kernel_rfl⟩
instance : Fun Try.prog 85 := ⟨by kernel_rfl⟩
instance : Fun Try.prog 86 := ⟨by kernel_rfl⟩
instance : Fun Try.prog 87 := ⟨by kernel_rfl⟩
instance : Fun Try.prog 88 := ⟨by kernel_rfl⟩
instance : Fun Try.prog 89 := ⟨by kernel_rfl⟩
instance : Fun Try.prog 90 := ⟨by kernel_rfl⟩
instance : Fun Try.prog 91 := ⟨by kernel_rfl⟩
instance : Fun Try.prog 92 := ⟨by kernel_rfl⟩
instance : Fun Try.prog 93 := ⟨by kernel_rfl⟩
instance : Fun Try.prog 94 := ⟨by kernel_rfl⟩
instance : Fun Try.prog 95 := ⟨by kernel_rfl⟩
instance : Fun Try.prog 96 := ⟨by kernel_rfl⟩
instance : Fun Try.prog 97 := ⟨by kernel_rfl⟩
instance : Fun Try.prog 98 := ⟨by kernel_rfl⟩
instance : Fun Try.prog 99 := ⟨by kernel_rfl⟩
instance : Fun Try.prog 100 := ⟨by kernel_rfl⟩
instance : Fun Try.prog 101 := ⟨by kernel_rfl⟩
instance : Fun Try.prog 102 := ⟨by kernel_rfl⟩
instance : Fun Try.prog 103 := ⟨by kernel_rfl⟩
instance : Fun Try.prog 104 := ⟨by kernel_rfl⟩
instance : Fun Try.prog 105 := ⟨by kernel_rfl⟩
instance : Fun Try.prog 106 := ⟨by kernel_rfl⟩
instance : Fun Try.prog 107 := ⟨by kernel_rfl⟩
instance : Fun Try.prog 108 := ⟨by kernel_rfl⟩
instance : Fun Try.prog 110 := ⟨by kernel_rfl⟩
instance : Fun Try.prog 111 := ⟨by kernel_rfl⟩
instance : Fun Try.prog 112 := ⟨by kernel_rfl⟩
instance : Fun Try.prog 113 := ⟨by kernel_rfl⟩
instance : Fun Try.prog 114 := ⟨by kernel_rfl⟩
instance : Fun Try.prog 115 := ⟨by kernel_rfl⟩
instance : Fun Try.prog 116 := ⟨by kernel_rfl⟩
instance : Fun Try.prog 117 := ⟨by kernel_rfl⟩
instance : Fun Try.prog 118 := ⟨by kernel_rfl⟩
instance : Fun Try.prog 119 := ⟨by kernel_rfl⟩
instance : Fun Try.prog 120 := ⟨by kernel_rfl⟩
instance : Fun Try.prog 121 := ⟨by kernel_rfl⟩
instance : Fun Try.prog 124 := ⟨by kernel_rfl⟩
end Go.Proofs.Ythcbdkmhamhciaa
namespace Go.Proofs.Ythcbdkmhamhciaa

abbrev Str := ByteArray
abbrev Fil := Int × Int
abbrev Ent := Str × Int
abbrev Chg := Fil × Str × Fil × Fil
structure Nod where
  ino : Int
  kind : Int
  mode : Int
  uid : Int
  gid : Int
  parent : Int
  target : Str
  entries : List Ent
structure Dvc where
  next : Int
  nodes : List Nod
abbrev Fls := List Dvc
def Nod.zero : Nod := ⟨0, 0, 0, 0, 0, 0, ⟨#[]⟩, []⟩

def idxBy {α : Type} (p : α → Bool) (l : List α) : Int :=
  match l.findIdx? p with
  | some i => (i : Int)
  | none => -1

def atI {α : Type} (l : List α) (i : Int) : Option α := if i < 0 then none else l[i.toNat]?

theorem atI_nat {α : Type} (l : List α) (k : Nat) : atI l (k : Int) = l[k]? := by
  simp [atI, show ¬ ((k : Int) < 0) by omega]
theorem atI_none {α : Type} {l : List α} {i : Int} (h : i < 0 ∨ (l.length : Int) ≤ i) : atI l i = none := by
  unfold atI
  split
  · rfl
  · rw [List.getElem?_eq_none]; omega
theorem atI_some {α : Type} {l : List α} {i : Int} {x : α} (h : atI l i = some x) : 0 ≤ i ∧ i < l.length ∧ l[i.toNat]? = some x := by
  unfold atI at h
  split at h
  · cases h
  · have := (List.getElem?_eq_some_iff.1 h).1
    exact ⟨by omega, by omega, h⟩

theorem findIdx?_first {α : Type} {p : α → Bool} {l : List α} {m : Nat} {x : α} (hx : l[m]? = some x) (hp : p x = true) (h : ∀ j y, j < m → l[j]? = some y → p y = false) : l.findIdx? p = some m := by
  have hl : m < l.length := (List.getElem?_eq_some_iff.1 hx).1
  rw [List.findIdx?_eq_some_iff_getElem]
  refine ⟨hl, by rw [(List.getElem?_eq_some_iff.1 hx).2]; exact hp, fun j hj => ?_⟩
  have := h j l[j] hj (List.getElem?_eq_getElem _)
  simp [this]
theorem idxBy_first {α : Type} {p : α → Bool} {l : List α} {m : Nat} {x : α} (hx : l[m]? = some x) (hp : p x = true) (h : ∀ j y, j < m → l[j]? = some y → p y = false) : idxBy p l = m := by
  unfold idxBy
  rw [findIdx?_first hx hp h]
theorem idxBy_none {α : Type} {p : α → Bool} {l : List α} (h : ∀ j y, j < l.length → l[j]? = some y → p y = false) : idxBy p l = -1 := by
  unfold idxBy
  rw [List.findIdx?_eq_none_iff.2]
  intro x hx
  obtain ⟨j, hj, rfl⟩ := List.mem_iff_getElem.1 hx
  exact h j _ hj (List.getElem?_eq_getElem hj)
theorem upto_snoc {α : Type} {P : α → Prop} {l : List α} {m : Nat} {x : α} (hx : l[m]? = some x) (h : ∀ j y, j < m → l[j]? = some y → P y) (hp : P x) : ∀ j y, j < m + 1 → l[j]? = some y → P y := by
  intro j y hj hy
  by_cases e : j = m
  · subst e
    rw [hx] at hy
    cases hy
    exact hp
  · exact h j y (by omega) hy

def indexL (f : Fls) (at_ : Fil) : Int :=
  match atI f at_.1 with
  | none => -1
  | some d => idxBy (fun n : Nod => n.ino == at_.2) d.nodes
def nodeL (f : Fls) (at_ : Fil) : Option Nod :=
  match atI f at_.1 with
  | none => none
  | some d => d.nodes.find? (fun n : Nod => n.ino == at_.2)

theorem find?_of_findIdx? {α : Type} {p : α → Bool} {l : List α} : (l.findIdx? p).bind (fun i => l[i]?) = l.find? p := by
  cases h : l.findIdx? p with
  | none =>
    rw [List.findIdx?_eq_none_iff] at h
    simp only [Option.bind_none]
    exact (List.find?_eq_none.2 (fun x hx => by simp [h x hx])).symm
  | some i =>
    obtain ⟨hi, hp, hf⟩ := List.findIdx?_eq_some_iff_getElem.1 h
    simp only [Option.bind_some, List.getElem?_eq_getElem hi]
    exact (List.find?_eq_some_iff_getElem.2 ⟨hp, i, hi, rfl, fun j hj => by simpa using hf j hj⟩).symm
theorem index_node (f : Fls) (at_ : Fil) : (indexL f at_ = -1 ∧ nodeL f at_ = none) ∨
    ∃ (k i : Nat) (d : Dvc) (n : Nod), at_.1 = k ∧ f[k]? = some d ∧ d.nodes[i]? = some n ∧ n.ino = at_.2 ∧ indexL f at_ = i ∧ nodeL f at_ = some n := by
  unfold indexL nodeL
  cases h : atI f at_.1 with
  | none => exact .inl ⟨rfl, rfl⟩
  | some d =>
    obtain ⟨h0, h1, h2⟩ := atI_some h
    simp only [← find?_of_findIdx?]
    unfold idxBy
    cases hi : d.nodes.findIdx? (fun n : Nod => n.ino == at_.2) with
    | none => exact .inl ⟨rfl, rfl⟩
    | some i =>
      obtain ⟨hl, hp, _⟩ := List.findIdx?_eq_some_iff_getElem.1 hi
      exact .inr ⟨at_.1.toNat, i, d, d.nodes[i], by omega, h2, List.getElem?_eq_getElem hl, by simpa using hp, rfl, by simp⟩

theorem str_eq (a b : Str) : (a.toList == b.toList) = decide (a = b) := by
  rw [ByteArray.toList_eq, ByteArray.toList_eq, Bool.eq_iff_iff]
  simp only [beq_iff_eq, decide_eq_true_eq]
  constructor
  · intro h
    cases a with
    | mk a =>
      cases b with
      | mk b => exact congrArg ByteArray.mk (Array.toList_inj.1 h)
  · intro h
    rw [h]
def byteOK (c : UInt8) : Bool := !((c.toNat : Int) == 0) && !((c.toNat : Int) == 47)
def nameL (s : Str) : Bool :=
  if s.size < 1 ∨ 12 < s.size then false else if (s.toList == [46]) = true then false else if (s.toList == [46, 46]) = true then false else s.data.toList.all byteOK
def targetL (s : Str) : Bool := s.data.toList.all (fun c => !((c.toNat : Int) == 0)) && decide (1 ≤ s.size) && decide (s.size ≤ 128)
theorem all_upto {p : UInt8 → Bool} {s : Str} (h : ∀ j (hj : j < s.size), p s[j] = true) : s.data.toList.all p = true := by
  rw [List.all_eq_true]
  intro c hc
  obtain ⟨j, hj, rfl⟩ := List.mem_iff_getElem.1 hc
  exact h j (by simpa using hj)
theorem all_not {p : UInt8 → Bool} {s : Str} {j : Nat} (hj : j < s.size) (h : p s[j] = false) : s.data.toList.all p = false := by
  rw [List.all_eq_false]
  refine ⟨s[j], ?_, by simp [h]⟩
  have : s[j] = s.data.toList[j]'(by simpa using hj) := rfl
  rw [this]
  exact List.getElem_mem _
theorem bytes_snoc {p : UInt8 → Bool} {s : Str} {m : Nat} (hm : m < s.size) (h : ∀ j (hj : j < s.size), j < m → p s[j] = true) (hp : p s[m] = true) : ∀ j (hj : j < s.size), j < m + 1 → p s[j] = true := by
  intro j hj hlt
  by_cases e : j = m
  · subst e; exact hp
  · exact h j hj (by omega)

def dirL (f : Fls) (at_ : Fil) : Bool :=
  match nodeL f at_ with
  | none => false
  | some n => n.kind == 2
def placeL (f : Fls) (dir : Fil) (name : Str) : Int :=
  match nodeL f dir with
  | none => 2
  | some n => if n.kind = 2 then (if nameL name then 0 else 22) else 20
def fullL (f : Fls) (dir : Fil) : Bool :=
  match nodeL f dir with
  | none => false
  | some n => decide (12 ≤ n.entries.length)
def emptyL (f : Fls) (dir : Fil) : Bool :=
  match nodeL f dir with
  | none => true
  | some n => decide (n.entries.length = 0)
def lookL (f : Fls) (dir : Fil) (name : Str) : Fil × Int :=
  match nodeL f dir with
  | none => ((0, 0), 2)
  | some n => if n.kind = 2 then
      match n.entries.find? (fun e : Ent => decide (e.1 = name)) with
      | none => ((0, 0), 2)
      | some e => ((dir.1, e.2), 0)
    else ((0, 0), 20)
def plainL (n : Nod) : Bool :=
  if n.kind < 1 ∨ 3 < n.kind ∨ n.mode < 0 ∨ 511 < n.mode ∨ n.uid < 0 ∨ 4294967295 < n.uid ∨ n.gid < 0 ∨ 4294967295 < n.gid then false
  else if n.kind = 3 then targetL n.target else n.target.toList.isEmpty
end Go.Proofs.Ythcbdkmhamhciaa
namespace Go.Proofs.Ythcbdkmhamhciaa

def strLt (a b : Str) : Bool := Op.bytesLess a.toList b.toList
def entGo (name : Str) (ino : Int) : Bool → List Ent → List Ent
  | done, [] => if done then [] else [(name, ino)]
  | done, e :: r =>
    (if !done && !strLt e.1 name then [(name, ino)] else []) ++ ((if e.1 = name then [] else [e]) ++ entGo name ino (done || !strLt e.1 name) r)
def entL (es : List Ent) (name : Str) (ino : Int) : List Ent := entGo name ino (ino == 0) es

def cntE (ino : Int) (es : List Ent) : Nat := es.countP fun e : Ent => e.2 == ino
def cntN (ino : Int) (ns : List Nod) : Nat := cntE ino (ns.flatMap fun n => n.entries)
def linksF (f : Fls) (at_ : Fil) : Nat :=
  match nodeL f at_, atI f at_.1 with
  | some _, some d => cntN at_.2 d.nodes
  | _, _ => 0
theorem cntE_snoc {ino : Int} {es : List Ent} {k : Nat} {e : Ent} (h : es[k]? = some e) : cntE ino (es.take (k + 1)) = cntE ino (es.take k) + (if e.2 == ino then 1 else 0) := by
  unfold cntE
  rw [List.take_add_one, h, List.countP_append]
  simp [List.countP_cons]
theorem cntE_le (ino : Int) (es : List Ent) : cntE ino es ≤ es.length := List.countP_le_length
theorem cntN_snoc {ino : Int} {ns : List Nod} {m : Nat} {n : Nod} (h : ns[m]? = some n) : cntN ino (ns.take (m + 1)) = cntN ino (ns.take m) + cntE ino n.entries := by
  unfold cntN cntE
  rw [List.take_add_one, h, List.flatMap_append, List.countP_append]
  simp
def keepNot (ino : Int) (ns : List Nod) : List Nod := ns.filter fun n => n.ino != ino
def rootNod : Nod := ⟨1, 2, 493, 0, 0, 1, ⟨#[]⟩, []⟩
def rootDvc : Dvc := ⟨2, [rootNod]⟩
def newL (n : Int) : Fls × Int := if n < 1 ∨ 3 < n then ([], 50) else (List.replicate n.toNat rootDvc, 0)
abbrev ChgRes := Fls × List Chg × Int
def mkNod (n : Nod) (next dirIno : Int) : Nod := ⟨next, n.kind, n.mode, n.uid, n.gid, if n.kind = 2 then dirIno else 0, n.target, []⟩
end Go.Proofs.Ythcbdkmhamhciaa
namespace Go.Proofs.Ythcbdkmhamhciaa
open Go.RowKit

theorem row_at {α : Type} (enc : α → List AV) {l : List α} {k : Nat} (h : (k : Int) < ((l.map enc).length : Int)) : k < l.length ∧ ∃ x, l[k]? = some x ∧ (l.map enc)[k]? = some (enc x) ∧ (l.take (k + 1)).map enc = (l.take k).map enc ++ [enc x] := by
  have hk : k < l.length := by simpa using h
  refine ⟨hk, l[k], List.getElem?_eq_getElem hk, by simp [hk], ?_⟩
  rw [List.take_succ_eq_append_getElem hk, List.map_append]
  rfl
theorem row_no {α : Type} (enc : α → List AV) {l : List α} {k : Nat} (hk : k ≤ l.length) (h : ¬ (k : Int) < ((l.map enc).length : Int)) : k = l.length := by
  simp at h
  omega
theorem vb {a b : Bool} (h : a = b) : AV.v (.bool a) = AV.v (.bool b) := by rw [h]
theorem vi {k : IntKind} {a b : Int} (h : a = b) : AV.v (.int k a) = AV.v (.int k b) := by rw [h]
def filA (x : Fil) : List AV := [.v (.int .i64 x.1), .v (.int .i64 x.2)]
def entA (e : Ent) : List AV := [.v (.string e.1), .v (.int .i64 e.2)]
def nodA (n : Nod) : List AV := [.v (.int .i64 n.ino), .v (.int .i64 n.kind), .v (.int .i64 n.mode), .v (.int .i64 n.uid), .v (.int .i64 n.gid), .v (.int .i64 n.parent), .v (.string n.target), .sl 2 (n.entries.map entA) none]
def dvcA (d : Dvc) : List AV := [.v (.int .i64 d.next), .sl 8 (d.nodes.map nodA) none]
def flsA (f : Fls) : List AV := [.sl 2 (f.map dvcA) none]
structure FlsB (f : Fls) : Prop where
  few : f.length ≤ 1000
  nodes : ∀ d ∈ f, d.nodes.length ≤ 1000
  ents : ∀ d ∈ f, ∀ n ∈ d.nodes, n.entries.length ≤ 1000
theorem indexL_at {f : Fls} {a : Fil} {k : Nat} {d : Dvc} (hk : a.1 = (k : Int)) (hd : f[k]? = some d) : indexL f a = idxBy (fun n : Nod => n.ino == a.2) d.nodes := by
  unfold indexL; rw [hk, atI_nat, hd]
def nodG (f : Fls) (a : Fil) : Nod := (nodeL f a).getD Nod.zero
def hasG (f : Fls) (a : Fil) : Bool := (nodeL f a).isSome
theorem dirL_eq (f : Fls) (a : Fil) : dirL f a = (hasG f a && decide ((nodG f a).kind = 2)) := by
  unfold dirL hasG nodG
  cases nodeL f a <;> simp [beq_dec]
theorem nodG_ents {f : Fls} (hf : FlsB f) (a : Fil) : (nodG f a).entries.length ≤ 1000 := by
  rcases index_node f a with ⟨-, h⟩ | ⟨k, i, d, n, -, h1, h2, -, -, h⟩
  · simp [nodG, h, Nod.zero]
  · simp only [nodG, h, Option.getD_some]
    exact hf.ents d (List.mem_of_getElem? h1) n (List.mem_of_getElem? h2)
section
set_option maxRecDepth 10000
set_option maxHeartbeats 1000000
theorem Rindex (f : Fls) (a : Fil) (hf : FlsB f) : AFn Try.prog 74 [.agg (flsA f), .agg (filA a)] (fun r => r = .v (.int .i64 (indexL f a))) := by
  refine enter Try.func74 rfl rfl rfl rfl rfl 0 rfl ?_
  refine w_ (b_ (h:=b_ (h:=a_ (h:=e_ (q_ (w_ (f_ (h:=l_ (h:=lt_ (h:=m_ (h:=?_)))))))))))
  refine al_gs false rfl rfl (fun hb1 => ?_) (fun hb1 => ?_)
  · have hc1 := bp hb1
    refine g0_ (h:=g0_ (h:=g0_ (h:=g0_ (h:=g0_ (h:=g0_ (h:=pt_ (h:=e_ (cy_ (h:=w_ (a_ (h:=e_ (aw_ret (x_thenR (?_))))))))))))))
    refine e_ret ?_
    exact vi (by unfold indexL; rw [atI_none (.inl hc1)])
  · have hc1 := bp hb1
    refine f_ (h:=l_ (h:=f_ (h:=l_ (h:=n_ (h:=ge_ (h:=pf_ (h:=e_ (?_))))))))
    refine aw_cond rfl (fun hb2 => ?_) (fun hb2 => ?_)
    · have hc2 := bp hb2
      refine w_ (a_ (h:=e_ (aw_ret (x_thenR (?_)))))
      refine e_ret ?_
      exact vi (by unfold indexL; rw [atI_none (.inr (by rw [List.length_map] at hc2; exact hc2))])
    · have hc2 := bp hb2
      obtain ⟨k, hk⟩ := Int.eq_ofNat_of_zero_le (show 0 ≤ a.1 by omega)
      rw [hk] at hc2
      obtain ⟨-, d, hd, hrow, -⟩ := row_at dvcA (l := f) (k := k) (by omega)
      have hdn := hf.nodes d (List.mem_of_getElem? hd)
      refine kt_ (w_ (f_ (h:=l_ (h:=f_ (h:=l_ (h:=?_))))))
      refine al_p rfl (st_index (n := k) rfl rfl hk hrow ?_)
      refine f_ (h:=l_ (h:=a_ (h:=e_ (q_ (w_ (a_ (h:=e_ (aw_block (?_)))))))))
      refine aw_loopW (fun m s => ∃ j : Nat, j ≤ d.nodes.length ∧ m = d.nodes.length - j ∧ (∀ i y, i < j → d.nodes[i]? = some y → (y.ino == a.2) = false) ∧ s = ⟨look [(3, .bp 1 0), (5, .sl 8 (d.nodes.map nodA) none), (6, .v (.int .i64 (j : Int)))], ⟨[flsA f, filA a], []⟩⟩) (d.nodes.length) ((wk 2 0)) (⟨0, by omega, rfl, fun i y hi => by omega, rfl⟩) ?_
      rintro m s ⟨j, hj, rfl, ha, rfl⟩
      refine q_ (w_ (m_ (h:=m_ (h:=n_ (h:=lt_ (h:=e_ (?_)))))))
      refine aw_cond rfl (fun hb3 => ?_) (fun hb3 => ?_)
      · have hc3 := bp hb3
        obtain ⟨hlt, n, hy, hrow2, -⟩ := row_at nodA hc3
        refine kt_ (q_ (aw_block (q_ (yr_ 8 (h:=dm_ 0 (h:=dm_ 1 (h:=di_ 2 (h:=df_ 3 (h:=dl_ 4 (h:=df_ 5 (h:=dl_ 6 (h:=deq_ 7 (h:=z_ (h:=t_ (?_)))))))))))))))
        refine aw_cond rfl (fun hb4 => ?_) (fun hb4 => ?_)
        · have hc4 := bp hb4
          refine w_ (m_ (h:=a_ (h:=e_ (aw_ret (x_blockR (x_thenR (x_thenR (x_blockR (x_thenR (?_))))))))))
          refine e_ret ?_
          exact vi (by rw [indexL_at hk hd]; exact (idxBy_first hy (by simpa using hc4) ha).symm)
        · have hc4 := bp hb4
          refine aw_skip (x_blockN (t_ (aw_region (m_ (h:=ad_ (h:=a_ (h:=al_nil (?_))))))))
          refine x_then ?_
          refine ⟨_, _, ?_, ⟨j + 1, by omega, rfl, upto_snoc hy ha (by simpa using hc4), rfl⟩, (wk 2 0)⟩
          omega
      · have hc3 := bp hb3
        have e := row_no nodA hj hc3
        subst e
        refine aw_exit (x_thenE (x_thenE (ABlock_out (t_ (w_ (a_ (h:=e_ (aw_ret (?_)))))))))
        refine e_ret ?_
        exact vi (by rw [indexL_at hk hd]; exact (idxBy_none (fun i y hi hy => ha i y hi hy)).symm)

theorem Rnode (f : Fls) (a : Fil) (hf : FlsB f) : AFn Try.prog 33 [.agg (flsA f), .agg (filA a)] (fun r => r = .tup [.agg (nodA (nodG f a)), .v (.bool (hasG f a))]) := by
  refine enter Try.func33 rfl rfl rfl rfl rfl 0 rfl ?_
  refine w_ (b_ (h:=b_ (h:=al_ (h:=a_ (h:=e_ (w_ (l_ (h:=l_ (h:=?_)))))))))
  refine al_p rfl (q_call (Rindex f a hf) ?_)
  rintro r rfl
  refine a_ (h:=e_ (q_ (w_ (m_ (h:=lt_ (h:=e_ (?_)))))))
  refine aw_cond rfl (fun hb1 => ?_) (fun hb1 => ?_)
  · have hc1 := bp hb1
    have e : nodeL f a = none := by
      rcases index_node f a with h | ⟨k, i, d, n, -, -, -, -, h, -⟩
      · exact h.2
      · exfalso; omega
    refine w_ (bd_ (h:=s_ (h:=a_ (h:=e_ (aw_ret (x_thenR (?_)))))))
    refine rt_ (r := .tup [.agg (nodA (nodG f a)), .v (.bool (hasG f a))]) none (h5 := ?_) (h6 := ⟨rfl, rfl, rfl⟩)
    rw [show nodG f a = Nod.zero by simp [nodG, e], show hasG f a = false by simp [hasG, e]]
    exact (by repeat (first | exact LeA.refl _ | exact LeA.nil _ | exact LeL.refl _ | refine LeA.agg ?_ | refine LeA.tup ?_ | exact LeL.nil | refine LeL.cons ?_ ?_ | exact LeA.any _))
  · have hc1 := bp hb1
    obtain ⟨k, i, d, n, g1, g2, g3, g4, g5, g6⟩ := (index_node f a).resolve_left (fun h => by omega)
    rw [g5]
    have hr1 : (f.map dvcA)[k]? = some (dvcA d) := by rw [List.getElem?_map, g2]; rfl
    have hr2 : (d.nodes.map nodA)[i]? = some (nodA n) := by rw [List.getElem?_map, g3]; rfl
    have hen := hf.ents d (List.mem_of_getElem? g2) n (List.mem_of_getElem? g3)
    refine kt_ (w_ (f_ (h:=l_ (h:=f_ (h:=l_ (h:=?_))))))
    refine al_p rfl (st_index (n := k) rfl rfl g1 hr1 ?_)
    refine f_ (h:=l_ (h:=m_ (h:=?_)))
    refine al_p rfl (st_index (n := i) rfl rfl rfl hr2 ?_)
    refine l_ (h:=al_ (h:=s_ (h:=e_ (w_ (f_ (h:=l_ (h:=?_)))))))
    first | refine al_p rfl (s_append rfl rfl rfl (by simp; omega) (by repeat constructor) ?_) | refine al_p rfl (s_append0 rfl rfl (by simp; omega) (by repeat constructor) ?_)
    refine f_ (h:=s_ (h:=e_ (w_ (l_ (h:=s_ (h:=a_ (h:=e_ (aw_ret (?_)))))))))
    refine e_ret ?_
    rw [show nodG f a = n by simp [nodG, g6], show hasG f a = true by simp [hasG, g6]]
    rfl

theorem Rdir (f : Fls) (a : Fil) (hf : FlsB f) : AFn Try.prog 82 [.agg (flsA f), .agg (filA a)] (fun r => r = .v (.bool (dirL f a))) := by
  refine enter Try.func82 rfl rfl rfl rfl rfl 0 rfl ?_
  refine w_ (b_ (h:=b_ (h:=a_ (h:=e_ (w_ (l_ (h:=l_ (h:=?_))))))))
  refine al_p rfl (q_call (Rnode f a hf) ?_)
  rintro r rfl
  refine m_ (h:=x_ (h:=x_ (h:=al_ (h:=s_ (h:=a_ (h:=e_ (w_ (m_ (h:=m_ (h:=?_))))))))))
  refine al_gs true rfl rfl (fun hb1 => ?_) (fun hb1 => ?_)
  · have hc1 := bp hb1
    refine f_ (h:=l_ (h:=eq_ (h:=pt_ (h:=a_ (h:=e_ (aw_ret (?_)))))))
    refine e_ret ?_
    exact vb (by rw [dirL_eq]; simp [*])
  · have hc1 := bp hb1
    refine g0_ (h:=g0_ (h:=g0_ (h:=pf_ (h:=a_ (h:=e_ (aw_ret (?_)))))))
    refine e_ret ?_
    exact vb (by rw [dirL_eq]; simp [*])

end
end Go.Proofs.Ythcbdkmhamhciaa
namespace Go.Proofs.Ythcbdkmhamhciaa
open Go.RowKit

theorem find_at {α : Type} {p : α → Bool} {l : List α} {j : Nat} {x : α} (hx : l[j]? = some x) (hp : p x = true) (h : ∀ i y, i < j → l[i]? = some y → p y = false) : l.find? p = some x := by
  have := findIdx?_first hx hp h
  rw [← find?_of_findIdx?, this]
  simpa using hx
theorem find_no {α : Type} {p : α → Bool} {l : List α} (h : ∀ i y, i < l.length → l[i]? = some y → p y = false) : l.find? p = none := by
  rw [List.find?_eq_none]
  intro x hx
  obtain ⟨i, hi, rfl⟩ := List.mem_iff_getElem.1 hx
  simp [h i _ hi (List.getElem?_eq_getElem hi)]
theorem has_some {f : Fls} {a : Fil} (h : hasG f a = true) : nodeL f a = some (nodG f a) := by
  unfold hasG at h
  unfold nodG
  cases hn : nodeL f a with
  | none => rw [hn] at h; cases h
  | some n => rfl
theorem has_none {f : Fls} {a : Fil} (h : hasG f a = false) : nodeL f a = none := by
  unfold hasG at h
  cases hn : nodeL f a with
  | none => rfl
  | some n => rw [hn] at h; cases h
section
set_option maxRecDepth 10000
set_option maxHeartbeats 1000000
theorem Rlook (f : Fls) (a : Fil) (name : Str) (hf : FlsB f) : AFn Try.prog 35 [.agg (flsA f), .agg (filA a), .v (.string name)] (fun r => r = .tup [.agg (filA (lookL f a name).1), .v (.int .i64 (lookL f a name).2)]) := by
  have hen := nodG_ents hf a
  refine enter Try.func35 rfl rfl rfl rfl rfl 0 rfl ?_
  refine w_ (b_ (h:=b_ (h:=al_ (h:=a_ (h:=e_ (w_ (l_ (h:=l_ (h:=?_)))))))))
  refine al_p rfl (q_call (Rnode f a hf) ?_)
  rintro r rfl
  refine m_ (h:=x_ (h:=x_ (h:=al_ (h:=s_ (h:=a_ (h:=e_ (q_ (w_ (m_ (h:=nt_ (h:=e_ (?_))))))))))))
  refine aw_cond rfl (fun hb1 => ?_) (fun hb1 => ?_)
  · have hc1 := bp hb1
    have e := has_none hc1
    refine w_ (bd_ (h:=s_ (h:=a_ (h:=e_ (aw_ret (x_thenR (?_)))))))
    refine e_ret ?_
    rw [show lookL f a name = ((0, 0), 2) by simp [lookL, e]]
    rfl
  · have hc1 := bp hb1
    have e := has_some hc1
    refine kt_ (q_ (w_ (f_ (h:=l_ (h:=nq_ (h:=e_ (?_)))))))
    refine aw_cond rfl (fun hb2 => ?_) (fun hb2 => ?_)
    · have hc2 := bp hb2
      refine w_ (bd_ (h:=s_ (h:=a_ (h:=e_ (aw_ret (x_thenR (?_)))))))
      refine e_ret ?_
      rw [show lookL f a name = ((0, 0), 20) by simp [lookL, e, hc2]]
      rfl
    · have hc2 := bp hb2
      refine kt_ (q_ (w_ (a_ (h:=e_ (aw_block (?_))))))
      refine aw_loopW (fun m s => ∃ j : Nat, j ≤ (nodG f a).entries.length ∧ m = (nodG f a).entries.length - j ∧ (∀ i y, i < j → (nodG f a).entries[i]? = some y → decide (y.1 = name) = false) ∧ s = ⟨look [(2, .v (.string name)), (4, .bp 1 0), (6, .bp 2 0), (8, .bp 3 0), (10, .v (.int .i64 (j : Int)))], ⟨[flsA f, filA a, [.v (.int .i64 0), .v (.int .i64 0)], nodA (nodG f a)], []⟩⟩) ((nodG f a).entries.length) ((wk 4 0)) (⟨0, by omega, rfl, fun i y hi => by omega, rfl⟩) ?_
      rintro m s ⟨j, hj, rfl, ha, rfl⟩
      refine q_ (w_ (m_ (h:=f_ (h:=l_ (h:=n_ (h:=lt_ (h:=e_ (?_))))))))
      refine aw_cond rfl (fun hb3 => ?_) (fun hb3 => ?_)
      · have hc3 := bp hb3
        obtain ⟨hlt, x, hy, hrow, -⟩ := row_at entA hc3
        refine kt_ (q_ (aw_block (w_ (f_ (h:=l_ (h:=m_ (h:=i_ (h:=f_ (h:=l_ (h:=m_ (h:=eq_ (h:=e_ (?_)))))))))))))
        refine aw_cond rfl (fun hb4 => ?_) (fun hb4 => ?_)
        · have hc4 := bp hb4
          refine q_ (yk_ ([(0, flsA f), (1, filA a), (3, nodA (nodG f a))]) 11 (h:=df_ 0 (h:=dl_ 1 (h:=df_ 2 (h:=dl_ 3 (h:=dm_ 4 (h:=di_ 5 (h:=df_ 6 (h:=dl_ 7 (h:=dbd_ 8 (h:=?_)))))))))))
          refine c0_ 9 rfl (s_store rfl rfl rfl rfl rfl rfl (by repeat constructor) (by repeat constructor) ?_)
          refine o_ (h:=da_ 10 (h:=z_ (h:=t_ (aw_ret (x_blockR (x_thenR (x_thenR (x_blockR (x_thenR (?_))))))))))
          refine e_ret ?_
          rw [show lookL f a name = ((a.1, x.2), 0) by simp only [lookL, e]; rw [if_pos (by omega), find_at hy (by simpa using hc4) ha]]
          rfl
        · have hc4 := bp hb4
          refine aw_skip (x_blockN (t_ (aw_region (m_ (h:=ad_ (h:=a_ (h:=al_nil (?_))))))))
          refine x_then ?_
          refine ⟨_, _, ?_, ⟨j + 1, by omega, rfl, upto_snoc hy ha (by simpa using hc4), rfl⟩, (wk 4 0)⟩
          omega
      · have hc3 := bp hb3
        have e3 := row_no entA hj hc3
        subst e3
        refine aw_exit (x_thenE (x_thenE (ABlock_out (t_ (w_ (bd_ (h:=s_ (h:=a_ (h:=e_ (aw_ret (?_)))))))))))
        refine e_ret ?_
        rw [show lookL f a name = ((0, 0), 2) by simp only [lookL, e]; rw [if_pos (by omega), find_no ha]]
        rfl

end
end Go.Proofs.Ythcbdkmhamhciaa
namespace Go.Proofs.Ythcbdkmhamhciaa
open Go.RowKit

theorem st_strIdx {P : Program} {ev : Operand → Option AV} {h : AH} {R : AV → AH → Prop} {d : Option Tmp} {ty : TypeId} {pos : String} {af : Array Edge} {gd : Option (Nat × Bool)} {T : TypeId} {x ix : Operand} {s : ByteArray} {n : Nat} {k : IntKind} {i : Int} (hu : P.underlying T = some .string)
    (hx : ev x = some (.v (.string s))) (hi : ev ix = some (.v (.int k i))) (hn : i = (n : Int)) (hlt : n < s.size) (hR : R (.v (.int .u8 (s[n].toNat : Int))) h) : AStep P ⟨d, .index T x ix, ty, pos, af, gd⟩ ev h R := by
  refine st_val (fun _ G w ec _ he => ?_) hR
  have h1 := he x (by simp [Op.operands]) _ hx
  have h2 := he ix (by simp [Op.operands]) _ hi
  simp only [rep] at h1 h2
  subst hn
  refine ⟨.int .u8 (s[n].toNat : Int), ?_, by simp only [rep]⟩
  have e : s[n]? = some s[n] := getElem?_pos s n hlt
  simp [execOp, h1, h2, Instr.index, asIntOf, run_underlying hu, e]
theorem name_eq (s : Str) : nameL s = if s.size < 1 ∨ 12 < s.size then false else if s = ⟨#[46]⟩ then false else if s = ⟨#[46, 46]⟩ then false else s.data.toList.all byteOK := by
  unfold nameL
  have e1 := str_eq s ⟨#[46]⟩
  have e2 := str_eq s ⟨#[46, 46]⟩
  rw [show (⟨#[46]⟩ : ByteArray).toList = [46] by rw [ByteArray.toList_eq]] at e1
  rw [show (⟨#[46, 46]⟩ : ByteArray).toList = [46, 46] by rw [ByteArray.toList_eq]] at e2
  rw [e1, e2]
  simp only [decide_eq_true_eq]
theorem byte_ok {c : UInt8} (h1 : ¬ (c.toNat : Int) = 0) (h2 : ¬ (c.toNat : Int) = 47) : byteOK c = true := by
  unfold byteOK; simp; omega
section
set_option maxRecDepth 10000
set_option maxHeartbeats 1000000
theorem Rname (s : Str) (hs : s.size ≤ 100000) : AFn Try.prog 94 [.v (.string s)] (fun r => r = .v (.bool (nameL s))) := by
  refine enter Try.func94 rfl rfl rfl rfl rfl 0 rfl ?_
  refine w_ (a_ (h:=e_ (q_ (w_ (m_ (h:=n_ (h:=lt_ (h:=m_ (h:=?_)))))))))
  refine al_gs false rfl rfl (fun hb1 => ?_) (fun hb1 => ?_)
  · have hc1 := bp hb1
    refine g0_ (h:=g0_ (h:=g0_ (h:=pt_ (h:=m_ (h:=g0_ (h:=g0_ (h:=pt_ (h:=m_ (h:=g0_ (h:=g0_ (h:=pt_ (h:=e_ (cy_ (h:=w_ (a_ (h:=e_ (aw_ret (x_thenR (?_)))))))))))))))))))
    refine e_ret ?_
    exact vb (by rw [name_eq, if_pos (by omega)])
  · have hc1 := bp hb1
    refine m_ (h:=n_ (h:=gt_ (h:=pf_ (h:=m_ (h:=?_)))))
    refine al_gs false rfl rfl (fun hb2 => ?_) (fun hb2 => ?_)
    · have hc2 := bp hb2
      refine g0_ (h:=g0_ (h:=pt_ (h:=m_ (h:=g0_ (h:=g0_ (h:=pt_ (h:=e_ (cy_ (h:=w_ (a_ (h:=e_ (aw_ret (x_thenR (?_))))))))))))))
      refine e_ret ?_
      exact vb (by rw [name_eq, if_pos (by omega)])
    · have hc2 := bp hb2
      refine m_ (h:=eq_ (h:=pf_ (h:=m_ (h:=?_))))
      refine al_gs false rfl rfl (fun hb3 => ?_) (fun hb3 => ?_)
      · have hc3 := bp hb3
        refine g0_ (h:=g0_ (h:=pt_ (h:=e_ (cy_ (h:=w_ (a_ (h:=e_ (aw_ret (x_thenR (?_))))))))))
        refine e_ret ?_
        exact vb (by rw [name_eq, if_neg (by omega), if_pos hc3])
      · have hc3 := bp hb3
        refine m_ (h:=eq_ (h:=pf_ (h:=e_ (?_))))
        refine aw_cond rfl (fun hb4 => ?_) (fun hb4 => ?_)
        · have hc4 := bp hb4
          refine w_ (a_ (h:=e_ (aw_ret (x_thenR (?_)))))
          refine e_ret ?_
          exact vb (by rw [name_eq, if_neg (by omega), if_neg hc3, if_pos hc4])
        · have hc4 := bp hb4
          refine kt_ (q_ (w_ (a_ (h:=e_ (aw_block (?_))))))
          refine aw_loopW (fun m t => ∃ j : Nat, j ≤ s.size ∧ m = s.size - j ∧ (∀ i (hi : i < s.size), i < j → byteOK s[i] = true) ∧ t = ⟨look [(0, .v (.string s)), (3, .v (.int .i64 (j : Int)))], ⟨[], []⟩⟩) (s.size) ((wk 0 0)) (⟨0, by omega, rfl, fun i _ hi => by omega, rfl⟩) ?_
          rintro m t ⟨j, hj, rfl, ha, rfl⟩
          refine q_ (w_ (m_ (h:=m_ (h:=n_ (h:=lt_ (h:=e_ (?_)))))))
          refine aw_cond rfl (fun hb5 => ?_) (fun hb5 => ?_)
          · have hc5 := bp hb5
            have hlt : j < s.size := by omega
            refine kt_ (q_ (aw_block (w_ (m_ (h:=m_ (h:=?_))))))
            refine al_p rfl (st_strIdx (n := j) Try.underlying9 rfl rfl rfl hlt ?_)
            refine eq_ (h:=m_ (h:=?_))
            refine al_gs false rfl rfl (fun hb6 => ?_) (fun hb6 => ?_)
            · have hc6 := bp hb6
              refine g0_ (h:=g0_ (h:=g0_ (h:=g0_ (h:=pt_ (h:=e_ (cy_ (h:=w_ (a_ (h:=e_ (aw_ret (x_blockR (x_thenR (x_thenR (x_blockR (x_thenR (?_))))))))))))))))
              refine e_ret ?_
              exact vb (by rw [name_eq, if_neg (by omega), if_neg hc3, if_neg hc4, all_not hlt (by unfold byteOK; simp [hc6])])
            · have hc6 := bp hb6
              refine m_ (h:=m_ (h:=?_))
              refine g_y (st_strIdx (n := j) Try.underlying9 rfl rfl rfl hlt ?_)
              refine eq_ (h:=pf_ (h:=e_ (?_)))
              refine aw_cond rfl (fun hb7 => ?_) (fun hb7 => ?_)
              · have hc7 := bp hb7
                refine w_ (a_ (h:=e_ (aw_ret (x_blockR (x_thenR (x_thenR (x_blockR (x_thenR (?_)))))))))
                refine e_ret ?_
                exact vb (by rw [name_eq, if_neg (by omega), if_neg hc3, if_neg hc4, all_not hlt (by unfold byteOK; simp [hc7])])
              · have hc7 := bp hb7
                refine aw_skip (x_blockN (t_ (aw_region (m_ (h:=ad_ (h:=a_ (h:=al_nil (?_))))))))
                refine x_then ?_
                refine ⟨_, _, ?_, ⟨j + 1, by omega, rfl, bytes_snoc hlt ha (byte_ok hc6 hc7), rfl⟩, (wk 0 0)⟩
                omega
          · have hc5 := bp hb5
            obtain rfl : j = s.size := by omega
            refine aw_exit (x_thenE (x_thenE (ABlock_out (t_ (w_ (a_ (h:=e_ (aw_ret (?_)))))))))
            refine e_ret ?_
            exact vb (by rw [name_eq, if_neg (by omega), if_neg hc3, if_neg hc4, all_upto (fun i hi => ha i hi hi)])

end
end Go.Proofs.Ythcbdkmhamhciaa
namespace Go.Proofs.Ythcbdkmhamhciaa
open Go.RowKit

theorem fullL_eq (f : Fls) (a : Fil) : fullL f a = decide (12 ≤ (nodG f a).entries.length) := by
  unfold fullL nodG
  cases nodeL f a <;> simp [Nod.zero]
theorem emptyL_eq (f : Fls) (a : Fil) : emptyL f a = decide ((nodG f a).entries.length = 0) := by
  unfold emptyL nodG
  cases nodeL f a <;> simp [Nod.zero]
theorem linksF_at {f : Fls} {a : Fil} {k : Nat} {d : Dvc} {n : Nod} (hk : a.1 = (k : Int)) (hd : f[k]? = some d) (hn : nodeL f a = some n) : linksF f a = cntN a.2 d.nodes := by
  unfold linksF
  rw [hn, hk, atI_nat, hd]
section
set_option maxRecDepth 10000
set_option maxHeartbeats 1000000
theorem Rtarget (s : Str) (hs : s.size ≤ 100000) : AFn Try.prog 95 [.v (.string s)] (fun r => r = .v (.bool (targetL s))) := by
  refine enter Try.func95 rfl rfl rfl rfl rfl 0 rfl ?_
  refine w_ (a_ (h:=e_ (q_ (w_ (a_ (h:=e_ (aw_block (?_))))))))
  refine aw_loopW (fun m t => ∃ j : Nat, j ≤ s.size ∧ m = s.size - j ∧ (∀ i (hi : i < s.size), i < j → (!((s[i].toNat : Int) == 0)) = true) ∧ t = ⟨look [(0, .v (.string s)), (3, .v (.int .i64 (j : Int)))], ⟨[], []⟩⟩) (s.size) ((wk 0 0)) (⟨0, by omega, rfl, fun i _ hi => by omega, rfl⟩) ?_
  rintro m t ⟨j, hj, rfl, ha, rfl⟩
  refine q_ (w_ (m_ (h:=m_ (h:=n_ (h:=lt_ (h:=e_ (?_)))))))
  refine aw_cond rfl (fun hb1 => ?_) (fun hb1 => ?_)
  · have hc1 := bp hb1
    have hlt : j < s.size := by omega
    refine kt_ (q_ (aw_block (w_ (m_ (h:=m_ (h:=?_))))))
    refine al_p rfl (st_strIdx (n := j) Try.underlying9 rfl rfl rfl hlt ?_)
    refine eq_ (h:=e_ (?_))
    refine aw_cond rfl (fun hb2 => ?_) (fun hb2 => ?_)
    · have hc2 := bp hb2
      refine w_ (a_ (h:=e_ (aw_ret (x_blockR (x_thenR (x_thenR (x_blockR (x_thenR (?_)))))))))
      refine e_ret ?_
      exact vb (by unfold targetL; rw [all_not hlt (by simp [hc2])]; simp)
    · have hc2 := bp hb2
      refine aw_skip (x_blockN (t_ (aw_region (m_ (h:=ad_ (h:=a_ (h:=al_nil (?_))))))))
      refine x_then ?_
      refine ⟨_, _, ?_, ⟨j + 1, by omega, rfl, bytes_snoc (p := fun c => !((c.toNat : Int) == 0)) hlt ha (by simpa using hc2), rfl⟩, (wk 0 0)⟩
      omega
  · have hc1 := bp hb1
    obtain rfl : j = s.size := by omega
    have hal := all_upto (p := fun c => !((c.toNat : Int) == 0)) (fun i hi => ha i hi hi)
    refine aw_exit (x_thenE (x_thenE (ABlock_out (t_ (w_ (m_ (h:=n_ (h:=ge_ (h:=m_ (h:=?_))))))))))
    refine al_gs true rfl rfl (fun hb3 => ?_) (fun hb3 => ?_)
    · have hc3 := bp hb3
      refine m_ (h:=n_ (h:=le_ (h:=pt_ (h:=a_ (h:=e_ (aw_ret (?_)))))))
      refine e_ret ?_
      exact vb (by unfold targetL; rw [hal, Bool.eq_iff_iff]; simp; omega)
    · have hc3 := bp hb3
      refine g0_ (h:=g0_ (h:=g0_ (h:=pf_ (h:=a_ (h:=e_ (aw_ret (?_)))))))
      refine e_ret ?_
      exact vb (by unfold targetL; rw [hal, Bool.eq_iff_iff]; simp; omega)

theorem Rplace (f : Fls) (a : Fil) (name : Str) (hf : FlsB f) (hs : name.size ≤ 100000) : AFn Try.prog 66 [.agg (flsA f), .agg (filA a), .v (.string name)] (fun r => r = .v (.int .i64 (placeL f a name))) := by
  refine enter Try.func66 rfl rfl rfl rfl rfl 0 rfl ?_
  refine w_ (b_ (h:=b_ (h:=a_ (h:=e_ (w_ (l_ (h:=l_ (h:=?_))))))))
  refine al_p rfl (q_call (Rnode f a hf) ?_)
  rintro r rfl
  refine m_ (h:=x_ (h:=x_ (h:=al_ (h:=s_ (h:=a_ (h:=e_ (q_ (w_ (m_ (h:=nt_ (h:=e_ (?_))))))))))))
  refine aw_cond rfl (fun hb1 => ?_) (fun hb1 => ?_)
  · have hc1 := bp hb1
    have e := has_none hc1
    refine w_ (a_ (h:=e_ (aw_ret (x_thenR (?_)))))
    refine e_ret ?_
    exact vi (by simp [placeL, e])
  · have hc1 := bp hb1
    have e := has_some hc1
    refine kt_ (q_ (w_ (f_ (h:=l_ (h:=nq_ (h:=e_ (?_)))))))
    refine aw_cond rfl (fun hb2 => ?_) (fun hb2 => ?_)
    · have hc2 := bp hb2
      refine w_ (a_ (h:=e_ (aw_ret (x_thenR (?_)))))
      refine e_ret ?_
      exact vi (by simp [placeL, e, hc2])
    · have hc2 := bp hb2
      refine kt_ (q_ (w_ (m_ (h:=?_))))
      refine al_p rfl (q_call (Rname name hs) ?_)
      rintro r rfl
      refine nt_ (h:=e_ (?_))
      refine aw_cond rfl (fun hb3 => ?_) (fun hb3 => ?_)
      · have hc3 := bp hb3
        refine w_ (a_ (h:=e_ (aw_ret (x_thenR (?_)))))
        refine e_ret ?_
        exact vi (by simp only [placeL, e]; rw [if_pos (by omega), hc3]; rfl)
      · have hc3 := bp hb3
        refine kt_ (w_ (a_ (h:=e_ (aw_ret (?_)))))
        refine e_ret ?_
        exact vi (by simp only [placeL, e]; rw [if_pos (by omega), hc3]; rfl)

theorem Rfull (f : Fls) (a : Fil) (hf : FlsB f) : AFn Try.prog 68 [.agg (flsA f), .agg (filA a)] (fun r => r = .v (.bool (fullL f a))) := by
  refine enter Try.func68 rfl rfl rfl rfl rfl 0 rfl ?_
  refine w_ (b_ (h:=b_ (h:=a_ (h:=e_ (w_ (l_ (h:=l_ (h:=?_))))))))
  refine al_p rfl (q_call (Rnode f a hf) ?_)
  rintro r rfl
  refine m_ (h:=x_ (h:=x_ (h:=al_ (h:=s_ (h:=a_ (h:=e_ (w_ (f_ (h:=l_ (h:=n_ (h:=ge_ (h:=a_ (h:=e_ (aw_ret (?_)))))))))))))))
  refine e_ret ?_
  exact vb (by rw [fullL_eq, Bool.eq_iff_iff]; simp; omega)

theorem Rempty (f : Fls) (a : Fil) (hf : FlsB f) : AFn Try.prog 84 [.agg (flsA f), .agg (filA a)] (fun r => r = .v (.bool (emptyL f a))) := by
  refine enter Try.func84 rfl rfl rfl rfl rfl 0 rfl ?_
  refine w_ (b_ (h:=b_ (h:=a_ (h:=e_ (w_ (l_ (h:=l_ (h:=?_))))))))
  refine al_p rfl (q_call (Rnode f a hf) ?_)
  rintro r rfl
  refine m_ (h:=x_ (h:=x_ (h:=al_ (h:=s_ (h:=a_ (h:=e_ (w_ (f_ (h:=l_ (h:=n_ (h:=eq_ (h:=a_ (h:=e_ (aw_ret (?_)))))))))))))))
  refine e_ret ?_
  exact vb (by rw [emptyL_eq, Bool.eq_iff_iff]; simp)

theorem Rplain (n : Nod) (hs : n.target.size ≤ 100000) : AFn Try.prog 67 [.agg (nodA n)] (fun r => r = .v (.bool (plainL n))) := by
  have ee : n.target.toList.isEmpty = decide (n.target = ⟨#[]⟩) := by
    rw [← str_eq n.target ⟨#[]⟩, show (⟨#[]⟩ : ByteArray).toList = [] by rw [ByteArray.toList_eq]]
    cases n.target.toList <;> rfl
  refine enter Try.func67 rfl rfl rfl rfl rfl 0 rfl ?_
  refine w_ (b_ (h:=a_ (h:=e_ (q_ (?_)))))
  refine aw_mid (⟨look [(1, .bp 0 0), (40, .v (.bool (decide (n.kind < 1 ∨ 3 < n.kind ∨ n.mode < 0 ∨ 511 < n.mode ∨ n.uid < 0 ∨ 4294967295 < n.uid ∨ n.gid < 0 ∨ 4294967295 < n.gid))))], ⟨[nodA n], []⟩⟩) ?_ ?_
  · skip
    refine aw_region (f_ (h:=l_ (h:=lt_ (h:=m_ (h:=?_)))))
    refine al_gs false rfl rfl (fun hb1 => ?_) (fun hb1 => ?_)
    · have hc1 := bp hb1
      refine g0_ (h:=g0_ (h:=g0_ (h:=pt_ (h:=m_ (h:=g0_ (h:=g0_ (h:=g0_ (h:=pt_ (h:=m_ (h:=g0_ (h:=g0_ (h:=g0_ (h:=pt_ (h:=m_ (h:=g0_ (h:=g0_ (h:=g0_ (h:=pt_ (h:=m_ (h:=g0_ (h:=g0_ (h:=g0_ (h:=pt_ (h:=?_))))))))))))))))))))))))
      refine m_ (h:=g0_ (h:=g0_ (h:=g0_ (h:=pt_ (h:=m_ (h:=g0_ (h:=g0_ (h:=g0_ (h:=pt_ (h:=al_nil (?_)))))))))))
      refine x_then ?_
      first | (exfalso; first | contradiction | omega) | exact weak_of 1 0 rfl rfl rfl rfl (by repeat (first | exact Sub.nil | refine Sub.cons _ _ _ rfl rfl ?_ | refine Sub.any _ _ ?_ | refine Sub.sl _ _ _ _ _ rfl ?_ | refine Sub.slnil _ _ _ rfl ?_ | (apply Sub.of; (focus exact rfl); (focus exact LeA.of_eq (vb (by rw [Bool.eq_iff_iff]; simp; try omega))); (focus exact rfl))))
    · have hc1 := bp hb1
      refine f_ (h:=l_ (h:=gt_ (h:=pf_ (h:=m_ (h:=?_)))))
      refine al_gs false rfl rfl (fun hb2 => ?_) (fun hb2 => ?_)
      · have hc2 := bp hb2
        refine g0_ (h:=g0_ (h:=g0_ (h:=pt_ (h:=m_ (h:=g0_ (h:=g0_ (h:=g0_ (h:=pt_ (h:=m_ (h:=g0_ (h:=g0_ (h:=g0_ (h:=pt_ (h:=m_ (h:=g0_ (h:=g0_ (h:=g0_ (h:=pt_ (h:=m_ (h:=g0_ (h:=g0_ (h:=g0_ (h:=pt_ (h:=?_))))))))))))))))))))))))
        refine m_ (h:=g0_ (h:=g0_ (h:=g0_ (h:=pt_ (h:=al_nil (?_))))))
        refine x_then ?_
        first | (exfalso; first | contradiction | omega) | exact weak_of 1 0 rfl rfl rfl rfl (by repeat (first | exact Sub.nil | refine Sub.cons _ _ _ rfl rfl ?_ | refine Sub.any _ _ ?_ | refine Sub.sl _ _ _ _ _ rfl ?_ | refine Sub.slnil _ _ _ rfl ?_ | (apply Sub.of; (focus exact rfl); (focus exact LeA.of_eq (vb (by rw [Bool.eq_iff_iff]; simp; try omega))); (focus exact rfl))))
      · have hc2 := bp hb2
        refine f_ (h:=l_ (h:=lt_ (h:=pf_ (h:=m_ (h:=?_)))))
        refine al_gs false rfl rfl (fun hb3 => ?_) (fun hb3 => ?_)
        · have hc3 := bp hb3
          refine g0_ (h:=g0_ (h:=g0_ (h:=pt_ (h:=m_ (h:=g0_ (h:=g0_ (h:=g0_ (h:=pt_ (h:=m_ (h:=g0_ (h:=g0_ (h:=g0_ (h:=pt_ (h:=m_ (h:=g0_ (h:=g0_ (h:=g0_ (h:=pt_ (h:=m_ (h:=g0_ (h:=g0_ (h:=g0_ (h:=pt_ (h:=?_))))))))))))))))))))))))
          refine al_nil (?_)
          refine x_then ?_
          first | (exfalso; first | contradiction | omega) | exact weak_of 1 0 rfl rfl rfl rfl (by repeat (first | exact Sub.nil | refine Sub.cons _ _ _ rfl rfl ?_ | refine Sub.any _ _ ?_ | refine Sub.sl _ _ _ _ _ rfl ?_ | refine Sub.slnil _ _ _ rfl ?_ | (apply Sub.of; (focus exact rfl); (focus exact LeA.of_eq (vb (by rw [Bool.eq_iff_iff]; simp; try omega))); (focus exact rfl))))
        · have hc3 := bp hb3
          refine f_ (h:=l_ (h:=gt_ (h:=pf_ (h:=m_ (h:=?_)))))
          refine al_gs false rfl rfl (fun hb4 => ?_) (fun hb4 => ?_)
          · have hc4 := bp hb4
            refine g0_ (h:=g0_ (h:=g0_ (h:=pt_ (h:=m_ (h:=g0_ (h:=g0_ (h:=g0_ (h:=pt_ (h:=m_ (h:=g0_ (h:=g0_ (h:=g0_ (h:=pt_ (h:=m_ (h:=g0_ (h:=g0_ (h:=g0_ (h:=pt_ (h:=al_nil (?_))))))))))))))))))))
            refine x_then ?_
            first | (exfalso; first | contradiction | omega) | exact weak_of 1 0 rfl rfl rfl rfl (by repeat (first | exact Sub.nil | refine Sub.cons _ _ _ rfl rfl ?_ | refine Sub.any _ _ ?_ | refine Sub.sl _ _ _ _ _ rfl ?_ | refine Sub.slnil _ _ _ rfl ?_ | (apply Sub.of; (focus exact rfl); (focus exact LeA.of_eq (vb (by rw [Bool.eq_iff_iff]; simp; try omega))); (focus exact rfl))))
          · have hc4 := bp hb4
            refine f_ (h:=l_ (h:=lt_ (h:=pf_ (h:=m_ (h:=?_)))))
            refine al_gs false rfl rfl (fun hb5 => ?_) (fun hb5 => ?_)
            · have hc5 := bp hb5
              refine g0_ (h:=g0_ (h:=g0_ (h:=pt_ (h:=m_ (h:=g0_ (h:=g0_ (h:=g0_ (h:=pt_ (h:=m_ (h:=g0_ (h:=g0_ (h:=g0_ (h:=pt_ (h:=al_nil (?_)))))))))))))))
              refine x_then ?_
              first | (exfalso; first | contradiction | omega) | exact weak_of 1 0 rfl rfl rfl rfl (by repeat (first | exact Sub.nil | refine Sub.cons _ _ _ rfl rfl ?_ | refine Sub.any _ _ ?_ | refine Sub.sl _ _ _ _ _ rfl ?_ | refine Sub.slnil _ _ _ rfl ?_ | (apply Sub.of; (focus exact rfl); (focus exact LeA.of_eq (vb (by rw [Bool.eq_iff_iff]; simp; try omega))); (focus exact rfl))))
            · have hc5 := bp hb5
              refine f_ (h:=l_ (h:=gt_ (h:=pf_ (h:=m_ (h:=?_)))))
              refine al_gs false rfl rfl (fun hb6 => ?_) (fun hb6 => ?_)
              · have hc6 := bp hb6
                refine g0_ (h:=g0_ (h:=g0_ (h:=pt_ (h:=m_ (h:=g0_ (h:=g0_ (h:=g0_ (h:=pt_ (h:=al_nil (?_))))))))))
                refine x_then ?_
                first | (exfalso; first | contradiction | omega) | exact weak_of 1 0 rfl rfl rfl rfl (by repeat (first | exact Sub.nil | refine Sub.cons _ _ _ rfl rfl ?_ | refine Sub.any _ _ ?_ | refine Sub.sl _ _ _ _ _ rfl ?_ | refine Sub.slnil _ _ _ rfl ?_ | (apply Sub.of; (focus exact rfl); (focus exact LeA.of_eq (vb (by rw [Bool.eq_iff_iff]; simp; try omega))); (focus exact rfl))))
              · have hc6 := bp hb6
                refine f_ (h:=l_ (h:=lt_ (h:=pf_ (h:=m_ (h:=?_)))))
                refine al_gs false rfl rfl (fun hb7 => ?_) (fun hb7 => ?_)
                · have hc7 := bp hb7
                  refine g0_ (h:=g0_ (h:=g0_ (h:=pt_ (h:=al_nil (?_)))))
                  refine x_then ?_
                  first | (exfalso; first | contradiction | omega) | exact weak_of 1 0 rfl rfl rfl rfl (by repeat (first | exact Sub.nil | refine Sub.cons _ _ _ rfl rfl ?_ | refine Sub.any _ _ ?_ | refine Sub.sl _ _ _ _ _ rfl ?_ | refine Sub.slnil _ _ _ rfl ?_ | (apply Sub.of; (focus exact rfl); (focus exact LeA.of_eq (vb (by rw [Bool.eq_iff_iff]; simp; try omega))); (focus exact rfl))))
                · have hc7 := bp hb7
                  refine f_ (h:=l_ (h:=gt_ (h:=pf_ (h:=al_nil (?_)))))
                  refine x_then ?_
                  first | (exfalso; first | contradiction | omega) | exact weak_of 1 0 rfl rfl rfl rfl (by repeat (first | exact Sub.nil | refine Sub.cons _ _ _ rfl rfl ?_ | refine Sub.any _ _ ?_ | refine Sub.sl _ _ _ _ _ rfl ?_ | refine Sub.slnil _ _ _ rfl ?_ | (apply Sub.of; (focus exact rfl); (focus exact LeA.of_eq (vb (by rw [Bool.eq_iff_iff]; simp; try omega))); (focus exact rfl))))
  · skip
    refine aw_cond rfl (fun hb8 => ?_) (fun hb8 => ?_)
    · have hc8 := bp hb8
      refine w_ (a_ (h:=e_ (aw_ret (x_thenR (?_)))))
      refine e_ret ?_
      exact vb (by rw [plainL, if_pos hc8])
    · have hc8 := bp hb8
      refine kt_ (q_ (w_ (f_ (h:=l_ (h:=eq_ (h:=e_ (?_)))))))
      refine aw_cond rfl (fun hb9 => ?_) (fun hb9 => ?_)
      · have hc9 := bp hb9
        refine w_ (f_ (h:=l_ (h:=?_)))
        refine al_p rfl (q_call (Rtarget n.target hs) ?_)
        rintro r rfl
        refine a_ (h:=e_ (aw_ret (x_thenR (?_))))
        refine e_ret ?_
        exact vb (by rw [plainL, if_neg hc8, if_pos hc9])
      · have hc9 := bp hb9
        refine kt_ (w_ (f_ (h:=l_ (h:=eq_ (h:=a_ (h:=e_ (aw_ret (?_))))))))
        refine e_ret ?_
        exact vb (by rw [plainL, if_neg hc8, if_neg hc9, ee])

theorem Rlinks (f : Fls) (a : Fil) (hf : FlsB f) : AFn Try.prog 38 [.agg (flsA f), .agg (filA a)] (fun r => r = .v (.int .i64 (linksF f a : Int))) := by
  refine enter Try.func38 rfl rfl rfl rfl rfl 0 rfl ?_
  refine w_ (b_ (h:=b_ (h:=a_ (h:=e_ (q_ (w_ (l_ (h:=l_ (h:=?_)))))))))
  refine al_p rfl (q_call (Rindex f a hf) ?_)
  rintro r rfl
  refine lt_ (h:=e_ (?_))
  refine aw_cond rfl (fun hb1 => ?_) (fun hb1 => ?_)
  · have hc1 := bp hb1
    have e : nodeL f a = none := by
      rcases index_node f a with h | ⟨k, i, d, n, -, -, -, -, h, -⟩
      · exact h.2
      · exfalso; omega
    refine w_ (a_ (h:=e_ (aw_ret (x_thenR (?_)))))
    refine e_ret ?_
    exact vi (by simp [linksF, e])
  · have hc1 := bp hb1
    obtain ⟨k, i, d, n, g1, g2, g3, g4, g5, g6⟩ := (index_node f a).resolve_left (fun h => by omega)
    have hr1 : (f.map dvcA)[k]? = some (dvcA d) := by rw [List.getElem?_map, g2]; rfl
    have hdn := hf.nodes d (List.mem_of_getElem? g2)
    refine kt_ (w_ (a_ (h:=e_ (w_ (f_ (h:=l_ (h:=f_ (h:=l_ (h:=?_)))))))))
    refine al_p rfl (st_index (n := k) rfl rfl g1 hr1 ?_)
    refine f_ (h:=l_ (h:=a_ (h:=e_ (q_ (w_ (a_ (h:=e_ (aw_block (?_)))))))))
    refine aw_loopW (fun m s => ∃ j c : Nat, j ≤ d.nodes.length ∧ m = d.nodes.length - j ∧ c = cntN a.2 (d.nodes.take j) ∧ c ≤ 1000 * j ∧ s = ⟨look [(3, .bp 1 0), (5, .v (.int .i64 (c : Int))), (6, .sl 8 (d.nodes.map nodA) none), (7, .v (.int .i64 (j : Int)))], ⟨[flsA f, filA a], []⟩⟩) (d.nodes.length) ((wk 2 0)) (⟨0, 0, by omega, rfl, rfl, by omega, rfl⟩) ?_
    rintro m s ⟨j, c, hj, rfl, hcn, hcb, rfl⟩
    refine q_ (w_ (m_ (h:=m_ (h:=n_ (h:=lt_ (h:=e_ (?_)))))))
    refine aw_cond rfl (fun hb2 => ?_) (fun hb2 => ?_)
    · have hc2 := bp hb2
      obtain ⟨hlt, x, hx, hrow, -⟩ := row_at nodA hc2
      have hen := hf.ents d (List.mem_of_getElem? g2) x (List.mem_of_getElem? hx)
      refine kt_ (q_ (aw_block (w_ (a_ (h:=e_ (aw_block (?_)))))))
      refine aw_loopW (fun m s => ∃ i c2 : Nat, i ≤ x.entries.length ∧ m = x.entries.length - i ∧ c2 = c + cntE a.2 (x.entries.take i) ∧ c2 ≤ c + i ∧ s = ⟨look [(3, .bp 1 0), (5, .v (.int .i64 (c2 : Int))), (6, .sl 8 (d.nodes.map nodA) none), (7, .v (.int .i64 (j : Int))), (8, .v (.int .i64 (i : Int)))], ⟨[flsA f, filA a], []⟩⟩) (x.entries.length) ((wk 2 0)) (⟨0, c, by omega, rfl, rfl, by omega, rfl⟩) ?_
      rintro m s ⟨i, c2, hi, rfl, hc2n, hc2b, rfl⟩
      refine q_ (w_ (m_ (h:=m_ (h:=m_ (h:=i_ (h:=f_ (h:=l_ (h:=n_ (h:=lt_ (h:=e_ (?_)))))))))))
      refine aw_cond rfl (fun hb3 => ?_) (fun hb3 => ?_)
      · have hc3 := bp hb3
        obtain ⟨hlt3, y, hy, hrow3, -⟩ := row_at entA hc3
        refine kt_ (q_ (aw_block (q_ (yr_ 12 (h:=dm_ 0 (h:=dm_ 1 (h:=di_ 2 (h:=df_ 3 (h:=dl_ 4 (h:=dm_ 5 (h:=di_ 6 (h:=df_ 7 (h:=dl_ 8 (h:=df_ 9 (h:=dl_ 10 (h:=deq_ 11 (h:=z_ (h:=t_ (?_)))))))))))))))))))
        refine aw_cond rfl (fun hb4 => ?_) (fun hb4 => ?_)
        · have hc4 := bp hb4
          refine aw_region (m_ (h:=ad_ (h:=a_ (h:=al_nil (x_blockN (t_ (aw_region (m_ (h:=ad_ (h:=a_ (h:=al_nil (?_))))))))))))
          refine x_then ?_
          first | (refine ⟨_, _, ?_, ⟨i + 1, c2 + 1, by omega, rfl, ?_, by omega, rfl⟩, (wk 2 0)⟩ <;> first | omega | (rw [cntE_snoc hy]; simp [hc4]; omega)) | (refine ⟨_, _, ?_, ⟨i + 1, c2, by omega, rfl, ?_, by omega, rfl⟩, (wk 2 0)⟩ <;> first | omega | (rw [cntE_snoc hy]; simp [hc4]; omega))
        · have hc4 := bp hb4
          refine aw_skip (x_blockN (t_ (aw_region (m_ (h:=ad_ (h:=a_ (h:=al_nil (?_))))))))
          refine x_then ?_
          first | (refine ⟨_, _, ?_, ⟨i + 1, c2 + 1, by omega, rfl, ?_, by omega, rfl⟩, (wk 2 0)⟩ <;> first | omega | (rw [cntE_snoc hy]; simp [hc4]; omega)) | (refine ⟨_, _, ?_, ⟨i + 1, c2, by omega, rfl, ?_, by omega, rfl⟩, (wk 2 0)⟩ <;> first | omega | (rw [cntE_snoc hy]; simp [hc4]; omega))
      · have hc3 := bp hb3
        have e3 := row_no entA hi hc3
        subst e3
        refine aw_exit (x_thenE (x_thenE (ABlock_out (x_blockN (t_ (aw_region (m_ (h:=ad_ (h:=a_ (h:=al_nil (?_)))))))))))
        refine x_then ?_
        refine ⟨_, _, ?_, ⟨j + 1, c2, by omega, rfl, ?_, ?_, rfl⟩, (wk 2 0)⟩
        · omega
        · rw [hc2n, cntN_snoc hx, List.take_length]; omega
        · have := cntE_le a.2 (x.entries.take x.entries.length); simp at this; omega
    · have hc2 := bp hb2
      have e2 := row_no nodA hj hc2
      subst e2
      refine aw_exit (x_thenE (x_thenE (ABlock_out (t_ (w_ (m_ (h:=a_ (h:=e_ (aw_ret (?_))))))))))
      refine e_ret ?_
      exact vi (by rw [linksF_at g1 g2 g6, hcn, List.take_length])

end
end Go.Proofs.Ythcbdkmhamhciaa
namespace Go.Proofs.Ythcbdkmhamhciaa
open Go.RowKit

section
set_option maxRecDepth 10000
set_option maxHeartbeats 1000000
theorem eqFil (op : BinOp) (a b c d : Int) (w : World) : (op = .eql ∨ op = .neq) → (binOp op 39 (.agg #[.int .i64 a, .int .i64 b]) (.agg #[.int .i64 c, .int .i64 d])).run Try.prog w = .ok (.bool (decide ((a, b) = (c, d)) == decide (op = .eql))) w := by
  have u3 := Try.underlying3
  have a3 := Try.isAgg3
  have z3 := Try.sizeOf3
  have hS : Try.prog.underlying 39 = some (.struct (Try.prog.fieldsOf 39)) := by kernel_rfl
  have hp : Try.prog.stoodInHeld 39 = false := by kernel_rfl
  have e : ∀ w, (Op.equalIn 10000 39 (.agg #[.int .i64 a, .int .i64 b]) (.agg #[.int .i64 c, .int .i64 d])).run Try.prog w = .ok (a == c && b == d) w := by
    intro w
    rw [show (10000 : Nat) = 9999 + 1 from rfl, run_equalIn_agg w 9999 39 _ _ hS hp]
    simp only [Program.fieldsOf, Try.underlying39]
    go_simp
    by_cases h1 : a = c <;> by_cases h2 : b = d <;> simp [h1, h2]
  rintro (rfl | rfl)
  · rw [run_eql_struct, e]
    by_cases h1 : a = c <;> by_cases h2 : b = d <;> simp [h1, h2]
  · rw [run_neq_struct, e]
    by_cases h1 : a = c <;> by_cases h2 : b = d <;> simp [h1, h2]
theorem eqlFil (a b c d : Int) (w : World) : (binOp .eql 39 (.agg #[.int .i64 a, .int .i64 b]) (.agg #[.int .i64 c, .int .i64 d])).run Try.prog w = .ok (.bool (decide ((a, b) = (c, d)))) w := by
  rw [eqFil .eql a b c d w (.inl rfl)]
  by_cases h : (a, b) = (c, d) <;> simp [h]
theorem neqlFil (a b c d : Int) (w : World) : (binOp .neq 39 (.agg #[.int .i64 a, .int .i64 b]) (.agg #[.int .i64 c, .int .i64 d])).run Try.prog w = .ok (.bool (!decide ((a, b) = (c, d)))) w := by
  rw [eqFil .neq a b c d w (.inr rfl)]
  by_cases h : (a, b) = (c, d) <;> simp [h]
end
end Go.Proofs.Ythcbdkmhamhciaa
