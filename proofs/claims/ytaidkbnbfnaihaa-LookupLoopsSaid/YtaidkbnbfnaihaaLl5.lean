/-
  Part 5 of the proof of LookupLoopsP: what the statement's proof uses of the texts in wip/tpl.
-/
import Derived.Laws.StructEq
import Derived.Laws.Pointers
import Derived.Test.YtaidkbnbfnaihaaLl4
namespace Go.Proofs.Ytaidkbnbfnaihaa
open Go.RowKit
instance : Typ Try.prog 0 1 false := ⟨by kernel_rfl⟩
instance : Typ Try.prog 1 1 false := ⟨by kernel_rfl⟩
instance : Zer Try.prog 1 [.v .nilFunc] := ⟨[.nilFunc], by kernel_rfl, rfl, rfl⟩
instance : Typ Try.prog 2 1 false := ⟨by kernel_rfl⟩
instance : Zer Try.prog 2 [.v (.int .i64 0)] := ⟨[.int .i64 0], by kernel_rfl, rfl, rfl⟩
instance : Typ Try.prog 3 1 false := ⟨by kernel_rfl⟩
instance : Zer Try.prog 3 [.v (.int .i64 0)] := ⟨[.int .i64 0], by kernel_rfl, rfl, rfl⟩
instance : Typ Try.prog 4 1 false := ⟨by kernel_rfl⟩
instance : Zer Try.prog 4 [.v (.bool false)] := ⟨[.bool false], by kernel_rfl, rfl, rfl⟩
instance : Typ Try.prog 5 1 false := ⟨by kernel_rfl⟩
instance : Zer Try.prog 5 [.v (.int .u8 0)] := ⟨[.int .u8 0], by kernel_rfl, rfl, rfl⟩
instance : Typ Try.prog 6 1 false := ⟨by kernel_rfl⟩
instance : Zer Try.prog 6 [.v (.int .u8 0)] := ⟨[.int .u8 0], by kernel_rfl, rfl, rfl⟩
instance : Typ Try.prog 7 4 true := ⟨by kernel_rfl⟩
instance : Zer Try.prog 7 [.v (.int .i64 0), .v (.int .i64 0), .v (.bool false), .v (.int .u8 0)] := ⟨[.int .i64 0, .int .i64 0, .bool false, .int .u8 0], by kernel_rfl, rfl, rfl⟩
instance : Plc Try.prog 7 [(0, 1), (1, 1), (2, 1), (3, 1)] := ⟨by kernel_rfl⟩
instance : Fld Try.prog 7 0 0 1 := ⟨by kernel_rfl⟩
instance : Fld Try.prog 7 1 1 1 := ⟨by kernel_rfl⟩
instance : Fld Try.prog 7 2 2 1 := ⟨by kernel_rfl⟩
instance : Fld Try.prog 7 3 3 1 := ⟨by kernel_rfl⟩
instance : Typ Try.prog 8 4 true := ⟨by kernel_rfl⟩
instance : Zer Try.prog 8 [.v (.int .i64 0), .v (.int .i64 0), .v (.bool false), .v (.int .u8 0)] := ⟨[.int .i64 0, .int .i64 0, .bool false, .int .u8 0], by kernel_rfl, rfl, rfl⟩
instance : Plc Try.prog 8 [(0, 1), (1, 1), (2, 1), (3, 1)] := ⟨by kernel_rfl⟩
instance : Fld Try.prog 8 0 0 1 := ⟨by kernel_rfl⟩
instance : Fld Try.prog 8 1 1 1 := ⟨by kernel_rfl⟩
instance : Fld Try.prog 8 2 2 1 := ⟨by kernel_rfl⟩
instance : Fld Try.prog 8 3 3 1 := ⟨by kernel_rfl⟩
instance : Typ Try.prog 9 1 false := ⟨by kernel_rfl⟩
instance : Zer Try.prog 9 [.v (.string ⟨#[]⟩)] := ⟨[.string ⟨#[]⟩], by kernel_rfl, rfl, rfl⟩
instance : Typ Try.prog 10 1 false := ⟨by kernel_rfl⟩
instance : Zer Try.prog 10 [.v (.string ⟨#[]⟩)] := ⟨[.string ⟨#[]⟩], by kernel_rfl, rfl, rfl⟩
instance : Typ Try.prog 11 1 false := ⟨by kernel_rfl⟩
instance : Zer Try.prog 11 [.v (.string ⟨#[]⟩)] := ⟨[.string ⟨#[]⟩], by kernel_rfl, rfl, rfl⟩
instance : Typ Try.prog 12 1 false := ⟨by kernel_rfl⟩
instance : Zer Try.prog 12 [.v (.int .u64 0)] := ⟨[.int .u64 0], by kernel_rfl, rfl, rfl⟩
instance : Typ Try.prog 13 2 true := ⟨by kernel_rfl⟩
instance : Zer Try.prog 13 [.v (.string ⟨#[]⟩), .v (.int .u64 0)] := ⟨[.string ⟨#[]⟩, .int .u64 0], by kernel_rfl, rfl, rfl⟩
instance : Plc Try.prog 13 [(0, 1), (1, 1)] := ⟨by kernel_rfl⟩
instance : Fld Try.prog 13 0 0 1 := ⟨by kernel_rfl⟩
instance : Fld Try.prog 13 1 1 1 := ⟨by kernel_rfl⟩
instance : Typ Try.prog 14 2 true := ⟨by kernel_rfl⟩
instance : Zer Try.prog 14 [.v (.string ⟨#[]⟩), .v (.int .u64 0)] := ⟨[.string ⟨#[]⟩, .int .u64 0], by kernel_rfl, rfl, rfl⟩
instance : Plc Try.prog 14 [(0, 1), (1, 1)] := ⟨by kernel_rfl⟩
instance : Fld Try.prog 14 0 0 1 := ⟨by kernel_rfl⟩
instance : Fld Try.prog 14 1 1 1 := ⟨by kernel_rfl⟩
instance : Typ Try.prog 15 1 false := ⟨by kernel_rfl⟩
instance : Zer Try.prog 15 [.v (.pointer none)] := ⟨[.pointer none], by kernel_rfl, rfl, rfl⟩
instance : Typ Try.prog 16 1 false := ⟨by kernel_rfl⟩
instance : Zer Try.prog 16 [.v (.pointer none)] := ⟨[.pointer none], by kernel_rfl, rfl, rfl⟩
instance : Typ Try.prog 17 1 false := ⟨by kernel_rfl⟩
instance : Zer Try.prog 17 [.v (.pointer none)] := ⟨[.pointer none], by kernel_rfl, rfl, rfl⟩
instance : Typ Try.prog 18 1 true := ⟨by kernel_rfl⟩
instance : Zer Try.prog 18 [.v (.pointer none)] := ⟨[.pointer none], by kernel_rfl, rfl, rfl⟩
instance : Plc Try.prog 18 [(0, 1)] := ⟨by kernel_rfl⟩
instance : Fld Try.prog 18 0 0 1 := ⟨by kernel_rfl⟩
instance : Typ Try.prog 19 1 true := ⟨by kernel_rfl⟩
instance : Zer Try.prog 19 [.v (.pointer none)] := ⟨[.pointer none], by kernel_rfl, rfl, rfl⟩
instance : Plc Try.prog 19 [(0, 1)] := ⟨by kernel_rfl⟩
instance : Fld Try.prog 19 0 0 1 := ⟨by kernel_rfl⟩
instance : Typ Try.prog 20 1 false := ⟨by kernel_rfl⟩
instance : Zer Try.prog 20 [.v .nilIface] := ⟨[.nilIface], by kernel_rfl, rfl, rfl⟩
instance : Typ Try.prog 21 1 false := ⟨by kernel_rfl⟩
instance : Zer Try.prog 21 [.v (.int .i32 0)] := ⟨[.int .i32 0], by kernel_rfl, rfl, rfl⟩
instance : Typ Try.prog 22 1 false := ⟨by kernel_rfl⟩
instance : Elm Try.prog 22 3 1 8 := ⟨by kernel_rfl, by decide⟩
instance : Zer Try.prog 22 [.v (.slice none 0 0)] := ⟨[.slice none 0 0], by kernel_rfl, rfl, rfl⟩
instance : Typ Try.prog 23 1 false := ⟨by kernel_rfl⟩
instance : Zer Try.prog 23 [.v (.pointer none)] := ⟨[.pointer none], by kernel_rfl, rfl, rfl⟩
instance : Typ Try.prog 24 1 false := ⟨by kernel_rfl⟩
instance : Zer Try.prog 24 [.v .nilFunc] := ⟨[.nilFunc], by kernel_rfl, rfl, rfl⟩
instance : Typ Try.prog 25 1 false := ⟨by kernel_rfl⟩
instance : Elm Try.prog 25 47 2 32 := ⟨by kernel_rfl, by decide⟩
instance : Zer Try.prog 25 [.v (.slice none 0 0)] := ⟨[.slice none 0 0], by kernel_rfl, rfl, rfl⟩
instance : Typ Try.prog 26 1 true := ⟨by kernel_rfl⟩
instance : Zer Try.prog 26 [.v (.slice none 0 0)] := ⟨[.slice none 0 0], by kernel_rfl, rfl, rfl⟩
instance : Plc Try.prog 26 [(0, 1)] := ⟨by kernel_rfl⟩
instance : Fld Try.prog 26 0 0 1 := ⟨by kernel_rfl⟩
instance : Typ Try.prog 27 1 true := ⟨by kernel_rfl⟩
instance : Zer Try.prog 27 [.v (.slice none 0 0)] := ⟨[.slice none 0 0], by kernel_rfl, rfl, rfl⟩
instance : Plc Try.prog 27 [(0, 1)] := ⟨by kernel_rfl⟩
instance : Fld Try.prog 27 0 0 1 := ⟨by kernel_rfl⟩
instance : Typ Try.prog 28 1 false := ⟨by kernel_rfl⟩
instance : Elm Try.prog 28 97 3 24 := ⟨by kernel_rfl, by decide⟩
instance : Zer Try.prog 28 [.v (.slice none 0 0)] := ⟨[.slice none 0 0], by kernel_rfl, rfl, rfl⟩
instance : Typ Try.prog 29 2 true := ⟨by kernel_rfl⟩
instance : Zer Try.prog 29 [.v (.slice none 0 0), .v (.slice none 0 0)] := ⟨[.slice none 0 0, .slice none 0 0], by kernel_rfl, rfl, rfl⟩
instance : Plc Try.prog 29 [(0, 1), (1, 1)] := ⟨by kernel_rfl⟩
instance : Fld Try.prog 29 0 0 1 := ⟨by kernel_rfl⟩
instance : Fld Try.prog 29 1 1 1 := ⟨by kernel_rfl⟩
instance : Typ Try.prog 30 2 true := ⟨by kernel_rfl⟩
instance : Zer Try.prog 30 [.v (.slice none 0 0), .v (.slice none 0 0)] := ⟨[.slice none 0 0, .slice none 0 0], by kernel_rfl, rfl, rfl⟩
instance : Plc Try.prog 30 [(0, 1), (1, 1)] := ⟨by kernel_rfl⟩
instance : Fld Try.prog 30 0 0 1 := ⟨by kernel_rfl⟩
instance : Fld Try.prog 30 1 1 1 := ⟨by kernel_rfl⟩
instance : Typ Try.prog 31 1 false := ⟨by kernel_rfl⟩
instance : Zer Try.prog 31 [.v .nilFunc] := ⟨[.nilFunc], by kernel_rfl, rfl, rfl⟩
instance : Typ Try.prog 32 2 true := ⟨by kernel_rfl⟩
instance : Zer Try.prog 32 [.v (.int .i64 0), .v (.int .i64 0)] := ⟨[.int .i64 0, .int .i64 0], by kernel_rfl, rfl, rfl⟩
instance : Plc Try.prog 32 [(0, 1), (1, 1)] := ⟨by kernel_rfl⟩
instance : Fld Try.prog 32 0 0 1 := ⟨by kernel_rfl⟩
instance : Fld Try.prog 32 1 1 1 := ⟨by kernel_rfl⟩
instance : Typ Try.prog 33 2 true := ⟨by kernel_rfl⟩
instance : Zer Try.prog 33 [.v (.int .i64 0), .v (.int .i64 0)] := ⟨[.int .i64 0, .int .i64 0], by kernel_rfl, rfl, rfl⟩
instance : Plc Try.prog 33 [(0, 1), (1, 1)] := ⟨by kernel_rfl⟩
instance : Fld Try.prog 33 0 0 1 := ⟨by kernel_rfl⟩
instance : Fld Try.prog 33 1 1 1 := ⟨by kernel_rfl⟩
instance : Typ Try.prog 34 8 true := ⟨by kernel_rfl⟩
instance : Zer Try.prog 34 [.v (.int .i64 0), .v (.int .i64 0), .v (.string ⟨#[]⟩), .v (.int .i64 0), .v (.int .i64 0), .v (.bool false), .v (.bool false), .v (.string ⟨#[]⟩)] := ⟨[.int .i64 0, .int .i64 0, .string ⟨#[]⟩, .int .i64 0, .int .i64 0, .bool false, .bool false, .string ⟨#[]⟩], by kernel_rfl, rfl, rfl⟩
instance : Plc Try.prog 34 [(0, 2), (2, 1), (3, 2), (5, 1), (6, 1), (7, 1)] := ⟨by kernel_rfl⟩
instance : Fld Try.prog 34 0 0 2 := ⟨by kernel_rfl⟩
instance : Fld Try.prog 34 1 2 1 := ⟨by kernel_rfl⟩
instance : Fld Try.prog 34 2 3 2 := ⟨by kernel_rfl⟩
instance : Fld Try.prog 34 3 5 1 := ⟨by kernel_rfl⟩
instance : Fld Try.prog 34 4 6 1 := ⟨by kernel_rfl⟩
instance : Fld Try.prog 34 5 7 1 := ⟨by kernel_rfl⟩
instance : Typ Try.prog 35 8 true := ⟨by kernel_rfl⟩
instance : Zer Try.prog 35 [.v (.int .i64 0), .v (.int .i64 0), .v (.string ⟨#[]⟩), .v (.int .i64 0), .v (.int .i64 0), .v (.bool false), .v (.bool false), .v (.string ⟨#[]⟩)] := ⟨[.int .i64 0, .int .i64 0, .string ⟨#[]⟩, .int .i64 0, .int .i64 0, .bool false, .bool false, .string ⟨#[]⟩], by kernel_rfl, rfl, rfl⟩
instance : Plc Try.prog 35 [(0, 2), (2, 1), (3, 2), (5, 1), (6, 1), (7, 1)] := ⟨by kernel_rfl⟩
instance : Fld Try.prog 35 0 0 2 := ⟨by kernel_rfl⟩
instance : Fld Try.prog 35 1 2 1 := ⟨by kernel_rfl⟩
instance : Fld Try.prog 35 2 3 2 := ⟨by kernel_rfl⟩
instance : Fld Try.prog 35 3 5 1 := ⟨by kernel_rfl⟩
instance : Fld Try.prog 35 4 6 1 := ⟨by kernel_rfl⟩
instance : Fld Try.prog 35 5 7 1 := ⟨by kernel_rfl⟩
instance : Typ Try.prog 36 1 false := ⟨by kernel_rfl⟩
instance : Zer Try.prog 36 [.v (.int .i64 0)] := ⟨[.int .i64 0], by kernel_rfl, rfl, rfl⟩
instance : Typ Try.prog 37 1 false := ⟨by kernel_rfl⟩
instance : Typ Try.prog 38 1 false := ⟨by kernel_rfl⟩
instance : Zer Try.prog 38 [.v .nilFunc] := ⟨[.nilFunc], by kernel_rfl, rfl, rfl⟩
instance : Typ Try.prog 39 1 false := ⟨by kernel_rfl⟩
instance : Zer Try.prog 39 [.v .nilFunc] := ⟨[.nilFunc], by kernel_rfl, rfl, rfl⟩
instance : Typ Try.prog 40 1 false := ⟨by kernel_rfl⟩
instance : Zer Try.prog 40 [.v .nilFunc] := ⟨[.nilFunc], by kernel_rfl, rfl, rfl⟩
instance : Typ Try.prog 41 1 false := ⟨by kernel_rfl⟩
instance : Zer Try.prog 41 [.v .nilFunc] := ⟨[.nilFunc], by kernel_rfl, rfl, rfl⟩
instance : Typ Try.prog 42 1 false := ⟨by kernel_rfl⟩
instance : Zer Try.prog 42 [.v .nilFunc] := ⟨[.nilFunc], by kernel_rfl, rfl, rfl⟩
instance : Typ Try.prog 43 1 false := ⟨by kernel_rfl⟩
instance : Zer Try.prog 43 [.v .nilFunc] := ⟨[.nilFunc], by kernel_rfl, rfl, rfl⟩
instance : Typ Try.prog 44 1 false := ⟨by kernel_rfl⟩
instance : Zer Try.prog 44 [.v .nilFunc] := ⟨[.nilFunc], by kernel_rfl, rfl, rfl⟩
instance : Typ Try.prog 45 1 false := ⟨by kernel_rfl⟩
instance : Elm Try.prog 45 50 8 88 := ⟨by kernel_rfl, by decide⟩
instance : Zer Try.prog 45 [.v (.slice none 0 0)] := ⟨[.slice none 0 0], by kernel_rfl, rfl, rfl⟩
instance : Typ Try.prog 46 2 true := ⟨by kernel_rfl⟩
instance : Zer Try.prog 46 [.v (.int .i64 0), .v (.slice none 0 0)] := ⟨[.int .i64 0, .slice none 0 0], by kernel_rfl, rfl, rfl⟩
instance : Plc Try.prog 46 [(0, 1), (1, 1)] := ⟨by kernel_rfl⟩
instance : Fld Try.prog 46 0 0 1 := ⟨by kernel_rfl⟩
instance : Fld Try.prog 46 1 1 1 := ⟨by kernel_rfl⟩
instance : Typ Try.prog 47 2 true := ⟨by kernel_rfl⟩
instance : Zer Try.prog 47 [.v (.int .i64 0), .v (.slice none 0 0)] := ⟨[.int .i64 0, .slice none 0 0], by kernel_rfl, rfl, rfl⟩
instance : Plc Try.prog 47 [(0, 1), (1, 1)] := ⟨by kernel_rfl⟩
instance : Fld Try.prog 47 0 0 1 := ⟨by kernel_rfl⟩
instance : Fld Try.prog 47 1 1 1 := ⟨by kernel_rfl⟩
instance : Typ Try.prog 48 1 false := ⟨by kernel_rfl⟩
instance : Elm Try.prog 48 108 2 24 := ⟨by kernel_rfl, by decide⟩
instance : Zer Try.prog 48 [.v (.slice none 0 0)] := ⟨[.slice none 0 0], by kernel_rfl, rfl, rfl⟩
instance : Typ Try.prog 49 8 true := ⟨by kernel_rfl⟩
instance : Zer Try.prog 49 [.v (.int .i64 0), .v (.int .i64 0), .v (.int .i64 0), .v (.int .i64 0), .v (.int .i64 0), .v (.int .i64 0), .v (.string ⟨#[]⟩), .v (.slice none 0 0)] := ⟨[.int .i64 0, .int .i64 0, .int .i64 0, .int .i64 0, .int .i64 0, .int .i64 0, .string ⟨#[]⟩, .slice none 0 0], by kernel_rfl, rfl, rfl⟩
instance : Plc Try.prog 49 [(0, 1), (1, 1), (2, 1), (3, 1), (4, 1), (5, 1), (6, 1), (7, 1)] := ⟨by kernel_rfl⟩
instance : Fld Try.prog 49 0 0 1 := ⟨by kernel_rfl⟩
instance : Fld Try.prog 49 1 1 1 := ⟨by kernel_rfl⟩
instance : Fld Try.prog 49 2 2 1 := ⟨by kernel_rfl⟩
instance : Fld Try.prog 49 3 3 1 := ⟨by kernel_rfl⟩
instance : Fld Try.prog 49 4 4 1 := ⟨by kernel_rfl⟩
instance : Fld Try.prog 49 5 5 1 := ⟨by kernel_rfl⟩
instance : Fld Try.prog 49 6 6 1 := ⟨by kernel_rfl⟩
instance : Fld Try.prog 49 7 7 1 := ⟨by kernel_rfl⟩
instance : Typ Try.prog 50 8 true := ⟨by kernel_rfl⟩
instance : Zer Try.prog 50 [.v (.int .i64 0), .v (.int .i64 0), .v (.int .i64 0), .v (.int .i64 0), .v (.int .i64 0), .v (.int .i64 0), .v (.string ⟨#[]⟩), .v (.slice none 0 0)] := ⟨[.int .i64 0, .int .i64 0, .int .i64 0, .int .i64 0, .int .i64 0, .int .i64 0, .string ⟨#[]⟩, .slice none 0 0], by kernel_rfl, rfl, rfl⟩
instance : Plc Try.prog 50 [(0, 1), (1, 1), (2, 1), (3, 1), (4, 1), (5, 1), (6, 1), (7, 1)] := ⟨by kernel_rfl⟩
instance : Fld Try.prog 50 0 0 1 := ⟨by kernel_rfl⟩
instance : Fld Try.prog 50 1 1 1 := ⟨by kernel_rfl⟩
instance : Fld Try.prog 50 2 2 1 := ⟨by kernel_rfl⟩
instance : Fld Try.prog 50 3 3 1 := ⟨by kernel_rfl⟩
instance : Fld Try.prog 50 4 4 1 := ⟨by kernel_rfl⟩
instance : Fld Try.prog 50 5 5 1 := ⟨by kernel_rfl⟩
instance : Fld Try.prog 50 6 6 1 := ⟨by kernel_rfl⟩
instance : Fld Try.prog 50 7 7 1 := ⟨by kernel_rfl⟩
instance : Typ Try.prog 51 1 false := ⟨by kernel_rfl⟩
instance : Typ Try.prog 52 1 false := ⟨by kernel_rfl⟩
instance : Zer Try.prog 52 [.v .nilFunc] := ⟨[.nilFunc], by kernel_rfl, rfl, rfl⟩
instance : Typ Try.prog 53 1 false := ⟨by kernel_rfl⟩
instance : Zer Try.prog 53 [.v .nilFunc] := ⟨[.nilFunc], by kernel_rfl, rfl, rfl⟩
instance : Typ Try.prog 54 1 false := ⟨by kernel_rfl⟩
instance : Elm Try.prog 54 110 7 64 := ⟨by kernel_rfl, by decide⟩
instance : Zer Try.prog 54 [.v (.slice none 0 0)] := ⟨[.slice none 0 0], by kernel_rfl, rfl, rfl⟩
instance : Typ Try.prog 55 1 false := ⟨by kernel_rfl⟩
instance : Typ Try.prog 56 1 false := ⟨by kernel_rfl⟩
instance : Zer Try.prog 56 [.v .nilFunc] := ⟨[.nilFunc], by kernel_rfl, rfl, rfl⟩
instance : Typ Try.prog 57 1 false := ⟨by kernel_rfl⟩
instance : Zer Try.prog 57 [.v (.int .i64 0)] := ⟨[.int .i64 0], by kernel_rfl, rfl, rfl⟩
instance : Typ Try.prog 58 1 false := ⟨by kernel_rfl⟩
instance : Typ Try.prog 59 1 false := ⟨by kernel_rfl⟩
instance : Zer Try.prog 59 [.v .nilFunc] := ⟨[.nilFunc], by kernel_rfl, rfl, rfl⟩
instance : Typ Try.prog 60 1 false := ⟨by kernel_rfl⟩
instance : Elm Try.prog 60 9 1 16 := ⟨by kernel_rfl, by decide⟩
instance : Zer Try.prog 60 [.v (.slice none 0 0)] := ⟨[.slice none 0 0], by kernel_rfl, rfl, rfl⟩
instance : Typ Try.prog 61 1 false := ⟨by kernel_rfl⟩
instance : Zer Try.prog 61 [.v .nilFunc] := ⟨[.nilFunc], by kernel_rfl, rfl, rfl⟩
instance : Typ Try.prog 62 1 false := ⟨by kernel_rfl⟩
instance : Typ Try.prog 63 1 false := ⟨by kernel_rfl⟩
instance : Zer Try.prog 63 [.v .nilFunc] := ⟨[.nilFunc], by kernel_rfl, rfl, rfl⟩
instance : Typ Try.prog 64 2 true := ⟨by kernel_rfl⟩
instance : Zer Try.prog 64 [.v (.slice none 0 0), .v (.int .i64 0)] := ⟨[.slice none 0 0, .int .i64 0], by kernel_rfl, rfl, rfl⟩
instance : Plc Try.prog 64 [(0, 1), (1, 1)] := ⟨by kernel_rfl⟩
instance : Fld Try.prog 64 0 0 1 := ⟨by kernel_rfl⟩
instance : Fld Try.prog 64 1 1 1 := ⟨by kernel_rfl⟩
instance : Typ Try.prog 65 2 true := ⟨by kernel_rfl⟩
instance : Zer Try.prog 65 [.v (.slice none 0 0), .v (.int .i64 0)] := ⟨[.slice none 0 0, .int .i64 0], by kernel_rfl, rfl, rfl⟩
instance : Plc Try.prog 65 [(0, 1), (1, 1)] := ⟨by kernel_rfl⟩
instance : Fld Try.prog 65 0 0 1 := ⟨by kernel_rfl⟩
instance : Fld Try.prog 65 1 1 1 := ⟨by kernel_rfl⟩
instance : Typ Try.prog 66 1 false := ⟨by kernel_rfl⟩
instance : Zer Try.prog 66 [.v .nilFunc] := ⟨[.nilFunc], by kernel_rfl, rfl, rfl⟩
instance : Typ Try.prog 67 1 false := ⟨by kernel_rfl⟩
instance : Typ Try.prog 68 1 false := ⟨by kernel_rfl⟩
instance : Zer Try.prog 68 [.v .nilFunc] := ⟨[.nilFunc], by kernel_rfl, rfl, rfl⟩
instance : Typ Try.prog 69 1 false := ⟨by kernel_rfl⟩
instance : Zer Try.prog 69 [.v .nilFunc] := ⟨[.nilFunc], by kernel_rfl, rfl, rfl⟩
instance : Typ Try.prog 70 11 true := ⟨by kernel_rfl⟩
instance : Zer Try.prog 70 [.v (.slice none 0 0), .v (.slice none 0 0), .v (.slice none 0 0), .v (.int .i64 0), .v (.int .i64 0), .v (.int .i64 0), .v (.int .i64 0), .v (.string ⟨#[]⟩), .v (.bool false), .v (.bool false), .v (.int .i64 0)] := ⟨[.slice none 0 0, .slice none 0 0, .slice none 0 0, .int .i64 0, .int .i64 0, .int .i64 0, .int .i64 0, .string ⟨#[]⟩, .bool false, .bool false, .int .i64 0], by kernel_rfl, rfl, rfl⟩
instance : Plc Try.prog 70 [(0, 2), (2, 1), (3, 2), (5, 2), (7, 1), (8, 1), (9, 1), (10, 1)] := ⟨by kernel_rfl⟩
instance : Fld Try.prog 70 0 0 2 := ⟨by kernel_rfl⟩
instance : Fld Try.prog 70 1 2 1 := ⟨by kernel_rfl⟩
instance : Fld Try.prog 70 2 3 2 := ⟨by kernel_rfl⟩
instance : Fld Try.prog 70 3 5 2 := ⟨by kernel_rfl⟩
instance : Fld Try.prog 70 4 7 1 := ⟨by kernel_rfl⟩
instance : Fld Try.prog 70 5 8 1 := ⟨by kernel_rfl⟩
instance : Fld Try.prog 70 6 9 1 := ⟨by kernel_rfl⟩
instance : Fld Try.prog 70 7 10 1 := ⟨by kernel_rfl⟩
instance : Typ Try.prog 71 11 true := ⟨by kernel_rfl⟩
instance : Zer Try.prog 71 [.v (.slice none 0 0), .v (.slice none 0 0), .v (.slice none 0 0), .v (.int .i64 0), .v (.int .i64 0), .v (.int .i64 0), .v (.int .i64 0), .v (.string ⟨#[]⟩), .v (.bool false), .v (.bool false), .v (.int .i64 0)] := ⟨[.slice none 0 0, .slice none 0 0, .slice none 0 0, .int .i64 0, .int .i64 0, .int .i64 0, .int .i64 0, .string ⟨#[]⟩, .bool false, .bool false, .int .i64 0], by kernel_rfl, rfl, rfl⟩
instance : Plc Try.prog 71 [(0, 2), (2, 1), (3, 2), (5, 2), (7, 1), (8, 1), (9, 1), (10, 1)] := ⟨by kernel_rfl⟩
instance : Fld Try.prog 71 0 0 2 := ⟨by kernel_rfl⟩
instance : Fld Try.prog 71 1 2 1 := ⟨by kernel_rfl⟩
instance : Fld Try.prog 71 2 3 2 := ⟨by kernel_rfl⟩
instance : Fld Try.prog 71 3 5 2 := ⟨by kernel_rfl⟩
instance : Fld Try.prog 71 4 7 1 := ⟨by kernel_rfl⟩
instance : Fld Try.prog 71 5 8 1 := ⟨by kernel_rfl⟩
instance : Fld Try.prog 71 6 9 1 := ⟨by kernel_rfl⟩
instance : Fld Try.prog 71 7 10 1 := ⟨by kernel_rfl⟩
instance : Typ Try.prog 72 1 false := ⟨by kernel_rfl⟩
instance : Zer Try.prog 72 [.v .nilFunc] := ⟨[.nilFunc], by kernel_rfl, rfl, rfl⟩
instance : Typ Try.prog 73 1 false := ⟨by kernel_rfl⟩
instance : Zer Try.prog 73 [.v .nilFunc] := ⟨[.nilFunc], by kernel_rfl, rfl, rfl⟩
instance : Typ Try.prog 74 1 false := ⟨by kernel_rfl⟩
instance : Zer Try.prog 74 [.v .nilFunc] := ⟨[.nilFunc], by kernel_rfl, rfl, rfl⟩
instance : Typ Try.prog 75 1 false := ⟨by kernel_rfl⟩
instance : Zer Try.prog 75 [.v .nilFunc] := ⟨[.nilFunc], by kernel_rfl, rfl, rfl⟩
instance : Typ Try.prog 76 1 false := ⟨by kernel_rfl⟩
instance : Zer Try.prog 76 [.v .nilFunc] := ⟨[.nilFunc], by kernel_rfl, rfl, rfl⟩
instance : Typ Try.prog 77 1 false := ⟨by kernel_rfl⟩
instance : Elm Try.prog 77 33 2 16 := ⟨by kernel_rfl, by decide⟩
instance : Zer Try.prog 77 [.v (.slice none 0 0)] := ⟨[.slice none 0 0], by kernel_rfl, rfl, rfl⟩
instance : Typ Try.prog 78 1 false := ⟨by kernel_rfl⟩
instance : Zer Try.prog 78 [.v .nilFunc] := ⟨[.nilFunc], by kernel_rfl, rfl, rfl⟩
instance : Typ Try.prog 79 1 false := ⟨by kernel_rfl⟩
instance : Typ Try.prog 80 1 false := ⟨by kernel_rfl⟩
instance : Zer Try.prog 80 [.v .nilFunc] := ⟨[.nilFunc], by kernel_rfl, rfl, rfl⟩
instance : Typ Try.prog 81 1 false := ⟨by kernel_rfl⟩
instance : Zer Try.prog 81 [.v .nilFunc] := ⟨[.nilFunc], by kernel_rfl, rfl, rfl⟩
instance : Typ Try.prog 82 1 false := ⟨by kernel_rfl⟩
instance : Zer Try.prog 82 [.v .nilFunc] := ⟨[.nilFunc], by kernel_rfl, rfl, rfl⟩
instance : Typ Try.prog 83 1 false := ⟨by kernel_rfl⟩
instance : Typ Try.prog 84 1 false := ⟨by kernel_rfl⟩
instance : Zer Try.prog 84 [.v .nilFunc] := ⟨[.nilFunc], by kernel_rfl, rfl, rfl⟩
instance : Typ Try.prog 85 1 false := ⟨by kernel_rfl⟩
instance : Typ Try.prog 86 1 false := ⟨by kernel_rfl⟩
instance : Zer Try.prog 86 [.v .nilFunc] := ⟨[.nilFunc], by kernel_rfl, rfl, rfl⟩
instance : Typ Try.prog 87 1 false := ⟨by kernel_rfl⟩
instance : Zer Try.prog 87 [.v .nilFunc] := ⟨[.nilFunc], by kernel_rfl, rfl, rfl⟩
instance : Typ Try.prog 88 1 false := ⟨by kernel_rfl⟩
instance : Zer Try.prog 88 [.v .nilFunc] := ⟨[.nilFunc], by kernel_rfl, rfl, rfl⟩
instance : Typ Try.prog 89 1 false := ⟨by kernel_rfl⟩
instance : Zer Try.prog 89 [.v .nilFunc] := ⟨[.nilFunc], by kernel_rfl, rfl, rfl⟩
instance : Typ Try.prog 90 1 false := ⟨by kernel_rfl⟩
instance : Typ Try.prog 91 1 false := ⟨by kernel_rfl⟩
instance : Zer Try.prog 91 [.v .nilFunc] := ⟨[.nilFunc], by kernel_rfl, rfl, rfl⟩
instance : Typ Try.prog 92 1 false := ⟨by kernel_rfl⟩
instance : Zer Try.prog 92 [.v .nilFunc] := ⟨[.nilFunc], by kernel_rfl, rfl, rfl⟩
instance : Typ Try.prog 93 1 false := ⟨by kernel_rfl⟩
instance : Zer Try.prog 93 [.v .nilFunc] := ⟨[.nilFunc], by kernel_rfl, rfl, rfl⟩
instance : Typ Try.prog 94 1 false := ⟨by kernel_rfl⟩
instance : Zer Try.prog 94 [.v .nilFunc] := ⟨[.nilFunc], by kernel_rfl, rfl, rfl⟩
instance : Typ Try.prog 95 1 false := ⟨by kernel_rfl⟩
instance : Zer Try.prog 95 [.v .nilFunc] := ⟨[.nilFunc], by kernel_rfl, rfl, rfl⟩
instance : Typ Try.prog 96 3 true := ⟨by kernel_rfl⟩
instance : Zer Try.prog 96 [.v (.int .i64 0), .v (.int .i64 0), .v (.int .i64 0)] := ⟨[.int .i64 0, .int .i64 0, .int .i64 0], by kernel_rfl, rfl, rfl⟩
instance : Plc Try.prog 96 [(0, 1), (1, 2)] := ⟨by kernel_rfl⟩
instance : Fld Try.prog 96 0 0 1 := ⟨by kernel_rfl⟩
instance : Fld Try.prog 96 1 1 2 := ⟨by kernel_rfl⟩
instance : Typ Try.prog 97 3 true := ⟨by kernel_rfl⟩
instance : Zer Try.prog 97 [.v (.int .i64 0), .v (.int .i64 0), .v (.int .i64 0)] := ⟨[.int .i64 0, .int .i64 0, .int .i64 0], by kernel_rfl, rfl, rfl⟩
instance : Plc Try.prog 97 [(0, 1), (1, 2)] := ⟨by kernel_rfl⟩
instance : Fld Try.prog 97 0 0 1 := ⟨by kernel_rfl⟩
instance : Fld Try.prog 97 1 1 2 := ⟨by kernel_rfl⟩
instance : Typ Try.prog 98 1 false := ⟨by kernel_rfl⟩
instance : Zer Try.prog 98 [.v .nilFunc] := ⟨[.nilFunc], by kernel_rfl, rfl, rfl⟩
instance : Typ Try.prog 99 1 false := ⟨by kernel_rfl⟩
instance : Zer Try.prog 99 [.v .nilFunc] := ⟨[.nilFunc], by kernel_rfl, rfl, rfl⟩
instance : Typ Try.prog 100 1 false := ⟨by kernel_rfl⟩
instance : Zer Try.prog 100 [.v .nilFunc] := ⟨[.nilFunc], by kernel_rfl, rfl, rfl⟩
instance : Typ Try.prog 101 1 false := ⟨by kernel_rfl⟩
instance : Zer Try.prog 101 [.v .nilFunc] := ⟨[.nilFunc], by kernel_rfl, rfl, rfl⟩
instance : Typ Try.prog 102 1 false := ⟨by kernel_rfl⟩
instance : Zer Try.prog 102 [.v .nilFunc] := ⟨[.nilFunc], by kernel_rfl, rfl, rfl⟩
instance : Typ Try.prog 103 1 false := ⟨by kernel_rfl⟩
instance : Zer Try.prog 103 [.v (.pointer none)] := ⟨[.pointer none], by kernel_rfl, rfl, rfl⟩
instance : Typ Try.prog 104 1 false := ⟨by kernel_rfl⟩
instance : Zer Try.prog 104 [.v .nilFunc] := ⟨[.nilFunc], by kernel_rfl, rfl, rfl⟩
instance : Typ Try.prog 105 1 false := ⟨by kernel_rfl⟩
instance : Zer Try.prog 105 [.v .nilFunc] := ⟨[.nilFunc], by kernel_rfl, rfl, rfl⟩
instance : Typ Try.prog 106 1 false := ⟨by kernel_rfl⟩
instance : Zer Try.prog 106 [.v .nilFunc] := ⟨[.nilFunc], by kernel_rfl, rfl, rfl⟩
instance : Typ Try.prog 107 2 true := ⟨by kernel_rfl⟩
instance : Zer Try.prog 107 [.v (.string ⟨#[]⟩), .v (.int .i64 0)] := ⟨[.string ⟨#[]⟩, .int .i64 0], by kernel_rfl, rfl, rfl⟩
instance : Plc Try.prog 107 [(0, 1), (1, 1)] := ⟨by kernel_rfl⟩
instance : Fld Try.prog 107 0 0 1 := ⟨by kernel_rfl⟩
instance : Fld Try.prog 107 1 1 1 := ⟨by kernel_rfl⟩
instance : Typ Try.prog 108 2 true := ⟨by kernel_rfl⟩
instance : Zer Try.prog 108 [.v (.string ⟨#[]⟩), .v (.int .i64 0)] := ⟨[.string ⟨#[]⟩, .int .i64 0], by kernel_rfl, rfl, rfl⟩
instance : Plc Try.prog 108 [(0, 1), (1, 1)] := ⟨by kernel_rfl⟩
instance : Fld Try.prog 108 0 0 1 := ⟨by kernel_rfl⟩
instance : Fld Try.prog 108 1 1 1 := ⟨by kernel_rfl⟩
instance : Typ Try.prog 109 7 true := ⟨by kernel_rfl⟩
instance : Zer Try.prog 109 [.v (.int .i64 0), .v (.int .i64 0), .v (.string ⟨#[]⟩), .v (.int .i64 0), .v (.int .i64 0), .v (.int .i64 0), .v (.int .i64 0)] := ⟨[.int .i64 0, .int .i64 0, .string ⟨#[]⟩, .int .i64 0, .int .i64 0, .int .i64 0, .int .i64 0], by kernel_rfl, rfl, rfl⟩
instance : Plc Try.prog 109 [(0, 2), (2, 1), (3, 2), (5, 2)] := ⟨by kernel_rfl⟩
instance : Fld Try.prog 109 0 0 2 := ⟨by kernel_rfl⟩
instance : Fld Try.prog 109 1 2 1 := ⟨by kernel_rfl⟩
instance : Fld Try.prog 109 2 3 2 := ⟨by kernel_rfl⟩
instance : Fld Try.prog 109 3 5 2 := ⟨by kernel_rfl⟩
instance : Typ Try.prog 110 7 true := ⟨by kernel_rfl⟩
instance : Zer Try.prog 110 [.v (.int .i64 0), .v (.int .i64 0), .v (.string ⟨#[]⟩), .v (.int .i64 0), .v (.int .i64 0), .v (.int .i64 0), .v (.int .i64 0)] := ⟨[.int .i64 0, .int .i64 0, .string ⟨#[]⟩, .int .i64 0, .int .i64 0, .int .i64 0, .int .i64 0], by kernel_rfl, rfl, rfl⟩
instance : Plc Try.prog 110 [(0, 2), (2, 1), (3, 2), (5, 2)] := ⟨by kernel_rfl⟩
instance : Fld Try.prog 110 0 0 2 := ⟨by kernel_rfl⟩
instance : Fld Try.prog 110 1 2 1 := ⟨by kernel_rfl⟩
instance : Fld Try.prog 110 2 3 2 := ⟨by kernel_rfl⟩
instance : Fld Try.prog 110 3 5 2 := ⟨by kernel_rfl⟩
instance : Typ Try.prog 111 1 false := ⟨by kernel_rfl⟩
instance : Zer Try.prog 111 [.v .nilFunc] := ⟨[.nilFunc], by kernel_rfl, rfl, rfl⟩
instance : Typ Try.prog 112 1 false := ⟨by kernel_rfl⟩
instance : Zer Try.prog 112 [.v .nilFunc] := ⟨[.nilFunc], by kernel_rfl, rfl, rfl⟩
instance : Typ Try.prog 113 1 false := ⟨by kernel_rfl⟩
instance : Zer Try.prog 113 [.v .nilFunc] := ⟨[.nilFunc], by kernel_rfl, rfl, rfl⟩
instance : Typ Try.prog 114 1 false := ⟨by kernel_rfl⟩
instance : Typ Try.prog 115 1 false := ⟨by kernel_rfl⟩
instance : Zer Try.prog 115 [.v .nilFunc] := ⟨[.nilFunc], by kernel_rfl, rfl, rfl⟩
instance : Typ Try.prog 116 1 false := ⟨by kernel_rfl⟩
instance : Zer Try.prog 116 [.v .nilFunc] := ⟨[.nilFunc], by kernel_rfl, rfl, rfl⟩
instance : Typ Try.prog 117 1 false := ⟨by kernel_rfl⟩
instance : Typ Try.prog 118 1 false := ⟨by kernel_rfl⟩
instance : Zer Try.prog 118 [.v .nilFunc] := ⟨[.nilFunc], by kernel_rfl, rfl, rfl⟩
instance : Typ Try.prog 119 1 false := ⟨by kernel_rfl⟩
instance : Zer Try.prog 119 [.v (.pointer none)] := ⟨[.pointer none], by kernel_rfl, rfl, rfl⟩
instance : Typ Try.prog 120 1 false := ⟨by kernel_rfl⟩
instance : Zer Try.prog 120 [.v .nilFunc] := ⟨[.nilFunc], by kernel_rfl, rfl, rfl⟩
instance : Typ Try.prog 121 1 false := ⟨by kernel_rfl⟩
instance : Zer Try.prog 121 [.v .nilFunc] := ⟨[.nilFunc], by kernel_rfl, rfl, rfl⟩
instance : Typ Try.prog 122 1 false := ⟨by kernel_rfl⟩
instance : Zer Try.prog 122 [.v .nilFunc] := ⟨[.nilFunc], by kernel_rfl, rfl, rfl⟩
instance : Typ Try.prog 123 1 false := ⟨by kernel_rfl⟩
instance : Zer Try.prog 123 [.v .nilFunc] := ⟨[.nilFunc], by kernel_rfl, rfl, rfl⟩
instance : Typ Try.prog 124 1 false := ⟨by kernel_rfl⟩
instance : Zer Try.prog 124 [.v .nilFunc] := ⟨[.nilFunc], by kernel_rfl, rfl, rfl⟩
instance : Typ Try.prog 125 1 false := ⟨by kernel_rfl⟩
instance : Zer Try.prog 125 [.v .nilFunc] := ⟨[.nilFunc], by kernel_rfl, rfl, rfl⟩
instance : Typ Try.prog 126 1 false := ⟨by kernel_rfl⟩
instance : Zer Try.prog 126 [.v .nilFunc] := ⟨[.nilFunc], by kernel_rfl, rfl, rfl⟩
instance : Typ Try.prog 127 1 false := ⟨by kernel_rfl⟩
instance : Zer Try.prog 127 [.v .nilFunc] := ⟨[.nilFunc], by kernel_rfl, rfl, rfl⟩
instance : Typ Try.prog 128 1 false := ⟨by kernel_rfl⟩
instance : Zer Try.prog 128 [.v .nilFunc] := ⟨[.nilFunc], by kernel_rfl, rfl, rfl⟩
instance : Typ Try.prog 129 1 false := ⟨by kernel_rfl⟩
instance : Zer Try.prog 129 [.v .nilFunc] := ⟨[.nilFunc], by kernel_rfl, rfl, rfl⟩
instance : Typ Try.prog 130 1 false := ⟨by kernel_rfl⟩
instance : Zer Try.prog 130 [.v .nilFunc] := ⟨[.nilFunc], by kernel_rfl, rfl, rfl⟩
instance : Typ Try.prog 131 1 false := ⟨by kernel_rfl⟩
instance : Zer Try.prog 131 [.v .nilFunc] := ⟨[.nilFunc], by kernel_rfl, rfl, rfl⟩
instance : Typ Try.prog 132 1 false := ⟨by kernel_rfl⟩
instance : Elm Try.prog 132 36 1 8 := ⟨by kernel_rfl, by decide⟩
instance : Zer Try.prog 132 [.v (.slice none 0 0)] := ⟨[.slice none 0 0], by kernel_rfl, rfl, rfl⟩
instance : Typ Try.prog 133 1 false := ⟨by kernel_rfl⟩
instance : Zer Try.prog 133 [.v .nilFunc] := ⟨[.nilFunc], by kernel_rfl, rfl, rfl⟩
instance : Typ Try.prog 134 1 false := ⟨by kernel_rfl⟩
instance : Zer Try.prog 134 [.v .nilFunc] := ⟨[.nilFunc], by kernel_rfl, rfl, rfl⟩
instance : Typ Try.prog 135 1 false := ⟨by kernel_rfl⟩
instance : Zer Try.prog 135 [.v .nilFunc] := ⟨[.nilFunc], by kernel_rfl, rfl, rfl⟩
instance : Typ Try.prog 136 1 false := ⟨by kernel_rfl⟩
instance : Zer Try.prog 136 [.v .nilFunc] := ⟨[.nilFunc], by kernel_rfl, rfl, rfl⟩
instance : Typ Try.prog 137 1 false := ⟨by kernel_rfl⟩
instance : Zer Try.prog 137 [.v .nilFunc] := ⟨[.nilFunc], by kernel_rfl, rfl, rfl⟩
instance : Typ Try.prog 138 1 false := ⟨by kernel_rfl⟩
instance : Zer Try.prog 138 [.v .nilFunc] := ⟨[.nilFunc], by kernel_rfl, rfl, rfl⟩
instance : Typ Try.prog 139 1 false := ⟨by kernel_rfl⟩
instance : Zer Try.prog 139 [.v .nilFunc] := ⟨[.nilFunc], by kernel_rfl, rfl, rfl⟩
instance : Typ Try.prog 140 1 false := ⟨by kernel_rfl⟩
instance : Zer Try.prog 140 [.v .nilFunc] := ⟨[.nilFunc], by kernel_rfl, rfl, rfl⟩
instance : Typ Try.prog 141 256 true := ⟨by kernel_rfl⟩
instance : Typ Try.prog 142 256 true := ⟨by kernel_rfl⟩
instance : Typ Try.prog 143 1 false := ⟨by kernel_rfl⟩
instance : Typ Try.prog 144 1 false := ⟨by kernel_rfl⟩
instance : Zer Try.prog 144 [.v .nilFunc] := ⟨[.nilFunc], by kernel_rfl, rfl, rfl⟩
instance : Typ Try.prog 145 1 false := ⟨by kernel_rfl⟩
instance : Zer Try.prog 145 [.v .nilFunc] := ⟨[.nilFunc], by kernel_rfl, rfl, rfl⟩
instance : Typ Try.prog 146 1 false := ⟨by kernel_rfl⟩
instance : Zer Try.prog 146 [.v (.int .u64 0)] := ⟨[.int .u64 0], by kernel_rfl, rfl, rfl⟩
instance : Typ Try.prog 147 1 false := ⟨by kernel_rfl⟩
instance : Zer Try.prog 147 [.v .nilFunc] := ⟨[.nilFunc], by kernel_rfl, rfl, rfl⟩
instance : Typ Try.prog 148 1 false := ⟨by kernel_rfl⟩
instance : Zer Try.prog 148 [.v (.pointer none)] := ⟨[.pointer none], by kernel_rfl, rfl, rfl⟩
instance : Typ Try.prog 149 1 false := ⟨by kernel_rfl⟩
instance : Zer Try.prog 149 [.v (.int .u32 0)] := ⟨[.int .u32 0], by kernel_rfl, rfl, rfl⟩
instance : Typ Try.prog 150 1 false := ⟨by kernel_rfl⟩
instance : Typ Try.prog 151 1 false := ⟨by kernel_rfl⟩
instance : Zer Try.prog 151 [.v .nilFunc] := ⟨[.nilFunc], by kernel_rfl, rfl, rfl⟩
instance : Typ Try.prog 152 4 true := ⟨by kernel_rfl⟩
instance : Zer Try.prog 152 [.v (.pointer none), .v (.pointer none), .v (.pointer none), .v (.string ⟨#[]⟩)] := ⟨[.pointer none, .pointer none, .pointer none, .string ⟨#[]⟩], by kernel_rfl, rfl, rfl⟩
instance : Plc Try.prog 152 [(0, 1), (1, 1), (2, 1), (3, 1)] := ⟨by kernel_rfl⟩
instance : Fld Try.prog 152 0 0 1 := ⟨by kernel_rfl⟩
instance : Fld Try.prog 152 1 1 1 := ⟨by kernel_rfl⟩
instance : Fld Try.prog 152 2 2 1 := ⟨by kernel_rfl⟩
instance : Fld Try.prog 152 3 3 1 := ⟨by kernel_rfl⟩
instance : Typ Try.prog 153 4 true := ⟨by kernel_rfl⟩
instance : Zer Try.prog 153 [.v (.pointer none), .v (.pointer none), .v (.pointer none), .v (.string ⟨#[]⟩)] := ⟨[.pointer none, .pointer none, .pointer none, .string ⟨#[]⟩], by kernel_rfl, rfl, rfl⟩
instance : Plc Try.prog 153 [(0, 1), (1, 1), (2, 1), (3, 1)] := ⟨by kernel_rfl⟩
instance : Fld Try.prog 153 0 0 1 := ⟨by kernel_rfl⟩
instance : Fld Try.prog 153 1 1 1 := ⟨by kernel_rfl⟩
instance : Fld Try.prog 153 2 2 1 := ⟨by kernel_rfl⟩
instance : Fld Try.prog 153 3 3 1 := ⟨by kernel_rfl⟩
instance : Typ Try.prog 154 0 true := ⟨by kernel_rfl⟩
instance : Typ Try.prog 155 0 true := ⟨by kernel_rfl⟩
instance : Plc Try.prog 155 [(0, 0)] := ⟨by kernel_rfl⟩
instance : Typ Try.prog 156 0 true := ⟨by kernel_rfl⟩
instance : Plc Try.prog 156 [(0, 0)] := ⟨by kernel_rfl⟩
instance : Typ Try.prog 157 1 false := ⟨by kernel_rfl⟩
instance : Zer Try.prog 157 [.v .nilFunc] := ⟨[.nilFunc], by kernel_rfl, rfl, rfl⟩
instance : Typ Try.prog 158 1 false := ⟨by kernel_rfl⟩
instance : Zer Try.prog 158 [.v (.int .u8 0)] := ⟨[.int .u8 0], by kernel_rfl, rfl, rfl⟩
instance : Typ Try.prog 159 1 false := ⟨by kernel_rfl⟩
instance : Zer Try.prog 159 [.v (.int .u8 0)] := ⟨[.int .u8 0], by kernel_rfl, rfl, rfl⟩
instance : Typ Try.prog 160 1 false := ⟨by kernel_rfl⟩
instance : Zer Try.prog 160 [.v .nilFunc] := ⟨[.nilFunc], by kernel_rfl, rfl, rfl⟩
instance : Typ Try.prog 161 1 false := ⟨by kernel_rfl⟩
instance : Zer Try.prog 161 [.v (.pointer none)] := ⟨[.pointer none], by kernel_rfl, rfl, rfl⟩
instance : Typ Try.prog 162 1 false := ⟨by kernel_rfl⟩
instance : Zer Try.prog 162 [.v (.int .i32 0)] := ⟨[.int .i32 0], by kernel_rfl, rfl, rfl⟩
instance : Typ Try.prog 163 1 false := ⟨by kernel_rfl⟩
instance : Zer Try.prog 163 [.v (.int .i32 0)] := ⟨[.int .i32 0], by kernel_rfl, rfl, rfl⟩
instance : Typ Try.prog 164 11 true := ⟨by kernel_rfl⟩
instance : Zer Try.prog 164 [.v (.int .u64 0), .v (.int .u64 0), .v (.int .u32 0), .v (.int .u8 0), .v (.int .u8 0), .v (.int .u8 0), .v (.int .u8 0), .v .nilFunc, .v (.pointer none), .v (.int .i32 0), .v (.int .i32 0)] := ⟨[.int .u64 0, .int .u64 0, .int .u32 0, .int .u8 0, .int .u8 0, .int .u8 0, .int .u8 0, .nilFunc, .pointer none, .int .i32 0, .int .i32 0], by kernel_rfl, rfl, rfl⟩
instance : Plc Try.prog 164 [(0, 1), (1, 1), (2, 1), (3, 1), (4, 1), (5, 1), (6, 1), (7, 1), (8, 1), (9, 1), (10, 1)] := ⟨by kernel_rfl⟩
instance : Fld Try.prog 164 0 0 1 := ⟨by kernel_rfl⟩
instance : Fld Try.prog 164 1 1 1 := ⟨by kernel_rfl⟩
instance : Fld Try.prog 164 2 2 1 := ⟨by kernel_rfl⟩
instance : Fld Try.prog 164 3 3 1 := ⟨by kernel_rfl⟩
instance : Fld Try.prog 164 4 4 1 := ⟨by kernel_rfl⟩
instance : Fld Try.prog 164 5 5 1 := ⟨by kernel_rfl⟩
instance : Fld Try.prog 164 6 6 1 := ⟨by kernel_rfl⟩
instance : Fld Try.prog 164 7 7 1 := ⟨by kernel_rfl⟩
instance : Fld Try.prog 164 8 8 1 := ⟨by kernel_rfl⟩
instance : Fld Try.prog 164 9 9 1 := ⟨by kernel_rfl⟩
instance : Fld Try.prog 164 10 10 1 := ⟨by kernel_rfl⟩
instance : Typ Try.prog 165 11 true := ⟨by kernel_rfl⟩
instance : Zer Try.prog 165 [.v (.int .u64 0), .v (.int .u64 0), .v (.int .u32 0), .v (.int .u8 0), .v (.int .u8 0), .v (.int .u8 0), .v (.int .u8 0), .v .nilFunc, .v (.pointer none), .v (.int .i32 0), .v (.int .i32 0)] := ⟨[.int .u64 0, .int .u64 0, .int .u32 0, .int .u8 0, .int .u8 0, .int .u8 0, .int .u8 0, .nilFunc, .pointer none, .int .i32 0, .int .i32 0], by kernel_rfl, rfl, rfl⟩
instance : Plc Try.prog 165 [(0, 1), (1, 1), (2, 1), (3, 1), (4, 1), (5, 1), (6, 1), (7, 1), (8, 1), (9, 1), (10, 1)] := ⟨by kernel_rfl⟩
instance : Fld Try.prog 165 0 0 1 := ⟨by kernel_rfl⟩
instance : Fld Try.prog 165 1 1 1 := ⟨by kernel_rfl⟩
instance : Fld Try.prog 165 2 2 1 := ⟨by kernel_rfl⟩
instance : Fld Try.prog 165 3 3 1 := ⟨by kernel_rfl⟩
instance : Fld Try.prog 165 4 4 1 := ⟨by kernel_rfl⟩
instance : Fld Try.prog 165 5 5 1 := ⟨by kernel_rfl⟩
instance : Fld Try.prog 165 6 6 1 := ⟨by kernel_rfl⟩
instance : Fld Try.prog 165 7 7 1 := ⟨by kernel_rfl⟩
instance : Fld Try.prog 165 8 8 1 := ⟨by kernel_rfl⟩
instance : Fld Try.prog 165 9 9 1 := ⟨by kernel_rfl⟩
instance : Fld Try.prog 165 10 10 1 := ⟨by kernel_rfl⟩
instance : Typ Try.prog 166 1 false := ⟨by kernel_rfl⟩
instance : Zer Try.prog 166 [.v (.pointer none)] := ⟨[.pointer none], by kernel_rfl, rfl, rfl⟩
instance : Fun Try.prog 2 := ⟨by kernel_rfl⟩
instance : Fun Try.prog 3 := ⟨by kernel_rfl⟩
instance : Fun Try.prog 4 := ⟨by kernel_rfl⟩
instance : Fun Try.prog 5 := ⟨by kernel_rfl⟩
instance : Fun Try.prog 6 := ⟨by kernel_rfl⟩
instance : Fun Try.prog 7 := ⟨by kernel_rfl⟩
instance : Fun Try.prog 8 := ⟨by kernel_rfl⟩
instance : Fun Try.prog 9 := ⟨by kernel_rfl⟩
instance : Fun Try.prog 10 := ⟨by kernel_rfl⟩
instance : Fun Try.prog 11 := ⟨by kernel_rfl⟩
instance : Fun Try.prog 12 := ⟨by kernel_rfl⟩
instance : Fun Try.prog 13 := ⟨by kernel_rfl⟩
instance : Fun Try.prog 14 := ⟨by kernel_rfl⟩
instance : Fun Try.prog 15 := ⟨by kernel_rfl⟩
instance : Fun Try.prog 16 := ⟨by kernel_rfl⟩
instance : Fun Try.prog 17 := ⟨by kernel_rfl⟩
instance : Fun Try.prog 18 := ⟨by kernel_rfl⟩
instance : Fun Try.prog 19 := ⟨by kernel_rfl⟩
instance : Fun Try.prog 20 := ⟨by kernel_rfl⟩
instance : Fun Try.prog 21 := ⟨by kernel_rfl⟩
instance : Fun Try.prog 22 := ⟨by kernel_rfl⟩
instance : Fun Try.prog 23 := ⟨by kernel_rfl⟩
instance : Fun Try.prog 24 := ⟨by kernel_rfl⟩
instance : Fun Try.prog 25 := ⟨by kernel_rfl⟩
instance : Fun Try.prog 26 := ⟨by kernel_rfl⟩
instance : Fun Try.prog 27 := ⟨by kernel_rfl⟩
instance : Fun Try.prog 28 := ⟨by kernel_rfl⟩
instance : Fun Try.prog 29 := ⟨by kernel_rfl⟩
instance : Fun Try.prog 30 := ⟨by kernel_rfl⟩
instance : Fun Try.prog 31 := ⟨by kernel_rfl⟩
instance : Fun Try.prog 32 := ⟨by kernel_rfl⟩
instance : Fun Try.prog 33 := ⟨by kernel_rfl⟩
instance : Fun Try.prog 34 := ⟨by kernel_rfl⟩
instance : Fun Try.prog 35 := ⟨by kernel_rfl⟩
instance : Fun Try.prog 36 := ⟨by kernel_rfl⟩
instance : Fun Try.prog 37 := ⟨by kernel_rfl⟩
instance : Fun Try.prog 38 := ⟨by kernel_rfl⟩
instance : Fun Try.prog 39 := ⟨by kernel_rfl⟩
instance : Fun Try.prog 40 := ⟨by kernel_rfl⟩
instance : Fun Try.prog 41 := ⟨by kernel_rfl⟩
instance : Fun Try.prog 42 := ⟨by kernel_rfl⟩
instance : Fun Try.prog 43 := ⟨by kernel_rfl⟩
instance : Fun Try.prog 44 := ⟨by kernel_rfl⟩
instance : Fun Try.prog 45 := ⟨by kernel_rfl⟩
instance : Fun Try.prog 46 := ⟨by kernel_rfl⟩
instance : Fun Try.prog 47 := ⟨by kernel_rfl⟩
instance : Fun Try.prog 48 := ⟨by kernel_rfl⟩
instance : Fun Try.prog 49 := ⟨by kernel_rfl⟩
instance : Fun Try.prog 50 := ⟨by kernel_rfl⟩
instance : Fun Try.prog 51 := ⟨by kernel_rfl⟩
instance : Fun Try.prog 52 := ⟨by kernel_rfl⟩
instance : Fun Try.prog 53 := ⟨by kernel_rfl⟩
instance : Fun Try.prog 54 := ⟨by kernel_rfl⟩
instance : Fun Try.prog 55 := ⟨by kernel_rfl⟩
instance : Fun Try.prog 56 := ⟨by kernel_rfl⟩
instance : Fun Try.prog 57 := ⟨by kernel_rfl⟩
instance : Fun Try.prog 58 := ⟨by kernel_rfl⟩
instance : Fun Try.prog 59 := ⟨by kernel_rfl⟩
instance : Fun Try.prog 60 := ⟨by kernel_rfl⟩
instance : Fun Try.prog 61 := ⟨by kernel_rfl⟩
instance : Fun Try.prog 62 := ⟨by kernel_rfl⟩
instance : Fun Try.prog 63 := ⟨by kernel_rfl⟩
instance : Fun Try.prog 64 := ⟨by kernel_rfl⟩
instance : Fun Try.prog 65 := ⟨by kernel_rfl⟩
instance : Fun Try.prog 66 := ⟨by kernel_rfl⟩
instance : Fun Try.prog 67 := ⟨by kernel_rfl⟩
instance : Fun Try.prog 68 := ⟨by kernel_rfl⟩
instance : Fun Try.prog 69 := ⟨by kernel_rfl⟩
instance : Fun Try.prog 70 := ⟨by kernel_rfl⟩
instance : Fun Try.prog 71 := ⟨by kernel_rfl⟩
instance : Fun Try.prog 72 := ⟨by kernel_rfl⟩
instance : Fun Try.prog 73 := ⟨by kernel_rfl⟩
instance : Fun Try.prog 74 := ⟨by kernel_rfl⟩
instance : Fun Try.prog 75 := ⟨by kernel_rfl⟩
instance : Fun Try.prog 76 := ⟨by kernel_rfl⟩
instance : Fun Try.prog 77 := ⟨by kernel_rfl⟩
instance : Fun Try.prog 78 := ⟨by kernel_rfl⟩
instance : Fun Try.prog 79 := ⟨by kernel_rfl⟩
instance : Fun Try.prog 80 := ⟨by kernel_rfl⟩
instance : Fun Try.prog 81 := ⟨by kernel_rfl⟩
instance : Fun Try.prog 82 := ⟨by kernel_rfl⟩
instance : Fun Try.prog 83 := ⟨by kernel_rfl⟩
instance : Fun Try.prog 84 := ⟨by kernel_rfl⟩
instance : Fun Try.prog 85 := ⟨by kernel_rfl⟩
instance : Fun Try.prog 86 := ⟨by kernel_rfl⟩
instance : Fun Try.prog 87 := ⟨by kernel_rfl⟩
instance : Fun Try.prog 88 := ⟨by kernel_rfl⟩
instance : Fun Try.prog 89 := ⟨by kernel_rfl⟩
instance : Fun Try.prog 90 := ⟨by kernel_rfl⟩
instance : Fun Try.prog 91 := ⟨by kernel_rfl⟩
instance : Fun Try.prog 92 := ⟨by kernel_rfl⟩
instance : Fun Try.prog 93 := ⟨by kernel_rfl⟩
instance : Fun Try.prog 94 := ⟨by kernel_rfl⟩
instance : Fun Try.prog 95 := ⟨by kernel_rfl⟩
instance : Fun Try.prog 96 := ⟨by kernel_rfl⟩
instance : Fun Try.prog 97 := ⟨by kernel_rfl⟩
instance : Fun Try.prog 98 := ⟨by kernel_rfl⟩
instance : Fun Try.prog 99 := ⟨by kernel_rfl⟩
instance : Fun Try.prog 100 := ⟨by kernel_rfl⟩
instance : Fun Try.prog 101 := ⟨by kernel_rfl⟩
instance : Fun Try.prog 103 := ⟨by kernel_rfl⟩
instance : Fun Try.prog 104 := ⟨by kernel_rfl⟩
instance : Fun Try.prog 105 := ⟨by kernel_rfl⟩
instance : Fun Try.prog 106 := ⟨by kernel_rfl⟩
instance : Fun Try.prog 108 := ⟨by kernel_rfl⟩
end Go.Proofs.Ytaidkbnbfnaihaa
namespace Go.Proofs.Ytaidkbnbfnaihaa

def strLt (a b : Str) : Bool := Op.bytesLess a.toList b.toList
def entGo (name : Str) (ino : Int) : Bool → List Ent → List Ent
  | done, [] => if done then [] else [(name, ino)]
  | done, e :: r =>
    (if !done && !strLt e.1 name then [(name, ino)] else []) ++ ((if e.1 = name then [] else [e]) ++ entGo name ino (done || !strLt e.1 name) r)
def entL (es : List Ent) (name : Str) (ino : Int) : List Ent := entGo name ino (ino == 0) es

def cntE (ino : Int) (es : List Ent) : Nat := es.countP fun e : Ent => e.2 == ino
def cntN (ino : Int) (ns : List Nod) : Nat := cntE ino (ns.flatMap fun n => n.entries)
def rootNod : Nod := ⟨1, 2, 493, 0, 0, 1, ⟨#[]⟩, []⟩
def rootDvc : Dvc := ⟨2, [rootNod]⟩
def newL (n : Int) : Fls × Int := if n < 1 ∨ 3 < n then ([], 50) else (List.replicate n.toNat rootDvc, 0)
abbrev ChgRes := Fls × List Chg × Int
def mkNod (n : Nod) (next dirIno : Int) : Nod := ⟨next, n.kind, n.mode, n.uid, n.gid, if n.kind = 2 then dirIno else 0, n.target, []⟩
end Go.Proofs.Ytaidkbnbfnaihaa
namespace Go.Proofs.Ytaidkbnbfnaihaa
open Go.RowKit

theorem row_at {α : Type} (enc : α → List AV) {l : List α} {k : Nat} (h : (k : Int) < ((l.map enc).length : Int)) : k < l.length ∧ ∃ x, l[k]? = some x ∧ (l.map enc)[k]? = some (enc x) ∧ (l.take (k + 1)).map enc = (l.take k).map enc ++ [enc x] := by
  have hk : k < l.length := by simpa using h
  refine ⟨hk, l[k], List.getElem?_eq_getElem hk, by simp [hk], ?_⟩
  rw [List.take_succ_eq_append_getElem hk, List.map_append]
  rfl
theorem row_no {α : Type} (enc : α → List AV) {l : List α} {k : Nat} (hk : k ≤ l.length) (h : ¬ (k : Int) < ((l.map enc).length : Int)) : k = l.length := by
  simp at h
  omega
theorem vb {a b : Bool} (h : a = b) : AV.v (.bool a) = AV.v (.bool b) := by rw [h]
theorem vi {k : IntKind} {a b : Int} (h : a = b) : AV.v (.int k a) = AV.v (.int k b) := by rw [h]
def filA (x : Fil) : List AV := [.v (.int .i64 x.1), .v (.int .i64 x.2)]
def entA (e : Ent) : List AV := [.v (.string e.1), .v (.int .i64 e.2)]
def nodA (n : Nod) : List AV := [.v (.int .i64 n.ino), .v (.int .i64 n.kind), .v (.int .i64 n.mode), .v (.int .i64 n.uid), .v (.int .i64 n.gid), .v (.int .i64 n.parent), .v (.string n.target), .sl 2 (n.entries.map entA) none]
def dvcA (d : Dvc) : List AV := [.v (.int .i64 d.next), .sl 8 (d.nodes.map nodA) none]
def flsA (f : Fls) : List AV := [.sl 2 (f.map dvcA) none]
structure FlsB (f : Fls) : Prop where
  few : f.length ≤ 1000
  nodes : ∀ d ∈ f, d.nodes.length ≤ 1000
  ents : ∀ d ∈ f, ∀ n ∈ d.nodes, n.entries.length ≤ 1000
theorem indexL_at {f : Fls} {a : Fil} {k : Nat} {d : Dvc} (hk : a.1 = (k : Int)) (hd : f[k]? = some d) : indexL f a = idxBy (fun n : Nod => n.ino == a.2) d.nodes := by
  unfold indexL; rw [hk, atI_nat, hd]
def nodG (f : Fls) (a : Fil) : Nod := (nodeL f a).getD Nod.zero
def hasG (f : Fls) (a : Fil) : Bool := (nodeL f a).isSome
theorem dirL_eq (f : Fls) (a : Fil) : dirL f a = (hasG f a && decide ((nodG f a).kind = 2)) := by
  unfold dirL hasG nodG
  cases nodeL f a <;> simp [beq_dec]
theorem nodG_ents {f : Fls} (hf : FlsB f) (a : Fil) : (nodG f a).entries.length ≤ 1000 := by
  rcases index_node f a with ⟨-, h⟩ | ⟨k, i, d, n, -, h1, h2, -, -, h⟩
  · simp [nodG, h, Nod.zero]
  · simp only [nodG, h, Option.getD_some]
    exact hf.ents d (List.mem_of_getElem? h1) n (List.mem_of_getElem? h2)
section
set_option maxRecDepth 10000
set_option maxHeartbeats 1000000
theorem Rindex (f : Fls) (a : Fil) (hf : FlsB f) : AFn Try.prog 61 [.agg (flsA f), .agg (filA a)] (fun r => r = .v (.int .i64 (indexL f a))) := by
  refine enter Try.func61 rfl rfl rfl rfl rfl 0 rfl ?_
  refine w_ (b_ (h:=b_ (h:=a_ (h:=e_ (q_ (w_ (f_ (h:=l_ (h:=lt_ (h:=m_ (h:=?_)))))))))))
  refine al_gs false rfl rfl (fun hb1 => ?_) (fun hb1 => ?_)
  · have hc1 := bp hb1
    refine g0_ (h:=g0_ (h:=g0_ (h:=g0_ (h:=g0_ (h:=g0_ (h:=pt_ (h:=e_ (cy_ (h:=w_ (a_ (h:=e_ (aw_ret (x_thenR (?_))))))))))))))
    refine e_ret ?_
    exact vi (by unfold indexL; rw [atI_none (.inl hc1)])
  · have hc1 := bp hb1
    refine f_ (h:=l_ (h:=f_ (h:=l_ (h:=n_ (h:=ge_ (h:=pf_ (h:=e_ (?_))))))))
    refine aw_cond rfl (fun hb2 => ?_) (fun hb2 => ?_)
    · have hc2 := bp hb2
      refine w_ (a_ (h:=e_ (aw_ret (x_thenR (?_)))))
      refine e_ret ?_
      exact vi (by unfold indexL; rw [atI_none (.inr (by rw [List.length_map] at hc2; exact hc2))])
    · have hc2 := bp hb2
      obtain ⟨k, hk⟩ := Int.eq_ofNat_of_zero_le (show 0 ≤ a.1 by omega)
      rw [hk] at hc2
      obtain ⟨-, d, hd, hrow, -⟩ := row_at dvcA (l := f) (k := k) (by omega)
      have hdn := hf.nodes d (List.mem_of_getElem? hd)
      refine kt_ (w_ (f_ (h:=l_ (h:=f_ (h:=l_ (h:=?_))))))
      refine al_p rfl (st_index (n := k) rfl rfl hk hrow ?_)
      refine f_ (h:=l_ (h:=a_ (h:=e_ (q_ (w_ (a_ (h:=e_ (aw_block (?_)))))))))
      refine aw_loopW (fun m s => ∃ j : Nat, j ≤ d.nodes.length ∧ m = d.nodes.length - j ∧ (∀ i y, i < j → d.nodes[i]? = some y → (y.ino == a.2) = false) ∧ s = ⟨look [(3, .bp 1 0), (5, .sl 8 (d.nodes.map nodA) none), (6, .v (.int .i64 (j : Int)))], ⟨[flsA f, filA a], []⟩⟩) (d.nodes.length) ((wk 2 0)) (⟨0, by omega, rfl, fun i y hi => by omega, rfl⟩) ?_
      rintro m s ⟨j, hj, rfl, ha, rfl⟩
      refine q_ (w_ (m_ (h:=m_ (h:=n_ (h:=lt_ (h:=e_ (?_)))))))
      refine aw_cond rfl (fun hb3 => ?_) (fun hb3 => ?_)
      · have hc3 := bp hb3
        obtain ⟨hlt, n, hy, hrow2, -⟩ := row_at nodA hc3
        refine kt_ (q_ (aw_block (q_ (yr_ 8 (h:=dm_ 0 (h:=dm_ 1 (h:=di_ 2 (h:=df_ 3 (h:=dl_ 4 (h:=df_ 5 (h:=dl_ 6 (h:=deq_ 7 (h:=z_ (h:=t_ (?_)))))))))))))))
        refine aw_cond rfl (fun hb4 => ?_) (fun hb4 => ?_)
        · have hc4 := bp hb4
          refine w_ (m_ (h:=a_ (h:=e_ (aw_ret (x_blockR (x_thenR (x_thenR (x_blockR (x_thenR (?_))))))))))
          refine e_ret ?_
          exact vi (by rw [indexL_at hk hd]; exact (idxBy_first hy (by simpa using hc4) ha).symm)
        · have hc4 := bp hb4
          refine aw_skip (x_blockN (t_ (aw_region (m_ (h:=ad_ (h:=a_ (h:=al_nil (?_))))))))
          refine x_then ?_
          refine ⟨_, _, ?_, ⟨j + 1, by omega, rfl, upto_snoc hy ha (by simpa using hc4), rfl⟩, (wk 2 0)⟩
          omega
      · have hc3 := bp hb3
        have e := row_no nodA hj hc3
        subst e
        refine aw_exit (x_thenE (x_thenE (ABlock_out (t_ (w_ (a_ (h:=e_ (aw_ret (?_)))))))))
        refine e_ret ?_
        exact vi (by rw [indexL_at hk hd]; exact (idxBy_none (fun i y hi hy => ha i y hi hy)).symm)

theorem Rnode (f : Fls) (a : Fil) (hf : FlsB f) : AFn Try.prog 39 [.agg (flsA f), .agg (filA a)] (fun r => r = .tup [.agg (nodA (nodG f a)), .v (.bool (hasG f a))]) := by
  refine enter Try.func39 rfl rfl rfl rfl rfl 0 rfl ?_
  refine w_ (b_ (h:=b_ (h:=al_ (h:=a_ (h:=e_ (w_ (l_ (h:=l_ (h:=?_)))))))))
  refine al_p rfl (q_call (Rindex f a hf) ?_)
  rintro r rfl
  refine a_ (h:=e_ (q_ (w_ (m_ (h:=lt_ (h:=e_ (?_)))))))
  refine aw_cond rfl (fun hb1 => ?_) (fun hb1 => ?_)
  · have hc1 := bp hb1
    have e : nodeL f a = none := by
      rcases index_node f a with h | ⟨k, i, d, n, -, -, -, -, h, -⟩
      · exact h.2
      · exfalso; omega
    refine w_ (bd_ (h:=s_ (h:=a_ (h:=e_ (aw_ret (x_thenR (?_)))))))
    refine rt_ (r := .tup [.agg (nodA (nodG f a)), .v (.bool (hasG f a))]) none (h5 := ?_) (h6 := ⟨rfl, rfl, rfl⟩)
    rw [show nodG f a = Nod.zero by simp [nodG, e], show hasG f a = false by simp [hasG, e]]
    exact (by repeat (first | exact LeA.refl _ | exact LeA.nil _ | exact LeL.refl _ | refine LeA.agg ?_ | refine LeA.tup ?_ | exact LeL.nil | refine LeL.cons ?_ ?_ | exact LeA.any _))
  · have hc1 := bp hb1
    obtain ⟨k, i, d, n, g1, g2, g3, g4, g5, g6⟩ := (index_node f a).resolve_left (fun h => by omega)
    rw [g5]
    have hr1 : (f.map dvcA)[k]? = some (dvcA d) := by rw [List.getElem?_map, g2]; rfl
    have hr2 : (d.nodes.map nodA)[i]? = some (nodA n) := by rw [List.getElem?_map, g3]; rfl
    have hen := hf.ents d (List.mem_of_getElem? g2) n (List.mem_of_getElem? g3)
    refine kt_ (w_ (f_ (h:=l_ (h:=f_ (h:=l_ (h:=?_))))))
    refine al_p rfl (st_index (n := k) rfl rfl g1 hr1 ?_)
    refine f_ (h:=l_ (h:=m_ (h:=?_)))
    refine al_p rfl (st_index (n := i) rfl rfl rfl hr2 ?_)
    refine l_ (h:=al_ (h:=s_ (h:=e_ (w_ (f_ (h:=l_ (h:=?_)))))))
    first | refine al_p rfl (s_append rfl rfl rfl (by simp; omega) (by repeat constructor) ?_) | refine al_p rfl (s_append0 rfl rfl (by simp; omega) (by repeat constructor) ?_)
    refine f_ (h:=s_ (h:=e_ (w_ (l_ (h:=s_ (h:=a_ (h:=e_ (aw_ret (?_)))))))))
    refine e_ret ?_
    rw [show nodG f a = n by simp [nodG, g6], show hasG f a = true by simp [hasG, g6]]
    rfl

end
end Go.Proofs.Ytaidkbnbfnaihaa
namespace Go.Proofs.Ytaidkbnbfnaihaa
open Go.RowKit

theorem find_at {α : Type} {p : α → Bool} {l : List α} {j : Nat} {x : α} (hx : l[j]? = some x) (hp : p x = true) (h : ∀ i y, i < j → l[i]? = some y → p y = false) : l.find? p = some x := by
  have := findIdx?_first hx hp h
  rw [← find?_of_findIdx?, this]
  simpa using hx
theorem find_no {α : Type} {p : α → Bool} {l : List α} (h : ∀ i y, i < l.length → l[i]? = some y → p y = false) : l.find? p = none := by
  rw [List.find?_eq_none]
  intro x hx
  obtain ⟨i, hi, rfl⟩ := List.mem_iff_getElem.1 hx
  simp [h i _ hi (List.getElem?_eq_getElem hi)]
theorem has_some {f : Fls} {a : Fil} (h : hasG f a = true) : nodeL f a = some (nodG f a) := by
  unfold hasG at h
  unfold nodG
  cases hn : nodeL f a with
  | none => rw [hn] at h; cases h
  | some n => rfl
theorem has_none {f : Fls} {a : Fil} (h : hasG f a = false) : nodeL f a = none := by
  unfold hasG at h
  cases hn : nodeL f a with
  | none => rfl
  | some n => rw [hn] at h; cases h
section
set_option maxRecDepth 10000
set_option maxHeartbeats 1000000
theorem Rlook (f : Fls) (a : Fil) (name : Str) (hf : FlsB f) : AFn Try.prog 43 [.agg (flsA f), .agg (filA a), .v (.string name)] (fun r => r = .tup [.agg (filA (lookL f a name).1), .v (.int .i64 (lookL f a name).2)]) := by
  have hen := nodG_ents hf a
  refine enter Try.func43 rfl rfl rfl rfl rfl 0 rfl ?_
  refine w_ (b_ (h:=b_ (h:=al_ (h:=a_ (h:=e_ (w_ (l_ (h:=l_ (h:=?_)))))))))
  refine al_p rfl (q_call (Rnode f a hf) ?_)
  rintro r rfl
  refine m_ (h:=x_ (h:=x_ (h:=al_ (h:=s_ (h:=a_ (h:=e_ (q_ (w_ (m_ (h:=nt_ (h:=e_ (?_))))))))))))
  refine aw_cond rfl (fun hb1 => ?_) (fun hb1 => ?_)
  · have hc1 := bp hb1
    have e := has_none hc1
    refine w_ (bd_ (h:=s_ (h:=a_ (h:=e_ (aw_ret (x_thenR (?_)))))))
    refine e_ret ?_
    rw [show lookL f a name = ((0, 0), 2) by simp [lookL, e]]
    rfl
  · have hc1 := bp hb1
    have e := has_some hc1
    refine kt_ (q_ (w_ (f_ (h:=l_ (h:=nq_ (h:=e_ (?_)))))))
    refine aw_cond rfl (fun hb2 => ?_) (fun hb2 => ?_)
    · have hc2 := bp hb2
      refine w_ (bd_ (h:=s_ (h:=a_ (h:=e_ (aw_ret (x_thenR (?_)))))))
      refine e_ret ?_
      rw [show lookL f a name = ((0, 0), 20) by simp [lookL, e, hc2]]
      rfl
    · have hc2 := bp hb2
      refine kt_ (q_ (w_ (a_ (h:=e_ (aw_block (?_))))))
      refine aw_loopW (fun m s => ∃ j : Nat, j ≤ (nodG f a).entries.length ∧ m = (nodG f a).entries.length - j ∧ (∀ i y, i < j → (nodG f a).entries[i]? = some y → decide (y.1 = name) = false) ∧ s = ⟨look [(2, .v (.string name)), (4, .bp 1 0), (6, .bp 2 0), (8, .bp 3 0), (10, .v (.int .i64 (j : Int)))], ⟨[flsA f, filA a, [.v (.int .i64 0), .v (.int .i64 0)], nodA (nodG f a)], []⟩⟩) ((nodG f a).entries.length) ((wk 4 0)) (⟨0, by omega, rfl, fun i y hi => by omega, rfl⟩) ?_
      rintro m s ⟨j, hj, rfl, ha, rfl⟩
      refine q_ (w_ (m_ (h:=f_ (h:=l_ (h:=n_ (h:=lt_ (h:=e_ (?_))))))))
      refine aw_cond rfl (fun hb3 => ?_) (fun hb3 => ?_)
      · have hc3 := bp hb3
        obtain ⟨hlt, x, hy, hrow, -⟩ := row_at entA hc3
        refine kt_ (q_ (aw_block (w_ (f_ (h:=l_ (h:=m_ (h:=i_ (h:=f_ (h:=l_ (h:=m_ (h:=eq_ (h:=e_ (?_)))))))))))))
        refine aw_cond rfl (fun hb4 => ?_) (fun hb4 => ?_)
        · have hc4 := bp hb4
          refine q_ (yk_ ([(0, flsA f), (1, filA a), (3, nodA (nodG f a))]) 11 (h:=df_ 0 (h:=dl_ 1 (h:=df_ 2 (h:=dl_ 3 (h:=dm_ 4 (h:=di_ 5 (h:=df_ 6 (h:=dl_ 7 (h:=dbd_ 8 (h:=?_)))))))))))
          refine c0_ 9 rfl (s_store rfl rfl rfl rfl rfl rfl (by repeat constructor) (by repeat constructor) ?_)
          refine o_ (h:=da_ 10 (h:=z_ (h:=t_ (aw_ret (x_blockR (x_thenR (x_thenR (x_blockR (x_thenR (?_))))))))))
          refine e_ret ?_
          rw [show lookL f a name = ((a.1, x.2), 0) by simp only [lookL, e]; rw [if_pos (by omega), find_at hy (by simpa using hc4) ha]]
          rfl
        · have hc4 := bp hb4
          refine aw_skip (x_blockN (t_ (aw_region (m_ (h:=ad_ (h:=a_ (h:=al_nil (?_))))))))
          refine x_then ?_
          refine ⟨_, _, ?_, ⟨j + 1, by omega, rfl, upto_snoc hy ha (by simpa using hc4), rfl⟩, (wk 4 0)⟩
          omega
      · have hc3 := bp hb3
        have e3 := row_no entA hj hc3
        subst e3
        refine aw_exit (x_thenE (x_thenE (ABlock_out (t_ (w_ (bd_ (h:=s_ (h:=a_ (h:=e_ (aw_ret (?_)))))))))))
        refine e_ret ?_
        rw [show lookL f a name = ((0, 0), 2) by simp only [lookL, e]; rw [if_pos (by omega), find_no ha]]
        rfl

end
end Go.Proofs.Ytaidkbnbfnaihaa
namespace Go.Proofs.Ytaidkbnbfnaihaa
open Go.RowKit

theorem st_strIdx {P : Program} {ev : Operand → Option AV} {h : AH} {R : AV → AH → Prop} {d : Option Tmp} {ty : TypeId} {pos : String} {af : Array Edge} {gd : Option (Nat × Bool)} {T : TypeId} {x ix : Operand} {s : ByteArray} {n : Nat} {k : IntKind} {i : Int} (hu : P.underlying T = some .string)
    (hx : ev x = some (.v (.string s))) (hi : ev ix = some (.v (.int k i))) (hn : i = (n : Int)) (hlt : n < s.size) (hR : R (.v (.int .u8 (s[n].toNat : Int))) h) : AStep P ⟨d, .index T x ix, ty, pos, af, gd⟩ ev h R := by
  refine st_val (fun _ G w ec _ he => ?_) hR
  have h1 := he x (by simp [Op.operands]) _ hx
  have h2 := he ix (by simp [Op.operands]) _ hi
  simp only [rep] at h1 h2
  subst hn
  refine ⟨.int .u8 (s[n].toNat : Int), ?_, by simp only [rep]⟩
  have e : s[n]? = some s[n] := getElem?_pos s n hlt
  simp [execOp, h1, h2, Instr.index, asIntOf, run_underlying hu, e]
theorem name_eq (s : Str) : nameL s = if s.size < 1 ∨ 12 < s.size then false else if s = ⟨#[46]⟩ then false else if s = ⟨#[46, 46]⟩ then false else s.data.toList.all byteOK := by
  unfold nameL
  have e1 := str_eq s ⟨#[46]⟩
  have e2 := str_eq s ⟨#[46, 46]⟩
  rw [show (⟨#[46]⟩ : ByteArray).toList = [46] by rw [ByteArray.toList_eq]] at e1
  rw [show (⟨#[46, 46]⟩ : ByteArray).toList = [46, 46] by rw [ByteArray.toList_eq]] at e2
  rw [e1, e2]
  simp only [decide_eq_true_eq]
theorem byte_ok {c : UInt8} (h1 : ¬ (c.toNat : Int) = 0) (h2 : ¬ (c.toNat : Int) = 47) : byteOK c = true := by
  unfold byteOK; simp; omega
section
set_option maxRecDepth 10000
set_option maxHeartbeats 1000000
theorem Rname (s : Str) (hs : s.size ≤ 100000) : AFn Try.prog 62 [.v (.string s)] (fun r => r = .v (.bool (nameL s))) := by
  refine enter Try.func62 rfl rfl rfl rfl rfl 0 rfl ?_
  refine w_ (a_ (h:=e_ (q_ (w_ (m_ (h:=n_ (h:=lt_ (h:=m_ (h:=?_)))))))))
  refine al_gs false rfl rfl (fun hb1 => ?_) (fun hb1 => ?_)
  · have hc1 := bp hb1
    refine g0_ (h:=g0_ (h:=g0_ (h:=pt_ (h:=m_ (h:=g0_ (h:=g0_ (h:=pt_ (h:=m_ (h:=g0_ (h:=g0_ (h:=pt_ (h:=e_ (cy_ (h:=w_ (a_ (h:=e_ (aw_ret (x_thenR (?_)))))))))))))))))))
    refine e_ret ?_
    exact vb (by rw [name_eq, if_pos (by omega)])
  · have hc1 := bp hb1
    refine m_ (h:=n_ (h:=gt_ (h:=pf_ (h:=m_ (h:=?_)))))
    refine al_gs false rfl rfl (fun hb2 => ?_) (fun hb2 => ?_)
    · have hc2 := bp hb2
      refine g0_ (h:=g0_ (h:=pt_ (h:=m_ (h:=g0_ (h:=g0_ (h:=pt_ (h:=e_ (cy_ (h:=w_ (a_ (h:=e_ (aw_ret (x_thenR (?_))))))))))))))
      refine e_ret ?_
      exact vb (by rw [name_eq, if_pos (by omega)])
    · have hc2 := bp hb2
      refine m_ (h:=eq_ (h:=pf_ (h:=m_ (h:=?_))))
      refine al_gs false rfl rfl (fun hb3 => ?_) (fun hb3 => ?_)
      · have hc3 := bp hb3
        refine g0_ (h:=g0_ (h:=pt_ (h:=e_ (cy_ (h:=w_ (a_ (h:=e_ (aw_ret (x_thenR (?_))))))))))
        refine e_ret ?_
        exact vb (by rw [name_eq, if_neg (by omega), if_pos hc3])
      · have hc3 := bp hb3
        refine m_ (h:=eq_ (h:=pf_ (h:=e_ (?_))))
        refine aw_cond rfl (fun hb4 => ?_) (fun hb4 => ?_)
        · have hc4 := bp hb4
          refine w_ (a_ (h:=e_ (aw_ret (x_thenR (?_)))))
          refine e_ret ?_
          exact vb (by rw [name_eq, if_neg (by omega), if_neg hc3, if_pos hc4])
        · have hc4 := bp hb4
          refine kt_ (q_ (w_ (a_ (h:=e_ (aw_block (?_))))))
          refine aw_loopW (fun m t => ∃ j : Nat, j ≤ s.size ∧ m = s.size - j ∧ (∀ i (hi : i < s.size), i < j → byteOK s[i] = true) ∧ t = ⟨look [(0, .v (.string s)), (3, .v (.int .i64 (j : Int)))], ⟨[], []⟩⟩) (s.size) ((wk 0 0)) (⟨0, by omega, rfl, fun i _ hi => by omega, rfl⟩) ?_
          rintro m t ⟨j, hj, rfl, ha, rfl⟩
          refine q_ (w_ (m_ (h:=m_ (h:=n_ (h:=lt_ (h:=e_ (?_)))))))
          refine aw_cond rfl (fun hb5 => ?_) (fun hb5 => ?_)
          · have hc5 := bp hb5
            have hlt : j < s.size := by omega
            refine kt_ (q_ (aw_block (w_ (m_ (h:=m_ (h:=?_))))))
            refine al_p rfl (st_strIdx (n := j) Try.underlying9 rfl rfl rfl hlt ?_)
            refine eq_ (h:=m_ (h:=?_))
            refine al_gs false rfl rfl (fun hb6 => ?_) (fun hb6 => ?_)
            · have hc6 := bp hb6
              refine g0_ (h:=g0_ (h:=g0_ (h:=g0_ (h:=pt_ (h:=e_ (cy_ (h:=w_ (a_ (h:=e_ (aw_ret (x_blockR (x_thenR (x_thenR (x_blockR (x_thenR (?_))))))))))))))))
              refine e_ret ?_
              exact vb (by rw [name_eq, if_neg (by omega), if_neg hc3, if_neg hc4, all_not hlt (by unfold byteOK; simp [hc6])])
            · have hc6 := bp hb6
              refine m_ (h:=m_ (h:=?_))
              refine g_y (st_strIdx (n := j) Try.underlying9 rfl rfl rfl hlt ?_)
              refine eq_ (h:=pf_ (h:=e_ (?_)))
              refine aw_cond rfl (fun hb7 => ?_) (fun hb7 => ?_)
              · have hc7 := bp hb7
                refine w_ (a_ (h:=e_ (aw_ret (x_blockR (x_thenR (x_thenR (x_blockR (x_thenR (?_)))))))))
                refine e_ret ?_
                exact vb (by rw [name_eq, if_neg (by omega), if_neg hc3, if_neg hc4, all_not hlt (by unfold byteOK; simp [hc7])])
              · have hc7 := bp hb7
                refine aw_skip (x_blockN (t_ (aw_region (m_ (h:=ad_ (h:=a_ (h:=al_nil (?_))))))))
                refine x_then ?_
                refine ⟨_, _, ?_, ⟨j + 1, by omega, rfl, bytes_snoc hlt ha (byte_ok hc6 hc7), rfl⟩, (wk 0 0)⟩
                omega
          · have hc5 := bp hb5
            obtain rfl : j = s.size := by omega
            refine aw_exit (x_thenE (x_thenE (ABlock_out (t_ (w_ (a_ (h:=e_ (aw_ret (?_)))))))))
            refine e_ret ?_
            exact vb (by rw [name_eq, if_neg (by omega), if_neg hc3, if_neg hc4, all_upto (fun i hi => ha i hi hi)])

end
end Go.Proofs.Ytaidkbnbfnaihaa
namespace Go.Proofs.Ytaidkbnbfnaihaa
open Go.RowKit

theorem fullL_eq (f : Fls) (a : Fil) : fullL f a = decide (12 ≤ (nodG f a).entries.length) := by
  unfold fullL nodG
  cases nodeL f a <;> simp [Nod.zero]
section
set_option maxRecDepth 10000
set_option maxHeartbeats 1000000
theorem Rtarget (s : Str) (hs : s.size ≤ 100000) : AFn Try.prog 63 [.v (.string s)] (fun r => r = .v (.bool (targetL s))) := by
  refine enter Try.func63 rfl rfl rfl rfl rfl 0 rfl ?_
  refine w_ (a_ (h:=e_ (q_ (w_ (a_ (h:=e_ (aw_block (?_))))))))
  refine aw_loopW (fun m t => ∃ j : Nat, j ≤ s.size ∧ m = s.size - j ∧ (∀ i (hi : i < s.size), i < j → (!((s[i].toNat : Int) == 0)) = true) ∧ t = ⟨look [(0, .v (.string s)), (3, .v (.int .i64 (j : Int)))], ⟨[], []⟩⟩) (s.size) ((wk 0 0)) (⟨0, by omega, rfl, fun i _ hi => by omega, rfl⟩) ?_
  rintro m t ⟨j, hj, rfl, ha, rfl⟩
  refine q_ (w_ (m_ (h:=m_ (h:=n_ (h:=lt_ (h:=e_ (?_)))))))
  refine aw_cond rfl (fun hb1 => ?_) (fun hb1 => ?_)
  · have hc1 := bp hb1
    have hlt : j < s.size := by omega
    refine kt_ (q_ (aw_block (w_ (m_ (h:=m_ (h:=?_))))))
    refine al_p rfl (st_strIdx (n := j) Try.underlying9 rfl rfl rfl hlt ?_)
    refine eq_ (h:=e_ (?_))
    refine aw_cond rfl (fun hb2 => ?_) (fun hb2 => ?_)
    · have hc2 := bp hb2
      refine w_ (a_ (h:=e_ (aw_ret (x_blockR (x_thenR (x_thenR (x_blockR (x_thenR (?_)))))))))
      refine e_ret ?_
      exact vb (by unfold targetL; rw [all_not hlt (by simp [hc2])]; simp)
    · have hc2 := bp hb2
      refine aw_skip (x_blockN (t_ (aw_region (m_ (h:=ad_ (h:=a_ (h:=al_nil (?_))))))))
      refine x_then ?_
      refine ⟨_, _, ?_, ⟨j + 1, by omega, rfl, bytes_snoc (p := fun c => !((c.toNat : Int) == 0)) hlt ha (by simpa using hc2), rfl⟩, (wk 0 0)⟩
      omega
  · have hc1 := bp hb1
    obtain rfl : j = s.size := by omega
    have hal := all_upto (p := fun c => !((c.toNat : Int) == 0)) (fun i hi => ha i hi hi)
    refine aw_exit (x_thenE (x_thenE (ABlock_out (t_ (w_ (m_ (h:=n_ (h:=ge_ (h:=m_ (h:=?_))))))))))
    refine al_gs true rfl rfl (fun hb3 => ?_) (fun hb3 => ?_)
    · have hc3 := bp hb3
      refine m_ (h:=n_ (h:=le_ (h:=pt_ (h:=a_ (h:=e_ (aw_ret (?_)))))))
      refine e_ret ?_
      exact vb (by unfold targetL; rw [hal, Bool.eq_iff_iff]; simp; omega)
    · have hc3 := bp hb3
      refine g0_ (h:=g0_ (h:=g0_ (h:=pf_ (h:=a_ (h:=e_ (aw_ret (?_)))))))
      refine e_ret ?_
      exact vb (by unfold targetL; rw [hal, Bool.eq_iff_iff]; simp; omega)

theorem Rplace (f : Fls) (a : Fil) (name : Str) (hf : FlsB f) (hs : name.size ≤ 100000) : AFn Try.prog 41 [.agg (flsA f), .agg (filA a), .v (.string name)] (fun r => r = .v (.int .i64 (placeL f a name))) := by
  refine enter Try.func41 rfl rfl rfl rfl rfl 0 rfl ?_
  refine w_ (b_ (h:=b_ (h:=a_ (h:=e_ (w_ (l_ (h:=l_ (h:=?_))))))))
  refine al_p rfl (q_call (Rnode f a hf) ?_)
  rintro r rfl
  refine m_ (h:=x_ (h:=x_ (h:=al_ (h:=s_ (h:=a_ (h:=e_ (q_ (w_ (m_ (h:=nt_ (h:=e_ (?_))))))))))))
  refine aw_cond rfl (fun hb1 => ?_) (fun hb1 => ?_)
  · have hc1 := bp hb1
    have e := has_none hc1
    refine w_ (a_ (h:=e_ (aw_ret (x_thenR (?_)))))
    refine e_ret ?_
    exact vi (by simp [placeL, e])
  · have hc1 := bp hb1
    have e := has_some hc1
    refine kt_ (q_ (w_ (f_ (h:=l_ (h:=nq_ (h:=e_ (?_)))))))
    refine aw_cond rfl (fun hb2 => ?_) (fun hb2 => ?_)
    · have hc2 := bp hb2
      refine w_ (a_ (h:=e_ (aw_ret (x_thenR (?_)))))
      refine e_ret ?_
      exact vi (by simp [placeL, e, hc2])
    · have hc2 := bp hb2
      refine kt_ (q_ (w_ (m_ (h:=?_))))
      refine al_p rfl (q_call (Rname name hs) ?_)
      rintro r rfl
      refine nt_ (h:=e_ (?_))
      refine aw_cond rfl (fun hb3 => ?_) (fun hb3 => ?_)
      · have hc3 := bp hb3
        refine w_ (a_ (h:=e_ (aw_ret (x_thenR (?_)))))
        refine e_ret ?_
        exact vi (by simp only [placeL, e]; rw [if_pos (by omega), hc3]; rfl)
      · have hc3 := bp hb3
        refine kt_ (w_ (a_ (h:=e_ (aw_ret (?_)))))
        refine e_ret ?_
        exact vi (by simp only [placeL, e]; rw [if_pos (by omega), hc3]; rfl)

theorem Rfull (f : Fls) (a : Fil) (hf : FlsB f) : AFn Try.prog 44 [.agg (flsA f), .agg (filA a)] (fun r => r = .v (.bool (fullL f a))) := by
  refine enter Try.func44 rfl rfl rfl rfl rfl 0 rfl ?_
  refine w_ (b_ (h:=b_ (h:=a_ (h:=e_ (w_ (l_ (h:=l_ (h:=?_))))))))
  refine al_p rfl (q_call (Rnode f a hf) ?_)
  rintro r rfl
  refine m_ (h:=x_ (h:=x_ (h:=al_ (h:=s_ (h:=a_ (h:=e_ (w_ (f_ (h:=l_ (h:=n_ (h:=ge_ (h:=a_ (h:=e_ (aw_ret (?_)))))))))))))))
  refine e_ret ?_
  exact vb (by rw [fullL_eq, Bool.eq_iff_iff]; simp; omega)

theorem Rplain (n : Nod) (hs : n.target.size ≤ 100000) : AFn Try.prog 42 [.agg (nodA n)] (fun r => r = .v (.bool (plainL n))) := by
  have ee : n.target.toList.isEmpty = decide (n.target = ⟨#[]⟩) := by
    rw [← str_eq n.target ⟨#[]⟩, show (⟨#[]⟩ : ByteArray).toList = [] by rw [ByteArray.toList_eq]]
    cases n.target.toList <;> rfl
  refine enter Try.func42 rfl rfl rfl rfl rfl 0 rfl ?_
  refine w_ (b_ (h:=a_ (h:=e_ (q_ (?_)))))
  refine aw_mid (⟨look [(1, .bp 0 0), (40, .v (.bool (decide (n.kind < 1 ∨ 3 < n.kind ∨ n.mode < 0 ∨ 511 < n.mode ∨ n.uid < 0 ∨ 4294967295 < n.uid ∨ n.gid < 0 ∨ 4294967295 < n.gid))))], ⟨[nodA n], []⟩⟩) ?_ ?_
  · skip
    refine aw_region (f_ (h:=l_ (h:=lt_ (h:=m_ (h:=?_)))))
    refine al_gs false rfl rfl (fun hb1 => ?_) (fun hb1 => ?_)
    · have hc1 := bp hb1
      refine g0_ (h:=g0_ (h:=g0_ (h:=pt_ (h:=m_ (h:=g0_ (h:=g0_ (h:=g0_ (h:=pt_ (h:=m_ (h:=g0_ (h:=g0_ (h:=g0_ (h:=pt_ (h:=m_ (h:=g0_ (h:=g0_ (h:=g0_ (h:=pt_ (h:=m_ (h:=g0_ (h:=g0_ (h:=g0_ (h:=pt_ (h:=?_))))))))))))))))))))))))
      refine m_ (h:=g0_ (h:=g0_ (h:=g0_ (h:=pt_ (h:=m_ (h:=g0_ (h:=g0_ (h:=g0_ (h:=pt_ (h:=al_nil (?_)))))))))))
      refine x_then ?_
      first | (exfalso; first | contradiction | omega) | exact weak_of 1 0 rfl rfl rfl rfl (by repeat (first | exact Sub.nil | refine Sub.cons _ _ _ rfl rfl ?_ | refine Sub.any _ _ ?_ | refine Sub.sl _ _ _ _ _ rfl ?_ | refine Sub.slnil _ _ _ rfl ?_ | (apply Sub.of; (focus exact rfl); (focus exact LeA.of_eq (vb (by rw [Bool.eq_iff_iff]; simp; try omega))); (focus exact rfl))))
    · have hc1 := bp hb1
      refine f_ (h:=l_ (h:=gt_ (h:=pf_ (h:=m_ (h:=?_)))))
      refine al_gs false rfl rfl (fun hb2 => ?_) (fun hb2 => ?_)
      · have hc2 := bp hb2
        refine g0_ (h:=g0_ (h:=g0_ (h:=pt_ (h:=m_ (h:=g0_ (h:=g0_ (h:=g0_ (h:=pt_ (h:=m_ (h:=g0_ (h:=g0_ (h:=g0_ (h:=pt_ (h:=m_ (h:=g0_ (h:=g0_ (h:=g0_ (h:=pt_ (h:=m_ (h:=g0_ (h:=g0_ (h:=g0_ (h:=pt_ (h:=?_))))))))))))))))))))))))
        refine m_ (h:=g0_ (h:=g0_ (h:=g0_ (h:=pt_ (h:=al_nil (?_))))))
        refine x_then ?_
        first | (exfalso; first | contradiction | omega) | exact weak_of 1 0 rfl rfl rfl rfl (by repeat (first | exact Sub.nil | refine Sub.cons _ _ _ rfl rfl ?_ | refine Sub.any _ _ ?_ | refine Sub.sl _ _ _ _ _ rfl ?_ | refine Sub.slnil _ _ _ rfl ?_ | (apply Sub.of; (focus exact rfl); (focus exact LeA.of_eq (vb (by rw [Bool.eq_iff_iff]; simp; try omega))); (focus exact rfl))))
      · have hc2 := bp hb2
        refine f_ (h:=l_ (h:=lt_ (h:=pf_ (h:=m_ (h:=?_)))))
        refine al_gs false rfl rfl (fun hb3 => ?_) (fun hb3 => ?_)
        · have hc3 := bp hb3
          refine g0_ (h:=g0_ (h:=g0_ (h:=pt_ (h:=m_ (h:=g0_ (h:=g0_ (h:=g0_ (h:=pt_ (h:=m_ (h:=g0_ (h:=g0_ (h:=g0_ (h:=pt_ (h:=m_ (h:=g0_ (h:=g0_ (h:=g0_ (h:=pt_ (h:=m_ (h:=g0_ (h:=g0_ (h:=g0_ (h:=pt_ (h:=?_))))))))))))))))))))))))
          refine al_nil (?_)
          refine x_then ?_
          first | (exfalso; first | contradiction | omega) | exact weak_of 1 0 rfl rfl rfl rfl (by repeat (first | exact Sub.nil | refine Sub.cons _ _ _ rfl rfl ?_ | refine Sub.any _ _ ?_ | refine Sub.sl _ _ _ _ _ rfl ?_ | refine Sub.slnil _ _ _ rfl ?_ | (apply Sub.of; (focus exact rfl); (focus exact LeA.of_eq (vb (by rw [Bool.eq_iff_iff]; simp; try omega))); (focus exact rfl))))
        · have hc3 := bp hb3
          refine f_ (h:=l_ (h:=gt_ (h:=pf_ (h:=m_ (h:=?_)))))
          refine al_gs false rfl rfl (fun hb4 => ?_) (fun hb4 => ?_)
          · have hc4 := bp hb4
            refine g0_ (h:=g0_ (h:=g0_ (h:=pt_ (h:=m_ (h:=g0_ (h:=g0_ (h:=g0_ (h:=pt_ (h:=m_ (h:=g0_ (h:=g0_ (h:=g0_ (h:=pt_ (h:=m_ (h:=g0_ (h:=g0_ (h:=g0_ (h:=pt_ (h:=al_nil (?_))))))))))))))))))))
            refine x_then ?_
            first | (exfalso; first | contradiction | omega) | exact weak_of 1 0 rfl rfl rfl rfl (by repeat (first | exact Sub.nil | refine Sub.cons _ _ _ rfl rfl ?_ | refine Sub.any _ _ ?_ | refine Sub.sl _ _ _ _ _ rfl ?_ | refine Sub.slnil _ _ _ rfl ?_ | (apply Sub.of; (focus exact rfl); (focus exact LeA.of_eq (vb (by rw [Bool.eq_iff_iff]; simp; try omega))); (focus exact rfl))))
          · have hc4 := bp hb4
            refine f_ (h:=l_ (h:=lt_ (h:=pf_ (h:=m_ (h:=?_)))))
            refine al_gs false rfl rfl (fun hb5 => ?_) (fun hb5 => ?_)
            · have hc5 := bp hb5
              refine g0_ (h:=g0_ (h:=g0_ (h:=pt_ (h:=m_ (h:=g0_ (h:=g0_ (h:=g0_ (h:=pt_ (h:=m_ (h:=g0_ (h:=g0_ (h:=g0_ (h:=pt_ (h:=al_nil (?_)))))))))))))))
              refine x_then ?_
              first | (exfalso; first | contradiction | omega) | exact weak_of 1 0 rfl rfl rfl rfl (by repeat (first | exact Sub.nil | refine Sub.cons _ _ _ rfl rfl ?_ | refine Sub.any _ _ ?_ | refine Sub.sl _ _ _ _ _ rfl ?_ | refine Sub.slnil _ _ _ rfl ?_ | (apply Sub.of; (focus exact rfl); (focus exact LeA.of_eq (vb (by rw [Bool.eq_iff_iff]; simp; try omega))); (focus exact rfl))))
            · have hc5 := bp hb5
              refine f_ (h:=l_ (h:=gt_ (h:=pf_ (h:=m_ (h:=?_)))))
              refine al_gs false rfl rfl (fun hb6 => ?_) (fun hb6 => ?_)
              · have hc6 := bp hb6
                refine g0_ (h:=g0_ (h:=g0_ (h:=pt_ (h:=m_ (h:=g0_ (h:=g0_ (h:=g0_ (h:=pt_ (h:=al_nil (?_))))))))))
                refine x_then ?_
                first | (exfalso; first | contradiction | omega) | exact weak_of 1 0 rfl rfl rfl rfl (by repeat (first | exact Sub.nil | refine Sub.cons _ _ _ rfl rfl ?_ | refine Sub.any _ _ ?_ | refine Sub.sl _ _ _ _ _ rfl ?_ | refine Sub.slnil _ _ _ rfl ?_ | (apply Sub.of; (focus exact rfl); (focus exact LeA.of_eq (vb (by rw [Bool.eq_iff_iff]; simp; try omega))); (focus exact rfl))))
              · have hc6 := bp hb6
                refine f_ (h:=l_ (h:=lt_ (h:=pf_ (h:=m_ (h:=?_)))))
                refine al_gs false rfl rfl (fun hb7 => ?_) (fun hb7 => ?_)
                · have hc7 := bp hb7
                  refine g0_ (h:=g0_ (h:=g0_ (h:=pt_ (h:=al_nil (?_)))))
                  refine x_then ?_
                  first | (exfalso; first | contradiction | omega) | exact weak_of 1 0 rfl rfl rfl rfl (by repeat (first | exact Sub.nil | refine Sub.cons _ _ _ rfl rfl ?_ | refine Sub.any _ _ ?_ | refine Sub.sl _ _ _ _ _ rfl ?_ | refine Sub.slnil _ _ _ rfl ?_ | (apply Sub.of; (focus exact rfl); (focus exact LeA.of_eq (vb (by rw [Bool.eq_iff_iff]; simp; try omega))); (focus exact rfl))))
                · have hc7 := bp hb7
                  refine f_ (h:=l_ (h:=gt_ (h:=pf_ (h:=al_nil (?_)))))
                  refine x_then ?_
                  first | (exfalso; first | contradiction | omega) | exact weak_of 1 0 rfl rfl rfl rfl (by repeat (first | exact Sub.nil | refine Sub.cons _ _ _ rfl rfl ?_ | refine Sub.any _ _ ?_ | refine Sub.sl _ _ _ _ _ rfl ?_ | refine Sub.slnil _ _ _ rfl ?_ | (apply Sub.of; (focus exact rfl); (focus exact LeA.of_eq (vb (by rw [Bool.eq_iff_iff]; simp; try omega))); (focus exact rfl))))
  · skip
    refine aw_cond rfl (fun hb8 => ?_) (fun hb8 => ?_)
    · have hc8 := bp hb8
      refine w_ (a_ (h:=e_ (aw_ret (x_thenR (?_)))))
      refine e_ret ?_
      exact vb (by rw [plainL, if_pos hc8])
    · have hc8 := bp hb8
      refine kt_ (q_ (w_ (f_ (h:=l_ (h:=eq_ (h:=e_ (?_)))))))
      refine aw_cond rfl (fun hb9 => ?_) (fun hb9 => ?_)
      · have hc9 := bp hb9
        refine w_ (f_ (h:=l_ (h:=?_)))
        refine al_p rfl (q_call (Rtarget n.target hs) ?_)
        rintro r rfl
        refine a_ (h:=e_ (aw_ret (x_thenR (?_))))
        refine e_ret ?_
        exact vb (by rw [plainL, if_neg hc8, if_pos hc9])
      · have hc9 := bp hb9
        refine kt_ (w_ (f_ (h:=l_ (h:=eq_ (h:=a_ (h:=e_ (aw_ret (?_))))))))
        refine e_ret ?_
        exact vb (by rw [plainL, if_neg hc8, if_neg hc9, ee])

end
end Go.Proofs.Ytaidkbnbfnaihaa
namespace Go.Proofs.Ytaidkbnbfnaihaa
open Go.RowKit

def mntA (m : Mnt) : List AV := [.v (.int .i64 m.1), .v (.int .i64 m.2.1), .v (.int .i64 m.2.2)]
def spcA (s : Spc) : List AV := [.sl 2 (s.files.map dvcA) none, .sl 3 (s.mounts.map mntA) none]
structure SpcB (s : Spc) : Prop where
  files : FlsB s.files
  few : s.mounts.length ≤ 1000
def onL (s : Spc) (dev : Int) : Option Fil := (s.mounts.find? fun m : Mnt => decide (m.1 = dev)).map (·.2)
def covL (s : Spc) (a : Fil) : Option Int := (s.mounts.find? fun m : Mnt => decide (m.2 = a)).map (·.1)
def mtdL (s : Spc) (dev : Int) : Bool := (onL s dev).isSome || decide (dev = 0)
section
set_option maxRecDepth 10000
set_option maxHeartbeats 1000000
theorem eqFil (op : BinOp) (a b c d : Int) (w : World) : (op = .eql ∨ op = .neq) → (binOp op 33 (.agg #[.int .i64 a, .int .i64 b]) (.agg #[.int .i64 c, .int .i64 d])).run Try.prog w = .ok (.bool (decide ((a, b) = (c, d)) == decide (op = .eql))) w := by
  have u3 := Try.underlying3
  have a3 := Try.isAgg3
  have z3 := Try.sizeOf3
  have hS : Try.prog.underlying 33 = some (.struct (Try.prog.fieldsOf 33)) := by kernel_rfl
  have hp : Try.prog.stoodInHeld 33 = false := by kernel_rfl
  have e : ∀ w, (Op.equalIn 10000 33 (.agg #[.int .i64 a, .int .i64 b]) (.agg #[.int .i64 c, .int .i64 d])).run Try.prog w = .ok (a == c && b == d) w := by
    intro w
    rw [show (10000 : Nat) = 9999 + 1 from rfl, run_equalIn_agg w 9999 33 _ _ hS hp]
    simp only [Program.fieldsOf, Try.underlying33]
    go_simp
    by_cases h1 : a = c <;> by_cases h2 : b = d <;> simp [h1, h2]
  rintro (rfl | rfl)
  · rw [run_eql_struct, e]
    by_cases h1 : a = c <;> by_cases h2 : b = d <;> simp [h1, h2]
  · rw [run_neq_struct, e]
    by_cases h1 : a = c <;> by_cases h2 : b = d <;> simp [h1, h2]
theorem eqlFil (a b c d : Int) (w : World) : (binOp .eql 33 (.agg #[.int .i64 a, .int .i64 b]) (.agg #[.int .i64 c, .int .i64 d])).run Try.prog w = .ok (.bool (decide ((a, b) = (c, d)))) w := by
  rw [eqFil .eql a b c d w (.inl rfl)]
  by_cases h : (a, b) = (c, d) <;> simp [h]
theorem Pplace (s : Spc) (dev : Int) (hs : SpcB s) : AFn Try.prog 77 [.agg (spcA s), .v (.int .i64 dev)] (fun r => r = .tup [.agg (filA ((onL s dev).getD (0, 0))), .v (.bool (onL s dev).isSome)]) := by
  have hfew := hs.few
  refine enter Try.func77 rfl rfl rfl rfl rfl 0 rfl ?_
  refine w_ (b_ (h:=al_ (h:=a_ (h:=e_ (q_ (w_ (f_ (h:=l_ (h:=n_ (h:=m_ (h:=e_ (aw_block (?_)))))))))))))
  refine aw_loopW (fun m t => ∃ j : Nat, j ≤ s.mounts.length ∧ m = s.mounts.length - j ∧ (∀ i y, i < j → s.mounts[i]? = some y → decide (y.1 = dev) = false) ∧ t = ⟨look [(1, .v (.int .i64 dev)), (4, .bp 1 0), (9, .sl 3 (s.mounts.map mntA) none), (10, .v (.int .i64 ((s.mounts.map mntA).length : Int))), (11, .v (.int .i64 (j : Int)))], ⟨[spcA s, [.v (.int .i64 0), .v (.int .i64 0)]], []⟩⟩) (s.mounts.length) ((wk 2 0)) (⟨0, by omega, rfl, fun i y hi => by omega, rfl⟩) ?_
  rintro m t ⟨j, hj, rfl, ha, rfl⟩
  refine w_ (lt_ (h:=e_ (q_ (?_))))
  refine aw_cond rfl (fun hb1 => ?_) (fun hb1 => ?_)
  · have hc1 := bp hb1
    obtain ⟨hlt, x, hy, hrow, -⟩ := row_at mntA hc1
    refine kt_ (q_ (aw_block (w_ (i_ (h:=l_ (h:=al_ (h:=s_ (h:=e_ (w_ (f_ (h:=l_ (h:=m_ (h:=eq_ (h:=e_ (?_)))))))))))))))
    refine aw_cond rfl (fun hb2 => ?_) (fun hb2 => ?_)
    · have hc2 := bp hb2
      refine w_ (f_ (h:=l_ (h:=s_ (h:=a_ (h:=e_ (aw_ret (x_blockR (x_thenR (x_thenR (x_blockR (x_thenR (?_))))))))))))
      refine e_ret ?_
      rw [show onL s dev = some x.2 by simp only [onL]; rw [find_at hy (by simpa using hc2) ha]; rfl]
      rfl
    · have hc2 := bp hb2
      refine aw_skip (x_blockN (t_ (aw_region (ad_ (h:=m_ (h:=al_nil (?_)))))))
      refine x_then ?_
      refine ⟨_, _, ?_, ⟨j + 1, by omega, rfl, upto_snoc hy ha (by simpa using hc2), rfl⟩, (wk 2 0)⟩
      omega
  · have hc1 := bp hb1
    have e3 := row_no mntA hj hc1
    subst e3
    refine aw_exit (x_thenE (x_thenE (ABlock_out (t_ (w_ (bd_ (h:=s_ (h:=a_ (h:=e_ (aw_ret (?_)))))))))))
    refine e_ret ?_
    rw [show onL s dev = none by simp only [onL]; rw [find_no ha]; rfl]
    rfl

theorem Pmounted (s : Spc) (dev : Int) (hs : SpcB s) : AFn Try.prog 82 [.agg (spcA s), .v (.int .i64 dev)] (fun r => r = .v (.bool (mtdL s dev))) := by
  refine enter Try.func82 rfl rfl rfl rfl rfl 0 rfl ?_
  refine w_ (b_ (h:=a_ (h:=e_ (q_ (w_ (m_ (h:=eq_ (h:=e_ (?_)))))))))
  refine aw_cond rfl (fun hb1 => ?_) (fun hb1 => ?_)
  · have hc1 := bp hb1
    refine w_ (a_ (h:=e_ (aw_ret (x_thenR (?_)))))
    refine e_ret ?_
    exact vb (by unfold mtdL; simp [hc1])
  · have hc1 := bp hb1
    refine kt_ (w_ (l_ (h:=m_ (h:=?_))))
    refine al_p rfl (q_call (Pplace s dev hs) ?_)
    rintro r rfl
    refine m_ (h:=x_ (h:=x_ (h:=al_ (h:=s_ (h:=a_ (h:=e_ (w_ (m_ (h:=a_ (h:=e_ (aw_ret (?_))))))))))))
    refine e_ret ?_
    exact vb (by unfold mtdL; simp [hc1])

theorem Pcover (s : Spc) (a : Fil) (hs : SpcB s) : AFn Try.prog 74 [.agg (spcA s), .agg (filA a)] (fun r => r = .tup [.v (.int .i64 ((covL s a).getD 0)), .v (.bool (covL s a).isSome)]) := by
  have hfew := hs.few
  refine enter Try.func74 rfl rfl rfl rfl rfl 0 rfl ?_
  refine w_ (b_ (h:=b_ (h:=a_ (h:=a_ (h:=e_ (q_ (w_ (f_ (h:=l_ (h:=n_ (h:=m_ (h:=e_ (aw_block (?_))))))))))))))
  refine aw_loopW (fun m t => ∃ j : Nat, j ≤ s.mounts.length ∧ m = s.mounts.length - j ∧ (∀ i y, i < j → s.mounts[i]? = some y → decide (y.2 = a) = false) ∧ t = ⟨look [(3, .bp 1 0), (9, .sl 3 (s.mounts.map mntA) none), (10, .v (.int .i64 ((s.mounts.map mntA).length : Int))), (11, .v (.int .i64 (j : Int)))], ⟨[spcA s, filA a], []⟩⟩) (s.mounts.length) ((wk 2 0)) (⟨0, by omega, rfl, fun i y hi => by omega, rfl⟩) ?_
  rintro m t ⟨j, hj, rfl, ha, rfl⟩
  refine w_ (lt_ (h:=e_ (q_ (?_))))
  refine aw_cond rfl (fun hb1 => ?_) (fun hb1 => ?_)
  · have hc1 := bp hb1
    obtain ⟨hlt, x, hy, hrow, -⟩ := row_at mntA hc1
    refine kt_ (q_ (aw_block (w_ (i_ (h:=l_ (h:=al_ (h:=s_ (h:=e_ (w_ (f_ (h:=l_ (h:=l_ (h:=?_)))))))))))))
    refine al_p rfl (st_binA rfl rfl (by repeat constructor) (by repeat constructor) (fun w => eqlFil _ _ _ _ w) (by kernel_rfl) ?_)
    refine e_ (?_)
    refine aw_cond rfl (fun hb2 => ?_) (fun hb2 => ?_)
    · have hc2 := bp hb2
      refine w_ (f_ (h:=l_ (h:=a_ (h:=a_ (h:=e_ (aw_ret (x_blockR (x_thenR (x_thenR (x_blockR (x_thenR (?_))))))))))))
      refine e_ret ?_
      rw [show covL s a = some x.1 by simp only [covL]; rw [find_at hy (decide_eq_true hc2) ha]; rfl]
      rfl
    · have hc2 := bp hb2
      refine aw_skip (x_blockN (t_ (aw_region (ad_ (h:=m_ (h:=al_nil (?_)))))))
      refine x_then ?_
      refine ⟨_, _, ?_, ⟨j + 1, by omega, rfl, upto_snoc hy ha (decide_eq_false hc2), rfl⟩, (wk 2 0)⟩
      omega
  · have hc1 := bp hb1
    have e3 := row_no mntA hj hc1
    subst e3
    refine aw_exit (x_thenE (x_thenE (ABlock_out (t_ (w_ (a_ (h:=a_ (h:=e_ (aw_ret (?_))))))))))
    refine e_ret ?_
    rw [show covL s a = none by simp only [covL]; rw [find_no ha]; rfl]
    rfl

end
end Go.Proofs.Ytaidkbnbfnaihaa
namespace Go.Proofs.Ytaidkbnbfnaihaa
open Go.RowKit

def stepD (s : Spc) (a : Fil) : Fil := match covL s a with
  | some d => (d, 1)
  | none => a
def itD (s : Spc) : Nat → Fil → Fil
  | 0, a => a
  | n + 1, a => itD s n (stepD s a)
theorem stepD_some {s : Spc} {a : Fil} (h : (covL s a).isSome = true) : stepD s a = ((covL s a).getD 0, 1) := by
  unfold stepD
  cases hc : covL s a with
  | none => rw [hc] at h; cases h
  | some d => rfl
theorem stepD_none {s : Spc} {a : Fil} (h : (covL s a).isSome = false) : stepD s a = a := by
  unfold stepD
  cases hc : covL s a with
  | none => rfl
  | some d => rw [hc] at h; cases h
theorem itD_fix {s : Spc} {a : Fil} (h : (covL s a).isSome = false) : ∀ n, itD s n a = a
  | 0 => rfl
  | n + 1 => by rw [itD, stepD_none h, itD_fix h n]
section
set_option maxRecDepth 10000
set_option maxHeartbeats 1000000
theorem Pdown (s : Spc) (a : Fil) (hs : SpcB s) : AFn Try.prog 53 [.agg (spcA s), .agg (filA a)] (fun r => r = .agg (filA (itD s s.mounts.length a))) := by
  have hfew := hs.few
  have hml : (s.mounts.map mntA).length = s.mounts.length := by simp
  refine enter Try.func53 rfl rfl rfl rfl rfl 0 rfl ?_
  refine w_ (b_ (h:=b_ (h:=al_ (h:=e_ (q_ (w_ (f_ (h:=l_ (h:=n_ (h:=m_ (h:=e_ (aw_block (?_)))))))))))))
  refine aw_loopW (fun m t => ∃ (j : Nat) (b : Fil), j ≤ s.mounts.length ∧ m = s.mounts.length - j ∧ itD s (s.mounts.length - j) b = itD s s.mounts.length a ∧ t = ⟨look [(2, .bp 0 0), (3, .bp 1 0), (4, .bp 2 0), (9, .v (.int .i64 ((s.mounts.map mntA).length : Int))), (10, .v (.int .i64 (j : Int)))], ⟨[spcA s, filA b, [.v (.int .i64 0), .v (.int .i64 0)]], []⟩⟩) (s.mounts.length) ((wk 3 0)) (⟨0, a, by omega, rfl, rfl, rfl⟩) ?_
  rintro m t ⟨j, b, hj, rfl, hit, rfl⟩
  refine w_ (lt_ (h:=e_ (q_ (?_))))
  refine aw_cond rfl (fun hb1 => ?_) (fun hb1 => ?_)
  · have hc1 := bp hb1
    obtain ⟨k, hk⟩ : ∃ k, s.mounts.length - j = k + 1 := ⟨s.mounts.length - j - 1, by omega⟩
    rw [hk] at hit
    refine kt_ (q_ (aw_block (w_ (l_ (h:=l_ (h:=?_))))))
    refine al_p rfl (q_call (Pcover s b hs) ?_)
    rintro r rfl
    refine m_ (h:=x_ (h:=x_ (h:=a_ (h:=a_ (h:=e_ (q_ (w_ (m_ (h:=nt_ (h:=e_ (?_)))))))))))
    refine aw_cond rfl (fun hb2 => ?_) (fun hb2 => ?_)
    · have hc2 := bp hb2
      rw [itD_fix hc2] at hit
      refine aw_exit (x_thenE (ABlock_far rfl (x_thenE (x_thenE (ABlock_out (t_ (w_ (l_ (h:=s_ (h:=e_ (aw_ret (?_))))))))))))
      refine e_ret ?_
      rw [← hit]
      rfl
    · have hc2 := bp hb2
      rw [itD, stepD_some hc2] at hit
      refine kt_ (aw_region (m_ (h:=bd_ (h:=s_ (h:=al_nil (x_blockN (t_ (aw_region (ad_ (h:=m_ (h:=al_nil (?_))))))))))))
      refine x_then ?_
      refine ⟨_, _, ?_, ⟨j + 1, ((covL s b).getD 0, 1), by omega, rfl, (by rw [show s.mounts.length - (j + 1) = k by omega]; exact hit), rfl⟩, (wk 3 0)⟩
      omega
  · have hc1 := bp hb1
    have ej : s.mounts.length - j = 0 := by omega
    rw [ej] at hit
    refine aw_exit (x_thenE (x_thenE (ABlock_out (t_ (w_ (l_ (h:=s_ (h:=e_ (aw_ret (?_))))))))))
    refine e_ret ?_
    rw [← hit]
    rfl

end
end Go.Proofs.Ytaidkbnbfnaihaa
namespace Go.Proofs.Ytaidkbnbfnaihaa
open Go.RowKit

theorem nodeL_at {f : Fls} {a : Fil} {k : Nat} {d : Dvc} (hk : a.1 = (k : Int)) (hd : f[k]? = some d) : nodeL f a = d.nodes.find? (fun n : Nod => n.ino == a.2) := by
  unfold nodeL; rw [hk, atI_nat, hd]
def FindR (f : Fls) (a : Fil) (r : AV) : Prop := (nodeL f a = none ∧ r = .v (.pointer none)) ∨ ∃ n, nodeL f a = some n ∧ r = .fp (nodA n)
section
set_option maxRecDepth 10000
set_option maxHeartbeats 1000000
theorem Pfind (f : Fls) (a : Fil) (hf : FlsB f) : AFn Try.prog 75 [.agg (flsA f), .agg (filA a)] (FindR f a) := by
  refine enter Try.func75 rfl rfl rfl rfl rfl 0 rfl ?_
  refine w_ (b_ (h:=b_ (h:=a_ (h:=e_ (q_ (w_ (f_ (h:=l_ (h:=lt_ (h:=m_ (h:=?_)))))))))))
  refine al_gs false rfl rfl (fun hb1 => ?_) (fun hb1 => ?_)
  · have hc1 := bp hb1
    refine g0_ (h:=g0_ (h:=g0_ (h:=g0_ (h:=g0_ (h:=g0_ (h:=pt_ (h:=e_ (cy_ (h:=w_ (a_ (h:=e_ (aw_ret (x_thenR (?_))))))))))))))
    refine e_ret ?_
    exact .inl ⟨by unfold nodeL; rw [atI_none (.inl hc1)], rfl⟩
  · have hc1 := bp hb1
    refine f_ (h:=l_ (h:=f_ (h:=l_ (h:=n_ (h:=ge_ (h:=pf_ (h:=e_ (?_))))))))
    refine aw_cond rfl (fun hb2 => ?_) (fun hb2 => ?_)
    · have hc2 := bp hb2
      refine w_ (a_ (h:=e_ (aw_ret (x_thenR (?_)))))
      refine e_ret ?_
      exact .inl ⟨by unfold nodeL; rw [atI_none (.inr (by rw [List.length_map] at hc2; exact hc2))], rfl⟩
    · have hc2 := bp hb2
      obtain ⟨k, hk⟩ := Int.eq_ofNat_of_zero_le (show 0 ≤ a.1 by omega)
      rw [hk] at hc2
      obtain ⟨-, d, hd, hrow, -⟩ := row_at dvcA (l := f) (k := k) (by omega)
      have hdn := hf.nodes d (List.mem_of_getElem? hd)
      refine kt_ (w_ (f_ (h:=l_ (h:=f_ (h:=l_ (h:=?_))))))
      refine al_p rfl (st_index (n := k) rfl rfl hk hrow ?_)
      refine f_ (h:=l_ (h:=a_ (h:=e_ (q_ (w_ (m_ (h:=n_ (h:=m_ (h:=e_ (aw_block (?_)))))))))))
      refine aw_loopW (fun m s => ∃ j : Nat, j ≤ d.nodes.length ∧ m = d.nodes.length - j ∧ (∀ i y, i < j → d.nodes[i]? = some y → (y.ino == a.2) = false) ∧ s = ⟨look [(3, .bp 1 0), (5, .sl 8 (d.nodes.map nodA) none), (26, .v (.int .i64 ((d.nodes.map nodA).length : Int))), (27, .v (.int .i64 (j : Int)))], ⟨[flsA f, filA a], []⟩⟩) (d.nodes.length) ((wk 2 0)) (⟨0, by omega, rfl, fun i y hi => by omega, rfl⟩) ?_
      rintro m s ⟨j, hj, rfl, ha, rfl⟩
      refine w_ (lt_ (h:=e_ (q_ (?_))))
      refine aw_cond rfl (fun hb3 => ?_) (fun hb3 => ?_)
      · have hc3 := bp hb3
        obtain ⟨hlt, n, hy, hrow2, -⟩ := row_at nodA hc3
        refine kt_ (q_ (aw_block (w_ (m_ (h:=a_ (h:=e_ (q_ (yr_ 8 (h:=dm_ 0 (h:=dm_ 1 (h:=di_ 2 (h:=df_ 3 (h:=dl_ 4 (h:=df_ 5 (h:=dl_ 6 (h:=deq_ 7 (h:=z_ (h:=t_ (?_)))))))))))))))))))
        refine aw_cond rfl (fun hb4 => ?_) (fun hb4 => ?_)
        · have hc4 := bp hb4
          refine w_ (m_ (h:=m_ (h:=i_ (h:=a_ (h:=e_ (aw_ret (x_blockR (x_thenR (x_thenR (x_blockR (x_thenR (?_))))))))))))
          refine e_ret ?_
          exact .inr ⟨n, by rw [nodeL_at hk hd]; exact find_at hy (by simpa using hc4) ha, rfl⟩
        · have hc4 := bp hb4
          refine aw_skip (x_blockN (t_ (aw_region (ad_ (h:=m_ (h:=al_nil (?_)))))))
          refine x_then ?_
          refine ⟨_, _, ?_, ⟨j + 1, by omega, rfl, upto_snoc hy ha (by simpa using hc4), rfl⟩, (wk 2 0)⟩
          omega
      · have hc3 := bp hb3
        have e := row_no nodA hj hc3
        subst e
        refine aw_exit (x_thenE (x_thenE (ABlock_out (t_ (w_ (a_ (h:=e_ (aw_ret (?_)))))))))
        refine e_ret ?_
        exact .inl ⟨by rw [nodeL_at hk hd]; exact find_no (fun i y hi hy => ha i y hi hy), rfl⟩

theorem PcopyEntry (e : Ent) : AFn Try.prog 91 [.agg (entA e)] (fun r => r = .agg (entA e)) := by
  refine enter Try.func91 rfl rfl rfl rfl rfl 0 rfl ?_
  refine w_ (b_ (h:=al_ (h:=e_ (w_ (l_ (h:=s_ (h:=e_ (aw_ret (?_)))))))))
  refine e_ret ?_
  rfl

end
end Go.Proofs.Ytaidkbnbfnaihaa
namespace Go.Proofs.Ytaidkbnbfnaihaa
open Go.RowKit

section
set_option maxRecDepth 10000
set_option maxHeartbeats 1000000
theorem PcopiedE (es : List Ent) (hes : es.length ≤ 1000) : AFn Try.prog 90 [.sl 2 (es.map entA) none, .fn 91 []] (fun r => r = .sl 2 (es.map entA) none) := by
  have hml : (es.map entA).length = es.length := by simp
  refine enter Try.func90 rfl rfl rfl rfl rfl 0 rfl ?_
  refine w_ (a_ (h:=e_ (q_ (w_ (m_ (h:=n_ (h:=eq_ (h:=e_ (?_)))))))))
  refine aw_cond rfl (fun hb1 => ?_) (fun hb1 => ?_)
  · have hc1 := bp hb1
    refine w_ (a_ (h:=e_ (aw_ret (x_thenR (?_)))))
    refine rt_ (r := .sl 2 (es.map entA) none) none (h5 := ?_) (h6 := ⟨rfl, rfl, rfl⟩)
    rw [show es = [] from List.eq_nil_of_length_eq_zero (by omega)]
    exact LeA.nil _
  · have hc1 := bp hb1
    refine kt_ (w_ (m_ (h:=n_ (h:=ms_ (h:=a_ (h:=e_ (q_ (w_ (m_ (h:=n_ (h:=m_ (h:=e_ (aw_block (?_))))))))))))))
    refine aw_loopW (fun m s => ∃ j : Nat, j ≤ es.length ∧ m = es.length - j ∧ s = ⟨look [(1, .fn 91 []), (5, .sl 2 ((es.take j).map entA) (some 0)), (14, .sl 2 (es.map entA) none), (15, .v (.int .i64 ((es.map entA).length : Int))), (16, .v (.int .i64 (j : Int)))], ⟨[], [(108, 2, (es.take j).map entA)]⟩⟩) (es.length) ((wk 0 1)) (⟨0, by omega, rfl, rfl⟩) ?_
    rintro m s ⟨j, hj, rfl, rfl⟩
    refine w_ (lt_ (h:=e_ (q_ (?_))))
    refine aw_cond rfl (fun hb2 => ?_) (fun hb2 => ?_)
    · have hc2 := bp hb2
      obtain ⟨hlt, x, hy, hrow, e⟩ := row_at entA hc2
      refine kt_ (q_ (aw_block (w_ (i_ (h:=l_ (h:=al_ (h:=s_ (h:=e_ (aw_region (m_ (h:=m_ (h:=l_ (h:=?_)))))))))))))
      refine al_p rfl (st_callC (cy := []) (ys := [.agg (entA x)]) rfl (by repeat (first | exact Args.nil | refine Args.cons _ _ _ _ _ rfl (argOk_clean rfl) ?_ | refine Args.cons _ _ _ _ _ rfl (argOk_nil _) ?_ | refine Args.cons _ _ _ _ _ rfl (argOk_era _) ?_ | refine Args.cons _ _ _ _ _ rfl (argOk_le rfl (by repeat (first | exact LeA.refl _ | exact LeA.nil _ | exact LeL.refl _ | refine LeA.agg ?_ | refine LeA.tup ?_ | exact LeL.nil | refine LeL.cons ?_ ?_ | exact LeA.any _))) ?_)) rfl rfl (PcopyEntry x) ?_)
      rintro r rfl
      refine bs_ (h:=?_)
      first | refine al_p rfl (s_append rfl rfl rfl (by simp; omega) (by repeat constructor) ?_) | refine al_p rfl (s_append0 rfl rfl (by simp; omega) (by repeat constructor) ?_)
      refine a_ (h:=al_nil (x_blockN (t_ (aw_region (ad_ (h:=m_ (h:=al_nil (?_))))))))
      refine x_then ?_
      refine ⟨_, _, ?_, ⟨j + 1, by omega, rfl, rfl⟩, (by rw [e]; exact (wk 0 1))⟩
      omega
    · have hc2 := bp hb2
      have e := row_no entA hj hc2
      subst e
      rw [List.take_length]
      refine aw_exit (x_thenE (x_thenE (ABlock_out (t_ (w_ (m_ (h:=a_ (h:=e_ (aw_ret (?_))))))))))
      refine e_ret ?_
      rfl

theorem PcopyNode (n : Nod) (hn : n.entries.length ≤ 1000) : AFn Try.prog 76 [.agg (nodA n)] (fun r => r = .agg (nodA n)) := by
  refine enter Try.func76 rfl rfl rfl rfl rfl 0 rfl ?_
  refine w_ (b_ (h:=al_ (h:=e_ (w_ (f_ (h:=l_ (h:=?_)))))))
  refine al_p rfl (q_call (PcopiedE n.entries hn) ?_)
  rintro r rfl
  refine f_ (h:=s_ (h:=e_ (w_ (l_ (h:=s_ (h:=e_ (aw_ret (?_))))))))
  refine e_ret ?_
  rfl

end
end Go.Proofs.Ytaidkbnbfnaihaa
namespace Go.Proofs.Ytaidkbnbfnaihaa
open Go.RowKit

section
variable {P : Program} {ev : Operand → Option AV} {h : AH} {R : AV → AH → Prop} {d : Option Tmp} {ty : TypeId} {pos : String} {af : Array Edge} {gd : Option (Nat × Bool)}
theorem st_eqPnil {T yT : TypeId} {x y : Operand} (hp : P.underlying T = some (.pointer (P.pointee T))) (hx : ev x = some (.v (.pointer none))) (hy : ev y = some (.v (.pointer none))) (hR : R (.v (.bool true)) h) : AStep P ⟨d, .binOp .eql T x y yT, ty, pos, af, gd⟩ ev h R :=
  st_bin hx hy (fun w => by simp [eqGuard, run_eql_pointer_nil (P := P) (w := w) T none hp]) hR
theorem st_eqPfp {T yT : TypeId} {x y : Operand} {row : List AV} (hp : P.underlying T = some (.pointer (P.pointee T))) (hx : ev x = some (.fp row)) (hy : ev y = some (.v (.pointer none))) (hR : R (.v (.bool false)) h) : AStep P ⟨d, .binOp .eql T x y yT, ty, pos, af, gd⟩ ev h R := by
  refine st_val (fun _ G w ec _ he => ?_) hR
  have h1 := he x (by simp [Op.operands]) _ hx
  have h2 := he y (by simp [Op.operands]) _ hy
  simp only [rep] at h1 h2
  obtain ⟨b, off, h3, _⟩ := h1
  refine ⟨.bool false, ?_, by simp only [rep]⟩
  simp [execOp, h2, h3, eqGuard, run_eql_pointer_nil (P := P) (w := w) T (some ⟨b, off, none⟩) hp]
end
section
set_option maxRecDepth 10000
set_option maxHeartbeats 1000000
theorem Pnode (f : Fls) (a : Fil) (hf : FlsB f) : AFn Try.prog 54 [.agg (flsA f), .agg (filA a)] (fun r => r = .tup [.agg (nodA (nodG f a)), .v (.bool (hasG f a))]) := by
  have hen := nodG_ents hf a
  refine enter Try.func54 rfl rfl rfl rfl rfl 0 rfl ?_
  refine w_ (b_ (h:=b_ (h:=al_ (h:=a_ (h:=e_ (w_ (l_ (h:=l_ (h:=?_)))))))))
  refine al_p rfl (q_call (Pfind f a hf) ?_)
  rintro r (⟨e, rfl⟩ | ⟨n, e, rfl⟩)
  · skip
    refine a_ (h:=e_ (q_ (w_ (m_ (h:=?_)))))
    first | refine al_p rfl (st_eqPnil (by kernel_rfl) rfl rfl ?_) | refine al_p rfl (st_eqPfp (by kernel_rfl) rfl rfl ?_)
    refine e_ (?_)
    refine aw_cond rfl (fun hb1 => ?_) (fun hb1 => ?_)
    · have hc1 := bp hb1
      refine w_ (bd_ (h:=s_ (h:=a_ (h:=e_ (aw_ret (x_thenR (?_)))))))
      refine rt_ (r := .tup [.agg (nodA (nodG f a)), .v (.bool (hasG f a))]) none (h5 := ?_) (h6 := ⟨rfl, rfl, rfl⟩)
      rw [show nodG f a = Nod.zero by simp [nodG, e], show hasG f a = false by simp [hasG, e]]
      exact (by repeat (first | exact LeA.refl _ | exact LeA.nil _ | exact LeL.refl _ | refine LeA.agg ?_ | refine LeA.tup ?_ | exact LeL.nil | refine LeL.cons ?_ ?_ | exact LeA.any _))
    · have hc1 := bp hb1
      exfalso; first | contradiction | omega
  · skip
    refine a_ (h:=e_ (q_ (w_ (m_ (h:=?_)))))
    first | refine al_p rfl (st_eqPnil (by kernel_rfl) rfl rfl ?_) | refine al_p rfl (st_eqPfp (by kernel_rfl) rfl rfl ?_)
    refine e_ (?_)
    refine aw_cond rfl (fun hb2 => ?_) (fun hb2 => ?_)
    · have hc2 := bp hb2
      exfalso; first | contradiction | omega
    · have hc2 := bp hb2
      refine kt_ (w_ (m_ (h:=k_ (h:=l_ (h:=?_)))))
      refine al_p rfl (q_call (PcopyNode n (by simpa [nodG, e] using hen)) ?_)
      rintro r rfl
      refine s_ (h:=a_ (h:=e_ (aw_ret (?_))))
      refine e_ret ?_
      rw [show nodG f a = n by simp [nodG, e], show hasG f a = true by simp [hasG, e]]
      rfl

end
end Go.Proofs.Ytaidkbnbfnaihaa
