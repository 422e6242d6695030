/-
  The types of the seat's program, as lemmas.
  Conditions: none.
-/
import Derived.Test.YtegobadhemlbkaaSXE
import Derived.Test.YtegobadhemlbkaaSXK
import Derived.Test.YtegobadhemlbkaaSXJ
import Derived.Test.YtegobadhemlbkaaProg
namespace Go.Proofs.Ytegobadhemlbkaa
open Go Go.SX
theorem ty0 : tyD Try.prog 0 = some ⟨false, 1, 0, some (.tuple #[]), none, none, []⟩ := rfl
theorem ty1 : tyD Try.prog 1 = some ⟨false, 1, 8, some .nilFunc, none, none, []⟩ := rfl
theorem ty2 : tyD Try.prog 2 = some ⟨false, 1, 8, some (.int .i64 0), none, none, []⟩ := rfl
theorem un2 : Try.prog.underlying 2 = some (.int .i64) := rfl
theorem ty3 : tyD Try.prog 3 = some ⟨false, 1, 8, some (.int .i64 0), none, none, []⟩ := rfl
theorem un3 : Try.prog.underlying 3 = some (.int .i64) := rfl
theorem ty4 : tyD Try.prog 4 = some ⟨false, 1, 1, some (.bool false), none, none, []⟩ := rfl
theorem un4 : Try.prog.underlying 4 = some .bool := rfl
theorem ty5 : tyD Try.prog 5 = some ⟨false, 1, 1, some (.int .u8 0), none, none, []⟩ := rfl
theorem un5 : Try.prog.underlying 5 = some (.int .u8) := rfl
theorem ty6 : tyD Try.prog 6 = some ⟨false, 1, 1, some (.int .u8 0), none, none, []⟩ := rfl
theorem un6 : Try.prog.underlying 6 = some (.int .u8) := rfl
theorem ty7 : tyD Try.prog 7 = some ⟨true, 4, 24, some (.agg #[.int .i64 0, .int .i64 0, .bool false, .int .u8 0]), none, none, [(0, 2), (1, 3), (2, 4), (3, 6)]⟩ := rfl
theorem zr7 : ofAgg (.agg #[.int .i64 0, .int .i64 0, .bool false, .int .u8 0]) = .ag [.sc (.int .i64 0), .sc (.int .i64 0), .sc (.bool false), .sc (.int .u8 0)] := rfl
theorem ty8 : tyD Try.prog 8 = some ⟨true, 4, 24, some (.agg #[.int .i64 0, .int .i64 0, .bool false, .int .u8 0]), none, none, [(0, 2), (1, 3), (2, 4), (3, 6)]⟩ := rfl
theorem zr8 : ofAgg (.agg #[.int .i64 0, .int .i64 0, .bool false, .int .u8 0]) = .ag [.sc (.int .i64 0), .sc (.int .i64 0), .sc (.bool false), .sc (.int .u8 0)] := rfl
theorem ty9 : tyD Try.prog 9 = some ⟨false, 1, 16, some (.string ⟨#[]⟩), none, none, []⟩ := rfl
theorem un9 : Try.prog.underlying 9 = some .string := rfl
theorem ty10 : tyD Try.prog 10 = some ⟨false, 1, 16, some (.string ⟨#[]⟩), none, none, []⟩ := rfl
theorem un10 : Try.prog.underlying 10 = some .string := rfl
theorem ty11 : tyD Try.prog 11 = some ⟨false, 1, 16, some (.string ⟨#[]⟩), none, none, []⟩ := rfl
theorem un11 : Try.prog.underlying 11 = some .string := rfl
theorem ty12 : tyD Try.prog 12 = some ⟨false, 1, 8, some (.int .u64 0), none, none, []⟩ := rfl
theorem un12 : Try.prog.underlying 12 = some (.int .u64) := rfl
theorem ty13 : tyD Try.prog 13 = some ⟨true, 2, 24, some (.agg #[.string ⟨#[]⟩, .int .u64 0]), none, none, [(0, 9), (1, 12)]⟩ := rfl
theorem zr13 : ofAgg (.agg #[.string ⟨#[]⟩, .int .u64 0]) = .ag [.sc (.string ⟨#[]⟩), .sc (.int .u64 0)] := rfl
theorem ty14 : tyD Try.prog 14 = some ⟨true, 2, 24, some (.agg #[.string ⟨#[]⟩, .int .u64 0]), none, none, [(0, 9), (1, 12)]⟩ := rfl
theorem zr14 : ofAgg (.agg #[.string ⟨#[]⟩, .int .u64 0]) = .ag [.sc (.string ⟨#[]⟩), .sc (.int .u64 0)] := rfl
theorem ty15 : tyD Try.prog 15 = some ⟨false, 1, 8, some (.pointer none), none, none, []⟩ := rfl
theorem ty16 : tyD Try.prog 16 = some ⟨false, 1, 8, some (.pointer none), none, none, []⟩ := rfl
theorem ty17 : tyD Try.prog 17 = some ⟨false, 1, 8, some (.pointer none), none, none, []⟩ := rfl
theorem ty18 : tyD Try.prog 18 = some ⟨true, 1, 8, some (.agg #[.pointer none]), none, none, [(0, 17)]⟩ := rfl
theorem zr18 : ofAgg (.agg #[.pointer none]) = .ag [.sc (.pointer none)] := rfl
theorem ty19 : tyD Try.prog 19 = some ⟨true, 1, 8, some (.agg #[.pointer none]), none, none, [(0, 17)]⟩ := rfl
theorem zr19 : ofAgg (.agg #[.pointer none]) = .ag [.sc (.pointer none)] := rfl
theorem ty20 : tyD Try.prog 20 = some ⟨false, 1, 16, some .nilIface, none, none, []⟩ := rfl
theorem ty21 : tyD Try.prog 21 = some ⟨false, 1, 4, some (.int .i32 0), none, none, []⟩ := rfl
theorem un21 : Try.prog.underlying 21 = some (.int .i32) := rfl
theorem ty22 : tyD Try.prog 22 = some ⟨false, 1, 24, some (.slice none 0 0), some 3, none, []⟩ := rfl
theorem ty23 : tyD Try.prog 23 = some ⟨true, 5, 56, some (.agg #[.int .i64 0, .int .i64 0, .int .i64 0, .int .i64 0, .slice none 0 0]), none, none, [(0, 3), (1, 3), (2, 3), (3, 3), (4, 22)]⟩ := rfl
theorem zr23 : ofAgg (.agg #[.int .i64 0, .int .i64 0, .int .i64 0, .int .i64 0, .slice none 0 0]) = .ag [.sc (.int .i64 0), .sc (.int .i64 0), .sc (.int .i64 0), .sc (.int .i64 0), .vw true []] := rfl
theorem ty24 : tyD Try.prog 24 = some ⟨true, 5, 56, some (.agg #[.int .i64 0, .int .i64 0, .int .i64 0, .int .i64 0, .slice none 0 0]), none, none, [(0, 3), (1, 3), (2, 3), (3, 3), (4, 22)]⟩ := rfl
theorem zr24 : ofAgg (.agg #[.int .i64 0, .int .i64 0, .int .i64 0, .int .i64 0, .slice none 0 0]) = .ag [.sc (.int .i64 0), .sc (.int .i64 0), .sc (.int .i64 0), .sc (.int .i64 0), .vw true []] := rfl
theorem ty25 : tyD Try.prog 25 = some ⟨true, 10, 128, some (.agg #[.int .i64 0, .int .i64 0, .bool false, .int .i64 0, .int .i64 0, .slice none 0 0, .slice none 0 0, .slice none 0 0, .int .i64 0, .bool false]), none, none, [(0, 3), (1, 3), (2, 4), (3, 3), (4, 3), (5, 22), (6, 22), (7, 22), (8, 3), (9, 4)]⟩ := rfl
theorem zr25 : ofAgg (.agg #[.int .i64 0, .int .i64 0, .bool false, .int .i64 0, .int .i64 0, .slice none 0 0, .slice none 0 0, .slice none 0 0, .int .i64 0, .bool false]) = .ag [.sc (.int .i64 0), .sc (.int .i64 0), .sc (.bool false), .sc (.int .i64 0), .sc (.int .i64 0), .vw true [], .vw true [], .vw true [], .sc (.int .i64 0), .sc (.bool false)] := rfl
theorem ty26 : tyD Try.prog 26 = some ⟨true, 10, 128, some (.agg #[.int .i64 0, .int .i64 0, .bool false, .int .i64 0, .int .i64 0, .slice none 0 0, .slice none 0 0, .slice none 0 0, .int .i64 0, .bool false]), none, none, [(0, 3), (1, 3), (2, 4), (3, 3), (4, 3), (5, 22), (6, 22), (7, 22), (8, 3), (9, 4)]⟩ := rfl
theorem zr26 : ofAgg (.agg #[.int .i64 0, .int .i64 0, .bool false, .int .i64 0, .int .i64 0, .slice none 0 0, .slice none 0 0, .slice none 0 0, .int .i64 0, .bool false]) = .ag [.sc (.int .i64 0), .sc (.int .i64 0), .sc (.bool false), .sc (.int .i64 0), .sc (.int .i64 0), .vw true [], .vw true [], .vw true [], .sc (.int .i64 0), .sc (.bool false)] := rfl
theorem ty27 : tyD Try.prog 27 = some ⟨true, 2, 16, some (.agg #[.int .i64 0, .int .i64 0]), none, none, [(0, 3), (1, 3)]⟩ := rfl
theorem zr27 : ofAgg (.agg #[.int .i64 0, .int .i64 0]) = .ag [.sc (.int .i64 0), .sc (.int .i64 0)] := rfl
theorem ty28 : tyD Try.prog 28 = some ⟨true, 2, 16, some (.agg #[.int .i64 0, .int .i64 0]), none, none, [(0, 3), (1, 3)]⟩ := rfl
theorem zr28 : ofAgg (.agg #[.int .i64 0, .int .i64 0]) = .ag [.sc (.int .i64 0), .sc (.int .i64 0)] := rfl
theorem ty29 : tyD Try.prog 29 = some ⟨false, 1, 8, some .nilFunc, none, none, []⟩ := rfl
theorem ty30 : tyD Try.prog 30 = some ⟨false, 1, 8, some .nilFunc, none, none, []⟩ := rfl
theorem ty31 : tyD Try.prog 31 = some ⟨false, 1, 24, some (.slice none 0 0), some 45, none, []⟩ := rfl
theorem ty32 : tyD Try.prog 32 = some ⟨false, 1, 8, some (.int .i64 0), none, none, []⟩ := rfl
theorem un32 : Try.prog.underlying 32 = some (.int .i64) := rfl
theorem ty33 : tyD Try.prog 33 = some ⟨false, 1, 0, some (.tuple #[.agg { toList := [.int .i64 0, .int .i64 0, .bool false, .int .i64 0, .int .i64 0, .slice none 0 0, .slice none 0 0, .slice none 0 0, .int .i64 0, .bool false] }, .slice none 0 0, .int .i64 0]), none, none, []⟩ := rfl
theorem ty34 : tyD Try.prog 34 = some ⟨false, 1, 8, some .nilFunc, none, none, []⟩ := rfl
theorem ty35 : tyD Try.prog 35 = some ⟨false, 1, 8, some .nilFunc, none, none, []⟩ := rfl
theorem ty36 : tyD Try.prog 36 = some ⟨false, 1, 8, some .nilFunc, none, none, []⟩ := rfl
theorem ty37 : tyD Try.prog 37 = some ⟨false, 1, 8, some .nilFunc, none, none, []⟩ := rfl
theorem ty38 : tyD Try.prog 38 = some ⟨false, 1, 24, some (.slice none 0 0), some 28, none, []⟩ := rfl
theorem ty39 : tyD Try.prog 39 = some ⟨false, 1, 8, some .nilFunc, none, none, []⟩ := rfl
theorem ty40 : tyD Try.prog 40 = some ⟨false, 1, 8, some .nilFunc, none, none, []⟩ := rfl
theorem ty41 : tyD Try.prog 41 = some ⟨false, 1, 2, some (.int .u16 0), none, none, []⟩ := rfl
theorem un41 : Try.prog.underlying 41 = some (.int .u16) := rfl
theorem ty42 : tyD Try.prog 42 = some ⟨true, 12, 24, some (.agg #[.int .u16 0, .int .u16 0, .int .u16 0, .int .u16 0, .int .u16 0, .int .u16 0, .int .u16 0, .int .u16 0, .int .u16 0, .int .u16 0, .int .u16 0, .int .u16 0]), some 41, some 12, []⟩ := rfl
theorem zr42 : ofAgg (.agg #[.int .u16 0, .int .u16 0, .int .u16 0, .int .u16 0, .int .u16 0, .int .u16 0, .int .u16 0, .int .u16 0, .int .u16 0, .int .u16 0, .int .u16 0, .int .u16 0]) = .ag [.sc (.int .u16 0), .sc (.int .u16 0), .sc (.int .u16 0), .sc (.int .u16 0), .sc (.int .u16 0), .sc (.int .u16 0), .sc (.int .u16 0), .sc (.int .u16 0), .sc (.int .u16 0), .sc (.int .u16 0), .sc (.int .u16 0), .sc (.int .u16 0)] := rfl
theorem ty43 : tyD Try.prog 43 = some ⟨false, 1, 8, some .nilFunc, none, none, []⟩ := rfl
theorem ty44 : tyD Try.prog 44 = some ⟨true, 4, 32, some (.agg #[.int .i64 0, .int .i64 0, .int .i64 0, .int .i64 0]), some 3, some 4, []⟩ := rfl
theorem zr44 : ofAgg (.agg #[.int .i64 0, .int .i64 0, .int .i64 0, .int .i64 0]) = .ag [.sc (.int .i64 0), .sc (.int .i64 0), .sc (.int .i64 0), .sc (.int .i64 0)] := rfl
theorem ty45 : tyD Try.prog 45 = some ⟨true, 2, 16, some (.agg #[.int .i64 0, .int .i64 0]), none, none, [(0, 3), (1, 3)]⟩ := rfl
theorem zr45 : ofAgg (.agg #[.int .i64 0, .int .i64 0]) = .ag [.sc (.int .i64 0), .sc (.int .i64 0)] := rfl
theorem ty46 : tyD Try.prog 46 = some ⟨false, 1, 8, some .nilFunc, none, none, []⟩ := rfl
theorem ty47 : tyD Try.prog 47 = some ⟨false, 1, 8, some .nilFunc, none, none, []⟩ := rfl
theorem ty48 : tyD Try.prog 48 = some ⟨false, 1, 8, some .nilFunc, none, none, []⟩ := rfl
theorem ty49 : tyD Try.prog 49 = some ⟨false, 1, 8, some .nilFunc, none, none, []⟩ := rfl
theorem ty50 : tyD Try.prog 50 = some ⟨false, 1, 8, some .nilFunc, none, none, []⟩ := rfl
theorem ty51 : tyD Try.prog 51 = some ⟨false, 1, 8, some .nilFunc, none, none, []⟩ := rfl
theorem ty52 : tyD Try.prog 52 = some ⟨false, 1, 8, some .nilFunc, none, none, []⟩ := rfl
theorem ty53 : tyD Try.prog 53 = some ⟨false, 1, 0, some (.tuple #[.slice none 0 0, .int .i64 0]), none, none, []⟩ := rfl
theorem ty54 : tyD Try.prog 54 = some ⟨false, 1, 8, some .nilFunc, none, none, []⟩ := rfl
theorem ty55 : tyD Try.prog 55 = some ⟨false, 1, 8, some (.pointer none), none, none, []⟩ := rfl
theorem ty56 : tyD Try.prog 56 = some ⟨false, 1, 8, some .nilFunc, none, none, []⟩ := rfl
theorem ty57 : tyD Try.prog 57 = some ⟨false, 1, 8, some .nilFunc, none, none, []⟩ := rfl
theorem ty58 : tyD Try.prog 58 = some ⟨false, 1, 0, some (.tuple #[.agg { toList := [.int .i64 0, .int .i64 0, .bool false, .int .i64 0, .int .i64 0, .slice none 0 0, .slice none 0 0, .slice none 0 0, .int .i64 0, .bool false] }, .slice none 0 0]), none, none, []⟩ := rfl
theorem ty59 : tyD Try.prog 59 = some ⟨false, 1, 8, some .nilFunc, none, none, []⟩ := rfl
theorem ty60 : tyD Try.prog 60 = some ⟨false, 1, 8, some .nilFunc, none, none, []⟩ := rfl
theorem ty61 : tyD Try.prog 61 = some ⟨false, 1, 8, some .nilFunc, none, none, []⟩ := rfl
theorem ty62 : tyD Try.prog 62 = some ⟨false, 1, 8, some .nilFunc, none, none, []⟩ := rfl
theorem ty63 : tyD Try.prog 63 = some ⟨false, 1, 8, some .nilFunc, none, none, []⟩ := rfl
theorem ty64 : tyD Try.prog 64 = some ⟨false, 1, 8, some .nilFunc, none, none, []⟩ := rfl
theorem ty65 : tyD Try.prog 65 = some ⟨false, 1, 8, some .nilFunc, none, none, []⟩ := rfl
theorem ty66 : tyD Try.prog 66 = some ⟨false, 1, 8, some .nilFunc, none, none, []⟩ := rfl
theorem ty67 : tyD Try.prog 67 = some ⟨false, 1, 8, some .nilFunc, none, none, []⟩ := rfl
theorem ty68 : tyD Try.prog 68 = some ⟨false, 1, 8, some .nilFunc, none, none, []⟩ := rfl
theorem ty69 : tyD Try.prog 69 = some ⟨false, 1, 8, some .nilFunc, none, none, []⟩ := rfl
theorem ty70 : tyD Try.prog 70 = some ⟨false, 1, 8, some .nilFunc, none, none, []⟩ := rfl
theorem ty71 : tyD Try.prog 71 = some ⟨false, 1, 8, some .nilFunc, none, none, []⟩ := rfl
theorem ty72 : tyD Try.prog 72 = some ⟨false, 1, 8, some .nilFunc, none, none, []⟩ := rfl
theorem ty73 : tyD Try.prog 73 = some ⟨false, 1, 8, some .nilFunc, none, none, []⟩ := rfl
theorem ty74 : tyD Try.prog 74 = some ⟨false, 1, 8, some .nilFunc, none, none, []⟩ := rfl
theorem ty75 : tyD Try.prog 75 = some ⟨false, 1, 8, some .nilFunc, none, none, []⟩ := rfl
theorem ty76 : tyD Try.prog 76 = some ⟨false, 1, 8, some .nilFunc, none, none, []⟩ := rfl
theorem ty77 : tyD Try.prog 77 = some ⟨false, 1, 8, some .nilFunc, none, none, []⟩ := rfl
theorem ty78 : tyD Try.prog 78 = some ⟨false, 1, 8, some .nilFunc, none, none, []⟩ := rfl
theorem ty79 : tyD Try.prog 79 = some ⟨false, 1, 8, some (.int .u64 0), none, none, []⟩ := rfl
theorem un79 : Try.prog.underlying 79 = some (.int .u64) := rfl
theorem ty80 : tyD Try.prog 80 = some ⟨false, 1, 8, some .nilFunc, none, none, []⟩ := rfl
theorem ty81 : tyD Try.prog 81 = some ⟨true, 4, 40, some (.agg #[.pointer none, .pointer none, .pointer none, .string ⟨#[]⟩]), none, none, [(0, 17), (1, 17), (2, 17), (3, 9)]⟩ := rfl
theorem zr81 : ofAgg (.agg #[.pointer none, .pointer none, .pointer none, .string ⟨#[]⟩]) = .ag [.sc (.pointer none), .sc (.pointer none), .sc (.pointer none), .sc (.string ⟨#[]⟩)] := rfl
theorem ty82 : tyD Try.prog 82 = some ⟨true, 4, 40, some (.agg #[.pointer none, .pointer none, .pointer none, .string ⟨#[]⟩]), none, none, [(0, 17), (1, 17), (2, 17), (3, 9)]⟩ := rfl
theorem zr82 : ofAgg (.agg #[.pointer none, .pointer none, .pointer none, .string ⟨#[]⟩]) = .ag [.sc (.pointer none), .sc (.pointer none), .sc (.pointer none), .sc (.string ⟨#[]⟩)] := rfl
theorem ty83 : tyD Try.prog 83 = some ⟨true, 0, 0, some (.agg #[]), some 16, some 0, []⟩ := rfl
theorem ty84 : tyD Try.prog 84 = some ⟨true, 0, 0, some (.agg #[]), none, none, [(0, 83)]⟩ := rfl
theorem ty85 : tyD Try.prog 85 = some ⟨true, 0, 0, some (.agg #[]), none, none, [(0, 83)]⟩ := rfl
theorem ty86 : tyD Try.prog 86 = some ⟨false, 1, 8, some .nilFunc, none, none, []⟩ := rfl
theorem ty87 : tyD Try.prog 87 = some ⟨false, 1, 4, some (.int .u32 0), none, none, []⟩ := rfl
theorem un87 : Try.prog.underlying 87 = some (.int .u32) := rfl
theorem ty88 : tyD Try.prog 88 = some ⟨false, 1, 1, some (.int .u8 0), none, none, []⟩ := rfl
theorem un88 : Try.prog.underlying 88 = some (.int .u8) := rfl
theorem ty89 : tyD Try.prog 89 = some ⟨false, 1, 1, some (.int .u8 0), none, none, []⟩ := rfl
theorem un89 : Try.prog.underlying 89 = some (.int .u8) := rfl
theorem ty90 : tyD Try.prog 90 = some ⟨false, 1, 8, some .nilFunc, none, none, []⟩ := rfl
theorem ty91 : tyD Try.prog 91 = some ⟨false, 1, 8, some (.pointer none), none, none, []⟩ := rfl
theorem ty92 : tyD Try.prog 92 = some ⟨false, 1, 4, some (.int .i32 0), none, none, []⟩ := rfl
theorem un92 : Try.prog.underlying 92 = some (.int .i32) := rfl
theorem ty93 : tyD Try.prog 93 = some ⟨false, 1, 4, some (.int .i32 0), none, none, []⟩ := rfl
theorem un93 : Try.prog.underlying 93 = some (.int .i32) := rfl
theorem ty94 : tyD Try.prog 94 = some ⟨true, 11, 48, some (.agg #[.int .u64 0, .int .u64 0, .int .u32 0, .int .u8 0, .int .u8 0, .int .u8 0, .int .u8 0, .nilFunc, .pointer none, .int .i32 0, .int .i32 0]), none, none, [(0, 12), (1, 12), (2, 87), (3, 88), (4, 5), (5, 5), (6, 89), (7, 90), (8, 91), (9, 92), (10, 93)]⟩ := rfl
theorem zr94 : ofAgg (.agg #[.int .u64 0, .int .u64 0, .int .u32 0, .int .u8 0, .int .u8 0, .int .u8 0, .int .u8 0, .nilFunc, .pointer none, .int .i32 0, .int .i32 0]) = .ag [.sc (.int .u64 0), .sc (.int .u64 0), .sc (.int .u32 0), .sc (.int .u8 0), .sc (.int .u8 0), .sc (.int .u8 0), .sc (.int .u8 0), .sc (.nilFunc), .sc (.pointer none), .sc (.int .i32 0), .sc (.int .i32 0)] := rfl
theorem ty95 : tyD Try.prog 95 = some ⟨true, 11, 48, some (.agg #[.int .u64 0, .int .u64 0, .int .u32 0, .int .u8 0, .int .u8 0, .int .u8 0, .int .u8 0, .nilFunc, .pointer none, .int .i32 0, .int .i32 0]), none, none, [(0, 12), (1, 12), (2, 87), (3, 88), (4, 5), (5, 5), (6, 89), (7, 90), (8, 91), (9, 92), (10, 93)]⟩ := rfl
theorem zr95 : ofAgg (.agg #[.int .u64 0, .int .u64 0, .int .u32 0, .int .u8 0, .int .u8 0, .int .u8 0, .int .u8 0, .nilFunc, .pointer none, .int .i32 0, .int .i32 0]) = .ag [.sc (.int .u64 0), .sc (.int .u64 0), .sc (.int .u32 0), .sc (.int .u8 0), .sc (.int .u8 0), .sc (.int .u8 0), .sc (.int .u8 0), .sc (.nilFunc), .sc (.pointer none), .sc (.int .i32 0), .sc (.int .i32 0)] := rfl
theorem ty96 : tyD Try.prog 96 = some ⟨false, 1, 8, some (.pointer none), none, none, []⟩ := rfl
theorem fl7 : flK Try.prog 7 = some [.i .i64, .i .i64, .b, .i .u8] := by kernel_rfl
theorem fl8 : flK Try.prog 8 = some [.i .i64, .i .i64, .b, .i .u8] := by kernel_rfl
theorem fl27 : flK Try.prog 27 = some [.i .i64, .i .i64] := by kernel_rfl
theorem fl28 : flK Try.prog 28 = some [.i .i64, .i .i64] := by kernel_rfl
theorem fl42 : flK Try.prog 42 = some [.i .u16, .i .u16, .i .u16, .i .u16, .i .u16, .i .u16, .i .u16, .i .u16, .i .u16, .i .u16, .i .u16, .i .u16] := by kernel_rfl
theorem fl44 : flK Try.prog 44 = some [.i .i64, .i .i64, .i .i64, .i .i64] := by kernel_rfl
theorem fl45 : flK Try.prog 45 = some [.i .i64, .i .i64] := by kernel_rfl
end Go.Proofs.Ytegobadhemlbkaa
