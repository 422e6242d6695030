/-
  The types of the seat's program, as lemmas.
  Conditions: none.
-/
import Derived.Test.YtdjpkhjaibdogaaGreatSXE
import Derived.Test.YtdjpkhjaibdogaaGreatSXK
import Derived.Test.YtdjpkhjaibdogaaGreatSXJ
import Derived.Test.YtdjpkhjaibdogaaGreatProg
namespace Go.Proofs.YtdjpkhjaibdogaaGreat
open Go Go.SX
theorem ty0 : tyD Tryz.prog 0 = some ⟨false, 1, 0, some (.tuple #[]), none, none, []⟩ := by kernel_rfl
theorem ty1 : tyD Tryz.prog 1 = some ⟨false, 1, 8, some .nilFunc, none, none, []⟩ := by kernel_rfl
theorem ty2 : tyD Tryz.prog 2 = some ⟨false, 1, 8, some (.int .i64 0), none, none, []⟩ := by kernel_rfl
theorem un2 : Tryz.prog.underlying 2 = some (.int .i64) := by kernel_rfl
theorem ty3 : tyD Tryz.prog 3 = some ⟨false, 1, 8, some (.int .i64 0), none, none, []⟩ := by kernel_rfl
theorem un3 : Tryz.prog.underlying 3 = some (.int .i64) := by kernel_rfl
theorem ty4 : tyD Tryz.prog 4 = some ⟨false, 1, 1, some (.bool false), none, none, []⟩ := by kernel_rfl
theorem un4 : Tryz.prog.underlying 4 = some .bool := by kernel_rfl
theorem ty5 : tyD Tryz.prog 5 = some ⟨false, 1, 1, some (.int .u8 0), none, none, []⟩ := by kernel_rfl
theorem un5 : Tryz.prog.underlying 5 = some (.int .u8) := by kernel_rfl
theorem ty6 : tyD Tryz.prog 6 = some ⟨false, 1, 1, some (.int .u8 0), none, none, []⟩ := by kernel_rfl
theorem un6 : Tryz.prog.underlying 6 = some (.int .u8) := by kernel_rfl
theorem ty7 : tyD Tryz.prog 7 = some ⟨true, 4, 24, some (.agg #[.int .i64 0, .int .i64 0, .bool false, .int .u8 0]), none, none, [(0, 2), (1, 3), (2, 4), (3, 6)]⟩ := by kernel_rfl
theorem zr7 : ofAgg (.agg #[.int .i64 0, .int .i64 0, .bool false, .int .u8 0]) = .ag [.sc (.int .i64 0), .sc (.int .i64 0), .sc (.bool false), .sc (.int .u8 0)] := rfl
theorem ty8 : tyD Tryz.prog 8 = some ⟨true, 4, 24, some (.agg #[.int .i64 0, .int .i64 0, .bool false, .int .u8 0]), none, none, [(0, 2), (1, 3), (2, 4), (3, 6)]⟩ := by kernel_rfl
theorem zr8 : ofAgg (.agg #[.int .i64 0, .int .i64 0, .bool false, .int .u8 0]) = .ag [.sc (.int .i64 0), .sc (.int .i64 0), .sc (.bool false), .sc (.int .u8 0)] := rfl
theorem ty9 : tyD Tryz.prog 9 = some ⟨false, 1, 16, some (.string ⟨#[]⟩), none, none, []⟩ := by kernel_rfl
theorem un9 : Tryz.prog.underlying 9 = some .string := by kernel_rfl
theorem ty10 : tyD Tryz.prog 10 = some ⟨false, 1, 16, some (.string ⟨#[]⟩), none, none, []⟩ := by kernel_rfl
theorem un10 : Tryz.prog.underlying 10 = some .string := by kernel_rfl
theorem ty11 : tyD Tryz.prog 11 = some ⟨false, 1, 16, some (.string ⟨#[]⟩), none, none, []⟩ := by kernel_rfl
theorem un11 : Tryz.prog.underlying 11 = some .string := by kernel_rfl
theorem ty12 : tyD Tryz.prog 12 = some ⟨false, 1, 8, some (.int .u64 0), none, none, []⟩ := by kernel_rfl
theorem un12 : Tryz.prog.underlying 12 = some (.int .u64) := by kernel_rfl
theorem ty13 : tyD Tryz.prog 13 = some ⟨true, 2, 24, some (.agg #[.string ⟨#[]⟩, .int .u64 0]), none, none, [(0, 9), (1, 12)]⟩ := by kernel_rfl
theorem zr13 : ofAgg (.agg #[.string ⟨#[]⟩, .int .u64 0]) = .ag [.sc (.string ⟨#[]⟩), .sc (.int .u64 0)] := rfl
theorem ty14 : tyD Tryz.prog 14 = some ⟨true, 2, 24, some (.agg #[.string ⟨#[]⟩, .int .u64 0]), none, none, [(0, 9), (1, 12)]⟩ := by kernel_rfl
theorem zr14 : ofAgg (.agg #[.string ⟨#[]⟩, .int .u64 0]) = .ag [.sc (.string ⟨#[]⟩), .sc (.int .u64 0)] := rfl
theorem ty15 : tyD Tryz.prog 15 = some ⟨false, 1, 8, some (.pointer none), none, none, []⟩ := by kernel_rfl
theorem ty16 : tyD Tryz.prog 16 = some ⟨false, 1, 8, some (.pointer none), none, none, []⟩ := by kernel_rfl
theorem ty17 : tyD Tryz.prog 17 = some ⟨false, 1, 8, some (.pointer none), none, none, []⟩ := by kernel_rfl
theorem ty18 : tyD Tryz.prog 18 = some ⟨true, 1, 8, some (.agg #[.pointer none]), none, none, [(0, 17)]⟩ := by kernel_rfl
theorem zr18 : ofAgg (.agg #[.pointer none]) = .ag [.sc (.pointer none)] := rfl
theorem ty19 : tyD Tryz.prog 19 = some ⟨true, 1, 8, some (.agg #[.pointer none]), none, none, [(0, 17)]⟩ := by kernel_rfl
theorem zr19 : ofAgg (.agg #[.pointer none]) = .ag [.sc (.pointer none)] := rfl
theorem ty20 : tyD Tryz.prog 20 = some ⟨false, 1, 16, some .nilIface, none, none, []⟩ := by kernel_rfl
theorem ty21 : tyD Tryz.prog 21 = some ⟨false, 1, 4, some (.int .i32 0), none, none, []⟩ := by kernel_rfl
theorem un21 : Tryz.prog.underlying 21 = some (.int .i32) := by kernel_rfl
theorem ty22 : tyD Tryz.prog 22 = some ⟨false, 1, 24, some (.slice none 0 0), some 5, none, []⟩ := by kernel_rfl
theorem ty23 : tyD Tryz.prog 23 = some ⟨false, 1, 24, some (.slice none 0 0), some 44, none, []⟩ := by kernel_rfl
theorem ty24 : tyD Tryz.prog 24 = some ⟨false, 1, 24, some (.slice none 0 0), some 46, none, []⟩ := by kernel_rfl
theorem ty25 : tyD Tryz.prog 25 = some ⟨false, 1, 8, some (.int .u64 0), none, none, []⟩ := by kernel_rfl
theorem un25 : Tryz.prog.underlying 25 = some (.int .u64) := by kernel_rfl
theorem ty26 : tyD Tryz.prog 26 = some ⟨true, 4, 32, some (.agg #[.int .i64 0, .int .u64 0, .int .i64 0, .int .i64 0]), none, none, [(0, 3), (1, 25), (2, 3), (3, 3)]⟩ := by kernel_rfl
theorem zr26 : ofAgg (.agg #[.int .i64 0, .int .u64 0, .int .i64 0, .int .i64 0]) = .ag [.sc (.int .i64 0), .sc (.int .u64 0), .sc (.int .i64 0), .sc (.int .i64 0)] := rfl
theorem ty27 : tyD Tryz.prog 27 = some ⟨true, 4, 32, some (.agg #[.int .i64 0, .int .u64 0, .int .i64 0, .int .i64 0]), none, none, [(0, 3), (1, 25), (2, 3), (3, 3)]⟩ := by kernel_rfl
theorem zr27 : ofAgg (.agg #[.int .i64 0, .int .u64 0, .int .i64 0, .int .i64 0]) = .ag [.sc (.int .i64 0), .sc (.int .u64 0), .sc (.int .i64 0), .sc (.int .i64 0)] := rfl
theorem ty28 : tyD Tryz.prog 28 = some ⟨true, 6, 80, some (.agg #[.slice none 0 0, .slice none 0 0, .int .i64 0, .int .u64 0, .int .i64 0, .int .i64 0]), none, none, [(0, 23), (1, 24), (2, 27)]⟩ := by kernel_rfl
theorem zr28 : ofAgg (.agg #[.slice none 0 0, .slice none 0 0, .int .i64 0, .int .u64 0, .int .i64 0, .int .i64 0]) = .ag [.vw true [], .vw true [], .sc (.int .i64 0), .sc (.int .u64 0), .sc (.int .i64 0), .sc (.int .i64 0)] := rfl
theorem ty29 : tyD Tryz.prog 29 = some ⟨true, 6, 80, some (.agg #[.slice none 0 0, .slice none 0 0, .int .i64 0, .int .u64 0, .int .i64 0, .int .i64 0]), none, none, [(0, 23), (1, 24), (2, 27)]⟩ := by kernel_rfl
theorem zr29 : ofAgg (.agg #[.slice none 0 0, .slice none 0 0, .int .i64 0, .int .u64 0, .int .i64 0, .int .i64 0]) = .ag [.vw true [], .vw true [], .sc (.int .i64 0), .sc (.int .u64 0), .sc (.int .i64 0), .sc (.int .i64 0)] := rfl
theorem ty30 : tyD Tryz.prog 30 = some ⟨false, 1, 8, some .nilFunc, none, none, []⟩ := by kernel_rfl
theorem ty31 : tyD Tryz.prog 31 = some ⟨false, 1, 24, some (.slice none 0 0), some 102, none, []⟩ := by kernel_rfl
theorem ty32 : tyD Tryz.prog 32 = some ⟨false, 1, 24, some (.slice none 0 0), some 9, none, []⟩ := by kernel_rfl
theorem ty33 : tyD Tryz.prog 33 = some ⟨false, 1, 24, some (.slice none 0 0), some 99, none, []⟩ := by kernel_rfl
theorem ty34 : tyD Tryz.prog 34 = some ⟨false, 1, 24, some (.slice none 0 0), some 3, none, []⟩ := by kernel_rfl
theorem ty35 : tyD Tryz.prog 35 = some ⟨true, 7, 136, some (.agg #[.slice none 0 0, .slice none 0 0, .slice none 0 0, .slice none 0 0, .slice none 0 0, .int .i64 0, .int .i64 0]), none, none, [(0, 31), (1, 32), (2, 33), (3, 34), (4, 34), (5, 3), (6, 3)]⟩ := by kernel_rfl
theorem zr35 : ofAgg (.agg #[.slice none 0 0, .slice none 0 0, .slice none 0 0, .slice none 0 0, .slice none 0 0, .int .i64 0, .int .i64 0]) = .ag [.vw true [], .vw true [], .vw true [], .vw true [], .vw true [], .sc (.int .i64 0), .sc (.int .i64 0)] := rfl
theorem ty36 : tyD Tryz.prog 36 = some ⟨true, 7, 136, some (.agg #[.slice none 0 0, .slice none 0 0, .slice none 0 0, .slice none 0 0, .slice none 0 0, .int .i64 0, .int .i64 0]), none, none, [(0, 31), (1, 32), (2, 33), (3, 34), (4, 34), (5, 3), (6, 3)]⟩ := by kernel_rfl
theorem zr36 : ofAgg (.agg #[.slice none 0 0, .slice none 0 0, .slice none 0 0, .slice none 0 0, .slice none 0 0, .int .i64 0, .int .i64 0]) = .ag [.vw true [], .vw true [], .vw true [], .vw true [], .vw true [], .sc (.int .i64 0), .sc (.int .i64 0)] := rfl
theorem ty37 : tyD Tryz.prog 37 = some ⟨false, 1, 8, some .nilFunc, none, none, []⟩ := by kernel_rfl
theorem ty38 : tyD Tryz.prog 38 = some ⟨false, 1, 4, some (.int .u32 0), none, none, []⟩ := by kernel_rfl
theorem un38 : Tryz.prog.underlying 38 = some (.int .u32) := by kernel_rfl
theorem ty39 : tyD Tryz.prog 39 = some ⟨false, 1, 24, some (.slice none 0 0), some 82, none, []⟩ := by kernel_rfl
theorem ty40 : tyD Tryz.prog 40 = some ⟨true, 5, 88, some (.agg #[.slice none 0 0, .slice none 0 0, .int .u32 0, .slice none 0 0, .int .i64 0]), none, none, [(0, 34), (1, 34), (2, 38), (3, 39), (4, 3)]⟩ := by kernel_rfl
theorem zr40 : ofAgg (.agg #[.slice none 0 0, .slice none 0 0, .int .u32 0, .slice none 0 0, .int .i64 0]) = .ag [.vw true [], .vw true [], .sc (.int .u32 0), .vw true [], .sc (.int .i64 0)] := rfl
theorem ty41 : tyD Tryz.prog 41 = some ⟨true, 5, 88, some (.agg #[.slice none 0 0, .slice none 0 0, .int .u32 0, .slice none 0 0, .int .i64 0]), none, none, [(0, 34), (1, 34), (2, 38), (3, 39), (4, 3)]⟩ := by kernel_rfl
theorem zr41 : ofAgg (.agg #[.slice none 0 0, .slice none 0 0, .int .u32 0, .slice none 0 0, .int .i64 0]) = .ag [.vw true [], .vw true [], .sc (.int .u32 0), .vw true [], .sc (.int .i64 0)] := rfl
theorem ty42 : tyD Tryz.prog 42 = some ⟨false, 1, 8, some .nilFunc, none, none, []⟩ := by kernel_rfl
theorem ty43 : tyD Tryz.prog 43 = some ⟨true, 2, 16, some (.agg #[.int .i64 0, .bool false]), none, none, [(0, 3), (1, 4)]⟩ := by kernel_rfl
theorem zr43 : ofAgg (.agg #[.int .i64 0, .bool false]) = .ag [.sc (.int .i64 0), .sc (.bool false)] := rfl
theorem ty44 : tyD Tryz.prog 44 = some ⟨true, 2, 16, some (.agg #[.int .i64 0, .bool false]), none, none, [(0, 3), (1, 4)]⟩ := by kernel_rfl
theorem zr44 : ofAgg (.agg #[.int .i64 0, .bool false]) = .ag [.sc (.int .i64 0), .sc (.bool false)] := rfl
theorem ty45 : tyD Tryz.prog 45 = some ⟨true, 3, 24, some (.agg #[.int .i64 0, .int .i64 0, .int .i64 0]), none, none, [(0, 3), (1, 3), (2, 3)]⟩ := by kernel_rfl
theorem zr45 : ofAgg (.agg #[.int .i64 0, .int .i64 0, .int .i64 0]) = .ag [.sc (.int .i64 0), .sc (.int .i64 0), .sc (.int .i64 0)] := rfl
theorem ty46 : tyD Tryz.prog 46 = some ⟨true, 3, 24, some (.agg #[.int .i64 0, .int .i64 0, .int .i64 0]), none, none, [(0, 3), (1, 3), (2, 3)]⟩ := by kernel_rfl
theorem zr46 : ofAgg (.agg #[.int .i64 0, .int .i64 0, .int .i64 0]) = .ag [.sc (.int .i64 0), .sc (.int .i64 0), .sc (.int .i64 0)] := rfl
theorem ty47 : tyD Tryz.prog 47 = some ⟨false, 1, 8, some .nilFunc, none, none, []⟩ := by kernel_rfl
theorem ty48 : tyD Tryz.prog 48 = some ⟨false, 1, 8, some .nilFunc, none, none, []⟩ := by kernel_rfl
theorem ty49 : tyD Tryz.prog 49 = some ⟨false, 1, 8, some .nilFunc, none, none, []⟩ := by kernel_rfl
theorem ty50 : tyD Tryz.prog 50 = some ⟨false, 1, 8, some (.int .i64 0), none, none, []⟩ := by kernel_rfl
theorem un50 : Tryz.prog.underlying 50 = some (.int .i64) := by kernel_rfl
theorem ty51 : tyD Tryz.prog 51 = some ⟨false, 1, 0, some (.tuple #[.agg { toList := [.slice none 0 0, .slice none 0 0, .slice none 0 0, .slice none 0 0, .slice none 0 0, .int .i64 0, .int .i64 0] }, .int .i64 0, .int .i64 0]), none, none, []⟩ := by kernel_rfl
theorem ty52 : tyD Tryz.prog 52 = some ⟨false, 1, 8, some .nilFunc, none, none, []⟩ := by kernel_rfl
theorem ty53 : tyD Tryz.prog 53 = some ⟨false, 1, 24, some (.slice none 0 0), some 113, none, []⟩ := by kernel_rfl
theorem ty54 : tyD Tryz.prog 54 = some ⟨false, 1, 24, some (.slice none 0 0), some 116, none, []⟩ := by kernel_rfl
theorem ty55 : tyD Tryz.prog 55 = some ⟨true, 2, 48, some (.agg #[.slice none 0 0, .slice none 0 0]), none, none, [(0, 53), (1, 54)]⟩ := by kernel_rfl
theorem zr55 : ofAgg (.agg #[.slice none 0 0, .slice none 0 0]) = .ag [.vw true [], .vw true []] := rfl
theorem ty56 : tyD Tryz.prog 56 = some ⟨true, 2, 48, some (.agg #[.slice none 0 0, .slice none 0 0]), none, none, [(0, 53), (1, 54)]⟩ := by kernel_rfl
theorem zr56 : ofAgg (.agg #[.slice none 0 0, .slice none 0 0]) = .ag [.vw true [], .vw true []] := rfl
theorem ty57 : tyD Tryz.prog 57 = some ⟨false, 1, 8, some .nilFunc, none, none, []⟩ := by kernel_rfl
theorem ty58 : tyD Tryz.prog 58 = some ⟨false, 1, 0, some (.tuple #[.agg { toList := [.slice none 0 0, .slice none 0 0, .int .u32 0, .slice none 0 0, .int .i64 0] }, .int .i64 0]), none, none, []⟩ := by kernel_rfl
theorem ty59 : tyD Tryz.prog 59 = some ⟨false, 1, 8, some .nilFunc, none, none, []⟩ := by kernel_rfl
theorem ty60 : tyD Tryz.prog 60 = some ⟨false, 1, 8, some (.int .u64 0), none, none, []⟩ := by kernel_rfl
theorem un60 : Tryz.prog.underlying 60 = some (.int .u64) := by kernel_rfl
theorem ty61 : tyD Tryz.prog 61 = some ⟨false, 1, 24, some (.slice none 0 0), some 73, none, []⟩ := by kernel_rfl
theorem ty62 : tyD Tryz.prog 62 = some ⟨false, 1, 0, some (.tuple #[.agg { toList := [.slice none 0 0, .slice none 0 0, .int .u32 0, .slice none 0 0, .int .i64 0] }, .slice none 0 0, .int .i64 0]), none, none, []⟩ := by kernel_rfl
theorem ty63 : tyD Tryz.prog 63 = some ⟨false, 1, 8, some .nilFunc, none, none, []⟩ := by kernel_rfl
theorem ty64 : tyD Tryz.prog 64 = some ⟨false, 1, 8, some .nilFunc, none, none, []⟩ := by kernel_rfl
theorem ty65 : tyD Tryz.prog 65 = some ⟨false, 1, 8, some .nilFunc, none, none, []⟩ := by kernel_rfl
theorem ty66 : tyD Tryz.prog 66 = some ⟨false, 1, 8, some .nilFunc, none, none, []⟩ := by kernel_rfl
theorem ty67 : tyD Tryz.prog 67 = some ⟨false, 1, 8, some .nilFunc, none, none, []⟩ := by kernel_rfl
theorem ty68 : tyD Tryz.prog 68 = some ⟨false, 1, 24, some (.slice none 0 0), some 78, none, []⟩ := by kernel_rfl
theorem ty69 : tyD Tryz.prog 69 = some ⟨false, 1, 8, some .nilFunc, none, none, []⟩ := by kernel_rfl
theorem ty70 : tyD Tryz.prog 70 = some ⟨false, 1, 8, some .nilFunc, none, none, []⟩ := by kernel_rfl
theorem ty71 : tyD Tryz.prog 71 = some ⟨false, 1, 8, some .nilFunc, none, none, []⟩ := by kernel_rfl
theorem ty72 : tyD Tryz.prog 72 = some ⟨true, 5, 48, some (.agg #[.int .i64 0, .int .i64 0, .int .i64 0, .int .i64 0, .string ⟨#[]⟩]), none, none, [(0, 3), (1, 3), (2, 3), (3, 3), (4, 9)]⟩ := by kernel_rfl
theorem zr72 : ofAgg (.agg #[.int .i64 0, .int .i64 0, .int .i64 0, .int .i64 0, .string ⟨#[]⟩]) = .ag [.sc (.int .i64 0), .sc (.int .i64 0), .sc (.int .i64 0), .sc (.int .i64 0), .sc (.string ⟨#[]⟩)] := rfl
theorem ty73 : tyD Tryz.prog 73 = some ⟨true, 5, 48, some (.agg #[.int .i64 0, .int .i64 0, .int .i64 0, .int .i64 0, .string ⟨#[]⟩]), none, none, [(0, 3), (1, 3), (2, 3), (3, 3), (4, 9)]⟩ := by kernel_rfl
theorem zr73 : ofAgg (.agg #[.int .i64 0, .int .i64 0, .int .i64 0, .int .i64 0, .string ⟨#[]⟩]) = .ag [.sc (.int .i64 0), .sc (.int .i64 0), .sc (.int .i64 0), .sc (.int .i64 0), .sc (.string ⟨#[]⟩)] := rfl
theorem ty74 : tyD Tryz.prog 74 = some ⟨false, 1, 8, some .nilFunc, none, none, []⟩ := by kernel_rfl
theorem ty75 : tyD Tryz.prog 75 = some ⟨false, 1, 8, some .nilFunc, none, none, []⟩ := by kernel_rfl
theorem ty76 : tyD Tryz.prog 76 = some ⟨false, 1, 8, some .nilFunc, none, none, []⟩ := by kernel_rfl
theorem ty77 : tyD Tryz.prog 77 = some ⟨true, 4, 32, some (.agg #[.int .i64 0, .int .i64 0, .int .i64 0, .int .i64 0]), none, none, [(0, 3), (1, 3), (2, 3), (3, 3)]⟩ := by kernel_rfl
theorem zr77 : ofAgg (.agg #[.int .i64 0, .int .i64 0, .int .i64 0, .int .i64 0]) = .ag [.sc (.int .i64 0), .sc (.int .i64 0), .sc (.int .i64 0), .sc (.int .i64 0)] := rfl
theorem ty78 : tyD Tryz.prog 78 = some ⟨true, 4, 32, some (.agg #[.int .i64 0, .int .i64 0, .int .i64 0, .int .i64 0]), none, none, [(0, 3), (1, 3), (2, 3), (3, 3)]⟩ := by kernel_rfl
theorem zr78 : ofAgg (.agg #[.int .i64 0, .int .i64 0, .int .i64 0, .int .i64 0]) = .ag [.sc (.int .i64 0), .sc (.int .i64 0), .sc (.int .i64 0), .sc (.int .i64 0)] := rfl
theorem ty79 : tyD Tryz.prog 79 = some ⟨false, 1, 8, some .nilFunc, none, none, []⟩ := by kernel_rfl
theorem ty80 : tyD Tryz.prog 80 = some ⟨false, 1, 8, some .nilFunc, none, none, []⟩ := by kernel_rfl
theorem ty81 : tyD Tryz.prog 81 = some ⟨true, 6, 48, some (.agg #[.int .i64 0, .int .i64 0, .int .i64 0, .int .i64 0, .int .i64 0, .int .i64 0]), none, none, [(0, 3), (1, 3), (2, 78)]⟩ := by kernel_rfl
theorem zr81 : ofAgg (.agg #[.int .i64 0, .int .i64 0, .int .i64 0, .int .i64 0, .int .i64 0, .int .i64 0]) = .ag [.sc (.int .i64 0), .sc (.int .i64 0), .sc (.int .i64 0), .sc (.int .i64 0), .sc (.int .i64 0), .sc (.int .i64 0)] := rfl
theorem ty82 : tyD Tryz.prog 82 = some ⟨true, 6, 48, some (.agg #[.int .i64 0, .int .i64 0, .int .i64 0, .int .i64 0, .int .i64 0, .int .i64 0]), none, none, [(0, 3), (1, 3), (2, 78)]⟩ := by kernel_rfl
theorem zr82 : ofAgg (.agg #[.int .i64 0, .int .i64 0, .int .i64 0, .int .i64 0, .int .i64 0, .int .i64 0]) = .ag [.sc (.int .i64 0), .sc (.int .i64 0), .sc (.int .i64 0), .sc (.int .i64 0), .sc (.int .i64 0), .sc (.int .i64 0)] := rfl
theorem ty83 : tyD Tryz.prog 83 = some ⟨false, 1, 8, some .nilFunc, none, none, []⟩ := by kernel_rfl
theorem ty84 : tyD Tryz.prog 84 = some ⟨false, 1, 8, some .nilFunc, none, none, []⟩ := by kernel_rfl
theorem ty85 : tyD Tryz.prog 85 = some ⟨false, 1, 8, some .nilFunc, none, none, []⟩ := by kernel_rfl
theorem ty86 : tyD Tryz.prog 86 = some ⟨false, 1, 2, some (.int .u16 0), none, none, []⟩ := by kernel_rfl
theorem un86 : Tryz.prog.underlying 86 = some (.int .u16) := by kernel_rfl
theorem ty87 : tyD Tryz.prog 87 = some ⟨false, 1, 8, some .nilFunc, none, none, []⟩ := by kernel_rfl
theorem ty88 : tyD Tryz.prog 88 = some ⟨false, 1, 0, some (.tuple #[.agg { toList := [.slice none 0 0, .slice none 0 0, .int .u32 0, .slice none 0 0, .int .i64 0] }, .slice none 0 0, .slice none 0 0, .int .i64 0]), none, none, []⟩ := by kernel_rfl
theorem ty89 : tyD Tryz.prog 89 = some ⟨false, 1, 8, some .nilFunc, none, none, []⟩ := by kernel_rfl
theorem ty90 : tyD Tryz.prog 90 = some ⟨false, 1, 8, some .nilFunc, none, none, []⟩ := by kernel_rfl
theorem ty91 : tyD Tryz.prog 91 = some ⟨false, 1, 8, some .nilFunc, none, none, []⟩ := by kernel_rfl
theorem ty92 : tyD Tryz.prog 92 = some ⟨false, 1, 8, some .nilFunc, none, none, []⟩ := by kernel_rfl
theorem ty93 : tyD Tryz.prog 93 = some ⟨false, 1, 8, some .nilFunc, none, none, []⟩ := by kernel_rfl
theorem ty94 : tyD Tryz.prog 94 = some ⟨false, 1, 8, some (.pointer none), none, none, []⟩ := by kernel_rfl
theorem ty95 : tyD Tryz.prog 95 = some ⟨true, 2, 32, some (.agg #[.slice none 0 0, .int .i64 0]), none, none, [(0, 22), (1, 3)]⟩ := by kernel_rfl
theorem zr95 : ofAgg (.agg #[.slice none 0 0, .int .i64 0]) = .ag [.vw true [], .sc (.int .i64 0)] := rfl
theorem ty96 : tyD Tryz.prog 96 = some ⟨true, 2, 32, some (.agg #[.slice none 0 0, .int .i64 0]), none, none, [(0, 22), (1, 3)]⟩ := by kernel_rfl
theorem zr96 : ofAgg (.agg #[.slice none 0 0, .int .i64 0]) = .ag [.vw true [], .sc (.int .i64 0)] := rfl
theorem ty97 : tyD Tryz.prog 97 = some ⟨false, 1, 8, some .nilFunc, none, none, []⟩ := by kernel_rfl
theorem ty98 : tyD Tryz.prog 98 = some ⟨true, 4, 32, some (.agg #[.int .i64 0, .int .i64 0, .int .i64 0, .int .i64 0]), none, none, [(0, 3), (1, 3), (2, 3), (3, 3)]⟩ := by kernel_rfl
theorem zr98 : ofAgg (.agg #[.int .i64 0, .int .i64 0, .int .i64 0, .int .i64 0]) = .ag [.sc (.int .i64 0), .sc (.int .i64 0), .sc (.int .i64 0), .sc (.int .i64 0)] := rfl
theorem ty99 : tyD Tryz.prog 99 = some ⟨true, 4, 32, some (.agg #[.int .i64 0, .int .i64 0, .int .i64 0, .int .i64 0]), none, none, [(0, 3), (1, 3), (2, 3), (3, 3)]⟩ := by kernel_rfl
theorem zr99 : ofAgg (.agg #[.int .i64 0, .int .i64 0, .int .i64 0, .int .i64 0]) = .ag [.sc (.int .i64 0), .sc (.int .i64 0), .sc (.int .i64 0), .sc (.int .i64 0)] := rfl
theorem ty100 : tyD Tryz.prog 100 = some ⟨false, 1, 8, some .nilFunc, none, none, []⟩ := by kernel_rfl
theorem ty101 : tyD Tryz.prog 101 = some ⟨true, 2, 16, some (.agg #[.int .i64 0, .int .i64 0]), none, none, [(0, 3), (1, 3)]⟩ := by kernel_rfl
theorem zr101 : ofAgg (.agg #[.int .i64 0, .int .i64 0]) = .ag [.sc (.int .i64 0), .sc (.int .i64 0)] := rfl
theorem ty102 : tyD Tryz.prog 102 = some ⟨true, 2, 16, some (.agg #[.int .i64 0, .int .i64 0]), none, none, [(0, 3), (1, 3)]⟩ := by kernel_rfl
theorem zr102 : ofAgg (.agg #[.int .i64 0, .int .i64 0]) = .ag [.sc (.int .i64 0), .sc (.int .i64 0)] := rfl
theorem ty103 : tyD Tryz.prog 103 = some ⟨true, 6, 80, some (.agg #[.slice none 0 0, .slice none 0 0, .int .u64 0, .int .u32 0, .int .i64 0, .int .i64 0]), none, none, [(0, 34), (1, 34), (2, 25), (3, 38), (4, 3), (5, 3)]⟩ := by kernel_rfl
theorem zr103 : ofAgg (.agg #[.slice none 0 0, .slice none 0 0, .int .u64 0, .int .u32 0, .int .i64 0, .int .i64 0]) = .ag [.vw true [], .vw true [], .sc (.int .u64 0), .sc (.int .u32 0), .sc (.int .i64 0), .sc (.int .i64 0)] := rfl
theorem ty104 : tyD Tryz.prog 104 = some ⟨true, 6, 80, some (.agg #[.slice none 0 0, .slice none 0 0, .int .u64 0, .int .u32 0, .int .i64 0, .int .i64 0]), none, none, [(0, 34), (1, 34), (2, 25), (3, 38), (4, 3), (5, 3)]⟩ := by kernel_rfl
theorem zr104 : ofAgg (.agg #[.slice none 0 0, .slice none 0 0, .int .u64 0, .int .u32 0, .int .i64 0, .int .i64 0]) = .ag [.vw true [], .vw true [], .sc (.int .u64 0), .sc (.int .u32 0), .sc (.int .i64 0), .sc (.int .i64 0)] := rfl
theorem ty105 : tyD Tryz.prog 105 = some ⟨false, 1, 8, some .nilFunc, none, none, []⟩ := by kernel_rfl
theorem ty106 : tyD Tryz.prog 106 = some ⟨false, 1, 0, some (.tuple #[.int .i64 0, .int .i64 0]), none, none, []⟩ := by kernel_rfl
theorem ty107 : tyD Tryz.prog 107 = some ⟨false, 1, 8, some .nilFunc, none, none, []⟩ := by kernel_rfl
theorem ty108 : tyD Tryz.prog 108 = some ⟨false, 1, 8, some (.pointer none), none, none, []⟩ := by kernel_rfl
theorem ty109 : tyD Tryz.prog 109 = some ⟨true, 4, 96, some (.agg #[.slice none 0 0, .slice none 0 0, .slice none 0 0, .slice none 0 0]), none, none, [(0, 56), (2, 31), (3, 32)]⟩ := by kernel_rfl
theorem zr109 : ofAgg (.agg #[.slice none 0 0, .slice none 0 0, .slice none 0 0, .slice none 0 0]) = .ag [.vw true [], .vw true [], .vw true [], .vw true []] := rfl
theorem ty110 : tyD Tryz.prog 110 = some ⟨true, 4, 96, some (.agg #[.slice none 0 0, .slice none 0 0, .slice none 0 0, .slice none 0 0]), none, none, [(0, 56), (2, 31), (3, 32)]⟩ := by kernel_rfl
theorem zr110 : ofAgg (.agg #[.slice none 0 0, .slice none 0 0, .slice none 0 0, .slice none 0 0]) = .ag [.vw true [], .vw true [], .vw true [], .vw true []] := rfl
theorem ty111 : tyD Tryz.prog 111 = some ⟨false, 1, 8, some .nilFunc, none, none, []⟩ := by kernel_rfl
theorem ty112 : tyD Tryz.prog 112 = some ⟨true, 4, 40, some (.agg #[.int .i64 0, .string ⟨#[]⟩, .int .i64 0, .int .i64 0]), none, none, [(0, 3), (1, 9), (2, 3), (3, 3)]⟩ := by kernel_rfl
theorem zr112 : ofAgg (.agg #[.int .i64 0, .string ⟨#[]⟩, .int .i64 0, .int .i64 0]) = .ag [.sc (.int .i64 0), .sc (.string ⟨#[]⟩), .sc (.int .i64 0), .sc (.int .i64 0)] := rfl
theorem ty113 : tyD Tryz.prog 113 = some ⟨true, 4, 40, some (.agg #[.int .i64 0, .string ⟨#[]⟩, .int .i64 0, .int .i64 0]), none, none, [(0, 3), (1, 9), (2, 3), (3, 3)]⟩ := by kernel_rfl
theorem zr113 : ofAgg (.agg #[.int .i64 0, .string ⟨#[]⟩, .int .i64 0, .int .i64 0]) = .ag [.sc (.int .i64 0), .sc (.string ⟨#[]⟩), .sc (.int .i64 0), .sc (.int .i64 0)] := rfl
theorem ty114 : tyD Tryz.prog 114 = some ⟨false, 1, 24, some (.slice none 0 0), some 120, none, []⟩ := by kernel_rfl
theorem ty115 : tyD Tryz.prog 115 = some ⟨true, 4, 56, some (.agg #[.string ⟨#[]⟩, .int .i64 0, .slice none 0 0, .int .i64 0]), none, none, [(0, 9), (1, 3), (2, 114), (3, 3)]⟩ := by kernel_rfl
theorem zr115 : ofAgg (.agg #[.string ⟨#[]⟩, .int .i64 0, .slice none 0 0, .int .i64 0]) = .ag [.sc (.string ⟨#[]⟩), .sc (.int .i64 0), .vw true [], .sc (.int .i64 0)] := rfl
theorem ty116 : tyD Tryz.prog 116 = some ⟨true, 4, 56, some (.agg #[.string ⟨#[]⟩, .int .i64 0, .slice none 0 0, .int .i64 0]), none, none, [(0, 9), (1, 3), (2, 114), (3, 3)]⟩ := by kernel_rfl
theorem zr116 : ofAgg (.agg #[.string ⟨#[]⟩, .int .i64 0, .slice none 0 0, .int .i64 0]) = .ag [.sc (.string ⟨#[]⟩), .sc (.int .i64 0), .vw true [], .sc (.int .i64 0)] := rfl
theorem ty117 : tyD Tryz.prog 117 = some ⟨false, 1, 8, some .nilFunc, none, none, []⟩ := by kernel_rfl
theorem ty118 : tyD Tryz.prog 118 = some ⟨false, 1, 24, some (.slice none 0 0), some 167, none, []⟩ := by kernel_rfl
theorem ty119 : tyD Tryz.prog 119 = some ⟨true, 4, 56, some (.agg #[.int .i64 0, .string ⟨#[]⟩, .slice none 0 0, .int .i64 0]), none, none, [(0, 3), (1, 9), (2, 118), (3, 3)]⟩ := by kernel_rfl
theorem zr119 : ofAgg (.agg #[.int .i64 0, .string ⟨#[]⟩, .slice none 0 0, .int .i64 0]) = .ag [.sc (.int .i64 0), .sc (.string ⟨#[]⟩), .vw true [], .sc (.int .i64 0)] := rfl
theorem ty120 : tyD Tryz.prog 120 = some ⟨true, 4, 56, some (.agg #[.int .i64 0, .string ⟨#[]⟩, .slice none 0 0, .int .i64 0]), none, none, [(0, 3), (1, 9), (2, 118), (3, 3)]⟩ := by kernel_rfl
theorem zr120 : ofAgg (.agg #[.int .i64 0, .string ⟨#[]⟩, .slice none 0 0, .int .i64 0]) = .ag [.sc (.int .i64 0), .sc (.string ⟨#[]⟩), .vw true [], .sc (.int .i64 0)] := rfl
theorem ty121 : tyD Tryz.prog 121 = some ⟨false, 1, 8, some .nilFunc, none, none, []⟩ := by kernel_rfl
theorem ty122 : tyD Tryz.prog 122 = some ⟨false, 1, 8, some .nilFunc, none, none, []⟩ := by kernel_rfl
theorem ty123 : tyD Tryz.prog 123 = some ⟨false, 1, 8, some (.pointer none), none, none, []⟩ := by kernel_rfl
theorem ty124 : tyD Tryz.prog 124 = some ⟨false, 1, 8, some .nilFunc, none, none, []⟩ := by kernel_rfl
theorem ty125 : tyD Tryz.prog 125 = some ⟨true, 3, 40, some (.agg #[.slice none 0 0, .int .i64 0, .int .i64 0]), none, none, [(0, 22), (1, 3), (2, 3)]⟩ := by kernel_rfl
theorem zr125 : ofAgg (.agg #[.slice none 0 0, .int .i64 0, .int .i64 0]) = .ag [.vw true [], .sc (.int .i64 0), .sc (.int .i64 0)] := rfl
theorem ty126 : tyD Tryz.prog 126 = some ⟨true, 3, 40, some (.agg #[.slice none 0 0, .int .i64 0, .int .i64 0]), none, none, [(0, 22), (1, 3), (2, 3)]⟩ := by kernel_rfl
theorem zr126 : ofAgg (.agg #[.slice none 0 0, .int .i64 0, .int .i64 0]) = .ag [.vw true [], .sc (.int .i64 0), .sc (.int .i64 0)] := rfl
theorem ty127 : tyD Tryz.prog 127 = some ⟨false, 1, 0, some (.tuple #[.agg { toList := [.slice none 0 0, .slice none 0 0] }, .int .i64 0, .int .i64 0]), none, none, []⟩ := by kernel_rfl
theorem ty128 : tyD Tryz.prog 128 = some ⟨false, 1, 8, some .nilFunc, none, none, []⟩ := by kernel_rfl
theorem ty129 : tyD Tryz.prog 129 = some ⟨false, 1, 8, some .nilFunc, none, none, []⟩ := by kernel_rfl
theorem ty130 : tyD Tryz.prog 130 = some ⟨false, 1, 8, some .nilFunc, none, none, []⟩ := by kernel_rfl
theorem ty131 : tyD Tryz.prog 131 = some ⟨false, 1, 8, some .nilFunc, none, none, []⟩ := by kernel_rfl
theorem ty132 : tyD Tryz.prog 132 = some ⟨false, 1, 8, some (.pointer none), none, none, []⟩ := by kernel_rfl
theorem ty133 : tyD Tryz.prog 133 = some ⟨false, 1, 0, some (.tuple #[.pointer none, .int .i64 0]), none, none, []⟩ := by kernel_rfl
theorem ty134 : tyD Tryz.prog 134 = some ⟨false, 1, 8, some .nilFunc, none, none, []⟩ := by kernel_rfl
theorem ty135 : tyD Tryz.prog 135 = some ⟨false, 1, 8, some .nilFunc, none, none, []⟩ := by kernel_rfl
theorem ty136 : tyD Tryz.prog 136 = some ⟨false, 1, 8, some .nilFunc, none, none, []⟩ := by kernel_rfl
theorem ty137 : tyD Tryz.prog 137 = some ⟨true, 18, 304, some (.agg #[.slice none 0 0, .slice none 0 0, .slice none 0 0, .slice none 0 0, .slice none 0 0, .int .i64 0, .int .i64 0, .slice none 0 0, .slice none 0 0, .int .u32 0, .slice none 0 0, .int .i64 0, .int .i64 0, .int .u64 0, .int .i64 0, .int .i64 0, .slice none 0 0, .slice none 0 0]), none, none, [(0, 36), (7, 41), (12, 27), (16, 61), (17, 24)]⟩ := by kernel_rfl
theorem zr137 : ofAgg (.agg #[.slice none 0 0, .slice none 0 0, .slice none 0 0, .slice none 0 0, .slice none 0 0, .int .i64 0, .int .i64 0, .slice none 0 0, .slice none 0 0, .int .u32 0, .slice none 0 0, .int .i64 0, .int .i64 0, .int .u64 0, .int .i64 0, .int .i64 0, .slice none 0 0, .slice none 0 0]) = .ag [.vw true [], .vw true [], .vw true [], .vw true [], .vw true [], .sc (.int .i64 0), .sc (.int .i64 0), .vw true [], .vw true [], .sc (.int .u32 0), .vw true [], .sc (.int .i64 0), .sc (.int .i64 0), .sc (.int .u64 0), .sc (.int .i64 0), .sc (.int .i64 0), .vw true [], .vw true []] := rfl
theorem ty138 : tyD Tryz.prog 138 = some ⟨true, 18, 304, some (.agg #[.slice none 0 0, .slice none 0 0, .slice none 0 0, .slice none 0 0, .slice none 0 0, .int .i64 0, .int .i64 0, .slice none 0 0, .slice none 0 0, .int .u32 0, .slice none 0 0, .int .i64 0, .int .i64 0, .int .u64 0, .int .i64 0, .int .i64 0, .slice none 0 0, .slice none 0 0]), none, none, [(0, 36), (7, 41), (12, 27), (16, 61), (17, 24)]⟩ := by kernel_rfl
theorem zr138 : ofAgg (.agg #[.slice none 0 0, .slice none 0 0, .slice none 0 0, .slice none 0 0, .slice none 0 0, .int .i64 0, .int .i64 0, .slice none 0 0, .slice none 0 0, .int .u32 0, .slice none 0 0, .int .i64 0, .int .i64 0, .int .u64 0, .int .i64 0, .int .i64 0, .slice none 0 0, .slice none 0 0]) = .ag [.vw true [], .vw true [], .vw true [], .vw true [], .vw true [], .sc (.int .i64 0), .sc (.int .i64 0), .vw true [], .vw true [], .sc (.int .u32 0), .vw true [], .sc (.int .i64 0), .sc (.int .i64 0), .sc (.int .u64 0), .sc (.int .i64 0), .sc (.int .i64 0), .vw true [], .vw true []] := rfl
theorem ty139 : tyD Tryz.prog 139 = some ⟨false, 1, 8, some .nilFunc, none, none, []⟩ := by kernel_rfl
theorem ty140 : tyD Tryz.prog 140 = some ⟨false, 1, 8, some .nilFunc, none, none, []⟩ := by kernel_rfl
theorem ty141 : tyD Tryz.prog 141 = some ⟨false, 1, 8, some (.pointer none), none, none, []⟩ := by kernel_rfl
theorem ty142 : tyD Tryz.prog 142 = some ⟨true, 18, 304, some (.agg #[.slice none 0 0, .slice none 0 0, .slice none 0 0, .slice none 0 0, .slice none 0 0, .int .i64 0, .int .i64 0, .slice none 0 0, .slice none 0 0, .int .u32 0, .slice none 0 0, .int .i64 0, .int .i64 0, .int .u64 0, .int .i64 0, .int .i64 0, .slice none 0 0, .slice none 0 0]), none, none, [(0, 36), (7, 41), (12, 27), (16, 61), (17, 24)]⟩ := by kernel_rfl
theorem zr142 : ofAgg (.agg #[.slice none 0 0, .slice none 0 0, .slice none 0 0, .slice none 0 0, .slice none 0 0, .int .i64 0, .int .i64 0, .slice none 0 0, .slice none 0 0, .int .u32 0, .slice none 0 0, .int .i64 0, .int .i64 0, .int .u64 0, .int .i64 0, .int .i64 0, .slice none 0 0, .slice none 0 0]) = .ag [.vw true [], .vw true [], .vw true [], .vw true [], .vw true [], .sc (.int .i64 0), .sc (.int .i64 0), .vw true [], .vw true [], .sc (.int .u32 0), .vw true [], .sc (.int .i64 0), .sc (.int .i64 0), .sc (.int .u64 0), .sc (.int .i64 0), .sc (.int .i64 0), .vw true [], .vw true []] := rfl
theorem ty143 : tyD Tryz.prog 143 = some ⟨true, 18, 304, some (.agg #[.slice none 0 0, .slice none 0 0, .slice none 0 0, .slice none 0 0, .slice none 0 0, .int .i64 0, .int .i64 0, .slice none 0 0, .slice none 0 0, .int .u32 0, .slice none 0 0, .int .i64 0, .int .i64 0, .int .u64 0, .int .i64 0, .int .i64 0, .slice none 0 0, .slice none 0 0]), none, none, [(0, 36), (7, 41), (12, 27), (16, 61), (17, 24)]⟩ := by kernel_rfl
theorem zr143 : ofAgg (.agg #[.slice none 0 0, .slice none 0 0, .slice none 0 0, .slice none 0 0, .slice none 0 0, .int .i64 0, .int .i64 0, .slice none 0 0, .slice none 0 0, .int .u32 0, .slice none 0 0, .int .i64 0, .int .i64 0, .int .u64 0, .int .i64 0, .int .i64 0, .slice none 0 0, .slice none 0 0]) = .ag [.vw true [], .vw true [], .vw true [], .vw true [], .vw true [], .sc (.int .i64 0), .sc (.int .i64 0), .vw true [], .vw true [], .sc (.int .u32 0), .vw true [], .sc (.int .i64 0), .sc (.int .i64 0), .sc (.int .u64 0), .sc (.int .i64 0), .sc (.int .i64 0), .vw true [], .vw true []] := rfl
theorem ty144 : tyD Tryz.prog 144 = some ⟨false, 1, 8, some .nilFunc, none, none, []⟩ := by kernel_rfl
theorem ty145 : tyD Tryz.prog 145 = some ⟨false, 1, 8, some .nilFunc, none, none, []⟩ := by kernel_rfl
theorem ty146 : tyD Tryz.prog 146 = some ⟨false, 1, 8, some .nilFunc, none, none, []⟩ := by kernel_rfl
theorem ty147 : tyD Tryz.prog 147 = some ⟨false, 1, 8, some .nilFunc, none, none, []⟩ := by kernel_rfl
theorem ty148 : tyD Tryz.prog 148 = some ⟨false, 1, 8, some .nilFunc, none, none, []⟩ := by kernel_rfl
theorem ty149 : tyD Tryz.prog 149 = some ⟨false, 1, 8, some .nilFunc, none, none, []⟩ := by kernel_rfl
theorem ty150 : tyD Tryz.prog 150 = some ⟨false, 1, 8, some .nilFunc, none, none, []⟩ := by kernel_rfl
theorem ty151 : tyD Tryz.prog 151 = some ⟨false, 1, 8, some .nilFunc, none, none, []⟩ := by kernel_rfl
theorem ty152 : tyD Tryz.prog 152 = some ⟨false, 1, 8, some .nilFunc, none, none, []⟩ := by kernel_rfl
theorem ty153 : tyD Tryz.prog 153 = some ⟨false, 1, 8, some .nilFunc, none, none, []⟩ := by kernel_rfl
theorem ty154 : tyD Tryz.prog 154 = some ⟨false, 1, 8, some .nilFunc, none, none, []⟩ := by kernel_rfl
theorem ty155 : tyD Tryz.prog 155 = some ⟨false, 1, 8, some .nilFunc, none, none, []⟩ := by kernel_rfl
theorem ty156 : tyD Tryz.prog 156 = some ⟨false, 1, 8, some .nilFunc, none, none, []⟩ := by kernel_rfl
theorem ty157 : tyD Tryz.prog 157 = some ⟨false, 1, 8, some .nilFunc, none, none, []⟩ := by kernel_rfl
theorem ty158 : tyD Tryz.prog 158 = some ⟨false, 1, 8, some .nilFunc, none, none, []⟩ := by kernel_rfl
theorem ty159 : tyD Tryz.prog 159 = some ⟨false, 1, 8, some .nilFunc, none, none, []⟩ := by kernel_rfl
theorem ty160 : tyD Tryz.prog 160 = some ⟨false, 1, 8, some .nilFunc, none, none, []⟩ := by kernel_rfl
theorem ty161 : tyD Tryz.prog 161 = some ⟨false, 1, 8, some .nilFunc, none, none, []⟩ := by kernel_rfl
theorem ty162 : tyD Tryz.prog 162 = some ⟨false, 1, 8, some .nilFunc, none, none, []⟩ := by kernel_rfl
theorem ty163 : tyD Tryz.prog 163 = some ⟨false, 1, 8, some .nilFunc, none, none, []⟩ := by kernel_rfl
theorem ty164 : tyD Tryz.prog 164 = some ⟨false, 1, 8, some .nilFunc, none, none, []⟩ := by kernel_rfl
theorem ty165 : tyD Tryz.prog 165 = some ⟨false, 1, 24, some (.slice none 0 0), some 198, none, []⟩ := by kernel_rfl
theorem ty166 : tyD Tryz.prog 166 = some ⟨true, 7, 120, some (.agg #[.int .i64 0, .string ⟨#[]⟩, .string ⟨#[]⟩, .slice none 0 0, .slice none 0 0, .slice none 0 0, .int .i64 0]), none, none, [(0, 3), (1, 9), (2, 9), (3, 165), (4, 118), (5, 118), (6, 3)]⟩ := by kernel_rfl
theorem zr166 : ofAgg (.agg #[.int .i64 0, .string ⟨#[]⟩, .string ⟨#[]⟩, .slice none 0 0, .slice none 0 0, .slice none 0 0, .int .i64 0]) = .ag [.sc (.int .i64 0), .sc (.string ⟨#[]⟩), .sc (.string ⟨#[]⟩), .vw true [], .vw true [], .vw true [], .sc (.int .i64 0)] := rfl
theorem ty167 : tyD Tryz.prog 167 = some ⟨true, 7, 120, some (.agg #[.int .i64 0, .string ⟨#[]⟩, .string ⟨#[]⟩, .slice none 0 0, .slice none 0 0, .slice none 0 0, .int .i64 0]), none, none, [(0, 3), (1, 9), (2, 9), (3, 165), (4, 118), (5, 118), (6, 3)]⟩ := by kernel_rfl
theorem zr167 : ofAgg (.agg #[.int .i64 0, .string ⟨#[]⟩, .string ⟨#[]⟩, .slice none 0 0, .slice none 0 0, .slice none 0 0, .int .i64 0]) = .ag [.sc (.int .i64 0), .sc (.string ⟨#[]⟩), .sc (.string ⟨#[]⟩), .vw true [], .vw true [], .vw true [], .sc (.int .i64 0)] := rfl
theorem ty168 : tyD Tryz.prog 168 = some ⟨false, 1, 24, some (.slice none 0 0), some 202, none, []⟩ := by kernel_rfl
theorem ty169 : tyD Tryz.prog 169 = some ⟨false, 1, 0, some (.tuple #[.slice none 0 0, .int .i64 0, .int .i64 0]), none, none, []⟩ := by kernel_rfl
theorem ty170 : tyD Tryz.prog 170 = some ⟨false, 1, 8, some .nilFunc, none, none, []⟩ := by kernel_rfl
theorem ty171 : tyD Tryz.prog 171 = some ⟨false, 1, 8, some (.pointer none), none, none, []⟩ := by kernel_rfl
theorem ty172 : tyD Tryz.prog 172 = some ⟨true, 7, 72, some (.agg #[.slice none 0 0, .int .i64 0, .int .i64 0, .int .i64 0, .int .i64 0, .int .i64 0, .int .i64 0]), none, none, [(0, 168), (1, 3), (2, 3), (3, 50), (4, 3), (5, 3), (6, 3)]⟩ := by kernel_rfl
theorem zr172 : ofAgg (.agg #[.slice none 0 0, .int .i64 0, .int .i64 0, .int .i64 0, .int .i64 0, .int .i64 0, .int .i64 0]) = .ag [.vw true [], .sc (.int .i64 0), .sc (.int .i64 0), .sc (.int .i64 0), .sc (.int .i64 0), .sc (.int .i64 0), .sc (.int .i64 0)] := rfl
theorem ty173 : tyD Tryz.prog 173 = some ⟨true, 7, 72, some (.agg #[.slice none 0 0, .int .i64 0, .int .i64 0, .int .i64 0, .int .i64 0, .int .i64 0, .int .i64 0]), none, none, [(0, 168), (1, 3), (2, 3), (3, 50), (4, 3), (5, 3), (6, 3)]⟩ := by kernel_rfl
theorem zr173 : ofAgg (.agg #[.slice none 0 0, .int .i64 0, .int .i64 0, .int .i64 0, .int .i64 0, .int .i64 0, .int .i64 0]) = .ag [.vw true [], .sc (.int .i64 0), .sc (.int .i64 0), .sc (.int .i64 0), .sc (.int .i64 0), .sc (.int .i64 0), .sc (.int .i64 0)] := rfl
theorem ty174 : tyD Tryz.prog 174 = some ⟨false, 1, 8, some .nilFunc, none, none, []⟩ := by kernel_rfl
theorem ty175 : tyD Tryz.prog 175 = some ⟨false, 1, 0, some (.tuple #[.slice none 0 0, .int .i64 0]), none, none, []⟩ := by kernel_rfl
theorem ty176 : tyD Tryz.prog 176 = some ⟨false, 1, 8, some .nilFunc, none, none, []⟩ := by kernel_rfl
theorem ty177 : tyD Tryz.prog 177 = some ⟨false, 1, 8, some .nilFunc, none, none, []⟩ := by kernel_rfl
theorem ty178 : tyD Tryz.prog 178 = some ⟨false, 1, 8, some .nilFunc, none, none, []⟩ := by kernel_rfl
theorem ty179 : tyD Tryz.prog 179 = some ⟨false, 1, 0, some (.tuple #[.slice none 0 0, .bool false]), none, none, []⟩ := by kernel_rfl
theorem ty180 : tyD Tryz.prog 180 = some ⟨false, 1, 8, some .nilFunc, none, none, []⟩ := by kernel_rfl
theorem ty181 : tyD Tryz.prog 181 = some ⟨false, 1, 8, some .nilFunc, none, none, []⟩ := by kernel_rfl
theorem ty182 : tyD Tryz.prog 182 = some ⟨false, 1, 8, some .nilFunc, none, none, []⟩ := by kernel_rfl
theorem ty183 : tyD Tryz.prog 183 = some ⟨false, 1, 8, some .nilFunc, none, none, []⟩ := by kernel_rfl
theorem ty184 : tyD Tryz.prog 184 = some ⟨false, 1, 8, some .nilFunc, none, none, []⟩ := by kernel_rfl
theorem ty185 : tyD Tryz.prog 185 = some ⟨false, 1, 8, some .nilFunc, none, none, []⟩ := by kernel_rfl
theorem ty186 : tyD Tryz.prog 186 = some ⟨false, 1, 8, some .nilFunc, none, none, []⟩ := by kernel_rfl
theorem ty187 : tyD Tryz.prog 187 = some ⟨false, 1, 8, some .nilFunc, none, none, []⟩ := by kernel_rfl
theorem ty188 : tyD Tryz.prog 188 = some ⟨false, 1, 8, some .nilFunc, none, none, []⟩ := by kernel_rfl
theorem ty189 : tyD Tryz.prog 189 = some ⟨false, 1, 8, some .nilFunc, none, none, []⟩ := by kernel_rfl
theorem ty190 : tyD Tryz.prog 190 = some ⟨false, 1, 8, some .nilFunc, none, none, []⟩ := by kernel_rfl
theorem ty191 : tyD Tryz.prog 191 = some ⟨false, 1, 8, some .nilFunc, none, none, []⟩ := by kernel_rfl
theorem ty192 : tyD Tryz.prog 192 = some ⟨false, 1, 8, some .nilFunc, none, none, []⟩ := by kernel_rfl
theorem ty193 : tyD Tryz.prog 193 = some ⟨false, 1, 0, some (.tuple #[.int .i64 0, .int .i64 0]), none, none, []⟩ := by kernel_rfl
theorem ty194 : tyD Tryz.prog 194 = some ⟨false, 1, 8, some .nilFunc, none, none, []⟩ := by kernel_rfl
theorem ty195 : tyD Tryz.prog 195 = some ⟨false, 1, 0, some (.tuple #[.int .i64 0, .int .i64 0, .int .i64 0]), none, none, []⟩ := by kernel_rfl
theorem ty196 : tyD Tryz.prog 196 = some ⟨false, 1, 8, some .nilFunc, none, none, []⟩ := by kernel_rfl
theorem ty197 : tyD Tryz.prog 197 = some ⟨true, 5, 64, some (.agg #[.int .i64 0, .int .i64 0, .string ⟨#[]⟩, .slice none 0 0, .int .i64 0]), none, none, [(0, 3), (1, 3), (2, 9), (3, 165), (4, 3)]⟩ := by kernel_rfl
theorem zr197 : ofAgg (.agg #[.int .i64 0, .int .i64 0, .string ⟨#[]⟩, .slice none 0 0, .int .i64 0]) = .ag [.sc (.int .i64 0), .sc (.int .i64 0), .sc (.string ⟨#[]⟩), .vw true [], .sc (.int .i64 0)] := rfl
theorem ty198 : tyD Tryz.prog 198 = some ⟨true, 5, 64, some (.agg #[.int .i64 0, .int .i64 0, .string ⟨#[]⟩, .slice none 0 0, .int .i64 0]), none, none, [(0, 3), (1, 3), (2, 9), (3, 165), (4, 3)]⟩ := by kernel_rfl
theorem zr198 : ofAgg (.agg #[.int .i64 0, .int .i64 0, .string ⟨#[]⟩, .slice none 0 0, .int .i64 0]) = .ag [.sc (.int .i64 0), .sc (.int .i64 0), .sc (.string ⟨#[]⟩), .vw true [], .sc (.int .i64 0)] := rfl
theorem ty199 : tyD Tryz.prog 199 = some ⟨false, 1, 8, some .nilFunc, none, none, []⟩ := by kernel_rfl
theorem fl7 : flK Tryz.prog 7 = some [.i .i64, .i .i64, .b, .i .u8] := by kernel_rfl
theorem fl8 : flK Tryz.prog 8 = some [.i .i64, .i .i64, .b, .i .u8] := by kernel_rfl
theorem fl26 : flK Tryz.prog 26 = some [.i .i64, .i .u64, .i .i64, .i .i64] := by kernel_rfl
theorem fl27 : flK Tryz.prog 27 = some [.i .i64, .i .u64, .i .i64, .i .i64] := by kernel_rfl
theorem fl43 : flK Tryz.prog 43 = some [.i .i64, .b] := by kernel_rfl
theorem fl44 : flK Tryz.prog 44 = some [.i .i64, .b] := by kernel_rfl
theorem fl45 : flK Tryz.prog 45 = some [.i .i64, .i .i64, .i .i64] := by kernel_rfl
theorem fl46 : flK Tryz.prog 46 = some [.i .i64, .i .i64, .i .i64] := by kernel_rfl
theorem fl72 : flK Tryz.prog 72 = some [.i .i64, .i .i64, .i .i64, .i .i64, .s] := by kernel_rfl
theorem fl73 : flK Tryz.prog 73 = some [.i .i64, .i .i64, .i .i64, .i .i64, .s] := by kernel_rfl
theorem fl77 : flK Tryz.prog 77 = some [.i .i64, .i .i64, .i .i64, .i .i64] := by kernel_rfl
theorem fl78 : flK Tryz.prog 78 = some [.i .i64, .i .i64, .i .i64, .i .i64] := by kernel_rfl
theorem fl81 : flK Tryz.prog 81 = some [.i .i64, .i .i64, .i .i64, .i .i64, .i .i64, .i .i64] := by kernel_rfl
theorem fl82 : flK Tryz.prog 82 = some [.i .i64, .i .i64, .i .i64, .i .i64, .i .i64, .i .i64] := by kernel_rfl
theorem fl98 : flK Tryz.prog 98 = some [.i .i64, .i .i64, .i .i64, .i .i64] := by kernel_rfl
theorem fl99 : flK Tryz.prog 99 = some [.i .i64, .i .i64, .i .i64, .i .i64] := by kernel_rfl
theorem fl101 : flK Tryz.prog 101 = some [.i .i64, .i .i64] := by kernel_rfl
theorem fl102 : flK Tryz.prog 102 = some [.i .i64, .i .i64] := by kernel_rfl
theorem fl112 : flK Tryz.prog 112 = some [.i .i64, .s, .i .i64, .i .i64] := by kernel_rfl
theorem fl113 : flK Tryz.prog 113 = some [.i .i64, .s, .i .i64, .i .i64] := by kernel_rfl
end Go.Proofs.YtdjpkhjaibdogaaGreat
