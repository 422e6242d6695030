/-
  Lemmas towards ModesPriority (joined texts: ZT, ZU, MA, QA, ZX, PA, PB).
  Conditions: none.
-/
import Derived.Test.YtdjpkhjaibdogaaGreatL12
import Derived.Test.YtdjpkhjaibdogaaGreatL13
import Derived.Test.YtdjpkhjaibdogaaGreatProg
import Derived.Test.YtdjpkhjaibdogaaGreatL01
import Derived.Test.YtdjpkhjaibdogaaGreatL15
import Derived.Test.YtdjpkhjaibdogaaGreatL02
import Derived.Test.YtdjpkhjaibdogaaGreatL20
set_option linter.unusedSimpArgs false
set_option linter.unusedVariables false
set_option maxRecDepth 100000
set_option maxHeartbeats 80000000
namespace Go.Proofs.YtdjpkhjaibdogaaGreat
open Go Go.SX
theorem ty0:AR Tryz.prog 0=some ⟨false,1,0,some (.tuple #[]),none,none,[]⟩:=by kernel_rfl
theorem ty3:AR Tryz.prog 3=some ⟨false,1,8,some (.int .i64 0),none,none,[]⟩:=by kernel_rfl
theorem un3:Tryz.prog.underlying 3=some (.int .i64):=by kernel_rfl
theorem ty4:AR Tryz.prog 4=some ⟨false,1,1,some (.bool false),none,none,[]⟩:=by kernel_rfl
theorem un4:Tryz.prog.underlying 4=some .bool:=by kernel_rfl
theorem ty5:AR Tryz.prog 5=some ⟨false,1,1,some (.int .u8 0),none,none,[]⟩:=by kernel_rfl
theorem un5:Tryz.prog.underlying 5=some (.int .u8):=by kernel_rfl
theorem ty9:AR Tryz.prog 9=some ⟨false,1,16,some (.string ⟨#[]⟩),none,none,[]⟩:=by kernel_rfl
theorem un9:Tryz.prog.underlying 9=some .string:=by kernel_rfl
theorem Bfl:AR Tryz.prog 22=some ⟨false,1,24,some (.slice none 0 0),some 5,none,[]⟩:=by kernel_rfl
theorem Bfm:AR Tryz.prog 23=some ⟨false,1,24,some (.slice none 0 0),some 44,none,[]⟩:=by kernel_rfl
theorem Bfn:AR Tryz.prog 24=some ⟨false,1,24,some (.slice none 0 0),some 46,none,[]⟩:=by kernel_rfl
theorem Bfo:AR Tryz.prog 25=some ⟨false,1,8,some (.int .u64 0),none,none,[]⟩:=by kernel_rfl
theorem Bfp:Tryz.prog.underlying 25=some (.int .u64):=by kernel_rfl
theorem Bfq:Ax (.agg #[.int .i64 0,.int .u64 0,.int .i64 0,.int .i64 0])=.ag [.sc (.int .i64 0),.sc (.int .u64 0),.sc (.int .i64 0),.sc (.int .i64 0)]:=rfl
theorem Bfr:AR Tryz.prog 27=some ⟨true,4,32,some (.agg #[.int .i64 0,.int .u64 0,.int .i64 0,.int .i64 0]),none,none,[(0,3),(1,25),(2,3),(3,3)]⟩:=by kernel_rfl
theorem Bfs:AR Tryz.prog 31=some ⟨false,1,24,some (.slice none 0 0),some 102,none,[]⟩:=by kernel_rfl
theorem Bft:AR Tryz.prog 32=some ⟨false,1,24,some (.slice none 0 0),some 9,none,[]⟩:=by kernel_rfl
theorem Bfu:AR Tryz.prog 33=some ⟨false,1,24,some (.slice none 0 0),some 99,none,[]⟩:=by kernel_rfl
theorem Bfv:AR Tryz.prog 34=some ⟨false,1,24,some (.slice none 0 0),some 3,none,[]⟩:=by kernel_rfl
theorem Bfw:Ax (.agg #[.slice none 0 0,.slice none 0 0,.slice none 0 0,.slice none 0 0,.slice none 0 0,.int .i64 0,.int .i64 0])=.ag [.vw true [],.vw true [],.vw true [],.vw true [],.vw true [],.sc (.int .i64 0),.sc (.int .i64 0)]:=rfl
theorem Bfx:AR Tryz.prog 36=some ⟨true,7,136,some (.agg #[.slice none 0 0,.slice none 0 0,.slice none 0 0,.slice none 0 0,.slice none 0 0,.int .i64 0,.int .i64 0]),none,none,[(0,31),(1,32),(2,33),(3,34),(4,34),(5,3),(6,3)]⟩:=by kernel_rfl
theorem Bfy:AR Tryz.prog 38=some ⟨false,1,4,some (.int .u32 0),none,none,[]⟩:=by kernel_rfl
theorem Bfz:Tryz.prog.underlying 38=some (.int .u32):=by kernel_rfl
theorem Bg0:AR Tryz.prog 39=some ⟨false,1,24,some (.slice none 0 0),some 82,none,[]⟩:=by kernel_rfl
theorem Bg1:Ax (.agg #[.slice none 0 0,.slice none 0 0,.int .u32 0,.slice none 0 0,.int .i64 0])=.ag [.vw true [],.vw true [],.sc (.int .u32 0),.vw true [],.sc (.int .i64 0)]:=rfl
theorem Bg2:AR Tryz.prog 41=some ⟨true,5,88,some (.agg #[.slice none 0 0,.slice none 0 0,.int .u32 0,.slice none 0 0,.int .i64 0]),none,none,[(0,34),(1,34),(2,38),(3,39),(4,3)]⟩:=by kernel_rfl
theorem Bg3:AR Tryz.prog 44=some ⟨true,2,16,some (.agg #[.int .i64 0,.bool false]),none,none,[(0,3),(1,4)]⟩:=by kernel_rfl
theorem Bg4:Ax (.agg #[.int .i64 0,.int .i64 0,.int .i64 0])=.ag [.sc (.int .i64 0),.sc (.int .i64 0),.sc (.int .i64 0)]:=rfl
theorem Bg5:AR Tryz.prog 46=some ⟨true,3,24,some (.agg #[.int .i64 0,.int .i64 0,.int .i64 0]),none,none,[(0,3),(1,3),(2,3)]⟩:=by kernel_rfl
theorem Bg6:AR Tryz.prog 50=some ⟨false,1,8,some (.int .i64 0),none,none,[]⟩:=by kernel_rfl
theorem Bg7:AR Tryz.prog 53=some ⟨false,1,24,some (.slice none 0 0),some 113,none,[]⟩:=by kernel_rfl
theorem Bg8:AR Tryz.prog 54=some ⟨false,1,24,some (.slice none 0 0),some 116,none,[]⟩:=by kernel_rfl
theorem Bg9:Ax (.agg #[.slice none 0 0,.slice none 0 0])=.ag [.vw true [],.vw true []]:=rfl
theorem Bga:AR Tryz.prog 56=some ⟨true,2,48,some (.agg #[.slice none 0 0,.slice none 0 0]),none,none,[(0,53),(1,54)]⟩:=by kernel_rfl
theorem Bgb:Tryz.prog.underlying 60=some (.int .u64):=by kernel_rfl
theorem Bgc:AR Tryz.prog 61=some ⟨false,1,24,some (.slice none 0 0),some 73,none,[]⟩:=by kernel_rfl
theorem Bgd:AR Tryz.prog 68=some ⟨false,1,24,some (.slice none 0 0),some 78,none,[]⟩:=by kernel_rfl
theorem Bge:Ax (.agg #[.int .i64 0,.int .i64 0,.int .i64 0,.int .i64 0,.string ⟨#[]⟩])=.ag [.sc (.int .i64 0),.sc (.int .i64 0),.sc (.int .i64 0),.sc (.int .i64 0),.sc (.string ⟨#[]⟩)]:=rfl
theorem Bgf:AR Tryz.prog 73=some ⟨true,5,48,some (.agg #[.int .i64 0,.int .i64 0,.int .i64 0,.int .i64 0,.string ⟨#[]⟩]),none,none,[(0,3),(1,3),(2,3),(3,3),(4,9)]⟩:=by kernel_rfl
theorem Bgg:Ax (.agg #[.int .i64 0,.int .i64 0,.int .i64 0,.int .i64 0])=.ag [.sc (.int .i64 0),.sc (.int .i64 0),.sc (.int .i64 0),.sc (.int .i64 0)]:=rfl
theorem Bgh:AR Tryz.prog 78=some ⟨true,4,32,some (.agg #[.int .i64 0,.int .i64 0,.int .i64 0,.int .i64 0]),none,none,[(0,3),(1,3),(2,3),(3,3)]⟩:=by kernel_rfl
theorem Bgi:Ax (.agg #[.int .i64 0,.int .i64 0,.int .i64 0,.int .i64 0,.int .i64 0,.int .i64 0])=.ag [.sc (.int .i64 0),.sc (.int .i64 0),.sc (.int .i64 0),.sc (.int .i64 0),.sc (.int .i64 0),.sc (.int .i64 0)]:=rfl
theorem Ba6:AR Tryz.prog 82=some ⟨true,6,48,some (.agg #[.int .i64 0,.int .i64 0,.int .i64 0,.int .i64 0,.int .i64 0,.int .i64 0]),none,none,[(0,3),(1,3),(2,78)]⟩:=by kernel_rfl
theorem Ba7:Tryz.prog.underlying 86=some (.int .u16):=by kernel_rfl
theorem Bgj:Ax (.agg #[.slice none 0 0,.int .i64 0])=.ag [.vw true [],.sc (.int .i64 0)]:=rfl
theorem Bgk:AR Tryz.prog 96=some ⟨true,2,32,some (.agg #[.slice none 0 0,.int .i64 0]),none,none,[(0,22),(1,3)]⟩:=by kernel_rfl
theorem Bgl:AR Tryz.prog 99=some ⟨true,4,32,some (.agg #[.int .i64 0,.int .i64 0,.int .i64 0,.int .i64 0]),none,none,[(0,3),(1,3),(2,3),(3,3)]⟩:=by kernel_rfl
theorem Avv:Ax (.agg #[.int .i64 0,.int .i64 0])=.ag [.sc (.int .i64 0),.sc (.int .i64 0)]:=rfl
theorem Avw:AR Tryz.prog 102=some ⟨true,2,16,some (.agg #[.int .i64 0,.int .i64 0]),none,none,[(0,3),(1,3)]⟩:=by kernel_rfl
theorem Avx:Ax (.agg #[.slice none 0 0,.slice none 0 0,.int .u64 0,.int .u32 0,.int .i64 0,.int .i64 0])=.ag [.vw true [],.vw true [],.sc (.int .u64 0),.sc (.int .u32 0),.sc (.int .i64 0),.sc (.int .i64 0)]:=rfl
theorem Avy:AR Tryz.prog 104=some ⟨true,6,80,some (.agg #[.slice none 0 0,.slice none 0 0,.int .u64 0,.int .u32 0,.int .i64 0,.int .i64 0]),none,none,[(0,34),(1,34),(2,25),(3,38),(4,3),(5,3)]⟩:=by kernel_rfl
theorem Avz:Ax (.agg #[.slice none 0 0,.slice none 0 0,.slice none 0 0,.slice none 0 0])=.ag [.vw true [],.vw true [],.vw true [],.vw true []]:=rfl
theorem Aw0:AR Tryz.prog 110=some ⟨true,4,96,some (.agg #[.slice none 0 0,.slice none 0 0,.slice none 0 0,.slice none 0 0]),none,none,[(0,56),(2,31),(3,32)]⟩:=by kernel_rfl
theorem Aw1:Ax (.agg #[.int .i64 0,.string ⟨#[]⟩,.int .i64 0,.int .i64 0])=.ag [.sc (.int .i64 0),.sc (.string ⟨#[]⟩),.sc (.int .i64 0),.sc (.int .i64 0)]:=rfl
theorem Aw2:AR Tryz.prog 113=some ⟨true,4,40,some (.agg #[.int .i64 0,.string ⟨#[]⟩,.int .i64 0,.int .i64 0]),none,none,[(0,3),(1,9),(2,3),(3,3)]⟩:=by kernel_rfl
theorem Aw3:AR Tryz.prog 114=some ⟨false,1,24,some (.slice none 0 0),some 120,none,[]⟩:=by kernel_rfl
theorem Aw4:Ax (.agg #[.string ⟨#[]⟩,.int .i64 0,.slice none 0 0,.int .i64 0])=.ag [.sc (.string ⟨#[]⟩),.sc (.int .i64 0),.vw true [],.sc (.int .i64 0)]:=rfl
theorem Aw5:AR Tryz.prog 116=some ⟨true,4,56,some (.agg #[.string ⟨#[]⟩,.int .i64 0,.slice none 0 0,.int .i64 0]),none,none,[(0,9),(1,3),(2,114),(3,3)]⟩:=by kernel_rfl
theorem Aw6:AR Tryz.prog 118=some ⟨false,1,24,some (.slice none 0 0),some 167,none,[]⟩:=by kernel_rfl
theorem Aw7:Ax (.agg #[.int .i64 0,.string ⟨#[]⟩,.slice none 0 0,.int .i64 0])=.ag [.sc (.int .i64 0),.sc (.string ⟨#[]⟩),.vw true [],.sc (.int .i64 0)]:=rfl
theorem Aw8:AR Tryz.prog 120=some ⟨true,4,56,some (.agg #[.int .i64 0,.string ⟨#[]⟩,.slice none 0 0,.int .i64 0]),none,none,[(0,3),(1,9),(2,118),(3,3)]⟩:=by kernel_rfl
theorem Aw9:Ax (.agg #[.slice none 0 0,.slice none 0 0,.slice none 0 0,.slice none 0 0,.slice none 0 0,.int .i64 0,.int .i64 0,.slice none 0 0,.slice none 0 0,.int .u32 0,.slice none 0 0,.int .i64 0,.int .i64 0,.int .u64 0,.int .i64 0,.int .i64 0,.slice none 0 0,.slice none 0 0])=.ag [.vw true [],.vw true [],.vw true [],.vw true [],.vw true [],.sc (.int .i64 0),.sc (.int .i64 0),.vw true [],.vw true [],.sc (.int .u32 0),.vw true [],.sc (.int .i64 0),.sc (.int .i64 0),.sc (.int .u64 0),.sc (.int .i64 0),.sc (.int .i64 0),.vw true [],.vw true []]:=rfl
theorem Awa:AR Tryz.prog 138=some ⟨true,18,304,some (.agg #[.slice none 0 0,.slice none 0 0,.slice none 0 0,.slice none 0 0,.slice none 0 0,.int .i64 0,.int .i64 0,.slice none 0 0,.slice none 0 0,.int .u32 0,.slice none 0 0,.int .i64 0,.int .i64 0,.int .u64 0,.int .i64 0,.int .i64 0,.slice none 0 0,.slice none 0 0]),none,none,[(0,36),(7,41),(12,27),(16,61),(17,24)]⟩:=by kernel_rfl
theorem Awb:AR Tryz.prog 143=some ⟨true,18,304,some (.agg #[.slice none 0 0,.slice none 0 0,.slice none 0 0,.slice none 0 0,.slice none 0 0,.int .i64 0,.int .i64 0,.slice none 0 0,.slice none 0 0,.int .u32 0,.slice none 0 0,.int .i64 0,.int .i64 0,.int .u64 0,.int .i64 0,.int .i64 0,.slice none 0 0,.slice none 0 0]),none,none,[(0,36),(7,41),(12,27),(16,61),(17,24)]⟩:=by kernel_rfl
theorem Awc:AR Tryz.prog 165=some ⟨false,1,24,some (.slice none 0 0),some 198,none,[]⟩:=by kernel_rfl
theorem Awd:Ax (.agg #[.int .i64 0,.string ⟨#[]⟩,.string ⟨#[]⟩,.slice none 0 0,.slice none 0 0,.slice none 0 0,.int .i64 0])=.ag [.sc (.int .i64 0),.sc (.string ⟨#[]⟩),.sc (.string ⟨#[]⟩),.vw true [],.vw true [],.vw true [],.sc (.int .i64 0)]:=rfl
theorem Awe:AR Tryz.prog 167=some ⟨true,7,120,some (.agg #[.int .i64 0,.string ⟨#[]⟩,.string ⟨#[]⟩,.slice none 0 0,.slice none 0 0,.slice none 0 0,.int .i64 0]),none,none,[(0,3),(1,9),(2,9),(3,165),(4,118),(5,118),(6,3)]⟩:=by kernel_rfl
theorem Awf:AR Tryz.prog 168=some ⟨false,1,24,some (.slice none 0 0),some 202,none,[]⟩:=by kernel_rfl
theorem Awg:Ax (.agg #[.slice none 0 0,.int .i64 0,.int .i64 0,.int .i64 0,.int .i64 0,.int .i64 0,.int .i64 0])=.ag [.vw true [],.sc (.int .i64 0),.sc (.int .i64 0),.sc (.int .i64 0),.sc (.int .i64 0),.sc (.int .i64 0),.sc (.int .i64 0)]:=rfl
theorem Awh:AR Tryz.prog 173=some ⟨true,7,72,some (.agg #[.slice none 0 0,.int .i64 0,.int .i64 0,.int .i64 0,.int .i64 0,.int .i64 0,.int .i64 0]),none,none,[(0,168),(1,3),(2,3),(3,50),(4,3),(5,3),(6,3)]⟩:=by kernel_rfl
theorem Awi:Ax (.agg #[.int .i64 0,.int .i64 0,.string ⟨#[]⟩,.slice none 0 0,.int .i64 0])=.ag [.sc (.int .i64 0),.sc (.int .i64 0),.sc (.string ⟨#[]⟩),.vw true [],.sc (.int .i64 0)]:=rfl
theorem Awj:AR Tryz.prog 198=some ⟨true,5,64,some (.agg #[.int .i64 0,.int .i64 0,.string ⟨#[]⟩,.slice none 0 0,.int .i64 0]),none,none,[(0,3),(1,3),(2,9),(3,165),(4,3)]⟩:=by kernel_rfl
theorem Bgm:flK Tryz.prog 46=some [.i .i64,.i .i64,.i .i64]:=by kernel_rfl
theorem Bgn:flK Tryz.prog 73=some [.i .i64,.i .i64,.i .i64,.i .i64,.s]:=by kernel_rfl
theorem Bgo:flK Tryz.prog 78=some [.i .i64,.i .i64,.i .i64,.i .i64]:=by kernel_rfl
theorem Bgp:flK Tryz.prog 82=some [.i .i64,.i .i64,.i .i64,.i .i64,.i .i64,.i .i64]:=by kernel_rfl
theorem CS:type_of% (aI (aI (aI (aI (b8 (b8 @ty3 @un3 @ty4 @un4 @ty5 @un5 @ty9 @Bfl) (b8 @Bfm @Bfn @Bfo @Bfp @Bfr @Bfs @Bft @Bfu) (b8 @Bfv @Bfx @Bfy @Bfz @Bg0 @Bg2 @Bg3 @Bg5) (b8 @Bg6 @Bg7 @Bg8 @Bga @Bgb @Bgc @Bgd @Bgf) (b8 @Bgh @Ba6 @Ba7 @Bgk @Bgl @Avw @Avy @Aw0) (b8 @Aw2 @Aw3 @Aw5 @Aw6 @Aw8 @Awa @Awb @Awc) (b8 @Awe @Awf @Awh @Awj @Bgm @Bgn @Bgo @Bgp) (b8 @Bfq @Bfw @Bg1 @Bg4 @Bg9 @Bge @Bgg @Bgi)) (b8 @Bgj @Avv @Avx @Avz @Aw1 @Aw4 @Aw7 @Aw9)) @Awd) @Awg) @Awi):=aI (aI (aI (aI (b8 (b8 @ty3 @un3 @ty4 @un4 @ty5 @un5 @ty9 @Bfl) (b8 @Bfm @Bfn @Bfo @Bfp @Bfr @Bfs @Bft @Bfu) (b8 @Bfv @Bfx @Bfy @Bfz @Bg0 @Bg2 @Bg3 @Bg5) (b8 @Bg6 @Bg7 @Bg8 @Bga @Bgb @Bgc @Bgd @Bgf) (b8 @Bgh @Ba6 @Ba7 @Bgk @Bgl @Avw @Avy @Aw0) (b8 @Aw2 @Aw3 @Aw5 @Aw6 @Aw8 @Awa @Awb @Awc) (b8 @Awe @Awf @Awh @Awj @Bgm @Bgn @Bgo @Bgp) (b8 @Bfq @Bfw @Bg1 @Bg4 @Bg9 @Bge @Bgg @Bgi)) (b8 @Bgj @Avv @Avx @Avz @Aw1 @Aw4 @Aw7 @Aw9)) @Awd) @Awg) @Awi
end Go.Proofs.YtdjpkhjaibdogaaGreat
namespace Go.Proofs.YtdjpkhjaibdogaaGreat
open Go Go.SX
attribute [local congr] ite_congr
theorem Ba8:QK Tryz.prog 34=true:=by kernel_rfl
theorem Zz (cap:Nat) (H:List Blk) (cnt:Nat):HSpec Tryz.prog 54 [.sc (.slice none 0 cap)] H cnt (.vw true []) H cnt:=by
 refine Ad (Af (lit:=false) (pm:=fun _=>none) .nil .nil .nil .nil) rfl Tryz.func54 rfl (by decide) (by kernel_rfl) ?_
 refine Ayw ?_
 simp (maxSteps:=10000000) +contextual -implicitDefEqProofs only [AX,AT,St.put,↓reduceIte,B9,Ba8]
 repeat' (first | exact Aa (by kernel_rfl) | refine ⟨Aa (by kernel_rfl),?_⟩ | refine And.intro ?_ ?_ | fail)
 all_goals exact Aqo
theorem LI (cap:Nat) (H:List Blk) (cnt:Nat):HSpec Tryz.prog 54 [.sc (.slice none 0 cap)] H cnt (.sl H.length (cnt+1) 0 0) (H++[⟨true,cnt+1,3,1,[],false⟩]) (cnt+2):=
 Bf1 (Zz cap H cnt) (cnt+1) 3 1 (cnt+2) (by omega) (by omega)
theorem LJ (a:Addr) (cap:Nat) (H:List Blk) (cnt:Nat):HSpec Tryz.prog 54 [.sc (.slice (some a) 0 cap)] H cnt (.sl H.length (cnt+1) 0 0) (H++[⟨true,cnt+1,3,1,[],false⟩]) (cnt+2):=by
 refine Ad (Af (lit:=false) (pm:=fun _=>none) .nil .nil .nil .nil) rfl Tryz.func54 rfl (by decide) (by kernel_rfl) ?_
 refine Ayw ?_
 exact zE1 (a6 @AX @AT @CS @B9 @Ba8 @Kw)
 repeat' (first | exact Aa (by kernel_rfl) | refine ⟨Aa (by kernel_rfl),?_⟩ | refine And.intro ?_ ?_ | fail)
 all_goals exact Aqo
theorem Ba9:QK Tryz.prog 39=true:=by kernel_rfl
theorem Wa (cap:Nat) (H:List Blk) (cnt:Nat):HSpec Tryz.prog 152 [.sc (.slice none 0 cap)] H cnt (.vw true []) H cnt:=by
 refine Ad (Af (lit:=false) (pm:=fun _=>none) .nil .nil .nil .nil) rfl Tryz.func152 rfl (by decide) (by kernel_rfl) ?_
 refine Ayu ?_
 simp (maxSteps:=10000000) +contextual -implicitDefEqProofs only [AX,AT,St.put,↓reduceIte,B9,Ba9]
 repeat' (first | exact Aa (by kernel_rfl) | refine ⟨Aa (by kernel_rfl),?_⟩ | refine And.intro ?_ ?_ | fail)
 all_goals exact Aqo
theorem Kf (cap:Nat) (H:List Blk) (cnt:Nat):HSpec Tryz.prog 152 [.sc (.slice none 0 cap)] H cnt (.sl H.length (cnt+1) 0 0) (H++[⟨true,cnt+1,82,6,[],false⟩]) (cnt+2):=
 Bf1 (Wa cap H cnt) (cnt+1) 82 6 (cnt+2) (by omega) (by omega)
theorem Kg (a:Addr) (cap:Nat) (H:List Blk) (cnt:Nat):HSpec Tryz.prog 152 [.sc (.slice (some a) 0 cap)] H cnt (.sl H.length (cnt+1) 0 0) (H++[⟨true,cnt+1,82,6,[],false⟩]) (cnt+2):=by
 refine Ad (Af (lit:=false) (pm:=fun _=>none) .nil .nil .nil .nil) rfl Tryz.func152 rfl (by decide) (by kernel_rfl) ?_
 refine Ayu ?_
 exact zE1 (a6 @AX @AT @CS @B9 @Ba9 @Kw)
 repeat' (first | exact Aa (by kernel_rfl) | refine ⟨Aa (by kernel_rfl),?_⟩ | refine And.intro ?_ ?_ | fail)
 all_goals exact Aqo
end Go.Proofs.YtdjpkhjaibdogaaGreat
namespace Go.Proofs.YtdjpkhjaibdogaaGreat
open Go Go.SX
def bt:List Nat→Nat→Bool:=fun l n=>l.any (Nat.beq n)
def qP:List Nat:=[111,112,155,171,173,209,210,130,147,99,119,155,112,184,131,132,172,174,85,45,46,127,124,255,115]
def qV:List Nat:=[93,51,31,18,114]
def qU:List Nat:=[13,18,20,22,24,29,31,40,45,46,47,48,49,51,53,56,57,58,59,63,64,65,71,74,77,78,79,85,86,87,88,89,90,91,92,93,94,95,98,104,108,109,110,111,112,113,114,115,116,117,120,121,122,123,124,125,126,127,128,130,131,132,133,134,135,136,137,139,142,143,144,145,146,152,154,155,156,157,158,159,160,161,162,163,164,165,166,167,168,169,170,171,172,173,174,176,178,179,180,181,182,184,185,188,190,191,192,193,194,195,196,197,201,203,204,205,208,209,210,211,212,213,214,215,216,219,220,226,227,228,231,233,234,235,236,238,239,251,252,255,257,258,260]
def Wb:TabE:=⟨bt qU,bt qP,fun f=>not (bt qP f || bt qV f),bt [134,165,176,215,162,235,257],fun _ _=>none,bt [54,152,31,18,51,93,94,139,182,216,239,252,258,260,240,49,92,48,128,129,161,160,120,163,164,166,211,251,168,213,122,162,196,146,98,256,20,22,24,29,71,104,56,74,59,113,158,208,157,204,227,231,203,234,206,233,110,154,201,114,115,64,66,111,186,188,189,191,195,207,226,237,236,86],bt qV,bt [85,53],bt [93,51,18,31],bt [54,152],fun _=>false⟩
def chkF (t:TabE) (f:Nat) (fn:Func):Bool:=match fn.body with
 | some c=>(!(fn.name == "runtime.NumGoroutine")) && C2 (fun g=>t.hcl g && !t.isP g) (t.perm f) c
 | none=>true
def As8 (t:TabE):List Func→Nat→Bool
 | [],_=>true
 | fn::r,f=>(!t.ok f || chkF t f fn) && As8 t r (f+1)
theorem Afp {t:TabE}:∀ {l:List Func} {f i:Nat} {fn:Func},As8 t l f=true→l[i]?=some fn→t.ok (f+i)=true→chkF t (f+i) fn=true
 | [],f,i,fn,h,h2,_=>by simp at h2
 | x::r,f,i,fn,h,h2,h3=>by
  simp only [As8,AH] at h
  cases i with
  | zero=>simp at h2; subst h2; simpa [show t.ok f=true from h3] using h.1
  | succ i=>
   have e:f+(i+1)=f+1+i:=An
   rw [e] at h3 ⊢
   exact Afp (i:=i) h.2 (by simpa using h2) h3
theorem Abo {P:Program} {t:TabE} (h:As8 t P.funcs.toList 0=true):Hi P t:=by
 intro f fn c ho hf hb
 have:=Afp (i:=f) h (by rw [Array.getElem?_toList]; exact hf) (by rw [CL]; exact ho)
 rw [CL] at this
 unfold chkF at this
 rw [hb] at this
 simpa using this
theorem HL:Hi Tryz.prog Wb:=Abo (by kernel_rfl)
def Abp:List (Nat × List AV × AV)→Nat→List AV→Option AV
 | [],_,_=>none
 | e::r,f,args=>match Nat.beq e.1 f && NV e.2.1 args with
  | true=>some e.2.2
  | false=>Abp r f args
theorem Qj {Q:Nat→List AV→AV→Prop}:∀ {l:List (Nat × List AV × AV)} {f:Nat} {args:List AV} {r:AV},(∀ e ∈ l,Q e.1 e.2.1 e.2.2)→Abp l f args=some r→Q f args r
 | [],f,args,r,_,h=>by simp [Abp] at h
 | e::l,f,args,r,hl,h=>by
  simp only [Abp] at h
  split at h
  ·rename_i hc
   simp only [AH] at hc
   have h1:=JE hc.1
   have h2:=Kx _ _ hc.2
   cases h
   have:=hl e lx47
   rwa [h1,h2] at this
  ·exact Qj (fun x hx=>hl x (lx48 _ hx)) h
def emB (f:Nat) (v:Nat):Blk:=match Nat.beq f 54 with
 | true=>⟨true,v,3,1,[],false⟩
 | false=>⟨true,v,82,6,[],false⟩
def Baa (f:Nat) (args:List AV) (H:List Blk) (cnt:Nat):Option (AV × List Blk × Nat):=
 match bt [54,152] f with
 | false=>none
 | true=>match args with
  | [.vw _ []]=>some (.sl H.length (cnt+1) 0 0,H++[emB f (cnt+1)],cnt+2)
  | [.sl id ver _ 0]=>match AJ H id ver with
   | some _=>some (.sl H.length (cnt+1) 0 0,H++[emB f (cnt+1)],cnt+2)
   | none=>none
  | _=>none
theorem As9 (f:Nat) (args:List AV) (H:List Blk) (cnt:Nat) (r:AV) (H':List Blk) (cnt':Nat) (h:Baa f args H cnt=some (r,H',cnt')):HSpec Tryz.prog f args H cnt r H' cnt':=by
 unfold Baa at h
 split at h
 ·cases h
 ·rename_i hb
  have hf:f=54∨f=152:=by
   simp only [bt,List.any_cons,List.any_nil,Qy,ID] at hb
   exact hb.imp JE JE
  split at h
  ·cases h
   rcases hf with rfl | rfl
   ·exact Qa (fun cap=>LI cap H cnt) (fun a cap=>LJ a cap H cnt)
   ·exact Qa (fun cap=>Kf cap H cnt) (fun a cap=>Kg a cap H cnt)
  ·split at h
   ·rename_i B hB
    cases h
    have hs:(AJ H _ _).isSome=true:=Option.isSome_iff_exists.2 ⟨B,hB⟩
    rcases hf with rfl | rfl
    ·exact Y0 hs (fun cap=>LI cap H cnt) (fun a cap=>LJ a cap H cnt)
    ·exact Y0 hs (fun cap=>Kf cap H cnt) (fun a cap=>Kg a cap H cnt)
   ·cases h
  ·cases h
def Bab (lp lv lf:List (Nat × List AV × AV)):Giv:=⟨Abp lp,Abp lv,Baa,Abp lf⟩
theorem EY {lp lv lf:List (Nat × List AV × AV)} (hp:∀ e ∈ lp,Ap Tryz.prog e.1 e.2.1 e.2.2) (hv:∀ e ∈ lv,Ba Tryz.prog e.1 e.2.1 e.2.2) (hf:∀ e ∈ lf,C4 Tryz.prog e.1 e.2.1 e.2.2):GivOk Tryz.prog (Bab lp lv lf):=
 ⟨fun f args r h=>Qj hp h,fun f args r h=>Qj hv h,As9,fun f args r h=>Qj hf h⟩
def mkG (lp lv:List (Nat × List AV × AV)):Giv:=Bab lp lv []
def okT:Option AV→Bool
 | some (.sc (.bool true))=>true
 | _=>false
noncomputable def Pm (n:Nat) (f:Nat→Bool):Bool:=Nat.rec (motive:=fun _=>Bool) true (fun k ih=>bB (f k) false ih) n
theorem EZ:∀ {n:Nat} {f:Nat→Bool},Pm n f=true→∀ k,k < n→f k=true
 | 0,f,h,k,hk=>by omega
 | n+1,f,h,k,hk=>by
  have h:bB (f n) false (Pm n f)=true:=h
  cases hf:f n with
  | false=>rw [hf] at h; cases h
  | true=>
   rw [hf] at h
   by_cases e:k=n
   ·rw [e]; exact hf
   ·exact EZ h k (by omega)
theorem Ak {Q:Nat→List AV→AV→Prop}:∀ e ∈ ([]:List (Nat × List AV × AV)),Q e.1 e.2.1 e.2.2:=fun e h=>by simp at h
theorem Dd {Q:Nat→List AV→AV→Prop} {f:Nat} {args:List AV} {r:AV} {l:List (Nat × List AV × AV)} (h:Q f args r) (hl:∀ e ∈ l,Q e.1 e.2.1 e.2.2):∀ e ∈ (f,args,r)::l,Q e.1 e.2.1 e.2.2:=by
 intro e he
 rcases lx59.1 he with rfl | he
 ·exact h
 ·exact hl e he
theorem pQ {lp lv:List (Nat × List AV × AV)} (hp:∀ e ∈ lp,Ap Tryz.prog e.1 e.2.1 e.2.2) (hv:∀ e ∈ lv,Ba Tryz.prog e.1 e.2.1 e.2.2) {f:Nat} {args:List AV} {r:AV}
  (h:pK Tryz.prog Wb (mkG lp lv) 60 f args=some r):Ap Tryz.prog f args r:=Fk rfl HL (EY hp hv Ak) h
theorem vQ {lp lv:List (Nat × List AV × AV)} (hp:∀ e ∈ lp,Ap Tryz.prog e.1 e.2.1 e.2.2) (hv:∀ e ∈ lv,Ba Tryz.prog e.1 e.2.1 e.2.2) {f:Nat} {args:List AV} {r:AV}
  (h:vK Tryz.prog Wb (mkG lp lv) 60 f args=some r):Ba Tryz.prog f args r:=UA rfl HL (EY hp hv Ak) h
theorem Awk:AR Tryz.prog 202=some ⟨true,4,40,some (.agg #[.int .i64 0,.string ⟨#[]⟩,.int .i64 0,.int .i64 0]),none,none,[(0,3),(1,9),(2,3),(3,3)]⟩:=by kernel_rfl
theorem Awl:AR Tryz.prog 216=some ⟨false,1,24,some (.slice none 0 0),some 218,none,[]⟩:=by kernel_rfl
theorem Awm:AR Tryz.prog 218=some ⟨true,2,16,some (.agg #[.int .i64 0,.int .i64 0]),none,none,[(0,3),(1,3)]⟩:=by kernel_rfl
theorem Awn:Ax (.agg #[.slice none 0 0,.slice none 0 0,.slice none 0 0,.slice none 0 0,.slice none 0 0,.int .i64 0,.int .i64 0,.slice none 0 0,.slice none 0 0,.int .u64 0,.int .u32 0,.int .i64 0,.int .i64 0,.int .i64 0,.bool false,.slice none 0 0,.slice none 0 0])=.ag [.vw true [],.vw true [],.vw true [],.vw true [],.vw true [],.sc (.int .i64 0),.sc (.int .i64 0),.vw true [],.vw true [],.sc (.int .u64 0),.sc (.int .u32 0),.sc (.int .i64 0),.sc (.int .i64 0),.sc (.int .i64 0),.sc (.bool false),.vw true [],.vw true []]:=rfl
theorem Awo:AR Tryz.prog 253=some ⟨true,17,280,some (.agg #[.slice none 0 0,.slice none 0 0,.slice none 0 0,.slice none 0 0,.slice none 0 0,.int .i64 0,.int .i64 0,.slice none 0 0,.slice none 0 0,.int .u64 0,.int .u32 0,.int .i64 0,.int .i64 0,.int .i64 0,.bool false,.slice none 0 0,.slice none 0 0]),none,none,[(0,36),(7,104),(13,3),(14,4),(15,34),(16,61)]⟩:=by kernel_rfl
theorem Awp:AR Tryz.prog 258=some ⟨false,1,24,some (.slice none 0 0),some 168,none,[]⟩:=by kernel_rfl
theorem Awq:Ax (.agg #[.slice none 0 0,.slice none 0 0,.slice none 0 0,.slice none 0 0,.slice none 0 0,.int .i64 0,.int .i64 0,.slice none 0 0,.slice none 0 0,.int .u64 0,.int .u32 0,.int .i64 0,.int .i64 0,.slice none 0 0,.slice none 0 0,.slice none 0 0,.int .i64 0,.int .i64 0,.bool false])=.ag [.vw true [],.vw true [],.vw true [],.vw true [],.vw true [],.sc (.int .i64 0),.sc (.int .i64 0),.vw true [],.vw true [],.sc (.int .u64 0),.sc (.int .u32 0),.sc (.int .i64 0),.sc (.int .i64 0),.vw true [],.vw true [],.vw true [],.sc (.int .i64 0),.sc (.int .i64 0),.sc (.bool false)]:=rfl
theorem Awr:AR Tryz.prog 269=some ⟨true,19,312,some (.agg #[.slice none 0 0,.slice none 0 0,.slice none 0 0,.slice none 0 0,.slice none 0 0,.int .i64 0,.int .i64 0,.slice none 0 0,.slice none 0 0,.int .u64 0,.int .u32 0,.int .i64 0,.int .i64 0,.slice none 0 0,.slice none 0 0,.slice none 0 0,.int .i64 0,.int .i64 0,.bool false]),none,none,[(0,36),(7,104),(13,34),(14,34),(15,61),(16,3),(17,3),(18,4)]⟩:=by kernel_rfl
theorem zr202:Ax (.agg #[.int .i64 0,.string ⟨#[]⟩,.int .i64 0,.int .i64 0])=.ag [.sc (.int .i64 0),.sc (.string ⟨#[]⟩),.sc (.int .i64 0),.sc (.int .i64 0)]:=rfl
theorem Se:type_of% (aI (b8 @Awk @Awl @Awm @Awo @Awp @Awr @Awn @Awq) @zr202):=aI (b8 @Awk @Awl @Awm @Awo @Awp @Awr @Awn @Awq) @zr202
end Go.Proofs.YtdjpkhjaibdogaaGreat
namespace Go.Proofs.YtdjpkhjaibdogaaGreat
open Go Go.SX
attribute [local congr] ite_congr
structure Tok where
 k:Int
 tx:ByteArray
 v:Int
 at':Int
deriving Inhabited
def Ey (t:Tok):AV:=.ag [.sc (.int .i64 t.k),.sc (.string t.tx),.sc (.int .i64 t.v),.sc (.int .i64 t.at')]
theorem I7 (t:Tok):Ey t=.ag [.sc (.int .i64 t.k),.sc (.string t.tx),.sc (.int .i64 t.v),.sc (.int .i64 t.at')]:=rfl
theorem ZA (l:List Tok):Bs 4 (l.map Ey)=true:=BT (f:=Ey) (fun _=>rfl) l
structure Rd where
 z:Bool
 T:List Tok
 en:Int
 i:Nat
 op:Int
 pa:Int
def EG (r:Rd):AV:=.ag [.vw r.z (r.T.map Ey),.sc (.int .i64 r.en),.sc (.int .i64 (r.i:Int)),.sc (.int .i64 0),.sc (.int .i64 0),.sc (.int .i64 r.op),.sc (.int .i64 r.pa)]
theorem E4 (r:Rd):EG r=.ag [.vw r.z (r.T.map Ey),.sc (.int .i64 r.en),.sc (.int .i64 (r.i:Int)),.sc (.int .i64 0),.sc (.int .i64 0),.sc (.int .i64 r.op),.sc (.int .i64 r.pa)]:=rfl
def nxt (r:Rd):Tok:=if r.i < r.T.length then r.T.getD r.i default else ⟨0,⟨#[]⟩,0,r.en⟩
theorem Bnv (r:Rd):Ap Tryz.prog 178 [.vp [EG r] 0 0] (Ey (nxt r)):=by
 by_cases h:r.i < r.T.length
 ·have h1:decide ((r.i:Int) < (r.T.length:Int))=true:=AA (by omega)
  have h0:decide (0≤(r.i:Int))=true:=AA (by omega)
  have hn:nxt r=r.T.getD r.i default:=if_pos h
  have hg:(List.map Ey r.T)[r.i]?=some (Ey (nxt r)):=by rw [lx23,hn,lx81,lx50 h]; rfl
  obtain ⟨t,ht⟩:∃ t,nxt r=t:=⟨_,rfl⟩
  rw [ht] at hg ⊢
  refine Ab (Af (lit:=false) (pm:=fun _=>none) .nil .nil .nil .nil) rfl Tryz.func178 rfl (by decide) (by kernel_rfl) (by kernel_rfl) ?_
  simp only [Tryz.f178,Ae,lx52,lx63,Nat.reduceAdd,Nat.reduceSub,List.replicate]
  refine Ac ?_
  exact Pd (a5 h1 hg @E4 @I7 @ZA)
  repeat' (first | exact Aa (by kernel_rfl) | refine ⟨Aa (by kernel_rfl),?_⟩ | refine And.intro ?_ ?_ | fail)
 ·have h1:decide ((r.i:Int) < (r.T.length:Int))=false:=Ce (by omega)
  have hn:nxt r=⟨0,⟨#[]⟩,0,r.en⟩:=if_neg h
  rw [hn]
  refine Ab (Af (lit:=false) (pm:=fun _=>none) .nil .nil .nil .nil) rfl Tryz.func178 rfl (by decide) (by kernel_rfl) (by kernel_rfl) ?_
  simp only [Tryz.f178,Ae,lx52,lx63,Nat.reduceAdd,Nat.reduceSub,List.replicate]
  refine Ac ?_
  exact Pd (a3 h1 @E4 @I7)
  repeat' (first | exact Aa (by kernel_rfl) | refine ⟨Aa (by kernel_rfl),?_⟩ | refine And.intro ?_ ?_ | fail)
theorem p95 (r:Rd):Ap Tryz.prog 95 [.vp [EG r] 0 0] (.sc (.bool true)):=by
 refine Ab (Af (lit:=false) (pm:=fun _=>none) .nil .nil .nil .nil) rfl Tryz.func95 rfl (by decide) (by kernel_rfl) (by kernel_rfl) ?_
 simp only [Tryz.f95,Ae,lx52,lx63,Nat.reduceAdd,Nat.reduceSub,List.replicate]
 refine Ac ?_
 exact Pd @E4
 repeat' (first | exact Aa (by kernel_rfl) | refine ⟨Aa (by kernel_rfl),?_⟩ | refine And.intro ?_ ?_ | fail)
theorem Asa {a b:Tok} (h:Ey a=Ey b):a=b:=by
 obtain ⟨a1,a2,a3,a4⟩:=a; obtain ⟨b1,b2,b3,b4⟩:=b
 simp only [Ey,AV.ag.injEq,lx94,AV.sc.injEq,Value.int.injEq,Value.string.injEq,AW,C5] at h
 obtain ⟨rfl,rfl,rfl,rfl⟩:=h; rfl
theorem Afq {a b:Rd} (h:EG a=EG b):a=b:=by
 obtain ⟨a1,a2,a3,a4,a5,a6⟩:=a; obtain ⟨b1,b2,b3,b4,b5,b6⟩:=b
 simp only [EG,AV.ag.injEq,lx94,AV.vw.injEq,AV.sc.injEq,Value.int.injEq,AW,C5] at h
 obtain ⟨⟨rfl,h2⟩,rfl,h4,rfl,rfl⟩:=h
 obtain rfl:=DM (f:=Ey) (fun _ _=>Asa) h2
 have:a4=b4:=An
 subst this; rfl
theorem N8 {a b:Rd} {l l':List AV} (h:AV.vp [EG a] 0 0::l=AV.vp [EG b] 0 0::l'):a=b∧l=l':=by
 simp only [lx94,AV.vp.injEq,AW] at h
 exact ⟨Afq h.1,h.2⟩
noncomputable def f178:=EF (fun _:Rd=>True) (fun r=>[.vp [EG r] 0 0]) (fun r=>Ey (nxt r))
theorem Ta (r:Rd):f178 [.vp [EG r] 0 0]=some (Ey (nxt r)):=AK r trivial fun _ h=>(N8 h).1
theorem Nc:DC Tryz.prog 178 f178:=AN fun r _=>Bnv r
noncomputable def f95:=EF (fun _:Rd=>True) (fun r=>[.vp [EG r] 0 0]) (fun _=>.sc (.bool true))
theorem ZB (r:Rd):f95 [.vp [EG r] 0 0]=some (.sc (.bool true)):=AK r trivial fun _ h=>(N8 h).1
theorem Sf:DC Tryz.prog 95 f95:=AN fun r _=>p95 r
theorem Asb (t:Nat) (x y:Operand) (a b:ByteArray):Da Tryz.prog .eql t x y (.sc (.string a)) (.sc (.string b))=some (.sc (.bool (E8 a.data.toList b.data.toList))):=MZ t x y rfl
def O4 (t:Tok) (s:ByteArray):Bool:=(t.k == 5 || t.k == 2) && E8 t.tx.data.toList s.data.toList
def Nd (r:Rd) (s:ByteArray):Bool:=O4 (nxt r) s
theorem Bnw (r:Rd) (s:ByteArray):Ap Tryz.prog 137 [.vp [EG r] 0 0,.sc (.string s)] (.sc (.bool (Nd r s))):=by
 have e1:=Ta r
 have e2:=ZB r
 obtain ⟨t,ht⟩:∃ t,nxt r=t:=⟨_,rfl⟩
 obtain ⟨A,hA⟩:∃ A,EG r=A:=⟨_,rfl⟩
 unfold Nd O4
 rw [ht] at e1 ⊢
 rw [hA] at e1 e2 ⊢
 refine Ab (Af (lit:=false) (pm:=fun _=>none) (.cons Nc (.cons Sf .nil)) .nil .nil .nil) rfl Tryz.func137 rfl (by decide) (by kernel_rfl) (by kernel_rfl) ?_
 simp only [Tryz.f137,Ae,lx52,lx63,Nat.reduceAdd,Nat.reduceSub,List.replicate]
 refine Ac ?_
 exact Pd (a4 e1 e2 @I7 @Asb)
 repeat' (first | exact Aa (by kernel_rfl) | refine ⟨Aa (by kernel_rfl),?_⟩ | refine And.intro ?_ ?_ | fail)
theorem Bnx (r:Rd) (k:Int):Ap Tryz.prog 214 [.vp [EG r] 0 0,.sc (.int .i64 k)] (.sc (.bool ((nxt r).k == k))):=by
 have e1:=Ta r
 have e2:=ZB r
 obtain ⟨t,ht⟩:∃ t,nxt r=t:=⟨_,rfl⟩
 obtain ⟨A,hA⟩:∃ A,EG r=A:=⟨_,rfl⟩
 rw [ht] at e1 ⊢
 rw [hA] at e1 e2 ⊢
 refine Ab (Af (lit:=false) (pm:=fun _=>none) (.cons Nc (.cons Sf .nil)) .nil .nil .nil) rfl Tryz.func214 rfl (by decide) (by kernel_rfl) (by kernel_rfl) ?_
 simp only [Tryz.f214,Ae,lx52,lx63,Nat.reduceAdd,Nat.reduceSub,List.replicate]
 refine Ac ?_
 exact Pd (a3 e1 e2 @I7)
 repeat' (first | exact Aa (by kernel_rfl) | refine ⟨Aa (by kernel_rfl),?_⟩ | refine And.intro ?_ ?_ | fail)
theorem Bny (r:Rd) (n m c:Int) (h:n≤m):Ap Tryz.prog 135 [.vp [EG r] 0 0,.sc (.int .i64 n),.sc (.int .i64 m),.sc (.int .i64 c)] (.tu []):=by
 have h1:decide (m < n)=false:=Ce (by omega)
 obtain ⟨A,hA⟩:∃ A,EG r=A:=⟨_,rfl⟩
 rw [hA]
 refine Ab (Af (lit:=false) (pm:=fun _=>none) .nil .nil .nil .nil) rfl Tryz.func135 rfl (by decide) (by kernel_rfl) (by kernel_rfl) ?_
 simp only [Tryz.f135,Ae,lx52,lx63,Nat.reduceAdd,Nat.reduceSub,List.replicate]
 refine Ac ?_
 simp (maxSteps:=10000000) +contextual -implicitDefEqProofs only [AX,AT,St.put,↓reduceIte,B9,h1]
 repeat' (first | exact Aa (by kernel_rfl) | refine ⟨Aa (by kernel_rfl),?_⟩ | refine And.intro ?_ ?_ | fail)
 all_goals exact Et
noncomputable def f137:=EF (fun _:Rd × ByteArray=>True) (fun p=>[.vp [EG p.1] 0 0,.sc (.string p.2)]) (fun p=>.sc (.bool (Nd p.1 p.2)))
theorem Sg (r:Rd) (s:ByteArray):f137 [.vp [EG r] 0 0,.sc (.string s)]=some (.sc (.bool (Nd r s))):=AK (enc:=fun p:Rd × ByteArray=>[.vp [EG p.1] 0 0,.sc (.string p.2)]) (r,s) trivial fun y h=>by
 obtain ⟨rfl,h2⟩:=N8 h
 simp only [lx94,AV.sc.injEq,Value.string.injEq,AW] at h2
 rw [←h2]
theorem UF:DC Tryz.prog 137 f137:=AN fun p _=>Bnw p.1 p.2
noncomputable def f214:=EF (fun _:Rd × Int=>True) (fun p=>[.vp [EG p.1] 0 0,.sc (.int .i64 p.2)]) (fun p=>.sc (.bool ((nxt p.1).k == p.2)))
theorem Bgq (r:Rd) (k:Int):f214 [.vp [EG r] 0 0,.sc (.int .i64 k)]=some (.sc (.bool ((nxt r).k == k))):=AK (enc:=fun p:Rd × Int=>[.vp [EG p.1] 0 0,.sc (.int .i64 p.2)]) (r,k) trivial fun y h=>by
 obtain ⟨rfl,h2⟩:=N8 h
 simp only [lx94,AV.sc.injEq,Value.int.injEq,AW,C5] at h2
 rw [←h2]
theorem Aws:DC Tryz.prog 214 f214:=AN fun p _=>Bnx p.1 p.2
noncomputable def f135:=EF (fun p:Rd × Int × Int × Int=>p.2.1≤p.2.2.1) (fun p=>[.vp [EG p.1] 0 0,.sc (.int .i64 p.2.1),.sc (.int .i64 p.2.2.1),.sc (.int .i64 p.2.2.2)]) (fun _=>.tu [])
theorem Wc (r:Rd) (n m c:Int) (h:n≤m):f135 [.vp [EG r] 0 0,.sc (.int .i64 n),.sc (.int .i64 m),.sc (.int .i64 c)]=some (.tu []):=AK (enc:=fun p:Rd × Int × Int × Int=>[.vp [EG p.1] 0 0,.sc (.int .i64 p.2.1),.sc (.int .i64 p.2.2.1),.sc (.int .i64 p.2.2.2)]) (r,n,m,c) h fun y h=>by
 obtain ⟨rfl,h2⟩:=N8 h
 simp only [lx94,AV.sc.injEq,Value.int.injEq,AW,C5] at h2
 obtain ⟨h3,h4,h5⟩:=h2
 rw [←h3,←h4,←h5]
theorem Sh:DC Tryz.prog 135 f135:=AN fun p h=>Bny p.1 p.2.1 p.2.2.1 p.2.2.2 h
def zA (b:ByteArray):AV:=.sc (.string b)
theorem Si (b:ByteArray):zA b=.sc (.string b):=rfl
theorem Bac {a b:ByteArray} (h:zA a=zA b):a=b:=by simpa [zA] using h
theorem Sj (l:List ByteArray):Bs 1 (l.map zA)=true:=BT (f:=zA) (fun _=>rfl) l
def Wd (t:Tok) (l:List ByteArray):Int:=match l.findIdx? (O4 t) with
 | some i=>(i:Int)
 | none=>-1
theorem Anm {t:Tok} {l:List ByteArray} (h:∀ j,j < l.length→O4 t (l.getD j default)=false):Wd t l=-1:=by
 unfold Wd
 rw [List.findIdx?_eq_none_iff.2 fun x hx=>?_]
 obtain ⟨j,hj,rfl⟩:=List.mem_iff_getElem.1 hx
 have:=h j hj
 rwa [lx81,lx50 hj] at this
theorem Bad {t:Tok} {l:List ByteArray} {r:Nat} (hr:r < l.length) (h:O4 t (l.getD r default)=true) (hn:∀ j,j < r→O4 t (l.getD j default)=false):Wd t l=(r:Int):=by
 unfold Wd
 have g:∀ j (hj:j < l.length),l.getD j default=l[j]:=fun j hj=>by rw [lx81,lx50 hj]; rfl
 rw [List.findIdx?_eq_some_iff_getElem.2 ⟨hr,by rw [←g r hr]; exact h,fun j hj=>by have:=hn j hj; rw [g j (by omega)] at this; simp [this]⟩]
theorem Bnz (r:Rd) (z:Bool) (l:List ByteArray) (hl:l.length≤1000):Ap Tryz.prog 133 [.vp [EG r] 0 0,.vw z (l.map zA)] (.sc (.int .i64 (Wd (nxt r) l))):=by
 have e1:=fun s=>Sg r s
 unfold Nd at e1
 obtain ⟨t,ht⟩:∃ t,nxt r=t:=⟨_,rfl⟩
 obtain ⟨A,hA⟩:∃ A,EG r=A:=⟨_,rfl⟩
 rw [hA]
 simp only [ht,hA] at e1 ⊢
 refine Ab (Af (lit:=false) (pm:=fun _=>none) (.cons UF .nil) .nil .nil .nil) rfl Tryz.func133 rfl (by decide) (by kernel_rfl) (by kernel_rfl) ?_
 simp only [Tryz.f133,Ae,lx52,lx63,Nat.reduceAdd,Nat.reduceSub,List.replicate]
 refine Ac ?_
 refine qd9 ?_
 refine Az (σ:=Nat) (fun i cnt=>⟨CW 0 19 [(0,.vp [A] 0 0),(1,.vw z (l.map zA)),(4,.sc (.int .i64 0)),(5,.sc (.int .i64 i))],[],cnt⟩)
  (fun i=>i≤l.length∧∀ j,j < i→O4 t (l.getD j default)=false) (fun i=>l.length - i) 0 ⟨by omega,by omega⟩ ?_ ?_ rfl ?_
 ·exact Gm
 ·simp (maxSteps:=10000000) only [AT]
 rintro i cnt ⟨hr,hn⟩ ih
 by_cases hr':i < l.length
 rotate_left
 ·obtain rfl:i=l.length:=by omega
  have h1:decide ((l.length:Int) < (l.length:Int))=false:=AZ
  rw [Anm hn]
  refine Ac ?_
  refine Cb ?_
  simp (maxSteps:=10000000) +contextual -implicitDefEqProofs only [AX,AT,St.put,↓reduceIte,CS,B9,h1]
  repeat' (first | exact Aa (by kernel_rfl) | refine ⟨Aa (by kernel_rfl),?_⟩ | refine And.intro ?_ ?_ | fail)
  all_goals first | rfl | skip
  all_goals done
 have h1:decide ((i:Int) < (l.length:Int))=true:=Au
 have h2:decide (i < l.length)=true:=Au
 have w1:IntKind.i64.wrap ((i:Int)+1)=((i+1:Nat):Int):=B8
 have ih:=fun v c'=>ih (i+1) c' ⟨by omega,v⟩ (by omega)
 have hfa:=fun h=>Bad (t:=t) hr' h hn
 obtain ⟨s,hs⟩:∃ s,l.getD i default=s:=⟨_,rfl⟩
 rw [hs] at hfa
 have hg:(List.map zA l)[i]?=some (zA s):=by rw [lx23,←hs,lx81,lx50 hr']; rfl
 refine Ac ?_
 refine Cb ?_
 cases hb:O4 t s with
 | true=>
  rw [hfa hb]
  exact Pd (a6 h1 hg e1 hb @Sj @Si)
  repeat' (first | exact Aa (by kernel_rfl) | refine ⟨Aa (by kernel_rfl),?_⟩ | refine And.intro ?_ ?_ | fail)
  all_goals exact Et
 | false=>
  have hv:∀ j,j < i+1→O4 t (l.getD j default)=false:=fun j hj=>by
   by_cases h:j=i
   ·subst h; rw [hs]; exact hb
   ·exact hn j (by omega)
  refine Dz (a7 h1 w1 hg e1 hb @Sj @Si) ?_
  refine AB ?_ ?_ (Av _) (ih hv _)
  all_goals exact Ay8
noncomputable def f133:=EF (fun p:Rd × Bool × List ByteArray=>p.2.2.length≤1000) (fun p=>[.vp [EG p.1] 0 0,.vw p.2.1 (p.2.2.map zA)]) (fun p=>.sc (.int .i64 (Wd (nxt p.1) p.2.2)))
theorem Sk (r:Rd) (z:Bool) (l:List ByteArray) (h:l.length≤1000):f133 [.vp [EG r] 0 0,.vw z (l.map zA)]=some (.sc (.int .i64 (Wd (nxt r) l))):=AK (enc:=fun p:Rd × Bool × List ByteArray=>[.vp [EG p.1] 0 0,.vw p.2.1 (p.2.2.map zA)]) (r,z,l) h fun y h=>by
 obtain ⟨rfl,h2⟩:=N8 h
 simp only [lx94,AV.vw.injEq,AW] at h2
 obtain ⟨h3,h4⟩:=h2
 rw [←h3,←DM (f:=zA) (fun _ _=>Bac) h4]
theorem Nf:DC Tryz.prog 133 f133:=AN fun p h=>Bnz p.1 p.2.1 p.2.2 h
theorem Afr {t:Tok} (h:t.k=3) (s:ByteArray):O4 t s=false:=by unfold O4; rw [h]; rfl
theorem We {t:Tok} (h:∀ s,O4 t s=false) (l:List ByteArray):Wd t l=-1:=Anm fun _ _=>h _
theorem Ann {t:Tok} {l:List ByteArray} (h:∀ s ∈ l,O4 t s=false):Wd t l=-1:=by
 unfold Wd
 rw [List.findIdx?_eq_none_iff.2 fun x hx=>h x hx]
end Go.Proofs.YtdjpkhjaibdogaaGreat
