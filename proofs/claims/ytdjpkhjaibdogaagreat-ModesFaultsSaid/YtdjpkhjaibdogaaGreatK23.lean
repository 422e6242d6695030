/-
  Lemmas towards ModesFaults (joined texts: ZT, ZU, ZX, BA, BB, BC, BD).
  Conditions: none.
-/
import Derived.Test.YtdjpkhjaibdogaaGreatK12
import Derived.Test.YtdjpkhjaibdogaaGreatK13
import Derived.Test.YtdjpkhjaibdogaaGreatProg
import Derived.Test.YtdjpkhjaibdogaaGreatK01
import Derived.Test.YtdjpkhjaibdogaaGreatK15
import Derived.Test.YtdjpkhjaibdogaaGreatK17
import Derived.Test.YtdjpkhjaibdogaaGreatK02
set_option linter.unusedSimpArgs false
set_option linter.unusedVariables false
set_option maxRecDepth 100000
set_option maxHeartbeats 8000000
namespace Go.Proofs.YtdjpkhjaibdogaaGreat
open Go Go.SX
theorem ty0:AY Tryz.prog 0=some ⟨false,1,0,some (.tuple #[]),none,none,[]⟩:=by kernel_rfl
theorem ty3:AY Tryz.prog 3=some ⟨false,1,8,some (.int .i64 0),none,none,[]⟩:=by kernel_rfl
theorem un3:Tryz.prog.underlying 3=some (.int .i64):=by kernel_rfl
theorem ty4:AY Tryz.prog 4=some ⟨false,1,1,some (.bool false),none,none,[]⟩:=by kernel_rfl
theorem ty5:AY Tryz.prog 5=some ⟨false,1,1,some (.int .u8 0),none,none,[]⟩:=by kernel_rfl
theorem un5:Tryz.prog.underlying 5=some (.int .u8):=by kernel_rfl
theorem ty9:AY Tryz.prog 9=some ⟨false,1,16,some (.string ⟨#[]⟩),none,none,[]⟩:=by kernel_rfl
theorem un9:Tryz.prog.underlying 9=some .string:=by kernel_rfl
theorem Axj:AY Tryz.prog 22=some ⟨false,1,24,some (.slice none 0 0),some 5,none,[]⟩:=by kernel_rfl
theorem Axk:AY Tryz.prog 23=some ⟨false,1,24,some (.slice none 0 0),some 44,none,[]⟩:=by kernel_rfl
theorem Axl:AY Tryz.prog 24=some ⟨false,1,24,some (.slice none 0 0),some 46,none,[]⟩:=by kernel_rfl
theorem Axm:AY Tryz.prog 25=some ⟨false,1,8,some (.int .u64 0),none,none,[]⟩:=by kernel_rfl
theorem Axn:Tryz.prog.underlying 25=some (.int .u64):=by kernel_rfl
theorem Axo:Az (.agg #[.int .i64 0,.int .u64 0,.int .i64 0,.int .i64 0])=.ag [.sc (.int .i64 0),.sc (.int .u64 0),.sc (.int .i64 0),.sc (.int .i64 0)]:=rfl
theorem Axp:AY Tryz.prog 27=some ⟨true,4,32,some (.agg #[.int .i64 0,.int .u64 0,.int .i64 0,.int .i64 0]),none,none,[(0,3),(1,25),(2,3),(3,3)]⟩:=by kernel_rfl
theorem Axq:Az (.agg #[.slice none 0 0,.slice none 0 0,.int .i64 0,.int .u64 0,.int .i64 0,.int .i64 0])=.ag [.vw true [],.vw true [],.sc (.int .i64 0),.sc (.int .u64 0),.sc (.int .i64 0),.sc (.int .i64 0)]:=rfl
theorem Axr:AY Tryz.prog 29=some ⟨true,6,80,some (.agg #[.slice none 0 0,.slice none 0 0,.int .i64 0,.int .u64 0,.int .i64 0,.int .i64 0]),none,none,[(0,23),(1,24),(2,27)]⟩:=by kernel_rfl
theorem Axs:AY Tryz.prog 31=some ⟨false,1,24,some (.slice none 0 0),some 102,none,[]⟩:=by kernel_rfl
theorem Axt:AY Tryz.prog 32=some ⟨false,1,24,some (.slice none 0 0),some 9,none,[]⟩:=by kernel_rfl
theorem Axu:AY Tryz.prog 33=some ⟨false,1,24,some (.slice none 0 0),some 99,none,[]⟩:=by kernel_rfl
theorem Axv:AY Tryz.prog 34=some ⟨false,1,24,some (.slice none 0 0),some 3,none,[]⟩:=by kernel_rfl
theorem Axw:Az (.agg #[.slice none 0 0,.slice none 0 0,.slice none 0 0,.slice none 0 0,.slice none 0 0,.int .i64 0,.int .i64 0])=.ag [.vw true [],.vw true [],.vw true [],.vw true [],.vw true [],.sc (.int .i64 0),.sc (.int .i64 0)]:=rfl
theorem Axx:AY Tryz.prog 36=some ⟨true,7,136,some (.agg #[.slice none 0 0,.slice none 0 0,.slice none 0 0,.slice none 0 0,.slice none 0 0,.int .i64 0,.int .i64 0]),none,none,[(0,31),(1,32),(2,33),(3,34),(4,34),(5,3),(6,3)]⟩:=by kernel_rfl
theorem Axy:AY Tryz.prog 38=some ⟨false,1,4,some (.int .u32 0),none,none,[]⟩:=by kernel_rfl
theorem As4:Tryz.prog.underlying 38=some (.int .u32):=by kernel_rfl
theorem Axz:AY Tryz.prog 39=some ⟨false,1,24,some (.slice none 0 0),some 82,none,[]⟩:=by kernel_rfl
theorem Ay0:Az (.agg #[.slice none 0 0,.slice none 0 0,.int .u32 0,.slice none 0 0,.int .i64 0])=.ag [.vw true [],.vw true [],.sc (.int .u32 0),.vw true [],.sc (.int .i64 0)]:=rfl
theorem Ay1:AY Tryz.prog 41=some ⟨true,5,88,some (.agg #[.slice none 0 0,.slice none 0 0,.int .u32 0,.slice none 0 0,.int .i64 0]),none,none,[(0,34),(1,34),(2,38),(3,39),(4,3)]⟩:=by kernel_rfl
theorem Ay2:Az (.agg #[.int .i64 0,.bool false])=.ag [.sc (.int .i64 0),.sc (.bool false)]:=rfl
theorem Ay3:AY Tryz.prog 44=some ⟨true,2,16,some (.agg #[.int .i64 0,.bool false]),none,none,[(0,3),(1,4)]⟩:=by kernel_rfl
theorem Ay4:Az (.agg #[.int .i64 0,.int .i64 0,.int .i64 0])=.ag [.sc (.int .i64 0),.sc (.int .i64 0),.sc (.int .i64 0)]:=rfl
theorem Ay5:AY Tryz.prog 46=some ⟨true,3,24,some (.agg #[.int .i64 0,.int .i64 0,.int .i64 0]),none,none,[(0,3),(1,3),(2,3)]⟩:=by kernel_rfl
theorem Ay6:Tryz.prog.underlying 60=some (.int .u64):=by kernel_rfl
theorem Ay7:AY Tryz.prog 61=some ⟨false,1,24,some (.slice none 0 0),some 73,none,[]⟩:=by kernel_rfl
theorem Ay8:AY Tryz.prog 68=some ⟨false,1,24,some (.slice none 0 0),some 78,none,[]⟩:=by kernel_rfl
theorem Ay9:Az (.agg #[.int .i64 0,.int .i64 0,.int .i64 0,.int .i64 0,.string ⟨#[]⟩])=.ag [.sc (.int .i64 0),.sc (.int .i64 0),.sc (.int .i64 0),.sc (.int .i64 0),.sc (.string ⟨#[]⟩)]:=rfl
theorem Aya:AY Tryz.prog 73=some ⟨true,5,48,some (.agg #[.int .i64 0,.int .i64 0,.int .i64 0,.int .i64 0,.string ⟨#[]⟩]),none,none,[(0,3),(1,3),(2,3),(3,3),(4,9)]⟩:=by kernel_rfl
theorem Ayb:Az (.agg #[.int .i64 0,.int .i64 0,.int .i64 0,.int .i64 0])=.ag [.sc (.int .i64 0),.sc (.int .i64 0),.sc (.int .i64 0),.sc (.int .i64 0)]:=rfl
theorem Ayc:AY Tryz.prog 78=some ⟨true,4,32,some (.agg #[.int .i64 0,.int .i64 0,.int .i64 0,.int .i64 0]),none,none,[(0,3),(1,3),(2,3),(3,3)]⟩:=by kernel_rfl
theorem Ayd:Az (.agg #[.int .i64 0,.int .i64 0,.int .i64 0,.int .i64 0,.int .i64 0,.int .i64 0])=.ag [.sc (.int .i64 0),.sc (.int .i64 0),.sc (.int .i64 0),.sc (.int .i64 0),.sc (.int .i64 0),.sc (.int .i64 0)]:=rfl
theorem As5:AY Tryz.prog 82=some ⟨true,6,48,some (.agg #[.int .i64 0,.int .i64 0,.int .i64 0,.int .i64 0,.int .i64 0,.int .i64 0]),none,none,[(0,3),(1,3),(2,78)]⟩:=by kernel_rfl
theorem Aye:Az (.agg #[.slice none 0 0,.int .i64 0])=.ag [.vw true [],.sc (.int .i64 0)]:=rfl
theorem Ayf:AY Tryz.prog 96=some ⟨true,2,32,some (.agg #[.slice none 0 0,.int .i64 0]),none,none,[(0,22),(1,3)]⟩:=by kernel_rfl
theorem Ayg:AY Tryz.prog 99=some ⟨true,4,32,some (.agg #[.int .i64 0,.int .i64 0,.int .i64 0,.int .i64 0]),none,none,[(0,3),(1,3),(2,3),(3,3)]⟩:=by kernel_rfl
theorem Aph:Az (.agg #[.int .i64 0,.int .i64 0])=.ag [.sc (.int .i64 0),.sc (.int .i64 0)]:=rfl
theorem Api:AY Tryz.prog 102=some ⟨true,2,16,some (.agg #[.int .i64 0,.int .i64 0]),none,none,[(0,3),(1,3)]⟩:=by kernel_rfl
theorem Apj:Az (.agg #[.slice none 0 0,.slice none 0 0,.int .u64 0,.int .u32 0,.int .i64 0,.int .i64 0])=.ag [.vw true [],.vw true [],.sc (.int .u64 0),.sc (.int .u32 0),.sc (.int .i64 0),.sc (.int .i64 0)]:=rfl
theorem Apk:AY Tryz.prog 104=some ⟨true,6,80,some (.agg #[.slice none 0 0,.slice none 0 0,.int .u64 0,.int .u32 0,.int .i64 0,.int .i64 0]),none,none,[(0,34),(1,34),(2,25),(3,38),(4,3),(5,3)]⟩:=by kernel_rfl
theorem Apl:Az (.agg #[.slice none 0 0,.slice none 0 0,.slice none 0 0,.slice none 0 0,.slice none 0 0,.int .i64 0,.int .i64 0,.slice none 0 0,.slice none 0 0,.int .u32 0,.slice none 0 0,.int .i64 0,.int .i64 0,.int .u64 0,.int .i64 0,.int .i64 0,.slice none 0 0,.slice none 0 0])=.ag [.vw true [],.vw true [],.vw true [],.vw true [],.vw true [],.sc (.int .i64 0),.sc (.int .i64 0),.vw true [],.vw true [],.sc (.int .u32 0),.vw true [],.sc (.int .i64 0),.sc (.int .i64 0),.sc (.int .u64 0),.sc (.int .i64 0),.sc (.int .i64 0),.vw true [],.vw true []]:=rfl
theorem Apm:AY Tryz.prog 138=some ⟨true,18,304,some (.agg #[.slice none 0 0,.slice none 0 0,.slice none 0 0,.slice none 0 0,.slice none 0 0,.int .i64 0,.int .i64 0,.slice none 0 0,.slice none 0 0,.int .u32 0,.slice none 0 0,.int .i64 0,.int .i64 0,.int .u64 0,.int .i64 0,.int .i64 0,.slice none 0 0,.slice none 0 0]),none,none,[(0,36),(7,41),(12,27),(16,61),(17,24)]⟩:=by kernel_rfl
theorem Apn:AY Tryz.prog 143=some ⟨true,18,304,some (.agg #[.slice none 0 0,.slice none 0 0,.slice none 0 0,.slice none 0 0,.slice none 0 0,.int .i64 0,.int .i64 0,.slice none 0 0,.slice none 0 0,.int .u32 0,.slice none 0 0,.int .i64 0,.int .i64 0,.int .u64 0,.int .i64 0,.int .i64 0,.slice none 0 0,.slice none 0 0]),none,none,[(0,36),(7,41),(12,27),(16,61),(17,24)]⟩:=by kernel_rfl
theorem Ayh:flK Tryz.prog 46=some [.i .i64,.i .i64,.i .i64]:=by kernel_rfl
theorem Ayi:flK Tryz.prog 73=some [.i .i64,.i .i64,.i .i64,.i .i64,.s]:=by kernel_rfl
theorem Ayj:flK Tryz.prog 78=some [.i .i64,.i .i64,.i .i64,.i .i64]:=by kernel_rfl
theorem Ayk:flK Tryz.prog 82=some [.i .i64,.i .i64,.i .i64,.i .i64,.i .i64,.i .i64]:=by kernel_rfl
theorem D5:type_of% (aI (aI (aI (b8 (b8 @ty3 @un3 @ty4 @ty5 @un5 @ty9 @Axj @Axk) (b8 @Axl @Axm @Axn @Axp @Axr @Axs @Axt @Axu) (b8 @Axv @Axx @Axy @As4 @Axz @Ay1 @Ay3 @Ay5) (b8 @Ay6 @Ay7 @Ay8 @Aya @Ayc @As5 @Ayf @Ayg) (b8 @Api @Apk @Apm @Apn @Ayh @Ayi @Ayj @Ayk) (b8 @Axo @Axq @Axw @Ay0 @Ay2 @Ay4 @Ay9 @Ayb) @Ayd @Aye) @Aph) @Apj) @Apl):=aI (aI (aI (b8 (b8 @ty3 @un3 @ty4 @ty5 @un5 @ty9 @Axj @Axk) (b8 @Axl @Axm @Axn @Axp @Axr @Axs @Axt @Axu) (b8 @Axv @Axx @Axy @As4 @Axz @Ay1 @Ay3 @Ay5) (b8 @Ay6 @Ay7 @Ay8 @Aya @Ayc @As5 @Ayf @Ayg) (b8 @Api @Apk @Apm @Apn @Ayh @Ayi @Ayj @Ayk) (b8 @Axo @Axq @Axw @Ay0 @Ay2 @Ay4 @Ay9 @Ayb) @Ayd @Aye) @Aph) @Apj) @Apl
theorem Apo:AY Tryz.prog 216=some ⟨false,1,24,some (.slice none 0 0),some 218,none,[]⟩:=by kernel_rfl
theorem Apq:AY Tryz.prog 218=some ⟨true,2,16,some (.agg #[.int .i64 0,.int .i64 0]),none,none,[(0,3),(1,3)]⟩:=by kernel_rfl
theorem Apr:Az (.agg #[.slice none 0 0,.slice none 0 0,.slice none 0 0,.slice none 0 0,.slice none 0 0,.int .i64 0,.int .i64 0,.slice none 0 0,.slice none 0 0,.int .u64 0,.int .u32 0,.int .i64 0,.int .i64 0,.int .i64 0,.bool false,.slice none 0 0,.slice none 0 0])=.ag [.vw true [],.vw true [],.vw true [],.vw true [],.vw true [],.sc (.int .i64 0),.sc (.int .i64 0),.vw true [],.vw true [],.sc (.int .u64 0),.sc (.int .u32 0),.sc (.int .i64 0),.sc (.int .i64 0),.sc (.int .i64 0),.sc (.bool false),.vw true [],.vw true []]:=rfl
theorem Aps:AY Tryz.prog 253=some ⟨true,17,280,some (.agg #[.slice none 0 0,.slice none 0 0,.slice none 0 0,.slice none 0 0,.slice none 0 0,.int .i64 0,.int .i64 0,.slice none 0 0,.slice none 0 0,.int .u64 0,.int .u32 0,.int .i64 0,.int .i64 0,.int .i64 0,.bool false,.slice none 0 0,.slice none 0 0]),none,none,[(0,36),(7,104),(13,3),(14,4),(15,34),(16,61)]⟩:=by kernel_rfl
theorem Apt:Az (.agg #[.slice none 0 0,.slice none 0 0,.slice none 0 0,.slice none 0 0,.slice none 0 0,.int .i64 0,.int .i64 0,.slice none 0 0,.slice none 0 0,.int .u64 0,.int .u32 0,.int .i64 0,.int .i64 0,.slice none 0 0,.slice none 0 0,.slice none 0 0,.int .i64 0,.int .i64 0,.bool false])=.ag [.vw true [],.vw true [],.vw true [],.vw true [],.vw true [],.sc (.int .i64 0),.sc (.int .i64 0),.vw true [],.vw true [],.sc (.int .u64 0),.sc (.int .u32 0),.sc (.int .i64 0),.sc (.int .i64 0),.vw true [],.vw true [],.vw true [],.sc (.int .i64 0),.sc (.int .i64 0),.sc (.bool false)]:=rfl
theorem Apu:AY Tryz.prog 269=some ⟨true,19,312,some (.agg #[.slice none 0 0,.slice none 0 0,.slice none 0 0,.slice none 0 0,.slice none 0 0,.int .i64 0,.int .i64 0,.slice none 0 0,.slice none 0 0,.int .u64 0,.int .u32 0,.int .i64 0,.int .i64 0,.slice none 0 0,.slice none 0 0,.slice none 0 0,.int .i64 0,.int .i64 0,.bool false]),none,none,[(0,36),(7,104),(13,34),(14,34),(15,61),(16,3),(17,3),(18,4)]⟩:=by kernel_rfl
theorem Qc:type_of% (aI (aI (aI (aI (aI @Apo @Apq) @Aps) @Apu) @Apr) @Apt):=aI (aI (aI (aI (aI @Apo @Apq) @Aps) @Apu) @Apr) @Apt
end Go.Proofs.YtdjpkhjaibdogaaGreat
namespace Go.Proofs.YtdjpkhjaibdogaaGreat
open Go Go.SX
attribute [local congr] ite_congr
theorem Bd {x:Int} (h:-9223372036854775808≤x) (h':x < 9223372036854775808):IntKind.i64.wrap x=x:=by
 rw [IntKind.wrap_i64]; omega
theorem As6 {α:Type} [Inhabited α] {p:α→Bool} {l:List α} {r:Nat} (hr:r < l.length) (h:p (l.getD r default)=true):l.any p=true:=by
 rw [lx80,lx51 hr,lx10] at h
 exact List.any_eq_true.2 ⟨_,lx90 hr,h⟩
theorem PM {α:Type} [Inhabited α] {p:α→Bool} {l:List α} (h:∀ j,j < l.length→p (l.getD j default)=false):l.any p=false:=by
 rw [lx97]
 intro x hx
 obtain ⟨j,hj,rfl⟩:=lx69 hx
 have:=h j hj
 rw [lx80,lx51 hj,lx10] at this
 rw [this]; decide
theorem CM {α:Type} [Inhabited α] {l:List α} {i:Nat} (h:i < l.length):l.getD i default ∈ l:=by
 rw [lx80,lx51 h]; exact lx90 h
theorem Cl {p:Nat→Prop} {k:Nat} (h:∀ j,j < k→p j) (hk:p k):∀ j,j < k+1→p j:=fun j hj=>by
 rcases DF j k with h' | h'
 ·exact h j h'
 ·have:j=k:=by omega
  rw [this]; exact hk
theorem AA {α:Type} [Inhabited α] {f:α→AV} {l:List α} {n:Nat} (h:decide (n < l.length)=true):(l.map f)[n]?=some (f (l.getD n default)):=Zs (by simpa using h)
structure In where
 op:Int
 a:Int
 deriving DecidableEq
instance:Inhabited In:=⟨⟨0,0⟩⟩
def BS (x:In):AV:=.ag [kA .i64 x.op,kA .i64 x.a]
theorem AX (x:In):BS x=.ag [.sc (.int .i64 x.op),.sc (.int .i64 x.a)]:=rfl
theorem Aa0 {x y:In} (h:BS x=BS y):x=y:=by
 cases x; cases y; simp_all [BS,kA]
theorem Alk {l m:List In}:l.map BS=m.map BS↔l=m:=⟨DX (fun _ _=>Aa0),fun h=>by rw [h]⟩
theorem AJ (l:List In):CY 2 (l.map BS)=true:=Dy (f:=BS) (fun _=>rfl) l
theorem KO (l:List In):norefs (l.map BS)=true:=C8 (f:=BS) (fun _=>by simp [BS,kA,AV.noref,norefs]) l
structure En where
 mo:Int
 tr:Int
 ix:Int
 pc:Int
 deriving DecidableEq
instance:Inhabited En:=⟨⟨0,0,0,0⟩⟩
def DP (x:En):AV:=.ag [kA .i64 x.mo,kA .i64 x.tr,kA .i64 x.ix,kA .i64 x.pc]
theorem Cf (x:En):DP x=.ag [.sc (.int .i64 x.mo),.sc (.int .i64 x.tr),.sc (.int .i64 x.ix),.sc (.int .i64 x.pc)]:=rfl
theorem IA {x y:En} (h:DP x=DP y):x=y:=by
 cases x; cases y; simp_all [DP,kA]
theorem All {l m:List En}:l.map DP=m.map DP↔l=m:=⟨DX (fun _ _=>IA),fun h=>by rw [h]⟩
theorem Dk (l:List En):CY 4 (l.map DP)=true:=Dy (f:=DP) (fun _=>rfl) l
theorem XC (l:List En):norefs (l.map DP)=true:=C8 (f:=DP) (fun _=>by simp [DP,kA,AV.noref,norefs]) l
theorem HZ {l m:List Int}:l.map (kA .i64)=m.map (kA .i64)↔l=m:=⟨DX (fun _ _=>Bt),fun h=>by rw [h]⟩
theorem Cm (l:List Int):norefs (l.map (kA .i64))=true:=C8 (f:=kA .i64) (fun _=>by simp [kA,AV.noref]) l
def stA (b:ByteArray):AV:=.sc (.string b)
theorem Dl (b:ByteArray):stA b=.sc (.string b):=rfl
theorem Tf {x y:ByteArray} (h:stA x=stA y):x=y:=by simpa [stA] using h
theorem Alm {l m:List ByteArray}:l.map stA=m.map stA↔l=m:=⟨DX (fun _ _=>Tf),fun h=>by rw [h]⟩
theorem MD (l:List ByteArray):CY 1 (l.map stA)=true:=Dy (f:=stA) (fun _=>rfl) l
theorem XD (l:List ByteArray):norefs (l.map stA)=true:=C8 (f:=stA) (fun _=>by simp [stA,AV.noref]) l
structure Cd where
 zi:Bool
 ins:List In
 zs:Bool
 strs:List ByteArray
 ze:Bool
 ens:List En
 zp:Bool
 pri:List Int
 zv:Bool
 vars:List Int
 tim:Int
 evs:Int
instance:Inhabited Cd:=⟨⟨true,[],true,[],true,[],true,[],true,[],0,0⟩⟩
def B5 (c:Cd):AV:=.ag [.vw c.zi (c.ins.map BS),.vw c.zs (c.strs.map stA),.vw c.ze (c.ens.map DP),.vw c.zp (c.pri.map (kA .i64)),.vw c.zv (c.vars.map (kA .i64)),kA .i64 c.tim,kA .i64 c.evs]
theorem Ac (c:Cd):B5 c=.ag [.vw c.zi (c.ins.map BS),.vw c.zs (c.strs.map stA),.vw c.ze (c.ens.map DP),.vw c.zp (c.pri.map (kA .i64)),.vw c.zv (c.vars.map (kA .i64)),.sc (.int .i64 c.tim),.sc (.int .i64 c.evs)]:=rfl
theorem CV {x y:Cd} (h:B5 x=B5 y):x=y:=by
 cases x; cases y; simp_all [B5,kA,Alk,All,HZ,Alm]
theorem Ac0 (c:Cd):(B5 c).noref=true:=by simp [B5,kA,AV.noref,norefs]
structure Fit (c:Cd):Prop where
 ins:c.ins.length≤100000
 strs:c.strs.length≤100000
 ens:c.ens.length≤100000
 pri:c.pri.length≤100000
 vars:c.vars.length≤100000
 tim:-1000000≤c.tim∧c.tim≤1000000
 evs:-1000000≤c.evs∧c.evs≤1000000
 str:∀ b ∈ c.strs,b.size≤100000
def HD (n lo hi:Int):Bool:=decide (lo≤n) && decide (n≤hi)
theorem Du {n lo hi:Int}:HD n lo hi=true↔lo≤n∧n≤hi:=by simp [HD]
noncomputable def f99:=EP (fun _:Int × Int × Int=>True) (fun p=>[kA .i64 p.1,kA .i64 p.2.1,kA .i64 p.2.2]) (fun p=>bA (HD p.1 p.2.1 p.2.2))
theorem XE (n lo hi:Int):f99 [.sc (.int .i64 n),.sc (.int .i64 lo),.sc (.int .i64 hi)]=some (.sc (.bool (HD n lo hi))):=
 (AG (q:=fun _:Int × Int × Int=>True) (enc:=fun p=>[kA .i64 p.1,kA .i64 p.2.1,kA .i64 p.2.2]) (out:=fun p=>bA (HD p.1 p.2.1 p.2.2)) (n,lo,hi) trivial (by rintro ⟨a,b,c⟩ h; simp_all [kA]) :)
theorem PN:Eb Tryz.prog 184 f99:=AQ <| by
 rintro ⟨n,lo,hi⟩ -
 refine Ab (Aq (.nil) (.nil)) rfl Tryz.func184 rfl (by decide) (by kernel_rfl) (by kernel_rfl) ?_
 simp only [Tryz.f184,Af,lx53,lx63,Nat.reduceAdd,Nat.reduceSub,List.replicate]
 exact Aug
theorem Aln:Eb Tryz.prog 57 f99:=AQ <| by
 rintro ⟨n,lo,hi⟩ -
 refine Ab (Aq (.nil) (.nil)) rfl Tryz.func57 rfl (by decide) (by kernel_rfl) (by kernel_rfl) ?_
 simp only [Tryz.f57,Af,lx53,lx63,Nat.reduceAdd,Nat.reduceSub,List.replicate]
 exact Aug
def Eg (op:Int):Bool:=(op == 12) || (op == 13) || (op == 14)
noncomputable def f194:=EP (fun _:Int=>True) (fun x=>[kA .i64 x]) (fun x=>bA (Eg x))
theorem Ayl (x:Int):f194 [.sc (.int .i64 x)]=some (.sc (.bool (Eg x))):=
 (AG (q:=fun _:Int=>True) (enc:=fun x=>[kA .i64 x]) (out:=fun x=>bA (Eg x)) x trivial (by intro y h; simp_all [kA]) :)
theorem Apv:Eb Tryz.prog 194 f194:=AQ <| by
 rintro x -
 refine Ab (Aq (.nil) (.nil)) rfl Tryz.func194 rfl (by decide) (by kernel_rfl) (by kernel_rfl) ?_
 simp only [Tryz.f194,Af,lx53,lx63,Nat.reduceAdd,Nat.reduceSub,List.replicate]
 refine Aa ?_
 simp (maxSteps:=10000000) +contextual -implicitDefEqProofs only [Bk,Bg,Ao,St.put,↓reduceIte,AB,AU,Eg,Bool.or_assoc]
 all_goals done
def H4 (a b:En):Bool:=if a.mo=b.mo then if a.tr=b.tr then decide (a.ix < b.ix) else decide (a.tr < b.tr) else decide (a.mo < b.mo)
noncomputable def Aym:=EP (fun _:En × En=>True) (fun p=>[DP p.1,DP p.2]) (fun p=>bA (H4 p.1 p.2))
theorem Be5 (a b:En):Aym [DP a,DP b]=some (.sc (.bool (H4 a b))):=
 (AG (q:=fun _:En × En=>True) (enc:=fun p=>[DP p.1,DP p.2]) (out:=fun p=>bA (H4 p.1 p.2)) (a,b) trivial (by
  rintro ⟨x,y⟩ h
  simp only [lx96,Ay] at h
  rw [IA h.1,IA h.2]) :)
theorem Ayn:Eb Tryz.prog 145 Aym:=AQ <| by
 rintro ⟨a,b⟩ -
 refine Ab (Aq (.nil) (.nil)) rfl Tryz.func145 rfl (by decide) (by kernel_rfl) (by kernel_rfl) ?_
 simp only [Tryz.f145,Af,lx53,lx63,Nat.reduceAdd,Nat.reduceSub,List.replicate]
 exact Bcs
theorem Fi {P:Program} {f:Nat} {args:List AV} {r:AV} (h:CO P f args r):∃ F,Eb P f F∧F args=some r:=by
 refine ⟨fun a=>open Classical in if a=args then some r else none,?_,by simp⟩
 intro a v hv
 simp only at hv
 split at hv
 ·rename_i e; subst e; cases hv; exact h
 ·cases hv
theorem Ayo {g:Nat} {F:List AV→Option AV} (ok:Eb Tryz.prog g F) (p:ByteArray→Bool) (z:Bool) (l:List ByteArray) (he:∀ x ∈ l,F (stA x::[])=some (bA (p x))) (hlL:l.length≤1000000):
  CO Tryz.prog 219 [.vw z (l.map stA),.fn g []] (kA .i64 (Mo p l)):=by
 refine Ab (Aq ((.cons ok .nil)) (.nil)) rfl Tryz.func219 rfl (by decide) (by kernel_rfl) (by kernel_rfl) ?_
 simp only [Tryz.f219,Af,lx53,lx63,Nat.reduceAdd,Nat.reduceSub,List.replicate]
 refine qd4 ?_
 refine Aw (σ:=Nat) (fun r cnt=>⟨Cg 0 19 [(0,.vw z (l.map stA)),(1,.fn g []),(7,.sc (.int .i64 l.length)),(8,.sc (.int .i64 r))],[],cnt⟩)
  (fun r=>r≤l.length∧∀ j,j < r→p (l.getD j default)=false) (fun r=>l.length - r) 0 ⟨by omega,by omega⟩ ?_ trivial rfl ?_
 ·exact IZ
 rintro r cnt ⟨hr,hn⟩ ih
 refine Aa ?_
 by_cases hr':r < l.length
 ·have h1:decide ((r:Int) < (l.length:Int))=true:=by rw [AR]; omega
  have h2:decide (r < l.length)=true:=Aj
  have w1:IntKind.i64.wrap ((r:Int)+1)=((r+1:Nat):Int):=AK
  have hm:=CM hr'
  obtain ⟨x,hx⟩:∃ x,l.getD r default=x:=⟨_,rfl⟩
  have e1:=he x (by rw [←hx]; exact hm)
  simp only [Dl,AU] at e1
  by_cases hv:p (l.getD r default)=true
  ·have e:=JN (p:=p) hr' hv hn
   rw [hx] at hv
   refine CL ?_
   exact MU (a8 h1 h2 hx e1 hv e @Dl @MD)
  ·rw [GY] at hv
   have e:=Cl hn hv
   rw [hx] at hv
   refine CL ?_
   refine Nw (a8 h1 h2 hx e1 hv w1 @Dl @MD) ?_
   exact Qw
 ·exact qc8
theorem Ayp {g:Nat} {F:List AV→Option AV} (ok:Eb Tryz.prog g F) (p:ByteArray→Bool) (z:Bool) (l:List ByteArray) (he:∀ x ∈ l,F (stA x::[])=some (bA (p x))) (hlL:l.length≤1000000):
  CO Tryz.prog 185 [.vw z (l.map stA),.fn g []] (bA (l.any p)):=by
 obtain ⟨F1,k1,e1⟩:=Fi (Ayo ok p z l he hlL)
 simp only [AB] at e1
 refine Ab (Aq ((.cons k1 .nil)) (.nil)) rfl Tryz.func185 rfl (by decide) (by kernel_rfl) (by kernel_rfl) ?_
 simp only [Tryz.f185,Af,lx53,lx63,Nat.reduceAdd,Nat.reduceSub,List.replicate]
 refine Aa ?_
 exact MU e1
theorem Ayq {g:Nat} {F:List AV→Option AV} (ok:Eb Tryz.prog g F) (p:Int→Bool) (z:Bool) (l:List Int) (he:∀ x ∈ l,F (kA .i64 x::[])=some (bA (p x))) (hlL:l.length≤1000000):
  CO Tryz.prog 159 [.vw z (l.map (kA .i64)),.fn g []] (kA .i64 (Mo p l)):=by
 refine Avw ?_
 refine qd4 ?_
 refine Aw (σ:=Nat) (fun r cnt=>⟨Cg 0 19 [(0,.vw z (l.map (kA .i64))),(1,.fn g []),(7,.sc (.int .i64 l.length)),(8,.sc (.int .i64 r))],[],cnt⟩)
  (fun r=>r≤l.length∧∀ j,j < r→p (l.getD j default)=false) (fun r=>l.length - r) 0 ⟨by omega,by omega⟩ ?_ trivial rfl ?_
 ·exact IZ
 exact Aoo
theorem Apw {g:Nat} {F:List AV→Option AV} (ok:Eb Tryz.prog g F) (p:Int→Bool) (z:Bool) (l:List Int) (he:∀ x ∈ l,F (kA .i64 x::[])=some (bA (p x))) (hlL:l.length≤1000000):
  CO Tryz.prog 116 [.vw z (l.map (kA .i64)),.fn g []] (bA (l.any p)):=by
 obtain ⟨F1,k1,e1⟩:=Fi (Ayq ok p z l he hlL)
 exact Auf
theorem Ayr {g:Nat} {F:List AV→Option AV} (ok:Eb Tryz.prog g F) (p:Int→Bool) (es:List AV) (z:Bool) (l:List Int) (he:∀ x ∈ l,F (kA .i64 x::[.vp es 0 0])=some (bA (p x))) (hlL:l.length≤1000000):
  CO Tryz.prog 159 [.vw z (l.map (kA .i64)),.fn g [.vp es 0 0]] (kA .i64 (Mo p l)):=by
 refine Avw ?_
 refine qd4 ?_
 refine Aw (σ:=Nat) (fun r cnt=>⟨Cg 0 19 [(0,.vw z (l.map (kA .i64))),(1,.fn g [.vp es 0 0]),(7,.sc (.int .i64 l.length)),(8,.sc (.int .i64 r))],[],cnt⟩)
  (fun r=>r≤l.length∧∀ j,j < r→p (l.getD j default)=false) (fun r=>l.length - r) 0 ⟨by omega,by omega⟩ ?_ trivial rfl ?_
 ·exact IZ
 exact Aoo
theorem Apx {g:Nat} {F:List AV→Option AV} (ok:Eb Tryz.prog g F) (p:Int→Bool) (es:List AV) (z:Bool) (l:List Int) (he:∀ x ∈ l,F (kA .i64 x::[.vp es 0 0])=some (bA (p x))) (hlL:l.length≤1000000):
  CO Tryz.prog 116 [.vw z (l.map (kA .i64)),.fn g [.vp es 0 0]] (bA (l.any p)):=by
 obtain ⟨F1,k1,e1⟩:=Fi (Ayr ok p es z l he hlL)
 exact Auf
theorem Ays {g:Nat} {F:List AV→Option AV} (ok:Eb Tryz.prog g F) (p:En→Bool) (es:List AV) (z:Bool) (l:List En) (he:∀ x ∈ l,F (DP x::[.vp es 0 0])=some (bA (p x))) (hlL:l.length≤1000000):
  CO Tryz.prog 220 [.vw z (l.map DP),.fn g [.vp es 0 0]] (kA .i64 (Mo p l)):=by
 refine Ab (Aq ((.cons ok .nil)) (.nil)) rfl Tryz.func220 rfl (by decide) (by kernel_rfl) (by kernel_rfl) ?_
 simp only [Tryz.f220,Af,lx53,lx63,Nat.reduceAdd,Nat.reduceSub,List.replicate]
 refine qd4 ?_
 refine Aw (σ:=Nat) (fun r cnt=>⟨Cg 0 19 [(0,.vw z (l.map DP)),(1,.fn g [.vp es 0 0]),(7,.sc (.int .i64 l.length)),(8,.sc (.int .i64 r))],[],cnt⟩)
  (fun r=>r≤l.length∧∀ j,j < r→p (l.getD j default)=false) (fun r=>l.length - r) 0 ⟨by omega,by omega⟩ ?_ trivial rfl ?_
 ·exact IZ
 rintro r cnt ⟨hr,hn⟩ ih
 refine Aa ?_
 by_cases hr':r < l.length
 ·have h1:decide ((r:Int) < (l.length:Int))=true:=by rw [AR]; omega
  have h2:decide (r < l.length)=true:=Aj
  have w1:IntKind.i64.wrap ((r:Int)+1)=((r+1:Nat):Int):=AK
  have hm:=CM hr'
  obtain ⟨x,hx⟩:∃ x,l.getD r default=x:=⟨_,rfl⟩
  have e1:=he x (by rw [←hx]; exact hm)
  simp only [Cf,AU] at e1
  by_cases hv:p (l.getD r default)=true
  ·have e:=JN (p:=p) hr' hv hn
   rw [hx] at hv
   refine CL ?_
   exact MU (a8 h1 h2 hx e1 hv e @Cf @Dk)
  ·rw [GY] at hv
   have e:=Cl hn hv
   rw [hx] at hv
   refine CL ?_
   refine Nw (a8 h1 h2 hx e1 hv w1 @Cf @Dk) ?_
   exact Qw
 ·exact qc8
theorem Ahe {g:Nat} {F:List AV→Option AV} (ok:Eb Tryz.prog g F) (p:En→Bool) (es:List AV) (z:Bool) (l:List En) (he:∀ x ∈ l,F (DP x::[.vp es 0 0])=some (bA (p x))) (hlL:l.length≤1000000):
  CO Tryz.prog 190 [.vw z (l.map DP),.fn g [.vp es 0 0]] (bA (l.any p)):=by
 obtain ⟨F1,k1,e1⟩:=Fi (Ays ok p es z l he hlL)
 simp only [AB] at e1
 refine Ab (Aq ((.cons k1 .nil)) (.nil)) rfl Tryz.func190 rfl (by decide) (by kernel_rfl) (by kernel_rfl) ?_
 simp only [Tryz.f190,Af,lx53,lx63,Nat.reduceAdd,Nat.reduceSub,List.replicate]
 refine Aa ?_
 exact MU e1
theorem Gk (op:Int):(op=1∨op=2∨op=3∨op=4∨op=5∨op=6∨op=7∨op=8∨op=9∨op=10∨op=11∨op=12∨op=13∨op=14∨op=15∨op=16∨op=17∨op=18∨op=19∨op=20∨op=21∨op=22∨op=23∨op=24∨op=25∨op=26∨op=27∨op=28∨op=29∨op=30∨op=31)∨∀ k:Int,1≤k→k≤31→(op == k)=false:=by
 by_cases h:1≤op∧op≤31
 ·left; omega
 ·right
  intro k h1 h2
  rw [lx113]
  omega
def B6 (op:Int):Int × Int × Int:=if op=1 then (0,1,1) else if op=2 then (0,1,2) else if op=3 then (1,0,2) else if op=4 then (0,1,3) else if op=5 then (0,1,4) else if op=6 then (0,1,5) else if op=7 then (0,1,0) else if op=8 then (0,1,0) else if op=9 then (1,1,0) else if op=10 then (1,1,0) else if op=11 then (2,1,6) else if op=12 then (0,0,7) else if op=13 then (1,0,7) else if op=14 then (1,1,7) else if op=15 then (1,0,0) else if op=16 then (0,0,8) else if op=17 then (0,0,8) else if op=18 then (0,0,8) else if op=19 then (1,0,9) else if op=20 then (2,0,9) else if op=21 then (1,0,5) else if op=22 then (0,0,5) else if op=23 then (0,0,4) else if op=24 then (0,0,4) else if op=25 then (0,0,10) else if op=26 then (0,0,9) else if op=27 then (0,0,9) else if op=28 then (0,0,9) else if op=29 then (1,0,11) else if op=30 then (0,0,0) else if op=31 then (0,0,0) else (0,0,-1)
noncomputable def f197:=EP (fun _:Int=>True) (fun x=>[kA .i64 x]) (fun x=>.tu [kA .i64 (B6 x).1,kA .i64 (B6 x).2.1])
theorem Be6 (x:Int):f197 [.sc (.int .i64 x)]=some (.tu [.sc (.int .i64 (B6 x).1),.sc (.int .i64 (B6 x).2.1)]):=
 (AG (q:=fun _:Int=>True) (enc:=fun x=>[kA .i64 x]) (out:=fun x=>.tu [kA .i64 (B6 x).1,kA .i64 (B6 x).2.1]) x trivial (by intro y h; simp only [lx96,Ay] at h; rw [Bt h]) :)
theorem Ayt:Eb Tryz.prog 197 f197:=AQ <| by
 rintro op -
 refine Ab (Aq (.nil) (.nil)) rfl Tryz.func197 rfl (by decide) (by kernel_rfl) (by kernel_rfl) ?_
 simp only [Tryz.f197,Af,lx53,lx63,Nat.reduceAdd,Nat.reduceSub,List.replicate]
 refine Aa ?_
 rcases Gk op with (rfl | rfl | rfl | rfl | rfl | rfl | rfl | rfl | rfl | rfl | rfl | rfl | rfl | rfl | rfl | rfl | rfl | rfl | rfl | rfl | rfl | rfl | rfl | rfl | rfl | rfl | rfl | rfl | rfl | rfl | rfl) | h
 rotate_right
 have g:∀ k:Int,1≤k→k≤31→(op=k)=False:=fun k h1 h2=>by have:=h k h1 h2; simpa using this
 ·exact Avj
 all_goals exact Av5
def Dc (c:Cd) (op:Int):Int × Int:=if op=1 then (-2147483647,2147483647) else if op=2 then (0,(c.vars.length - 1)) else if op=3 then (0,(c.vars.length - 1)) else if op=4 then (0,63) else if op=5 then (0,(c.pri.length - 1)) else if op=6 then (0,(c.tim - 1)) else if op=7 then (0,0) else if op=8 then (0,0) else if op=9 then (0,0) else if op=10 then (0,0) else if op=11 then (12,24) else if op=15 then (0,0) else if op=16 then (0,31) else if op=17 then (0,31) else if op=18 then (0,31) else if op=19 then (0,63) else if op=20 then (0,63) else if op=21 then (0,(c.tim - 1)) else if op=22 then (0,(c.tim - 1)) else if op=23 then (0,(c.pri.length - 1)) else if op=24 then (0,(c.pri.length - 1)) else if op=25 then (0,(c.evs - 1)) else if op=26 then (0,63) else if op=27 then (0,63) else if op=28 then (0,63) else if op=29 then (0,(c.strs.length - 1)) else if op=30 then (0,0) else if op=31 then (0,0) else (1,0)
theorem JY {c:Cd} (h:Fit c):IntKind.i64.wrap ((c.vars.length:Int) - 1)=(c.vars.length:Int) - 1∧IntKind.i64.wrap ((c.pri.length:Int) - 1)=(c.pri.length:Int) - 1∧
  IntKind.i64.wrap ((c.strs.length:Int) - 1)=(c.strs.length:Int) - 1∧IntKind.i64.wrap ((c.ins.length:Int) - 1)=(c.ins.length:Int) - 1∧IntKind.i64.wrap (c.tim - 1)=c.tim - 1∧IntKind.i64.wrap (c.evs - 1)=c.evs - 1:=by
 obtain ⟨h1,h2,h3,h4,h5,h6,h7⟩:=h
 refine ⟨Bd (by omega) (by omega),Bd (by omega) (by omega),Bd (by omega) (by omega),Bd (by omega) (by omega),Bd (by omega) (by omega),Bd (by omega) (by omega)⟩
noncomputable def f193:=EP (fun p:Cd × Int=>Fit p.1) (fun p=>[B5 p.1,kA .i64 p.2]) (fun p=>.tu [kA .i64 (Dc p.1 p.2).1,kA .i64 (Dc p.1 p.2).2])
theorem Be7 (c:Cd) (h:Fit c) (x:Int):f193 [B5 c,.sc (.int .i64 x)]=some (.tu [.sc (.int .i64 (Dc c x).1),.sc (.int .i64 (Dc c x).2)]):=
 (AG (q:=fun p:Cd × Int=>Fit p.1) (enc:=fun p=>[B5 p.1,kA .i64 p.2]) (out:=fun p=>.tu [kA .i64 (Dc p.1 p.2).1,kA .i64 (Dc p.1 p.2).2]) (c,x) h (by
  rintro ⟨a,b⟩ h
  simp only [lx96,Ay] at h
  rw [CV h.1,Bt h.2]) :)
theorem Ayu:Eb Tryz.prog 193 f193:=AQ <| by
 rintro ⟨c,op⟩ hq
 simp only at hq
 obtain ⟨w1,w2,w3,w4,w5,w6⟩:=JY hq
 refine Ab (Aq (.nil) (.nil)) rfl Tryz.func193 rfl (by decide) (by kernel_rfl) (by kernel_rfl) ?_
 simp only [Tryz.f193,Af,lx53,lx63,Nat.reduceAdd,Nat.reduceSub,List.replicate]
 refine Aa ?_
 rcases Gk op with (rfl | rfl | rfl | rfl | rfl | rfl | rfl | rfl | rfl | rfl | rfl | rfl | rfl | rfl | rfl | rfl | rfl | rfl | rfl | rfl | rfl | rfl | rfl | rfl | rfl | rfl | rfl | rfl | rfl | rfl | rfl) | h
 rotate_right
 have g:∀ k:Int,1≤k→k≤31→(op=k)=False:=fun k h1 h2=>by have:=h k h1 h2; simpa using this
 ·simp (maxSteps:=10000000) +contextual -implicitDefEqProofs only [Bk,Bg,St.put,↓reduceIte,Nat.reduceAdd,Int.reduceLE,Int.reduceAdd,Dq,AB,Ac,Dc,h,g]
  all_goals done
 all_goals simp (maxSteps:=10000000) +contextual -implicitDefEqProofs only [Bk,Bg,St.put,↓reduceIte,reduceCtorEq,Nat.reduceAdd,Int.reduceEq,Nat.reduceBEq,D5,Int.reduceAdd,Dq,AB,Ac,Int.reduceBEq,Dc,w1,w2,w3,w5,w6]
 all_goals done
def byN (b:ByteArray) (i:Nat):Nat:=(b.data.toList.getD i 0).toNat
theorem LN (H:List Blk) (b:ByteArray) (ag sz by' z fl):Afk Tryz.prog 9 H (.sc (.string b)) (some ⟨ag,sz,by',z,none,none,fl⟩)=some (.sc (.int .i64 b.size)):=by
 have h:Bp Tryz.prog (Builtin.len_ #[9] 0 #[.string b])=some (goInt b.size):=by
  unfold Bp Builtin.len_
  simp [Ai,Ak,Ar,un9]
 simp only [Afk,BZ,h]
 rfl
theorem Alo (b:ByteArray) (k:IntKind) (i:Nat) (h:decide (i < b.size)=true) (ag sz by' z fl):iaD Tryz.prog 9 (.sc (.string b)) (.sc (.int k i)) (some ⟨ag,sz,by',z,none,none,fl⟩)=some (.sc (.int .u8 (byN b i))):=by
 simp only [AR] at h
 have h:Bp Tryz.prog (Instr.index 9 (.string b) (.int k i))=some (.int .u8 (byN b i)):=by
  unfold Bp Instr.index
  have hl:i < b.data.toList.length:=h
  have h3:b[i]?=some (b.data.toList.getD i 0):=by
   rw [getElem?_pos b i h,lx80,lx51 hl,lx10]; rfl
  have h0:(0:Int)≤(i:Int):=Nv i
  simp only [Ai,asIntOf,Ak,lx17,Ar,un9,if_pos h0,K4,h3,byN]
 simp only [iaD,BZ,h]
 rfl
def Wn (b:ByteArray) (i:Nat):Bool:=decide ((byN b i:Int) < 32) || decide ((126:Int) < (byN b i:Int))
def Gs (b:ByteArray):Bool:=!(List.range b.size).any (Wn b) && decide ((b.size:Int)≤32)
theorem H5 {p:Nat→Bool} {n:Nat}:(List.range n).any p=true↔∃ i,i < n∧p i=true:=Br
theorem Ahf {b:ByteArray} {i:Nat} (hi:i < b.size) (h:Wn b i=true):Gs b=false:=by
 rw [Gs,H5.2 ⟨i,hi,h⟩]; rfl
theorem Ac1 {b:ByteArray} (h:∀ i,i < b.size→Wn b i=false):Gs b=decide ((b.size:Int)≤32):=by
 have:(List.range b.size).any (Wn b)=false:=by
  rw [K5]
  intro hc
  obtain ⟨i,hi,h2⟩:=H5.1 hc
  rw [h i hi] at h2; cases h2
 rw [Gs,this]; rfl
noncomputable def f187:=EP (fun b:ByteArray=>b.size≤100000) (fun b=>[stA b]) (fun b=>bA (Gs b))
theorem Be8 (b:ByteArray) (h:b.size≤100000):f187 [.sc (.string b)]=some (.sc (.bool (Gs b))):=
 (AG (q:=fun b:ByteArray=>b.size≤100000) (enc:=fun b=>[stA b]) (out:=fun b=>bA (Gs b)) b h (by intro y h; simp only [lx96,Ay] at h; rw [Tf h]) :)
theorem Ayv:Eb Tryz.prog 187 f187:=AQ <| by
 rintro b hb
 refine Ab (Aq (.nil) (.nil)) rfl Tryz.func187 rfl (by decide) (by kernel_rfl) (by kernel_rfl) ?_
 simp only [Tryz.f187,Af,lx53,lx63,Nat.reduceAdd,Nat.reduceSub,List.replicate]
 refine Aa ?_
 simp (maxSteps:=10000000) +contextual -implicitDefEqProofs only [Bk,Bg,St.put,AU,Dl]
 refine Aw (σ:=Nat) (fun r cnt=>⟨Cg 0 23 [(0,.sc (.string b)),(3,.sc (.int .i64 r))],[],cnt⟩)
  (fun r=>r≤b.size∧∀ j,j < r→Wn b j=false) (fun r=>b.size - r) 0 ⟨by omega,by omega⟩ ?_ trivial rfl ?_
 ·exact IZ
 rintro r cnt ⟨hr,hn⟩ ih
 refine Aa ?_
 by_cases hr':r < b.size
 ·have h1:decide ((r:Int) < (b.size:Int))=true:=by rw [AR]; omega
  have h2:decide (r < b.size)=true:=Aj
  have w1:IntKind.i64.wrap ((r:Int)+1)=((r+1:Nat):Int):=AK
  have hi:=Alo b .i64 r h2
  obtain ⟨v,hv⟩:∃ v,byN b r=v:=⟨_,rfl⟩
  have hd:=hn
  cases hb2:Wn b r with
  | true=>
   have e:=Ahf hr' hb2
   simp only [Wn,hv] at hb2
   cases c1:decide ((v:Int) < 32) with
   | true=>
    exact Av6
   | false=>
    exact Auw
  | false=>
   exact Avq
 ·exact Bcx
noncomputable def f186:=EP (fun b:ByteArray=>b.size≤100000) (fun b=>[stA b]) (fun b=>bA (!Gs b))
theorem Be9 (b:ByteArray) (h:b.size≤100000):f186 [stA b]=some (bA (!Gs b)):=
 (AG (q:=fun b:ByteArray=>b.size≤100000) (enc:=fun b=>[stA b]) (out:=fun b=>bA (!Gs b)) b h (by intro y h; simp only [lx96,Ay] at h; rw [Tf h]) :)
theorem Ayw:Eb Tryz.prog 186 f186:=AQ <| by
 rintro b hb
 refine Ab (Aq ((.cons Ayv .nil)) (.nil)) rfl Tryz.func186 rfl (by decide) (by kernel_rfl) (by kernel_rfl) ?_
 simp only [Tryz.f186,Af,lx53,lx63,Nat.reduceAdd,Nat.reduceSub,List.replicate]
 refine Aa ?_
 simp (maxSteps:=10000000) +contextual -implicitDefEqProofs only [Bk,Bg,St.put,Ap,Al,D8,pl,↓reduceIte,Dq,AU,Dl,Be8 b hb]
def prB (x:Int):Bool:=!HD x 0 99
noncomputable def f188:=EP (fun _:Int=>True) (fun x=>[kA .i64 x]) (fun x=>bA (prB x))
theorem Bea (x:Int):f188 [kA .i64 x]=some (bA (prB x)):=
 (AG (q:=fun _:Int=>True) (enc:=fun x=>[kA .i64 x]) (out:=fun x=>bA (prB x)) x trivial (by intro y h; simp only [lx96,Ay] at h; rw [Bt h]) :)
theorem Ayx:Eb Tryz.prog 188 f188:=AQ <| by
 rintro x -
 refine Ab (Aq ((.cons PN .nil)) (.nil)) rfl Tryz.func188 rfl (by decide) (by kernel_rfl) (by kernel_rfl) ?_
 simp only [Tryz.f188,Af,lx53,lx63,Nat.reduceAdd,Nat.reduceSub,List.replicate]
 refine Aa ?_
 simp (maxSteps:=10000000) +contextual -implicitDefEqProofs only [Bk,Bg,St.put,Ap,Al,D8,pl,↓reduceIte,Dq,AB,AU,XE,prB]
def vaB (x:Int):Bool:=!HD x (-2147483647) 2147483647
noncomputable def f189:=EP (fun _:Int=>True) (fun x=>[kA .i64 x]) (fun x=>bA (vaB x))
theorem Beb (x:Int):f189 [kA .i64 x]=some (bA (vaB x)):=
 (AG (q:=fun _:Int=>True) (enc:=fun x=>[kA .i64 x]) (out:=fun x=>bA (vaB x)) x trivial (by intro y h; simp only [lx96,Ay] at h; rw [Bt h]) :)
theorem Ayy:Eb Tryz.prog 189 f189:=AQ <| by
 rintro x -
 refine Ab (Aq ((.cons PN .nil)) (.nil)) rfl Tryz.func189 rfl (by decide) (by kernel_rfl) (by kernel_rfl) ?_
 simp only [Tryz.f189,Af,lx53,lx63,Nat.reduceAdd,Nat.reduceSub,List.replicate]
 refine Aa ?_
 simp (maxSteps:=10000000) +contextual -implicitDefEqProofs only [Bk,Bg,St.put,Ap,Al,D8,pl,↓reduceIte,Dq,AB,AU,XE,vaB]
def IB (c:Cd) (e:En):Bool:=HD e.mo 0 (c.pri.length - 1) &&
 (if e.tr=1∨e.tr=2 then e.ix == 0 else if e.tr=3∨e.tr=4 then HD e.ix 0 63 else if e.tr=5 then HD e.ix 0 (c.tim - 1) else if e.tr=6 then HD e.ix 0 (c.evs - 1) else false)
noncomputable def f192:=EP (fun p:Cd × En=>Fit p.1) (fun p=>[B5 p.1,DP p.2]) (fun p=>bA (IB p.1 p.2))
theorem Bec (c:Cd) (h:Fit c) (x:En):f192 [B5 c,DP x]=some (.sc (.bool (IB c x))):=
 (AG (q:=fun p:Cd × En=>Fit p.1) (enc:=fun p=>[B5 p.1,DP p.2]) (out:=fun p=>bA (IB p.1 p.2)) (c,x) h (by
  rintro ⟨a,b⟩ h
  simp only [lx96,Ay] at h
  rw [CV h.1,IA h.2]) :)
theorem Ayz:Eb Tryz.prog 192 f192:=AQ <| by
 rintro ⟨c,⟨mo,tr,ix,pc⟩⟩ hq
 simp only at hq
 obtain ⟨w1,w2,w3,w4,w5,w6⟩:=JY hq
 refine Ab (Aq ((.cons PN .nil)) (.nil)) rfl Tryz.func192 rfl (by decide) (by kernel_rfl) (by kernel_rfl) ?_
 simp only [Tryz.f192,Af,lx53,lx63,Nat.reduceAdd,Nat.reduceSub,List.replicate]
 refine Aa ?_
 cases h0:HD mo 0 (c.pri.length - 1) with
 | false=>
  exact Bd7
 | true=>
 rcases (by omega:tr=1∨tr=2∨tr=3∨tr=4∨tr=5∨tr=6∨(tr < 1∨6 < tr)) with rfl | rfl | rfl | rfl | rfl | rfl | h
 rotate_right
 ·exact Bct
 all_goals exact Bd5
noncomputable def f191:=EP (fun p:En × Cd=>Fit p.2) (fun p=>[DP p.1,.vp [B5 p.2] 0 0]) (fun p=>bA (!IB p.2 p.1))
theorem Bed (c:Cd) (h:Fit c) (x:En):f191 [DP x,.vp [B5 c] 0 0]=some (bA (!IB c x)):=
 (AG (q:=fun p:En × Cd=>Fit p.2) (enc:=fun p=>[DP p.1,.vp [B5 p.2] 0 0]) (out:=fun p=>bA (!IB p.2 p.1)) (x,c) h (by
  rintro ⟨a,b⟩ h
  simp only [lx96,AV.vp.injEq,Ay] at h
  rw [CV h.2,IA h.1]) :)
theorem Az0:Eb Tryz.prog 191 f191:=AQ <| by
 rintro ⟨x,c⟩ hq
 simp only at hq
 have e1:=Bec c hq x
 simp only [Ac,Cf] at e1
 refine Ab (Aq ((.cons Ayz .nil)) (.nil)) rfl Tryz.func191 rfl (by decide) (by kernel_rfl) (by kernel_rfl) ?_
 simp only [Tryz.f191,Af,lx53,lx63,Nat.reduceAdd,Nat.reduceSub,List.replicate]
 refine Aa ?_
 exact MU (a3 e1 @Cf @Ac)
 all_goals done
def tgB (c:Cd) (e:En):Bool:=!HD e.pc 0 (c.ins.length - 1)
noncomputable def f195:=EP (fun p:En × Cd=>Fit p.2) (fun p=>[DP p.1,.vp [B5 p.2] 0 0]) (fun p=>bA (tgB p.2 p.1))
theorem Bee (c:Cd) (h:Fit c) (x:En):f195 [DP x,.vp [B5 c] 0 0]=some (bA (tgB c x)):=
 (AG (q:=fun p:En × Cd=>Fit p.2) (enc:=fun p=>[DP p.1,.vp [B5 p.2] 0 0]) (out:=fun p=>bA (tgB p.2 p.1)) (x,c) h (by
  rintro ⟨a,b⟩ h
  simp only [lx96,AV.vp.injEq,Ay] at h
  rw [CV h.2,IA h.1]) :)
theorem Az1:Eb Tryz.prog 195 f195:=AQ <| by
 rintro ⟨x,c⟩ hq
 simp only at hq
 obtain ⟨w1,w2,w3,w4,w5,w6⟩:=JY hq
 refine Ab (Aq ((.cons PN .nil)) (.nil)) rfl Tryz.func195 rfl (by decide) (by kernel_rfl) (by kernel_rfl) ?_
 simp only [Tryz.f195,Af,lx53,lx63,Nat.reduceAdd,Nat.reduceSub,List.replicate]
 refine Aa ?_
 simp (maxSteps:=10000000) +contextual -implicitDefEqProofs only [Bk,Bg,St.put,Ap,Al,D8,pl,↓reduceIte,reduceCtorEq,Nat.reduceAdd,D5,Int.reduceAdd,Dq,AU,Cf,Ac,AV.noref,XE,w4,tgB]
 all_goals done
def PO (c:Cd):Bool:=decide ((c.ins.length:Int)≤4000) && decide ((c.strs.length:Int)≤200) && decide ((c.ens.length:Int)≤512) && decide ((c.pri.length:Int)≤16) && decide ((c.vars.length:Int)≤128) && HD c.tim 0 128 && HD c.evs 0 128
noncomputable def f142:=EP Fit (fun c=>[B5 c]) (fun c=>bA (PO c))
theorem Bef (c:Cd) (h:Fit c):f142 [B5 c]=some (.sc (.bool (PO c))):=
 (AG (q:=Fit) (enc:=fun c=>[B5 c]) (out:=fun c=>bA (PO c)) c h (by
  intro b h
  simp only [lx96,Ay] at h
  rw [CV h]) :)
theorem Apy:Eb Tryz.prog 142 f142:=AQ <| by
 rintro c hq
 refine Ab (Aq ((.cons PN .nil)) (.nil)) rfl Tryz.func142 rfl (by decide) (by kernel_rfl) (by kernel_rfl) ?_
 simp only [Tryz.f142,Af,lx53,lx63,Nat.reduceAdd,Nat.reduceSub,List.replicate]
 refine Aa ?_
 simp (maxSteps:=10000000) +contextual -implicitDefEqProofs only [Bk,Bg,Ao,St.put,Ap,Al,D8,pl,↓reduceIte,reduceCtorEq,Nat.reduceAdd,D5,Int.reduceAdd,Dq,AU,Ac,XE,PO,lx1]
 all_goals done
end Go.Proofs.YtdjpkhjaibdogaaGreat
