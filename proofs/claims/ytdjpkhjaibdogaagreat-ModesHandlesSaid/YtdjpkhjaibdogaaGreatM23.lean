/-
  Lemmas towards ModesHandles (joined texts: ZT, ZU, ZX, BA, BB, BC).
  Conditions: none.
-/
import Derived.Test.YtdjpkhjaibdogaaGreatM12
import Derived.Test.YtdjpkhjaibdogaaGreatM13
import Derived.Test.YtdjpkhjaibdogaaGreatProg
import Derived.Test.YtdjpkhjaibdogaaGreatM01
import Derived.Test.YtdjpkhjaibdogaaGreatM15
import Derived.Test.YtdjpkhjaibdogaaGreatM17
import Derived.Test.YtdjpkhjaibdogaaGreatM02
set_option linter.unusedSimpArgs false
set_option linter.unusedVariables false
set_option maxRecDepth 100000
set_option maxHeartbeats 8000000
namespace Go.Proofs.YtdjpkhjaibdogaaGreat
open Go Go.SX
theorem ty0:Bp Tryz.prog 0=some ⟨false,1,0,some (.tuple #[]),none,none,[]⟩:=by kernel_rfl
theorem ty3:Bp Tryz.prog 3=some ⟨false,1,8,some (.int .i64 0),none,none,[]⟩:=by kernel_rfl
theorem un3:Tryz.prog.underlying 3=some (.int .i64):=by kernel_rfl
theorem ty4:Bp Tryz.prog 4=some ⟨false,1,1,some (.bool false),none,none,[]⟩:=by kernel_rfl
theorem ty5:Bp Tryz.prog 5=some ⟨false,1,1,some (.int .u8 0),none,none,[]⟩:=by kernel_rfl
theorem un5:Tryz.prog.underlying 5=some (.int .u8):=by kernel_rfl
theorem ty9:Bp Tryz.prog 9=some ⟨false,1,16,some (.string ⟨#[]⟩),none,none,[]⟩:=by kernel_rfl
theorem un9:Tryz.prog.underlying 9=some .string:=by kernel_rfl
theorem Az4:Bp Tryz.prog 22=some ⟨false,1,24,some (.slice none 0 0),some 5,none,[]⟩:=by kernel_rfl
theorem Az5:Bp Tryz.prog 23=some ⟨false,1,24,some (.slice none 0 0),some 44,none,[]⟩:=by kernel_rfl
theorem Az6:Bp Tryz.prog 24=some ⟨false,1,24,some (.slice none 0 0),some 46,none,[]⟩:=by kernel_rfl
theorem Az7:Bp Tryz.prog 25=some ⟨false,1,8,some (.int .u64 0),none,none,[]⟩:=by kernel_rfl
theorem Az8:Tryz.prog.underlying 25=some (.int .u64):=by kernel_rfl
theorem Az9:AL (.agg #[.int .i64 0,.int .u64 0,.int .i64 0,.int .i64 0])=.ag [.sc (.int .i64 0),.sc (.int .u64 0),.sc (.int .i64 0),.sc (.int .i64 0)]:=rfl
theorem Aza:Bp Tryz.prog 27=some ⟨true,4,32,some (.agg #[.int .i64 0,.int .u64 0,.int .i64 0,.int .i64 0]),none,none,[(0,3),(1,25),(2,3),(3,3)]⟩:=by kernel_rfl
theorem Azb:AL (.agg #[.slice none 0 0,.slice none 0 0,.int .i64 0,.int .u64 0,.int .i64 0,.int .i64 0])=.ag [.vw true [],.vw true [],.sc (.int .i64 0),.sc (.int .u64 0),.sc (.int .i64 0),.sc (.int .i64 0)]:=rfl
theorem Azc:Bp Tryz.prog 29=some ⟨true,6,80,some (.agg #[.slice none 0 0,.slice none 0 0,.int .i64 0,.int .u64 0,.int .i64 0,.int .i64 0]),none,none,[(0,23),(1,24),(2,27)]⟩:=by kernel_rfl
theorem Azd:Bp Tryz.prog 31=some ⟨false,1,24,some (.slice none 0 0),some 102,none,[]⟩:=by kernel_rfl
theorem Aze:Bp Tryz.prog 32=some ⟨false,1,24,some (.slice none 0 0),some 9,none,[]⟩:=by kernel_rfl
theorem Azf:Bp Tryz.prog 33=some ⟨false,1,24,some (.slice none 0 0),some 99,none,[]⟩:=by kernel_rfl
theorem Azg:Bp Tryz.prog 34=some ⟨false,1,24,some (.slice none 0 0),some 3,none,[]⟩:=by kernel_rfl
theorem Azh:AL (.agg #[.slice none 0 0,.slice none 0 0,.slice none 0 0,.slice none 0 0,.slice none 0 0,.int .i64 0,.int .i64 0])=.ag [.vw true [],.vw true [],.vw true [],.vw true [],.vw true [],.sc (.int .i64 0),.sc (.int .i64 0)]:=rfl
theorem Azi:Bp Tryz.prog 36=some ⟨true,7,136,some (.agg #[.slice none 0 0,.slice none 0 0,.slice none 0 0,.slice none 0 0,.slice none 0 0,.int .i64 0,.int .i64 0]),none,none,[(0,31),(1,32),(2,33),(3,34),(4,34),(5,3),(6,3)]⟩:=by kernel_rfl
theorem Azj:Bp Tryz.prog 38=some ⟨false,1,4,some (.int .u32 0),none,none,[]⟩:=by kernel_rfl
theorem Azk:Tryz.prog.underlying 38=some (.int .u32):=by kernel_rfl
theorem Azl:Bp Tryz.prog 39=some ⟨false,1,24,some (.slice none 0 0),some 82,none,[]⟩:=by kernel_rfl
theorem Azm:AL (.agg #[.slice none 0 0,.slice none 0 0,.int .u32 0,.slice none 0 0,.int .i64 0])=.ag [.vw true [],.vw true [],.sc (.int .u32 0),.vw true [],.sc (.int .i64 0)]:=rfl
theorem Azn:Bp Tryz.prog 41=some ⟨true,5,88,some (.agg #[.slice none 0 0,.slice none 0 0,.int .u32 0,.slice none 0 0,.int .i64 0]),none,none,[(0,34),(1,34),(2,38),(3,39),(4,3)]⟩:=by kernel_rfl
theorem Azo:AL (.agg #[.int .i64 0,.bool false])=.ag [.sc (.int .i64 0),.sc (.bool false)]:=rfl
theorem Azp:Bp Tryz.prog 44=some ⟨true,2,16,some (.agg #[.int .i64 0,.bool false]),none,none,[(0,3),(1,4)]⟩:=by kernel_rfl
theorem Azq:AL (.agg #[.int .i64 0,.int .i64 0,.int .i64 0])=.ag [.sc (.int .i64 0),.sc (.int .i64 0),.sc (.int .i64 0)]:=rfl
theorem Azr:Bp Tryz.prog 46=some ⟨true,3,24,some (.agg #[.int .i64 0,.int .i64 0,.int .i64 0]),none,none,[(0,3),(1,3),(2,3)]⟩:=by kernel_rfl
theorem Azs:Tryz.prog.underlying 60=some (.int .u64):=by kernel_rfl
theorem Azt:Bp Tryz.prog 61=some ⟨false,1,24,some (.slice none 0 0),some 73,none,[]⟩:=by kernel_rfl
theorem Azu:Bp Tryz.prog 68=some ⟨false,1,24,some (.slice none 0 0),some 78,none,[]⟩:=by kernel_rfl
theorem Azv:AL (.agg #[.int .i64 0,.int .i64 0,.int .i64 0,.int .i64 0,.string ⟨#[]⟩])=.ag [.sc (.int .i64 0),.sc (.int .i64 0),.sc (.int .i64 0),.sc (.int .i64 0),.sc (.string ⟨#[]⟩)]:=rfl
theorem Azw:Bp Tryz.prog 73=some ⟨true,5,48,some (.agg #[.int .i64 0,.int .i64 0,.int .i64 0,.int .i64 0,.string ⟨#[]⟩]),none,none,[(0,3),(1,3),(2,3),(3,3),(4,9)]⟩:=by kernel_rfl
theorem Azx:AL (.agg #[.int .i64 0,.int .i64 0,.int .i64 0,.int .i64 0])=.ag [.sc (.int .i64 0),.sc (.int .i64 0),.sc (.int .i64 0),.sc (.int .i64 0)]:=rfl
theorem Azy:Bp Tryz.prog 78=some ⟨true,4,32,some (.agg #[.int .i64 0,.int .i64 0,.int .i64 0,.int .i64 0]),none,none,[(0,3),(1,3),(2,3),(3,3)]⟩:=by kernel_rfl
theorem Azz:AL (.agg #[.int .i64 0,.int .i64 0,.int .i64 0,.int .i64 0,.int .i64 0,.int .i64 0])=.ag [.sc (.int .i64 0),.sc (.int .i64 0),.sc (.int .i64 0),.sc (.int .i64 0),.sc (.int .i64 0),.sc (.int .i64 0)]:=rfl
theorem Atr:Bp Tryz.prog 82=some ⟨true,6,48,some (.agg #[.int .i64 0,.int .i64 0,.int .i64 0,.int .i64 0,.int .i64 0,.int .i64 0]),none,none,[(0,3),(1,3),(2,78)]⟩:=by kernel_rfl
theorem Ba0:AL (.agg #[.slice none 0 0,.int .i64 0])=.ag [.vw true [],.sc (.int .i64 0)]:=rfl
theorem Ba1:Bp Tryz.prog 96=some ⟨true,2,32,some (.agg #[.slice none 0 0,.int .i64 0]),none,none,[(0,22),(1,3)]⟩:=by kernel_rfl
theorem Ba2:Bp Tryz.prog 99=some ⟨true,4,32,some (.agg #[.int .i64 0,.int .i64 0,.int .i64 0,.int .i64 0]),none,none,[(0,3),(1,3),(2,3),(3,3)]⟩:=by kernel_rfl
theorem Aqr:AL (.agg #[.int .i64 0,.int .i64 0])=.ag [.sc (.int .i64 0),.sc (.int .i64 0)]:=rfl
theorem Aqs:Bp Tryz.prog 102=some ⟨true,2,16,some (.agg #[.int .i64 0,.int .i64 0]),none,none,[(0,3),(1,3)]⟩:=by kernel_rfl
theorem Aqt:AL (.agg #[.slice none 0 0,.slice none 0 0,.int .u64 0,.int .u32 0,.int .i64 0,.int .i64 0])=.ag [.vw true [],.vw true [],.sc (.int .u64 0),.sc (.int .u32 0),.sc (.int .i64 0),.sc (.int .i64 0)]:=rfl
theorem Aqu:Bp Tryz.prog 104=some ⟨true,6,80,some (.agg #[.slice none 0 0,.slice none 0 0,.int .u64 0,.int .u32 0,.int .i64 0,.int .i64 0]),none,none,[(0,34),(1,34),(2,25),(3,38),(4,3),(5,3)]⟩:=by kernel_rfl
theorem Aqv:AL (.agg #[.slice none 0 0,.slice none 0 0,.slice none 0 0,.slice none 0 0,.slice none 0 0,.int .i64 0,.int .i64 0,.slice none 0 0,.slice none 0 0,.int .u32 0,.slice none 0 0,.int .i64 0,.int .i64 0,.int .u64 0,.int .i64 0,.int .i64 0,.slice none 0 0,.slice none 0 0])=.ag [.vw true [],.vw true [],.vw true [],.vw true [],.vw true [],.sc (.int .i64 0),.sc (.int .i64 0),.vw true [],.vw true [],.sc (.int .u32 0),.vw true [],.sc (.int .i64 0),.sc (.int .i64 0),.sc (.int .u64 0),.sc (.int .i64 0),.sc (.int .i64 0),.vw true [],.vw true []]:=rfl
theorem Aqw:Bp Tryz.prog 138=some ⟨true,18,304,some (.agg #[.slice none 0 0,.slice none 0 0,.slice none 0 0,.slice none 0 0,.slice none 0 0,.int .i64 0,.int .i64 0,.slice none 0 0,.slice none 0 0,.int .u32 0,.slice none 0 0,.int .i64 0,.int .i64 0,.int .u64 0,.int .i64 0,.int .i64 0,.slice none 0 0,.slice none 0 0]),none,none,[(0,36),(7,41),(12,27),(16,61),(17,24)]⟩:=by kernel_rfl
theorem Aqx:Bp Tryz.prog 143=some ⟨true,18,304,some (.agg #[.slice none 0 0,.slice none 0 0,.slice none 0 0,.slice none 0 0,.slice none 0 0,.int .i64 0,.int .i64 0,.slice none 0 0,.slice none 0 0,.int .u32 0,.slice none 0 0,.int .i64 0,.int .i64 0,.int .u64 0,.int .i64 0,.int .i64 0,.slice none 0 0,.slice none 0 0]),none,none,[(0,36),(7,41),(12,27),(16,61),(17,24)]⟩:=by kernel_rfl
theorem Ba3:flK Tryz.prog 46=some [.i .i64,.i .i64,.i .i64]:=by kernel_rfl
theorem Ba4:flK Tryz.prog 73=some [.i .i64,.i .i64,.i .i64,.i .i64,.s]:=by kernel_rfl
theorem Ba5:flK Tryz.prog 78=some [.i .i64,.i .i64,.i .i64,.i .i64]:=by kernel_rfl
theorem Ba6:flK Tryz.prog 82=some [.i .i64,.i .i64,.i .i64,.i .i64,.i .i64,.i .i64]:=by kernel_rfl
theorem Dd:type_of% (aI (aI (aI (b8 (b8 @ty3 @un3 @ty4 @ty5 @un5 @ty9 @Az4 @Az5) (b8 @Az6 @Az7 @Az8 @Aza @Azc @Azd @Aze @Azf) (b8 @Azg @Azi @Azj @Azk @Azl @Azn @Azp @Azr) (b8 @Azs @Azt @Azu @Azw @Azy @Atr @Ba1 @Ba2) (b8 @Aqs @Aqu @Aqw @Aqx @Ba3 @Ba4 @Ba5 @Ba6) (b8 @Az9 @Azb @Azh @Azm @Azo @Azq @Azv @Azx) @Azz @Ba0) @Aqr) @Aqt) @Aqv):=aI (aI (aI (b8 (b8 @ty3 @un3 @ty4 @ty5 @un5 @ty9 @Az4 @Az5) (b8 @Az6 @Az7 @Az8 @Aza @Azc @Azd @Aze @Azf) (b8 @Azg @Azi @Azj @Azk @Azl @Azn @Azp @Azr) (b8 @Azs @Azt @Azu @Azw @Azy @Atr @Ba1 @Ba2) (b8 @Aqs @Aqu @Aqw @Aqx @Ba3 @Ba4 @Ba5 @Ba6) (b8 @Az9 @Azb @Azh @Azm @Azo @Azq @Azv @Azx) @Azz @Ba0) @Aqr) @Aqt) @Aqv
theorem Aqy:Bp Tryz.prog 216=some ⟨false,1,24,some (.slice none 0 0),some 218,none,[]⟩:=by kernel_rfl
theorem Aqz:Bp Tryz.prog 218=some ⟨true,2,16,some (.agg #[.int .i64 0,.int .i64 0]),none,none,[(0,3),(1,3)]⟩:=by kernel_rfl
theorem Ar0:AL (.agg #[.slice none 0 0,.slice none 0 0,.slice none 0 0,.slice none 0 0,.slice none 0 0,.int .i64 0,.int .i64 0,.slice none 0 0,.slice none 0 0,.int .u64 0,.int .u32 0,.int .i64 0,.int .i64 0,.int .i64 0,.bool false,.slice none 0 0,.slice none 0 0])=.ag [.vw true [],.vw true [],.vw true [],.vw true [],.vw true [],.sc (.int .i64 0),.sc (.int .i64 0),.vw true [],.vw true [],.sc (.int .u64 0),.sc (.int .u32 0),.sc (.int .i64 0),.sc (.int .i64 0),.sc (.int .i64 0),.sc (.bool false),.vw true [],.vw true []]:=rfl
theorem Ar1:Bp Tryz.prog 253=some ⟨true,17,280,some (.agg #[.slice none 0 0,.slice none 0 0,.slice none 0 0,.slice none 0 0,.slice none 0 0,.int .i64 0,.int .i64 0,.slice none 0 0,.slice none 0 0,.int .u64 0,.int .u32 0,.int .i64 0,.int .i64 0,.int .i64 0,.bool false,.slice none 0 0,.slice none 0 0]),none,none,[(0,36),(7,104),(13,3),(14,4),(15,34),(16,61)]⟩:=by kernel_rfl
theorem Ar2:AL (.agg #[.slice none 0 0,.slice none 0 0,.slice none 0 0,.slice none 0 0,.slice none 0 0,.int .i64 0,.int .i64 0,.slice none 0 0,.slice none 0 0,.int .u64 0,.int .u32 0,.int .i64 0,.int .i64 0,.slice none 0 0,.slice none 0 0,.slice none 0 0,.int .i64 0,.int .i64 0,.bool false])=.ag [.vw true [],.vw true [],.vw true [],.vw true [],.vw true [],.sc (.int .i64 0),.sc (.int .i64 0),.vw true [],.vw true [],.sc (.int .u64 0),.sc (.int .u32 0),.sc (.int .i64 0),.sc (.int .i64 0),.vw true [],.vw true [],.vw true [],.sc (.int .i64 0),.sc (.int .i64 0),.sc (.bool false)]:=rfl
theorem Ar3:Bp Tryz.prog 269=some ⟨true,19,312,some (.agg #[.slice none 0 0,.slice none 0 0,.slice none 0 0,.slice none 0 0,.slice none 0 0,.int .i64 0,.int .i64 0,.slice none 0 0,.slice none 0 0,.int .u64 0,.int .u32 0,.int .i64 0,.int .i64 0,.slice none 0 0,.slice none 0 0,.slice none 0 0,.int .i64 0,.int .i64 0,.bool false]),none,none,[(0,36),(7,104),(13,34),(14,34),(15,61),(16,3),(17,3),(18,4)]⟩:=by kernel_rfl
theorem OI:type_of% (aI (aI (aI (aI (aI @Aqy @Aqz) @Ar1) @Ar3) @Ar0) @Ar2):=aI (aI (aI (aI (aI @Aqy @Aqz) @Ar1) @Ar3) @Ar0) @Ar2
end Go.Proofs.YtdjpkhjaibdogaaGreat
namespace Go.Proofs.YtdjpkhjaibdogaaGreat
open Go Go.SX
attribute [local congr] ite_congr
theorem Ba {x:Int} (h:-9223372036854775808≤x) (h':x < 9223372036854775808):IntKind.i64.wrap x=x:=by
 rw [IntKind.wrap_i64]; omega
theorem Im {α:Type} [Inhabited α] {p:α→Bool} {l:List α} {r:Nat} (hr:r < l.length) (h:p (l.getD r default)=true):l.any p=true:=by
 rw [lx80,lx51 hr,lx10] at h
 exact List.any_eq_true.2 ⟨_,lx90 hr,h⟩
theorem Io {α:Type} [Inhabited α] {p:α→Bool} {l:List α} (h:∀ j,j < l.length→p (l.getD j default)=false):l.any p=false:=by
 rw [lx97]
 intro x hx
 obtain ⟨j,hj,rfl⟩:=lx69 hx
 have:=h j hj
 rw [lx80,lx51 hj,lx10] at this
 rw [this]; decide
theorem Cf {α:Type} [Inhabited α] {l:List α} {i:Nat} (h:i < l.length):l.getD i default ∈ l:=by
 rw [lx80,lx51 h]; exact lx90 h
theorem Bd {p:Nat→Prop} {k:Nat} (h:∀ j,j < k→p j) (hk:p k):∀ j,j < k+1→p j:=fun j hj=>by
 rcases Ec j k with h' | h'
 ·exact h j h'
 ·have:j=k:=by omega
  rw [this]; exact hk
theorem Ax {α:Type} [Inhabited α] {f:α→AV} {l:List α} {n:Nat} (h:decide (n < l.length)=true):(l.map f)[n]?=some (f (l.getD n default)):=Z9 (by simpa using h)
structure In where
 op:Int
 a:Int
 deriving DecidableEq
instance:Inhabited In:=⟨⟨0,0⟩⟩
def BY (x:In):AV:=.ag [kA .i64 x.op,kA .i64 x.a]
theorem AK (x:In):BY x=.ag [.sc (.int .i64 x.op),.sc (.int .i64 x.a)]:=rfl
theorem OJ {x y:In} (h:BY x=BY y):x=y:=by
 cases x; cases y; simp_all [BY,kA]
theorem Am5 {l m:List In}:l.map BY=m.map BY↔l=m:=⟨D8 (fun _ _=>OJ),fun h=>by rw [h]⟩
theorem AB (l:List In):Db 2 (l.map BY)=true:=D7 (f:=BY) (fun _=>rfl) l
theorem LA (l:List In):norefs (l.map BY)=true:=C4 (f:=BY) (fun _=>by simp [BY,kA,AV.noref,norefs]) l
structure En where
 mo:Int
 tr:Int
 ix:Int
 pc:Int
 deriving DecidableEq
instance:Inhabited En:=⟨⟨0,0,0,0⟩⟩
def D3 (x:En):AV:=.ag [kA .i64 x.mo,kA .i64 x.tr,kA .i64 x.ix,kA .i64 x.pc]
theorem Bw (x:En):D3 x=.ag [.sc (.int .i64 x.mo),.sc (.int .i64 x.tr),.sc (.int .i64 x.ix),.sc (.int .i64 x.pc)]:=rfl
theorem Jh {x y:En} (h:D3 x=D3 y):x=y:=by
 cases x; cases y; simp_all [D3,kA]
theorem Am6 {l m:List En}:l.map D3=m.map D3↔l=m:=⟨D8 (fun _ _=>Jh),fun h=>by rw [h]⟩
theorem Cq (l:List En):Db 4 (l.map D3)=true:=D7 (f:=D3) (fun _=>rfl) l
theorem Yf (l:List En):norefs (l.map D3)=true:=C4 (f:=D3) (fun _=>by simp [D3,kA,AV.noref,norefs]) l
theorem IM {l m:List Int}:l.map (kA .i64)=m.map (kA .i64)↔l=m:=⟨D8 (fun _ _=>Bt),fun h=>by rw [h]⟩
theorem Bx (l:List Int):norefs (l.map (kA .i64))=true:=C4 (f:=kA .i64) (fun _=>by simp [kA,AV.noref]) l
def stA (b:ByteArray):AV:=.sc (.string b)
theorem CZ (b:ByteArray):stA b=.sc (.string b):=rfl
theorem TV {x y:ByteArray} (h:stA x=stA y):x=y:=by simpa [stA] using h
theorem Am7 {l m:List ByteArray}:l.map stA=m.map stA↔l=m:=⟨D8 (fun _ _=>TV),fun h=>by rw [h]⟩
theorem Ho (l:List ByteArray):Db 1 (l.map stA)=true:=D7 (f:=stA) (fun _=>rfl) l
theorem Yg (l:List ByteArray):norefs (l.map stA)=true:=C4 (f:=stA) (fun _=>by simp [stA,AV.noref]) l
structure Cd where
 zi:Bool
 ins:List In
 zs:Bool
 strs:List ByteArray
 ze:Bool
 ens:List En
 zp:Bool
 pri:List Int
 zv:Bool
 vars:List Int
 tim:Int
 evs:Int
instance:Inhabited Cd:=⟨⟨true,[],true,[],true,[],true,[],true,[],0,0⟩⟩
def Bv (c:Cd):AV:=.ag [.vw c.zi (c.ins.map BY),.vw c.zs (c.strs.map stA),.vw c.ze (c.ens.map D3),.vw c.zp (c.pri.map (kA .i64)),.vw c.zv (c.vars.map (kA .i64)),kA .i64 c.tim,kA .i64 c.evs]
theorem Aa (c:Cd):Bv c=.ag [.vw c.zi (c.ins.map BY),.vw c.zs (c.strs.map stA),.vw c.ze (c.ens.map D3),.vw c.zp (c.pri.map (kA .i64)),.vw c.zv (c.vars.map (kA .i64)),.sc (.int .i64 c.tim),.sc (.int .i64 c.evs)]:=rfl
theorem CS {x y:Cd} (h:Bv x=Bv y):x=y:=by
 cases x; cases y; simp_all [Bv,kA,Am5,Am6,IM,Am7]
theorem Ad8 (c:Cd):(Bv c).noref=true:=by simp [Bv,kA,AV.noref,norefs]
structure Fit (c:Cd):Prop where
 ins:c.ins.length≤100000
 strs:c.strs.length≤100000
 ens:c.ens.length≤100000
 pri:c.pri.length≤100000
 vars:c.vars.length≤100000
 tim:-1000000≤c.tim∧c.tim≤1000000
 evs:-1000000≤c.evs∧c.evs≤1000000
 str:∀ b ∈ c.strs,b.size≤100000
def F0 (n lo hi:Int):Bool:=decide (lo≤n) && decide (n≤hi)
theorem Gr {n lo hi:Int}:F0 n lo hi=true↔lo≤n∧n≤hi:=by simp [F0]
noncomputable def f99:=Er (fun _:Int × Int × Int=>True) (fun p=>[kA .i64 p.1,kA .i64 p.2.1,kA .i64 p.2.2]) (fun p=>bA (F0 p.1 p.2.1 p.2.2))
theorem Ol (n lo hi:Int):f99 [.sc (.int .i64 n),.sc (.int .i64 lo),.sc (.int .i64 hi)]=some (.sc (.bool (F0 n lo hi))):=
 (AJ (q:=fun _:Int × Int × Int=>True) (enc:=fun p=>[kA .i64 p.1,kA .i64 p.2.1,kA .i64 p.2.2]) (out:=fun p=>bA (F0 p.1 p.2.1 p.2.2)) (n,lo,hi) trivial (by rintro ⟨a,b,c⟩ h; simp_all [kA]) :)
theorem Ad9:DK Tryz.prog 99 f99:=AE <| by
 rintro ⟨n,lo,hi⟩ -
 refine Ad (Ar (.nil) (.nil)) rfl Tryz.func99 rfl (by decide) (by kernel_rfl) (by kernel_rfl) ?_
 simp only [Tryz.f99,Af,lx53,lx63,Nat.reduceAdd,Nat.reduceSub,List.replicate]
 exact Asf
theorem Qy:DK Tryz.prog 184 f99:=AE <| by
 rintro ⟨n,lo,hi⟩ -
 refine Ad (Ar (.nil) (.nil)) rfl Tryz.func184 rfl (by decide) (by kernel_rfl) (by kernel_rfl) ?_
 simp only [Tryz.f184,Af,lx53,lx63,Nat.reduceAdd,Nat.reduceSub,List.replicate]
 exact Asf
theorem Ats:DK Tryz.prog 57 f99:=AE <| by
 rintro ⟨n,lo,hi⟩ -
 refine Ad (Ar (.nil) (.nil)) rfl Tryz.func57 rfl (by decide) (by kernel_rfl) (by kernel_rfl) ?_
 simp only [Tryz.f57,Af,lx53,lx63,Nat.reduceAdd,Nat.reduceSub,List.replicate]
 exact Asf
def EP (op:Int):Bool:=(op == 12) || (op == 13) || (op == 14)
noncomputable def f194:=Er (fun _:Int=>True) (fun x=>[kA .i64 x]) (fun x=>bA (EP x))
theorem Ba7 (x:Int):f194 [.sc (.int .i64 x)]=some (.sc (.bool (EP x))):=
 (AJ (q:=fun _:Int=>True) (enc:=fun x=>[kA .i64 x]) (out:=fun x=>bA (EP x)) x trivial (by intro y h; simp_all [kA]) :)
theorem Ar4:DK Tryz.prog 194 f194:=AE <| by
 rintro x -
 refine Ad (Ar (.nil) (.nil)) rfl Tryz.func194 rfl (by decide) (by kernel_rfl) (by kernel_rfl) ?_
 simp only [Tryz.f194,Af,lx53,lx63,Nat.reduceAdd,Nat.reduceSub,List.replicate]
 refine Ab ?_
 simp (maxSteps:=10000000) +contextual -implicitDefEqProofs only [AX,AW,Ap,St.put,↓reduceIte,AA,AY,EP,Bool.or_assoc]
 all_goals done
def Lb (a b:En):Bool:=if a.mo=b.mo then if a.tr=b.tr then decide (a.ix < b.ix) else decide (a.tr < b.tr) else decide (a.mo < b.mo)
noncomputable def f102:=Er (fun _:En × En=>True) (fun p=>[D3 p.1,D3 p.2]) (fun p=>bA (Lb p.1 p.2))
theorem Ba8 (a b:En):f102 [D3 a,D3 b]=some (.sc (.bool (Lb a b))):=
 (AJ (q:=fun _:En × En=>True) (enc:=fun p=>[D3 p.1,D3 p.2]) (out:=fun p=>bA (Lb p.1 p.2)) (a,b) trivial (by
  rintro ⟨x,y⟩ h
  simp only [lx96,Az] at h
  rw [Jh h.1,Jh h.2]) :)
theorem Ba9:DK Tryz.prog 102 f102:=AE <| by
 rintro ⟨a,b⟩ -
 refine Ad (Ar (.nil) (.nil)) rfl Tryz.func102 rfl (by decide) (by kernel_rfl) (by kernel_rfl) ?_
 simp only [Tryz.f102,Af,lx53,lx63,Nat.reduceAdd,Nat.reduceSub,List.replicate]
 exact Avt
theorem Baa:DK Tryz.prog 145 f102:=AE <| by
 rintro ⟨a,b⟩ -
 refine Ad (Ar (.nil) (.nil)) rfl Tryz.func145 rfl (by decide) (by kernel_rfl) (by kernel_rfl) ?_
 simp only [Tryz.f145,Af,lx53,lx63,Nat.reduceAdd,Nat.reduceSub,List.replicate]
 exact Avt
theorem Ip {P:Program} {f:Nat} {args:List AV} {r:AV} (h:Di P f args r):∃ F,DK P f F∧F args=some r:=by
 refine ⟨fun a=>open Classical in if a=args then some r else none,?_,by simp⟩
 intro a v hv
 simp only at hv
 split at hv
 ·rename_i e; subst e; cases hv; exact h
 ·cases hv
theorem Bab {g:Nat} {F:List AV→Option AV} (ok:DK Tryz.prog g F) (p:ByteArray→Bool) (z:Bool) (l:List ByteArray) (he:∀ x ∈ l,F (stA x::[])=some (bA (p x))) (hlL:l.length≤1000000):
  Di Tryz.prog 219 [.vw z (l.map stA),.fn g []] (kA .i64 (PW p l)):=by
 refine Ad (Ar ((.cons ok .nil)) (.nil)) rfl Tryz.func219 rfl (by decide) (by kernel_rfl) (by kernel_rfl) ?_
 simp only [Tryz.f219,Af,lx53,lx63,Nat.reduceAdd,Nat.reduceSub,List.replicate]
 refine qd4 ?_
 refine Am (σ:=Nat) (fun r cnt=>⟨Bm 0 19 [(0,.vw z (l.map stA)),(1,.fn g []),(7,.sc (.int .i64 l.length)),(8,.sc (.int .i64 r))],[],cnt⟩)
  (fun r=>r≤l.length∧∀ j,j < r→p (l.getD j default)=false) (fun r=>l.length - r) 0 ⟨by omega,by omega⟩ ?_ trivial rfl ?_
 ·exact F4
 rintro r cnt ⟨hr,hn⟩ ih
 refine Ab ?_
 by_cases hr':r < l.length
 ·have h1:decide ((r:Int) < (l.length:Int))=true:=by rw [AR]; omega
  have h2:decide (r < l.length)=true:=Ae
  have w1:IntKind.i64.wrap ((r:Int)+1)=((r+1:Nat):Int):=Ay
  have hm:=Cf hr'
  obtain ⟨x,hx⟩:∃ x,l.getD r default=x:=⟨_,rfl⟩
  have e1:=he x (by rw [←hx]; exact hm)
  simp only [CZ,AY] at e1
  by_cases hv:p (l.getD r default)=true
  ·have e:=Mj (p:=p) hr' hv hn
   rw [hx] at hv
   refine BJ ?_
   exact Ir (a8 h1 h2 hx e1 hv e @CZ @Ho)
  ·rw [Hs] at hv
   have e:=Bd hn hv
   rw [hx] at hv
   refine BJ ?_
   refine IX (a8 h1 h2 hx e1 hv w1 @CZ @Ho) ?_
   exact Uu
 ·exact qc8
theorem Bac {g:Nat} {F:List AV→Option AV} (ok:DK Tryz.prog g F) (p:ByteArray→Bool) (z:Bool) (l:List ByteArray) (he:∀ x ∈ l,F (stA x::[])=some (bA (p x))) (hlL:l.length≤1000000):
  Di Tryz.prog 185 [.vw z (l.map stA),.fn g []] (bA (l.any p)):=by
 obtain ⟨F1,k1,e1⟩:=Ip (Bab ok p z l he hlL)
 simp only [AA] at e1
 refine Ad (Ar ((.cons k1 .nil)) (.nil)) rfl Tryz.func185 rfl (by decide) (by kernel_rfl) (by kernel_rfl) ?_
 simp only [Tryz.f185,Af,lx53,lx63,Nat.reduceAdd,Nat.reduceSub,List.replicate]
 refine Ab ?_
 exact Ir e1
theorem Bad {g:Nat} {F:List AV→Option AV} (ok:DK Tryz.prog g F) (p:Int→Bool) (z:Bool) (l:List Int) (he:∀ x ∈ l,F (kA .i64 x::[])=some (bA (p x))) (hlL:l.length≤1000000):
  Di Tryz.prog 159 [.vw z (l.map (kA .i64)),.fn g []] (kA .i64 (PW p l)):=by
 refine Axl ?_
 refine qd4 ?_
 refine Am (σ:=Nat) (fun r cnt=>⟨Bm 0 19 [(0,.vw z (l.map (kA .i64))),(1,.fn g []),(7,.sc (.int .i64 l.length)),(8,.sc (.int .i64 r))],[],cnt⟩)
  (fun r=>r≤l.length∧∀ j,j < r→p (l.getD j default)=false) (fun r=>l.length - r) 0 ⟨by omega,by omega⟩ ?_ trivial rfl ?_
 ·exact F4
 exact Aq0
theorem Ar5 {g:Nat} {F:List AV→Option AV} (ok:DK Tryz.prog g F) (p:Int→Bool) (z:Bool) (l:List Int) (he:∀ x ∈ l,F (kA .i64 x::[])=some (bA (p x))) (hlL:l.length≤1000000):
  Di Tryz.prog 116 [.vw z (l.map (kA .i64)),.fn g []] (bA (l.any p)):=by
 obtain ⟨F1,k1,e1⟩:=Ip (Bad ok p z l he hlL)
 exact Awg
theorem Bae {g:Nat} {F:List AV→Option AV} (ok:DK Tryz.prog g F) (p:Int→Bool) (es:List AV) (z:Bool) (l:List Int) (he:∀ x ∈ l,F (kA .i64 x::[.vp es 0 0])=some (bA (p x))) (hlL:l.length≤1000000):
  Di Tryz.prog 159 [.vw z (l.map (kA .i64)),.fn g [.vp es 0 0]] (kA .i64 (PW p l)):=by
 refine Axl ?_
 refine qd4 ?_
 refine Am (σ:=Nat) (fun r cnt=>⟨Bm 0 19 [(0,.vw z (l.map (kA .i64))),(1,.fn g [.vp es 0 0]),(7,.sc (.int .i64 l.length)),(8,.sc (.int .i64 r))],[],cnt⟩)
  (fun r=>r≤l.length∧∀ j,j < r→p (l.getD j default)=false) (fun r=>l.length - r) 0 ⟨by omega,by omega⟩ ?_ trivial rfl ?_
 ·exact F4
 exact Aq0
theorem Ar6 {g:Nat} {F:List AV→Option AV} (ok:DK Tryz.prog g F) (p:Int→Bool) (es:List AV) (z:Bool) (l:List Int) (he:∀ x ∈ l,F (kA .i64 x::[.vp es 0 0])=some (bA (p x))) (hlL:l.length≤1000000):
  Di Tryz.prog 116 [.vw z (l.map (kA .i64)),.fn g [.vp es 0 0]] (bA (l.any p)):=by
 obtain ⟨F1,k1,e1⟩:=Ip (Bae ok p es z l he hlL)
 exact Awg
theorem Baf {g:Nat} {F:List AV→Option AV} (ok:DK Tryz.prog g F) (p:En→Bool) (es:List AV) (z:Bool) (l:List En) (he:∀ x ∈ l,F (D3 x::[.vp es 0 0])=some (bA (p x))) (hlL:l.length≤1000000):
  Di Tryz.prog 220 [.vw z (l.map D3),.fn g [.vp es 0 0]] (kA .i64 (PW p l)):=by
 refine Ad (Ar ((.cons ok .nil)) (.nil)) rfl Tryz.func220 rfl (by decide) (by kernel_rfl) (by kernel_rfl) ?_
 simp only [Tryz.f220,Af,lx53,lx63,Nat.reduceAdd,Nat.reduceSub,List.replicate]
 refine qd4 ?_
 refine Am (σ:=Nat) (fun r cnt=>⟨Bm 0 19 [(0,.vw z (l.map D3)),(1,.fn g [.vp es 0 0]),(7,.sc (.int .i64 l.length)),(8,.sc (.int .i64 r))],[],cnt⟩)
  (fun r=>r≤l.length∧∀ j,j < r→p (l.getD j default)=false) (fun r=>l.length - r) 0 ⟨by omega,by omega⟩ ?_ trivial rfl ?_
 ·exact F4
 rintro r cnt ⟨hr,hn⟩ ih
 refine Ab ?_
 by_cases hr':r < l.length
 ·have h1:decide ((r:Int) < (l.length:Int))=true:=by rw [AR]; omega
  have h2:decide (r < l.length)=true:=Ae
  have w1:IntKind.i64.wrap ((r:Int)+1)=((r+1:Nat):Int):=Ay
  have hm:=Cf hr'
  obtain ⟨x,hx⟩:∃ x,l.getD r default=x:=⟨_,rfl⟩
  have e1:=he x (by rw [←hx]; exact hm)
  simp only [Bw,AY] at e1
  by_cases hv:p (l.getD r default)=true
  ·have e:=Mj (p:=p) hr' hv hn
   rw [hx] at hv
   refine BJ ?_
   exact Ir (a8 h1 h2 hx e1 hv e @Bw @Cq)
  ·rw [Hs] at hv
   have e:=Bd hn hv
   rw [hx] at hv
   refine BJ ?_
   refine IX (a8 h1 h2 hx e1 hv w1 @Bw @Cq) ?_
   exact Uu
 ·exact qc8
theorem Aie {g:Nat} {F:List AV→Option AV} (ok:DK Tryz.prog g F) (p:En→Bool) (es:List AV) (z:Bool) (l:List En) (he:∀ x ∈ l,F (D3 x::[.vp es 0 0])=some (bA (p x))) (hlL:l.length≤1000000):
  Di Tryz.prog 190 [.vw z (l.map D3),.fn g [.vp es 0 0]] (bA (l.any p)):=by
 obtain ⟨F1,k1,e1⟩:=Ip (Baf ok p es z l he hlL)
 simp only [AA] at e1
 refine Ad (Ar ((.cons k1 .nil)) (.nil)) rfl Tryz.func190 rfl (by decide) (by kernel_rfl) (by kernel_rfl) ?_
 simp only [Tryz.f190,Af,lx53,lx63,Nat.reduceAdd,Nat.reduceSub,List.replicate]
 refine Ab ?_
 exact Ir e1
theorem DF (op:Int):(op=1∨op=2∨op=3∨op=4∨op=5∨op=6∨op=7∨op=8∨op=9∨op=10∨op=11∨op=12∨op=13∨op=14∨op=15∨op=16∨op=17∨op=18∨op=19∨op=20∨op=21∨op=22∨op=23∨op=24∨op=25∨op=26∨op=27∨op=28∨op=29∨op=30∨op=31)∨∀ k:Int,1≤k→k≤31→(op == k)=false:=by
 by_cases h:1≤op∧op≤31
 ·left; omega
 ·right
  intro k h1 h2
  rw [lx113]
  omega
def Bn (op:Int):Int × Int × Int:=if op=1 then (0,1,1) else if op=2 then (0,1,2) else if op=3 then (1,0,2) else if op=4 then (0,1,3) else if op=5 then (0,1,4) else if op=6 then (0,1,5) else if op=7 then (0,1,0) else if op=8 then (0,1,0) else if op=9 then (1,1,0) else if op=10 then (1,1,0) else if op=11 then (2,1,6) else if op=12 then (0,0,7) else if op=13 then (1,0,7) else if op=14 then (1,1,7) else if op=15 then (1,0,0) else if op=16 then (0,0,8) else if op=17 then (0,0,8) else if op=18 then (0,0,8) else if op=19 then (1,0,9) else if op=20 then (2,0,9) else if op=21 then (1,0,5) else if op=22 then (0,0,5) else if op=23 then (0,0,4) else if op=24 then (0,0,4) else if op=25 then (0,0,10) else if op=26 then (0,0,9) else if op=27 then (0,0,9) else if op=28 then (0,0,9) else if op=29 then (1,0,11) else if op=30 then (0,0,0) else if op=31 then (0,0,0) else (0,0,-1)
noncomputable def f150:=Er (fun _:Int=>True) (fun x=>[kA .i64 x]) (fun x=>.tu [kA .i64 (Bn x).1,kA .i64 (Bn x).2.1,kA .i64 (Bn x).2.2])
theorem Am8 (x:Int):f150 [.sc (.int .i64 x)]=some (.tu [.sc (.int .i64 (Bn x).1),.sc (.int .i64 (Bn x).2.1),.sc (.int .i64 (Bn x).2.2)]):=
 (AJ (q:=fun _:Int=>True) (enc:=fun x=>[kA .i64 x]) (out:=fun x=>.tu [kA .i64 (Bn x).1,kA .i64 (Bn x).2.1,kA .i64 (Bn x).2.2]) x trivial (by intro y h; simp only [lx96,Az] at h; rw [Bt h]) :)
theorem Ab4:DK Tryz.prog 150 f150:=AE <| by
 rintro op -
 refine Ad (Ar (.nil) (.nil)) rfl Tryz.func150 rfl (by decide) (by kernel_rfl) (by kernel_rfl) ?_
 simp only [Tryz.f150,Af,lx53,lx63,Nat.reduceAdd,Nat.reduceSub,List.replicate]
 refine Ab ?_
 rcases DF op with (rfl | rfl | rfl | rfl | rfl | rfl | rfl | rfl | rfl | rfl | rfl | rfl | rfl | rfl | rfl | rfl | rfl | rfl | rfl | rfl | rfl | rfl | rfl | rfl | rfl | rfl | rfl | rfl | rfl | rfl | rfl) | h
 rotate_right
 have g:∀ k:Int,1≤k→k≤31→(op=k)=False:=fun k h1 h2=>by have:=h k h1 h2; simpa using this
 ·exact Aoz
 all_goals exact Aoh
noncomputable def f197:=Er (fun _:Int=>True) (fun x=>[kA .i64 x]) (fun x=>.tu [kA .i64 (Bn x).1,kA .i64 (Bn x).2.1])
theorem Bfn (x:Int):f197 [.sc (.int .i64 x)]=some (.tu [.sc (.int .i64 (Bn x).1),.sc (.int .i64 (Bn x).2.1)]):=
 (AJ (q:=fun _:Int=>True) (enc:=fun x=>[kA .i64 x]) (out:=fun x=>.tu [kA .i64 (Bn x).1,kA .i64 (Bn x).2.1]) x trivial (by intro y h; simp only [lx96,Az] at h; rw [Bt h]) :)
theorem Bag:DK Tryz.prog 197 f197:=AE <| by
 rintro op -
 refine Ad (Ar (.nil) (.nil)) rfl Tryz.func197 rfl (by decide) (by kernel_rfl) (by kernel_rfl) ?_
 simp only [Tryz.f197,Af,lx53,lx63,Nat.reduceAdd,Nat.reduceSub,List.replicate]
 refine Ab ?_
 rcases DF op with (rfl | rfl | rfl | rfl | rfl | rfl | rfl | rfl | rfl | rfl | rfl | rfl | rfl | rfl | rfl | rfl | rfl | rfl | rfl | rfl | rfl | rfl | rfl | rfl | rfl | rfl | rfl | rfl | rfl | rfl | rfl) | h
 rotate_right
 have g:∀ k:Int,1≤k→k≤31→(op=k)=False:=fun k h1 h2=>by have:=h k h1 h2; simpa using this
 ·exact Aoz
 all_goals exact Aoh
def DG (c:Cd) (op:Int):Int × Int:=if op=1 then (-2147483647,2147483647) else if op=2 then (0,(c.vars.length - 1)) else if op=3 then (0,(c.vars.length - 1)) else if op=4 then (0,63) else if op=5 then (0,(c.pri.length - 1)) else if op=6 then (0,(c.tim - 1)) else if op=7 then (0,0) else if op=8 then (0,0) else if op=9 then (0,0) else if op=10 then (0,0) else if op=11 then (12,24) else if op=15 then (0,0) else if op=16 then (0,31) else if op=17 then (0,31) else if op=18 then (0,31) else if op=19 then (0,63) else if op=20 then (0,63) else if op=21 then (0,(c.tim - 1)) else if op=22 then (0,(c.tim - 1)) else if op=23 then (0,(c.pri.length - 1)) else if op=24 then (0,(c.pri.length - 1)) else if op=25 then (0,(c.evs - 1)) else if op=26 then (0,63) else if op=27 then (0,63) else if op=28 then (0,63) else if op=29 then (0,(c.strs.length - 1)) else if op=30 then (0,0) else if op=31 then (0,0) else (1,0)
theorem Gh {c:Cd} (h:Fit c):IntKind.i64.wrap ((c.vars.length:Int) - 1)=(c.vars.length:Int) - 1∧IntKind.i64.wrap ((c.pri.length:Int) - 1)=(c.pri.length:Int) - 1∧
  IntKind.i64.wrap ((c.strs.length:Int) - 1)=(c.strs.length:Int) - 1∧IntKind.i64.wrap ((c.ins.length:Int) - 1)=(c.ins.length:Int) - 1∧IntKind.i64.wrap (c.tim - 1)=c.tim - 1∧IntKind.i64.wrap (c.evs - 1)=c.evs - 1:=by
 obtain ⟨h1,h2,h3,h4,h5,h6,h7⟩:=h
 refine ⟨Ba (by omega) (by omega),Ba (by omega) (by omega),Ba (by omega) (by omega),Ba (by omega) (by omega),Ba (by omega) (by omega),Ba (by omega) (by omega)⟩
noncomputable def f193:=Er (fun p:Cd × Int=>Fit p.1) (fun p=>[Bv p.1,kA .i64 p.2]) (fun p=>.tu [kA .i64 (DG p.1 p.2).1,kA .i64 (DG p.1 p.2).2])
theorem Bfo (c:Cd) (h:Fit c) (x:Int):f193 [Bv c,.sc (.int .i64 x)]=some (.tu [.sc (.int .i64 (DG c x).1),.sc (.int .i64 (DG c x).2)]):=
 (AJ (q:=fun p:Cd × Int=>Fit p.1) (enc:=fun p=>[Bv p.1,kA .i64 p.2]) (out:=fun p=>.tu [kA .i64 (DG p.1 p.2).1,kA .i64 (DG p.1 p.2).2]) (c,x) h (by
  rintro ⟨a,b⟩ h
  simp only [lx96,Az] at h
  rw [CS h.1,Bt h.2]) :)
theorem Bah:DK Tryz.prog 193 f193:=AE <| by
 rintro ⟨c,op⟩ hq
 simp only at hq
 obtain ⟨w1,w2,w3,w4,w5,w6⟩:=Gh hq
 refine Ad (Ar (.nil) (.nil)) rfl Tryz.func193 rfl (by decide) (by kernel_rfl) (by kernel_rfl) ?_
 simp only [Tryz.f193,Af,lx53,lx63,Nat.reduceAdd,Nat.reduceSub,List.replicate]
 refine Ab ?_
 rcases DF op with (rfl | rfl | rfl | rfl | rfl | rfl | rfl | rfl | rfl | rfl | rfl | rfl | rfl | rfl | rfl | rfl | rfl | rfl | rfl | rfl | rfl | rfl | rfl | rfl | rfl | rfl | rfl | rfl | rfl | rfl | rfl) | h
 rotate_right
 have g:∀ k:Int,1≤k→k≤31→(op=k)=False:=fun k h1 h2=>by have:=h k h1 h2; simpa using this
 ·simp (maxSteps:=10000000) +contextual -implicitDefEqProofs only [AX,AW,St.put,↓reduceIte,Nat.reduceAdd,Int.reduceLE,Int.reduceAdd,CO,AA,Aa,DG,h,g]
  all_goals done
 all_goals simp (maxSteps:=10000000) +contextual -implicitDefEqProofs only [AX,AW,St.put,↓reduceIte,reduceCtorEq,Nat.reduceAdd,Int.reduceEq,Nat.reduceBEq,Dd,Int.reduceAdd,CO,AA,Aa,Int.reduceBEq,DG,w1,w2,w3,w5,w6]
 all_goals done
def Qz (c:Cd) (i:In):Bool:=match (Bn i.op).2.2 with
 | 0=>i.a == 0
 | 1=>F0 i.a (-2147483647) 2147483647
 | 2=>F0 i.a 0 (c.vars.length - 1)
 | 3=>F0 i.a 0 63
 | 9=>F0 i.a 0 63
 | 4=>F0 i.a 0 (c.pri.length - 1)
 | 5=>F0 i.a 0 (c.tim - 1)
 | 6=>F0 i.a 12 24
 | 7=>true
 | 8=>F0 i.a 0 31
 | 10=>F0 i.a 0 (c.evs - 1)
 | 11=>F0 i.a 0 (c.strs.length - 1)
 | _=>false
noncomputable def f149:=Er (fun p:Cd × In=>Fit p.1) (fun p=>[Bv p.1,BY p.2]) (fun p=>bA (Qz p.1 p.2))
theorem Bfp (c:Cd) (h:Fit c) (x:In):f149 [Bv c,BY x]=some (.sc (.bool (Qz c x))):=
 (AJ (q:=fun p:Cd × In=>Fit p.1) (enc:=fun p=>[Bv p.1,BY p.2]) (out:=fun p=>bA (Qz p.1 p.2)) (c,x) h (by
  rintro ⟨a,b⟩ h
  simp only [lx96,Az] at h
  rw [CS h.1,OJ h.2]) :)
theorem Bai:DK Tryz.prog 149 f149:=AE <| by
 rintro ⟨c,⟨op,a⟩⟩ hq
 simp only at hq
 obtain ⟨w1,w2,w3,w4,w5,w6⟩:=Gh hq
 refine Ad (Ar ((.cons Ab4 (.cons Ad9 .nil))) (.nil)) rfl Tryz.func149 rfl (by decide) (by kernel_rfl) (by kernel_rfl) ?_
 simp only [Tryz.f149,Af,lx53,lx63,Nat.reduceAdd,Nat.reduceSub,List.replicate]
 refine Ab ?_
 have hE:=Am8 op
 rcases DF op with (rfl | rfl | rfl | rfl | rfl | rfl | rfl | rfl | rfl | rfl | rfl | rfl | rfl | rfl | rfl | rfl | rfl | rfl | rfl | rfl | rfl | rfl | rfl | rfl | rfl | rfl | rfl | rfl | rfl | rfl | rfl) | h
 rotate_right
 have g:∀ k:Int,1≤k→k≤31→(op=k)=False:=fun k h1 h2=>by have:=h k h1 h2; simpa using this
 ·simp (maxSteps:=10000000) +contextual -implicitDefEqProofs only [AX,AW,St.put,Ao,Al,DN,pl,↓reduceIte,reduceCtorEq,Nat.reduceAdd,Int.reduceLE,Nat.reduceBEq,Dd,Int.reduceAdd,CO,AY,AK,Aa,Int.reduceBEq,hE,Qz,Bn,g]
  all_goals done
 all_goals simp (maxSteps:=10000000) +contextual -implicitDefEqProofs only [AX,AW,St.put,Ao,Al,DN,pl,↓reduceIte,reduceCtorEq,Nat.reduceAdd,Nat.reduceEqDiff,Int.reduceEq,Nat.reduceBEq,Dd,Int.reduceAdd,CO,AY,AK,Aa,Int.reduceBEq,hE,Ol,Qz,Bn,w1,w2,w3,w5,w6]
 all_goals done
end Go.Proofs.YtdjpkhjaibdogaaGreat
