/-
  Lemmas towards ModesSteps (joined texts: ZT, ZU, ZX, BA, BB, BC).
  Conditions: none.
-/
import Derived.Test.YtdjpkhjaibdogaaGreatL12
import Derived.Test.YtdjpkhjaibdogaaGreatL13
import Derived.Test.YtdjpkhjaibdogaaGreatProg
import Derived.Test.YtdjpkhjaibdogaaGreatL01
import Derived.Test.YtdjpkhjaibdogaaGreatL15
import Derived.Test.YtdjpkhjaibdogaaGreatL17
import Derived.Test.YtdjpkhjaibdogaaGreatL02
set_option linter.unusedSimpArgs false
set_option linter.unusedVariables false
set_option maxRecDepth 100000
set_option maxHeartbeats 8000000
namespace Go.Proofs.YtdjpkhjaibdogaaGreat
open Go Go.SX
theorem ty0:Bt Tryz.prog 0=some ⟨false,1,0,some (.tuple #[]),none,none,[]⟩:=by kernel_rfl
theorem ty3:Bt Tryz.prog 3=some ⟨false,1,8,some (.int .i64 0),none,none,[]⟩:=by kernel_rfl
theorem un3:Tryz.prog.underlying 3=some (.int .i64):=by kernel_rfl
theorem ty4:Bt Tryz.prog 4=some ⟨false,1,1,some (.bool false),none,none,[]⟩:=by kernel_rfl
theorem un4:Tryz.prog.underlying 4=some .bool:=by kernel_rfl
theorem ty5:Bt Tryz.prog 5=some ⟨false,1,1,some (.int .u8 0),none,none,[]⟩:=by kernel_rfl
theorem un5:Tryz.prog.underlying 5=some (.int .u8):=by kernel_rfl
theorem ty9:Bt Tryz.prog 9=some ⟨false,1,16,some (.string ⟨#[]⟩),none,none,[]⟩:=by kernel_rfl
theorem un9:Tryz.prog.underlying 9=some .string:=by kernel_rfl
theorem Bbp:Bt Tryz.prog 22=some ⟨false,1,24,some (.slice none 0 0),some 5,none,[]⟩:=by kernel_rfl
theorem Bbq:Bt Tryz.prog 23=some ⟨false,1,24,some (.slice none 0 0),some 44,none,[]⟩:=by kernel_rfl
theorem Bbr:Bt Tryz.prog 24=some ⟨false,1,24,some (.slice none 0 0),some 46,none,[]⟩:=by kernel_rfl
theorem Bbs:Bt Tryz.prog 25=some ⟨false,1,8,some (.int .u64 0),none,none,[]⟩:=by kernel_rfl
theorem Bbt:Tryz.prog.underlying 25=some (.int .u64):=by kernel_rfl
theorem Bbu:AO (.agg #[.int .i64 0,.int .u64 0,.int .i64 0,.int .i64 0])=.ag [.sc (.int .i64 0),.sc (.int .u64 0),.sc (.int .i64 0),.sc (.int .i64 0)]:=rfl
theorem Bbv:Bt Tryz.prog 27=some ⟨true,4,32,some (.agg #[.int .i64 0,.int .u64 0,.int .i64 0,.int .i64 0]),none,none,[(0,3),(1,25),(2,3),(3,3)]⟩:=by kernel_rfl
theorem Bbw:AO (.agg #[.slice none 0 0,.slice none 0 0,.int .i64 0,.int .u64 0,.int .i64 0,.int .i64 0])=.ag [.vw true [],.vw true [],.sc (.int .i64 0),.sc (.int .u64 0),.sc (.int .i64 0),.sc (.int .i64 0)]:=rfl
theorem Bbx:Bt Tryz.prog 29=some ⟨true,6,80,some (.agg #[.slice none 0 0,.slice none 0 0,.int .i64 0,.int .u64 0,.int .i64 0,.int .i64 0]),none,none,[(0,23),(1,24),(2,27)]⟩:=by kernel_rfl
theorem Bby:Bt Tryz.prog 31=some ⟨false,1,24,some (.slice none 0 0),some 102,none,[]⟩:=by kernel_rfl
theorem Bbz:Bt Tryz.prog 32=some ⟨false,1,24,some (.slice none 0 0),some 9,none,[]⟩:=by kernel_rfl
theorem Bc0:Bt Tryz.prog 33=some ⟨false,1,24,some (.slice none 0 0),some 99,none,[]⟩:=by kernel_rfl
theorem Bc1:Bt Tryz.prog 34=some ⟨false,1,24,some (.slice none 0 0),some 3,none,[]⟩:=by kernel_rfl
theorem Bc2:AO (.agg #[.slice none 0 0,.slice none 0 0,.slice none 0 0,.slice none 0 0,.slice none 0 0,.int .i64 0,.int .i64 0])=.ag [.vw true [],.vw true [],.vw true [],.vw true [],.vw true [],.sc (.int .i64 0),.sc (.int .i64 0)]:=rfl
theorem Bc3:Bt Tryz.prog 36=some ⟨true,7,136,some (.agg #[.slice none 0 0,.slice none 0 0,.slice none 0 0,.slice none 0 0,.slice none 0 0,.int .i64 0,.int .i64 0]),none,none,[(0,31),(1,32),(2,33),(3,34),(4,34),(5,3),(6,3)]⟩:=by kernel_rfl
theorem Bc4:Bt Tryz.prog 38=some ⟨false,1,4,some (.int .u32 0),none,none,[]⟩:=by kernel_rfl
theorem Bc5:Tryz.prog.underlying 38=some (.int .u32):=by kernel_rfl
theorem Bc6:Bt Tryz.prog 39=some ⟨false,1,24,some (.slice none 0 0),some 82,none,[]⟩:=by kernel_rfl
theorem Bc7:AO (.agg #[.slice none 0 0,.slice none 0 0,.int .u32 0,.slice none 0 0,.int .i64 0])=.ag [.vw true [],.vw true [],.sc (.int .u32 0),.vw true [],.sc (.int .i64 0)]:=rfl
theorem Bc8:Bt Tryz.prog 41=some ⟨true,5,88,some (.agg #[.slice none 0 0,.slice none 0 0,.int .u32 0,.slice none 0 0,.int .i64 0]),none,none,[(0,34),(1,34),(2,38),(3,39),(4,3)]⟩:=by kernel_rfl
theorem Bc9:AO (.agg #[.int .i64 0,.bool false])=.ag [.sc (.int .i64 0),.sc (.bool false)]:=rfl
theorem Bca:Bt Tryz.prog 44=some ⟨true,2,16,some (.agg #[.int .i64 0,.bool false]),none,none,[(0,3),(1,4)]⟩:=by kernel_rfl
theorem Bcb:AO (.agg #[.int .i64 0,.int .i64 0,.int .i64 0])=.ag [.sc (.int .i64 0),.sc (.int .i64 0),.sc (.int .i64 0)]:=rfl
theorem Bcc:Bt Tryz.prog 46=some ⟨true,3,24,some (.agg #[.int .i64 0,.int .i64 0,.int .i64 0]),none,none,[(0,3),(1,3),(2,3)]⟩:=by kernel_rfl
theorem Bcd:Tryz.prog.underlying 60=some (.int .u64):=by kernel_rfl
theorem Bce:Bt Tryz.prog 61=some ⟨false,1,24,some (.slice none 0 0),some 73,none,[]⟩:=by kernel_rfl
theorem Bcf:Bt Tryz.prog 68=some ⟨false,1,24,some (.slice none 0 0),some 78,none,[]⟩:=by kernel_rfl
theorem Bcg:AO (.agg #[.int .i64 0,.int .i64 0,.int .i64 0,.int .i64 0,.string ⟨#[]⟩])=.ag [.sc (.int .i64 0),.sc (.int .i64 0),.sc (.int .i64 0),.sc (.int .i64 0),.sc (.string ⟨#[]⟩)]:=rfl
theorem Bch:Bt Tryz.prog 73=some ⟨true,5,48,some (.agg #[.int .i64 0,.int .i64 0,.int .i64 0,.int .i64 0,.string ⟨#[]⟩]),none,none,[(0,3),(1,3),(2,3),(3,3),(4,9)]⟩:=by kernel_rfl
theorem Bci:AO (.agg #[.int .i64 0,.int .i64 0,.int .i64 0,.int .i64 0])=.ag [.sc (.int .i64 0),.sc (.int .i64 0),.sc (.int .i64 0),.sc (.int .i64 0)]:=rfl
theorem Bcj:Bt Tryz.prog 78=some ⟨true,4,32,some (.agg #[.int .i64 0,.int .i64 0,.int .i64 0,.int .i64 0]),none,none,[(0,3),(1,3),(2,3),(3,3)]⟩:=by kernel_rfl
theorem Bck:AO (.agg #[.int .i64 0,.int .i64 0,.int .i64 0,.int .i64 0,.int .i64 0,.int .i64 0])=.ag [.sc (.int .i64 0),.sc (.int .i64 0),.sc (.int .i64 0),.sc (.int .i64 0),.sc (.int .i64 0),.sc (.int .i64 0)]:=rfl
theorem Aw6:Bt Tryz.prog 82=some ⟨true,6,48,some (.agg #[.int .i64 0,.int .i64 0,.int .i64 0,.int .i64 0,.int .i64 0,.int .i64 0]),none,none,[(0,3),(1,3),(2,78)]⟩:=by kernel_rfl
theorem Bcl:AO (.agg #[.slice none 0 0,.int .i64 0])=.ag [.vw true [],.sc (.int .i64 0)]:=rfl
theorem Bcm:Bt Tryz.prog 96=some ⟨true,2,32,some (.agg #[.slice none 0 0,.int .i64 0]),none,none,[(0,22),(1,3)]⟩:=by kernel_rfl
theorem Bcn:Bt Tryz.prog 99=some ⟨true,4,32,some (.agg #[.int .i64 0,.int .i64 0,.int .i64 0,.int .i64 0]),none,none,[(0,3),(1,3),(2,3),(3,3)]⟩:=by kernel_rfl
theorem At4:AO (.agg #[.int .i64 0,.int .i64 0])=.ag [.sc (.int .i64 0),.sc (.int .i64 0)]:=rfl
theorem At5:Bt Tryz.prog 102=some ⟨true,2,16,some (.agg #[.int .i64 0,.int .i64 0]),none,none,[(0,3),(1,3)]⟩:=by kernel_rfl
theorem At6:AO (.agg #[.slice none 0 0,.slice none 0 0,.int .u64 0,.int .u32 0,.int .i64 0,.int .i64 0])=.ag [.vw true [],.vw true [],.sc (.int .u64 0),.sc (.int .u32 0),.sc (.int .i64 0),.sc (.int .i64 0)]:=rfl
theorem At7:Bt Tryz.prog 104=some ⟨true,6,80,some (.agg #[.slice none 0 0,.slice none 0 0,.int .u64 0,.int .u32 0,.int .i64 0,.int .i64 0]),none,none,[(0,34),(1,34),(2,25),(3,38),(4,3),(5,3)]⟩:=by kernel_rfl
theorem At8:AO (.agg #[.slice none 0 0,.slice none 0 0,.slice none 0 0,.slice none 0 0,.slice none 0 0,.int .i64 0,.int .i64 0,.slice none 0 0,.slice none 0 0,.int .u32 0,.slice none 0 0,.int .i64 0,.int .i64 0,.int .u64 0,.int .i64 0,.int .i64 0,.slice none 0 0,.slice none 0 0])=.ag [.vw true [],.vw true [],.vw true [],.vw true [],.vw true [],.sc (.int .i64 0),.sc (.int .i64 0),.vw true [],.vw true [],.sc (.int .u32 0),.vw true [],.sc (.int .i64 0),.sc (.int .i64 0),.sc (.int .u64 0),.sc (.int .i64 0),.sc (.int .i64 0),.vw true [],.vw true []]:=rfl
theorem At9:Bt Tryz.prog 138=some ⟨true,18,304,some (.agg #[.slice none 0 0,.slice none 0 0,.slice none 0 0,.slice none 0 0,.slice none 0 0,.int .i64 0,.int .i64 0,.slice none 0 0,.slice none 0 0,.int .u32 0,.slice none 0 0,.int .i64 0,.int .i64 0,.int .u64 0,.int .i64 0,.int .i64 0,.slice none 0 0,.slice none 0 0]),none,none,[(0,36),(7,41),(12,27),(16,61),(17,24)]⟩:=by kernel_rfl
theorem Ata:Bt Tryz.prog 143=some ⟨true,18,304,some (.agg #[.slice none 0 0,.slice none 0 0,.slice none 0 0,.slice none 0 0,.slice none 0 0,.int .i64 0,.int .i64 0,.slice none 0 0,.slice none 0 0,.int .u32 0,.slice none 0 0,.int .i64 0,.int .i64 0,.int .u64 0,.int .i64 0,.int .i64 0,.slice none 0 0,.slice none 0 0]),none,none,[(0,36),(7,41),(12,27),(16,61),(17,24)]⟩:=by kernel_rfl
theorem Bco:flK Tryz.prog 46=some [.i .i64,.i .i64,.i .i64]:=by kernel_rfl
theorem Bcp:flK Tryz.prog 73=some [.i .i64,.i .i64,.i .i64,.i .i64,.s]:=by kernel_rfl
theorem Bcq:flK Tryz.prog 78=some [.i .i64,.i .i64,.i .i64,.i .i64]:=by kernel_rfl
theorem Bcr:flK Tryz.prog 82=some [.i .i64,.i .i64,.i .i64,.i .i64,.i .i64,.i .i64]:=by kernel_rfl
theorem Dc:type_of% (aI (aI (aI (b8 (b8 @ty3 @un3 @ty4 @ty5 @un5 @ty9 @Bbp @Bbq) (b8 @Bbr @Bbs @Bbt @Bbv @Bbx @Bby @Bbz @Bc0) (b8 @Bc1 @Bc3 @Bc4 @Bc5 @Bc6 @Bc8 @Bca @Bcc) (b8 @Bcd @Bce @Bcf @Bch @Bcj @Aw6 @Bcm @Bcn) (b8 @At5 @At7 @At9 @Ata @Bco @Bcp @Bcq @Bcr) (b8 @Bbu @Bbw @Bc2 @Bc7 @Bc9 @Bcb @Bcg @Bci) @Bck @Bcl) @At4) @At6) @At8):=aI (aI (aI (b8 (b8 @ty3 @un3 @ty4 @ty5 @un5 @ty9 @Bbp @Bbq) (b8 @Bbr @Bbs @Bbt @Bbv @Bbx @Bby @Bbz @Bc0) (b8 @Bc1 @Bc3 @Bc4 @Bc5 @Bc6 @Bc8 @Bca @Bcc) (b8 @Bcd @Bce @Bcf @Bch @Bcj @Aw6 @Bcm @Bcn) (b8 @At5 @At7 @At9 @Ata @Bco @Bcp @Bcq @Bcr) (b8 @Bbu @Bbw @Bc2 @Bc7 @Bc9 @Bcb @Bcg @Bci) @Bck @Bcl) @At4) @At6) @At8
theorem Atb:Bt Tryz.prog 216=some ⟨false,1,24,some (.slice none 0 0),some 218,none,[]⟩:=by kernel_rfl
theorem Atc:Bt Tryz.prog 218=some ⟨true,2,16,some (.agg #[.int .i64 0,.int .i64 0]),none,none,[(0,3),(1,3)]⟩:=by kernel_rfl
theorem Atd:AO (.agg #[.slice none 0 0,.slice none 0 0,.slice none 0 0,.slice none 0 0,.slice none 0 0,.int .i64 0,.int .i64 0,.slice none 0 0,.slice none 0 0,.int .u64 0,.int .u32 0,.int .i64 0,.int .i64 0,.int .i64 0,.bool false,.slice none 0 0,.slice none 0 0])=.ag [.vw true [],.vw true [],.vw true [],.vw true [],.vw true [],.sc (.int .i64 0),.sc (.int .i64 0),.vw true [],.vw true [],.sc (.int .u64 0),.sc (.int .u32 0),.sc (.int .i64 0),.sc (.int .i64 0),.sc (.int .i64 0),.sc (.bool false),.vw true [],.vw true []]:=rfl
theorem Ate:Bt Tryz.prog 253=some ⟨true,17,280,some (.agg #[.slice none 0 0,.slice none 0 0,.slice none 0 0,.slice none 0 0,.slice none 0 0,.int .i64 0,.int .i64 0,.slice none 0 0,.slice none 0 0,.int .u64 0,.int .u32 0,.int .i64 0,.int .i64 0,.int .i64 0,.bool false,.slice none 0 0,.slice none 0 0]),none,none,[(0,36),(7,104),(13,3),(14,4),(15,34),(16,61)]⟩:=by kernel_rfl
theorem Atf:AO (.agg #[.slice none 0 0,.slice none 0 0,.slice none 0 0,.slice none 0 0,.slice none 0 0,.int .i64 0,.int .i64 0,.slice none 0 0,.slice none 0 0,.int .u64 0,.int .u32 0,.int .i64 0,.int .i64 0,.slice none 0 0,.slice none 0 0,.slice none 0 0,.int .i64 0,.int .i64 0,.bool false])=.ag [.vw true [],.vw true [],.vw true [],.vw true [],.vw true [],.sc (.int .i64 0),.sc (.int .i64 0),.vw true [],.vw true [],.sc (.int .u64 0),.sc (.int .u32 0),.sc (.int .i64 0),.sc (.int .i64 0),.vw true [],.vw true [],.vw true [],.sc (.int .i64 0),.sc (.int .i64 0),.sc (.bool false)]:=rfl
theorem Atg:Bt Tryz.prog 269=some ⟨true,19,312,some (.agg #[.slice none 0 0,.slice none 0 0,.slice none 0 0,.slice none 0 0,.slice none 0 0,.int .i64 0,.int .i64 0,.slice none 0 0,.slice none 0 0,.int .u64 0,.int .u32 0,.int .i64 0,.int .i64 0,.slice none 0 0,.slice none 0 0,.slice none 0 0,.int .i64 0,.int .i64 0,.bool false]),none,none,[(0,36),(7,104),(13,34),(14,34),(15,61),(16,3),(17,3),(18,4)]⟩:=by kernel_rfl
theorem Pw:type_of% (aI (aI (aI (aI (aI @Atb @Atc) @Ate) @Atg) @Atd) @Atf):=aI (aI (aI (aI (aI @Atb @Atc) @Ate) @Atg) @Atd) @Atf
end Go.Proofs.YtdjpkhjaibdogaaGreat
namespace Go.Proofs.YtdjpkhjaibdogaaGreat
open Go Go.SX
attribute [local congr] ite_congr
theorem Bd {x:Int} (h:-9223372036854775808≤x) (h':x < 9223372036854775808):IntKind.i64.wrap x=x:=by
 rw [IntKind.wrap_i64]; omega
theorem IP {α:Type} [Inhabited α] {p:α→Bool} {l:List α} {r:Nat} (hr:r < l.length) (h:p (l.getD r default)=true):l.any p=true:=by
 rw [lx80,lx51 hr,lx10] at h
 exact List.any_eq_true.2 ⟨_,lx90 hr,h⟩
theorem IQ {α:Type} [Inhabited α] {p:α→Bool} {l:List α} (h:∀ j,j < l.length→p (l.getD j default)=false):l.any p=false:=by
 rw [lx97]
 intro x hx
 obtain ⟨j,hj,rfl⟩:=lx69 hx
 have:=h j hj
 rw [lx80,lx51 hj,lx10] at this
 rw [this]; decide
theorem B7 {α:Type} [Inhabited α] {l:List α} {i:Nat} (h:i < l.length):l.getD i default ∈ l:=by
 rw [lx80,lx51 h]; exact lx90 h
theorem Bl {p:Nat→Prop} {k:Nat} (h:∀ j,j < k→p j) (hk:p k):∀ j,j < k+1→p j:=fun j hj=>by
 rcases Ej j k with h' | h'
 ·exact h j h'
 ·have:j=k:=by omega
  rw [this]; exact hk
theorem Ax {α:Type} [Inhabited α] {f:α→AV} {l:List α} {n:Nat} (h:decide (n < l.length)=true):(l.map f)[n]?=some (f (l.getD n default)):=Ab7 (by simpa using h)
structure In where
 op:Int
 a:Int
 deriving DecidableEq
instance:Inhabited In:=⟨⟨0,0⟩⟩
def B9 (x:In):AV:=.ag [kA .i64 x.op,kA .i64 x.a]
theorem AM (x:In):B9 x=.ag [.sc (.int .i64 x.op),.sc (.int .i64 x.a)]:=rfl
theorem Px {x y:In} (h:B9 x=B9 y):x=y:=by
 cases x; cases y; simp_all [B9,kA]
theorem Ao1 {l m:List In}:l.map B9=m.map B9↔l=m:=⟨DY (fun _ _=>Px),fun h=>by rw [h]⟩
theorem AD (l:List In):C9 2 (l.map B9)=true:=DH (f:=B9) (fun _=>rfl) l
theorem Me (l:List In):norefs (l.map B9)=true:=Da (f:=B9) (fun _=>by simp [B9,kA,AV.noref,norefs]) l
structure En where
 mo:Int
 tr:Int
 ix:Int
 pc:Int
 deriving DecidableEq
instance:Inhabited En:=⟨⟨0,0,0,0⟩⟩
def D8 (x:En):AV:=.ag [kA .i64 x.mo,kA .i64 x.tr,kA .i64 x.ix,kA .i64 x.pc]
theorem BU (x:En):D8 x=.ag [.sc (.int .i64 x.mo),.sc (.int .i64 x.tr),.sc (.int .i64 x.ix),.sc (.int .i64 x.pc)]:=rfl
theorem JJ {x y:En} (h:D8 x=D8 y):x=y:=by
 cases x; cases y; simp_all [D8,kA]
theorem Ao2 {l m:List En}:l.map D8=m.map D8↔l=m:=⟨DY (fun _ _=>JJ),fun h=>by rw [h]⟩
theorem Cu (l:List En):C9 4 (l.map D8)=true:=DH (f:=D8) (fun _=>rfl) l
theorem YY (l:List En):norefs (l.map D8)=true:=Da (f:=D8) (fun _=>by simp [D8,kA,AV.noref,norefs]) l
theorem Jb {l m:List Int}:l.map (kA .i64)=m.map (kA .i64)↔l=m:=⟨DY (fun _ _=>Bx),fun h=>by rw [h]⟩
theorem BV (l:List Int):norefs (l.map (kA .i64))=true:=Da (f:=kA .i64) (fun _=>by simp [kA,AV.noref]) l
def stA (b:ByteArray):AV:=.sc (.string b)
theorem C4 (b:ByteArray):stA b=.sc (.string b):=rfl
theorem UC {x y:ByteArray} (h:stA x=stA y):x=y:=by simpa [stA] using h
theorem Ao3 {l m:List ByteArray}:l.map stA=m.map stA↔l=m:=⟨DY (fun _ _=>UC),fun h=>by rw [h]⟩
theorem HN (l:List ByteArray):C9 1 (l.map stA)=true:=DH (f:=stA) (fun _=>rfl) l
theorem YZ (l:List ByteArray):norefs (l.map stA)=true:=Da (f:=stA) (fun _=>by simp [stA,AV.noref]) l
structure Cd where
 zi:Bool
 ins:List In
 zs:Bool
 strs:List ByteArray
 ze:Bool
 ens:List En
 zp:Bool
 pri:List Int
 zv:Bool
 vars:List Int
 tim:Int
 evs:Int
instance:Inhabited Cd:=⟨⟨true,[],true,[],true,[],true,[],true,[],0,0⟩⟩
def BP (c:Cd):AV:=.ag [.vw c.zi (c.ins.map B9),.vw c.zs (c.strs.map stA),.vw c.ze (c.ens.map D8),.vw c.zp (c.pri.map (kA .i64)),.vw c.zv (c.vars.map (kA .i64)),kA .i64 c.tim,kA .i64 c.evs]
theorem Ab (c:Cd):BP c=.ag [.vw c.zi (c.ins.map B9),.vw c.zs (c.strs.map stA),.vw c.ze (c.ens.map D8),.vw c.zp (c.pri.map (kA .i64)),.vw c.zv (c.vars.map (kA .i64)),.sc (.int .i64 c.tim),.sc (.int .i64 c.evs)]:=rfl
theorem CT {x y:Cd} (h:BP x=BP y):x=y:=by
 cases x; cases y; simp_all [BP,kA,Ao1,Ao2,Jb,Ao3]
theorem Aey (c:Cd):(BP c).noref=true:=by simp [BP,kA,AV.noref,norefs]
structure Fit (c:Cd):Prop where
 ins:c.ins.length≤100000
 strs:c.strs.length≤100000
 ens:c.ens.length≤100000
 pri:c.pri.length≤100000
 vars:c.vars.length≤100000
 tim:-1000000≤c.tim∧c.tim≤1000000
 evs:-1000000≤c.evs∧c.evs≤1000000
 str:∀ b ∈ c.strs,b.size≤100000
def EU (n lo hi:Int):Bool:=decide (lo≤n) && decide (n≤hi)
theorem F8 {n lo hi:Int}:EU n lo hi=true↔lo≤n∧n≤hi:=by simp [EU]
noncomputable def f99:=Ew (fun _:Int × Int × Int=>True) (fun p=>[kA .i64 p.1,kA .i64 p.2.1,kA .i64 p.2.2]) (fun p=>bA (EU p.1 p.2.1 p.2.2))
theorem OV (n lo hi:Int):f99 [.sc (.int .i64 n),.sc (.int .i64 lo),.sc (.int .i64 hi)]=some (.sc (.bool (EU n lo hi))):=
 (AK (q:=fun _:Int × Int × Int=>True) (enc:=fun p=>[kA .i64 p.1,kA .i64 p.2.1,kA .i64 p.2.2]) (out:=fun p=>bA (EU p.1 p.2.1 p.2.2)) (n,lo,hi) trivial (by rintro ⟨a,b,c⟩ h; simp_all [kA]) :)
theorem Aez:DC Tryz.prog 99 f99:=AF <| by
 rintro ⟨n,lo,hi⟩ -
 refine Ac (Aq (.nil) (.nil)) rfl Tryz.func99 rfl (by decide) (by kernel_rfl) (by kernel_rfl) ?_
 simp only [Tryz.f99,Af,lx53,lx63,Nat.reduceAdd,Nat.reduceSub,List.replicate]
 exact Auv
theorem Rh:DC Tryz.prog 184 f99:=AF <| by
 rintro ⟨n,lo,hi⟩ -
 refine Ac (Aq (.nil) (.nil)) rfl Tryz.func184 rfl (by decide) (by kernel_rfl) (by kernel_rfl) ?_
 simp only [Tryz.f184,Af,lx53,lx63,Nat.reduceAdd,Nat.reduceSub,List.replicate]
 exact Auv
theorem Ao4:DC Tryz.prog 57 f99:=AF <| by
 rintro ⟨n,lo,hi⟩ -
 refine Ac (Aq (.nil) (.nil)) rfl Tryz.func57 rfl (by decide) (by kernel_rfl) (by kernel_rfl) ?_
 simp only [Tryz.f57,Af,lx53,lx63,Nat.reduceAdd,Nat.reduceSub,List.replicate]
 exact Auv
def EY (op:Int):Bool:=(op == 12) || (op == 13) || (op == 14)
noncomputable def f194:=Ew (fun _:Int=>True) (fun x=>[kA .i64 x]) (fun x=>bA (EY x))
theorem Bcs (x:Int):f194 [.sc (.int .i64 x)]=some (.sc (.bool (EY x))):=
 (AK (q:=fun _:Int=>True) (enc:=fun x=>[kA .i64 x]) (out:=fun x=>bA (EY x)) x trivial (by intro y h; simp_all [kA]) :)
theorem Ath:DC Tryz.prog 194 f194:=AF <| by
 rintro x -
 refine Ac (Aq (.nil) (.nil)) rfl Tryz.func194 rfl (by decide) (by kernel_rfl) (by kernel_rfl) ?_
 simp only [Tryz.f194,Af,lx53,lx63,Nat.reduceAdd,Nat.reduceSub,List.replicate]
 refine Aa ?_
 simp (maxSteps:=10000000) +contextual -implicitDefEqProofs only [AY,AW,Au,St.put,↓reduceIte,AB,AZ,EY,Bool.or_assoc]
 all_goals done
def LD (a b:En):Bool:=if a.mo=b.mo then if a.tr=b.tr then decide (a.ix < b.ix) else decide (a.tr < b.tr) else decide (a.mo < b.mo)
noncomputable def f102:=Ew (fun _:En × En=>True) (fun p=>[D8 p.1,D8 p.2]) (fun p=>bA (LD p.1 p.2))
theorem Bct (a b:En):f102 [D8 a,D8 b]=some (.sc (.bool (LD a b))):=
 (AK (q:=fun _:En × En=>True) (enc:=fun p=>[D8 p.1,D8 p.2]) (out:=fun p=>bA (LD p.1 p.2)) (a,b) trivial (by
  rintro ⟨x,y⟩ h
  simp only [lx96,Ay] at h
  rw [JJ h.1,JJ h.2]) :)
theorem Bcu:DC Tryz.prog 102 f102:=AF <| by
 rintro ⟨a,b⟩ -
 refine Ac (Aq (.nil) (.nil)) rfl Tryz.func102 rfl (by decide) (by kernel_rfl) (by kernel_rfl) ?_
 simp only [Tryz.f102,Af,lx53,lx63,Nat.reduceAdd,Nat.reduceSub,List.replicate]
 exact Ayb
theorem Bcv:DC Tryz.prog 145 f102:=AF <| by
 rintro ⟨a,b⟩ -
 refine Ac (Aq (.nil) (.nil)) rfl Tryz.func145 rfl (by decide) (by kernel_rfl) (by kernel_rfl) ?_
 simp only [Tryz.f145,Af,lx53,lx63,Nat.reduceAdd,Nat.reduceSub,List.replicate]
 exact Ayb
theorem F9 {P:Program} {f:Nat} {args:List AV} {r:AV} (h:C0 P f args r):∃ F,DC P f F∧F args=some r:=by
 refine ⟨fun a=>open Classical in if a=args then some r else none,?_,by simp⟩
 intro a v hv
 simp only at hv
 split at hv
 ·rename_i e; subst e; cases hv; exact h
 ·cases hv
theorem Bcw {g:Nat} {F:List AV→Option AV} (ok:DC Tryz.prog g F) (p:ByteArray→Bool) (z:Bool) (l:List ByteArray) (he:∀ x ∈ l,F (stA x::[])=some (bA (p x))) (hlL:l.length≤1000000):
  C0 Tryz.prog 219 [.vw z (l.map stA),.fn g []] (kA .i64 (NN p l)):=by
 refine Ac (Aq ((.cons ok .nil)) (.nil)) rfl Tryz.func219 rfl (by decide) (by kernel_rfl) (by kernel_rfl) ?_
 simp only [Tryz.f219,Af,lx53,lx63,Nat.reduceAdd,Nat.reduceSub,List.replicate]
 refine qd4 ?_
 refine Al (σ:=Nat) (fun r cnt=>⟨Bn 0 19 [(0,.vw z (l.map stA)),(1,.fn g []),(7,.sc (.int .i64 l.length)),(8,.sc (.int .i64 r))],[],cnt⟩)
  (fun r=>r≤l.length∧∀ j,j < r→p (l.getD j default)=false) (fun r=>l.length - r) 0 ⟨by omega,by omega⟩ ?_ trivial rfl ?_
 ·exact Gn
 rintro r cnt ⟨hr,hn⟩ ih
 refine Aa ?_
 by_cases hr':r < l.length
 ·have h1:decide ((r:Int) < (l.length:Int))=true:=by rw [AN]; omega
  have h2:decide (r < l.length)=true:=Ae
  have w1:IntKind.i64.wrap ((r:Int)+1)=((r+1:Nat):Int):=AA
  have hm:=B7 hr'
  obtain ⟨x,hx⟩:∃ x,l.getD r default=x:=⟨_,rfl⟩
  have e1:=he x (by rw [←hx]; exact hm)
  simp only [C4,AZ] at e1
  by_cases hv:p (l.getD r default)=true
  ·have e:=KT (p:=p) hr' hv hn
   rw [hx] at hv
   refine Bq ?_
   exact IU (a8 h1 h2 hx e1 hv e @C4 @HN)
  ·rw [Hq] at hv
   have e:=Bl hn hv
   rw [hx] at hv
   refine Bq ?_
   refine Jk (a8 h1 h2 hx e1 hv w1 @C4 @HN) ?_
   exact RX
 ·exact qc8
theorem Bcx {g:Nat} {F:List AV→Option AV} (ok:DC Tryz.prog g F) (p:ByteArray→Bool) (z:Bool) (l:List ByteArray) (he:∀ x ∈ l,F (stA x::[])=some (bA (p x))) (hlL:l.length≤1000000):
  C0 Tryz.prog 185 [.vw z (l.map stA),.fn g []] (bA (l.any p)):=by
 obtain ⟨F1,k1,e1⟩:=F9 (Bcw ok p z l he hlL)
 simp only [AB] at e1
 refine Ac (Aq ((.cons k1 .nil)) (.nil)) rfl Tryz.func185 rfl (by decide) (by kernel_rfl) (by kernel_rfl) ?_
 simp only [Tryz.f185,Af,lx53,lx63,Nat.reduceAdd,Nat.reduceSub,List.replicate]
 refine Aa ?_
 exact IU e1
theorem Bcy {g:Nat} {F:List AV→Option AV} (ok:DC Tryz.prog g F) (p:Int→Bool) (z:Bool) (l:List Int) (he:∀ x ∈ l,F (kA .i64 x::[])=some (bA (p x))) (hlL:l.length≤1000000):
  C0 Tryz.prog 159 [.vw z (l.map (kA .i64)),.fn g []] (kA .i64 (NN p l)):=by
 refine Ba4 ?_
 refine qd4 ?_
 refine Al (σ:=Nat) (fun r cnt=>⟨Bn 0 19 [(0,.vw z (l.map (kA .i64))),(1,.fn g []),(7,.sc (.int .i64 l.length)),(8,.sc (.int .i64 r))],[],cnt⟩)
  (fun r=>r≤l.length∧∀ j,j < r→p (l.getD j default)=false) (fun r=>l.length - r) 0 ⟨by omega,by omega⟩ ?_ trivial rfl ?_
 ·exact Gn
 exact Asb
theorem Ati {g:Nat} {F:List AV→Option AV} (ok:DC Tryz.prog g F) (p:Int→Bool) (z:Bool) (l:List Int) (he:∀ x ∈ l,F (kA .i64 x::[])=some (bA (p x))) (hlL:l.length≤1000000):
  C0 Tryz.prog 116 [.vw z (l.map (kA .i64)),.fn g []] (bA (l.any p)):=by
 obtain ⟨F1,k1,e1⟩:=F9 (Bcy ok p z l he hlL)
 exact Az1
theorem Bcz {g:Nat} {F:List AV→Option AV} (ok:DC Tryz.prog g F) (p:Int→Bool) (es:List AV) (z:Bool) (l:List Int) (he:∀ x ∈ l,F (kA .i64 x::[.vp es 0 0])=some (bA (p x))) (hlL:l.length≤1000000):
  C0 Tryz.prog 159 [.vw z (l.map (kA .i64)),.fn g [.vp es 0 0]] (kA .i64 (NN p l)):=by
 refine Ba4 ?_
 refine qd4 ?_
 refine Al (σ:=Nat) (fun r cnt=>⟨Bn 0 19 [(0,.vw z (l.map (kA .i64))),(1,.fn g [.vp es 0 0]),(7,.sc (.int .i64 l.length)),(8,.sc (.int .i64 r))],[],cnt⟩)
  (fun r=>r≤l.length∧∀ j,j < r→p (l.getD j default)=false) (fun r=>l.length - r) 0 ⟨by omega,by omega⟩ ?_ trivial rfl ?_
 ·exact Gn
 exact Asb
theorem Atj {g:Nat} {F:List AV→Option AV} (ok:DC Tryz.prog g F) (p:Int→Bool) (es:List AV) (z:Bool) (l:List Int) (he:∀ x ∈ l,F (kA .i64 x::[.vp es 0 0])=some (bA (p x))) (hlL:l.length≤1000000):
  C0 Tryz.prog 116 [.vw z (l.map (kA .i64)),.fn g [.vp es 0 0]] (bA (l.any p)):=by
 obtain ⟨F1,k1,e1⟩:=F9 (Bcz ok p es z l he hlL)
 exact Az1
theorem Bd0 {g:Nat} {F:List AV→Option AV} (ok:DC Tryz.prog g F) (p:En→Bool) (es:List AV) (z:Bool) (l:List En) (he:∀ x ∈ l,F (D8 x::[.vp es 0 0])=some (bA (p x))) (hlL:l.length≤1000000):
  C0 Tryz.prog 220 [.vw z (l.map D8),.fn g [.vp es 0 0]] (kA .i64 (NN p l)):=by
 refine Ac (Aq ((.cons ok .nil)) (.nil)) rfl Tryz.func220 rfl (by decide) (by kernel_rfl) (by kernel_rfl) ?_
 simp only [Tryz.f220,Af,lx53,lx63,Nat.reduceAdd,Nat.reduceSub,List.replicate]
 refine qd4 ?_
 refine Al (σ:=Nat) (fun r cnt=>⟨Bn 0 19 [(0,.vw z (l.map D8)),(1,.fn g [.vp es 0 0]),(7,.sc (.int .i64 l.length)),(8,.sc (.int .i64 r))],[],cnt⟩)
  (fun r=>r≤l.length∧∀ j,j < r→p (l.getD j default)=false) (fun r=>l.length - r) 0 ⟨by omega,by omega⟩ ?_ trivial rfl ?_
 ·exact Gn
 rintro r cnt ⟨hr,hn⟩ ih
 refine Aa ?_
 by_cases hr':r < l.length
 ·have h1:decide ((r:Int) < (l.length:Int))=true:=by rw [AN]; omega
  have h2:decide (r < l.length)=true:=Ae
  have w1:IntKind.i64.wrap ((r:Int)+1)=((r+1:Nat):Int):=AA
  have hm:=B7 hr'
  obtain ⟨x,hx⟩:∃ x,l.getD r default=x:=⟨_,rfl⟩
  have e1:=he x (by rw [←hx]; exact hm)
  simp only [BU,AZ] at e1
  by_cases hv:p (l.getD r default)=true
  ·have e:=KT (p:=p) hr' hv hn
   rw [hx] at hv
   refine Bq ?_
   exact IU (a8 h1 h2 hx e1 hv e @BU @Cu)
  ·rw [Hq] at hv
   have e:=Bl hn hv
   rw [hx] at hv
   refine Bq ?_
   refine Jk (a8 h1 h2 hx e1 hv w1 @BU @Cu) ?_
   exact RX
 ·exact qc8
theorem Ak6 {g:Nat} {F:List AV→Option AV} (ok:DC Tryz.prog g F) (p:En→Bool) (es:List AV) (z:Bool) (l:List En) (he:∀ x ∈ l,F (D8 x::[.vp es 0 0])=some (bA (p x))) (hlL:l.length≤1000000):
  C0 Tryz.prog 190 [.vw z (l.map D8),.fn g [.vp es 0 0]] (bA (l.any p)):=by
 obtain ⟨F1,k1,e1⟩:=F9 (Bd0 ok p es z l he hlL)
 simp only [AB] at e1
 refine Ac (Aq ((.cons k1 .nil)) (.nil)) rfl Tryz.func190 rfl (by decide) (by kernel_rfl) (by kernel_rfl) ?_
 simp only [Tryz.f190,Af,lx53,lx63,Nat.reduceAdd,Nat.reduceSub,List.replicate]
 refine Aa ?_
 exact IU e1
theorem DL (op:Int):(op=1∨op=2∨op=3∨op=4∨op=5∨op=6∨op=7∨op=8∨op=9∨op=10∨op=11∨op=12∨op=13∨op=14∨op=15∨op=16∨op=17∨op=18∨op=19∨op=20∨op=21∨op=22∨op=23∨op=24∨op=25∨op=26∨op=27∨op=28∨op=29∨op=30∨op=31)∨∀ k:Int,1≤k→k≤31→(op == k)=false:=by
 by_cases h:1≤op∧op≤31
 ·left; omega
 ·right
  intro k h1 h2
  rw [lx113]
  omega
def Br (op:Int):Int × Int × Int:=if op=1 then (0,1,1) else if op=2 then (0,1,2) else if op=3 then (1,0,2) else if op=4 then (0,1,3) else if op=5 then (0,1,4) else if op=6 then (0,1,5) else if op=7 then (0,1,0) else if op=8 then (0,1,0) else if op=9 then (1,1,0) else if op=10 then (1,1,0) else if op=11 then (2,1,6) else if op=12 then (0,0,7) else if op=13 then (1,0,7) else if op=14 then (1,1,7) else if op=15 then (1,0,0) else if op=16 then (0,0,8) else if op=17 then (0,0,8) else if op=18 then (0,0,8) else if op=19 then (1,0,9) else if op=20 then (2,0,9) else if op=21 then (1,0,5) else if op=22 then (0,0,5) else if op=23 then (0,0,4) else if op=24 then (0,0,4) else if op=25 then (0,0,10) else if op=26 then (0,0,9) else if op=27 then (0,0,9) else if op=28 then (0,0,9) else if op=29 then (1,0,11) else if op=30 then (0,0,0) else if op=31 then (0,0,0) else (0,0,-1)
noncomputable def f150:=Ew (fun _:Int=>True) (fun x=>[kA .i64 x]) (fun x=>.tu [kA .i64 (Br x).1,kA .i64 (Br x).2.1,kA .i64 (Br x).2.2])
theorem Ao5 (x:Int):f150 [.sc (.int .i64 x)]=some (.tu [.sc (.int .i64 (Br x).1),.sc (.int .i64 (Br x).2.1),.sc (.int .i64 (Br x).2.2)]):=
 (AK (q:=fun _:Int=>True) (enc:=fun x=>[kA .i64 x]) (out:=fun x=>.tu [kA .i64 (Br x).1,kA .i64 (Br x).2.1,kA .i64 (Br x).2.2]) x trivial (by intro y h; simp only [lx96,Ay] at h; rw [Bx h]) :)
theorem Acq:DC Tryz.prog 150 f150:=AF <| by
 rintro op -
 refine Ac (Aq (.nil) (.nil)) rfl Tryz.func150 rfl (by decide) (by kernel_rfl) (by kernel_rfl) ?_
 simp only [Tryz.f150,Af,lx53,lx63,Nat.reduceAdd,Nat.reduceSub,List.replicate]
 refine Aa ?_
 rcases DL op with (rfl | rfl | rfl | rfl | rfl | rfl | rfl | rfl | rfl | rfl | rfl | rfl | rfl | rfl | rfl | rfl | rfl | rfl | rfl | rfl | rfl | rfl | rfl | rfl | rfl | rfl | rfl | rfl | rfl | rfl | rfl) | h
 rotate_right
 have g:∀ k:Int,1≤k→k≤31→(op=k)=False:=fun k h1 h2=>by have:=h k h1 h2; simpa using this
 ·exact Ar4
 all_goals exact Aqm
noncomputable def f197:=Ew (fun _:Int=>True) (fun x=>[kA .i64 x]) (fun x=>.tu [kA .i64 (Br x).1,kA .i64 (Br x).2.1])
theorem Bi8 (x:Int):f197 [.sc (.int .i64 x)]=some (.tu [.sc (.int .i64 (Br x).1),.sc (.int .i64 (Br x).2.1)]):=
 (AK (q:=fun _:Int=>True) (enc:=fun x=>[kA .i64 x]) (out:=fun x=>.tu [kA .i64 (Br x).1,kA .i64 (Br x).2.1]) x trivial (by intro y h; simp only [lx96,Ay] at h; rw [Bx h]) :)
theorem Bd1:DC Tryz.prog 197 f197:=AF <| by
 rintro op -
 refine Ac (Aq (.nil) (.nil)) rfl Tryz.func197 rfl (by decide) (by kernel_rfl) (by kernel_rfl) ?_
 simp only [Tryz.f197,Af,lx53,lx63,Nat.reduceAdd,Nat.reduceSub,List.replicate]
 refine Aa ?_
 rcases DL op with (rfl | rfl | rfl | rfl | rfl | rfl | rfl | rfl | rfl | rfl | rfl | rfl | rfl | rfl | rfl | rfl | rfl | rfl | rfl | rfl | rfl | rfl | rfl | rfl | rfl | rfl | rfl | rfl | rfl | rfl | rfl) | h
 rotate_right
 have g:∀ k:Int,1≤k→k≤31→(op=k)=False:=fun k h1 h2=>by have:=h k h1 h2; simpa using this
 ·exact Ar4
 all_goals exact Aqm
def DM (c:Cd) (op:Int):Int × Int:=if op=1 then (-2147483647,2147483647) else if op=2 then (0,(c.vars.length - 1)) else if op=3 then (0,(c.vars.length - 1)) else if op=4 then (0,63) else if op=5 then (0,(c.pri.length - 1)) else if op=6 then (0,(c.tim - 1)) else if op=7 then (0,0) else if op=8 then (0,0) else if op=9 then (0,0) else if op=10 then (0,0) else if op=11 then (12,24) else if op=15 then (0,0) else if op=16 then (0,31) else if op=17 then (0,31) else if op=18 then (0,31) else if op=19 then (0,63) else if op=20 then (0,63) else if op=21 then (0,(c.tim - 1)) else if op=22 then (0,(c.tim - 1)) else if op=23 then (0,(c.pri.length - 1)) else if op=24 then (0,(c.pri.length - 1)) else if op=25 then (0,(c.evs - 1)) else if op=26 then (0,63) else if op=27 then (0,63) else if op=28 then (0,63) else if op=29 then (0,(c.strs.length - 1)) else if op=30 then (0,0) else if op=31 then (0,0) else (1,0)
theorem Gy {c:Cd} (h:Fit c):IntKind.i64.wrap ((c.vars.length:Int) - 1)=(c.vars.length:Int) - 1∧IntKind.i64.wrap ((c.pri.length:Int) - 1)=(c.pri.length:Int) - 1∧
  IntKind.i64.wrap ((c.strs.length:Int) - 1)=(c.strs.length:Int) - 1∧IntKind.i64.wrap ((c.ins.length:Int) - 1)=(c.ins.length:Int) - 1∧IntKind.i64.wrap (c.tim - 1)=c.tim - 1∧IntKind.i64.wrap (c.evs - 1)=c.evs - 1:=by
 obtain ⟨h1,h2,h3,h4,h5,h6,h7⟩:=h
 refine ⟨Bd (by omega) (by omega),Bd (by omega) (by omega),Bd (by omega) (by omega),Bd (by omega) (by omega),Bd (by omega) (by omega),Bd (by omega) (by omega)⟩
noncomputable def f193:=Ew (fun p:Cd × Int=>Fit p.1) (fun p=>[BP p.1,kA .i64 p.2]) (fun p=>.tu [kA .i64 (DM p.1 p.2).1,kA .i64 (DM p.1 p.2).2])
theorem Bi9 (c:Cd) (h:Fit c) (x:Int):f193 [BP c,.sc (.int .i64 x)]=some (.tu [.sc (.int .i64 (DM c x).1),.sc (.int .i64 (DM c x).2)]):=
 (AK (q:=fun p:Cd × Int=>Fit p.1) (enc:=fun p=>[BP p.1,kA .i64 p.2]) (out:=fun p=>.tu [kA .i64 (DM p.1 p.2).1,kA .i64 (DM p.1 p.2).2]) (c,x) h (by
  rintro ⟨a,b⟩ h
  simp only [lx96,Ay] at h
  rw [CT h.1,Bx h.2]) :)
theorem Bd2:DC Tryz.prog 193 f193:=AF <| by
 rintro ⟨c,op⟩ hq
 simp only at hq
 obtain ⟨w1,w2,w3,w4,w5,w6⟩:=Gy hq
 refine Ac (Aq (.nil) (.nil)) rfl Tryz.func193 rfl (by decide) (by kernel_rfl) (by kernel_rfl) ?_
 simp only [Tryz.f193,Af,lx53,lx63,Nat.reduceAdd,Nat.reduceSub,List.replicate]
 refine Aa ?_
 rcases DL op with (rfl | rfl | rfl | rfl | rfl | rfl | rfl | rfl | rfl | rfl | rfl | rfl | rfl | rfl | rfl | rfl | rfl | rfl | rfl | rfl | rfl | rfl | rfl | rfl | rfl | rfl | rfl | rfl | rfl | rfl | rfl) | h
 rotate_right
 have g:∀ k:Int,1≤k→k≤31→(op=k)=False:=fun k h1 h2=>by have:=h k h1 h2; simpa using this
 ·simp (maxSteps:=10000000) +contextual -implicitDefEqProofs only [AY,AW,St.put,↓reduceIte,Nat.reduceAdd,Int.reduceLE,Int.reduceAdd,CK,AB,Ab,DM,h,g]
  all_goals done
 all_goals simp (maxSteps:=10000000) +contextual -implicitDefEqProofs only [AY,AW,St.put,↓reduceIte,reduceCtorEq,Nat.reduceAdd,Int.reduceEq,Nat.reduceBEq,Dc,Int.reduceAdd,CK,AB,Ab,Int.reduceBEq,DM,w1,w2,w3,w5,w6]
 all_goals done
def Ri (c:Cd) (i:In):Bool:=match (Br i.op).2.2 with
 | 0=>i.a == 0
 | 1=>EU i.a (-2147483647) 2147483647
 | 2=>EU i.a 0 (c.vars.length - 1)
 | 3=>EU i.a 0 63
 | 9=>EU i.a 0 63
 | 4=>EU i.a 0 (c.pri.length - 1)
 | 5=>EU i.a 0 (c.tim - 1)
 | 6=>EU i.a 12 24
 | 7=>true
 | 8=>EU i.a 0 31
 | 10=>EU i.a 0 (c.evs - 1)
 | 11=>EU i.a 0 (c.strs.length - 1)
 | _=>false
noncomputable def f149:=Ew (fun p:Cd × In=>Fit p.1) (fun p=>[BP p.1,B9 p.2]) (fun p=>bA (Ri p.1 p.2))
theorem Bia (c:Cd) (h:Fit c) (x:In):f149 [BP c,B9 x]=some (.sc (.bool (Ri c x))):=
 (AK (q:=fun p:Cd × In=>Fit p.1) (enc:=fun p=>[BP p.1,B9 p.2]) (out:=fun p=>bA (Ri p.1 p.2)) (c,x) h (by
  rintro ⟨a,b⟩ h
  simp only [lx96,Ay] at h
  rw [CT h.1,Px h.2]) :)
theorem Bd3:DC Tryz.prog 149 f149:=AF <| by
 rintro ⟨c,⟨op,a⟩⟩ hq
 simp only at hq
 obtain ⟨w1,w2,w3,w4,w5,w6⟩:=Gy hq
 refine Ac (Aq ((.cons Acq (.cons Aez .nil))) (.nil)) rfl Tryz.func149 rfl (by decide) (by kernel_rfl) (by kernel_rfl) ?_
 simp only [Tryz.f149,Af,lx53,lx63,Nat.reduceAdd,Nat.reduceSub,List.replicate]
 refine Aa ?_
 have hE:=Ao5 op
 rcases DL op with (rfl | rfl | rfl | rfl | rfl | rfl | rfl | rfl | rfl | rfl | rfl | rfl | rfl | rfl | rfl | rfl | rfl | rfl | rfl | rfl | rfl | rfl | rfl | rfl | rfl | rfl | rfl | rfl | rfl | rfl | rfl) | h
 rotate_right
 have g:∀ k:Int,1≤k→k≤31→(op=k)=False:=fun k h1 h2=>by have:=h k h1 h2; simpa using this
 ·simp (maxSteps:=10000000) +contextual -implicitDefEqProofs only [AY,AW,St.put,Ap,Am,DO,pl,↓reduceIte,reduceCtorEq,Nat.reduceAdd,Int.reduceLE,Nat.reduceBEq,Dc,Int.reduceAdd,CK,AZ,AM,Ab,Int.reduceBEq,hE,Ri,Br,g]
  all_goals done
 all_goals simp (maxSteps:=10000000) +contextual -implicitDefEqProofs only [AY,AW,St.put,Ap,Am,DO,pl,↓reduceIte,reduceCtorEq,Nat.reduceAdd,Nat.reduceEqDiff,Int.reduceEq,Nat.reduceBEq,Dc,Int.reduceAdd,CK,AZ,AM,Ab,Int.reduceBEq,hE,OV,Ri,Br,w1,w2,w3,w5,w6]
 all_goals done
end Go.Proofs.YtdjpkhjaibdogaaGreat
