/-
  Joined texts: ZT, ZU, ZX, BA, BB.
  Conditions: none.
-/
import Derived.Test.YtdjpkhjaibdogaaGreatL13
import Derived.Test.YtdjpkhjaibdogaaGreatL14
import Derived.Test.YtdjpkhjaibdogaaGreatProg
import Derived.Test.YtdjpkhjaibdogaaGreatL18
import Derived.Test.YtdjpkhjaibdogaaGreatL20
namespace Go.Proofs.YtdjpkhjaibdogaaGreat
open Go Go.SX
theorem ty0:tyD Tryz.prog 0=some ⟨false,1,0,some (.tuple #[]),none,none,[]⟩:=by kernel_rfl
theorem ty3:tyD Tryz.prog 3=some ⟨false,1,8,some (.int .i64 0),none,none,[]⟩:=by kernel_rfl
theorem un3:Tryz.prog.underlying 3=some (.int .i64):=by kernel_rfl
theorem un4:Tryz.prog.underlying 4=some .bool:=by kernel_rfl
theorem ty5:tyD Tryz.prog 5=some ⟨false,1,1,some (.int .u8 0),none,none,[]⟩:=by kernel_rfl
theorem un5:Tryz.prog.underlying 5=some (.int .u8):=by kernel_rfl
theorem ty9:tyD Tryz.prog 9=some ⟨false,1,16,some (.string ⟨#[]⟩),none,none,[]⟩:=by kernel_rfl
theorem un9:Tryz.prog.underlying 9=some .string:=by kernel_rfl
theorem ty22:tyD Tryz.prog 22=some ⟨false,1,24,some (.slice none 0 0),some 5,none,[]⟩:=by kernel_rfl
theorem ty24:tyD Tryz.prog 24=some ⟨false,1,24,some (.slice none 0 0),some 46,none,[]⟩:=by kernel_rfl
theorem ty25:tyD Tryz.prog 25=some ⟨false,1,8,some (.int .u64 0),none,none,[]⟩:=by kernel_rfl
theorem un25:Tryz.prog.underlying 25=some (.int .u64):=by kernel_rfl
theorem zr26:ofAgg (.agg #[.int .i64 0,.int .u64 0,.int .i64 0,.int .i64 0])=.ag [.sc (.int .i64 0),.sc (.int .u64 0),.sc (.int .i64 0),.sc (.int .i64 0)]:=rfl
theorem ty27:tyD Tryz.prog 27=some ⟨true,4,32,some (.agg #[.int .i64 0,.int .u64 0,.int .i64 0,.int .i64 0]),none,none,[(0,3),(1,25),(2,3),(3,3)]⟩:=by kernel_rfl
theorem ty31:tyD Tryz.prog 31=some ⟨false,1,24,some (.slice none 0 0),some 102,none,[]⟩:=by kernel_rfl
theorem ty32:tyD Tryz.prog 32=some ⟨false,1,24,some (.slice none 0 0),some 9,none,[]⟩:=by kernel_rfl
theorem ty33:tyD Tryz.prog 33=some ⟨false,1,24,some (.slice none 0 0),some 99,none,[]⟩:=by kernel_rfl
theorem ty34:tyD Tryz.prog 34=some ⟨false,1,24,some (.slice none 0 0),some 3,none,[]⟩:=by kernel_rfl
theorem zr35:ofAgg (.agg #[.slice none 0 0,.slice none 0 0,.slice none 0 0,.slice none 0 0,.slice none 0 0,.int .i64 0,.int .i64 0])=.ag [.vw true [],.vw true [],.vw true [],.vw true [],.vw true [],.sc (.int .i64 0),.sc (.int .i64 0)]:=rfl
theorem ty36:tyD Tryz.prog 36=some ⟨true,7,136,some (.agg #[.slice none 0 0,.slice none 0 0,.slice none 0 0,.slice none 0 0,.slice none 0 0,.int .i64 0,.int .i64 0]),none,none,[(0,31),(1,32),(2,33),(3,34),(4,34),(5,3),(6,3)]⟩:=by kernel_rfl
theorem ty38:tyD Tryz.prog 38=some ⟨false,1,4,some (.int .u32 0),none,none,[]⟩:=by kernel_rfl
theorem un38:Tryz.prog.underlying 38=some (.int .u32):=by kernel_rfl
theorem ty39:tyD Tryz.prog 39=some ⟨false,1,24,some (.slice none 0 0),some 82,none,[]⟩:=by kernel_rfl
theorem zr40:ofAgg (.agg #[.slice none 0 0,.slice none 0 0,.int .u32 0,.slice none 0 0,.int .i64 0])=.ag [.vw true [],.vw true [],.sc (.int .u32 0),.vw true [],.sc (.int .i64 0)]:=rfl
theorem ty41:tyD Tryz.prog 41=some ⟨true,5,88,some (.agg #[.slice none 0 0,.slice none 0 0,.int .u32 0,.slice none 0 0,.int .i64 0]),none,none,[(0,34),(1,34),(2,38),(3,39),(4,3)]⟩:=by kernel_rfl
theorem ty46:tyD Tryz.prog 46=some ⟨true,3,24,some (.agg #[.int .i64 0,.int .i64 0,.int .i64 0]),none,none,[(0,3),(1,3),(2,3)]⟩:=by kernel_rfl
theorem un60:Tryz.prog.underlying 60=some (.int .u64):=by kernel_rfl
theorem ty61:tyD Tryz.prog 61=some ⟨false,1,24,some (.slice none 0 0),some 73,none,[]⟩:=by kernel_rfl
theorem ty68:tyD Tryz.prog 68=some ⟨false,1,24,some (.slice none 0 0),some 78,none,[]⟩:=by kernel_rfl
theorem ty73:tyD Tryz.prog 73=some ⟨true,5,48,some (.agg #[.int .i64 0,.int .i64 0,.int .i64 0,.int .i64 0,.string ⟨#[]⟩]),none,none,[(0,3),(1,3),(2,3),(3,3),(4,9)]⟩:=by kernel_rfl
theorem zr77:ofAgg (.agg #[.int .i64 0,.int .i64 0,.int .i64 0,.int .i64 0])=.ag [.sc (.int .i64 0),.sc (.int .i64 0),.sc (.int .i64 0),.sc (.int .i64 0)]:=rfl
theorem ty78:tyD Tryz.prog 78=some ⟨true,4,32,some (.agg #[.int .i64 0,.int .i64 0,.int .i64 0,.int .i64 0]),none,none,[(0,3),(1,3),(2,3),(3,3)]⟩:=by kernel_rfl
theorem zr81:ofAgg (.agg #[.int .i64 0,.int .i64 0,.int .i64 0,.int .i64 0,.int .i64 0,.int .i64 0])=.ag [.sc (.int .i64 0),.sc (.int .i64 0),.sc (.int .i64 0),.sc (.int .i64 0),.sc (.int .i64 0),.sc (.int .i64 0)]:=rfl
theorem ty82:tyD Tryz.prog 82=some ⟨true,6,48,some (.agg #[.int .i64 0,.int .i64 0,.int .i64 0,.int .i64 0,.int .i64 0,.int .i64 0]),none,none,[(0,3),(1,3),(2,78)]⟩:=by kernel_rfl
theorem zr95:ofAgg (.agg #[.slice none 0 0,.int .i64 0])=.ag [.vw true [],.sc (.int .i64 0)]:=rfl
theorem ty96:tyD Tryz.prog 96=some ⟨true,2,32,some (.agg #[.slice none 0 0,.int .i64 0]),none,none,[(0,22),(1,3)]⟩:=by kernel_rfl
theorem ty99:tyD Tryz.prog 99=some ⟨true,4,32,some (.agg #[.int .i64 0,.int .i64 0,.int .i64 0,.int .i64 0]),none,none,[(0,3),(1,3),(2,3),(3,3)]⟩:=by kernel_rfl
theorem zr101:ofAgg (.agg #[.int .i64 0,.int .i64 0])=.ag [.sc (.int .i64 0),.sc (.int .i64 0)]:=rfl
theorem ty102:tyD Tryz.prog 102=some ⟨true,2,16,some (.agg #[.int .i64 0,.int .i64 0]),none,none,[(0,3),(1,3)]⟩:=by kernel_rfl
theorem zr103:ofAgg (.agg #[.slice none 0 0,.slice none 0 0,.int .u64 0,.int .u32 0,.int .i64 0,.int .i64 0])=.ag [.vw true [],.vw true [],.sc (.int .u64 0),.sc (.int .u32 0),.sc (.int .i64 0),.sc (.int .i64 0)]:=rfl
theorem ty104:tyD Tryz.prog 104=some ⟨true,6,80,some (.agg #[.slice none 0 0,.slice none 0 0,.int .u64 0,.int .u32 0,.int .i64 0,.int .i64 0]),none,none,[(0,34),(1,34),(2,25),(3,38),(4,3),(5,3)]⟩:=by kernel_rfl
theorem fl46:flK Tryz.prog 46=some [.i .i64,.i .i64,.i .i64]:=by kernel_rfl
theorem fl73:flK Tryz.prog 73=some [.i .i64,.i .i64,.i .i64,.i .i64,.s]:=by kernel_rfl
theorem fl78:flK Tryz.prog 78=some [.i .i64,.i .i64,.i .i64,.i .i64]:=by kernel_rfl
theorem fl82:flK Tryz.prog 82=some [.i .i64,.i .i64,.i .i64,.i .i64,.i .i64,.i .i64]:=by kernel_rfl
end Go.Proofs.YtdjpkhjaibdogaaGreat

namespace Go.Proofs.YtdjpkhjaibdogaaGreat
open Go Go.SX
set_option maxRecDepth 100000
theorem bnT:type_of% (And.intro (And.intro (And.intro (And.intro (And.intro (@ty3) (@un3)) (And.intro (@un4) (And.intro (@ty5) (@un5)))) (And.intro (And.intro (@ty9) (@ty22)) (And.intro (@ty24) (And.intro (@ty25) (@un25))))) (And.intro (And.intro (And.intro (@ty27) (@ty31)) (And.intro (@ty32) (And.intro (@ty33) (@ty34)))) (And.intro (And.intro (@ty36) (And.intro (@ty38) (@un38))) (And.intro (@ty39) (And.intro (@ty41) (@ty46)))))) (And.intro (And.intro (And.intro (And.intro (@un60) (@ty61)) (And.intro (@ty68) (And.intro (@ty73) (@ty78)))) (And.intro (And.intro (@ty82) (And.intro (@ty96) (@ty99))) (And.intro (@ty102) (And.intro (@ty104) (@fl46))))) (And.intro (And.intro (And.intro (@fl73) (@fl78)) (And.intro (@fl82) (And.intro (@zr26) (@zr35)))) (And.intro (And.intro (@zr40) (And.intro (@zr77) (@zr81))) (And.intro (@zr95) (And.intro (@zr101) (@zr103))))))):=And.intro (And.intro (And.intro (And.intro (And.intro (@ty3) (@un3)) (And.intro (@un4) (And.intro (@ty5) (@un5)))) (And.intro (And.intro (@ty9) (@ty22)) (And.intro (@ty24) (And.intro (@ty25) (@un25))))) (And.intro (And.intro (And.intro (@ty27) (@ty31)) (And.intro (@ty32) (And.intro (@ty33) (@ty34)))) (And.intro (And.intro (@ty36) (And.intro (@ty38) (@un38))) (And.intro (@ty39) (And.intro (@ty41) (@ty46)))))) (And.intro (And.intro (And.intro (And.intro (@un60) (@ty61)) (And.intro (@ty68) (And.intro (@ty73) (@ty78)))) (And.intro (And.intro (@ty82) (And.intro (@ty96) (@ty99))) (And.intro (@ty102) (And.intro (@ty104) (@fl46))))) (And.intro (And.intro (And.intro (@fl73) (@fl78)) (And.intro (@fl82) (And.intro (@zr26) (@zr35)))) (And.intro (And.intro (@zr40) (And.intro (@zr77) (@zr81))) (And.intro (@zr95) (And.intro (@zr101) (@zr103))))))
end Go.Proofs.YtdjpkhjaibdogaaGreat

namespace Go.Proofs.YtdjpkhjaibdogaaGreat
open Go Go.SX
set_option maxRecDepth 100000
theorem ty216:tyD Tryz.prog 216=some ⟨false,1,24,some (.slice none 0 0),some 218,none,[]⟩:=by kernel_rfl
theorem ty218:tyD Tryz.prog 218=some ⟨true,2,16,some (.agg #[.int .i64 0,.int .i64 0]),none,none,[(0,3),(1,3)]⟩:=by kernel_rfl
theorem bnX:type_of% (And.intro (@ty216) (@ty218)):=And.intro (@ty216) (@ty218)
end Go.Proofs.YtdjpkhjaibdogaaGreat

namespace Go.Proofs.YtdjpkhjaibdogaaGreat
open Go Go.SX
set_option linter.unusedSimpArgs false
set_option linter.unusedVariables false
attribute [local congr] ite_congr
set_option maxRecDepth 100000
set_option maxHeartbeats 4000000
theorem wrap64 {x:Int} (h:-9223372036854775808≤x) (h':x < 9223372036854775808):IntKind.i64.wrap x=x:=by
 rw [IntKind.wrap_i64]; omega
theorem any_at {α:Type} [Inhabited α] {p:α→Bool} {l:List α} {r:Nat} (hr:r < l.length) (h:p (l.getD r default)=true):l.any p=true:=by
 rw [List.getD_eq_getElem?_getD,List.getElem?_eq_getElem hr,Option.getD_some] at h
 exact List.any_eq_true.2 ⟨_,List.getElem_mem hr,h⟩
theorem any_no {α:Type} [Inhabited α] {p:α→Bool} {l:List α} (h:∀ j,j < l.length→p (l.getD j default)=false):l.any p=false:=by
 rw [List.any_eq_false]
 intro x hx
 obtain ⟨j,hj,rfl⟩:=List.getElem_of_mem hx
 have:=h j hj
 rw [List.getD_eq_getElem?_getD,List.getElem?_eq_getElem hj,Option.getD_some] at this
 rw [this]; decide
theorem getD_mem {α:Type} [Inhabited α] {l:List α} {i:Nat} (h:i < l.length):l.getD i default ∈ l:=by
 rw [List.getD_eq_getElem?_getD,List.getElem?_eq_getElem h]; exact List.getElem_mem h
theorem till_next {p:Nat→Prop} {k:Nat} (h:∀ j,j < k→p j) (hk:p k):∀ j,j < k+1→p j:=fun j hj=>by
 rcases Nat.lt_or_ge j k with h' | h'
 ·exact h j h'
 ·have:j=k:=by omega
  rw [this]; exact hk
theorem get_mapN {α:Type} [Inhabited α] {f:α→AV} {l:List α} {n:Nat} (h:decide (n < l.length)=true):(l.map f)[n]?=some (f (l.getD n default)):=map_get (by simpa using h)
structure In where
 op:Int
 a:Int
 deriving DecidableEq
instance:Inhabited In:=⟨⟨0,0⟩⟩
def inA (x:In):AV:=.ag [kA .i64 x.op,kA .i64 x.a]
theorem inA_eq (x:In):inA x=.ag [.sc (.int .i64 x.op),.sc (.int .i64 x.a)]:=rfl
theorem inA_inj {x y:In} (h:inA x=inA y):x=y:=by
 cases x; cases y; simp_all [inA,kA]
theorem map_inA {l m:List In}:l.map inA=m.map inA↔l=m:=⟨map_inj (fun _ _=>inA_inj),fun h=>by rw [h]⟩
theorem allSz_inA (l:List In):allSz 2 (l.map inA)=true:=allSz_map (f:=inA) (fun _=>rfl) l
theorem norefs_inA (l:List In):norefs (l.map inA)=true:=norefs_map (f:=inA) (fun _=>by simp [inA,kA,AV.noref,norefs]) l
structure En where
 mo:Int
 tr:Int
 ix:Int
 pc:Int
 deriving DecidableEq
instance:Inhabited En:=⟨⟨0,0,0,0⟩⟩
def enA (x:En):AV:=.ag [kA .i64 x.mo,kA .i64 x.tr,kA .i64 x.ix,kA .i64 x.pc]
theorem enA_eq (x:En):enA x=.ag [.sc (.int .i64 x.mo),.sc (.int .i64 x.tr),.sc (.int .i64 x.ix),.sc (.int .i64 x.pc)]:=rfl
theorem enA_inj {x y:En} (h:enA x=enA y):x=y:=by
 cases x; cases y; simp_all [enA,kA]
theorem map_enA {l m:List En}:l.map enA=m.map enA↔l=m:=⟨map_inj (fun _ _=>enA_inj),fun h=>by rw [h]⟩
theorem allSz_enA (l:List En):allSz 4 (l.map enA)=true:=allSz_map (f:=enA) (fun _=>rfl) l
theorem norefs_enA (l:List En):norefs (l.map enA)=true:=norefs_map (f:=enA) (fun _=>by simp [enA,kA,AV.noref,norefs]) l
theorem map_kA64 {l m:List Int}:l.map (kA .i64)=m.map (kA .i64)↔l=m:=⟨map_inj (fun _ _=>kA_inj),fun h=>by rw [h]⟩
theorem norefs_k64 (l:List Int):norefs (l.map (kA .i64))=true:=norefs_map (f:=kA .i64) (fun _=>by simp [kA,AV.noref]) l
def stA (b:ByteArray):AV:=.sc (.string b)
theorem stA_eq (b:ByteArray):stA b=.sc (.string b):=rfl
theorem stA_inj {x y:ByteArray} (h:stA x=stA y):x=y:=by simpa [stA] using h
theorem map_stA {l m:List ByteArray}:l.map stA=m.map stA↔l=m:=⟨map_inj (fun _ _=>stA_inj),fun h=>by rw [h]⟩
theorem allSz_stA (l:List ByteArray):allSz 1 (l.map stA)=true:=allSz_map (f:=stA) (fun _=>rfl) l
theorem norefs_stA (l:List ByteArray):norefs (l.map stA)=true:=norefs_map (f:=stA) (fun _=>by simp [stA,AV.noref]) l
structure Cd where
 zi:Bool
 ins:List In
 zs:Bool
 strs:List ByteArray
 ze:Bool
 ens:List En
 zp:Bool
 pri:List Int
 zv:Bool
 vars:List Int
 tim:Int
 evs:Int
instance:Inhabited Cd:=⟨⟨true,[],true,[],true,[],true,[],true,[],0,0⟩⟩
def cdA (c:Cd):AV:=.ag [.vw c.zi (c.ins.map inA),.vw c.zs (c.strs.map stA),.vw c.ze (c.ens.map enA),.vw c.zp (c.pri.map (kA .i64)),.vw c.zv (c.vars.map (kA .i64)),kA .i64 c.tim,kA .i64 c.evs]
theorem cdA_eq (c:Cd):cdA c=.ag [.vw c.zi (c.ins.map inA),.vw c.zs (c.strs.map stA),.vw c.ze (c.ens.map enA),.vw c.zp (c.pri.map (kA .i64)),.vw c.zv (c.vars.map (kA .i64)),.sc (.int .i64 c.tim),.sc (.int .i64 c.evs)]:=rfl
theorem cdA_inj {x y:Cd} (h:cdA x=cdA y):x=y:=by
 cases x; cases y; simp_all [cdA,kA,map_inA,map_enA,map_kA64,map_stA]
theorem noref_cdA (c:Cd):(cdA c).noref=true:=by simp [cdA,kA,AV.noref,norefs]
structure Fit (c:Cd):Prop where
 ins:c.ins.length≤100000
 strs:c.strs.length≤100000
 ens:c.ens.length≤100000
 pri:c.pri.length≤100000
 vars:c.vars.length≤100000
 tim:-1000000≤c.tim∧c.tim≤1000000
 evs:-1000000≤c.evs∧c.evs≤1000000
 str:∀ b ∈ c.strs,b.size≤100000
def inI (n lo hi:Int):Bool:=decide (lo≤n) && decide (n≤hi)
theorem inI_iff {n lo hi:Int}:inI n lo hi=true↔lo≤n∧n≤hi:=by simp [inI]
noncomputable def f99:=mkF (fun _:Int × Int × Int=>True) (fun p=>[kA .i64 p.1,kA .i64 p.2.1,kA .i64 p.2.2]) (fun p=>bA (inI p.1 p.2.1 p.2.2))
theorem e99 (n lo hi:Int):f99 [.sc (.int .i64 n),.sc (.int .i64 lo),.sc (.int .i64 hi)]=some (.sc (.bool (inI n lo hi))):=
 (mkF_eq (q:=fun _:Int × Int × Int=>True) (enc:=fun p=>[kA .i64 p.1,kA .i64 p.2.1,kA .i64 p.2.2]) (out:=fun p=>bA (inI p.1 p.2.1 p.2.2)) (n,lo,hi) trivial (by rintro ⟨a,b,c⟩ h; simp_all [kA]) :)
theorem ok99:POk Tryz.prog 99 f99:=pok_mk <| by
 rintro ⟨n,lo,hi⟩ -
 refine pspec_of_go (fEnv_ok (.nil) (.nil)) rfl Tryz.func99 rfl (by decide) (by kernel_rfl) (by kernel_rfl) ?_
 simp only [Tryz.f99,initSt,List.length_cons,List.length_nil,Nat.reduceAdd,Nat.reduceSub,List.replicate]
 refine vc_go ?_
 simp (maxSteps:=10000000) +contextual -implicitDefEqProofs only [bnC,bnS,guardV,St.put,↓reduceIte,kA_eq,bA_eq,inI]
theorem ok184:POk Tryz.prog 184 f99:=pok_mk <| by
 rintro ⟨n,lo,hi⟩ -
 refine pspec_of_go (fEnv_ok (.nil) (.nil)) rfl Tryz.func184 rfl (by decide) (by kernel_rfl) (by kernel_rfl) ?_
 simp only [Tryz.f184,initSt,List.length_cons,List.length_nil,Nat.reduceAdd,Nat.reduceSub,List.replicate]
 refine vc_go ?_
 simp (maxSteps:=10000000) +contextual -implicitDefEqProofs only [bnC,bnS,guardV,St.put,↓reduceIte,kA_eq,bA_eq,inI]
def jmpO (op:Int):Bool:=(op == 12) || (op == 13) || (op == 14)
noncomputable def f194:=mkF (fun _:Int=>True) (fun x=>[kA .i64 x]) (fun x=>bA (jmpO x))
theorem e194 (x:Int):f194 [.sc (.int .i64 x)]=some (.sc (.bool (jmpO x))):=
 (mkF_eq (q:=fun _:Int=>True) (enc:=fun x=>[kA .i64 x]) (out:=fun x=>bA (jmpO x)) x trivial (by intro y h; simp_all [kA]) :)
theorem ok194:POk Tryz.prog 194 f194:=pok_mk <| by
 rintro x -
 refine pspec_of_go (fEnv_ok (.nil) (.nil)) rfl Tryz.func194 rfl (by decide) (by kernel_rfl) (by kernel_rfl) ?_
 simp only [Tryz.f194,initSt,List.length_cons,List.length_nil,Nat.reduceAdd,Nat.reduceSub,List.replicate]
 refine vc_go ?_
 simp (maxSteps:=10000000) +contextual -implicitDefEqProofs only [bnC,bnS,guardV,St.put,↓reduceIte,kA_eq,bA_eq,jmpO,Bool.or_assoc]
 all_goals done
def lessE (a b:En):Bool:=if a.mo=b.mo then if a.tr=b.tr then decide (a.ix < b.ix) else decide (a.tr < b.tr) else decide (a.mo < b.mo)
noncomputable def f102:=mkF (fun _:En × En=>True) (fun p=>[enA p.1,enA p.2]) (fun p=>bA (lessE p.1 p.2))
theorem e102 (a b:En):f102 [enA a,enA b]=some (.sc (.bool (lessE a b))):=
 (mkF_eq (q:=fun _:En × En=>True) (enc:=fun p=>[enA p.1,enA p.2]) (out:=fun p=>bA (lessE p.1 p.2)) (a,b) trivial (by
  rintro ⟨x,y⟩ h
  simp only [List.cons.injEq,and_true] at h
  rw [enA_inj h.1,enA_inj h.2]) :)
theorem ok102:POk Tryz.prog 102 f102:=pok_mk <| by
 rintro ⟨a,b⟩ -
 refine pspec_of_go (fEnv_ok (.nil) (.nil)) rfl Tryz.func102 rfl (by decide) (by kernel_rfl) (by kernel_rfl) ?_
 simp only [Tryz.f102,initSt,List.length_cons,List.length_nil,Nat.reduceAdd,Nat.reduceSub,List.replicate]
 refine vc_go ?_
 by_cases h1:a.mo=b.mo
 ·by_cases h2:a.tr=b.tr
  ·simp (maxSteps:=10000000) +contextual -implicitDefEqProofs only [bnC,bnS,St.put,↓reduceIte,reduceCtorEq,Nat.reduceAdd,bnT,Int.reduceAdd,bnH,bA_eq,enA_eq,lessE,h1,h2]
   all_goals done
  ·have h2':(a.tr != b.tr)=true:=by simpa using h2
   simp (maxSteps:=10000000) +contextual -implicitDefEqProofs only [bnC,bnS,St.put,↓reduceIte,reduceCtorEq,Nat.reduceAdd,bnT,Int.reduceAdd,bnH,bA_eq,enA_eq,lessE,h1,h2,h2']
   all_goals done
 ·have h1':(a.mo != b.mo)=true:=by simpa using h1
  simp (maxSteps:=10000000) +contextual -implicitDefEqProofs only [bnC,bnS,St.put,↓reduceIte,reduceCtorEq,Nat.reduceAdd,bnT,Int.reduceAdd,bnH,bA_eq,enA_eq,lessE,h1,h1']
  all_goals done
theorem ok145:POk Tryz.prog 145 f102:=pok_mk <| by
 rintro ⟨a,b⟩ -
 refine pspec_of_go (fEnv_ok (.nil) (.nil)) rfl Tryz.func145 rfl (by decide) (by kernel_rfl) (by kernel_rfl) ?_
 simp only [Tryz.f145,initSt,List.length_cons,List.length_nil,Nat.reduceAdd,Nat.reduceSub,List.replicate]
 refine vc_go ?_
 by_cases h1:a.mo=b.mo
 ·by_cases h2:a.tr=b.tr
  ·simp (maxSteps:=10000000) +contextual -implicitDefEqProofs only [bnC,bnS,St.put,↓reduceIte,reduceCtorEq,Nat.reduceAdd,bnT,Int.reduceAdd,bnH,bA_eq,enA_eq,lessE,h1,h2]
   all_goals done
  ·have h2':(a.tr != b.tr)=true:=by simpa using h2
   simp (maxSteps:=10000000) +contextual -implicitDefEqProofs only [bnC,bnS,St.put,↓reduceIte,reduceCtorEq,Nat.reduceAdd,bnT,Int.reduceAdd,bnH,bA_eq,enA_eq,lessE,h1,h2,h2']
   all_goals done
 ·have h1':(a.mo != b.mo)=true:=by simpa using h1
  simp (maxSteps:=10000000) +contextual -implicitDefEqProofs only [bnC,bnS,St.put,↓reduceIte,reduceCtorEq,Nat.reduceAdd,bnT,Int.reduceAdd,bnH,bA_eq,enA_eq,lessE,h1,h1']
  all_goals done
end Go.Proofs.YtdjpkhjaibdogaaGreat

namespace Go.Proofs.YtdjpkhjaibdogaaGreat
open Go Go.SX
set_option linter.unusedSimpArgs false
set_option linter.unusedVariables false
attribute [local congr] ite_congr
set_option maxRecDepth 100000
set_option maxHeartbeats 8000000
theorem pok_at {P:Program} {f:Nat} {args:List AV} {r:AV} (h:PSpec P f args r):∃ F,POk P f F∧F args=some r:=by
 refine ⟨fun a=>open Classical in if a=args then some r else none,?_,by simp⟩
 intro a v hv
 simp only at hv
 split at hv
 ·rename_i e; subst e; cases hv; exact h
 ·cases hv
theorem idxS0 {g:Nat} {F:List AV→Option AV} (ok:POk Tryz.prog g F) (p:ByteArray→Bool) (z:Bool) (l:List ByteArray) (he:∀ x ∈ l,F (stA x::[])=some (bA (p x))) (hlL:l.length≤1000000):
  PSpec Tryz.prog 219 [.vw z (l.map stA),.fn g []] (kA .i64 (idxF p l)):=by
 refine pspec_of_go (fEnv_ok ((.cons ok .nil)) (.nil)) rfl Tryz.func219 rfl (by decide) (by kernel_rfl) (by kernel_rfl) ?_
 simp only [Tryz.f219,initSt,List.length_cons,List.length_nil,Nat.reduceAdd,Nat.reduceSub,List.replicate]
 refine vc_go ?_
 simp (maxSteps:=10000000) +contextual -implicitDefEqProofs only [bnC,bnS,St.put,bnT,kA_eq]
 refine go_loopW (σ:=Nat) (fun r cnt=>⟨mkT 0 19 [(0,.vw z (l.map stA)),(1,.fn g []),(7,.sc (.int .i64 l.length)),(8,.sc (.int .i64 r))],[],cnt⟩)
  (fun r=>r≤l.length∧∀ j,j < r→p (l.getD j default)=false) (fun r=>l.length - r) 0 ⟨by omega,by omega⟩ ?_ trivial rfl ?_
 ·simp (maxSteps:=10000000) only [bnC,bnS,↓reduceIte,reduceCtorEq,Nat.reduceAdd,Nat.reduceEqDiff,mkT,lkT]
 rintro r cnt ⟨hr,hn⟩ ih
 refine vc_go ?_
 by_cases hr':r < l.length
 ·have h1:decide ((r:Int) < (l.length:Int))=true:=by rw [decide_eq_true_eq]; omega
  have h2:decide (r < l.length)=true:=by rw [decide_eq_true_eq]; omega
  have w1:IntKind.i64.wrap ((r:Int)+1)=((r+1:Nat):Int):=by rw [wrap64 (by omega) (by omega)]; omega
  have hm:=getD_mem hr'
  obtain ⟨x,hx⟩:∃ x,l.getD r default=x:=⟨_,rfl⟩
  have e1:=he x (by rw [←hx]; exact hm)
  simp only [stA_eq,bA_eq] at e1
  by_cases hv:p (l.getD r default)=true
  ·have e:=idxF_at (p:=p) hr' hv hn
   rw [hx] at hv
   simp (maxSteps:=10000000) only [mkT,lkT,Nat.reduceAdd,Nat.reduceEqDiff,↓reduceIte,Nat.zero_add]
   simp (maxSteps:=10000000) +contextual -implicitDefEqProofs only [bnC,bnS,St.put,borrow,borrows,pin,pl,↓reduceIte,bnT,bnH,stA_eq,AV.noref,h1,h2,allSz_stA,ldV_mapN,hx,e1,hv,e]
  ·rw [Bool.not_eq_true] at hv
   have e:=till_next hn hv
   rw [hx] at hv
   simp (maxSteps:=10000000) only [mkT,lkT,Nat.reduceAdd,Nat.reduceEqDiff,↓reduceIte,Nat.zero_add]
   simp (maxSteps:=10000000) +contextual -implicitDefEqProofs only [bnC,bnS,St.put,borrow,borrows,pin,pl,↓reduceIte,bnT,bnH,stA_eq,AV.noref,h1,h2,allSz_stA,ldV_mapN,hx,e1,hv,w1]
   refine go_weak ?_ ?_ (Nat.le_refl _) (ih (r+1) cnt ⟨by omega,e⟩ (by omega))
   ·simp (maxSteps:=10000000) only [bnC,bnS,↓reduceIte,reduceCtorEq,Nat.reduceAdd,Nat.reduceEqDiff,mkT,lkT]
   ·trivial
 ·have hrl:r=l.length:=by omega
  subst hrl
  have h1:decide ((l.length:Int) < (l.length:Int))=false:=by simp
  have e:=idxF_no (p:=p) hn
  simp (maxSteps:=10000000) only [mkT,lkT,Nat.reduceAdd,Nat.reduceEqDiff,↓reduceIte,Nat.zero_add]
  simp (maxSteps:=10000000) +contextual -implicitDefEqProofs only [bnC,bnS,St.put,↓reduceIte,h1,e]
theorem hasS0 {g:Nat} {F:List AV→Option AV} (ok:POk Tryz.prog g F) (p:ByteArray→Bool) (z:Bool) (l:List ByteArray) (he:∀ x ∈ l,F (stA x::[])=some (bA (p x))) (hlL:l.length≤1000000):
  PSpec Tryz.prog 185 [.vw z (l.map stA),.fn g []] (bA (l.any p)):=by
 obtain ⟨F1,k1,e1⟩:=pok_at (idxS0 ok p z l he hlL)
 simp only [kA_eq] at e1
 refine pspec_of_go (fEnv_ok ((.cons k1 .nil)) (.nil)) rfl Tryz.func185 rfl (by decide) (by kernel_rfl) (by kernel_rfl) ?_
 simp only [Tryz.f185,initSt,List.length_cons,List.length_nil,Nat.reduceAdd,Nat.reduceSub,List.replicate]
 refine vc_go ?_
 simp (maxSteps:=10000000) +contextual -implicitDefEqProofs only [bnC,bnS,St.put,borrow,borrows,pin,pl,↓reduceIte,bnH,bA_eq,e1,idxF_any]
theorem idxI0 {g:Nat} {F:List AV→Option AV} (ok:POk Tryz.prog g F) (p:Int→Bool) (z:Bool) (l:List Int) (he:∀ x ∈ l,F (kA .i64 x::[])=some (bA (p x))) (hlL:l.length≤1000000):
  PSpec Tryz.prog 159 [.vw z (l.map (kA .i64)),.fn g []] (kA .i64 (idxF p l)):=by
 refine pspec_of_go (fEnv_ok ((.cons ok .nil)) (.nil)) rfl Tryz.func159 rfl (by decide) (by kernel_rfl) (by kernel_rfl) ?_
 simp only [Tryz.f159,initSt,List.length_cons,List.length_nil,Nat.reduceAdd,Nat.reduceSub,List.replicate]
 refine vc_go ?_
 simp (maxSteps:=10000000) +contextual -implicitDefEqProofs only [bnC,bnS,St.put,bnT,kA_eq]
 refine go_loopW (σ:=Nat) (fun r cnt=>⟨mkT 0 19 [(0,.vw z (l.map (kA .i64))),(1,.fn g []),(7,.sc (.int .i64 l.length)),(8,.sc (.int .i64 r))],[],cnt⟩)
  (fun r=>r≤l.length∧∀ j,j < r→p (l.getD j default)=false) (fun r=>l.length - r) 0 ⟨by omega,by omega⟩ ?_ trivial rfl ?_
 ·simp (maxSteps:=10000000) only [bnC,bnS,↓reduceIte,reduceCtorEq,Nat.reduceAdd,Nat.reduceEqDiff,mkT,lkT]
 rintro r cnt ⟨hr,hn⟩ ih
 refine vc_go ?_
 by_cases hr':r < l.length
 ·have h1:decide ((r:Int) < (l.length:Int))=true:=by rw [decide_eq_true_eq]; omega
  have h2:decide (r < l.length)=true:=by rw [decide_eq_true_eq]; omega
  have w1:IntKind.i64.wrap ((r:Int)+1)=((r+1:Nat):Int):=by rw [wrap64 (by omega) (by omega)]; omega
  have hm:=getD_mem hr'
  obtain ⟨x,hx⟩:∃ x,l.getD r default=x:=⟨_,rfl⟩
  have e1:=he x (by rw [←hx]; exact hm)
  simp only [kA_eq,bA_eq] at e1
  by_cases hv:p (l.getD r default)=true
  ·have e:=idxF_at (p:=p) hr' hv hn
   rw [hx] at hv
   simp (maxSteps:=10000000) only [mkT,lkT,Nat.reduceAdd,Nat.reduceEqDiff,↓reduceIte,Nat.zero_add]
   simp (maxSteps:=10000000) +contextual -implicitDefEqProofs only [bnC,bnS,St.put,borrow,borrows,pin,pl,↓reduceIte,bnT,bnH,kA_eq,AV.noref,h1,h2,allSz_kA,ldV_mapN,hx,e1,hv,e]
  ·rw [Bool.not_eq_true] at hv
   have e:=till_next hn hv
   rw [hx] at hv
   simp (maxSteps:=10000000) only [mkT,lkT,Nat.reduceAdd,Nat.reduceEqDiff,↓reduceIte,Nat.zero_add]
   simp (maxSteps:=10000000) +contextual -implicitDefEqProofs only [bnC,bnS,St.put,borrow,borrows,pin,pl,↓reduceIte,bnT,bnH,kA_eq,AV.noref,h1,h2,allSz_kA,ldV_mapN,hx,e1,hv,w1]
   refine go_weak ?_ ?_ (Nat.le_refl _) (ih (r+1) cnt ⟨by omega,e⟩ (by omega))
   ·simp (maxSteps:=10000000) only [bnC,bnS,↓reduceIte,reduceCtorEq,Nat.reduceAdd,Nat.reduceEqDiff,mkT,lkT]
   ·trivial
 ·have hrl:r=l.length:=by omega
  subst hrl
  have h1:decide ((l.length:Int) < (l.length:Int))=false:=by simp
  have e:=idxF_no (p:=p) hn
  simp (maxSteps:=10000000) only [mkT,lkT,Nat.reduceAdd,Nat.reduceEqDiff,↓reduceIte,Nat.zero_add]
  simp (maxSteps:=10000000) +contextual -implicitDefEqProofs only [bnC,bnS,St.put,↓reduceIte,h1,e]
theorem hasI0 {g:Nat} {F:List AV→Option AV} (ok:POk Tryz.prog g F) (p:Int→Bool) (z:Bool) (l:List Int) (he:∀ x ∈ l,F (kA .i64 x::[])=some (bA (p x))) (hlL:l.length≤1000000):
  PSpec Tryz.prog 116 [.vw z (l.map (kA .i64)),.fn g []] (bA (l.any p)):=by
 obtain ⟨F1,k1,e1⟩:=pok_at (idxI0 ok p z l he hlL)
 simp only [kA_eq] at e1
 refine pspec_of_go (fEnv_ok ((.cons k1 .nil)) (.nil)) rfl Tryz.func116 rfl (by decide) (by kernel_rfl) (by kernel_rfl) ?_
 simp only [Tryz.f116,initSt,List.length_cons,List.length_nil,Nat.reduceAdd,Nat.reduceSub,List.replicate]
 refine vc_go ?_
 simp (maxSteps:=10000000) +contextual -implicitDefEqProofs only [bnC,bnS,St.put,borrow,borrows,pin,pl,↓reduceIte,bnH,bA_eq,e1,idxF_any]
theorem idxI1 {g:Nat} {F:List AV→Option AV} (ok:POk Tryz.prog g F) (p:Int→Bool) (es:List AV) (z:Bool) (l:List Int) (he:∀ x ∈ l,F (kA .i64 x::[.vp es 0 0])=some (bA (p x))) (hlL:l.length≤1000000):
  PSpec Tryz.prog 159 [.vw z (l.map (kA .i64)),.fn g [.vp es 0 0]] (kA .i64 (idxF p l)):=by
 refine pspec_of_go (fEnv_ok ((.cons ok .nil)) (.nil)) rfl Tryz.func159 rfl (by decide) (by kernel_rfl) (by kernel_rfl) ?_
 simp only [Tryz.f159,initSt,List.length_cons,List.length_nil,Nat.reduceAdd,Nat.reduceSub,List.replicate]
 refine vc_go ?_
 simp (maxSteps:=10000000) +contextual -implicitDefEqProofs only [bnC,bnS,St.put,bnT,kA_eq]
 refine go_loopW (σ:=Nat) (fun r cnt=>⟨mkT 0 19 [(0,.vw z (l.map (kA .i64))),(1,.fn g [.vp es 0 0]),(7,.sc (.int .i64 l.length)),(8,.sc (.int .i64 r))],[],cnt⟩)
  (fun r=>r≤l.length∧∀ j,j < r→p (l.getD j default)=false) (fun r=>l.length - r) 0 ⟨by omega,by omega⟩ ?_ trivial rfl ?_
 ·simp (maxSteps:=10000000) only [bnC,bnS,↓reduceIte,reduceCtorEq,Nat.reduceAdd,Nat.reduceEqDiff,mkT,lkT]
 rintro r cnt ⟨hr,hn⟩ ih
 refine vc_go ?_
 by_cases hr':r < l.length
 ·have h1:decide ((r:Int) < (l.length:Int))=true:=by rw [decide_eq_true_eq]; omega
  have h2:decide (r < l.length)=true:=by rw [decide_eq_true_eq]; omega
  have w1:IntKind.i64.wrap ((r:Int)+1)=((r+1:Nat):Int):=by rw [wrap64 (by omega) (by omega)]; omega
  have hm:=getD_mem hr'
  obtain ⟨x,hx⟩:∃ x,l.getD r default=x:=⟨_,rfl⟩
  have e1:=he x (by rw [←hx]; exact hm)
  simp only [kA_eq,bA_eq] at e1
  by_cases hv:p (l.getD r default)=true
  ·have e:=idxF_at (p:=p) hr' hv hn
   rw [hx] at hv
   simp (maxSteps:=10000000) only [mkT,lkT,Nat.reduceAdd,Nat.reduceEqDiff,↓reduceIte,Nat.zero_add]
   simp (maxSteps:=10000000) +contextual -implicitDefEqProofs only [bnC,bnS,St.put,borrow,borrows,pin,pl,↓reduceIte,bnT,bnH,kA_eq,AV.noref,h1,h2,allSz_kA,ldV_mapN,hx,e1,hv,e]
  ·rw [Bool.not_eq_true] at hv
   have e:=till_next hn hv
   rw [hx] at hv
   simp (maxSteps:=10000000) only [mkT,lkT,Nat.reduceAdd,Nat.reduceEqDiff,↓reduceIte,Nat.zero_add]
   simp (maxSteps:=10000000) +contextual -implicitDefEqProofs only [bnC,bnS,St.put,borrow,borrows,pin,pl,↓reduceIte,bnT,bnH,kA_eq,AV.noref,h1,h2,allSz_kA,ldV_mapN,hx,e1,hv,w1]
   refine go_weak ?_ ?_ (Nat.le_refl _) (ih (r+1) cnt ⟨by omega,e⟩ (by omega))
   ·simp (maxSteps:=10000000) only [bnC,bnS,↓reduceIte,reduceCtorEq,Nat.reduceAdd,Nat.reduceEqDiff,mkT,lkT]
   ·trivial
 ·have hrl:r=l.length:=by omega
  subst hrl
  have h1:decide ((l.length:Int) < (l.length:Int))=false:=by simp
  have e:=idxF_no (p:=p) hn
  simp (maxSteps:=10000000) only [mkT,lkT,Nat.reduceAdd,Nat.reduceEqDiff,↓reduceIte,Nat.zero_add]
  simp (maxSteps:=10000000) +contextual -implicitDefEqProofs only [bnC,bnS,St.put,↓reduceIte,h1,e]
theorem hasI1 {g:Nat} {F:List AV→Option AV} (ok:POk Tryz.prog g F) (p:Int→Bool) (es:List AV) (z:Bool) (l:List Int) (he:∀ x ∈ l,F (kA .i64 x::[.vp es 0 0])=some (bA (p x))) (hlL:l.length≤1000000):
  PSpec Tryz.prog 116 [.vw z (l.map (kA .i64)),.fn g [.vp es 0 0]] (bA (l.any p)):=by
 obtain ⟨F1,k1,e1⟩:=pok_at (idxI1 ok p es z l he hlL)
 simp only [kA_eq] at e1
 refine pspec_of_go (fEnv_ok ((.cons k1 .nil)) (.nil)) rfl Tryz.func116 rfl (by decide) (by kernel_rfl) (by kernel_rfl) ?_
 simp only [Tryz.f116,initSt,List.length_cons,List.length_nil,Nat.reduceAdd,Nat.reduceSub,List.replicate]
 refine vc_go ?_
 simp (maxSteps:=10000000) +contextual -implicitDefEqProofs only [bnC,bnS,St.put,borrow,borrows,pin,pl,↓reduceIte,bnH,bA_eq,e1,idxF_any]
theorem idxE1 {g:Nat} {F:List AV→Option AV} (ok:POk Tryz.prog g F) (p:En→Bool) (es:List AV) (z:Bool) (l:List En) (he:∀ x ∈ l,F (enA x::[.vp es 0 0])=some (bA (p x))) (hlL:l.length≤1000000):
  PSpec Tryz.prog 220 [.vw z (l.map enA),.fn g [.vp es 0 0]] (kA .i64 (idxF p l)):=by
 refine pspec_of_go (fEnv_ok ((.cons ok .nil)) (.nil)) rfl Tryz.func220 rfl (by decide) (by kernel_rfl) (by kernel_rfl) ?_
 simp only [Tryz.f220,initSt,List.length_cons,List.length_nil,Nat.reduceAdd,Nat.reduceSub,List.replicate]
 refine vc_go ?_
 simp (maxSteps:=10000000) +contextual -implicitDefEqProofs only [bnC,bnS,St.put,bnT,kA_eq]
 refine go_loopW (σ:=Nat) (fun r cnt=>⟨mkT 0 19 [(0,.vw z (l.map enA)),(1,.fn g [.vp es 0 0]),(7,.sc (.int .i64 l.length)),(8,.sc (.int .i64 r))],[],cnt⟩)
  (fun r=>r≤l.length∧∀ j,j < r→p (l.getD j default)=false) (fun r=>l.length - r) 0 ⟨by omega,by omega⟩ ?_ trivial rfl ?_
 ·simp (maxSteps:=10000000) only [bnC,bnS,↓reduceIte,reduceCtorEq,Nat.reduceAdd,Nat.reduceEqDiff,mkT,lkT]
 rintro r cnt ⟨hr,hn⟩ ih
 refine vc_go ?_
 by_cases hr':r < l.length
 ·have h1:decide ((r:Int) < (l.length:Int))=true:=by rw [decide_eq_true_eq]; omega
  have h2:decide (r < l.length)=true:=by rw [decide_eq_true_eq]; omega
  have w1:IntKind.i64.wrap ((r:Int)+1)=((r+1:Nat):Int):=by rw [wrap64 (by omega) (by omega)]; omega
  have hm:=getD_mem hr'
  obtain ⟨x,hx⟩:∃ x,l.getD r default=x:=⟨_,rfl⟩
  have e1:=he x (by rw [←hx]; exact hm)
  simp only [enA_eq,bA_eq] at e1
  by_cases hv:p (l.getD r default)=true
  ·have e:=idxF_at (p:=p) hr' hv hn
   rw [hx] at hv
   simp (maxSteps:=10000000) only [mkT,lkT,Nat.reduceAdd,Nat.reduceEqDiff,↓reduceIte,Nat.zero_add]
   simp (maxSteps:=10000000) +contextual -implicitDefEqProofs only [bnC,bnS,St.put,borrow,borrows,pin,pl,↓reduceIte,Nat.reduceAdd,bnT,Int.reduceAdd,bnH,enA_eq,norefs,AV.noref,h1,h2,allSz_enA,ldV_mapN,hx,e1,hv,e]
  ·rw [Bool.not_eq_true] at hv
   have e:=till_next hn hv
   rw [hx] at hv
   simp (maxSteps:=10000000) only [mkT,lkT,Nat.reduceAdd,Nat.reduceEqDiff,↓reduceIte,Nat.zero_add]
   simp (maxSteps:=10000000) +contextual -implicitDefEqProofs only [bnC,bnS,St.put,borrow,borrows,pin,pl,↓reduceIte,Nat.reduceAdd,bnT,Int.reduceAdd,bnH,enA_eq,norefs,AV.noref,h1,h2,allSz_enA,ldV_mapN,hx,e1,hv,w1]
   refine go_weak ?_ ?_ (Nat.le_refl _) (ih (r+1) cnt ⟨by omega,e⟩ (by omega))
   ·simp (maxSteps:=10000000) only [bnC,bnS,↓reduceIte,reduceCtorEq,Nat.reduceAdd,Nat.reduceEqDiff,mkT,lkT]
   ·trivial
 ·have hrl:r=l.length:=by omega
  subst hrl
  have h1:decide ((l.length:Int) < (l.length:Int))=false:=by simp
  have e:=idxF_no (p:=p) hn
  simp (maxSteps:=10000000) only [mkT,lkT,Nat.reduceAdd,Nat.reduceEqDiff,↓reduceIte,Nat.zero_add]
  simp (maxSteps:=10000000) +contextual -implicitDefEqProofs only [bnC,bnS,St.put,↓reduceIte,h1,e]
theorem hasE1 {g:Nat} {F:List AV→Option AV} (ok:POk Tryz.prog g F) (p:En→Bool) (es:List AV) (z:Bool) (l:List En) (he:∀ x ∈ l,F (enA x::[.vp es 0 0])=some (bA (p x))) (hlL:l.length≤1000000):
  PSpec Tryz.prog 190 [.vw z (l.map enA),.fn g [.vp es 0 0]] (bA (l.any p)):=by
 obtain ⟨F1,k1,e1⟩:=pok_at (idxE1 ok p es z l he hlL)
 simp only [kA_eq] at e1
 refine pspec_of_go (fEnv_ok ((.cons k1 .nil)) (.nil)) rfl Tryz.func190 rfl (by decide) (by kernel_rfl) (by kernel_rfl) ?_
 simp only [Tryz.f190,initSt,List.length_cons,List.length_nil,Nat.reduceAdd,Nat.reduceSub,List.replicate]
 refine vc_go ?_
 simp (maxSteps:=10000000) +contextual -implicitDefEqProofs only [bnC,bnS,St.put,borrow,borrows,pin,pl,↓reduceIte,bnH,bA_eq,e1,idxF_any]
end Go.Proofs.YtdjpkhjaibdogaaGreat
