/-
  Joined texts: MT, EN.
  Conditions: none.
-/
import Derived.Test.YtdjpkhjaibdogaaGreatL25
import Derived.Test.YtdjpkhjaibdogaaGreatL15
import Derived.Test.YtdjpkhjaibdogaaGreatL27
import Derived.Test.YtdjpkhjaibdogaaGreatL43
import Derived.Test.YtdjpkhjaibdogaaGreatL52
namespace Go.Proofs.YtdjpkhjaibdogaaGreat
open Go Go.SX
set_option linter.unusedSimpArgs false
set_option linter.unusedVariables false
set_option maxRecDepth 100000
theorem wf_u8 {n:Int} (h:(Lit.int .u8 n).wf=true):0≤n∧n < 256:=by
 have h1:IntKind.min .u8=0:=rfl
 have h2:IntKind.max .u8=255:=rfl
 simp only [Lit.wf,h1,h2,Bool.and_eq_true,decide_eq_true_eq] at h
 omega
theorem cell5 {c:List AV} (h:HasC Tryz.prog 5 c):∃ n,c=[kA .u8 n]∧0≤n∧n < 256:=by
 obtain ⟨n,rfl,hn⟩:=h.inv_int un5
 exact ⟨n,rfl,wf_u8 hn⟩
theorem has5 {a:AV} (h:HasV Tryz.prog 5 a):∃ n,a=kA .u8 n∧0≤n∧n < 256:=by
 obtain ⟨c,hc,rfl⟩:=h
 obtain ⟨n,rfl,hn⟩:=cell5 hc
 exact ⟨n,rfl,hn⟩
theorem mkF_const {α:Type} {q:α→Prop} {enc:α→List AV} {r:AV} (x:α) (hq:q x):mkF q enc (fun _=>r) (enc x)=some r:=by
 unfold mkF
 rw [dif_pos ⟨x,hq,rfl⟩]
end Go.Proofs.YtdjpkhjaibdogaaGreat

namespace Go.Proofs.YtdjpkhjaibdogaaGreat
open Go Go.SX
set_option linter.unusedSimpArgs false
set_option linter.unusedVariables false
set_option maxRecDepth 100000
theorem has22 {a:AV} (h:HasV Tryz.prog 22 a):∃ p:Bool × List Nat,a=.vw p.1 (p.2.map uA)∧u8Q p:=by
 obtain ⟨c,hc,rfl⟩:=h
 obtain ⟨z,es,rfl,hes⟩:=hc.inv_slice Tryz.underlying22
 obtain ⟨l,rfl⟩:=HasV.list (f:=fun x:Fin 256=>uA x.val) (fun a ha=>by
  obtain ⟨n,rfl,h1,h2⟩:=has5 ha
  exact ⟨⟨n.toNat,by omega⟩,by simp only [uA,kA]; congr 2; omega⟩) hes
 refine ⟨(z,l.map (·.val)),by simp [List.map_map]; rfl,fun x hx=>?_⟩
 obtain ⟨y,_,rfl⟩:=List.mem_map.1 hx
 exact y.isLt
theorem cell3 {c:List AV} (h:HasC Tryz.prog 3 c):∃ n,c=[kA .i64 n]:=by
 obtain ⟨n,rfl,_⟩:=h.inv_int un3
 exact ⟨n,rfl⟩
theorem cell38 {c:List AV} (h:HasC Tryz.prog 38 c):∃ n,c=[kA .u32 n]:=by
 obtain ⟨n,rfl,_⟩:=h.inv_int un38
 exact ⟨n,rfl⟩
theorem has3 {a:AV} (h:HasV Tryz.prog 3 a):∃ n,a=kA .i64 n:=by
 obtain ⟨c,hc,rfl⟩:=h
 obtain ⟨n,rfl⟩:=cell3 hc
 exact ⟨n,rfl⟩
theorem cell34 {c:List AV} (h:HasC Tryz.prog 34 c):∃ (z:Bool) (l:List Int),c=[.vw z (l.map (kA .i64))]:=by
 obtain ⟨z,es,rfl,hes⟩:=h.inv_slice Tryz.underlying34
 obtain ⟨l,rfl⟩:=HasV.list (f:=kA .i64) (fun a ha=>has3 ha) hes
 exact ⟨z,l,rfl⟩
theorem cell78 {c:List AV} (h:HasC Tryz.prog 78 c):∃ x:Lm,c=[kA .i64 x.lv,kA .i64 x.on,kA .i64 x.off,kA .i64 x.si]:=by
 have h0:HasFs Tryz.prog [3,3,3,3] c:=h.inv_struct (fs:=_) Tryz.underlying78
 obtain ⟨c1,r1,rfl,g1,h1⟩:=h0.inv_cons
 obtain ⟨c2,r2,rfl,g2,h2⟩:=h1.inv_cons
 obtain ⟨c3,r3,rfl,g3,h3⟩:=h2.inv_cons
 obtain ⟨c4,r4,rfl,g4,h4⟩:=h3.inv_cons
 obtain rfl:=h4.inv_nil
 obtain ⟨n1,rfl⟩:=cell3 g1
 obtain ⟨n2,rfl⟩:=cell3 g2
 obtain ⟨n3,rfl⟩:=cell3 g3
 obtain ⟨n4,rfl⟩:=cell3 g4
 exact ⟨⟨n1,n2,n3,n4⟩,rfl⟩
theorem has82 {a:AV} (h:HasV Tryz.prog 82 a):∃ x:Lo,a=loA x:=by
 obtain ⟨c,hc,rfl⟩:=h
 have h0:HasFs Tryz.prog [3,3,78] c:=hc.inv_struct (fs:=_) Tryz.underlying82
 obtain ⟨c1,r1,rfl,g1,h1⟩:=h0.inv_cons
 obtain ⟨c2,r2,rfl,g2,h2⟩:=h1.inv_cons
 obtain ⟨c3,r3,rfl,g3,h3⟩:=h2.inv_cons
 obtain rfl:=h3.inv_nil
 obtain ⟨n1,rfl⟩:=cell3 g1
 obtain ⟨n2,rfl⟩:=cell3 g2
 obtain ⟨x,rfl⟩:=cell78 g3
 exact ⟨⟨n1,n2,x⟩,rfl⟩
theorem cell39 {c:List AV} (h:HasC Tryz.prog 39 c):∃ (z:Bool) (l:List Lo),c=[.vw z (l.map loA)]:=by
 obtain ⟨z,es,rfl,hes⟩:=h.inv_slice Tryz.underlying39
 obtain ⟨l,rfl⟩:=HasV.list (f:=loA) (fun a ha=>has82 ha) hes
 exact ⟨z,l,rfl⟩
theorem has41 {a:AV} (h:HasV Tryz.prog 41 a):∃ x:Rs,a=rsA x:=by
 obtain ⟨c,hc,rfl⟩:=h
 have h0:HasFs Tryz.prog [34,34,38,39,3] c:=hc.inv_struct (fs:=_) Tryz.underlying41
 obtain ⟨c1,r1,rfl,g1,h1⟩:=h0.inv_cons
 obtain ⟨c2,r2,rfl,g2,h2⟩:=h1.inv_cons
 obtain ⟨c3,r3,rfl,g3,h3⟩:=h2.inv_cons
 obtain ⟨c4,r4,rfl,g4,h4⟩:=h3.inv_cons
 obtain ⟨c5,r5,rfl,g5,h5⟩:=h4.inv_cons
 obtain rfl:=h5.inv_nil
 obtain ⟨z1,l1,rfl⟩:=cell34 g1
 obtain ⟨z2,l2,rfl⟩:=cell34 g2
 obtain ⟨n3,rfl⟩:=cell38 g3
 obtain ⟨z4,l4,rfl⟩:=cell39 g4
 obtain ⟨n5,rfl⟩:=cell3 g5
 exact ⟨⟨z1,l1,z2,l2,n3,z4,l4,n5⟩,rfl⟩
end Go.Proofs.YtdjpkhjaibdogaaGreat
