/-
  Lemmas towards ModesPriority (joined texts: GI).
  Conditions: none.
-/
import Derived.Test.YtdjpkhjaibdogaaGreatL01
import Derived.Test.YtdjpkhjaibdogaaGreatProg
import Derived.Test.YtdjpkhjaibdogaaGreatL07
import Derived.WalkKit
import Derived.Lib.Walk
import Derived.Lib.SliceRun
import Derived.Laws.Externs
import Derived.Laws.NewBlocks
import Derived.Deep.RegionLaw
set_option linter.unusedSimpArgs false
set_option linter.unusedVariables false
set_option maxRecDepth 100000
set_option maxHeartbeats 4000000
namespace Go.Proofs.YtdjpkhjaibdogaaGreat
open Go Go.SX
variable {P:Program}
theorem WB (w:World) {o:Oper} {a:Act} {K:Act→World→Prop} {Q:Exit→Act→World→Prop} (d s:Operand) (t t':TypeId)
  (ho:o.op=.call { callee:=.builtin .copy,args:=#[d,s],argTypes:=#[t,t'] }) (v u:Value) (hd:a.eval d=v) (hs:a.eval s=u) {v':Value} {w':World}
  (hr:(Builtin.copy_ #[t,t'] o.type #[v,u]).run P w=.ok v' w') (h:K (a.put o.dst v') w'):o.wp P a w K Q:=by
 unfold Oper.wp execOp
 simp only [ho,resolve,invoke,builtin,Sem.run_bind,Sem.run_pure,Result.andThen_ok,List.map_toArray,lx31,lx46,hd,hs,hr]
 exact h
theorem Fq (w:World) {ops:Array Oper} {rest:List Oper} {o:Oper} {a:Act} {Q:Exit→Act→World→Prop} (hgd:o.guard=none) (d s:Operand) (t t':TypeId)
  (ho:o.op=.call { callee:=.builtin .copy,args:=#[d,s],argTypes:=#[t,t'] }) (v u:Value) (hd:a.eval d=v) (hs:a.eval s=u) {v':Value} {w':World}
  (hr:(Builtin.copy_ #[t,t'] o.type #[v,u]).run P w=.ok v' w') (h:wpList P ops Q rest (a.put o.dst v') w'):wpList P ops Q (o::rest) a w:=
 wpList_plain hgd fun _ hK=>WB w d s t t' ho v u hd hs hr (hK _ _ h)
theorem Ko {ops:Array Oper} {o:Oper} {a:Act} {w:World} {K:Act→World→Prop} {Q:Exit→Act→World→Prop} {E:Prop}
  (hg:o.guard=none) (d x:Operand) (dT sT:TypeId) (hop:o.op=Op.call { callee:=Callee.builtin Builtin.copy,args:=#[d,x],argTypes:=#[dT,sT] })
  (v u:Value) (hd:a.eval d=v) (hx:a.eval x=u) {v':Value} {w':World} (hr:(Builtin.copy_ #[dT,sT] o.type #[v,u]).run P w=.ok v' w') (hK:K (a.put o.dst v') w'):
  if Region.wanted o (yielded ops a.tmps)=true then Oper.wp P o a w K Q else E:=by
 have hw:Region.wanted o (yielded ops a.tmps)=true:=by simp [Region.wanted,hg]
 rw [if_pos hw]
 unfold Oper.wp
 simp [execOp,hop,resolve,invoke,builtin,hd,hx,hr,Result.andThen]
 exact hK
theorem SM (w:World) {o:Oper} {a:Act} {K:Act→World→Prop} {Q:Exit→Act→World→Prop} (s x:Operand) (t tn:TypeId)
  (ho:o.op=.call { callee:=.builtin .append,args:=#[s,x],argTypes:=#[t,tn] }) (vs vx:Value) (hs:a.eval s=vs) (hx:a.eval x=vx)
  (v':Value) (w':World) (hr:(Builtin.append_ #[t,tn] o.type #[vs,vx]).run P w=.ok v' w') (h:K (a.put o.dst v') w'):o.wp P a w K Q:=by
 unfold Oper.wp execOp
 simp only [ho,resolve,invoke,builtin,Sem.run_bind,Sem.run_pure,Result.andThen_ok,List.map_toArray,lx31,lx46,hs,hx,hr]
 exact h
theorem LU (w:World) {ops:Array Oper} {rest:List Oper} {o:Oper} {a:Act} {Q:Exit→Act→World→Prop} (hgd:o.guard=none) (s x:Operand) (t tn:TypeId)
  (ho:o.op=.call { callee:=.builtin .append,args:=#[s,x],argTypes:=#[t,tn] }) (vs vx:Value) (hs:a.eval s=vs) (hx:a.eval x=vx)
  (v':Value) (w':World) (hr:(Builtin.append_ #[t,tn] o.type #[vs,vx]).run P w=.ok v' w') (h:wpList P ops Q rest (a.put o.dst v') w'):wpList P ops Q (o::rest) a w:=
 wpList_plain hgd fun _ hK=>SM w s x t tn ho vs vx hs hx v' w' hr (hK _ _ h)
theorem t39:Tryz.prog.underlying 39=some (.slice 82):=by kernel_rfl
theorem t3':Tryz.prog.underlying 3=some (.int .i64):=by kernel_rfl
theorem Apu (w:World) (b off n c i vb voff vc:Nat) (hi:i < n) (hnc:n≤c) (hroom:c < n+1) (hn:n≤100000)
  (ROW R1 R2:Array Value) (G:Nat) (hGn:n+1≤G) (hG63:G≤9223372036854775807)
  (hrz:∀ ty,(Builtin.append_ #[39,3] ty #[.slice (some ⟨b,off,none⟩) i c,.int .i64 ((n:Int)+1 - (i:Int))]).run Tryz.prog w=.ok (.slice (some ⟨w.heap.size,0,none⟩) (n+1) G) (w.drew.alloc (.cells ROW 82)))
  (hcpA:∀ ty dc (W:World),W.heap=(w.drew.alloc (.cells ROW 82)).heap→(Builtin.copy_ #[39,39] ty #[.slice (some ⟨w.heap.size,i * 6,none⟩) (n+1 - i) dc,.slice (some ⟨vb,voff,none⟩) 1 vc]).run Tryz.prog W=.ok (.int .i64 1) (W.setRow w.heap.size R1))
  (hcpB:∀ ty dc sc (W:World),W.heap=((w.drew.alloc (.cells ROW 82)).setRow w.heap.size R1).heap→(Builtin.copy_ #[39,39] ty #[.slice (some ⟨w.heap.size,(i+1) * 6,none⟩) (n+1 - (i+1)) dc,.slice (some ⟨b,off+i * 6,none⟩) (n - i) sc]).run Tryz.prog W=.ok (.int .i64 (n - i:Nat)) (W.setRow w.heap.size R2)):
  Calls Tryz.prog 234 #[.slice (some ⟨b,off,none⟩) n c,.int .i64 i,.slice (some ⟨vb,voff,none⟩) 1 vc] w fun e w'=>
   e=.returned (.slice (some ⟨w.heap.size,0,none⟩) (n+1) G)∧w'.os=w.os∧w'.tape=w.tape∧w'.output=w.output∧w'.heap=(((w.drew.alloc (.cells ROW 82)).setRow w.heap.size R1).setRow w.heap.size R2).heap:=by
 have hz1:¬ ((1:Int)=0):=An
 have hz2:¬ ((i:Int)=(n:Int)):=An
 have hz3:(c:Int) < (n:Int)+1:=An
 have hw1:IntKind.i64.wrap ((i:Int)+1)=(i:Int)+1:=by rw [IntKind.wrap_i64]; omega
 have hb1:(0:Int)≤(i:Int)+1:=An
 have DO:i≤n:=An
 have htn:((i:Int)+1).toNat=i+1:=An
 have hb3:(i:Int)≤(n:Int):=An
 have hci:¬ (c=i):=An
 have hGi:¬ (G=i):=An
 have hGim:¬ (G=i+1):=An
 have mixed:Tryz.prog.follows .mixedOrders=true:=by rfl
 have z82:∀ w,(sizeOf 82).run Tryz.prog w=.ok 6 w:=fun _=>by kernel_rfl
 have u39:=run_underlying t39
 go_enter Tryz.func234,Tryz.ntmps234
 go_wp2_with (first
  | (at_builtin; refine LU _ rfl _ _ _ _ rfl _ _ rfl rfl _ _ (hrz _) ?_)
  | (refine Fq _ rfl _ _ 39 39 rfl _ _ rfl rfl (hcpA _ _ _ (by rfl)) ?_)
  | (refine Fq _ rfl _ _ 39 39 rfl _ _ rfl rfl (hcpB _ _ _ _ (by rfl)) ?_))
 go_region_law (refine Ko rfl _ _ 39 39 rfl (.slice (some ⟨w.heap.size,(i+1) * 6,none⟩) (n+1 - (i+1)) (G - (i+1))) (.slice (some ⟨b,off+i * 6,none⟩) (n - i) (c - i)) (by simp [Act.eval,Act.put]) (by simp [Act.eval,Act.put]) (hcpB _ _ _ _ (by rfl)) ?_)
 go_wp2
 go_ret
 exact ⟨rfl,rfl,rfl,rfl,rfl⟩
theorem Aj7 (w:World) (b off n c i vb voff vc:Nat) (hi:i < n) (hroom:n+1≤c) (hn:n≤100000) (hc:c≤9223372036854775807)
  (R1 R2:Array Value)
  (hov:∀ lb cb,(callFunc 249 #[.slice (some ⟨vb,voff,none⟩) 1 vc,.slice (some ⟨b,off+(i+1) * 6,none⟩) lb cb]).run Tryz.prog w=.ok (.value (.bool false)) w)
  (hcp1:∀ ty dc sc (W:World),W.heap=w.heap→(Builtin.copy_ #[39,39] ty #[.slice (some ⟨b,off+(i+1) * 6,none⟩) (n+1 - (i+1)) dc,.slice (some ⟨b,off+i * 6,none⟩) (n+1 - i) sc]).run Tryz.prog W=.ok (.int .i64 (n - i:Nat)) (W.setRow b R1))
  (hcp2:∀ ty dc (W:World),W.heap=(w.setRow b R1).heap→(Builtin.copy_ #[39,39] ty #[.slice (some ⟨b,off+i * 6,none⟩) (n+1 - i) dc,.slice (some ⟨vb,voff,none⟩) 1 vc]).run Tryz.prog W=.ok (.int .i64 1) (W.setRow b R2)):
  Calls Tryz.prog 234 #[.slice (some ⟨b,off,none⟩) n c,.int .i64 i,.slice (some ⟨vb,voff,none⟩) 1 vc] w fun e w'=>
   e=.returned (.slice (some ⟨b,off,none⟩) (n+1) c)∧w'.os=w.os∧w'.tape=w.tape∧w'.output=w.output∧w'.heap=((w.setRow b R1).setRow b R2).heap:=by
 have hz1:¬ ((1:Int)=0):=An
 have hz2:¬ ((i:Int)=(n:Int)):=An
 have hz3:¬ ((c:Int) < (n:Int)+1):=An
 have hw1:IntKind.i64.wrap ((i:Int)+1)=(i:Int)+1:=by rw [IntKind.wrap_i64]; omega
 have hb1:(0:Int)≤(i:Int)+1:=An
 have DO:i≤n:=An
 have htn:((i:Int)+1).toNat=i+1:=An
 have hb3:(i:Int)≤(n:Int)+1:=An
 have hci:¬ (c=i):=An
 have hci1:¬ (c=i+1):=An
 have mixed:Tryz.prog.follows .mixedOrders=true:=by rfl
 have z82:∀ w,(sizeOf 82).run Tryz.prog w=.ok 6 w:=fun _=>by kernel_rfl
 have u39:=run_underlying t39
 go_enter Tryz.func234,Tryz.ntmps234
 go_wp2_with (simp only [hov])
 go_region_law (refine Ko rfl _ _ 39 39 rfl (.slice (some ⟨b,off+(i+1) * 6,none⟩) (n+1 - (i+1)) (c - (i+1))) (.slice (some ⟨b,off+i * 6,none⟩) (n+1 - i) (c - i)) (by simp [Act.eval,Act.put]) (by simp [Act.eval,Act.put]) (hcp1 _ _ _ _ (by rfl)) ?_)
 go_wp2_with (refine Fq _ rfl _ _ 39 39 rfl _ _ rfl rfl (hcp2 _ _ _ (by rfl)) ?_)
 go_ret
 exact ⟨rfl,rfl,rfl,rfl,rfl⟩
end Go.Proofs.YtdjpkhjaibdogaaGreat
