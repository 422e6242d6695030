/-
  SX, part 23: which operations make a slice that is only read.
  Conditions: none.
-/
import Derived.Test.YtdjpkhjaibdogaaGreatSXN
namespace Go.SX
set_option linter.unusedVariables false
section
variable (d : Option Nat) (ty : TypeId) (pos : String) (af : Array Edge) (g : Option (Nat × Bool)) (X Y : Option St)
theorem opM_move_ vx : opM true ⟨d, .move vx, ty, pos, af, g⟩ X Y = X := rfl
theorem opM_assign_ vx : opM true ⟨d, .assign vx, ty, pos, af, g⟩ X Y = X := rfl
theorem opM_pick_ va vb vc : opM true ⟨d, .pick va vb vc, ty, pos, af, g⟩ X Y = X := rfl
theorem opM_alloc_ ve : opM true ⟨d, .alloc ve, ty, pos, af, g⟩ X Y = X := rfl
theorem opM_box_ ve vv : opM true ⟨d, .box ve vv, ty, pos, af, g⟩ X Y = X := rfl
theorem opM_build_ vt vp : opM true ⟨d, .build vt vp, ty, pos, af, g⟩ X Y = X := rfl
theorem opM_insert_ va vb vc vd : opM true ⟨d, .insert va vb vc vd, ty, pos, af, g⟩ X Y = X := rfl
theorem opM_load_ vt vx : opM true ⟨d, .load vt vx, ty, pos, af, g⟩ X Y = X := rfl
theorem opM_store_ vt va vv : opM true ⟨d, .store vt va vv, ty, pos, af, g⟩ X Y = X := rfl
theorem opM_ready_ vg : opM true ⟨d, .ready vg, ty, pos, af, g⟩ X Y = X := rfl
theorem opM_waits_ vg : opM true ⟨d, .waits vg, ty, pos, af, g⟩ X Y = X := rfl
theorem opM_nilCheck_ vx : opM true ⟨d, .nilCheck vx, ty, pos, af, g⟩ X Y = X := rfl
theorem opM_binOp_ vo vt vx vy vu : opM true ⟨d, .binOp vo vt vx vy vu, ty, pos, af, g⟩ X Y = X := rfl
theorem opM_unOp_ vo vt vx : opM true ⟨d, .unOp vo vt vx, ty, pos, af, g⟩ X Y = X := rfl
theorem opM_convert_ vs vt vx : opM true ⟨d, .convert vs vt vx, ty, pos, af, g⟩ X Y = X := rfl
theorem opM_sliceToArrayPointer_ vd vx : opM true ⟨d, .sliceToArrayPointer vd vx, ty, pos, af, g⟩ X Y = X := rfl
theorem opM_makeInterface_ vt vx : opM true ⟨d, .makeInterface vt vx, ty, pos, af, g⟩ X Y = X := rfl
theorem opM_makeFunc_ vf va vb : opM true ⟨d, .makeFunc vf va vb, ty, pos, af, g⟩ X Y = X := rfl
theorem opM_makeMap_ vt vr : opM true ⟨d, .makeMap vt vr, ty, pos, af, g⟩ X Y = X := rfl
theorem opM_makeChan_ vt vs : opM true ⟨d, .makeChan vt vs, ty, pos, af, g⟩ X Y = X := rfl
theorem opM_slice_ vt vx va vb vc : opM true ⟨d, .slice vt vx va vb vc, ty, pos, af, g⟩ X Y = X := rfl
theorem opM_fieldAddr_ vt vx vf : opM true ⟨d, .fieldAddr vt vx vf, ty, pos, af, g⟩ X Y = X := rfl
theorem opM_field_ vt vx vf : opM true ⟨d, .field vt vx vf, ty, pos, af, g⟩ X Y = X := rfl
theorem opM_indexAddr_ vt vx vi : opM true ⟨d, .indexAddr vt vx vi, ty, pos, af, g⟩ X Y = X := rfl
theorem opM_index_ vt vx vi : opM true ⟨d, .index vt vx vi, ty, pos, af, g⟩ X Y = X := rfl
theorem opM_lookup_ vt vx vi vc : opM true ⟨d, .lookup vt vx vi vc, ty, pos, af, g⟩ X Y = X := rfl
theorem opM_mapUpdate_ vt va vb vc : opM true ⟨d, .mapUpdate vt va vb vc, ty, pos, af, g⟩ X Y = X := rfl
theorem opM_mapEntry_ vt va vb : opM true ⟨d, .mapEntry vt va vb, ty, pos, af, g⟩ X Y = X := rfl
theorem opM_entryStore_ vt va vb vc : opM true ⟨d, .entryStore vt va vb vc, ty, pos, af, g⟩ X Y = X := rfl
theorem opM_range_ vt vx : opM true ⟨d, .range vt vx, ty, pos, af, g⟩ X Y = X := rfl
theorem opM_next_ vi vs : opM true ⟨d, .next vi vs, ty, pos, af, g⟩ X Y = X := rfl
theorem opM_entry_ vi : opM true ⟨d, .entry vi, ty, pos, af, g⟩ X Y = X := rfl
theorem opM_typeAssert_ vx vt vu vc : opM true ⟨d, .typeAssert vx vt vu vc, ty, pos, af, g⟩ X Y = X := rfl
theorem opM_extract_ vt vi : opM true ⟨d, .extract vt vi, ty, pos, af, g⟩ X Y = X := rfl
theorem opM_call_ vc : opM true ⟨d, .call vc, ty, pos, af, g⟩ X Y = X := rfl
theorem opM_go_ vc : opM true ⟨d, .go vc, ty, pos, af, g⟩ X Y = X := rfl
theorem opM_defer_ vc : opM true ⟨d, .defer vc, ty, pos, af, g⟩ X Y = X := rfl
theorem opM_panic_ vx : opM true ⟨d, .panic vx, ty, pos, af, g⟩ X Y = X := rfl
theorem opM_send_ vc vx : opM true ⟨d, .send vc vx, ty, pos, af, g⟩ X Y = X := rfl
theorem opM_recv_ vt vc vo : opM true ⟨d, .recv vt vc vo, ty, pos, af, g⟩ X Y = X := rfl
theorem opM_select_ vc vb : opM true ⟨d, .select vc vb, ty, pos, af, g⟩ X Y = X := rfl
theorem opM_bg (t : TypeId) (n : Nat) (ps : Array (Nat × Operand)) (h : Nat × Bool) : opM true ⟨d, .buildSlice t n ps, ty, pos, af, some h⟩ X Y = X := rfl
theorem opM_mg (t : TypeId) (a b : Operand) (h : Nat × Bool) : opM true ⟨d, .makeSlice t a b, ty, pos, af, some h⟩ X Y = X := rfl
end
end Go.SX
