/-
  SX, part 31: what 'simp' need not look into: the code that is still to be walked.
  Conditions: none.
-/
import Derived.Test.YtdjpkhjaibdogaaGreatSXS
namespace Go.SX
section
variable {P : Program} {E : Env} {n0 : Nat} {rs : List ResultVar} {R : AV → St → Prop} {k : List Item}
theorem cg_vc {s s' : St} (h : s = s') : Vc P E n0 rs R k s = Vc P E n0 rs R k s' := by rw [h]
theorem cg_go {s s' : St} (h : s = s') : Go P E n0 rs R k s = Go P E n0 rs R k s' := by rw [h]
theorem cg_vcC {x y : Code} {s s' : St} {v v' : AV} (h : s = s') (h2 : v = v') : VcC P E n0 rs R x y k s v = VcC P E n0 rs R x y k s' v' := by rw [h, h2]
theorem cg_vcO {all : Array Oper} {r r' : List Oper} {s s' : St} (h0 : r = r') (h : s = s') : VcO P E n0 rs R all r k s = VcO P E n0 rs R all r' k s' := by rw [h0, h]
theorem cg_vcS {all : Array Oper} {r : List Oper} {s s' : Option St} (h : s = s') : VcS P E n0 rs R all r k s = VcS P E n0 rs R all r k s' := by rw [h]
theorem cg_vcP {all : Array Oper} {r r' : List Oper} {s s' : St} (h0 : r = r') (h : s = s') : VcP P E n0 rs R all r k s = VcP P E n0 rs R all r' k s' := by rw [h0, h]
theorem cg_vcQ {all : Array Oper} {r : List Oper} {b b' : Bool} {s s' : Option St} (h0 : b = b') (h : s = s') : VcQ P E n0 rs R all r k b s = VcQ P E n0 rs R all r k b' s' := by rw [h0, h]
theorem cg_op {all : Array Oper} {o : Oper} {s s' : St} (h : s = s') : opStep P E all s o = opStep P E all s' o := by rw [h]
theorem cg_dpA {ops : Array Oper} {K : St → Prop} {o : Oper} {r : List Oper} {i i' : Nat} {s s' : St} {hs hs' : List Past} {ds ds' : List Did} {p p' n n' : Bool} {v v' : Option St}
    (h1 : i = i') (h2 : s = s') (h3 : hs = hs') (h4 : ds = ds') (h5 : p = p') (h6 : n = n') (h7 : v = v') : dpA P E ops K o r i s hs ds p n v = dpA P E ops K o r i' s' hs' ds' p' n' v' := by
  rw [h1, h2, h3, h4, h5, h6, h7]
theorem cg_runDP {ops : Array Oper} {K : St → Prop} {r r' : List Oper} {i i' : Nat} {s s' : St} {hs hs' : List Past} {ds ds' : List Did}
    (h0 : r = r') (h1 : i = i') (h2 : s = s') (h3 : hs = hs') (h4 : ds = ds') : runDP P E ops K r i s hs ds = runDP P E ops K r' i' s' hs' ds' := by
  rw [h0, h1, h2, h3, h4]
end

/-! ### Slots, many at once -/
section
variable {α : Type}
theorem st0 (a0 v : α) (l : List α) : (a0 :: l).set 0 v = v :: l := rfl
theorem gd0 (a0 v : α) (l : List α) : (a0 :: l).getD 0 v = a0 := rfl
theorem st1 (a0 a1 v : α) (l : List α) : (a0 :: a1 :: l).set 1 v = a0 :: v :: l := rfl
theorem gd1 (a0 a1 v : α) (l : List α) : (a0 :: a1 :: l).getD 1 v = a1 := rfl
theorem st2 (a0 a1 a2 v : α) (l : List α) : (a0 :: a1 :: a2 :: l).set 2 v = a0 :: a1 :: v :: l := rfl
theorem gd2 (a0 a1 a2 v : α) (l : List α) : (a0 :: a1 :: a2 :: l).getD 2 v = a2 := rfl
theorem st3 (a0 a1 a2 a3 v : α) (l : List α) : (a0 :: a1 :: a2 :: a3 :: l).set 3 v = a0 :: a1 :: a2 :: v :: l := rfl
theorem gd3 (a0 a1 a2 a3 v : α) (l : List α) : (a0 :: a1 :: a2 :: a3 :: l).getD 3 v = a3 := rfl
theorem st4 (a0 a1 a2 a3 a4 v : α) (l : List α) : (a0 :: a1 :: a2 :: a3 :: a4 :: l).set 4 v = a0 :: a1 :: a2 :: a3 :: v :: l := rfl
theorem gd4 (a0 a1 a2 a3 a4 v : α) (l : List α) : (a0 :: a1 :: a2 :: a3 :: a4 :: l).getD 4 v = a4 := rfl
theorem st5 (a0 a1 a2 a3 a4 a5 v : α) (l : List α) : (a0 :: a1 :: a2 :: a3 :: a4 :: a5 :: l).set 5 v = a0 :: a1 :: a2 :: a3 :: a4 :: v :: l := rfl
theorem gd5 (a0 a1 a2 a3 a4 a5 v : α) (l : List α) : (a0 :: a1 :: a2 :: a3 :: a4 :: a5 :: l).getD 5 v = a5 := rfl
theorem st6 (a0 a1 a2 a3 a4 a5 a6 v : α) (l : List α) : (a0 :: a1 :: a2 :: a3 :: a4 :: a5 :: a6 :: l).set 6 v = a0 :: a1 :: a2 :: a3 :: a4 :: a5 :: v :: l := rfl
theorem gd6 (a0 a1 a2 a3 a4 a5 a6 v : α) (l : List α) : (a0 :: a1 :: a2 :: a3 :: a4 :: a5 :: a6 :: l).getD 6 v = a6 := rfl
theorem st7 (a0 a1 a2 a3 a4 a5 a6 a7 v : α) (l : List α) : (a0 :: a1 :: a2 :: a3 :: a4 :: a5 :: a6 :: a7 :: l).set 7 v = a0 :: a1 :: a2 :: a3 :: a4 :: a5 :: a6 :: v :: l := rfl
theorem gd7 (a0 a1 a2 a3 a4 a5 a6 a7 v : α) (l : List α) : (a0 :: a1 :: a2 :: a3 :: a4 :: a5 :: a6 :: a7 :: l).getD 7 v = a7 := rfl
theorem st8 (a0 a1 a2 a3 a4 a5 a6 a7 a8 v : α) (l : List α) : (a0 :: a1 :: a2 :: a3 :: a4 :: a5 :: a6 :: a7 :: a8 :: l).set 8 v = a0 :: a1 :: a2 :: a3 :: a4 :: a5 :: a6 :: a7 :: v :: l := rfl
theorem gd8 (a0 a1 a2 a3 a4 a5 a6 a7 a8 v : α) (l : List α) : (a0 :: a1 :: a2 :: a3 :: a4 :: a5 :: a6 :: a7 :: a8 :: l).getD 8 v = a8 := rfl
theorem st9 (a0 a1 a2 a3 a4 a5 a6 a7 a8 a9 v : α) (l : List α) : (a0 :: a1 :: a2 :: a3 :: a4 :: a5 :: a6 :: a7 :: a8 :: a9 :: l).set 9 v = a0 :: a1 :: a2 :: a3 :: a4 :: a5 :: a6 :: a7 :: a8 :: v :: l := rfl
theorem gd9 (a0 a1 a2 a3 a4 a5 a6 a7 a8 a9 v : α) (l : List α) : (a0 :: a1 :: a2 :: a3 :: a4 :: a5 :: a6 :: a7 :: a8 :: a9 :: l).getD 9 v = a9 := rfl
theorem st10 (a0 a1 a2 a3 a4 a5 a6 a7 a8 a9 a10 v : α) (l : List α) : (a0 :: a1 :: a2 :: a3 :: a4 :: a5 :: a6 :: a7 :: a8 :: a9 :: a10 :: l).set 10 v = a0 :: a1 :: a2 :: a3 :: a4 :: a5 :: a6 :: a7 :: a8 :: a9 :: v :: l := rfl
theorem gd10 (a0 a1 a2 a3 a4 a5 a6 a7 a8 a9 a10 v : α) (l : List α) : (a0 :: a1 :: a2 :: a3 :: a4 :: a5 :: a6 :: a7 :: a8 :: a9 :: a10 :: l).getD 10 v = a10 := rfl
theorem st11 (a0 a1 a2 a3 a4 a5 a6 a7 a8 a9 a10 a11 v : α) (l : List α) : (a0 :: a1 :: a2 :: a3 :: a4 :: a5 :: a6 :: a7 :: a8 :: a9 :: a10 :: a11 :: l).set 11 v = a0 :: a1 :: a2 :: a3 :: a4 :: a5 :: a6 :: a7 :: a8 :: a9 :: a10 :: v :: l := rfl
theorem gd11 (a0 a1 a2 a3 a4 a5 a6 a7 a8 a9 a10 a11 v : α) (l : List α) : (a0 :: a1 :: a2 :: a3 :: a4 :: a5 :: a6 :: a7 :: a8 :: a9 :: a10 :: a11 :: l).getD 11 v = a11 := rfl
theorem st12 (a0 a1 a2 a3 a4 a5 a6 a7 a8 a9 a10 a11 a12 v : α) (l : List α) : (a0 :: a1 :: a2 :: a3 :: a4 :: a5 :: a6 :: a7 :: a8 :: a9 :: a10 :: a11 :: a12 :: l).set 12 v = a0 :: a1 :: a2 :: a3 :: a4 :: a5 :: a6 :: a7 :: a8 :: a9 :: a10 :: a11 :: v :: l := rfl
theorem gd12 (a0 a1 a2 a3 a4 a5 a6 a7 a8 a9 a10 a11 a12 v : α) (l : List α) : (a0 :: a1 :: a2 :: a3 :: a4 :: a5 :: a6 :: a7 :: a8 :: a9 :: a10 :: a11 :: a12 :: l).getD 12 v = a12 := rfl
theorem st13 (a0 a1 a2 a3 a4 a5 a6 a7 a8 a9 a10 a11 a12 a13 v : α) (l : List α) : (a0 :: a1 :: a2 :: a3 :: a4 :: a5 :: a6 :: a7 :: a8 :: a9 :: a10 :: a11 :: a12 :: a13 :: l).set 13 v = a0 :: a1 :: a2 :: a3 :: a4 :: a5 :: a6 :: a7 :: a8 :: a9 :: a10 :: a11 :: a12 :: v :: l := rfl
theorem gd13 (a0 a1 a2 a3 a4 a5 a6 a7 a8 a9 a10 a11 a12 a13 v : α) (l : List α) : (a0 :: a1 :: a2 :: a3 :: a4 :: a5 :: a6 :: a7 :: a8 :: a9 :: a10 :: a11 :: a12 :: a13 :: l).getD 13 v = a13 := rfl
theorem st14 (a0 a1 a2 a3 a4 a5 a6 a7 a8 a9 a10 a11 a12 a13 a14 v : α) (l : List α) : (a0 :: a1 :: a2 :: a3 :: a4 :: a5 :: a6 :: a7 :: a8 :: a9 :: a10 :: a11 :: a12 :: a13 :: a14 :: l).set 14 v = a0 :: a1 :: a2 :: a3 :: a4 :: a5 :: a6 :: a7 :: a8 :: a9 :: a10 :: a11 :: a12 :: a13 :: v :: l := rfl
theorem gd14 (a0 a1 a2 a3 a4 a5 a6 a7 a8 a9 a10 a11 a12 a13 a14 v : α) (l : List α) : (a0 :: a1 :: a2 :: a3 :: a4 :: a5 :: a6 :: a7 :: a8 :: a9 :: a10 :: a11 :: a12 :: a13 :: a14 :: l).getD 14 v = a14 := rfl
theorem st15 (a0 a1 a2 a3 a4 a5 a6 a7 a8 a9 a10 a11 a12 a13 a14 a15 v : α) (l : List α) : (a0 :: a1 :: a2 :: a3 :: a4 :: a5 :: a6 :: a7 :: a8 :: a9 :: a10 :: a11 :: a12 :: a13 :: a14 :: a15 :: l).set 15 v = a0 :: a1 :: a2 :: a3 :: a4 :: a5 :: a6 :: a7 :: a8 :: a9 :: a10 :: a11 :: a12 :: a13 :: a14 :: v :: l := rfl
theorem gd15 (a0 a1 a2 a3 a4 a5 a6 a7 a8 a9 a10 a11 a12 a13 a14 a15 v : α) (l : List α) : (a0 :: a1 :: a2 :: a3 :: a4 :: a5 :: a6 :: a7 :: a8 :: a9 :: a10 :: a11 :: a12 :: a13 :: a14 :: a15 :: l).getD 15 v = a15 := rfl
theorem st16 (a0 a1 a2 a3 a4 a5 a6 a7 a8 a9 a10 a11 a12 a13 a14 a15 v : α) (l : List α) (n : Nat) : (a0 :: a1 :: a2 :: a3 :: a4 :: a5 :: a6 :: a7 :: a8 :: a9 :: a10 :: a11 :: a12 :: a13 :: a14 :: a15 :: l).set (n + 16) v = a0 :: a1 :: a2 :: a3 :: a4 :: a5 :: a6 :: a7 :: a8 :: a9 :: a10 :: a11 :: a12 :: a13 :: a14 :: a15 :: l.set n v := rfl
theorem gd16 (a0 a1 a2 a3 a4 a5 a6 a7 a8 a9 a10 a11 a12 a13 a14 a15 v : α) (l : List α) (n : Nat) : (a0 :: a1 :: a2 :: a3 :: a4 :: a5 :: a6 :: a7 :: a8 :: a9 :: a10 :: a11 :: a12 :: a13 :: a14 :: a15 :: l).getD (n + 16) v = l.getD n v := rfl
end
end Go.SX
