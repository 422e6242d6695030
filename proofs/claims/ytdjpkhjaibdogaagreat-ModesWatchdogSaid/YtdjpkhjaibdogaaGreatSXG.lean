/-
  SX, part 16: an argument as an abstract value; what its type tells of it.
  Conditions: none (lemmas over any program and any world).
-/
import Derived.Test.YtdjpkhjaibdogaaGreatSXF
import Derived.OpenShut
import Derived.ShutString
namespace Go.SX
set_option linter.unusedSimpArgs false
set_option linter.unusedVariables false
open Go.RowKit (Below)
open Go.ChangeShapes Go.WideShapes Go.ChangeAt Go.RowKit
open Go.ChangeMaps (open_string shut_string)

section
variable {H : Type} {enc : TypeId × Value → H} {P : Program} {w : World} {base D : Nat} {t : TypeId} {v : Value} {d : DataW H} {p : List MemPlace}

theorem rel_one {c : List AV} (h : Rel w c [v]) (o : Option HC) : VR w noX o (c.headD .un) v := by
  obtain ⟨h1, h2⟩ := h
  match c, h1 with
  | [a], _ => exact (h2 0 a v rfl rfl).1 o
theorem rel_ag {c : List AV} {cs : Array Value} (h : Rel w c cs.toList) (o : Option HC) : VR w noX o (.ag c) (.agg cs) := by
  have := VR.ag (w := w) (X := noX) (o := o) (cs := c) (vs := cs.toList) h.1 (fun i a v ha hv => (h.2 i a v ha hv).1 o) (fun v hv => by
    obtain ⟨i, hi⟩ := List.mem_iff_getElem?.1 hv
    have hi' : i < c.length := by rw [h.1]; exact (List.getElem?_eq_some_iff.1 hi).1
    exact (h.2 i _ v (List.getElem?_eq_getElem hi') hi).2)
  simpa using this

theorem arg_ok (hk : okT P D t = true) (hok : Value.okWide P w .any base t v) (h : DataW.Trod enc P w 0 (fun _ => true) true t v d p) : ∃ a, HasV P t a ∧ ∀ o, VR w noX o a v := by
  have h0 := h
  obtain ⟨fuel, hf⟩ := h
  obtain ⟨c, h1, h2⟩ := trod_has fuel D t _ d p hk hf
  refine ⟨asV P t c, ⟨c, h1, rfl⟩, fun o => ?_⟩
  cases D with
  | zero => simp [okT] at hk
  | succ D =>
    unfold okT at hk
    split at hk
    · rename_i hu
      obtain ⟨a, rfl, rfl, rfl⟩ := open_bool hu hok h0
      simp only [asV, hu]
      exact rel_one h2 o
    · rename_i k hu
      obtain ⟨a, rfl, rfl, rfl, _⟩ := open_int hu hok h0
      simp only [asV, hu]
      exact rel_one h2 o
    · rename_i hu
      obtain ⟨a, rfl, rfl, rfl, _⟩ := open_string hu hok h0
      simp only [asV, hu]
      exact rel_one h2 o
    · rename_i e hu
      obtain ⟨a, len, cap, rfl⟩ := okWide_slice hu hok
      simp only [asV, hu]
      exact rel_one h2 o
    · rename_i fs hu
      unfold Value.okWide at hok
      rw [hu] at hok
      obtain ⟨cs, rfl, _⟩ := hok
      simp only [asV, hu]
      exact rel_ag h2 o
    · rename_i n e hu
      unfold Value.okWide at hok
      rw [hu] at hok
      obtain ⟨cs, rfl, _⟩ := hok
      simp only [asV, hu]
      exact rel_ag h2 o
    · cases hk
end

/-! ### What a type tells -/
section
variable {P : Program} {t : TypeId} {c : List AV}
theorem HasC.inv_bool (hu : P.underlying t = some .bool) (h : HasC P t c) : ∃ b, c = [.sc (.bool b)] := by
  cases h with
  | bool h => exact ⟨_, rfl⟩
  | int h hw => rw [hu] at h; cases h
  | str h hs => rw [hu] at h; cases h
  | slice h z ess hs => rw [hu] at h; cases h
  | struct h hf => rw [hu] at h; cases h
  | array h hf => rw [hu] at h; cases h
theorem HasC.inv_int {k : IntKind} (hu : P.underlying t = some (.int k)) (h : HasC P t c) : ∃ n, c = [.sc (.int k n)] ∧ (Lit.int k n).wf = true := by
  cases h with
  | int h hw => rw [hu] at h; cases h; exact ⟨_, rfl, hw⟩
  | bool h => rw [hu] at h; cases h
  | str h hs => rw [hu] at h; cases h
  | slice h z ess hs => rw [hu] at h; cases h
  | struct h hf => rw [hu] at h; cases h
  | array h hf => rw [hu] at h; cases h
theorem HasC.inv_str (hu : P.underlying t = some .string) (h : HasC P t c) : ∃ s : ByteArray, c = [.sc (.string s)] ∧ s.size ≤ maxLen := by
  cases h with
  | str h hs => exact ⟨_, rfl, hs⟩
  | bool h => rw [hu] at h; cases h
  | int h hw => rw [hu] at h; cases h
  | slice h z ess hs => rw [hu] at h; cases h
  | struct h hf => rw [hu] at h; cases h
  | array h hf => rw [hu] at h; cases h
theorem HasC.inv_slice {e : TypeId} (hu : P.underlying t = some (.slice e)) (h : HasC P t c) : ∃ z es, c = [.vw z es] ∧ ∀ a ∈ es, HasV P e a := by
  cases h with
  | slice h z ess hs =>
    rw [hu] at h; cases h
    refine ⟨z, _, rfl, fun a ha => ?_⟩
    obtain ⟨c, hc, rfl⟩ := List.mem_map.1 ha
    exact ⟨c, hs c hc, rfl⟩
  | bool h => rw [hu] at h; cases h
  | int h hw => rw [hu] at h; cases h
  | str h hs => rw [hu] at h; cases h
  | struct h hf => rw [hu] at h; cases h
  | array h hf => rw [hu] at h; cases h
theorem HasC.inv_struct {fs : Array Field} (hu : P.underlying t = some (.struct fs)) (h : HasC P t c) : HasFs P (fs.toList.map (·.type)) c := by
  cases h with
  | struct h hf => rw [hu] at h; cases h; exact hf
  | bool h => rw [hu] at h; cases h
  | int h hw => rw [hu] at h; cases h
  | str h hs => rw [hu] at h; cases h
  | slice h z ess hs => rw [hu] at h; cases h
  | array h hf => rw [hu] at h; cases h
theorem HasC.inv_array {n : Nat} {e : TypeId} (hu : P.underlying t = some (.array n e)) (h : HasC P t c) : HasFs P (List.replicate n e) c := by
  cases h with
  | array h hf => rw [hu] at h; cases h; exact hf
  | bool h => rw [hu] at h; cases h
  | int h hw => rw [hu] at h; cases h
  | str h hs => rw [hu] at h; cases h
  | slice h z ess hs => rw [hu] at h; cases h
  | struct h hf => rw [hu] at h; cases h
theorem HasFs.inv_cons {ts : List TypeId} {cs : List AV} (h : HasFs P (t :: ts) cs) : ∃ c r, cs = c ++ r ∧ HasC P t c ∧ HasFs P ts r := by
  cases h with
  | cons h hs => exact ⟨_, _, rfl, h, hs⟩
theorem HasFs.inv_nil {cs : List AV} (h : HasFs P [] cs) : cs = [] := by
  cases h; rfl
/-- A list of values, each of which has a form. -/
theorem HasV.list {α : Type} {f : α → AV} {e : TypeId} (hf : ∀ a, HasV P e a → ∃ x, a = f x) : ∀ {es : List AV}, (∀ a ∈ es, HasV P e a) → ∃ l : List α, es = l.map f
  | [], _ => ⟨[], rfl⟩
  | a :: es, h => by
    obtain ⟨x, rfl⟩ := hf a (h a List.mem_cons_self)
    obtain ⟨l, rfl⟩ := HasV.list hf (es := es) (fun b hb => h b (List.mem_cons_of_mem _ hb))
    exact ⟨x :: l, rfl⟩
theorem HasV.listW {α : Type} {f : α → AV} {q : α → Prop} {e : TypeId} (hf : ∀ a, HasV P e a → ∃ x, a = f x ∧ q x) : ∀ {es : List AV}, (∀ a ∈ es, HasV P e a) → ∃ l : List α, es = l.map f ∧ ∀ x ∈ l, q x
  | [], _ => ⟨[], rfl, by simp⟩
  | a :: es, h => by
    obtain ⟨x, rfl, hx⟩ := hf a (h a List.mem_cons_self)
    obtain ⟨l, rfl, hl⟩ := HasV.listW hf (es := es) (fun b hb => h b (List.mem_cons_of_mem _ hb))
    exact ⟨x :: l, rfl, by simpa using ⟨hx, hl⟩⟩
end

/-- A pure function that returns true, called. -/
theorem calls_true {P : Program} {g : Nat} {F : List AV → Option AV} (hg : POk P g F) {args : List AV} (hF : F args = some (.sc (.bool true))) {w : World} {cargs : Array Value} (hv : VL w noX (some hc0) args cargs.toList) :
    Calls P g cargs w fun e w' => e = .returned (.bool true) ∧ Below w.heap.size w w' := by
  obtain ⟨_, c, h1, h2⟩ := hg args _ hF
  have := h1 w noX none
  cases this
  exact h2 w cargs hv
end Go.SX
