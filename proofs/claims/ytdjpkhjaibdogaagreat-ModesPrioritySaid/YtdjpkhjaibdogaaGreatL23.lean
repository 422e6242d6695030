/-
  Lemmas towards ModesPriority (joined texts: SXG).
  Conditions: none.
-/
import Derived.Test.YtdjpkhjaibdogaaGreatL01
import Derived.Test.YtdjpkhjaibdogaaGreatL22
import Derived.OpenShut
import Derived.ShutString
set_option linter.unusedSimpArgs false
set_option linter.unusedVariables false
set_option maxRecDepth 100000
namespace Go.SX
open Go.RowKit (Below)
open Go.ChangeShapes Go.WideShapes Go.ChangeAt Go.RowKit
open Go.ChangeMaps (open_string shut_string)
section
variable {H:Type} {enc:TypeId × Value→H} {P:Program} {w:World} {base D:Nat} {t:TypeId} {v:Value} {d:DataW H} {p:List MemPlace}
theorem Qi {c:List AV} (h:Rel w c [v]) (o:Option HC):VR w QQ o (c.headD .un) v:=by
 obtain ⟨h1,h2⟩:=h
 match c,h1 with
 | [a],_=>exact (h2 0 a v rfl rfl).1 o
theorem Ba5 {c:List AV} {cs:Array Value} (h:Rel w c cs.toList) (o:Option HC):VR w QQ o (.ag c) (.agg cs):=by
 have:=VR.ag (w:=w) (X:=QQ) (o:=o) (cs:=c) (vs:=cs.toList) h.1 (fun i a v ha hv=>(h.2 i a v ha hv).1 o) (fun v hv=>by
  obtain ⟨i,hi⟩:=lx44.1 hv
  have hi':i < c.length:=by rw [h.1]; exact (lx22.1 hi).1
  exact (h.2 i _ v (lx50 hi') hi).2)
 simpa using this
theorem Abm (hk:okT P D t=true) (hok:Value.okWide P w .any base t v) (h:DataW.Trod enc P w 0 (fun _=>true) true t v d p):∃ a,HasV P t a∧∀ o,VR w QQ o a v:=by
 have h0:=h
 obtain ⟨fuel,hf⟩:=h
 obtain ⟨c,h1,h2⟩:=Zy fuel D t _ d p hk hf
 refine ⟨WI P t c,⟨c,h1,rfl⟩,fun o=>?_⟩
 cases D with
 | zero=>simp [okT] at hk
 | succ D=>
  unfold okT at hk
  split at hk
  ·rename_i hu
   obtain ⟨a,rfl,rfl,rfl⟩:=open_bool hu hok h0
   simp only [WI,hu]
   exact Qi h2 o
  ·rename_i k hu
   obtain ⟨a,rfl,rfl,rfl,_⟩:=open_int hu hok h0
   simp only [WI,hu]
   exact Qi h2 o
  ·rename_i hu
   obtain ⟨a,rfl,rfl,rfl,_⟩:=open_string hu hok h0
   simp only [WI,hu]
   exact Qi h2 o
  ·rename_i e hu
   obtain ⟨a,len,cap,rfl⟩:=okWide_slice hu hok
   simp only [WI,hu]
   exact Qi h2 o
  ·rename_i fs hu
   exact Aut
  ·rename_i n e hu
   exact Aut
  ·cases hk
end
section
variable {P:Program} {t:TypeId} {c:List AV}
theorem HasC.inv_int {k:IntKind} (hu:P.underlying t=some (.int k)) (h:HasC P t c):∃ n,c=[.sc (.int k n)]∧(Lit.int k n).wf=true:=by
 cases h with
 | int h hw=>rw [hu] at h; cases h; exact ⟨_,rfl,hw⟩
 | bool h=>rw [hu] at h; cases h
 | str h hs=>rw [hu] at h; cases h
 | slice h z ess hs=>rw [hu] at h; cases h
 | struct h hf=>rw [hu] at h; cases h
 | array h hf=>rw [hu] at h; cases h
theorem HasC.inv_slice {e:TypeId} (hu:P.underlying t=some (.slice e)) (h:HasC P t c):∃ z es,c=[.vw z es]∧∀ a ∈ es,HasV P e a:=by
 cases h with
 | slice h z ess hs=>
  rw [hu] at h; cases h
  refine ⟨z,_,rfl,fun a ha=>?_⟩
  obtain ⟨c,hc,rfl⟩:=lx35.1 ha
  exact ⟨c,hs c hc,rfl⟩
 | bool h=>rw [hu] at h; cases h
 | int h hw=>rw [hu] at h; cases h
 | str h hs=>rw [hu] at h; cases h
 | struct h hf=>rw [hu] at h; cases h
 | array h hf=>rw [hu] at h; cases h
theorem HasV.list {α:Type} {f:α→AV} {e:TypeId} (hf:∀ a,HasV P e a→∃ x,a=f x):∀ {es:List AV},(∀ a ∈ es,HasV P e a)→∃ l:List α,es=l.map f
 | [],_=>⟨[],rfl⟩
 | a::es,h=>by
  obtain ⟨x,rfl⟩:=hf a (h a lx47)
  obtain ⟨l,rfl⟩:=HasV.list hf (es:=es) (fun b hb=>h b (lx48 _ hb))
  exact ⟨x::l,rfl⟩
end
theorem Abn {P:Program} {g:Nat} {F:List AV→Option AV} (hg:DC P g F) {args:List AV} (hF:F args=some (.sc (.bool true))) {w:World} {cargs:Array Value} (hv:VL w QQ (some Cc) args cargs.toList):
  Calls P g cargs w fun e w'=>e=.returned (.bool true)∧Below w.heap.size w w':=by
 obtain ⟨_,c,h1,h2⟩:=hg args _ hF
 have:=h1 w QQ none
 cases this
 exact h2 w cargs hv
end Go.SX
