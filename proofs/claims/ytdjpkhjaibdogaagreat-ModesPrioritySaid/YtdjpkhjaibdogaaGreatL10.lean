/-
  Lemmas towards ModesPriority (joined texts: SXA).
  Conditions: none.
-/
import Derived.Test.YtdjpkhjaibdogaaGreatL01
import Derived.Test.YtdjpkhjaibdogaaGreatL09
set_option linter.unusedSimpArgs false
set_option linter.unusedVariables false
set_option maxRecDepth 100000
namespace Go.SX
open Go.RowKit (Below)
def CM (P:Program) (s:St):List ResultVar→Option (List AV)
 | []=>some []
 | .tmp t::r=>(CM P s r).map (s.T.getD t .un::·)
 | .cell t ty::r=>match Ay P s (.load ty (.tmp t)) with
  | some v=>(CM P s r).map (v::·)
  | none=>none
def Gp:List AV→AV
 | [v]=>v
 | vs=>.tu vs
inductive Go (P:Program) (E:Env) (n0:Nat) (rs:List ResultVar) (R:AV→St→Prop):List Item→St→Prop
 | ret {k s vs} (h:CM P s rs=some vs) (hR:R (Gp vs) s):Go P E n0 rs R (.code .ret::k) s
 | fin {s vs} (h:CM P s rs=some vs) (hR:R (Gp vs) s):Go P E n0 rs R [] s
 | skip {k s} (h:Go P E n0 rs R k s):Go P E n0 rs R (.code .skip::k) s
 | seq {k s x y} (h:Go P E n0 rs R (.code x::.code y::k) s):Go P E n0 rs R (.code (.seq x y)::k) s
 | cond {k s c x y} (t:Bool) (hc:ev s.T c=.sc (.bool t)) (h:Go P E n0 rs R (.code (if t=true then x else y)::k) s):Go P E n0 rs R (.code (.cond c x y)::k) s
 | block {k s id c} (h:Go P E n0 rs R (.code c::.inBlock id::k) s):Go P E n0 rs R (.code (.block id c)::k) s
 | inBlock {k s id} (h:Go P E n0 rs R k s):Go P E n0 rs R (.inBlock id::k) s
 | loop {k s c} (h:Go P E n0 rs R (.code c::.inLoop c::k) s):Go P E n0 rs R (.code (.loop c)::k) s
 | inLoop {k s c} (h:Go P E n0 rs R (.code c::.inLoop c::k) s):Go P E n0 rs R (.inLoop c::k) s
 | exit {k k' s id} (he:exitTo id k=some k') (h:Go P E n0 rs R k' s):Go P E n0 rs R (.code (.exit id)::k) s
 | region {k s s' id ops} (hr:Ff P E ops ops.toList s=some s') (h:Go P E n0 rs R k s'):Go P E n0 rs R (.code (.region id ops false)::k) s
 | draw {k s s' id ops} (hpm:E.perm id=none) (hr:Dm P E ops ops.toList s=some s') (h:Go P E n0 rs R k s'):Go P E n0 rs R (.code (.region id ops true)::k) s
 | drawH {k s s' id ops} (hpm:E.perm id=none) (hp:ops.toList.any EP=true) (hr:Dj P E ops (·=s') ops.toList 0 s [] []) (h:Go P E n0 rs R k s'):Go P E n0 rs R (.code (.region id ops true)::k) s
 | drawP {k s s' id ops i π} (hpm:E.perm id=some (i::π)) (hr:Dj P E (BW ops (i::π)) (·=s') (BW ops (i::π)).toList 0 s [] []) (h:Go P E n0 rs R k s'):Go P E n0 rs R (.code (.region id ops true)::k) s
 | sem {k s id ops dr} {Q:St→Prop} (hg:EnvOk P E→P.follows .mixedOrders=true→∀ w X loc a,SR w X loc s a→(Code.region id ops dr).wp P (fun e a' w'=>e=.normal∧∃ s' X' loc',Q s'∧SR w' X' loc' s' a'∧Evo w X (s.hc loc) w' X' (s'.hc loc')) a w)
   (h:∀ s',Q s'→Go P E n0 rs R k s'):Go P E n0 rs R (.code (.region id ops dr)::k) s
 | ghost {k s s'} (hg:∀ w X loc a,SR w X loc s a→∃ X' loc',SR w X' loc' s' a∧∀ w0 X0 Cc,Cc.H.length=n0→Evo w0 X0 Cc w X (s.hc loc)→Evo w0 X0 Cc w X' (s'.hc loc'))
   (h:Go P E n0 rs R k s'):Go P E n0 rs R k s
 | alt {k s} {Q:St→Prop} (hg:∀ w X loc a,SR w X loc s a→∃ s',Q s'∧SR w X loc s' a∧s'.H=s.H∧s'.cnt=s.cnt) (h:∀ s',Q s'→Go P E n0 rs R k s'):Go P E n0 rs R k s
 | know {k s} {p:Prop} (hp:∀ w X loc a,SR w X loc s a→p) (h:p→Go P E n0 rs R k s):Go P E n0 rs R k s
def Ar2 (hc:Nat→Bool) (ops:Array Oper):Option (List Nat)→Bool
 | none=>Fc hc ops || (Region.lexB .any ops && !ops.toList.any EP)
 | some []=>true
 | some (i::π)=>Gn (i::π) ops.size && Fc hc (BW ops (i::π))
def C2 (hc:Nat→Bool) (pm:Nat→Option (List Nat)):Code→Bool
 | .region id ops true=>Ar2 hc ops (pm id)
 | .seq x y=>C2 hc pm x && C2 hc pm y
 | .cond _ x y=>C2 hc pm x && C2 hc pm y
 | .block _ c | .loop c=>C2 hc pm c
 | _=>true
def HD (hc:Nat→Bool) (pm:Nat→Option (List Nat)):Item→Bool
 | .code c | .inLoop c=>C2 hc pm c
 | _=>true
theorem Q5 {hc:Nat→Bool} {pm:Nat→Option (List Nat)} {id:Nat}:∀ {k k':List Item},exitTo id k=some k'→(∀ x ∈ k,HD hc pm x=true)→∀ x ∈ k',HD hc pm x=true
 | [],k',h,_=>by simp [exitTo] at h
 | x::k,k',h,hk=>by
  have ih:=Q5 (hc:=hc) (pm:=pm) (id:=id) (k:=k) (k':=k')
  cases x with
  | inBlock i=>
   simp only [exitTo] at h
   split at h
   ·cases h; exact fun y hy=>hk y (lx48 _ hy)
   ·exact ih h (fun y hy=>hk y (lx48 _ hy))
  | _=>simp only [exitTo] at h; exact ih h (fun y hy=>hk y (lx48 _ hy))
theorem Lq {P:Program} {w:World} {X loc} {s:St} {a:Act} (hs:SR w X loc s a):∀ {rs:List ResultVar} {vs:List AV},CM P s rs=some vs→
  ∃ cs:List Value,rd P (rs.mapM fun (r:ResultVar)=>match r with
   | .tmp t=>(pure (a.tmps.getD t undef):Sem Value)
   | .cell b t=>do loadVar t (←asAddr (a.tmps.getD b undef))) w=some cs∧VL w X (some (s.hc loc)) vs cs
 | [],vs,h=>by
  simp only [CM,lx16] at h
  subst h
  exact ⟨[],by simp [Al],.nil⟩
 | .tmp t::r,vs,h=>by
  simp only [CM,lx24] at h
  obtain ⟨vs',h1,rfl⟩:=h
  obtain ⟨cs,g1,g2⟩:=Lq hs h1
  refine ⟨a.tmps.getD t undef::cs,?_,.cons (BV hs.tm (.tmp t)) g2⟩
  simp only [List.mapM_cons,Ah,Al,lx17,g1]
 | .cell b t::r,vs,h=>by
  simp only [CM] at h
  split at h
  ·rename_i v hv
   simp only [lx24] at h
   obtain ⟨vs',h1,rfl⟩:=h
   obtain ⟨cs,g1,g2⟩:=Lq hs h1
   obtain ⟨c,k1,k2⟩:=Ad2 (o:=⟨none,.load t (.tmp b),0,"",#[],none⟩) rfl hs hv
   have k3:rd P (do loadVar t (←asAddr (a.tmps.getD b undef))) w=some c:=by
    unfold execOp at k1
    simp only [Instr.loadAt,Act.eval,Ah] at k1
    generalize a.tmps.getD b undef=q at *
    cases q with
    | pointer p=>
     cases p with
     | none=>simp [Instr.sureAddr,WR] at k1
     | some ad=>
      simp only [Instr.sureAddr,Al,lx17] at k1
      simp only [Ah,asAddr,Al,lx17]
      cases hq:rd P (loadVar t ad) w with
      | none=>rw [hq] at k1; simp at k1
      | some c'=>rw [hq] at k1; simp only [lx17,lx16,Next.value.injEq] at k1; rw [k1]
    | _=>simp [Instr.sureAddr,WR] at k1
   refine ⟨c::cs,?_,.cons k2 g2⟩
   simp only [List.mapM_cons,Ah,lx17,g1,Al] at k3 ⊢
   rw [k3]
   rfl
  ·cases h
theorem OL {P:Program} {w:World} {X loc} {s:St} {a:Act} (hs:SR w X loc s a) {fn:Func} {vs:List AV} (h:CM P s fn.results.toList=some vs):
  ∃ c,(results fn a.tmps).run P w=.ok c w∧VR w X (some (s.hc loc)) (Gp vs) c:=by
 obtain ⟨cs,g1,g2⟩:=Lq hs h
 have hm:rd P (fn.results.mapM fun (r:ResultVar)=>match r with
   | .tmp t=>(pure (a.tmps.getD t undef):Sem Value)
   | .cell b t=>do loadVar t (←asAddr (a.tmps.getD b undef))) w=some cs.toArray:=by
  rw [Array.mapM_eq_mapM_toList,EL,g1]; rfl
 refine ⟨if h:cs.toArray.size=1 then cs.toArray[0] else .tuple cs.toArray,?_,?_⟩
 ·apply EK
  unfold results
  rw [Ah]
  exact (congrArg (fun q:Option (Array Value)=>q.bind fun a=>rd P (pure (if h:a.size=1 then a[0] else .tuple a):Sem Value) w) hm)
 ·cases vs with
  | nil=>
   have:=g2.unnil
   subst this
   simp only [Gp]
   exact .tu rfl (fun i a v h=>by simp at h)
  | cons v r=>
   cases r with
   | nil=>
    obtain ⟨c,cs',rfl,k1,k2⟩:=g2.uncons
    have:=k2.unnil
    subst this
    simpa [Gp] using k1
   | cons v2 r=>
    have hl:=g2.1
    simp only [lx52] at hl
    have hne:¬ cs.toArray.size=1:=F6
    rw [dif_neg hne]
    exact .tu g2.1 g2.2
theorem Ga {P:Program} {c:Code} {a:Act} {w:World} {Q:Act→World→Prop} (h:c.wp P (fun e a' w'=>e=.normal∧Q a' w') a w) (b:Frame) (k:List Item) (cs:List Frame):
  ∃ a' w',Q a' w'∧Steps P (lone (b.at a (.code c::k)) cs w) (lone (b.at a' k) cs w'):=by
 obtain ⟨e,a',w',⟨rfl,hq⟩,harr⟩:=h b k cs
 exact ⟨a',w',hq,harr⟩
theorem Akl {P:Program} {E:Env} (hE:EnvOk P E) (hm:P.follows .mixedOrders=true) {n0:Nat} {fn:Func} {R:AV→St→Prop} {k:List Item} {s:St}
  (h:Go P E n0 fn.results.toList R k s):(∀ x ∈ k,HD E.hb E.perm x=true)→∀ (b:Frame) (cs:List Frame) (a:Act) (w:World) (X:Nat→Prop) (loc:Nat→Option (Nat × Nat)),
  b.kind=.normal→P.funcs[b.fn]?=some fn→SR w X loc s a→∀ w0 X0 Cc,Cc.H.length=n0→Evo w0 X0 Cc w X (s.hc loc)→
  ∃ w' fr s' X' loc' r c,Steps P (lone (b.at a k) cs w) (lone fr cs w')∧fr.fn=b.fn∧fr.leaving P w' (.returned c)∧R r s'∧HR w' X' (s'.hc loc')∧VR w' X' (some (s'.hc loc')) r c∧Evo w0 X0 Cc w' X' (s'.hc loc'):=by
 induction h with
 | @ret k s vs h hR=>
  intro hlex b cs a w X loc hb hf hs w0 X0 Cc hn hev
  obtain ⟨c,g1,g2⟩:=OL hs h
  exact ⟨w,_,s,X,loc,_,c,.one step_ret,rfl,⟨rfl,hs.df,hb,fn,hf,g1⟩,hR,hs.hr,g2,hev⟩
 | @fin s vs h hR=>
  intro hlex b cs a w X loc hb hf hs w0 X0 Cc hn hev
  obtain ⟨c,g1,g2⟩:=OL hs h
  exact ⟨w,_,s,X,loc,_,c,.one step_end,rfl,⟨rfl,hs.df,hb,fn,hf,g1⟩,hR,hs.hr,g2,hev⟩
 | skip h ih=>
  intro hlex b cs a w X loc hb hf hs w0 X0 Cc hn hev
  obtain ⟨w',fr,s',X',loc',r,c,g1,g2⟩:=ih (fun x hx=>hlex x (lx48 _ hx)) b cs a w X loc hb hf hs w0 X0 Cc hn hev
  exact ⟨w',fr,s',X',loc',r,c,.head step_skip g1,g2⟩
 | @seq k s x y h ih=>
  intro hlex b cs a w X loc hb hf hs w0 X0 Cc hn hev
  have h0:=hlex _ lx47
  simp only [HD,C2,AH] at h0
  obtain ⟨w',fr,s',X',loc',r,c,g1,g2⟩:=ih (fun z hz=>by
   rcases lx59.1 hz with rfl | hz
   ·exact h0.1
   ·rcases lx59.1 hz with rfl | hz
    ·exact h0.2
    ·exact hlex z (lx48 _ hz)) b cs a w X loc hb hf hs w0 X0 Cc hn hev
  exact ⟨w',fr,s',X',loc',r,c,.head step_seq g1,g2⟩
 | @cond k s c x y t hc h ih=>
  intro hlex b cs a w X loc hb hf hs w0 X0 Cc hn hev
  have h0:=hlex _ lx47
  simp only [HD,C2,AH] at h0
  have hev':=BV hs.tm c
  rw [hc] at hev'
  generalize hq:a.eval c=q at hev'
  cases hev'
  obtain ⟨w',fr,s',X',loc',r,c,g1,g2⟩:=ih (fun z hz=>by
   rcases lx59.1 hz with rfl | hz
   ·cases t
    ·exact h0.2
    ·exact h0.1
   ·exact hlex z (lx48 _ hz)) b cs a w X loc hb hf hs w0 X0 Cc hn hev
  exact ⟨w',fr,s',X',loc',r,c,.head (step_cond hq) g1,g2⟩
 | @block k s id c h ih=>
  intro hlex b cs a w X loc hb hf hs w0 X0 Cc hn hev
  have h0:=hlex _ lx47
  obtain ⟨w',fr,s',X',loc',r,c,g1,g2⟩:=ih (fun z hz=>by
   rcases lx59.1 hz with rfl | hz
   ·exact h0
   ·rcases lx59.1 hz with rfl | hz
    ·rfl
    ·exact hlex z (lx48 _ hz)) b cs a w X loc hb hf hs w0 X0 Cc hn hev
  exact ⟨w',fr,s',X',loc',r,c,.head step_block g1,g2⟩
 | @inBlock k s id h ih=>
  intro hlex b cs a w X loc hb hf hs w0 X0 Cc hn hev
  obtain ⟨w',fr,s',X',loc',r,c,g1,g2⟩:=ih (fun x hx=>hlex x (lx48 _ hx)) b cs a w X loc hb hf hs w0 X0 Cc hn hev
  exact ⟨w',fr,s',X',loc',r,c,.head step_inBlock g1,g2⟩
 | @loop k s c h ih=>
  intro hlex b cs a w X loc hb hf hs w0 X0 Cc hn hev
  have h0:=hlex _ lx47
  obtain ⟨w',fr,s',X',loc',r,c,g1,g2⟩:=ih (fun z hz=>by
   rcases lx59.1 hz with rfl | hz
   ·exact h0
   ·rcases lx59.1 hz with rfl | hz
    ·exact h0
    ·exact hlex z (lx48 _ hz)) b cs a w X loc hb hf hs w0 X0 Cc hn hev
  exact ⟨w',fr,s',X',loc',r,c,.head step_loop g1,g2⟩
 | @inLoop k s c h ih=>
  intro hlex b cs a w X loc hb hf hs w0 X0 Cc hn hev
  have h0:=hlex _ lx47
  obtain ⟨w',fr,s',X',loc',r,c,g1,g2⟩:=ih (fun z hz=>by
   rcases lx59.1 hz with rfl | hz
   ·exact h0
   ·rcases lx59.1 hz with rfl | hz
    ·exact h0
    ·exact hlex z (lx48 _ hz)) b cs a w X loc hb hf hs w0 X0 Cc hn hev
  exact ⟨w',fr,s',X',loc',r,c,.head step_inLoop g1,g2⟩
 | @exit k k' s id he h ih=>
  intro hlex b cs a w X loc hb hf hs w0 X0 Cc hn hev
  obtain ⟨w',fr,s',X',loc',r,c,g1,g2⟩:=ih (Q5 he (fun x hx=>hlex x (lx48 _ hx))) b cs a w X loc hb hf hs w0 X0 Cc hn hev
  exact ⟨w',fr,s',X',loc',r,c,.head (step_exit he) g1,g2⟩
 | @region k s s1 id ops hr h ih=>
  intro hlex b cs a w X loc hb hf hs w0 X0 Cc hn hev
  obtain ⟨a1,w1,⟨X1,loc1,q1,q2⟩,q3⟩:=Ga (Q:=fun a' w'=>∃ X' loc',SR w' X' loc' s1 a'∧Evo w X (s.hc loc) w' X' (s1.hc loc'))
   (Ahg hE (id:=id) hr hs (fun a' w' X' loc' k1 k2=>⟨rfl,X',loc',k1,k2⟩)) b k cs
  exact Ay7
 | @draw k s s1 id ops hpm hr h ih=>
  intro hlex b cs a w X loc hb hf hs w0 X0 Cc hn hev
  have h0:(Fc E.hb ops || (Region.lexB .any ops && !ops.toList.any EP))=true:=by
   have:=hlex _ lx47
   simp only [HD,C2,hpm,Ar2] at this
   exact this
  cases hD:Fc E.hb ops with
  | true=>
   obtain ⟨tr,t1,t2,t3⟩:=IJ (HP (P:=P) (E:=E) (ops:=ops) ops.toList 0 s [] hr)
   exact Auz
  | false=>
  rw [hD,Qx,AH] at h0
  obtain ⟨a1,w1,⟨q1,q2⟩,q3⟩:=Ga (Q:=fun a' w'=>SR w' X loc s1 a'∧Below w.heap.size w w')
   (QT hE hm (id:=id) h0.1 hr hs (fun a' w' k1 k2=>⟨rfl,k1,k2⟩)) b k cs
  have hpure:∀ (l:List Oper) (s s1:St),Dm P E ops l s=some s1→s1.H=s.H∧s1.cnt=s.cnt:=by
   intro l
   induction l with
   | nil=>intro s s1 h; simp only [Dm,lx16] at h; subst h; exact ⟨rfl,rfl⟩
   | cons o l ihl=>
    intro s s1 h
    simp only [Dm] at h
    split at h
    ·rename_i hp
     split at h
     ·rename_i s2 h2
      obtain ⟨e1,e2⟩:=ihl s2 s1 h
      have:s2.H=s.H∧s2.cnt=s.cnt:=by
       unfold Ag at h2
       split at h2
       ·simp only [hp,lx8,lx24] at h2
        obtain ⟨v,_,rfl⟩:=h2
        exact Ah4
       ·split at h2
        ·simp only [hp,lx8,lx24] at h2
         obtain ⟨v,_,rfl⟩:=h2
         exact Ah4
        ·cases h2
         exact Ah4
        ·cases h2
      exact ⟨e1.trans this.1,e2.trans this.2⟩
     ·cases h
    ·cases h
  obtain ⟨p1,p2⟩:=hpure _ _ _ hr
  have hhc:s1.hc loc=s.hc loc:=by unfold St.hc; rw [p1,p2]
  obtain ⟨w',fr,s',X',loc',r,c,g1,g2⟩:=ih (fun x hx=>hlex x (lx48 _ hx)) b cs a1 w1 X loc hb hf q1 w0 X0 Cc hn (by rw [hhc]; exact hev.trans (DL q2 X _))
  exact ⟨w',fr,s',X',loc',r,c,q3.trans g1,g2⟩
 | @drawH k s s1 id ops hpm hp hr h ih=>
  intro hlex b cs a w X loc hb hf hs w0 X0 Cc hn hev
  have h0:(Fc E.hb ops || (Region.lexB .any ops && !ops.toList.any EP))=true:=by
   have:=hlex _ lx47
   simp only [HD,C2,hpm,Ar2] at this
   exact this
  rw [hp] at h0
  have hD:Fc E.hb ops=true:=by simpa using h0
  obtain ⟨tr,t1,t2,t3⟩:=IJ hr
  exact Auz
 | @know k s p hp h ih=>
  intro hlex b cs a w X loc hb hf hs w0 X0 Cc hn hev
  exact ih (hp w X loc a hs) hlex b cs a w X loc hb hf hs w0 X0 Cc hn hev
 | @sem k s id ops dr Q hg h ih=>
  intro hlex b cs a w X loc hb hf hs w0 X0 Cc hn hev
  obtain ⟨a1,w1,⟨s1,X1,loc1,q0,q1,q2⟩,q3⟩:=Ga (Q:=fun a' w'=>∃ s' X' loc',Q s'∧SR w' X' loc' s' a'∧Evo w X (s.hc loc) w' X' (s'.hc loc')) (hg hE hm w X loc a hs) b k cs
  obtain ⟨w',fr,s',X',loc',r,c,g1,g2⟩:=ih s1 q0 (fun x hx=>hlex x (lx48 _ hx)) b cs a1 w1 X1 loc1 hb hf q1 w0 X0 Cc hn (hev.trans q2)
  exact ⟨w',fr,s',X',loc',r,c,q3.trans g1,g2⟩
 | @drawP k s s1 id ops i π hpm hr h ih=>
  intro hlex b cs a w X loc hb hf hs w0 X0 Cc hn hev
  have h0:Gn (i::π) ops.size=true∧Fc E.hb (BW ops (i::π))=true:=by
   have:=hlex _ lx47
   simp only [HD,C2,hpm,Ar2,AH] at this
   exact this
  obtain ⟨tr,t1,t2,t3⟩:=IJ hr
  subst t2
  obtain ⟨a1,w1,⟨X1,loc1,q1,q2⟩,q3⟩:=Ga (Q:=fun a' w'=>∃ X' loc',SR w' X' loc' s1 a'∧Evo w X ((tr 0).hc loc) w' X' (s1.hc loc'))
   (Pk hE hm (id:=id) h0.1 h0.2 t1 hs (fun a' w' X' loc' k1 k2=>⟨rfl,X',loc',by rw [←t3]; exact k1,by rw [←t3]; exact k2⟩)) b k cs
  exact Ay7
 | @alt k s Q hg h ih=>
  intro hlex b cs a w X loc hb hf hs w0 X0 Cc hn hev
  obtain ⟨s1,q0,q1,q2,q3⟩:=hg w X loc a hs
  have hhc:s1.hc loc=s.hc loc:=by unfold St.hc; rw [q2,q3]
  exact ih s1 q0 hlex b cs a w X loc hb hf q1 w0 X0 Cc hn (by rw [hhc]; exact hev)
 | @ghost k s s1 hg h ih=>
  intro hlex b cs a w X loc hb hf hs w0 X0 Cc hn hev
  obtain ⟨X1,loc1,q1,q2⟩:=hg w X loc a hs
  exact ih hlex b cs a w X1 loc1 hb hf q1 w0 X0 Cc hn (q2 w0 X0 Cc hn hev)
def Ae (fn:Func) (args:List AV) (H:List Blk) (cnt:Nat):St:=⟨args++List.replicate (fn.ntmps - args.length) .un,H,cnt⟩
theorem DG {P:Program} {E:Env} (hE:EnvOk P E) (hm:P.follows .mixedOrders=true) {f:FuncId} {fn:Func} {c:Code} {args:List AV} {H:List Blk} {cnt:Nat} {R:AV→St→Prop}
  (hf:P.funcs[f]?=some fn) (hb:fn.body=some c) (hlex:C2 E.hb E.perm c=true) (h:Go P E H.length fn.results.toList R [.code c] (Ae fn args H cnt))
  (w:World) (X:Nat→Prop) (loc:Nat→Option (Nat × Nat)) (cargs:Array Value) (hr:HR w X ⟨loc,H,cnt⟩) (hv:VL w X (some ⟨loc,H,cnt⟩) args cargs.toList):
  Calls P f cargs w fun e w'=>∃ r s' X' loc' c,e=.returned c∧R r s'∧HR w' X' (s'.hc loc')∧VR w' X' (some (s'.hc loc')) r c∧Evo w X ⟨loc,H,cnt⟩ w' X' (s'.hc loc'):=by
 intro cs
 let b:Frame:={ (default:Frame) with fn:=f,kind:=.normal }
 have henter:Frame.enter P f cargs .normal=b.at { tmps:=cargs++Array.replicate (fn.ntmps - cargs.size) undef,defers:=[] } [.code c]:=by
  simp [Frame.enter,Frame.at,hf,hb,b]
 have hsz:cargs.size=args.length:=by rw [hv.1]; simp
 have hsr:SR w X loc (Ae fn args H cnt) { tmps:=cargs++Array.replicate (fn.ntmps - cargs.size) undef,defers:=[] }:=by
  refine ⟨hr,?_,rfl⟩
  have:=hv.append (VL.map_av (w:=w) (X:=X) (o:=some ⟨loc,H,cnt⟩) (l:=List.replicate (fn.ntmps - args.length) ()) (f:=fun _=>.un) (g:=fun _=>undef) (fun _ _=>.un))
  simpa [Ae,hsz,St.hc] using this
 obtain ⟨w',fr,s',X',loc',r,c',g1,g2,g3,g4,g5,g6,g7⟩:=Akl hE hm h (fun x hx=>by simp at hx; subst hx; exact hlex) b cs _ w X loc rfl hf hsr w X ⟨loc,H,cnt⟩ rfl (Evo.refl _ _ _)
 rw [←henter] at g1
 exact ⟨.returned c',w',fr,⟨r,s',X',loc',c',rfl,g4,g5,g6,g7⟩,g1,g2,g3⟩
mutual
def okc:AV→Bool
 | .sc v=>v.oneCell'
 | .ag cs=>Ar3 cs
 | .tu cs=>Akm cs
 | _=>false
def Ar3:List AV→Bool
 | []=>true
 | .sc v::r=>v.oneCell' && Ar3 r
 | _::_=>false
def Akm:List AV→Bool
 | []=>true
 | a::r=>okc a && Akm r
end
theorem Ad7:∀ (as:List AV),Ar3 as=true→∃ vs,C7 as=some vs∧(∀ w X o,VL w X o as vs)∧∀ v ∈ vs,v.oneCell'=true
 | [],_=>⟨[],rfl,fun _ _ _=>.nil,fun v h=>by simp at h⟩
 | .sc v::r,h=>by
  simp only [Ar3,AH] at h
  obtain ⟨vs,h1,h2,h3⟩:=Ad7 r h.2
  refine ⟨v::vs,by simp [C7,Bp,h1],fun w X o=>.cons (.sc h.1) (h2 w X o),fun u hu=>?_⟩
  rcases lx59.1 hu with rfl | hu
  ·exact h.1
  ·exact h3 u hu
mutual
theorem Akn:∀ (a:AV),okc a=true→∃ v,Bp a=some v∧∀ w X o,VR w X o a v
 | .sc v,h=>⟨v,rfl,fun _ _ _=>.sc h⟩
 | .ag cs,h=>by
  obtain ⟨vs,h1,h2,h3⟩:=Ad7 cs h
  exact ⟨.agg vs.toArray,by simp [Bp,h1],fun w X o=>.ag (h2 w X o).1 (h2 w X o).2 h3⟩
 | .tu cs,h=>by
  obtain ⟨vs,h1,h2⟩:=Ad8 cs h
  exact ⟨.tuple vs.toArray,by simp [Bp,h1],fun w X o=>.tu (h2 w X o).1 (h2 w X o).2⟩
 | .pt ..,h=>by simp [okc] at h
 | .sl ..,h=>by simp [okc] at h
 | .vw ..,h=>by simp [okc] at h
 | .vp ..,h=>by simp [okc] at h
 | .fn ..,h=>by simp [okc] at h
 | .un,h=>by simp [okc] at h
 | .jk,h=>by simp [okc] at h
theorem Ad8:∀ (as:List AV),Akm as=true→∃ vs,C7 as=some vs∧∀ w X o,VL w X o as vs
 | [],_=>⟨[],rfl,fun _ _ _=>.nil⟩
 | a::r,h=>by
  simp only [Akm,AH] at h
  obtain ⟨v,h1,h2⟩:=Akn a h.1
  obtain ⟨vs,h3,h4⟩:=Ad8 r h.2
  exact ⟨v::vs,by simp [C7,h1,h3],fun w X o=>.cons (h2 w X o) (h4 w X o)⟩
end
theorem Ab {P:Program} {E:Env} (hE:EnvOk P E) (hm:P.follows .mixedOrders=true) {f:FuncId} {fn:Func} {c:Code} {args:List AV} {r:AV}
  (hf:P.funcs[f]?=some fn) (hb:fn.body=some c) (hn:(fn.name == "runtime.NumGoroutine")=false) (hlex:C2 E.hb E.perm c=true) (hr:okc r=true)
  (h:Go P E 0 fn.results.toList (fun r' _=>r'=r) [.code c] (Ae fn args [] 0)):Ap P f args r:=by
 obtain ⟨v,hv1,hv2⟩:=Akn r hr
 refine ⟨⟨fn,hf,hn,by rw [hb]; rfl⟩,v,hv2,fun w cargs hv=>?_⟩
 refine (DG hE hm hf hb hlex (H:=[]) (cnt:=0) (R:=fun r' _=>r'=r) h w QQ (fun _=>none) cargs (Kp w) hv).mono ?_
 rintro e w' ⟨r',s',X',loc',c',rfl,rfl,g1,g2,g3⟩
 have hcv:=EO _ hv1 g2
 subst hcv
 refine ⟨rfl,g3.os,g3.tape,g3.output,g3.size,fun k hk=>g3.keep k hk ?_⟩
 exact Ah3
theorem Xc {P:Program} {E:Env} (hE:EnvOk P E) (hm:P.follows .mixedOrders=true) {f:FuncId} {fn:Func} {c:Code} {args:List AV} {H H':List Blk} {cnt cnt':Nat} {r:AV}
  (hf:P.funcs[f]?=some fn) (hb:fn.body=some c) (hn:(fn.name == "runtime.NumGoroutine")=false) (hlex:C2 E.hb E.perm c=true)
  (h:Go P E H.length fn.results.toList (fun r' s'=>r'=r∧s'.H=H'∧s'.cnt=cnt') [.code c] (Ae fn args H cnt)):HSpec P f args H cnt r H' cnt':=by
 refine ⟨⟨fn,hf,hn,by rw [hb]; rfl⟩,fun w X loc cargs hr hv=>?_⟩
 refine (DG hE hm hf hb hlex h w X loc cargs hr hv).mono ?_
 rintro e w' ⟨r',s',X',loc',c',rfl,⟨rfl,h1,h2⟩,g1,g2,g3⟩
 have hhc:s'.hc loc'=⟨loc',H',cnt'⟩:=by unfold St.hc; rw [h1,h2]
 rw [hhc] at g1 g2 g3
 exact ⟨X',loc',c',rfl,g1,g2,g3⟩
theorem Az3 {w X o z es v} (h:VR w X o (.vw z es) v):es.length≤maxLen:=by
 cases h with
 | vw0=>exact Bq _
 | vw1 f hne hX hb hcap hz hmax hsz hc hv=>exact Qv hcap hmax
theorem Ahk {w X o cs v} (h:VR w X o (.ag cs) v):∀ z es,.vw z es ∈ cs→es.length≤maxLen:=by
 intro z es hm
 cases h with
 | ag hl h1 h2=>
  obtain ⟨i,hi⟩:=lx44.1 hm
  have hlt:i < cs.length:=(lx22.1 hi).1
  exact Az3 (h1 i _ _ hi (lx50 (by omega)))
section
variable {P:Program} {E:Env} {n0:Nat} {rs:List ResultVar} {R:AV→St→Prop} {k:List Item} {s:St}
theorem Ar4 (i:Nat) {cs:List AV} (hi:s.T[i]?=some (.ag cs)) (h:(∀ z es,.vw z es ∈ cs→es.length≤maxLen)→Go P E n0 rs R k s):Go P E n0 rs R k s:=
 .know (fun w X loc a hs=>by
  have hlt:i < s.T.length:=(lx22.1 hi).1
  have hl:=hs.tm.1
  exact Ahk (hs.tm.2 i _ _ hi (lx50 (by omega)))) h
end
end Go.SX
