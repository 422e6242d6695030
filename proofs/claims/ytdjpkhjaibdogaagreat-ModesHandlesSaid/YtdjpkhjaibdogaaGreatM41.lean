/-
  Lemmas towards ModesHandles (joined texts: QA, QB).
  Conditions: none.
-/
import Derived.Test.YtdjpkhjaibdogaaGreatM01
import Derived.Test.YtdjpkhjaibdogaaGreatM28
import Derived.Test.YtdjpkhjaibdogaaGreatM21
set_option linter.unusedSimpArgs false
set_option linter.unusedVariables false
set_option maxRecDepth 100000
set_option maxHeartbeats 80000000
namespace Go.Proofs.YtdjpkhjaibdogaaGreat
open Go Go.SX
def bt:List Nat→Nat→Bool:=fun l n=>l.any (Nat.beq n)
def qP:List Nat:=[111,112,155,171,173,209,210,130,147,99,119,155,112,184,131,132,172,174,85,45,46,127,124,255,115]
def qV:List Nat:=[93,51,31,18,114]
def qU:List Nat:=[13,18,20,22,24,29,31,40,45,46,47,48,49,51,53,56,57,58,59,63,64,65,71,74,77,78,79,85,86,87,88,89,90,91,92,93,94,95,98,104,108,109,110,111,112,113,114,115,116,117,120,121,122,123,124,125,126,127,128,130,131,132,133,134,135,136,137,139,142,143,144,145,146,152,154,155,156,157,158,159,160,161,162,163,164,165,166,167,168,169,170,171,172,173,174,176,178,179,180,181,182,184,185,188,190,191,192,193,194,195,196,197,201,203,204,205,208,209,210,211,212,213,214,215,216,219,220,226,227,228,231,233,234,235,236,238,239,251,252,255,257,258,260]
def Av6:TabE:=⟨bt qU,bt qP,fun f=>not (bt qP f || bt qV f),bt [134,165,176,215,162,235,257],fun _ _=>none,bt [54,152,31,18,51,93,94,139,182,216,239,252,258,260,240,49,92,48,128,129,161,160,120,163,164,166,211,251,168,213,122,162,196,146,98,256,20,22,24,29,71,104,56,74,59,113,158,208,157,204,227,231,203,234,206,233,110,154,201,114,115,64,66,111,186,188,189,191,195,207,226,237,236,86],bt qV,bt [85,53],bt [93,51,18,31],bt [54,152],fun _=>false⟩
def chkF (t:TabE) (f:Nat) (fn:Func):Bool:=match fn.body with
 | some c=>(!(fn.name == "runtime.NumGoroutine")) && Dv (fun g=>t.hcl g && !t.isP g) (t.perm f) c
 | none=>true
def Ao3 (t:TabE):List Func→Nat→Bool
 | [],_=>true
 | fn::r,f=>(!t.ok f || chkF t f fn) && Ao3 t r (f+1)
theorem Ac1 {t:TabE}:∀ {l:List Func} {f i:Nat} {fn:Func},Ao3 t l f=true→l[i]?=some fn→t.ok (f+i)=true→chkF t (f+i) fn=true
 | [],f,i,fn,h,h2,_=>by simp at h2
 | x::r,f,i,fn,h,h2,h3=>by
  simp only [Ao3,AT] at h
  cases i with
  | zero=>simp at h2; subst h2; simpa [show t.ok f=true from h3] using h.1
  | succ i=>
   have e:f+(i+1)=f+1+i:=Ai
   rw [e] at h3 ⊢
   exact Ac1 (i:=i) h.2 (by simpa using h2) h3
theorem Av7 {P:Program} {t:TabE} (h:Ao3 t P.funcs.toList 0=true):Qt P t:=by
 intro f fn c ho hf hb
 have:=Ac1 (i:=f) h (by rw [Array.getElem?_toList]; exact hf) (by rw [B4]; exact ho)
 rw [B4] at this
 unfold chkF at this
 rw [hb] at this
 simpa using this
theorem Ac2:Qt Tryz.prog Av6:=Av7 (by kernel_rfl)
def YW:List (Nat × List AV × AV)→Nat→List AV→Option AV
 | [],_,_=>none
 | e::r,f,args=>match Nat.beq e.1 f && Qj e.2.1 args with
  | true=>some e.2.2
  | false=>YW r f args
theorem OT {Q:Nat→List AV→AV→Prop}:∀ {l:List (Nat × List AV × AV)} {f:Nat} {args:List AV} {r:AV},(∀ e ∈ l,Q e.1 e.2.1 e.2.2)→YW l f args=some r→Q f args r
 | [],f,args,r,_,h=>by simp [YW] at h
 | e::l,f,args,r,hl,h=>by
  simp only [YW] at h
  split at h
  ·rename_i hc
   simp only [AT] at hc
   have h1:=Nat.eq_of_beq_eq_true hc.1
   have h2:=Kz _ _ hc.2
   cases h
   have:=hl e lx48
   rwa [h1,h2] at this
  ·exact OT (fun x hx=>hl x (lx49 _ hx)) h
def emB (f:Nat) (v:Nat):Blk:=match Nat.beq f 54 with
 | true=>⟨true,v,3,1,[],false⟩
 | false=>⟨true,v,82,6,[],false⟩
def Av8 (f:Nat) (args:List AV) (H:List Blk) (cnt:Nat):Option (AV × List Blk × Nat):=
 match bt [54,152] f with
 | false=>none
 | true=>match args with
  | [.vw _ []]=>some (.sl H.length (cnt+1) 0 0,H++[emB f (cnt+1)],cnt+2)
  | [.sl id ver _ 0]=>match AO H id ver with
   | some _=>some (.sl H.length (cnt+1) 0 0,H++[emB f (cnt+1)],cnt+2)
   | none=>none
  | _=>none
theorem Ao4 (f:Nat) (args:List AV) (H:List Blk) (cnt:Nat) (r:AV) (H':List Blk) (cnt':Nat) (h:Av8 f args H cnt=some (r,H',cnt')):HSpec Tryz.prog f args H cnt r H' cnt':=by
 unfold Av8 at h
 split at h
 ·cases h
 ·rename_i hb
  have hf:f=54∨f=152:=by
   simp only [bt,List.any_cons,List.any_nil,I0,Iu] at hb
   exact hb.imp Nat.eq_of_beq_eq_true Nat.eq_of_beq_eq_true
  split at h
  ·cases h
   rcases hf with rfl | rfl
   ·exact OC (fun cap=>LF cap H cnt) (fun a cap=>LG a cap H cnt)
   ·exact OC (fun cap=>Km cap H cnt) (fun a cap=>Kn a cap H cnt)
  ·split at h
   ·rename_i B hB
    cases h
    have hs:(AO H _ _).isSome=true:=Option.isSome_iff_exists.2 ⟨B,hB⟩
    rcases hf with rfl | rfl
    ·exact WN hs (fun cap=>LF cap H cnt) (fun a cap=>LG a cap H cnt)
    ·exact WN hs (fun cap=>Km cap H cnt) (fun a cap=>Kn a cap H cnt)
   ·cases h
  ·cases h
def Bct (lp lv lf:List (Nat × List AV × AV)):Giv:=⟨YW lp,YW lv,Av8,YW lf⟩
theorem Ac3 {lp lv lf:List (Nat × List AV × AV)} (hp:∀ e ∈ lp,Di Tryz.prog e.1 e.2.1 e.2.2) (hv:∀ e ∈ lv,C1 Tryz.prog e.1 e.2.1 e.2.2) (hf:∀ e ∈ lf,Hz Tryz.prog e.1 e.2.1 e.2.2):GivOk Tryz.prog (Bct lp lv lf):=
 ⟨fun f args r h=>OT hp h,fun f args r h=>OT hv h,Ao4,fun f args r h=>OT hf h⟩
def mkG (lp lv:List (Nat × List AV × AV)):Giv:=Bct lp lv []
def okT:Option AV→Bool
 | some (.sc (.bool true))=>true
 | _=>false
theorem Bq {Q:Nat→List AV→AV→Prop}:∀ e ∈ ([]:List (Nat × List AV × AV)),Q e.1 e.2.1 e.2.2:=fun e h=>by simp at h
theorem DJ {Q:Nat→List AV→AV→Prop} {f:Nat} {args:List AV} {r:AV} {l:List (Nat × List AV × AV)} (h:Q f args r) (hl:∀ e ∈ l,Q e.1 e.2.1 e.2.2):∀ e ∈ (f,args,r)::l,Q e.1 e.2.1 e.2.2:=by
 intro e he
 rcases lx59.1 he with rfl | he
 ·exact h
 ·exact hl e he
theorem pQ {lp lv:List (Nat × List AV × AV)} (hp:∀ e ∈ lp,Di Tryz.prog e.1 e.2.1 e.2.2) (hv:∀ e ∈ lv,C1 Tryz.prog e.1 e.2.1 e.2.2) {f:Nat} {args:List AV} {r:AV}
  (h:pK Tryz.prog Av6 (mkG lp lv) 60 f args=some r):Di Tryz.prog f args r:=Ad5 rfl Ac2 (Ac3 hp hv Bq) h
theorem vQ {lp lv:List (Nat × List AV × AV)} (hp:∀ e ∈ lp,Di Tryz.prog e.1 e.2.1 e.2.2) (hv:∀ e ∈ lv,C1 Tryz.prog e.1 e.2.1 e.2.2) {f:Nat} {args:List AV} {r:AV}
  (h:vK Tryz.prog Av6 (mkG lp lv) 60 f args=some r):C1 Tryz.prog f args r:=Ad6 rfl Ac2 (Ac3 hp hv Bq) h
def iW (n:Int):AV:=.sc (.int .i64 n)
def yW (l:List UInt8):AV:=.sc (.string ⟨⟨l⟩⟩)
def txa:AV:=yW [115,119,105,116,99,104,32,115,32,53,59,32,109,111,100,101,32,97,32,50,32,123,32,111,110,32,99,108,111,115,101,32,115,32,123,32,115,99,111,114,101,32,49,59,32,99,111,110,115,117,109,101,59,32,125,32,125,32,109,111,100,101,32,98,32,49,32,123,32,111,110,32,99,108,111,115,101,32,115,32,123,32,115,99,111,114,101,32,50,59,32,125,32,111,110,32,115,116,97,114,116,32,123,32,108,105,103,104,116,32,108,32,51,59,32,125,32,125,32]
def txb:AV:=yW [115,119,105,116,99,104,32,115,32,53,59,32,108,97,109,112,32,108,32,57,59,32,109,111,100,101,32,97,32,50,32,123,32,111,110,32,99,108,111,115,101,32,115,32,123,32,115,99,111,114,101,32,49,59,32,99,111,110,115,117,109,101,59,32,125,32,125,32,109,111,100,101,32,98,32,49,32,123,32,111,110,32,99,108,111,115,101,32,115,32,123,32,115,99,111,114,101,32,50,59,32,125,32,111,110,32,115,116,97,114,116,32,123,32,108,105,103,104,116,32,108,32,51,59,32,125,32,125]
def rua:AV:=.ag [.vw false [.ag [iW 1,yW [115],iW 5,iW 0]],.vw false [.ag [yW [97],iW 2,.vw false [.ag [iW 3,yW [115],.vw false [.ag [iW 4,yW [],yW [],.vw false [.ag [iW 1,iW 1,yW [],.vw true [],iW 42]],.vw true [],.vw true [],iW 36],.ag [iW 19,yW [],yW [],.vw true [],.vw true [],.vw true [],iW 45]],iW 23]],iW 12],.ag [yW [98],iW 1,.vw false [.ag [iW 3,yW [115],.vw false [.ag [iW 4,yW [],yW [],.vw false [.ag [iW 1,iW 2,yW [],.vw true [],iW 88]],.vw true [],.vw true [],iW 82]],iW 69],.ag [iW 1,yW [],.vw false [.ag [iW 8,yW [108],yW [],.vw false [.ag [iW 1,iW 3,yW [],.vw true [],iW 112]],.vw true [],.vw true [],iW 104]],iW 93]],iW 58]]]
def rub:AV:=.ag [.vw false [.ag [iW 1,yW [115],iW 5,iW 0],.ag [iW 3,yW [108],iW 9,iW 12]],.vw false [.ag [yW [97],iW 2,.vw false [.ag [iW 3,yW [115],.vw false [.ag [iW 4,yW [],yW [],.vw false [.ag [iW 1,iW 1,yW [],.vw true [],iW 52]],.vw true [],.vw true [],iW 46],.ag [iW 19,yW [],yW [],.vw true [],.vw true [],.vw true [],iW 55]],iW 33]],iW 22],.ag [yW [98],iW 1,.vw false [.ag [iW 3,yW [115],.vw false [.ag [iW 4,yW [],yW [],.vw false [.ag [iW 1,iW 2,yW [],.vw true [],iW 98]],.vw true [],.vw true [],iW 92]],iW 79],.ag [iW 1,yW [],.vw false [.ag [iW 8,yW [108],yW [],.vw false [.ag [iW 1,iW 3,yW [],.vw true [],iW 122]],.vw true [],.vw true [],iW 114]],iW 103]],iW 68]]]
def cob:AV:=.ag [.vw false [.ag [iW 1,iW 1],.ag [iW 15,iW 0],.ag [iW 30,iW 0],.ag [iW 31,iW 0],.ag [iW 1,iW 3],.ag [iW 19,iW 9],.ag [iW 31,iW 0],.ag [iW 1,iW 2],.ag [iW 15,iW 0],.ag [iW 31,iW 0]],.vw true [],.vw false [.ag [iW 0,iW 3,iW 5,iW 0],.ag [iW 1,iW 1,iW 0,iW 4],.ag [iW 1,iW 3,iW 5,iW 7]],.vw false [iW 2,iW 1],.vw true [],iW 0,iW 0]
def Bcu:List AV:=[txa]
def Bcv:AV:=.tu [.vw false [.ag [iW 2,yW [115,119,105,116,99,104],iW 0,iW 0],.ag [iW 1,yW [115],iW 0,iW 7],.ag [iW 3,yW [],iW 5,iW 9],.ag [iW 5,yW [59],iW 0,iW 10],.ag [iW 2,yW [109,111,100,101],iW 0,iW 12],.ag [iW 1,yW [97],iW 0,iW 17],.ag [iW 3,yW [],iW 2,iW 19],.ag [iW 5,yW [123],iW 0,iW 21],.ag [iW 2,yW [111,110],iW 0,iW 23],.ag [iW 2,yW [99,108,111,115,101],iW 0,iW 26],.ag [iW 1,yW [115],iW 0,iW 32],.ag [iW 5,yW [123],iW 0,iW 34],.ag [iW 2,yW [115,99,111,114,101],iW 0,iW 36],.ag [iW 3,yW [],iW 1,iW 42],.ag [iW 5,yW [59],iW 0,iW 43],.ag [iW 2,yW [99,111,110,115,117,109,101],iW 0,iW 45],.ag [iW 5,yW [59],iW 0,iW 52],.ag [iW 5,yW [125],iW 0,iW 54],.ag [iW 5,yW [125],iW 0,iW 56],.ag [iW 2,yW [109,111,100,101],iW 0,iW 58],.ag [iW 1,yW [98],iW 0,iW 63],.ag [iW 3,yW [],iW 1,iW 65],.ag [iW 5,yW [123],iW 0,iW 67],.ag [iW 2,yW [111,110],iW 0,iW 69],.ag [iW 2,yW [99,108,111,115,101],iW 0,iW 72],.ag [iW 1,yW [115],iW 0,iW 78],.ag [iW 5,yW [123],iW 0,iW 80],.ag [iW 2,yW [115,99,111,114,101],iW 0,iW 82],.ag [iW 3,yW [],iW 2,iW 88],.ag [iW 5,yW [59],iW 0,iW 89],.ag [iW 5,yW [125],iW 0,iW 91],.ag [iW 2,yW [111,110],iW 0,iW 93],.ag [iW 2,yW [115,116,97,114,116],iW 0,iW 96],.ag [iW 5,yW [123],iW 0,iW 102],.ag [iW 2,yW [108,105,103,104,116],iW 0,iW 104],.ag [iW 1,yW [108],iW 0,iW 110],.ag [iW 3,yW [],iW 3,iW 112],.ag [iW 5,yW [59],iW 0,iW 113],.ag [iW 5,yW [125],iW 0,iW 115],.ag [iW 5,yW [125],iW 0,iW 117]],iW 0,iW 0]
def Bcw:List AV:=[txb]
def Bcx:AV:=.tu [.vw false [.ag [iW 2,yW [115,119,105,116,99,104],iW 0,iW 0],.ag [iW 1,yW [115],iW 0,iW 7],.ag [iW 3,yW [],iW 5,iW 9],.ag [iW 5,yW [59],iW 0,iW 10],.ag [iW 2,yW [108,97,109,112],iW 0,iW 12],.ag [iW 1,yW [108],iW 0,iW 17],.ag [iW 3,yW [],iW 9,iW 19],.ag [iW 5,yW [59],iW 0,iW 20],.ag [iW 2,yW [109,111,100,101],iW 0,iW 22],.ag [iW 1,yW [97],iW 0,iW 27],.ag [iW 3,yW [],iW 2,iW 29],.ag [iW 5,yW [123],iW 0,iW 31],.ag [iW 2,yW [111,110],iW 0,iW 33],.ag [iW 2,yW [99,108,111,115,101],iW 0,iW 36],.ag [iW 1,yW [115],iW 0,iW 42],.ag [iW 5,yW [123],iW 0,iW 44],.ag [iW 2,yW [115,99,111,114,101],iW 0,iW 46],.ag [iW 3,yW [],iW 1,iW 52],.ag [iW 5,yW [59],iW 0,iW 53],.ag [iW 2,yW [99,111,110,115,117,109,101],iW 0,iW 55],.ag [iW 5,yW [59],iW 0,iW 62],.ag [iW 5,yW [125],iW 0,iW 64],.ag [iW 5,yW [125],iW 0,iW 66],.ag [iW 2,yW [109,111,100,101],iW 0,iW 68],.ag [iW 1,yW [98],iW 0,iW 73],.ag [iW 3,yW [],iW 1,iW 75],.ag [iW 5,yW [123],iW 0,iW 77],.ag [iW 2,yW [111,110],iW 0,iW 79],.ag [iW 2,yW [99,108,111,115,101],iW 0,iW 82],.ag [iW 1,yW [115],iW 0,iW 88],.ag [iW 5,yW [123],iW 0,iW 90],.ag [iW 2,yW [115,99,111,114,101],iW 0,iW 92],.ag [iW 3,yW [],iW 2,iW 98],.ag [iW 5,yW [59],iW 0,iW 99],.ag [iW 5,yW [125],iW 0,iW 101],.ag [iW 2,yW [111,110],iW 0,iW 103],.ag [iW 2,yW [115,116,97,114,116],iW 0,iW 106],.ag [iW 5,yW [123],iW 0,iW 112],.ag [iW 2,yW [108,105,103,104,116],iW 0,iW 114],.ag [iW 1,yW [108],iW 0,iW 120],.ag [iW 3,yW [],iW 3,iW 122],.ag [iW 5,yW [59],iW 0,iW 123],.ag [iW 5,yW [125],iW 0,iW 125],.ag [iW 5,yW [125],iW 0,iW 127]],iW 0,iW 0]
def Bcy:List AV:=[txa]
def Bcz:AV:=.tu [rua,iW 0,iW 0]
def Bd0:List AV:=[txb]
def Bd1:AV:=.tu [rub,iW 0,iW 0]
def Bd2:List AV:=[rua]
def Bd3:AV:=.sc (.bool true)
def Bd4:List AV:=[rub]
def Bd5:AV:=.sc (.bool true)
def Bd6:List AV:=[rua]
def Bd7:AV:=.tu [.ag [.vw true [],.vw true [],.vw true [],.vw true [],.vw true [],iW 0,iW 0],iW 104,iW 8]
def Bd8:List AV:=[rub]
def Bd9:AV:=.tu [cob,iW 0,iW 0]
def Bda:List AV:=[txa]
def Bdb:AV:=.tu [.ag [.vw true [],.vw true [],.vw true [],.vw true [],.vw true [],iW 0,iW 0],iW 104,iW 8]
def Bdc:List AV:=[txb]
def Bdd:AV:=.tu [cob,iW 0,iW 0]
def Bde:List AV:=[cob]
def Bdf:AV:=iW 0
end Go.Proofs.YtdjpkhjaibdogaaGreat
