/-
  Joined texts: QA, QB.
  Conditions: none.
-/
import Derived.Test.YtdjpkhjaibdogaaGreatL36
import Derived.Test.YtdjpkhjaibdogaaGreatL25
namespace Go.Proofs.YtdjpkhjaibdogaaGreat
open Go Go.SX
set_option linter.unusedSimpArgs false
set_option linter.unusedVariables false
set_option maxRecDepth 100000
set_option maxHeartbeats 80000000
def bt:List Nat→Nat→Bool:=fun l n=>l.any (Nat.beq n)
def qP:List Nat:=[111,112,155,171,173,209,210,130,147,99,119,155,112,184,131,132,172,174,85,45,46,127,124,255,115]
def qV:List Nat:=[93,51,31,18,114]
def qU:List Nat:=[13,18,20,22,24,29,31,40,45,46,47,48,49,51,53,56,57,58,59,63,64,65,71,74,77,78,79,85,86,87,88,89,90,91,92,93,94,95,98,104,108,109,110,111,112,113,114,115,116,117,120,121,122,123,124,125,126,127,128,130,131,132,133,134,135,136,137,139,142,143,144,145,146,152,154,155,156,157,158,159,160,161,162,163,164,165,166,167,168,169,170,171,172,173,174,176,178,179,180,181,182,184,185,188,190,191,192,193,194,195,196,197,201,203,204,205,208,209,210,211,212,213,214,215,216,219,220,226,227,228,231,233,234,235,236,238,239,251,252,255,257,258,260]
def tabQ:TabE:=⟨bt qU,bt qP,fun f=>not (bt qP f || bt qV f),bt [134,165,176,215,162,235,257],fun _ _=>none,bt [54,152,31,18,51,93,94,139,182,216,239,252,258,260,240,49,92,48,128,129,161,160,120,163,164,166,211,251,168,213,122,162,196,146,98,256,20,22,24,29,71,104,56,74,59,113,158,208,157,204,227,231,203,234,206,233,110,154,201,114,115,64,66,111,186,188,189,191,195,207,226,237,236,86],bt qV,bt [85,53],bt [93,51,18,31],bt [54,152],fun _=>false⟩
def chkF (t:TabE) (f:Nat) (fn:Func):Bool:=match fn.body with
 | some c=>(!(fn.name == "runtime.NumGoroutine")) && lexAll (fun g=>t.hcl g && !t.isP g) (t.perm f) c
 | none=>true
def chkL (t:TabE):List Func→Nat→Bool
 | [],_=>true
 | fn::r,f=>(!t.ok f || chkF t f fn) && chkL t r (f+1)
theorem chkL_ok {t:TabE}:∀ {l:List Func} {f i:Nat} {fn:Func},chkL t l f=true→l[i]?=some fn→t.ok (f+i)=true→chkF t (f+i) fn=true
 | [],f,i,fn,h,h2,_=>by simp at h2
 | x::r,f,i,fn,h,h2,h3=>by
  simp only [chkL,Bool.and_eq_true] at h
  cases i with
  | zero=>simp at h2; subst h2; simpa [show t.ok f=true from h3] using h.1
  | succ i=>
   have e:f+(i+1)=f+1+i:=by omega
   rw [e] at h3 ⊢
   exact chkL_ok (i:=i) h.2 (by simpa using h2) h3
theorem tab_of {P:Program} {t:TabE} (h:chkL t P.funcs.toList 0=true):TabEOk P t:=by
 intro f fn c ho hf hb
 have:=chkL_ok (i:=f) h (by rw [Array.getElem?_toList]; exact hf) (by rw [Nat.zero_add]; exact ho)
 rw [Nat.zero_add] at this
 unfold chkF at this
 rw [hb] at this
 simpa using this
theorem tabQ_ok:TabEOk Tryz.prog tabQ:=tab_of (by kernel_rfl)
def look:List (Nat × List AV × AV)→Nat→List AV→Option AV
 | [],_,_=>none
 | e::r,f,args=>match Nat.beq e.1 f && avEs e.2.1 args with
  | true=>some e.2.2
  | false=>look r f args
theorem look_ok {Q:Nat→List AV→AV→Prop}:∀ {l:List (Nat × List AV × AV)} {f:Nat} {args:List AV} {r:AV},(∀ e ∈ l,Q e.1 e.2.1 e.2.2)→look l f args=some r→Q f args r
 | [],f,args,r,_,h=>by simp [look] at h
 | e::l,f,args,r,hl,h=>by
  simp only [look] at h
  split at h
  ·rename_i hc
   simp only [Bool.and_eq_true] at hc
   have h1:=Nat.eq_of_beq_eq_true hc.1
   have h2:=avEs_ok _ _ hc.2
   cases h
   have:=hl e List.mem_cons_self
   rwa [h1,h2] at this
  ·exact look_ok (fun x hx=>hl x (List.mem_cons_of_mem _ hx)) h
def emB (f:Nat) (v:Nat):Blk:=match Nat.beq f 54 with
 | true=>⟨true,v,3,1,[],false⟩
 | false=>⟨true,v,82,6,[],false⟩
def cloH (f:Nat) (args:List AV) (H:List Blk) (cnt:Nat):Option (AV × List Blk × Nat):=
 match bt [54,152] f with
 | false=>none
 | true=>match args with
  | [.vw _ []]=>some (.sl H.length (cnt+1) 0 0,H++[emB f (cnt+1)],cnt+2)
  | [.sl id ver _ 0]=>match liveB H id ver with
   | some _=>some (.sl H.length (cnt+1) 0 0,H++[emB f (cnt+1)],cnt+2)
   | none=>none
  | _=>none
theorem cloH_ok (f:Nat) (args:List AV) (H:List Blk) (cnt:Nat) (r:AV) (H':List Blk) (cnt':Nat) (h:cloH f args H cnt=some (r,H',cnt')):HSpec Tryz.prog f args H cnt r H' cnt':=by
 unfold cloH at h
 split at h
 ·cases h
 ·rename_i hb
  have hf:f=54∨f=152:=by
   simp only [bt,List.any_cons,List.any_nil,Bool.or_false,Bool.or_eq_true] at hb
   exact hb.imp Nat.eq_of_beq_eq_true Nat.eq_of_beq_eq_true
  split at h
  ·cases h
   rcases hf with rfl | rfl
   ·exact nilcase (fun cap=>clone54_no cap H cnt) (fun a cap=>clone54_so a cap H cnt)
   ·exact nilcase (fun cap=>clone152_no cap H cnt) (fun a cap=>clone152_so a cap H cnt)
  ·split at h
   ·rename_i B hB
    cases h
    have hs:(liveB H _ _).isSome=true:=Option.isSome_iff_exists.2 ⟨B,hB⟩
    rcases hf with rfl | rfl
    ·exact nilcaseS hs (fun cap=>clone54_no cap H cnt) (fun a cap=>clone54_so a cap H cnt)
    ·exact nilcaseS hs (fun cap=>clone152_no cap H cnt) (fun a cap=>clone152_so a cap H cnt)
   ·cases h
  ·cases h
def mkG3 (lp lv lf:List (Nat × List AV × AV)):Giv:=⟨look lp,look lv,cloH,look lf⟩
theorem mkG3_ok {lp lv lf:List (Nat × List AV × AV)} (hp:∀ e ∈ lp,PSpec Tryz.prog e.1 e.2.1 e.2.2) (hv:∀ e ∈ lv,VSpec Tryz.prog e.1 e.2.1 e.2.2) (hf:∀ e ∈ lf,FSpec Tryz.prog e.1 e.2.1 e.2.2):GivOk Tryz.prog (mkG3 lp lv lf):=
 ⟨fun f args r h=>look_ok hp h,fun f args r h=>look_ok hv h,cloH_ok,fun f args r h=>look_ok hf h⟩
def mkG (lp lv:List (Nat × List AV × AV)):Giv:=mkG3 lp lv []
def okT:Option AV→Bool
 | some (.sc (.bool true))=>true
 | _=>false
theorem fact_nil {Q:Nat→List AV→AV→Prop}:∀ e ∈ ([]:List (Nat × List AV × AV)),Q e.1 e.2.1 e.2.2:=fun e h=>by simp at h
theorem fact_cons {Q:Nat→List AV→AV→Prop} {f:Nat} {args:List AV} {r:AV} {l:List (Nat × List AV × AV)} (h:Q f args r) (hl:∀ e ∈ l,Q e.1 e.2.1 e.2.2):∀ e ∈ (f,args,r)::l,Q e.1 e.2.1 e.2.2:=by
 intro e he
 rcases List.mem_cons.1 he with rfl | he
 ·exact h
 ·exact hl e he
theorem pQ {lp lv:List (Nat × List AV × AV)} (hp:∀ e ∈ lp,PSpec Tryz.prog e.1 e.2.1 e.2.2) (hv:∀ e ∈ lv,VSpec Tryz.prog e.1 e.2.1 e.2.2) {f:Nat} {args:List AV} {r:AV}
  (h:pK Tryz.prog tabQ (mkG lp lv) 60 f args=some r):PSpec Tryz.prog f args r:=pspec_ofK rfl tabQ_ok (mkG3_ok hp hv fact_nil) h
theorem vQ {lp lv:List (Nat × List AV × AV)} (hp:∀ e ∈ lp,PSpec Tryz.prog e.1 e.2.1 e.2.2) (hv:∀ e ∈ lv,VSpec Tryz.prog e.1 e.2.1 e.2.2) {f:Nat} {args:List AV} {r:AV}
  (h:vK Tryz.prog tabQ (mkG lp lv) 60 f args=some r):VSpec Tryz.prog f args r:=vspec_ofK rfl tabQ_ok (mkG3_ok hp hv fact_nil) h
end Go.Proofs.YtdjpkhjaibdogaaGreat

namespace Go.Proofs.YtdjpkhjaibdogaaGreat
open Go Go.SX
set_option linter.unusedSimpArgs false
set_option linter.unusedVariables false
set_option maxRecDepth 100000
set_option maxHeartbeats 80000000
def a93a:List AV:=[.sc (.string ⟨#[115,119,105,116,99,104,32,115,32,53,59,32,109,111,100,101,32,97,32,50,32,123,32,111,110,32,99,108,111,115,101,32,115,32,123,32,115,99,111,114,101,32,49,59,32,99,111,110,115,117,109,101,59,32,125,32,125,32,109,111,100,101,32,98,32,49,32,123,32,111,110,32,99,108,111,115,101,32,115,32,123,32,115,99,111,114,101,32,50,59,32,125,32,111,110,32,115,116,97,114,116,32,123,32,108,105,103,104,116,32,108,32,51,59,32,125,32,125,32]⟩)]
def r93a:AV:=.tu [.vw false [.ag [.sc (.int .i64 2),.sc (.string ⟨#[115,119,105,116,99,104]⟩),.sc (.int .i64 0),.sc (.int .i64 0)],.ag [.sc (.int .i64 1),.sc (.string ⟨#[115]⟩),.sc (.int .i64 0),.sc (.int .i64 7)],.ag [.sc (.int .i64 3),.sc (.string ⟨#[]⟩),.sc (.int .i64 5),.sc (.int .i64 9)],.ag [.sc (.int .i64 5),.sc (.string ⟨#[59]⟩),.sc (.int .i64 0),.sc (.int .i64 10)],.ag [.sc (.int .i64 2),.sc (.string ⟨#[109,111,100,101]⟩),.sc (.int .i64 0),.sc (.int .i64 12)],.ag [.sc (.int .i64 1),.sc (.string ⟨#[97]⟩),.sc (.int .i64 0),.sc (.int .i64 17)],.ag [.sc (.int .i64 3),.sc (.string ⟨#[]⟩),.sc (.int .i64 2),.sc (.int .i64 19)],.ag [.sc (.int .i64 5),.sc (.string ⟨#[123]⟩),.sc (.int .i64 0),.sc (.int .i64 21)],.ag [.sc (.int .i64 2),.sc (.string ⟨#[111,110]⟩),.sc (.int .i64 0),.sc (.int .i64 23)],.ag [.sc (.int .i64 2),.sc (.string ⟨#[99,108,111,115,101]⟩),.sc (.int .i64 0),.sc (.int .i64 26)],.ag [.sc (.int .i64 1),.sc (.string ⟨#[115]⟩),.sc (.int .i64 0),.sc (.int .i64 32)],.ag [.sc (.int .i64 5),.sc (.string ⟨#[123]⟩),.sc (.int .i64 0),.sc (.int .i64 34)],.ag [.sc (.int .i64 2),.sc (.string ⟨#[115,99,111,114,101]⟩),.sc (.int .i64 0),.sc (.int .i64 36)],.ag [.sc (.int .i64 3),.sc (.string ⟨#[]⟩),.sc (.int .i64 1),.sc (.int .i64 42)],.ag [.sc (.int .i64 5),.sc (.string ⟨#[59]⟩),.sc (.int .i64 0),.sc (.int .i64 43)],.ag [.sc (.int .i64 2),.sc (.string ⟨#[99,111,110,115,117,109,101]⟩),.sc (.int .i64 0),.sc (.int .i64 45)],.ag [.sc (.int .i64 5),.sc (.string ⟨#[59]⟩),.sc (.int .i64 0),.sc (.int .i64 52)],.ag [.sc (.int .i64 5),.sc (.string ⟨#[125]⟩),.sc (.int .i64 0),.sc (.int .i64 54)],.ag [.sc (.int .i64 5),.sc (.string ⟨#[125]⟩),.sc (.int .i64 0),.sc (.int .i64 56)],.ag [.sc (.int .i64 2),.sc (.string ⟨#[109,111,100,101]⟩),.sc (.int .i64 0),.sc (.int .i64 58)],.ag [.sc (.int .i64 1),.sc (.string ⟨#[98]⟩),.sc (.int .i64 0),.sc (.int .i64 63)],.ag [.sc (.int .i64 3),.sc (.string ⟨#[]⟩),.sc (.int .i64 1),.sc (.int .i64 65)],.ag [.sc (.int .i64 5),.sc (.string ⟨#[123]⟩),.sc (.int .i64 0),.sc (.int .i64 67)],.ag [.sc (.int .i64 2),.sc (.string ⟨#[111,110]⟩),.sc (.int .i64 0),.sc (.int .i64 69)],.ag [.sc (.int .i64 2),.sc (.string ⟨#[99,108,111,115,101]⟩),.sc (.int .i64 0),.sc (.int .i64 72)],.ag [.sc (.int .i64 1),.sc (.string ⟨#[115]⟩),.sc (.int .i64 0),.sc (.int .i64 78)],.ag [.sc (.int .i64 5),.sc (.string ⟨#[123]⟩),.sc (.int .i64 0),.sc (.int .i64 80)],.ag [.sc (.int .i64 2),.sc (.string ⟨#[115,99,111,114,101]⟩),.sc (.int .i64 0),.sc (.int .i64 82)],.ag [.sc (.int .i64 3),.sc (.string ⟨#[]⟩),.sc (.int .i64 2),.sc (.int .i64 88)],.ag [.sc (.int .i64 5),.sc (.string ⟨#[59]⟩),.sc (.int .i64 0),.sc (.int .i64 89)],.ag [.sc (.int .i64 5),.sc (.string ⟨#[125]⟩),.sc (.int .i64 0),.sc (.int .i64 91)],.ag [.sc (.int .i64 2),.sc (.string ⟨#[111,110]⟩),.sc (.int .i64 0),.sc (.int .i64 93)],.ag [.sc (.int .i64 2),.sc (.string ⟨#[115,116,97,114,116]⟩),.sc (.int .i64 0),.sc (.int .i64 96)],.ag [.sc (.int .i64 5),.sc (.string ⟨#[123]⟩),.sc (.int .i64 0),.sc (.int .i64 102)],.ag [.sc (.int .i64 2),.sc (.string ⟨#[108,105,103,104,116]⟩),.sc (.int .i64 0),.sc (.int .i64 104)],.ag [.sc (.int .i64 1),.sc (.string ⟨#[108]⟩),.sc (.int .i64 0),.sc (.int .i64 110)],.ag [.sc (.int .i64 3),.sc (.string ⟨#[]⟩),.sc (.int .i64 3),.sc (.int .i64 112)],.ag [.sc (.int .i64 5),.sc (.string ⟨#[59]⟩),.sc (.int .i64 0),.sc (.int .i64 113)],.ag [.sc (.int .i64 5),.sc (.string ⟨#[125]⟩),.sc (.int .i64 0),.sc (.int .i64 115)],.ag [.sc (.int .i64 5),.sc (.string ⟨#[125]⟩),.sc (.int .i64 0),.sc (.int .i64 117)]],.sc (.int .i64 0),.sc (.int .i64 0)]
def a93b:List AV:=[.sc (.string ⟨#[115,119,105,116,99,104,32,115,32,53,59,32,108,97,109,112,32,108,32,57,59,32,109,111,100,101,32,97,32,50,32,123,32,111,110,32,99,108,111,115,101,32,115,32,123,32,115,99,111,114,101,32,49,59,32,99,111,110,115,117,109,101,59,32,125,32,125,32,109,111,100,101,32,98,32,49,32,123,32,111,110,32,99,108,111,115,101,32,115,32,123,32,115,99,111,114,101,32,50,59,32,125,32,111,110,32,115,116,97,114,116,32,123,32,108,105,103,104,116,32,108,32,51,59,32,125,32,125]⟩)]
def r93b:AV:=.tu [.vw false [.ag [.sc (.int .i64 2),.sc (.string ⟨#[115,119,105,116,99,104]⟩),.sc (.int .i64 0),.sc (.int .i64 0)],.ag [.sc (.int .i64 1),.sc (.string ⟨#[115]⟩),.sc (.int .i64 0),.sc (.int .i64 7)],.ag [.sc (.int .i64 3),.sc (.string ⟨#[]⟩),.sc (.int .i64 5),.sc (.int .i64 9)],.ag [.sc (.int .i64 5),.sc (.string ⟨#[59]⟩),.sc (.int .i64 0),.sc (.int .i64 10)],.ag [.sc (.int .i64 2),.sc (.string ⟨#[108,97,109,112]⟩),.sc (.int .i64 0),.sc (.int .i64 12)],.ag [.sc (.int .i64 1),.sc (.string ⟨#[108]⟩),.sc (.int .i64 0),.sc (.int .i64 17)],.ag [.sc (.int .i64 3),.sc (.string ⟨#[]⟩),.sc (.int .i64 9),.sc (.int .i64 19)],.ag [.sc (.int .i64 5),.sc (.string ⟨#[59]⟩),.sc (.int .i64 0),.sc (.int .i64 20)],.ag [.sc (.int .i64 2),.sc (.string ⟨#[109,111,100,101]⟩),.sc (.int .i64 0),.sc (.int .i64 22)],.ag [.sc (.int .i64 1),.sc (.string ⟨#[97]⟩),.sc (.int .i64 0),.sc (.int .i64 27)],.ag [.sc (.int .i64 3),.sc (.string ⟨#[]⟩),.sc (.int .i64 2),.sc (.int .i64 29)],.ag [.sc (.int .i64 5),.sc (.string ⟨#[123]⟩),.sc (.int .i64 0),.sc (.int .i64 31)],.ag [.sc (.int .i64 2),.sc (.string ⟨#[111,110]⟩),.sc (.int .i64 0),.sc (.int .i64 33)],.ag [.sc (.int .i64 2),.sc (.string ⟨#[99,108,111,115,101]⟩),.sc (.int .i64 0),.sc (.int .i64 36)],.ag [.sc (.int .i64 1),.sc (.string ⟨#[115]⟩),.sc (.int .i64 0),.sc (.int .i64 42)],.ag [.sc (.int .i64 5),.sc (.string ⟨#[123]⟩),.sc (.int .i64 0),.sc (.int .i64 44)],.ag [.sc (.int .i64 2),.sc (.string ⟨#[115,99,111,114,101]⟩),.sc (.int .i64 0),.sc (.int .i64 46)],.ag [.sc (.int .i64 3),.sc (.string ⟨#[]⟩),.sc (.int .i64 1),.sc (.int .i64 52)],.ag [.sc (.int .i64 5),.sc (.string ⟨#[59]⟩),.sc (.int .i64 0),.sc (.int .i64 53)],.ag [.sc (.int .i64 2),.sc (.string ⟨#[99,111,110,115,117,109,101]⟩),.sc (.int .i64 0),.sc (.int .i64 55)],.ag [.sc (.int .i64 5),.sc (.string ⟨#[59]⟩),.sc (.int .i64 0),.sc (.int .i64 62)],.ag [.sc (.int .i64 5),.sc (.string ⟨#[125]⟩),.sc (.int .i64 0),.sc (.int .i64 64)],.ag [.sc (.int .i64 5),.sc (.string ⟨#[125]⟩),.sc (.int .i64 0),.sc (.int .i64 66)],.ag [.sc (.int .i64 2),.sc (.string ⟨#[109,111,100,101]⟩),.sc (.int .i64 0),.sc (.int .i64 68)],.ag [.sc (.int .i64 1),.sc (.string ⟨#[98]⟩),.sc (.int .i64 0),.sc (.int .i64 73)],.ag [.sc (.int .i64 3),.sc (.string ⟨#[]⟩),.sc (.int .i64 1),.sc (.int .i64 75)],.ag [.sc (.int .i64 5),.sc (.string ⟨#[123]⟩),.sc (.int .i64 0),.sc (.int .i64 77)],.ag [.sc (.int .i64 2),.sc (.string ⟨#[111,110]⟩),.sc (.int .i64 0),.sc (.int .i64 79)],.ag [.sc (.int .i64 2),.sc (.string ⟨#[99,108,111,115,101]⟩),.sc (.int .i64 0),.sc (.int .i64 82)],.ag [.sc (.int .i64 1),.sc (.string ⟨#[115]⟩),.sc (.int .i64 0),.sc (.int .i64 88)],.ag [.sc (.int .i64 5),.sc (.string ⟨#[123]⟩),.sc (.int .i64 0),.sc (.int .i64 90)],.ag [.sc (.int .i64 2),.sc (.string ⟨#[115,99,111,114,101]⟩),.sc (.int .i64 0),.sc (.int .i64 92)],.ag [.sc (.int .i64 3),.sc (.string ⟨#[]⟩),.sc (.int .i64 2),.sc (.int .i64 98)],.ag [.sc (.int .i64 5),.sc (.string ⟨#[59]⟩),.sc (.int .i64 0),.sc (.int .i64 99)],.ag [.sc (.int .i64 5),.sc (.string ⟨#[125]⟩),.sc (.int .i64 0),.sc (.int .i64 101)],.ag [.sc (.int .i64 2),.sc (.string ⟨#[111,110]⟩),.sc (.int .i64 0),.sc (.int .i64 103)],.ag [.sc (.int .i64 2),.sc (.string ⟨#[115,116,97,114,116]⟩),.sc (.int .i64 0),.sc (.int .i64 106)],.ag [.sc (.int .i64 5),.sc (.string ⟨#[123]⟩),.sc (.int .i64 0),.sc (.int .i64 112)],.ag [.sc (.int .i64 2),.sc (.string ⟨#[108,105,103,104,116]⟩),.sc (.int .i64 0),.sc (.int .i64 114)],.ag [.sc (.int .i64 1),.sc (.string ⟨#[108]⟩),.sc (.int .i64 0),.sc (.int .i64 120)],.ag [.sc (.int .i64 3),.sc (.string ⟨#[]⟩),.sc (.int .i64 3),.sc (.int .i64 122)],.ag [.sc (.int .i64 5),.sc (.string ⟨#[59]⟩),.sc (.int .i64 0),.sc (.int .i64 123)],.ag [.sc (.int .i64 5),.sc (.string ⟨#[125]⟩),.sc (.int .i64 0),.sc (.int .i64 125)],.ag [.sc (.int .i64 5),.sc (.string ⟨#[125]⟩),.sc (.int .i64 0),.sc (.int .i64 127)]],.sc (.int .i64 0),.sc (.int .i64 0)]
def a51a:List AV:=[.sc (.string ⟨#[115,119,105,116,99,104,32,115,32,53,59,32,109,111,100,101,32,97,32,50,32,123,32,111,110,32,99,108,111,115,101,32,115,32,123,32,115,99,111,114,101,32,49,59,32,99,111,110,115,117,109,101,59,32,125,32,125,32,109,111,100,101,32,98,32,49,32,123,32,111,110,32,99,108,111,115,101,32,115,32,123,32,115,99,111,114,101,32,50,59,32,125,32,111,110,32,115,116,97,114,116,32,123,32,108,105,103,104,116,32,108,32,51,59,32,125,32,125,32]⟩)]
def r51a:AV:=.tu [.ag [.vw false [.ag [.sc (.int .i64 1),.sc (.string ⟨#[115]⟩),.sc (.int .i64 5),.sc (.int .i64 0)]],.vw false [.ag [.sc (.string ⟨#[97]⟩),.sc (.int .i64 2),.vw false [.ag [.sc (.int .i64 3),.sc (.string ⟨#[115]⟩),.vw false [.ag [.sc (.int .i64 4),.sc (.string ⟨#[]⟩),.sc (.string ⟨#[]⟩),.vw false [.ag [.sc (.int .i64 1),.sc (.int .i64 1),.sc (.string ⟨#[]⟩),.vw true [],.sc (.int .i64 42)]],.vw true [],.vw true [],.sc (.int .i64 36)],.ag [.sc (.int .i64 19),.sc (.string ⟨#[]⟩),.sc (.string ⟨#[]⟩),.vw true [],.vw true [],.vw true [],.sc (.int .i64 45)]],.sc (.int .i64 23)]],.sc (.int .i64 12)],.ag [.sc (.string ⟨#[98]⟩),.sc (.int .i64 1),.vw false [.ag [.sc (.int .i64 3),.sc (.string ⟨#[115]⟩),.vw false [.ag [.sc (.int .i64 4),.sc (.string ⟨#[]⟩),.sc (.string ⟨#[]⟩),.vw false [.ag [.sc (.int .i64 1),.sc (.int .i64 2),.sc (.string ⟨#[]⟩),.vw true [],.sc (.int .i64 88)]],.vw true [],.vw true [],.sc (.int .i64 82)]],.sc (.int .i64 69)],.ag [.sc (.int .i64 1),.sc (.string ⟨#[]⟩),.vw false [.ag [.sc (.int .i64 8),.sc (.string ⟨#[108]⟩),.sc (.string ⟨#[]⟩),.vw false [.ag [.sc (.int .i64 1),.sc (.int .i64 3),.sc (.string ⟨#[]⟩),.vw true [],.sc (.int .i64 112)]],.vw true [],.vw true [],.sc (.int .i64 104)]],.sc (.int .i64 93)]],.sc (.int .i64 58)]]],.sc (.int .i64 0),.sc (.int .i64 0)]
def a51b:List AV:=[.sc (.string ⟨#[115,119,105,116,99,104,32,115,32,53,59,32,108,97,109,112,32,108,32,57,59,32,109,111,100,101,32,97,32,50,32,123,32,111,110,32,99,108,111,115,101,32,115,32,123,32,115,99,111,114,101,32,49,59,32,99,111,110,115,117,109,101,59,32,125,32,125,32,109,111,100,101,32,98,32,49,32,123,32,111,110,32,99,108,111,115,101,32,115,32,123,32,115,99,111,114,101,32,50,59,32,125,32,111,110,32,115,116,97,114,116,32,123,32,108,105,103,104,116,32,108,32,51,59,32,125,32,125]⟩)]
def r51b:AV:=.tu [.ag [.vw false [.ag [.sc (.int .i64 1),.sc (.string ⟨#[115]⟩),.sc (.int .i64 5),.sc (.int .i64 0)],.ag [.sc (.int .i64 3),.sc (.string ⟨#[108]⟩),.sc (.int .i64 9),.sc (.int .i64 12)]],.vw false [.ag [.sc (.string ⟨#[97]⟩),.sc (.int .i64 2),.vw false [.ag [.sc (.int .i64 3),.sc (.string ⟨#[115]⟩),.vw false [.ag [.sc (.int .i64 4),.sc (.string ⟨#[]⟩),.sc (.string ⟨#[]⟩),.vw false [.ag [.sc (.int .i64 1),.sc (.int .i64 1),.sc (.string ⟨#[]⟩),.vw true [],.sc (.int .i64 52)]],.vw true [],.vw true [],.sc (.int .i64 46)],.ag [.sc (.int .i64 19),.sc (.string ⟨#[]⟩),.sc (.string ⟨#[]⟩),.vw true [],.vw true [],.vw true [],.sc (.int .i64 55)]],.sc (.int .i64 33)]],.sc (.int .i64 22)],.ag [.sc (.string ⟨#[98]⟩),.sc (.int .i64 1),.vw false [.ag [.sc (.int .i64 3),.sc (.string ⟨#[115]⟩),.vw false [.ag [.sc (.int .i64 4),.sc (.string ⟨#[]⟩),.sc (.string ⟨#[]⟩),.vw false [.ag [.sc (.int .i64 1),.sc (.int .i64 2),.sc (.string ⟨#[]⟩),.vw true [],.sc (.int .i64 98)]],.vw true [],.vw true [],.sc (.int .i64 92)]],.sc (.int .i64 79)],.ag [.sc (.int .i64 1),.sc (.string ⟨#[]⟩),.vw false [.ag [.sc (.int .i64 8),.sc (.string ⟨#[108]⟩),.sc (.string ⟨#[]⟩),.vw false [.ag [.sc (.int .i64 1),.sc (.int .i64 3),.sc (.string ⟨#[]⟩),.vw true [],.sc (.int .i64 122)]],.vw true [],.vw true [],.sc (.int .i64 114)]],.sc (.int .i64 103)]],.sc (.int .i64 68)]]],.sc (.int .i64 0),.sc (.int .i64 0)]
def a85a:List AV:=[.ag [.vw false [.ag [.sc (.int .i64 1),.sc (.string ⟨#[115]⟩),.sc (.int .i64 5),.sc (.int .i64 0)]],.vw false [.ag [.sc (.string ⟨#[97]⟩),.sc (.int .i64 2),.vw false [.ag [.sc (.int .i64 3),.sc (.string ⟨#[115]⟩),.vw false [.ag [.sc (.int .i64 4),.sc (.string ⟨#[]⟩),.sc (.string ⟨#[]⟩),.vw false [.ag [.sc (.int .i64 1),.sc (.int .i64 1),.sc (.string ⟨#[]⟩),.vw true [],.sc (.int .i64 42)]],.vw true [],.vw true [],.sc (.int .i64 36)],.ag [.sc (.int .i64 19),.sc (.string ⟨#[]⟩),.sc (.string ⟨#[]⟩),.vw true [],.vw true [],.vw true [],.sc (.int .i64 45)]],.sc (.int .i64 23)]],.sc (.int .i64 12)],.ag [.sc (.string ⟨#[98]⟩),.sc (.int .i64 1),.vw false [.ag [.sc (.int .i64 3),.sc (.string ⟨#[115]⟩),.vw false [.ag [.sc (.int .i64 4),.sc (.string ⟨#[]⟩),.sc (.string ⟨#[]⟩),.vw false [.ag [.sc (.int .i64 1),.sc (.int .i64 2),.sc (.string ⟨#[]⟩),.vw true [],.sc (.int .i64 88)]],.vw true [],.vw true [],.sc (.int .i64 82)]],.sc (.int .i64 69)],.ag [.sc (.int .i64 1),.sc (.string ⟨#[]⟩),.vw false [.ag [.sc (.int .i64 8),.sc (.string ⟨#[108]⟩),.sc (.string ⟨#[]⟩),.vw false [.ag [.sc (.int .i64 1),.sc (.int .i64 3),.sc (.string ⟨#[]⟩),.vw true [],.sc (.int .i64 112)]],.vw true [],.vw true [],.sc (.int .i64 104)]],.sc (.int .i64 93)]],.sc (.int .i64 58)]]]]
def r85a:AV:=.sc (.bool true)
def a85b:List AV:=[.ag [.vw false [.ag [.sc (.int .i64 1),.sc (.string ⟨#[115]⟩),.sc (.int .i64 5),.sc (.int .i64 0)],.ag [.sc (.int .i64 3),.sc (.string ⟨#[108]⟩),.sc (.int .i64 9),.sc (.int .i64 12)]],.vw false [.ag [.sc (.string ⟨#[97]⟩),.sc (.int .i64 2),.vw false [.ag [.sc (.int .i64 3),.sc (.string ⟨#[115]⟩),.vw false [.ag [.sc (.int .i64 4),.sc (.string ⟨#[]⟩),.sc (.string ⟨#[]⟩),.vw false [.ag [.sc (.int .i64 1),.sc (.int .i64 1),.sc (.string ⟨#[]⟩),.vw true [],.sc (.int .i64 52)]],.vw true [],.vw true [],.sc (.int .i64 46)],.ag [.sc (.int .i64 19),.sc (.string ⟨#[]⟩),.sc (.string ⟨#[]⟩),.vw true [],.vw true [],.vw true [],.sc (.int .i64 55)]],.sc (.int .i64 33)]],.sc (.int .i64 22)],.ag [.sc (.string ⟨#[98]⟩),.sc (.int .i64 1),.vw false [.ag [.sc (.int .i64 3),.sc (.string ⟨#[115]⟩),.vw false [.ag [.sc (.int .i64 4),.sc (.string ⟨#[]⟩),.sc (.string ⟨#[]⟩),.vw false [.ag [.sc (.int .i64 1),.sc (.int .i64 2),.sc (.string ⟨#[]⟩),.vw true [],.sc (.int .i64 98)]],.vw true [],.vw true [],.sc (.int .i64 92)]],.sc (.int .i64 79)],.ag [.sc (.int .i64 1),.sc (.string ⟨#[]⟩),.vw false [.ag [.sc (.int .i64 8),.sc (.string ⟨#[108]⟩),.sc (.string ⟨#[]⟩),.vw false [.ag [.sc (.int .i64 1),.sc (.int .i64 3),.sc (.string ⟨#[]⟩),.vw true [],.sc (.int .i64 122)]],.vw true [],.vw true [],.sc (.int .i64 114)]],.sc (.int .i64 103)]],.sc (.int .i64 68)]]]]
def r85b:AV:=.sc (.bool true)
def a18a:List AV:=[.ag [.vw false [.ag [.sc (.int .i64 1),.sc (.string ⟨#[115]⟩),.sc (.int .i64 5),.sc (.int .i64 0)]],.vw false [.ag [.sc (.string ⟨#[97]⟩),.sc (.int .i64 2),.vw false [.ag [.sc (.int .i64 3),.sc (.string ⟨#[115]⟩),.vw false [.ag [.sc (.int .i64 4),.sc (.string ⟨#[]⟩),.sc (.string ⟨#[]⟩),.vw false [.ag [.sc (.int .i64 1),.sc (.int .i64 1),.sc (.string ⟨#[]⟩),.vw true [],.sc (.int .i64 42)]],.vw true [],.vw true [],.sc (.int .i64 36)],.ag [.sc (.int .i64 19),.sc (.string ⟨#[]⟩),.sc (.string ⟨#[]⟩),.vw true [],.vw true [],.vw true [],.sc (.int .i64 45)]],.sc (.int .i64 23)]],.sc (.int .i64 12)],.ag [.sc (.string ⟨#[98]⟩),.sc (.int .i64 1),.vw false [.ag [.sc (.int .i64 3),.sc (.string ⟨#[115]⟩),.vw false [.ag [.sc (.int .i64 4),.sc (.string ⟨#[]⟩),.sc (.string ⟨#[]⟩),.vw false [.ag [.sc (.int .i64 1),.sc (.int .i64 2),.sc (.string ⟨#[]⟩),.vw true [],.sc (.int .i64 88)]],.vw true [],.vw true [],.sc (.int .i64 82)]],.sc (.int .i64 69)],.ag [.sc (.int .i64 1),.sc (.string ⟨#[]⟩),.vw false [.ag [.sc (.int .i64 8),.sc (.string ⟨#[108]⟩),.sc (.string ⟨#[]⟩),.vw false [.ag [.sc (.int .i64 1),.sc (.int .i64 3),.sc (.string ⟨#[]⟩),.vw true [],.sc (.int .i64 112)]],.vw true [],.vw true [],.sc (.int .i64 104)]],.sc (.int .i64 93)]],.sc (.int .i64 58)]]]]
def r18a:AV:=.tu [.ag [.vw true [],.vw true [],.vw true [],.vw true [],.vw true [],.sc (.int .i64 0),.sc (.int .i64 0)],.sc (.int .i64 104),.sc (.int .i64 8)]
def a18b:List AV:=[.ag [.vw false [.ag [.sc (.int .i64 1),.sc (.string ⟨#[115]⟩),.sc (.int .i64 5),.sc (.int .i64 0)],.ag [.sc (.int .i64 3),.sc (.string ⟨#[108]⟩),.sc (.int .i64 9),.sc (.int .i64 12)]],.vw false [.ag [.sc (.string ⟨#[97]⟩),.sc (.int .i64 2),.vw false [.ag [.sc (.int .i64 3),.sc (.string ⟨#[115]⟩),.vw false [.ag [.sc (.int .i64 4),.sc (.string ⟨#[]⟩),.sc (.string ⟨#[]⟩),.vw false [.ag [.sc (.int .i64 1),.sc (.int .i64 1),.sc (.string ⟨#[]⟩),.vw true [],.sc (.int .i64 52)]],.vw true [],.vw true [],.sc (.int .i64 46)],.ag [.sc (.int .i64 19),.sc (.string ⟨#[]⟩),.sc (.string ⟨#[]⟩),.vw true [],.vw true [],.vw true [],.sc (.int .i64 55)]],.sc (.int .i64 33)]],.sc (.int .i64 22)],.ag [.sc (.string ⟨#[98]⟩),.sc (.int .i64 1),.vw false [.ag [.sc (.int .i64 3),.sc (.string ⟨#[115]⟩),.vw false [.ag [.sc (.int .i64 4),.sc (.string ⟨#[]⟩),.sc (.string ⟨#[]⟩),.vw false [.ag [.sc (.int .i64 1),.sc (.int .i64 2),.sc (.string ⟨#[]⟩),.vw true [],.sc (.int .i64 98)]],.vw true [],.vw true [],.sc (.int .i64 92)]],.sc (.int .i64 79)],.ag [.sc (.int .i64 1),.sc (.string ⟨#[]⟩),.vw false [.ag [.sc (.int .i64 8),.sc (.string ⟨#[108]⟩),.sc (.string ⟨#[]⟩),.vw false [.ag [.sc (.int .i64 1),.sc (.int .i64 3),.sc (.string ⟨#[]⟩),.vw true [],.sc (.int .i64 122)]],.vw true [],.vw true [],.sc (.int .i64 114)]],.sc (.int .i64 103)]],.sc (.int .i64 68)]]]]
def r18b:AV:=.tu [.ag [.vw false [.ag [.sc (.int .i64 1),.sc (.int .i64 1)],.ag [.sc (.int .i64 15),.sc (.int .i64 0)],.ag [.sc (.int .i64 30),.sc (.int .i64 0)],.ag [.sc (.int .i64 31),.sc (.int .i64 0)],.ag [.sc (.int .i64 1),.sc (.int .i64 3)],.ag [.sc (.int .i64 19),.sc (.int .i64 9)],.ag [.sc (.int .i64 31),.sc (.int .i64 0)],.ag [.sc (.int .i64 1),.sc (.int .i64 2)],.ag [.sc (.int .i64 15),.sc (.int .i64 0)],.ag [.sc (.int .i64 31),.sc (.int .i64 0)]],.vw true [],.vw false [.ag [.sc (.int .i64 0),.sc (.int .i64 3),.sc (.int .i64 5),.sc (.int .i64 0)],.ag [.sc (.int .i64 1),.sc (.int .i64 1),.sc (.int .i64 0),.sc (.int .i64 4)],.ag [.sc (.int .i64 1),.sc (.int .i64 3),.sc (.int .i64 5),.sc (.int .i64 7)]],.vw false [.sc (.int .i64 2),.sc (.int .i64 1)],.vw true [],.sc (.int .i64 0),.sc (.int .i64 0)],.sc (.int .i64 0),.sc (.int .i64 0)]
def a31a:List AV:=[.sc (.string ⟨#[115,119,105,116,99,104,32,115,32,53,59,32,109,111,100,101,32,97,32,50,32,123,32,111,110,32,99,108,111,115,101,32,115,32,123,32,115,99,111,114,101,32,49,59,32,99,111,110,115,117,109,101,59,32,125,32,125,32,109,111,100,101,32,98,32,49,32,123,32,111,110,32,99,108,111,115,101,32,115,32,123,32,115,99,111,114,101,32,50,59,32,125,32,111,110,32,115,116,97,114,116,32,123,32,108,105,103,104,116,32,108,32,51,59,32,125,32,125,32]⟩)]
def r31a:AV:=.tu [.ag [.vw true [],.vw true [],.vw true [],.vw true [],.vw true [],.sc (.int .i64 0),.sc (.int .i64 0)],.sc (.int .i64 104),.sc (.int .i64 8)]
def a31b:List AV:=[.sc (.string ⟨#[115,119,105,116,99,104,32,115,32,53,59,32,108,97,109,112,32,108,32,57,59,32,109,111,100,101,32,97,32,50,32,123,32,111,110,32,99,108,111,115,101,32,115,32,123,32,115,99,111,114,101,32,49,59,32,99,111,110,115,117,109,101,59,32,125,32,125,32,109,111,100,101,32,98,32,49,32,123,32,111,110,32,99,108,111,115,101,32,115,32,123,32,115,99,111,114,101,32,50,59,32,125,32,111,110,32,115,116,97,114,116,32,123,32,108,105,103,104,116,32,108,32,51,59,32,125,32,125]⟩)]
def r31b:AV:=.tu [.ag [.vw false [.ag [.sc (.int .i64 1),.sc (.int .i64 1)],.ag [.sc (.int .i64 15),.sc (.int .i64 0)],.ag [.sc (.int .i64 30),.sc (.int .i64 0)],.ag [.sc (.int .i64 31),.sc (.int .i64 0)],.ag [.sc (.int .i64 1),.sc (.int .i64 3)],.ag [.sc (.int .i64 19),.sc (.int .i64 9)],.ag [.sc (.int .i64 31),.sc (.int .i64 0)],.ag [.sc (.int .i64 1),.sc (.int .i64 2)],.ag [.sc (.int .i64 15),.sc (.int .i64 0)],.ag [.sc (.int .i64 31),.sc (.int .i64 0)]],.vw true [],.vw false [.ag [.sc (.int .i64 0),.sc (.int .i64 3),.sc (.int .i64 5),.sc (.int .i64 0)],.ag [.sc (.int .i64 1),.sc (.int .i64 1),.sc (.int .i64 0),.sc (.int .i64 4)],.ag [.sc (.int .i64 1),.sc (.int .i64 3),.sc (.int .i64 5),.sc (.int .i64 7)]],.vw false [.sc (.int .i64 2),.sc (.int .i64 1)],.vw true [],.sc (.int .i64 0),.sc (.int .i64 0)],.sc (.int .i64 0),.sc (.int .i64 0)]
def a53a:List AV:=[.ag [.vw false [.ag [.sc (.int .i64 1),.sc (.int .i64 1)],.ag [.sc (.int .i64 15),.sc (.int .i64 0)],.ag [.sc (.int .i64 30),.sc (.int .i64 0)],.ag [.sc (.int .i64 31),.sc (.int .i64 0)],.ag [.sc (.int .i64 1),.sc (.int .i64 3)],.ag [.sc (.int .i64 19),.sc (.int .i64 9)],.ag [.sc (.int .i64 31),.sc (.int .i64 0)],.ag [.sc (.int .i64 1),.sc (.int .i64 2)],.ag [.sc (.int .i64 15),.sc (.int .i64 0)],.ag [.sc (.int .i64 31),.sc (.int .i64 0)]],.vw true [],.vw false [.ag [.sc (.int .i64 0),.sc (.int .i64 3),.sc (.int .i64 5),.sc (.int .i64 0)],.ag [.sc (.int .i64 1),.sc (.int .i64 1),.sc (.int .i64 0),.sc (.int .i64 4)],.ag [.sc (.int .i64 1),.sc (.int .i64 3),.sc (.int .i64 5),.sc (.int .i64 7)]],.vw false [.sc (.int .i64 2),.sc (.int .i64 1)],.vw true [],.sc (.int .i64 0),.sc (.int .i64 0)]]
def r53a:AV:=.sc (.int .i64 0)
end Go.Proofs.YtdjpkhjaibdogaaGreat
