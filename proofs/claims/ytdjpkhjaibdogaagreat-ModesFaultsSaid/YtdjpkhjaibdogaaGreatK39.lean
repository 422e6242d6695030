/-
  Lemmas towards ModesFaults (joined texts: EL, HE, MT, HT, QA, QB).
  Conditions: none.
-/
import Derived.Test.YtdjpkhjaibdogaaGreatK01
import Derived.Test.YtdjpkhjaibdogaaGreatK38
import Derived.Test.YtdjpkhjaibdogaaGreatK02
import Derived.Test.YtdjpkhjaibdogaaGreatK37
import Derived.Test.YtdjpkhjaibdogaaGreatK19
import Derived.Test.YtdjpkhjaibdogaaGreatK14
import Derived.Test.YtdjpkhjaibdogaaGreatK23
import Derived.Test.YtdjpkhjaibdogaaGreatK27
import Derived.Test.YtdjpkhjaibdogaaGreatK21
set_option linter.unusedSimpArgs false
set_option linter.unusedVariables false
set_option maxRecDepth 100000
set_option maxHeartbeats 80000000
namespace Go.Proofs.YtdjpkhjaibdogaaGreat
open Go Go.SX
theorem Atf:∀ x,x < 256→(He .u32 (DE .and .u32 ((x:Nat):Int) 3) 2 == 0)=true:=by decide
theorem Aat {α β:Type} (f:α→β) (p:β→Bool) (l:List α) (h:∀ x ∈ l,p (f x)=false):(l.map f).any p=false:=by
 rw [lx97]
 intro y hy
 obtain ⟨x,hx,rfl⟩:=lx35.1 hy
 rw [h x hx]; decide
theorem Od (l:List Nat) (act:Int):∀ n,∀ x ∈ K2 l act n,∃ k,k < n∧x=stX l k∧stQ l act k=true
 | 0,x,hx=>by simp [K2] at hx
 | n+1,x,hx=>by
  rw [K2] at hx
  split at hx
  ·rename_i h
   rcases lx76.1 hx with hx | hx
   ·obtain ⟨k,h1,h2⟩:=Od l act n x hx
    exact ⟨k,by omega,h2⟩
   ·simp only [lx70] at hx
    exact ⟨n,by omega,hx,h⟩
  ·obtain ⟨k,h1,h2⟩:=Od l act n x hx
   exact ⟨k,by omega,h2⟩
theorem Atg (l:List Nat) {i j:Nat} (h:i < j):Hz (stX l i) (stX l j) < 0:=by
 rw [Aa7]
 simp only [stX]
 omega
theorem Yg (l:List Nat) (act:Int):∀ n,(K2 l act n).Pairwise fun a b=>Hz a b < 0
 | 0=>.nil
 | n+1=>by
  rw [K2]
  split
  ·refine List.pairwise_append.2 ⟨Yg l act n,List.pairwise_singleton _ _,fun a ha b hb=>?_⟩
   simp only [lx70] at hb
   subst hb
   obtain ⟨k,h1,h2,_⟩:=Od l act n a ha
   rw [h2]; exact Atg l h1
  ·exact Yg l act n
theorem Yh (p:Bool × List Nat) (hp:u8Q p) (l:List Nat) (h8:∀ x ∈ l,x < 256):BU (AN p) (Co (AN p) l)=true:=by
 have hv:Be (AN p)=0:=Yf _ (Ajd p.1 p.2 (Ya hp) 1)
 have hpl:(AN p).pri.length=2:=rfl
 have hvl:(AN p).vars.length=3:=rfl
 have htm:(AN p).tim=2:=rfl
 have htn:Fm (AN p)=2:=rfl
 have hact:(He .u32 (Co (AN p) l).act (AN p).pri.length == 0)=true:=by
  have e:(Co (AN p) l).act=DE .and .u32 ((nx l 13 256:Nat):Int) 3:=by
   have h1:=Sb (l:=l) (i:=13) (n:=256) (by omega)
   have w:IntKind.u32.wrap ((nx l 13 256:Nat):Int)=((nx l 13 256:Nat):Int):=by
    exact Adr
   show DE .and .u32 (IntKind.u32.wrap ((nx l 13 256:Nat):Int)) (IntKind.u32.wrap (Ll .u32 1 ((min 2 16:Nat):Int) - 1))=_
   rw [w]; rfl
  rw [e,hpl]
  exact Atf _ (Sb (by omega))
 have henv:Hg (AN p) (DQ (Co (AN p) l) cx0)=true:=by
  have a1:(P7 l (AN p).vars.length).any (EY (-2147483647))=false:=Aat _ _ _ fun i _=>by
   have:=Sb (l:=l) (i:=i) (n:=10) (by omega)
   generalize nx l i 10=q at this
   exact Aur
  have a2:(Qe l (AN p).vars.length (Fm (AN p))).any (EY 0)=false:=Aat _ _ _ fun i _=>by
   have:=Sb (l:=l) (i:=(AN p).vars.length+i) (n:=5) (by omega)
   generalize nx l ((AN p).vars.length+i) 5=q at this
   have h10:q=0∨q=1∨q=2∨q=3∨q=4:=Ah
   rcases h10 with rfl | rfl | rfl | rfl | rfl <;> decide
  have b1:((P7 l (AN p).vars.length).length:Int) == (AN p).vars.length:=by simp [P7]
  have b2:(((Qe l (AN p).vars.length (Fm (AN p))).length:Int) == (AN p).tim)=true:=by simp [Qe,htn,htm]
  show ((Be (AN p) == 0) && (((P7 l (AN p).vars.length).length:Int) == (AN p).vars.length) && (((Qe l (AN p).vars.length (Fm (AN p))).length:Int) == (AN p).tim) && !(P7 l (AN p).vars.length).any (EY (-2147483647)) && !(Qe l (AN p).vars.length (Fm (AN p))).any (EY 0) && (He .u32 (Co (AN p) l).act (AN p).pri.length == 0) && !EY 0 0 && !EY 0 0)=true
  rw [hv,b1,b2,a1,a2,hact]
  decide
 have hL:(Co (AN p) l).lamps=K2 l (Co (AN p) l).act 6:=rfl
 have hlo:∀ i,i < (Co (AN p) l).lamps.length→H7 (AN p) (Co (AN p) l) i=false:=by
  intro i hi
  have hg:∀ k (h:k < (Co (AN p) l).lamps.length),(Co (AN p) l).lamps.getD k default=(Co (AN p) l).lamps[k]:=fun k h=>by rw [lx80,lx51 h]; rfl
  have hX:loX (AN p) (Co (AN p) l) ((Co (AN p) l).lamps.getD i default)=false:=by
   have hm:=CM hi
   obtain ⟨k,k1,k2,k3⟩:=Od l (Co (AN p) l).act 6 _ (by rw [←hL]; exact hm)
   rw [k2]
   simp only [stQ,AH] at k3
   have hx:(l.getD k default % 9) < 9:=Nat.mod_lt _ (by omega)
   have hlp:Kv (stX l k).se=true:=by
    have e:(stX l k).se=⟨((l.getD k default % 9:Nat):Int),0,0,0⟩:=rfl
    rw [e]
    generalize l.getD k default % 9=q at hx
    simp only [Kv,AR]
    refine ⟨by omega,by omega,⟨by omega,by omega⟩,by omega,by omega,by simp⟩
   have e1:(stX l k).mo=((k / 3:Nat):Int):=rfl
   have e2:(stX l k).la=((9 * (k % 3):Nat):Int):=rfl
   simp only [loX,hlp,hpl,e1,e2,J7,BJ,Hj,k3.1.1,Ay]
   have hk3:k % 3 < 3:=Nat.mod_lt _ (by omega)
   have hkd:k / 3 < 2:=Ah
   generalize k % 3=u at hk3
   generalize k / 3=v at hkd
   omega
  have hY:loY (Co (AN p) l) i=false:=by
   simp only [loY,Qu,BJ]
   by_cases h0:0 < i
   ·right
    have:=lx122.1 (Yg l (Co (AN p) l).act 6) (i - 1) i (by rw [←hL]; omega) (by rw [←hL]; omega) (by omega)
    rw [hg i hi,hg (i - 1) (by omega)]
    have e:Hz (Co (AN p) l).lamps[i - 1] (Co (AN p) l).lamps[i] < 0:=this
    omega
   ·left; omega
  rw [H7,hX,hY]; rfl
 rw [KP hlo,henv]
 rfl
end Go.Proofs.YtdjpkhjaibdogaaGreat
namespace Go.Proofs.YtdjpkhjaibdogaaGreat
open Go Go.SX
attribute [local congr] ite_congr
theorem Ajk {c:Cd} {s:Rs} {ed:List Ed} {po:List Ev} {x:Cx} {k:Int} (hf:Fit c) (hst:BU c s=true) (h0:s.fau=0) (hk:0≤k∧k≤2147483647):
  ∃ r e r',Kb c s ed po x=(r,e)∧Kb c { s with fau:=k } ed po x=(r',e)∧((e=0∧0≤r.s.fau∧r.s.fau≤2147483647∧r'=X3 k r)∨(e≠0∧r'=r)):=by
 have h1:=TB hf hst (x:=cx0) (by decide)
 have h2:RuI c cx0 ⟨{ s with fau:=k },[],[]⟩:=⟨h1.val,h1.fit,h1.cx,h1.vl,h1.va,h1.ll,h1.lf,h1.ac,hk,h1.lo,h1.so⟩
 have h3:=Acx h2
 simp only at h3
 have g1:¬ BU c s=false:=by rw [hst]; simp
 have g2:¬ BU c { s with fau:=k }=false:=by rw [h3]; simp
 rw [Kb,Kb,if_neg g1,if_neg g2]
 by_cases e1:KT x=false
 ·rw [if_pos e1,if_pos e1]
  exact Adv
 rw [if_neg e1,if_neg e1]
 by_cases e2:edB ed=true
 ·rw [if_pos e2,if_pos e2]
  exact Adv
 rw [if_neg e2,if_neg e2]
 by_cases e3:poB c po=true
 ·rw [if_pos e3,if_pos e3]
  exact Adv
 rw [if_neg e3,if_neg e3]
 have hq:=Atb (Aiv (TB hf hst (x:=x) (by simpa using e1))) (Aan (s:=s) (ed:=ed) (by simpa using e3)) (BX _)
 have hm:F8 c x (L5 s ed po) (X3 k ⟨Ig s,[],[]⟩)=X3 k (F8 c x (L5 s ed po) ⟨Ig s,[],[]⟩):=WS (Ais c x k hk.1) (fun _=>rfl) (fun _=>rfl) _ _
 have ha:(⟨Ig { s with fau:=k },[],[]⟩:Ru)=X3 k ⟨Ig s,[],[]⟩:=by
  have:min (s.fau+k) 2147483647=k:=Ah
  show (⟨Ig { s with fau:=k },[],[]⟩:Ru)=⟨{ Ig s with fau:=min (s.fau+k) 2147483647 },[],[]⟩
  rw [this]; rfl
 have ht:L5 { s with fau:=k } ed po=L5 s ed po:=rfl
 rw [ha,ht,hm]
 generalize F8 c x (L5 s ed po) ⟨Ig s,[],[]⟩=q at hq ⊢
 exact ⟨q,0,_,rfl,rfl,.inl ⟨rfl,hq.fa.1,hq.fa.2,rfl⟩⟩
theorem Ad6 (hs13:CO Tryz.prog 13 [] (.sc (.bool true))) (z:Bool) (l:List Nat) (hl8:∀ x ∈ l,x < 256) (zm:Bool) (m:List Nat) (hm8:∀ x ∈ m,x < 256) (n:Nat) (hn:n < 4294967296):
  CO Tryz.prog 6 [.vw z (l.map uA),.vw zm (m.map uA),.sc (.int .u32 (n:Int))] (.sc (.bool true)):=by
 obtain ⟨F13,k13,E13⟩:=Fi hs13
 have E14:=e14 z l hl8
 obtain ⟨c,hc⟩:∃ c,AN (z,l)=c:=⟨_,rfl⟩
 have hq:=(Ad4 (z,l) hl8).1
 have hst:=Yh (z,l) hl8 m hm8
 rw [hc] at E14 hq hst
 have E15:=e15 c hq zm m hm8
 have hz:(Co c m).fau=0:=rfl
 obtain ⟨s,hs⟩:∃ s,Co c m=s:=⟨_,rfl⟩
 rw [hs] at E15 hst hz
 have E16:=e16 zm m hm8
 obtain ⟨x,hx⟩:∃ x,Fl m=x:=⟨_,rfl⟩
 rw [hx] at E16
 clear hc hs hx
 obtain ⟨k,hk⟩:∃ k,n % 2147483647=k:=⟨_,rfl⟩
 have hk1:k < 2147483647:=by rw [←hk]; exact Nat.mod_lt _ (by decide)
 have w1:(n:Int).tmod 2147483647=(k:Int):=by rw [Int.tmod_eq_emod_of_nonneg (by omega)]; omega
 have w2:IntKind.u32.wrap (k:Int)=(k:Int):=by simp only [IntKind.wrap,IntKind.bits,IntKind.signed]; simp; omega
 have w3:IntKind.i64.wrap (k:Int)=(k:Int):=Bd (by omega) (by omega)
 have x1:=e25 c hq s false [⟨3,true⟩,⟨63,false⟩] false [⟨6,0,-1⟩] x (by simp) (by simp)
 have x2:=e25 c hq { s with fau:=k } false [⟨3,true⟩,⟨63,false⟩] false [⟨6,0,-1⟩] x (by simp) (by simp)
 obtain ⟨⟨⟨zv',vars',zl',left',act',zm',lamps',fau'⟩,ef',po'⟩,e,r',y1,y2,y3⟩:=Ajk (ed:=[⟨3,true⟩,⟨63,false⟩]) (po:=[⟨6,0,-1⟩]) (x:=x) (k:=(k:Int)) hq hst hz ⟨by omega,by omega⟩
 rw [y1] at x1
 rw [y2] at x2
 clear y1 y2
 have x3:=e27 false ef' false ef'
 have x4:=e39 ⟨false,vars',false,left',act',false,lamps',fau'⟩ ⟨false,vars',false,left',act',false,lamps',fau'⟩
 rw [X9] at x4
 simp only [decide_true] at x3
 simp only at y3
 rcases y3 with ⟨rfl,y3,y4,rfl⟩ | ⟨y3,rfl⟩
 ·have w4:IntKind.i64.wrap ((k:Int)+fau')=(k:Int)+fau':=Bd (by omega) (by omega)
  have w5:min (fau'+(k:Int)) 2147483647=min ((k:Int)+fau') 2147483647:=Ah
  simp only [Ac,AL,CJ,B4,Ha,AB,AU,lx32,lx47,L6,X3,w5] at E14 E15 E16 x1 x2 x3 x4
  refine Ab (Am (lit:=true) (pm:=fun _=>none) (.cons k13 (.cons Azf (.cons Azd .nil))) (.cons Bam (.cons Bak .nil)) (.cons Bal (.cons Ban .nil)) .nil) rfl Tryz.func6 rfl (by decide) (by kernel_rfl) (by kernel_rfl) ?_
  simp only [Tryz.f6,Af,lx53,lx63,Nat.reduceAdd,Nat.reduceSub,List.replicate]
  refine Aa ?_
  exact zG1 (HH w1 w3 w4 E13 E14 E15 E16 x1 x2 x3 x4)
  all_goals done
 ·have b1:(e == 0)=false:=by simpa using y3
  simp only [Ac,AL,CJ,B4,Ha,AB,AU,lx32,lx47,L6] at E14 E15 E16 x1 x2 x3 x4
  refine Ab (Am (lit:=true) (pm:=fun _=>none) (.cons k13 (.cons Azf (.cons Azd .nil))) (.cons Bam (.cons Bak .nil)) (.cons Bal (.cons Ban .nil)) .nil) rfl Tryz.func6 rfl (by decide) (by kernel_rfl) (by kernel_rfl) ?_
  simp only [Tryz.f6,Af,lx53,lx63,Nat.reduceAdd,Nat.reduceSub,List.replicate]
  refine Aa ?_
  exact zG1 (HH w1 w3 b1 E13 E14 E15 E16 x1 x2 x3 x4)
  all_goals done
end Go.Proofs.YtdjpkhjaibdogaaGreat
namespace Go.Proofs.YtdjpkhjaibdogaaGreat
open Go Go.SX
theorem Bao {n:Int} (h:(Lit.int .u8 n).wf=true):0≤n∧n < 256:=by
 have h1:IntKind.min .u8=0:=rfl
 have h2:IntKind.max .u8=255:=rfl
 simp only [Lit.wf,h1,h2,AH,AR] at h
 omega
theorem Bap {c:List AV} (h:HasC Tryz.prog 5 c):∃ n,c=[kA .u8 n]∧0≤n∧n < 256:=by
 obtain ⟨n,rfl,hn⟩:=h.inv_int un5
 exact ⟨n,rfl,Bao hn⟩
theorem Bfg {a:AV} (h:HasV Tryz.prog 5 a):∃ n,a=kA .u8 n∧0≤n∧n < 256:=by
 obtain ⟨c,hc,rfl⟩:=h
 obtain ⟨n,rfl,hn⟩:=Bap hc
 exact ⟨n,rfl,hn⟩
theorem Ad7 {α:Type} {q:α→Prop} {enc:α→List AV} {r:AV} (x:α) (hq:q x):EP q enc (fun _=>r) (enc x)=some r:=by
 unfold EP
 rw [dif_pos ⟨x,hq,rfl⟩]
theorem Baq {a:AV} (h:HasV Tryz.prog 22 a):∃ p:Bool × List Nat,a=.vw p.1 (p.2.map uA)∧u8Q p:=by
 obtain ⟨c,hc,rfl⟩:=h
 obtain ⟨z,es,rfl,hes⟩:=hc.inv_slice Tryz.underlying22
 obtain ⟨l,rfl⟩:=HasV.list (f:=fun x:Fin 256=>uA x.val) (fun a ha=>by
  obtain ⟨n,rfl,h1,h2⟩:=Bfg ha
  exact ⟨⟨n.toNat,by omega⟩,by simp only [uA,kA]; congr 2; omega⟩) hes
 refine ⟨(z,l.map (·.val)),by simp [List.map_map]; rfl,fun x hx=>?_⟩
 obtain ⟨y,_,rfl⟩:=lx35.1 hx
 exact y.isLt
theorem hc3 {c:List AV} (h:HasC Tryz.prog 3 c):∃ n,c=[kA .i64 n]:=by
 obtain ⟨n,rfl,_⟩:=h.inv_int un3
 exact ⟨n,rfl⟩
theorem Bfh {a:AV} (h:HasV Tryz.prog 38 a):∃ n:Nat,a=.sc (.int .u32 (n:Int))∧n < 4294967296:=by
 obtain ⟨c,hc,rfl⟩:=h
 obtain ⟨n,rfl,hn⟩:=hc.inv_int As4
 have h1:IntKind.min .u32=0:=rfl
 have h2:IntKind.max .u32=4294967295:=rfl
 simp only [Lit.wf,h1,h2,AH,AR] at hn
 have e:((n.toNat:Nat):Int)=n:=Ah
 exact ⟨n.toNat,by rw [e]; rfl,by omega⟩
def bt:List Nat→Nat→Bool:=fun l n=>l.any (Nat.beq n)
def qP:List Nat:=[111,112,155,171,173,209,210,130,147,99,119,155,112,184,131,132,172,174,85,45,46,127,124,255,115]
def qV:List Nat:=[93,51,31,18,114]
def qU:List Nat:=[13,18,20,22,24,29,31,40,45,46,47,48,49,51,53,56,57,58,59,63,64,65,71,74,77,78,79,85,86,87,88,89,90,91,92,93,94,95,98,104,108,109,110,111,112,113,114,115,116,117,120,121,122,123,124,125,126,127,128,130,131,132,133,134,135,136,137,139,142,143,144,145,146,152,154,155,156,157,158,159,160,161,162,163,164,165,166,167,168,169,170,171,172,173,174,176,178,179,180,181,182,184,185,188,190,191,192,193,194,195,196,197,201,203,204,205,208,209,210,211,212,213,214,215,216,219,220,226,227,228,231,233,234,235,236,238,239,251,252,255,257,258,260]
def Ath:TabE:=⟨bt qU,bt qP,fun f=>not (bt qP f || bt qV f),bt [134,165,176,215,162,235,257],fun _ _=>none,bt [54,152,31,18,51,93,94,139,182,216,239,252,258,260,240,49,92,48,128,129,161,160,120,163,164,166,211,251,168,213,122,162,196,146,98,256,20,22,24,29,71,104,56,74,59,113,158,208,157,204,227,231,203,234,206,233,110,154,201,114,115,64,66,111,186,188,189,191,195,207,226,237,236,86],bt qV,bt [85,53],bt [93,51,18,31],bt [54,152],fun _=>false⟩
def chkF (t:TabE) (f:Nat) (fn:Func):Bool:=match fn.body with
 | some c=>(!(fn.name == "runtime.NumGoroutine")) && C7 (fun g=>t.hcl g && !t.isP g) (t.perm f) c
 | none=>true
def Anf (t:TabE):List Func→Nat→Bool
 | [],_=>true
 | fn::r,f=>(!t.ok f || chkF t f fn) && Anf t r (f+1)
theorem Aau {t:TabE}:∀ {l:List Func} {f i:Nat} {fn:Func},Anf t l f=true→l[i]?=some fn→t.ok (f+i)=true→chkF t (f+i) fn=true
 | [],f,i,fn,h,h2,_=>by simp at h2
 | x::r,f,i,fn,h,h2,h3=>by
  simp only [Anf,AH] at h
  cases i with
  | zero=>simp at h2; subst h2; simpa [show t.ok f=true from h3] using h.1
  | succ i=>
   have e:f+(i+1)=f+1+i:=Ah
   rw [e] at h3 ⊢
   exact Aau (i:=i) h.2 (by simpa using h2) h3
theorem Ati {P:Program} {t:TabE} (h:Anf t P.funcs.toList 0=true):PH P t:=by
 intro f fn c ho hf hb
 have:=Aau (i:=f) h (by rw [Array.getElem?_toList]; exact hf) (by rw [BO]; exact ho)
 rw [BO] at this
 unfold chkF at this
 rw [hb] at this
 simpa using this
theorem Aav:PH Tryz.prog Ath:=Ati (by kernel_rfl)
def Yi:List (Nat × List AV × AV)→Nat→List AV→Option AV
 | [],_,_=>none
 | e::r,f,args=>match Nat.beq e.1 f && Py e.2.1 args with
  | true=>some e.2.2
  | false=>Yi r f args
theorem Oe {Q:Nat→List AV→AV→Prop}:∀ {l:List (Nat × List AV × AV)} {f:Nat} {args:List AV} {r:AV},(∀ e ∈ l,Q e.1 e.2.1 e.2.2)→Yi l f args=some r→Q f args r
 | [],f,args,r,_,h=>by simp [Yi] at h
 | e::l,f,args,r,hl,h=>by
  simp only [Yi] at h
  split at h
  ·rename_i hc
   simp only [AH] at hc
   have h1:=Nat.eq_of_beq_eq_true hc.1
   have h2:=JR _ _ hc.2
   cases h
   have:=hl e lx48
   rwa [h1,h2] at this
  ·exact Oe (fun x hx=>hl x (lx49 _ hx)) h
def emB (f:Nat) (v:Nat):Blk:=match Nat.beq f 54 with
 | true=>⟨true,v,3,1,[],false⟩
 | false=>⟨true,v,82,6,[],false⟩
def Atj (f:Nat) (args:List AV) (H:List Blk) (cnt:Nat):Option (AV × List Blk × Nat):=
 match bt [54,152] f with
 | false=>none
 | true=>match args with
  | [.vw _ []]=>some (.sl H.length (cnt+1) 0 0,H++[emB f (cnt+1)],cnt+2)
  | [.sl id ver _ 0]=>match AE H id ver with
   | some _=>some (.sl H.length (cnt+1) 0 0,H++[emB f (cnt+1)],cnt+2)
   | none=>none
  | _=>none
theorem Ang (f:Nat) (args:List AV) (H:List Blk) (cnt:Nat) (r:AV) (H':List Blk) (cnt':Nat) (h:Atj f args H cnt=some (r,H',cnt')):HSpec Tryz.prog f args H cnt r H' cnt':=by
 unfold Atj at h
 split at h
 ·cases h
 ·rename_i hb
  have hf:f=54∨f=152:=by
   simp only [bt,List.any_cons,List.any_nil,Oj,IX] at hb
   exact hb.imp Nat.eq_of_beq_eq_true Nat.eq_of_beq_eq_true
  split at h
  ·cases h
   rcases hf with rfl | rfl
   ·exact NZ (fun cap=>KQ cap H cnt) (fun a cap=>KR a cap H cnt)
   ·exact NZ (fun cap=>Jz cap H cnt) (fun a cap=>JA a cap H cnt)
  ·split at h
   ·rename_i B hB
    cases h
    have hs:(AE H _ _).isSome=true:=Option.isSome_iff_exists.2 ⟨B,hB⟩
    rcases hf with rfl | rfl
    ·exact V9 hs (fun cap=>KQ cap H cnt) (fun a cap=>KR a cap H cnt)
    ·exact V9 hs (fun cap=>Jz cap H cnt) (fun a cap=>JA a cap H cnt)
   ·cases h
  ·cases h
def Bar (lp lv lf:List (Nat × List AV × AV)):Giv:=⟨Yi lp,Yi lv,Atj,Yi lf⟩
theorem Aaw {lp lv lf:List (Nat × List AV × AV)} (hp:∀ e ∈ lp,CO Tryz.prog e.1 e.2.1 e.2.2) (hv:∀ e ∈ lv,Db Tryz.prog e.1 e.2.1 e.2.2) (hf:∀ e ∈ lf,IQ Tryz.prog e.1 e.2.1 e.2.2):GivOk Tryz.prog (Bar lp lv lf):=
 ⟨fun f args r h=>Oe hp h,fun f args r h=>Oe hv h,Ang,fun f args r h=>Oe hf h⟩
def mkG (lp lv:List (Nat × List AV × AV)):Giv:=Bar lp lv []
def okT:Option AV→Bool
 | some (.sc (.bool true))=>true
 | _=>false
theorem AZ {Q:Nat→List AV→AV→Prop}:∀ e ∈ ([]:List (Nat × List AV × AV)),Q e.1 e.2.1 e.2.2:=fun e h=>by simp at h
theorem Dm {Q:Nat→List AV→AV→Prop} {f:Nat} {args:List AV} {r:AV} {l:List (Nat × List AV × AV)} (h:Q f args r) (hl:∀ e ∈ l,Q e.1 e.2.1 e.2.2):∀ e ∈ (f,args,r)::l,Q e.1 e.2.1 e.2.2:=by
 intro e he
 rcases lx59.1 he with rfl | he
 ·exact h
 ·exact hl e he
theorem pQ {lp lv:List (Nat × List AV × AV)} (hp:∀ e ∈ lp,CO Tryz.prog e.1 e.2.1 e.2.2) (hv:∀ e ∈ lv,Db Tryz.prog e.1 e.2.1 e.2.2) {f:Nat} {args:List AV} {r:AV}
  (h:pK Tryz.prog Ath (mkG lp lv) 60 f args=some r):CO Tryz.prog f args r:=Abx rfl Aav (Aaw hp hv AZ) h
theorem vQ {lp lv:List (Nat × List AV × AV)} (hp:∀ e ∈ lp,CO Tryz.prog e.1 e.2.1 e.2.2) (hv:∀ e ∈ lv,Db Tryz.prog e.1 e.2.1 e.2.2) {f:Nat} {args:List AV} {r:AV}
  (h:vK Tryz.prog Ath (mkG lp lv) 60 f args=some r):Db Tryz.prog f args r:=Aby rfl Aav (Aaw hp hv AZ) h
def iW (n:Int):AV:=.sc (.int .i64 n)
def yW (l:List UInt8):AV:=.sc (.string ⟨⟨l⟩⟩)
def txa:AV:=yW [115,119,105,116,99,104,32,115,32,53,59,32,109,111,100,101,32,97,32,50,32,123,32,111,110,32,99,108,111,115,101,32,115,32,123,32,115,99,111,114,101,32,49,59,32,99,111,110,115,117,109,101,59,32,125,32,125,32,109,111,100,101,32,98,32,49,32,123,32,111,110,32,99,108,111,115,101,32,115,32,123,32,115,99,111,114,101,32,50,59,32,125,32,111,110,32,115,116,97,114,116,32,123,32,108,105,103,104,116,32,108,32,51,59,32,125,32,125,32]
def txb:AV:=yW [115,119,105,116,99,104,32,115,32,53,59,32,108,97,109,112,32,108,32,57,59,32,109,111,100,101,32,97,32,50,32,123,32,111,110,32,99,108,111,115,101,32,115,32,123,32,115,99,111,114,101,32,49,59,32,99,111,110,115,117,109,101,59,32,125,32,125,32,109,111,100,101,32,98,32,49,32,123,32,111,110,32,99,108,111,115,101,32,115,32,123,32,115,99,111,114,101,32,50,59,32,125,32,111,110,32,115,116,97,114,116,32,123,32,108,105,103,104,116,32,108,32,51,59,32,125,32,125]
def rua:AV:=.ag [.vw false [.ag [iW 1,yW [115],iW 5,iW 0]],.vw false [.ag [yW [97],iW 2,.vw false [.ag [iW 3,yW [115],.vw false [.ag [iW 4,yW [],yW [],.vw false [.ag [iW 1,iW 1,yW [],.vw true [],iW 42]],.vw true [],.vw true [],iW 36],.ag [iW 19,yW [],yW [],.vw true [],.vw true [],.vw true [],iW 45]],iW 23]],iW 12],.ag [yW [98],iW 1,.vw false [.ag [iW 3,yW [115],.vw false [.ag [iW 4,yW [],yW [],.vw false [.ag [iW 1,iW 2,yW [],.vw true [],iW 88]],.vw true [],.vw true [],iW 82]],iW 69],.ag [iW 1,yW [],.vw false [.ag [iW 8,yW [108],yW [],.vw false [.ag [iW 1,iW 3,yW [],.vw true [],iW 112]],.vw true [],.vw true [],iW 104]],iW 93]],iW 58]]]
def rub:AV:=.ag [.vw false [.ag [iW 1,yW [115],iW 5,iW 0],.ag [iW 3,yW [108],iW 9,iW 12]],.vw false [.ag [yW [97],iW 2,.vw false [.ag [iW 3,yW [115],.vw false [.ag [iW 4,yW [],yW [],.vw false [.ag [iW 1,iW 1,yW [],.vw true [],iW 52]],.vw true [],.vw true [],iW 46],.ag [iW 19,yW [],yW [],.vw true [],.vw true [],.vw true [],iW 55]],iW 33]],iW 22],.ag [yW [98],iW 1,.vw false [.ag [iW 3,yW [115],.vw false [.ag [iW 4,yW [],yW [],.vw false [.ag [iW 1,iW 2,yW [],.vw true [],iW 98]],.vw true [],.vw true [],iW 92]],iW 79],.ag [iW 1,yW [],.vw false [.ag [iW 8,yW [108],yW [],.vw false [.ag [iW 1,iW 3,yW [],.vw true [],iW 122]],.vw true [],.vw true [],iW 114]],iW 103]],iW 68]]]
def cob:AV:=.ag [.vw false [.ag [iW 1,iW 1],.ag [iW 15,iW 0],.ag [iW 30,iW 0],.ag [iW 31,iW 0],.ag [iW 1,iW 3],.ag [iW 19,iW 9],.ag [iW 31,iW 0],.ag [iW 1,iW 2],.ag [iW 15,iW 0],.ag [iW 31,iW 0]],.vw true [],.vw false [.ag [iW 0,iW 3,iW 5,iW 0],.ag [iW 1,iW 1,iW 0,iW 4],.ag [iW 1,iW 3,iW 5,iW 7]],.vw false [iW 2,iW 1],.vw true [],iW 0,iW 0]
def Bas:List AV:=[txa]
def Bat:AV:=.tu [.vw false [.ag [iW 2,yW [115,119,105,116,99,104],iW 0,iW 0],.ag [iW 1,yW [115],iW 0,iW 7],.ag [iW 3,yW [],iW 5,iW 9],.ag [iW 5,yW [59],iW 0,iW 10],.ag [iW 2,yW [109,111,100,101],iW 0,iW 12],.ag [iW 1,yW [97],iW 0,iW 17],.ag [iW 3,yW [],iW 2,iW 19],.ag [iW 5,yW [123],iW 0,iW 21],.ag [iW 2,yW [111,110],iW 0,iW 23],.ag [iW 2,yW [99,108,111,115,101],iW 0,iW 26],.ag [iW 1,yW [115],iW 0,iW 32],.ag [iW 5,yW [123],iW 0,iW 34],.ag [iW 2,yW [115,99,111,114,101],iW 0,iW 36],.ag [iW 3,yW [],iW 1,iW 42],.ag [iW 5,yW [59],iW 0,iW 43],.ag [iW 2,yW [99,111,110,115,117,109,101],iW 0,iW 45],.ag [iW 5,yW [59],iW 0,iW 52],.ag [iW 5,yW [125],iW 0,iW 54],.ag [iW 5,yW [125],iW 0,iW 56],.ag [iW 2,yW [109,111,100,101],iW 0,iW 58],.ag [iW 1,yW [98],iW 0,iW 63],.ag [iW 3,yW [],iW 1,iW 65],.ag [iW 5,yW [123],iW 0,iW 67],.ag [iW 2,yW [111,110],iW 0,iW 69],.ag [iW 2,yW [99,108,111,115,101],iW 0,iW 72],.ag [iW 1,yW [115],iW 0,iW 78],.ag [iW 5,yW [123],iW 0,iW 80],.ag [iW 2,yW [115,99,111,114,101],iW 0,iW 82],.ag [iW 3,yW [],iW 2,iW 88],.ag [iW 5,yW [59],iW 0,iW 89],.ag [iW 5,yW [125],iW 0,iW 91],.ag [iW 2,yW [111,110],iW 0,iW 93],.ag [iW 2,yW [115,116,97,114,116],iW 0,iW 96],.ag [iW 5,yW [123],iW 0,iW 102],.ag [iW 2,yW [108,105,103,104,116],iW 0,iW 104],.ag [iW 1,yW [108],iW 0,iW 110],.ag [iW 3,yW [],iW 3,iW 112],.ag [iW 5,yW [59],iW 0,iW 113],.ag [iW 5,yW [125],iW 0,iW 115],.ag [iW 5,yW [125],iW 0,iW 117]],iW 0,iW 0]
def Bau:List AV:=[txb]
def Bav:AV:=.tu [.vw false [.ag [iW 2,yW [115,119,105,116,99,104],iW 0,iW 0],.ag [iW 1,yW [115],iW 0,iW 7],.ag [iW 3,yW [],iW 5,iW 9],.ag [iW 5,yW [59],iW 0,iW 10],.ag [iW 2,yW [108,97,109,112],iW 0,iW 12],.ag [iW 1,yW [108],iW 0,iW 17],.ag [iW 3,yW [],iW 9,iW 19],.ag [iW 5,yW [59],iW 0,iW 20],.ag [iW 2,yW [109,111,100,101],iW 0,iW 22],.ag [iW 1,yW [97],iW 0,iW 27],.ag [iW 3,yW [],iW 2,iW 29],.ag [iW 5,yW [123],iW 0,iW 31],.ag [iW 2,yW [111,110],iW 0,iW 33],.ag [iW 2,yW [99,108,111,115,101],iW 0,iW 36],.ag [iW 1,yW [115],iW 0,iW 42],.ag [iW 5,yW [123],iW 0,iW 44],.ag [iW 2,yW [115,99,111,114,101],iW 0,iW 46],.ag [iW 3,yW [],iW 1,iW 52],.ag [iW 5,yW [59],iW 0,iW 53],.ag [iW 2,yW [99,111,110,115,117,109,101],iW 0,iW 55],.ag [iW 5,yW [59],iW 0,iW 62],.ag [iW 5,yW [125],iW 0,iW 64],.ag [iW 5,yW [125],iW 0,iW 66],.ag [iW 2,yW [109,111,100,101],iW 0,iW 68],.ag [iW 1,yW [98],iW 0,iW 73],.ag [iW 3,yW [],iW 1,iW 75],.ag [iW 5,yW [123],iW 0,iW 77],.ag [iW 2,yW [111,110],iW 0,iW 79],.ag [iW 2,yW [99,108,111,115,101],iW 0,iW 82],.ag [iW 1,yW [115],iW 0,iW 88],.ag [iW 5,yW [123],iW 0,iW 90],.ag [iW 2,yW [115,99,111,114,101],iW 0,iW 92],.ag [iW 3,yW [],iW 2,iW 98],.ag [iW 5,yW [59],iW 0,iW 99],.ag [iW 5,yW [125],iW 0,iW 101],.ag [iW 2,yW [111,110],iW 0,iW 103],.ag [iW 2,yW [115,116,97,114,116],iW 0,iW 106],.ag [iW 5,yW [123],iW 0,iW 112],.ag [iW 2,yW [108,105,103,104,116],iW 0,iW 114],.ag [iW 1,yW [108],iW 0,iW 120],.ag [iW 3,yW [],iW 3,iW 122],.ag [iW 5,yW [59],iW 0,iW 123],.ag [iW 5,yW [125],iW 0,iW 125],.ag [iW 5,yW [125],iW 0,iW 127]],iW 0,iW 0]
def Baw:List AV:=[txa]
def Bax:AV:=.tu [rua,iW 0,iW 0]
def Bay:List AV:=[txb]
def Baz:AV:=.tu [rub,iW 0,iW 0]
def Bb0:List AV:=[rua]
def Bb1:AV:=.sc (.bool true)
def Bb2:List AV:=[rub]
def Bb3:AV:=.sc (.bool true)
def Bb4:List AV:=[rua]
def Bb5:AV:=.tu [.ag [.vw true [],.vw true [],.vw true [],.vw true [],.vw true [],iW 0,iW 0],iW 104,iW 8]
def Bb6:List AV:=[rub]
def Bb7:AV:=.tu [cob,iW 0,iW 0]
def Bb8:List AV:=[txa]
def Bb9:AV:=.tu [.ag [.vw true [],.vw true [],.vw true [],.vw true [],.vw true [],iW 0,iW 0],iW 104,iW 8]
def Bba:List AV:=[txb]
def Bbb:AV:=.tu [cob,iW 0,iW 0]
def Bbc:List AV:=[cob]
def Bbd:AV:=iW 0
end Go.Proofs.YtdjpkhjaibdogaaGreat
