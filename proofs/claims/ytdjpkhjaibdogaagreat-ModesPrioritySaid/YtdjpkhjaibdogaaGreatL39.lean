/-
  Lemmas towards ModesPriority (joined texts: YA, YB, YC, YD, PM, PN, PO, PP, PQ).
  Conditions: none.
-/
import Derived.Test.YtdjpkhjaibdogaaGreatL01
import Derived.Test.YtdjpkhjaibdogaaGreatL02
import Derived.Test.YtdjpkhjaibdogaaGreatL38
import Derived.Test.YtdjpkhjaibdogaaGreatL24
import Derived.Test.YtdjpkhjaibdogaaGreatL22
import Derived.Test.YtdjpkhjaibdogaaGreatL30
set_option linter.unusedSimpArgs false
set_option linter.unusedVariables false
set_option maxRecDepth 100000
set_option maxHeartbeats 80000000
namespace Go.Proofs.YtdjpkhjaibdogaaGreat
open Go Go.SX
attribute [local congr] ite_congr
theorem Bpm (n lo hi:Int) (h:lo≤n∧n≤hi):Ap Tryz.prog 184 [.sc (.int .i64 n),.sc (.int .i64 lo),.sc (.int .i64 hi)] (.sc (.bool true)):=by
 have h1:decide (lo≤n)=true:=by rw [Bw]; exact h.1
 have h2:decide (n≤hi)=true:=by rw [Bw]; exact h.2
 refine Ab (AF (.nil) (.nil)) rfl Tryz.func184 rfl (by decide) (by kernel_rfl) (by kernel_rfl) ?_
 simp only [Tryz.f184,Ae,lx52,lx63,Nat.reduceAdd,Nat.reduceSub,List.replicate]
 refine Ac ?_
 simp (maxSteps:=10000000) +contextual -implicitDefEqProofs only [AX,AT,Ao,St.put,↓reduceIte,h1,h2]
 all_goals done
theorem Bpn (n:Int) (h:8≤n):Ap Tryz.prog 205 [.sc (.int .i64 n),.sc (.int .i64 0),.sc (.int .i64 8)] (.sc (.int .i64 8)):=by
 have h1:max n 0=n:=An
 have h2:min n 8=8:=An
 refine Be2 ?_
 simp (maxSteps:=10000000) +contextual -implicitDefEqProofs only [AX,AT,St.put,B9,h1,h2]
 all_goals done
theorem Bit (n:Int) (h:0≤n∧n≤2147483647) (H:List Blk) (cnt:Nat):HSpec Tryz.prog 164 [.sc (.int .i64 n)] H cnt (.sl H.length cnt 0 1) (H++[⟨true,cnt,202,4,[.ag [.sc (.int .i64 3),.sc (.string ⟨#[]⟩),.sc (.int .i64 n),.sc (.int .i64 0)]],true⟩]) (cnt+1):=by
 have h1:decide (n < 0)=false:=L4
 have h2:decide (2147483647 < n)=false:=L4
 refine Ad (Af (lit:=false) (pm:=fun _=>none) .nil .nil .nil .nil) rfl Tryz.func164 rfl (by decide) (by kernel_rfl) ?_
 simp only [Tryz.f164,Ae,lx52,lx63,Nat.reduceAdd,Nat.reduceSub,List.replicate]
 refine Ac ?_
 exact zY1 (a3 h1 h2 @Se)
 repeat' (first | exact Aa (by kernel_rfl) | refine ⟨Aa (by kernel_rfl),?_⟩ | refine And.intro ?_ ?_ | fail)
 all_goals first | exact .refl _ | exact Ci _ _ _ | exact Hd _ _ | skip
 all_goals done
theorem ZZ (P:Program) (t:Nat) (x y:Operand) (a b:ByteArray) (h:a.size+b.size≤1000000):Da P .add t x y (.sc (.string a)) (.sc (.string b))=some (.sc (.string (a++b))):=by
 simp [Da,Bp,eqGuard,binOp,Bh,Ah,Al,Op.stringOp]
 rw [if_neg (by omega)]
 rfl
theorem G2 (E:Env):(Ani E).lit=true:=rfl
theorem Ag7 {P:Program} {E:Env} {n0:Nat} {rs:List ResultVar} {R:AV→St→Prop} {k:List Item} {id:Nat} {ops:Array Oper} {y:Code} {s:St} (s1:St) (h1:Vc P E n0 [] (fun _ s'=>s'=s1) [.code (.region id ops false)] s)
  (h2:Go P E n0 rs R (.code y::k) s1):Go P E n0 rs R (.code (.seq (.region id ops false) y)::k) s:=by
 cases h1 with
 | region hr h=>
  cases h with
  | fin _ hR=>subst hR; exact .seq (.region hr h2)
theorem Aod {x:Int} (h:-9223372036854775808≤x) (h':x < 9223372036854775808):IntKind.i64.wrap x=x:=by
 rw [IntKind.wrap_i64]; omega
theorem Hm {P:Program} {f:Nat} {args:List AV} {r:AV} (h:Ap P f args r):∃ F,DC P f F∧F args=some r:=by
 refine ⟨fun a=>open Classical in if a=args then some r else none,?_,by simp⟩
 intro a v hv
 simp only at hv
 split at hv
 ·rename_i e; subst e; cases hv; exact h
 ·cases hv
theorem Biu (n:Nat) (h:n < 1000) (r:ByteArray) (hs:r.size≤1000) (hr:10≤n→Ap Tryz.prog 32 [.sc (.int .i64 ((n / 10:Nat):Int))] (.sc (.string r))):
  Ap Tryz.prog 32 [.sc (.int .i64 (n:Int))] (.sc (.string (if n < 10 then Ke [((48+n % 10:Nat):Int)] else r++Ke [((48+n % 10:Nat):Int)]))):=by
 have h0:decide ((n:Int) < 0)=false:=L4
 have hm:((n:Int)).tmod 10=((n % 10:Nat):Int):=Ajy
 have hd:((n:Int)).tdiv 10=((n / 10:Nat):Int):=by rw [Int.tdiv_eq_ediv_of_nonneg (by omega)]; omega
 have w1:IntKind.i64.wrap ((n % 10:Nat):Int)=((n % 10:Nat):Int):=Aod (by omega) (by omega)
 have w2:IntKind.i64.wrap (48+((n % 10:Nat):Int))=((48+n % 10:Nat):Int):=by rw [Aod (by omega) (by omega)]; omega
 have w3:IntKind.u8.wrap ((48+n % 10:Nat):Int)=((48+n % 10:Nat):Int):=I5 (by omega)
 have w4:IntKind.i64.wrap ((n / 10:Nat):Int)=((n / 10:Nat):Int):=Aod (by omega) (by omega)
 obtain ⟨F,kF,eF⟩:∃ F,DC Tryz.prog 32 F∧(10≤n→F [.sc (.int .i64 ((n / 10:Nat):Int))]=some (.sc (.string r))):=by
  by_cases h10:10≤n
  ·obtain ⟨F,k,e⟩:=Hm (hr h10); exact ⟨F,k,fun _=>e⟩
  ·refine ⟨fun _=>none,?_,fun h=>absurd h h10⟩; intro a v hv; cases hv
 refine Ab (Kt (.cons kF .nil)) rfl Tryz.func32 rfl (by decide) (by kernel_rfl) (by kernel_rfl) ?_
 simp only [Tryz.f32,Ae,lx52,lx63,Nat.reduceAdd,Nat.reduceSub,List.replicate]
 refine Ag7 ?s1 ?h1 ?h2
 case h1=>
  simp (maxSteps:=10000000) +contextual -implicitDefEqProofs only [AX,AT,St.put]
  rfl
 refine .seq ?_
 refine Ag7 ?s2 ?h3 ?h4
 case h3=>
  simp (maxSteps:=10000000) +contextual -implicitDefEqProofs only [AT,St.put,h0]
  rfl
 refine Be5 ?_
 refine .seq ?_
 refine As6 ?s3 ?h5 ?h6
 case h5=>
  refine .cons ?a0 (.inl ?b0) ?_
  case b0=>
   unfold Ej
   simp (maxSteps:=10000000) +contextual -implicitDefEqProofs only [AT,St.put,Bm,G2]
   try rfl
  refine .cons ?a1 (.inl ?b1) ?_
  case b1=>
   unfold Ej
   refine gY1 (a3 hm @Bn @G2) ?_
   try rfl
  refine .cons ?a2 (.inl ?b2) ?_
  case b2=>
   unfold Ej
   simp (maxSteps:=10000000) +contextual -implicitDefEqProofs only [AT,St.put,Bn,G2,w2]
   try rfl
  refine .cons ?a3 (.inl ?b3) ?_
  case b3=>
   unfold Ej
   simp (maxSteps:=10000000) +contextual -implicitDefEqProofs only [AT,St.put,CS,GF,G2,w3]
   try rfl
  refine .cons ?a4 (.inl ?b4) ?_
  case b4=>
   unfold Ej
   refine gY1 @G2 ?_
   try rfl
  refine .cons ?a5 (.inr ⟨22,9,.tmp 33,5,false,[((48+n % 10:Nat):Int)],rfl,rfl,by kernel_rfl,by kernel_rfl,by kernel_rfl,by simp,?b5,?c5⟩) ?_
  case b5=>
   simp (maxSteps:=10000000) +contextual -implicitDefEqProofs only [AX,AT]
  case c5=>
   simp (maxSteps:=10000000) +contextual -implicitDefEqProofs only [AT,St.put]
   try rfl
  refine .cons ?a6 (.inl ?b6) ?c6
  case b6=>
   unfold Ej
   simp (maxSteps:=10000000) +contextual -implicitDefEqProofs only [AT,St.put,Bg,G2]
   try rfl
  case c6=>exact .nil _
 refine Ac ?_
 by_cases h10:n < 10
 ·have h1:decide ((n:Int) < 10)=true:=by rw [Bw]; omega
  rw [if_pos h10]
  simp (maxSteps:=10000000) +contextual -implicitDefEqProofs only [AX,AT,St.put,↓reduceIte,h1]
 ·have h1:decide ((n:Int) < 10)=false:=by rw [Cy]; omega
  rw [if_neg h10]
  have e:=eF (by omega)
  have hc:=ZZ Tryz.prog 9 (.tmp 40) (.tmp 41) r (Ke [((48+n % 10:Nat):Int)]) (by rw [show (Ke [((48+n % 10:Nat):Int)]).size=1 from rfl]; omega)
  simp (maxSteps:=10000000) +contextual -implicitDefEqProofs only [AX,AT,St.put,Am,Aj,Ds,pl,↓reduceIte,Int.reduceEq,ne_eq,h1,hd,w4,e,hc]
def LM:Nat→Nat→ByteArray
 | 0,n=>Ke [((48+n % 10:Nat):Int)]
 | f+1,n=>if n < 10 then Ke [((48+n % 10:Nat):Int)] else LM f (n / 10)++Ke [((48+n % 10:Nat):Int)]
theorem Nm:∀ f n,(LM f n).size≤f+1
 | 0,n=>Av 1
 | f+1,n=>by
  have:=Nm f (n / 10)
  rw [LM]
  split
  ·exact Nat.le_add_left 1 _
  ·rw [ByteArray.size_append,show (Ke [((48+n % 10:Nat):Int)]).size=1 from rfl]; omega
theorem p32:∀ (f n:Nat),n < 10 ^ (f+1)→f≤2→Ap Tryz.prog 32 [.sc (.int .i64 (n:Int))] (.sc (.string (LM f n)))
 | 0,n,h,hf=>by
  have:=Biu n (by omega) .empty (by decide) (fun h=>by omega)
  rw [if_pos (by omega)] at this
  exact this
 | f+1,n,h,hf=>by
  have h3:n < 1000:=by
   have:10 ^ (f+1+1)≤10 ^ 3:=Nat.pow_le_pow_right (by decide) (by omega)
   omega
  have:=Biu n h3 (LM f (n / 10)) (by have:=Nm f (n / 10); omega) (fun _=>p32 f (n / 10) (by rw [Nat.pow_succ] at h; omega) (by omega))
  rw [LM]
  split
  ·rename_i hl; rw [if_pos hl] at this; exact this
  ·rename_i hl; rw [if_neg hl] at this; exact this
theorem Bpo {P:Program} {f:Nat} {args:List AV} {r:AV} (h:∀ H cnt,HSpec P f args H cnt r H cnt):∃ F,Jo P f F∧∀ H cnt,F args H cnt=some (r,H,cnt):=by
 refine ⟨fun a H cnt=>open Classical in if a=args then some (r,H,cnt) else none,?_,by simp⟩
 intro a H cnt r' H' cnt' hv
 simp only at hv
 split at hv
 ·rename_i e; subst e; cases hv; exact h _ _
 ·cases hv
theorem Bpp (H:List Blk) (cnt:Nat):HSpec Tryz.prog 212 [.vw true [],.vw true [],.sc (.bool false)] H cnt (.sc (.bool true)) H cnt:=by
 refine Ad (Af (lit:=false) (pm:=fun _=>none) .nil .nil .nil .nil) rfl Tryz.func212 rfl (by decide) (by kernel_rfl) ?_
 simp only [Tryz.f212,Ae,lx52,lx63,Nat.reduceAdd,Nat.reduceSub,List.replicate]
 refine Ac ?_
 simp (maxSteps:=10000000) +contextual -implicitDefEqProofs only [AX,AT,St.put,↓reduceIte,CS,B9]
 refine .loop ?_
 refine Ac ?_
 exact zY0
 repeat' (first | exact Aa (by kernel_rfl) | refine ⟨Aa (by kernel_rfl),?_⟩ | refine And.intro ?_ ?_ | fail)
 all_goals first | exact .refl _ | exact Ci _ _ _ | exact Hd _ _ | skip
 all_goals done
theorem Bpq (v:Int):Ap Tryz.prog 238 [.ag [.sc (.int .i64 1),.sc (.int .i64 v),.sc (.string ⟨#[]⟩),.vw true [],.sc (.int .i64 0)],.ag [.sc (.int .i64 1),.sc (.int .i64 v),.sc (.string ⟨#[]⟩),.vw true [],.sc (.int .i64 0)],.sc (.bool false)] (.sc (.bool true)):=by
 obtain ⟨F,kF,eF⟩:=Bpo Bpp
 have e:∀ x y,Da Tryz.prog .eql 9 x y (.sc (.string ⟨#[]⟩)) (.sc (.string ⟨#[]⟩))=some (.sc (.bool true)):=fun x y=>by kernel_rfl
 refine Ab (Af (lit:=false) (pm:=fun _=>none) .nil .nil .nil (.cons kF .nil)) rfl Tryz.func238 rfl (by decide) (by kernel_rfl) (by kernel_rfl) ?_
 simp only [Tryz.f238,Ae,lx52,lx63,Nat.reduceAdd,Nat.reduceSub,List.replicate]
 refine Ac ?_
 exact zY1 (a2 eF e)
 repeat' (first | exact Aa (by kernel_rfl) | refine ⟨Aa (by kernel_rfl),?_⟩ | refine And.intro ?_ ?_ | fail)
 all_goals done
end Go.Proofs.YtdjpkhjaibdogaaGreat
namespace Go.Proofs.YtdjpkhjaibdogaaGreat
open Go Go.SX
def qYP:List Nat:=[45,46,53,85,99,111,112,115,119,121,124,127,130,131,132,147,155,171,172,173,174,184,205,209,210,238,255]
def qYV:List Nat:=[18,20,22,24,29,31,51,93,114,120]
def qYU:List Nat:=[13,18,20,22,24,26,29,31,40,45,46,47,48,49,51,53,56,57,58,59,63,64,65,66,67,70,71,74,77,78,79,85,86,87,88,89,90,91,92,93,94,95,98,104,108,109,110,111,112,113,114,115,116,117,120,121,122,123,124,125,126,127,128,130,131,132,133,134,135,136,137,139,142,143,144,145,146,152,154,155,156,157,158,159,160,161,162,163,164,165,166,167,168,169,170,171,172,173,174,176,178,179,180,181,182,184,185,188,190,191,192,193,194,195,196,197,201,203,204,205,206,207,208,209,210,211,212,213,214,215,216,219,220,226,227,228,231,232,233,234,235,236,238,239,251,252,255,257,258,260]
def Cw:TabE:=⟨bt qYU,bt qYP,fun f=>not (bt qYP f || bt qYV f),bt [5,11,134,162,165,176,215,235,257],fun _ _=>none,bt [18,20,22,24,29,31,36,48,49,51,54,56,59,64,66,71,74,86,92,93,94,98,104,110,111,113,114,115,120,122,128,129,139,146,152,154,157,158,160,161,162,163,164,166,168,182,186,188,189,191,195,196,201,203,204,206,207,208,211,213,216,226,227,231,233,234,236,237,239,240,251,252,256,258,260],bt qYV,fun _=>false,fun _=>false,bt [54,152],fun _=>false⟩
theorem Ag8:Hi Tryz.prog Cw:=Abo (by kernel_rfl)
def gY:Giv:=Bab [] [] []
theorem Axc:GivOk Tryz.prog gY:=EY Ak Ak Ak
structure Ent where
 f:Nat
 t:List AV→Bool
 a:List AV
 r:AV
noncomputable def Z0 (l:List Ent) (f:Nat) (args:List AV):Option (Ob1 × AV):=
 List.rec (motive:=fun _=>Option (Ob1 × AV)) none (fun e _ ih=>bB (Nat.beq e.f f && e.t args) ih (some (.eq (.tu args) (.tu e.a),e.r))) l
theorem Sy {Q:Nat→List AV→AV→Prop}:∀ {l:List Ent} {f:Nat} {args:List AV} {p:Ob1} {r:AV},(∀ e ∈ l,Q e.f e.a e.r)→Z0 l f args=some (p,r)→p.ok→Q f args r
 | [],f,args,p,r,_,h,_=>by cases h
 | e::l,f,args,p,r,hQ,h,hp=>by
  have h:bB (Nat.beq e.f f && e.t args) (Z0 l f args) (some (.eq (.tu args) (.tu e.a),e.r))=some (p,r):=h
  rcases M4 h with ⟨_,h⟩ | ⟨hb,h⟩
  ·exact Sy (fun x hx=>hQ x (lx48 _ hx)) h hp
  ·simp only [lx16,lx40] at h
   obtain ⟨h1,rfl⟩:=h
   rw [←h1] at hp
   have hp:AV.tu args=AV.tu e.a:=hp
   simp only [AH] at hb
   obtain rfl:=JE hb.1
   rw [AV.tu.inj hp]
   exact hQ e lx47
def eY (v:Int):AV:=.ag [.sc (.int .i64 1),.sc (.int .i64 v),.sc (.string ⟨#[]⟩),.vw true [],.sc (.int .i64 0)]
def Axd (args:List AV):Option (Ob1 × AV):=
 match args with
 | [.sc (.int .i64 n),.sc (.int .i64 lo),.sc (.int .i64 hi)]=>some (.pr (lo≤n∧n≤hi),.sc (.bool true))
 | _=>none
def Axe (args:List AV):Option (Ob1 × AV):=
 match args with
 | [.sc (.int .i64 n),.sc (.int .i64 lo),.sc (.int .i64 hi)]=>some (.pr (8≤n∧lo=0∧hi=8),.sc (.int .i64 8))
 | _=>none
def Axf (args:List AV):Option (Ob1 × AV):=
 match args with
 | [.ag [_,.sc (.int .i64 v),_,_,_],_,_]=>some (.eq (.tu args) (.tu [eY v,eY v,.sc (.bool false)]),.sc (.bool true))
 | _=>none
noncomputable def spN (f:Nat) (args:List AV):Option (Ob1 × AV):=bB (Nat.beq f 184) (bB (Nat.beq f 205) (bB (Nat.beq f 238) none (Axf args)) (Axe args)) (Axd args)
theorem Bav {f:Nat} {args:List AV} {p:Ob1} {r:AV} (h:spN f args=some (p,r)) (hp:p.ok):Ap Tryz.prog f args r:=by
 unfold spN at h
 rcases M4 h with ⟨_,h⟩ | ⟨hf,h⟩
 ·rcases M4 h with ⟨_,h⟩ | ⟨hf,h⟩
  ·rcases M4 h with ⟨_,h⟩ | ⟨hf,h⟩
   ·cases h
   ·obtain rfl:=JE hf
    unfold Axf at h
    split at h
    ·cases h
     rw [AV.tu.inj hp]
     exact Bpq _
    ·cases h
  ·obtain rfl:=JE hf
   unfold Axe at h
   split at h
   ·cases h
    obtain ⟨hp,rfl,rfl⟩:=hp
    exact Bpn _ hp
   ·cases h
 ·obtain rfl:=JE hf
  unfold Axd at h
  split at h
  ·cases h
   exact Bpm _ _ _ hp
  ·cases h
def Biv (n:Int) (cnt:Nat):Blk:=⟨true,cnt,202,4,[.ag [.sc (.int .i64 3),.sc (.string ⟨#[]⟩),.sc (.int .i64 n),.sc (.int .i64 0)]],true⟩
noncomputable def Aoe (args:List AV) (H:Tr Blk) (hn cnt:Nat):Option (Ob1 × AV × Tr Blk × Nat × Nat):=
 match args with
 | [.sc (.int .i64 n)]=>el (H.push hn (Biv n cnt)) none fun H'=>some (.pr (0≤n∧n≤2147483647),.sl hn cnt 0 1,H',hn+1,cnt+1)
 | _=>none
noncomputable def GU (lp lv:List Ent):SpC:=⟨fun f a=>el (spN f a) (Z0 lp f a) some,fun f a=>Z0 lv f a,fun f a H n c=>bB (Nat.beq f 164) none (Aoe a H n c)⟩
theorem Aof {lp lv:List Ent} (hp:∀ e ∈ lp,Ap Tryz.prog e.f e.a e.r) (hv:∀ e ∈ lv,Ba Tryz.prog e.f e.a e.r):CondOk Tryz.prog (GU lp lv) where
 p f args p r h hq:=by
  have h:el (spN f args) (Z0 lp f args) some=some (p,r):=h
  rcases Ec h with ⟨_,h⟩ | ⟨q,h1,h⟩
  ·exact Sy hp h hq
  ·cases h
   exact Bav h1 hq
 v f args p r h hq:=Sy hv h hq
 h f args H hn cnt p r H' hn' cnt' hf h hq:=by
  have h:bB (Nat.beq f 164) none (Aoe args H hn cnt)=some (p,r,H',hn',cnt'):=h
  obtain ⟨h1,h⟩:=O3 h
  obtain rfl:=JE h1
  unfold Aoe at h
  split at h
  ·rename_i n0 _
   obtain ⟨H2,h2,h⟩:=CQ h
   simp only [lx16,lx40] at h
   obtain ⟨e1,rfl,rfl,rfl,rfl⟩:=h
   rw [←e1] at hq
   have:=Bit _ hq (H.toL dead hn) cnt
   rw [Tr.toL_len] at this
   refine ⟨(Tr.push_ok dead _ hf h2).2,?_⟩
   rw [Tr.toL_push hf h2]
   exact this
  ·cases h
section
variable {need:Nat→Bool} {lp lv:List Ent} (hp:∀ e ∈ lp,Ap Tryz.prog e.f e.a e.r) (hv:∀ e ∈ lv,Ba Tryz.prog e.f e.a e.r) {f:Nat} {args:List AV} {r:AV} {l:List Prop}
include hp hv
theorem pY (h:pL Tryz.prog Cw gY need (GU lp lv).u 60 f args=some r) (he:EX (pO Tryz.prog Cw gY need (GU lp lv) 60 f args)=(EX (pO Tryz.prog Cw gY need (GU lp lv) 60 f args)).map (fun q=>(q.1,q.1))) (hl:Kc (pO Tryz.prog Cw gY need (GU lp lv) 60 f args)=l) (ha:∀ p ∈ l,p):Ap Tryz.prog f args r:=
 Ai6 rfl Ag8 Axc (Aof hp hv) h rfl (Qh he (hl ▸ ha))
theorem vY (h:vL Tryz.prog Cw gY need (GU lp lv).u 60 f args=some r) (he:EX (vO Tryz.prog Cw gY need (GU lp lv) 60 f args)=(EX (vO Tryz.prog Cw gY need (GU lp lv) 60 f args)).map (fun q=>(q.1,q.1))) (hl:Kc (vO Tryz.prog Cw gY need (GU lp lv) 60 f args)=l) (ha:∀ p ∈ l,p):Ba Tryz.prog f args r:=
 Ai7 rfl Ag8 Axc (Aof hp hv) h rfl (Qh he (hl ▸ ha))
end
theorem Cn {Q:Nat→List AV→AV→Prop}:∀ e ∈ ([]:List Ent),Q e.f e.a e.r:=fun e h=>by simp at h
theorem Nn {Q:Nat→List AV→AV→Prop} {e:Ent} {l:List Ent} (h:Q e.f e.a e.r) (hl:∀ e ∈ l,Q e.f e.a e.r):∀ x ∈ e::l,Q x.f x.a x.r:=by
 intro x hx
 rcases lx59.1 hx with rfl | hx
 ·exact h
 ·exact hl x hx
theorem Fy:∀ p ∈ ([]:List Prop),p:=fun p h=>by simp at h
theorem Z1 {p:Prop} {l:List Prop} (h:p) (hl:∀ q ∈ l,q):∀ q ∈ p::l,q:=by
 intro q hq
 rcases lx59.1 hq with rfl | hq
 ·exact h
 ·exact hl q hq
theorem fQ {f:Nat} {args:List AV} {r:AV} (h:fK Tryz.prog Wb (mkG [] []) 60 f args=some r):C4 Tryz.prog f args r:=N3 rfl HL (EY Ak Ak Ak) h
def t0 (k:Int) (tx:ByteArray) (v:Int):AV:=Ey ⟨k,tx,v,0⟩
theorem Biw:C4 Tryz.prog 162 [.vw false [.sc (.string Dk)]] (.vw false [t0 2 Dk 0]):=fQ (by kernel_rfl)
theorem Bix:C4 Tryz.prog 162 [.vw false [.sc (.string Oe)]] (.vw false [t0 5 Oe 0]):=fQ (by kernel_rfl)
theorem Biy:C4 Tryz.prog 162 [.vw false [.sc (.string Gw)]] (.vw false [t0 5 Gw 0]):=fQ (by kernel_rfl)
theorem Biz:C4 Tryz.prog 162 [.vw false [.sc (.string Tg),.sc (.string Bv)]] (.vw false [t0 2 Tg 0,t0 2 Bv 0]):=fQ (by kernel_rfl)
theorem Bj0:C4 Tryz.prog 163 [.sc (.string wE)] (.vw false [t0 1 wE 0]):=fQ (by kernel_rfl)
theorem Bpr (nm:ByteArray) (p:Int):C4 Tryz.prog 161 [.vw false [.vw false [t0 2 Dk 0],.vw false [t0 1 nm 0],.vw false [t0 3 ⟨#[]⟩ p],.vw false [t0 5 Oe 0]]] (.vw false [t0 2 Dk 0,t0 1 nm 0,t0 3 ⟨#[]⟩ p,t0 5 Oe 0]):=fQ (by kernel_rfl)
theorem Bps (a:Int):C4 Tryz.prog 160 [Fm wE a] (.vw false [t0 2 Bv 0,t0 1 wE 0,t0 5 BX 0]):=fQ (by kernel_rfl)
theorem Bpt (n:Int) (h:0≤n∧n≤2147483647):C4 Tryz.prog 164 [.sc (.int .i64 n)] (.vw false [t0 3 ⟨#[]⟩ n]):=Abg rfl (Bit n h [] 0) (.refl _) rfl
def Z2 (i:Nat):ByteArray:=⟨⟨109::(if i < 10 then [UInt8.ofNat (48+i)] else [49,UInt8.ofNat (38+i)])⟩⟩
theorem Bj1:∀ i,i < 16→C4 Tryz.prog 163 [.sc (.string (Z2 i))] (.vw false [t0 1 (Z2 i) 0])
 | 0,_=>fQ (by kernel_rfl)
 | 1,_=>fQ (by kernel_rfl)
 | 2,_=>fQ (by kernel_rfl)
 | 3,_=>fQ (by kernel_rfl)
 | 4,_=>fQ (by kernel_rfl)
 | 5,_=>fQ (by kernel_rfl)
 | 6,_=>fQ (by kernel_rfl)
 | 7,_=>fQ (by kernel_rfl)
 | 8,_=>fQ (by kernel_rfl)
 | 9,_=>fQ (by kernel_rfl)
 | 10,_=>fQ (by kernel_rfl)
 | 11,_=>fQ (by kernel_rfl)
 | 12,_=>fQ (by kernel_rfl)
 | 13,_=>fQ (by kernel_rfl)
 | 14,_=>fQ (by kernel_rfl)
 | 15,_=>fQ (by kernel_rfl)
 | i+16,h=>by omega
def nV (v:Int):Prop:=(0:Int)≤v∧v≤2147483647
def bkT (v:Int) (c:Bool):List AV:=t0 5 Oe 0::t0 2 Dg 0::t0 3 ⟨#[]⟩ v::t0 5 BX 0::bif c then [t0 2 Gk 0,t0 5 BX 0,t0 5 Gw 0] else [t0 5 Gw 0]
def ndT (f:Nat):Bool:=bt [166,211,236,251] f
theorem Bj2 (v a1 a0:Int):vL Tryz.prog Cw gY ndT (GU [] []).u 60 166 [.vw false [E9 v a1 a0]]=some (.vw false (bkT v false)):=by kernel_rfl
theorem Bj3 (v a1 a0:Int):EX (vO Tryz.prog Cw gY ndT (GU [] []) 60 166 [.vw false [E9 v a1 a0]])=(EX (vO Tryz.prog Cw gY ndT (GU [] []) 60 166 [.vw false [E9 v a1 a0]])).map (fun q=>(q.1,q.1)):=by kernel_rfl
theorem Bj4 (v a1 a0:Int):Kc (vO Tryz.prog Cw gY ndT (GU [] []) 60 166 [.vw false [E9 v a1 a0]])=[nV v]:=by kernel_rfl
theorem Bj5 (v a1 a0 c0:Int):vL Tryz.prog Cw gY ndT (GU [] []).u 60 166 [.vw false [E9 v a1 a0,JA c0]]=some (.vw false (bkT v true)):=by kernel_rfl
theorem Bj6 (v a1 a0 c0:Int):EX (vO Tryz.prog Cw gY ndT (GU [] []) 60 166 [.vw false [E9 v a1 a0,JA c0]])=(EX (vO Tryz.prog Cw gY ndT (GU [] []) 60 166 [.vw false [E9 v a1 a0,JA c0]])).map (fun q=>(q.1,q.1)):=by kernel_rfl
theorem Bj7 (v a1 a0 c0:Int):Kc (vO Tryz.prog Cw gY ndT (GU [] []) 60 166 [.vw false [E9 v a1 a0,JA c0]])=[nV v]:=by kernel_rfl
theorem Bpu (v a1 a0 c0:Int) (c:Bool) (h:nV v):Ba Tryz.prog 166 [.vw false (Hu v a1 a0 c0 c)] (.vw false (bkT v c)):=by
 cases c
 ·exact vY (lp:=[]) (lv:=[]) Cn Cn (Bj2 v a1 a0) (Bj3 v a1 a0) (Bj4 v a1 a0) (Z1 h Fy)
 ·exact vY (lp:=[]) (lv:=[]) Cn Cn (Bj5 v a1 a0 c0) (Bj6 v a1 a0 c0) (Bj7 v a1 a0 c0) (Z1 h Fy)
end Go.Proofs.YtdjpkhjaibdogaaGreat
namespace Go.Proofs.YtdjpkhjaibdogaaGreat
open Go Go.SX
attribute [local congr] ite_congr
noncomputable def FO (f:Nat) (out:List AV→AV) (a:List AV):Option AV:=open Classical in if C4 Tryz.prog f a (out a) then some (out a) else none
theorem O8 (f:Nat) (out:List AV→AV):FOk Tryz.prog f (FO f out):=by
 intro a r h
 unfold FO at h
 split at h
 ·rename_i hx; cases h; exact hx
 ·cases h
theorem Jr {f:Nat} {out:List AV→AV} {a:List AV} {r:AV} (h:C4 Tryz.prog f a r) (e:out a=r):FO f out a=some r:=by
 subst e
 exact if_pos h
noncomputable def VO (f:Nat) (out:List AV→AV) (a:List AV):Option AV:=open Classical in if Ba Tryz.prog f a (out a) then some (out a) else none
theorem Aog (f:Nat) (out:List AV→AV):VOk Tryz.prog f (VO f out):=by
 intro a r h
 unfold VO at h
 split at h
 ·rename_i hx; cases h; exact hx
 ·cases h
theorem Aga {f:Nat} {out:List AV→AV} {a:List AV} {r:AV} (h:Ba Tryz.prog f a r) (e:out a=r):VO f out a=some r:=by
 subst e
 exact if_pos h
def Bj8 (_:List AV):AV:=.vw false (Aaf.map zA)
def Bpv:TabE:={ Wb with lit:=fun _=>false }
theorem Agb:Hi Tryz.prog Bpv:=Abo (by kernel_rfl)
theorem Bpw:C4 Tryz.prog 165 [] (.vw false (Aaf.map zA)):=N3 rfl Agb (EY Ak Ak Ak) (n:=60) (G:=mkG [] []) (by kernel_rfl)
def Aoh (a:List AV):AV:=match a with
 | [.vw _ [.sc (.string s)]]=>bif E8 s.data.toList Dk.data.toList then .vw false [t0 2 s 0] else .vw false [t0 5 s 0]
 | _=>.vw false [t0 2 Tg 0,t0 2 Bv 0]
def Baw (a:List AV):AV:=match a with
 | [.sc (.string s)]=>.vw false [t0 1 s 0]
 | _=>.un
def Bj9 (a:List AV):AV:=match a with
 | [.sc (.int _ n)]=>.vw false [t0 3 ⟨#[]⟩ n]
 | _=>.un
def vwL:AV→List AV
 | .vw _ l=>l
 | _=>[]
def Bja (a:List AV):AV:=match a with
 | [.vw _ l]=>.vw false (l.flatMap vwL)
 | _=>.un
def Bjb (_:List AV):AV:=.vw false [t0 2 Bv 0,t0 1 wE 0,t0 5 BX 0]
def Bax (a:List AV):AV:=match a with
 | [.vw _ (.ag [_,_,_,.vw _ [.ag [_,.sc (.int _ v),_,_,_]],_,_,_]::r)]=>.vw false (bkT v (!r.isEmpty))
 | _=>.un
theorem At9 (v a1 a0 c0:Int) (c:Bool):Bax [.vw false (Hu v a1 a0 c0 c)]=.vw false (bkT v c):=by cases c <;> rfl
def UQ (q:Tkn):AV:=t0 q.k q.tx q.v
theorem Bjc (l:List Tkn):(LL l fun _=>0).map Ey=l.map UQ:=by
 refine lx65 fun i=>?_
 simp only [LL,lx23,List.getElem?_mapIdx]
 cases l[i]? <;> rfl
theorem Bay (m:Mo):(Dw m).map UQ=[t0 2 Dk 0,t0 1 m.nm 0,t0 3 ⟨#[]⟩ m.p,t0 5 Oe 0]++([t0 2 Tg 0,t0 2 Bv 0]++([t0 1 wE 0]++(bkT m.s m.c++[t0 5 Gw 0]))):=by
 cases h:m.c <;> simp [Dw,bkT,UQ,h]
theorem Aip {ms:List Mo} {j:Nat} (h:j < ms.length):(Cf ms).take (BO ms (j+1))=(Cf ms).take (BO ms j)++Dw (ms.getD j default):=by
 have key:∀ j,j≤ms.length→(Cf ms).take (BO ms j)=⟨2,Bv,0⟩::⟨1,wE,0⟩::⟨5,BX,0⟩::(ms.take j).flatMap Dw:=fun j hj=>by
  have e:Cf ms=(⟨2,Bv,0⟩::⟨1,wE,0⟩::⟨5,BX,0⟩::(ms.take j).flatMap Dw)++(ms.drop j).flatMap Dw:=by
   rw [Cf]
   conv=>lhs; rw [←lx67 j ms,lx114]
   rfl
  have hl:BO ms j=(⟨2,Bv,0⟩::⟨1,wE,0⟩::⟨5,BX,0⟩::(ms.take j).flatMap Dw:List Tkn).length:=by
   rw [BO,lx52,lx52,lx52]; omega
  rw [e,hl,List.take_left]
 have e:ms.take (j+1)=ms.take j++[ms.getD j default]:=by
  exact Aqp
 rw [key (j+1) (by omega),key j (by omega),e,lx114,List.flatMap_singleton]
 rfl
theorem UR:∀ l:List Tkn,Cu (l.map UQ)=true
 | []=>rfl
 | q::l=>by rw [lx31]; simp [Cu,UQ,t0,Ey,AV.fresh,UR l]
structure MoQ (m:Mo):Prop where
 nm:C4 Tryz.prog 163 [.sc (.string m.nm)] (.vw false [t0 1 m.nm 0])
 p:0≤m.p∧m.p≤2147483647
 s:nV m.s
theorem Bpx (ms:List Mo) (hms:ms.length≤16) (hq:∀ m ∈ ms,MoQ m) (a:Nat→Int) (a0:Int):C4 Tryz.prog 120 [.ag [.vw false [Fm wE a0],.vw false (Fo a ms)]] (.vw false ((Cf ms).map UQ)):=by
 have g0:FO 160 Bjb [Fm wE a0]=some (.vw false [t0 2 Bv 0,t0 1 wE 0,t0 5 BX 0]):=Jr (Bps a0) rfl
 have w1:IntKind.i64.wrap 1=1:=rfl
 have hml:(Fo a ms).length=ms.length:=by simp [Fo]
 obtain ⟨X,hX⟩:∃ X,Fo a ms=X:=⟨_,rfl⟩
 rw [hX] at hml ⊢
 simp only [Fm] at g0 ⊢
 simp only [t0,Ey] at g0
 refine EU (Af (lit:=false) (pm:=fun _=>none) .nil (.cons (Aog 166 Bax) .nil) (.cons (O8 165 Bj8) (.cons (O8 160 Bjb) (.cons (O8 161 Bja) (.cons (O8 162 Aoh) (.cons (O8 163 Baw) (.cons (O8 164 Bj9) .nil)))))) .nil) rfl Tryz.func120 rfl (by decide) (by kernel_rfl) rfl ?_
 simp only [Tryz.f120,Ae,lx52,lx63,Nat.reduceAdd,Nat.reduceSub,List.replicate]
 refine qd6 ?_
 refine Dz (a2 g0 w1) ?_
 refine AD ?_
 refine gP0 ?_
 refine Az (σ:=Nat) (fun j _=>⟨CW 0 100 [(1,.pt 0 0 0 0),(3,.sl 1 (1+12 * j) 0 (BO ms j)),(5,.sc (.int .i64 j))],[⟨true,0,56,2,[.ag [.vw false [.ag [.sc (.int .i64 8),.sc (.string wE),.sc (.int .i64 0),.sc (.int .i64 a0)]],.vw false X]],false⟩,⟨true,1+12 * j,202,4,((Cf ms).take (BO ms j)).map UQ,false⟩],1+12 * j+1⟩)
  (fun j=>j≤ms.length) (fun j=>ms.length - j) 0 (by omega) ?_ ?_ rfl ?_
 ·simp (maxSteps:=10000000) only [AX,AT,↓reduceIte,reduceCtorEq,Nat.reduceAdd,Nat.reduceEqDiff,CW,Jw,Nat.mul_zero,Aio]
 ·exact Aq _
 rintro j c hj ih
 obtain ⟨V,hV⟩:∃ V,1+12 * j=V:=⟨_,rfl⟩
 have hMl:(((Cf ms).take (BO ms j)).map UQ).length=BO ms j:=by
  have:BO ms j≤(Cf ms).length:=by
   rw [←Kk]
   have:=Qp ms (ms.length - j) j (by omega)
   rw [show j+(ms.length - j)=ms.length by omega] at this
   omega
  simp [this]
 have ho:=Nl ms j hj
 have hMn:norefs (((Cf ms).take (BO ms j)).map UQ)=true:=Co (f:=UQ) (fun _=>rfl) _
 have hMf:Cu (((Cf ms).take (BO ms j)).map UQ)=true:=UR _
 have hM4:Bs 4 (((Cf ms).take (BO ms j)).map UQ)=true:=BT (f:=UQ) (fun _=>rfl) _
 by_cases hjn:j < ms.length
 rotate_left
 ·obtain rfl:j=ms.length:=by omega
  have h1:decide ((ms.length:Int) < (ms.length:Int))=false:=AZ
  have he:(Cf ms).take (BO ms ms.length)=Cf ms:=by rw [Kk,lx73]
  rw [he] at hMl hMn hMf ⊢
  rw [hV]
  generalize (Cf ms).map UQ=M at hMl hMn hMf ⊢
  refine Ac ?_
  refine Cb ?_
  refine Dz (a3 h1 hml hMl) ?_
  all_goals first | (simp [AV.freshIn,AJ,hMf]; done) | skip
 have h1:decide ((j:Int) < (ms.length:Int))=true:=AA (by omega)
 have h0:decide (0≤(j:Int))=true:=AA (by omega)
 have hmm:MoQ (ms.getD j default):=hq _ (by rw [lx81,lx50 hjn]; exact lx89 _)
 have hgX:X[j]?=some (UP a (ms.getD j default) (BO ms j)):=by
  rw [←hX,Fo,lx23,SS hjn]; rfl
 have hX4:Bs 4 X=true:=by
  rw [←hX,Fo]
  exact Ayk
 have ih:=ih (j+1) c (by omega) (by omega)
 rw [Aip hjn,lx10,Bay,KE hjn] at ih
 have hVs:1+12 * (j+1)=V+12:=An
 rw [hVs] at ih
 rw [hV]
 have w2:IntKind.i64.wrap ((j:Int)+1)=((j+1:Nat):Int):=B8
 have w5:IntKind.i64.wrap 5=5:=rfl
 generalize ((Cf ms).take (BO ms j)).map UQ=M at hMl hMn hMf hM4 ih ⊢
 generalize BO ms j=o at ho hMl ih hgX ⊢
 generalize ms.getD j default=m at hmm ih hgX
 obtain ⟨q1,q2,q3⟩:=hmm
 have k1:FO 162 Aoh [.vw false [.sc (.string Dk)]]=some (.vw false [t0 2 Dk 0]):=Jr Biw rfl
 have k2:FO 162 Aoh [.vw false [.sc (.string Oe)]]=some (.vw false [t0 5 Oe 0]):=Jr Bix rfl
 have k3:FO 162 Aoh [.vw false [.sc (.string Gw)]]=some (.vw false [t0 5 Gw 0]):=Jr Biy rfl
 have k4:FO 162 Aoh [.vw false [.sc (.string Tg),.sc (.string Bv)]]=some (.vw false [t0 2 Tg 0,t0 2 Bv 0]):=Jr Biz rfl
 have k5:FO 163 Baw [.sc (.string m.nm)]=some (.vw false [t0 1 m.nm 0]):=Jr q1 rfl
 have k6:FO 163 Baw [.sc (.string wE)]=some (.vw false [t0 1 wE 0]):=Jr Bj0 rfl
 have k7:FO 164 Bj9 [.sc (.int .i64 m.p)]=some (.vw false [t0 3 ⟨#[]⟩ m.p]):=Jr (Bpt m.p q2) rfl
 have k8:FO 161 Bja [.vw false [.vw false [t0 2 Dk 0],.vw false [t0 1 m.nm 0],.vw false [t0 3 ⟨#[]⟩ m.p],.vw false [t0 5 Oe 0]]]=some (.vw false [t0 2 Dk 0,t0 1 m.nm 0,t0 3 ⟨#[]⟩ m.p,t0 5 Oe 0]):=Jr (Bpr m.nm m.p) rfl
 have k9:VO 166 Bax [.vw false (Hu m.s (a (o+9)) (a (o+8)) (a (o+11)) m.c)]=some (.vw false (bkT m.s m.c)):=Aga (Bpu _ _ _ _ _ q3) (At9 _ _ _ _ _)
 have k10:FO 165 Bj8 []=some (.vw false (Aaf.map zA)):=Jr Bpw rfl
 have hB:(bkT m.s m.c).length=ZS m - 8:=by cases h:m.c <;> simp [bkT,ZS,h]
 have hB4:Bs 4 (bkT m.s m.c)=true:=by cases h:m.c <;> rfl
 have hn13:=Sx m
 have hn15:=Ao9 m
 obtain ⟨n,hn⟩:∃ n,ZS m=n+8:=⟨ZS m - 8,by omega⟩
 rw [hn,Nat.add_sub_cancel] at hB
 rw [hn] at ih hn13 hn15
 have hBe:∀ H,L7 H (.vw false (bkT m.s m.c))=some (bkT m.s m.c):=fun H=>by cases h:m.c <;> rfl
 generalize bkT m.s m.c=B at k9 hB hB4 hBe ih
 simp only [UP,Wn,SQ] at hgX
 generalize Hu m.s (a (o+9)) (a (o+8)) (a (o+11)) m.c=Y at k9 hgX
 generalize a (o+4)=b4 at hgX
 generalize a o=b0 at hgX
 generalize m.nm=nm at k5 k8 hgX ih
 generalize m.p=p at k7 k8 hgX ih
 simp only [t0,I7,Dk,Oe,Gw,Tg,Bv,Aaf,lx31,lx46,Si] at k1 k2 k3 k4 k5 k6 k7 k8 k10 ih
 refine Ac ?_
 refine Cb ?_
 have hc1:decide ((o+4) * 40≤140737488355328)=true:=AA (by omega)
 have hc2:decide ((o+4+2) * 40≤140737488355328)=true:=AA (by omega)
 have hc3:decide ((o+4+2+1) * 40≤140737488355328)=true:=AA (by omega)
 have hc4:decide ((o+4+2+1+n) * 40≤140737488355328)=true:=AA (by omega)
 have hc5:decide ((o+4+2+1+n+1) * 40≤140737488355328)=true:=AA (by omega)
 refine Dz (Jk h1 hml hgX hX4 k1 k2 k5 k7 k8 hMl hc1) ?_
 repeat' (first | exact Aa (by kernel_rfl) | refine ⟨Aa (by kernel_rfl),?_⟩ | refine And.intro ?_ ?_ | fail)
 refine Bd ?_
 refine Dz (Jl w5 w1 k4 k6 k9 k10 hMl hB hB4 hBe hc2 hc3 hc4) ?_
 repeat' (first | exact Aa (by kernel_rfl) | refine ⟨Aa (by kernel_rfl),?_⟩ | refine And.intro ?_ ?_ | fail)
 refine AD ?_
 refine Dz (a3 w2 k3 hc5) ?_
 repeat' (first | exact Aa (by kernel_rfl) | refine ⟨Aa (by kernel_rfl),?_⟩ | refine And.intro ?_ ?_ | fail)
 refine AB ?_ ?_ (Av _) ih
 ·simp (maxSteps:=10000000) only [AX,AT,↓reduceIte,reduceCtorEq,Nat.reduceAdd,Nat.reduceEqDiff,CW,Jw]
  show AV.sl 1 (V+12) 0 (o+4+2+1+n+1)=_
  rw [show o+4+2+1+n+1=o+(n+8) by omega]
 ·simp (maxSteps:=10000000) only [AX,AT]
  rw [lx12 (by simp only [lx7,lx52,hMl,hB]; omega)]
  simp [lx6]
def Sz (m:Mo):AV:=Wn m.nm m.p (.vw false [SQ wE (.vw false (Hu m.s 0 0 0 m.c)) 0]) 0
def Baz (a:List AV):AV:=match a with
 | [.vw _ (.ag [_,_,_,.vw _ [.ag [_,.sc (.int _ v),_,_,_]],_,_,_]::r)]=>.vw false (Hu v 0 0 0 (!r.isEmpty))
 | _=>.un
theorem Ata (v a1 a0 c0:Int) (c:Bool):Baz [.vw false (Hu v a1 a0 c0 c)]=.vw false (Hu v 0 0 0 c):=by cases c <;> rfl
mutual
theorem Atb (id ver:Nat) (els:List AV):∀ a:AV,a.noref=true→Er id ver els a=a
 | .sl ..,h=>by simp [AV.noref] at h
 | .ag cs,h=>by rw [Er,KH id ver els cs (by simpa [AV.noref] using h)]
 | .sc _,_=>rfl
 | .tu _,_=>rfl
 | .pt ..,_=>rfl
 | .vw ..,_=>rfl
 | .vp ..,_=>rfl
 | .fn ..,_=>rfl
 | .un,_=>rfl
 | .jk,_=>rfl
theorem KH (id ver:Nat) (els:List AV):∀ l:List AV,norefs l=true→D3 id ver els l=l
 | [],_=>rfl
 | a::l,h=>by
  simp only [norefs,AH] at h
  rw [D3,Atb id ver els a h.1,KH id ver els l h.2]
end
theorem Bjd (ms:List Mo) (hms:ms.length≤16) (a:Nat→Int) (a0:Int):Ba Tryz.prog 122 [.ag [.vw false [Fm wE a0],.vw false (Fo a ms)]] (.ag [.vw false [Fm wE 0],.vw false (ms.map Sz)]):=by
 have w1:IntKind.i64.wrap 1=1:=rfl
 have hml:(Fo a ms).length=ms.length:=by simp [Fo]
 obtain ⟨X,hX⟩:∃ X,Fo a ms=X:=⟨_,rfl⟩
 obtain ⟨Z,hZ⟩:∃ Z,ms.map Sz=Z:=⟨_,rfl⟩
 rw [hX] at hml ⊢
 simp only [Fm]
 refine BP (Af (lit:=false) (pm:=fun _=>none) .nil (.cons (Aog 168 Baz) .nil) .nil .nil) rfl Tryz.func122 rfl (by decide) (by kernel_rfl) rfl ?_
 simp only [Tryz.f122,Ae,lx52,lx63,Nat.reduceAdd,Nat.reduceSub,List.replicate]
 refine Ac ?_
 simp (maxSteps:=10000000) +contextual -implicitDefEqProofs only [AX,AT,St.put,Nat.reduceAdd,CS,Int.reduceAdd,B9]
 refine Bd ?_
 refine Dz w1 ?_
 repeat' (first | exact Aa (by kernel_rfl) | refine ⟨Aa (by kernel_rfl),?_⟩ | refine And.intro ?_ ?_ | fail)
 refine AD ?_
 refine gP0 ?_
 refine JZ 0 4 ⟨true,5,113,4,[.ag [.sc (.int .i64 8),.sc (.string wE),.sc (.int .i64 0),.sc (.int .i64 0)]],false⟩ rfl rfl (Bq _) rfl ?_
 simp only [MQ,MR,MF,MJ,MG,MH,MK,ML,MM,MN,MO,MI,J1,Ik,J2,Il,MP,Nat.reduceAdd,Nat.reduceEqDiff,Nat.reduceLT,Nat.reduceLeDiff,↓reduceIte,and_self,C5,false_and,AW,lx72,lx91,lx42,List.take_nil,lx8,lx9,reduceCtorEq,CL,dead]
 refine HX (T':=_) (H':=[⟨true,0,56,2,[.ag [.vw false [.ag [.sc (.int .i64 8),.sc (.string wE),.sc (.int .i64 0),.sc (.int .i64 a0)]],.vw false X]],false⟩,⟨true,1,56,2,[.ag [.vw true [],.vw true []]],false⟩,⟨true,2,56,2,[.ag [.vw false [.ag [.sc (.int .i64 8),.sc (.string wE),.sc (.int .i64 0),.sc (.int .i64 0)]],.sl 5 6 0 0]],false⟩,dead,dead]) 6 116 4 7 (by omega) (by omega) (Cr _ _ _) ?_ ?_
 ·exact ⟨.inl rfl,.inl rfl,.inr (.inr ⟨rfl,rfl,rfl,rfl,I6 ⟨.refl _,.nil,trivial⟩,trivial⟩),.inr (.inl rfl),.inr (.inl rfl),trivial⟩
 refine Az (σ:=Nat) (fun j _=>⟨CW 0 89 [(1,.pt 0 0 0 0),(2,.pt 1 1 0 0),(3,.pt 2 2 0 0),(6,.sc (.int .i64 j))],[⟨true,0,56,2,[.ag [.vw false [.ag [.sc (.int .i64 8),.sc (.string wE),.sc (.int .i64 0),.sc (.int .i64 a0)]],.vw false X]],false⟩,⟨true,1,56,2,[.ag [.vw true [],.vw true []]],false⟩,⟨true,2,56,2,[.ag [.vw false [.ag [.sc (.int .i64 8),.sc (.string wE),.sc (.int .i64 0),.sc (.int .i64 0)]],.sl 5 (6+6 * j) 0 j]],false⟩,dead,dead,⟨true,6+6 * j,116,4,Z.take j,false⟩],6+6 * j+1⟩)
  (fun j=>j≤ms.length) (fun j=>ms.length - j) 0 (by omega) ?_ ?_ rfl ?_
 ·exact Gm
 ·exact Aq _
 rintro j c hj ih
 have hZl:Z.length=ms.length:=by rw [←hZ,lx57]
 have hZn:norefs Z=true:=by
  rw [←hZ]
  exact Bdq
 have hZ4:Bs 4 (Z.take j)=true:=by rw [←hZ,←List.map_take]; exact BT (f:=Sz) (fun _=>rfl) _
 have hMn:norefs (Z.take j)=true:=by
  rw [←hZ,←List.map_take]
  exact Bdq
 have hTl:(Z.take j).length=j:=by rw [lx68]; omega
 obtain ⟨V,hV⟩:∃ V,6+6 * j=V:=⟨_,rfl⟩
 rw [hV]
 by_cases hjn:j < ms.length
 rotate_left
 ·obtain rfl:j=ms.length:=by omega
  have h1:decide ((ms.length:Int) < (ms.length:Int))=false:=AZ
  have htk:Z.take ms.length=Z:=by rw [←hZl,lx73]
  rw [htk]
  refine JZ 0 5 ⟨true,V,116,4,Z,false⟩ rfl rfl (Bq _) hZn ?_
  refine qd8 ?_
  have htk2:List.take ms.length Z=Z:=by rw [←hZl,lx73]
  refine Ac ?_
  refine Dz (a3 h1 hml htk2) ?_
  repeat' (first | exact Aa (by kernel_rfl) | refine ⟨Aa (by kernel_rfl),?_⟩ | refine And.intro ?_ ?_ | fail)
  all_goals first | exact .refl _ | rfl | (rw [hZ]; exact .refl _) | skip
 have h1:decide ((j:Int) < (ms.length:Int))=true:=AA (by omega)
 have h0:decide (0≤(j:Int))=true:=AA (by omega)
 have hgX:X[j]?=some (UP a (ms.getD j default) (BO ms j)):=by
  rw [←hX,Fo,lx23,SS hjn]; rfl
 have hX4:Bs 4 X=true:=by
  rw [←hX,Fo]
  exact Ayk
 have ih:=ih (j+1) c (by omega) (by omega)
 have htk:Z.take (j+1)=Z.take j++[Sz (ms.getD j default)]:=by
  rw [lx109 (by omega),lx81,lx50 hjn]
  subst hZ
  simp
 have hVs:6+6 * (j+1)=V+6:=An
 rw [htk,hVs] at ih
 have w2:IntKind.i64.wrap ((j:Int)+1)=((j+1:Nat):Int):=B8
 generalize Z.take j=M at hTl hZ4 hMn ih ⊢
 generalize BO ms j=o at hgX
 generalize ms.getD j default=m at hgX ih
 have k1:VO 168 Baz [.vw false (Hu m.s (a (o+9)) (a (o+8)) (a (o+11)) m.c)]=some (.vw false (Hu m.s 0 0 0 m.c)):=Aga (Bp5 _ _ _ _ _) (Ata _ _ _ _ _)
 have hYn:norefs (Hu m.s 0 0 0 m.c)=true:=by cases h:m.c <;> rfl
 have hYn':norefs (Hu m.s (a (o+9)) (a (o+8)) (a (o+11)) m.c)=true:=by cases h:m.c <;> rfl
 simp only [UP,Wn,SQ] at hgX
 simp only [Sz,Wn,SQ] at ih
 generalize Hu m.s 0 0 0 m.c=Y at k1 hYn ih
 generalize Hu m.s (a (o+9)) (a (o+8)) (a (o+11)) m.c=Y' at k1 hYn' hgX
 generalize a (o+4)=b4 at hgX
 generalize a o=b0 at hgX
 generalize m.nm=nm at hgX ih
 generalize m.p=p at hgX ih
 have hc1:decide ((j+1) * 56≤140737488355328)=true:=AA (by omega)
 refine Ac ?_
 refine Cb ?_
 refine Dz (a4 h1 hml hgX hX4) ?_
 repeat' (first | exact Aa (by kernel_rfl) | refine ⟨Aa (by kernel_rfl),?_⟩ | refine And.intro ?_ ?_ | fail)
 all_goals first | rfl | skip
 refine Bd ?_
 refine Dz (a6 w1 h1 hml hgX hX4 k1) ?_
 repeat' (first | exact Aa (by kernel_rfl) | refine ⟨Aa (by kernel_rfl),?_⟩ | refine And.intro ?_ ?_ | fail)
 all_goals first | rfl | skip
 have hMf:=fun id ver els=>KH id ver els M hMn
 have hMt:List.take j M=M:=lx12 (by omega)
 refine JZ 0 8 ⟨true,V+1+1+1+1,120,4,[.ag [.sc (.int .i64 6),.sc (.string wE),.vw false Y,.sc (.int .i64 0)]],false⟩ rfl rfl (Bq _) (by simp [norefs,AV.noref,hYn]) ?_
 simp only [MQ,MR,MF,MJ,MG,MH,MK,ML,MM,MN,MO,MI,J1,Ik,J2,Il,MP,Nat.reduceAdd,Nat.reduceEqDiff,Nat.reduceLT,Nat.reduceLeDiff,↓reduceIte,and_self,C5,false_and,AW,lx72,lx91,lx42,List.take_nil,lx8,lx9,reduceCtorEq,CL,dead,hMf]
 refine AD ?_
 refine Dz (a7 w2 h1 hml hgX hX4 hc1 hMt) ?_
 repeat' (first | exact Aa (by kernel_rfl) | refine ⟨Aa (by kernel_rfl),?_⟩ | refine And.intro ?_ ?_ | fail)
 all_goals first | rfl | skip
 refine AB ?_ ?_ (Av _) ih
 ·exact Gm
 ·exact DN _ [_,_,_,_,_,_]
end Go.Proofs.YtdjpkhjaibdogaaGreat
namespace Go.Proofs.YtdjpkhjaibdogaaGreat
open Go Go.SX
def ndU (f:Nat):Bool:=bt [167,212] f
theorem Bje (v:Int):pL Tryz.prog Cw gY ndU (GU [] []).u 60 167 [.vw false [E9 v 0 0],.vw false [E9 v 0 0]]=some (.sc (.bool true)):=by kernel_rfl
theorem Bjf (v:Int):EX (pO Tryz.prog Cw gY ndU (GU [] []) 60 167 [.vw false [E9 v 0 0],.vw false [E9 v 0 0]])=(EX (pO Tryz.prog Cw gY ndU (GU [] []) 60 167 [.vw false [E9 v 0 0],.vw false [E9 v 0 0]])).map (fun q=>(q.1,q.1)):=by kernel_rfl
theorem Bjg (v:Int):Kc (pO Tryz.prog Cw gY ndU (GU [] []) 60 167 [.vw false [E9 v 0 0],.vw false [E9 v 0 0]])=[]:=by kernel_rfl
theorem Bjh (v:Int):pL Tryz.prog Cw gY ndU (GU [] []).u 60 167 [.vw false [E9 v 0 0,JA 0],.vw false [E9 v 0 0,JA 0]]=some (.sc (.bool true)):=by kernel_rfl
theorem Bji (v:Int):EX (pO Tryz.prog Cw gY ndU (GU [] []) 60 167 [.vw false [E9 v 0 0,JA 0],.vw false [E9 v 0 0,JA 0]])=(EX (pO Tryz.prog Cw gY ndU (GU [] []) 60 167 [.vw false [E9 v 0 0,JA 0],.vw false [E9 v 0 0,JA 0]])).map (fun q=>(q.1,q.1)):=by kernel_rfl
theorem Bjj (v:Int):Kc (pO Tryz.prog Cw gY ndU (GU [] []) 60 167 [.vw false [E9 v 0 0,JA 0],.vw false [E9 v 0 0,JA 0]])=[]:=by kernel_rfl
theorem Bpy (v:Int) (c:Bool):Ap Tryz.prog 167 [.vw false (Hu v 0 0 0 c),.vw false (Hu v 0 0 0 c)] (.sc (.bool true)):=by
 cases c
 ·exact pY (lp:=[]) (lv:=[]) Cn Cn (Bje v) (Bjf v) (Bjg v) Fy
 ·exact pY (lp:=[]) (lv:=[]) Cn Cn (Bjh v) (Bji v) (Bjj v) Fy
end Go.Proofs.YtdjpkhjaibdogaaGreat
