/-
  Lemmas towards ModesFaults (joined texts: SXY).
  Conditions: none.
-/
import Derived.Test.YtdjpkhjaibdogaaGreatK01
import Derived.Test.YtdjpkhjaibdogaaGreatK15
set_option linter.unusedSimpArgs false
set_option linter.unusedVariables false
set_option maxRecDepth 100000
namespace Go.SX
def vlE:Value→Value→Bool
 | .bool a,.bool b=>a == b
 | .int k n,.int k' n'=>(k == k') && (n == n')
 | .string a,.string b=>a.data.toList == b.data.toList
 | .slice none 0 0,.slice none 0 0=>true
 | .pointer none,.pointer none=>true
 | .nilFunc,.nilFunc=>true
 | _,_=>false
theorem Arm:∀ {a b:Value},vlE a b=true→a=b:=by
 intro a b h
 unfold vlE at h
 split at h
 ·rw [eq_of_beq h]
 ·simp only [AH] at h
  obtain ⟨h1,h2⟩:=h
  rw [eq_of_beq h1,eq_of_beq h2]
 ·rename_i a b
  have:=eq_of_beq h
  obtain ⟨⟨a⟩⟩:=a
  obtain ⟨⟨b⟩⟩:=b
  simp only at this
  rw [this]
 ·rfl
 ·rfl
 ·rfl
 ·cases h
mutual
def TI:AV→AV→Bool
 | .sc a,.sc b=>vlE a b
 | .ag a,.ag b=>Py a b
 | .tu a,.tu b=>Py a b
 | .pt a b c d,.pt a' b' c' d'=>a == a' && b == b' && c == c' && d == d'
 | .sl a b c d,.sl a' b' c' d'=>a == a' && b == b' && c == c' && d == d'
 | .vw z a,.vw z' a'=>z == z' && Py a a'
 | .vp a i o,.vp a' i' o'=>i == i' && o == o' && Py a a'
 | .fn f a,.fn f' a'=>f == f' && Py a a'
 | .un,.un=>true
 | .jk,.jk=>true
 | _,_=>false
def Py:List AV→List AV→Bool
 | [],[]=>true
 | a::r,a'::r'=>TI a a' && Py r r'
 | _,_=>false
end
mutual
theorem Agf:∀ (a b:AV),TI a b=true→a=b
 | .sc a,b,h=>by
  cases b <;> first | (simp [TI] at h; done) | skip
  simp only [TI] at h
  rw [Arm h]
 | .ag a,b,h=>by
  cases b <;> first | (simp [TI] at h; done) | skip
  simp only [TI] at h
  rw [JR _ _ h]
 | .tu a,b,h=>by
  cases b <;> first | (simp [TI] at h; done) | skip
  simp only [TI] at h
  rw [JR _ _ h]
 | .pt a b c d,x,h=>by
  exact Anu
 | .sl a b c d,x,h=>by
  exact Anu
 | .vw z a,x,h=>by
  exact Anx
 | .vp a i o,x,h=>by
  cases x <;> first | (simp [TI] at h; done) | skip
  simp only [TI,AH,lx85] at h
  obtain ⟨⟨rfl,rfl⟩,h2⟩:=h
  rw [JR _ _ h2]
 | .fn f a,x,h=>by
  exact Anx
 | .un,x,h=>by
  cases x <;> first | (simp [TI] at h; done) | rfl
 | .jk,x,h=>by
  cases x <;> first | (simp [TI] at h; done) | rfl
theorem JR:∀ (a b:List AV),Py a b=true→a=b
 | [],b,h=>by
  cases b <;> first | (simp [Py] at h; done) | rfl
 | a::r,b,h=>by
  cases b <;> first | (simp [Py] at h; done) | skip
  simp only [Py,AH] at h
  rw [Agf _ _ h.1,JR _ _ h.2]
end
def dB:Nat→List Blk→AV→AV
 | 0,_,a=>match a with
  | .ag cs=>.ag (cs.map fun _=>.jk)
  | _=>.jk
 | n+1,H,a=>match a with
  | .pt id ver i off=>match AE H id ver with
   | some B=>.vp (B.els.map (dB n H)) i off
   | none=>.jk
  | .sl id ver lo len=>match AE H id ver with
   | some B=>.vw false (((B.els.drop lo).take len).map (dB n H))
   | none=>.jk
  | .ag cs=>.ag (cs.map (dB n H))
  | .tu cs=>.tu (cs.map (dB n H))
  | .fn f cs=>.fn f (cs.map (dB n H))
  | a=>a
theorem LH (n:Nat) (H:List Blk) (e:AV):(dB n H e).cells.length=e.cells.length∧
  ∀ (j:Nat) (a:AV),(dB n H e).cells[j]?=some a→(∃ (c:AV) (m:Nat),e.cells[j]?=some c∧m≤n∧a=dB m H c)∨a=.jk:=by
 cases n with
 | zero=>
  cases e <;> refine ⟨by simp [dB,AV.cells],fun j a h=>.inr ?_⟩ <;> simp only [dB,AV.cells] at h
  case ag cs=>
   rw [lx23] at h
   cases hq:cs[j]? with
   | none=>rw [hq] at h; cases h
   | some c=>rw [hq] at h; cases h; rfl
  all_goals
   cases j with
   | zero=>cases h; rfl
   | succ j=>simp at h
 | succ n=>
  have one:∀ b:AV,(dB (n+1) H b).cells=[dB (n+1) H b]→b.cells=[b]→(dB (n+1) H b).cells.length=b.cells.length∧
    ∀ (j:Nat) (a:AV),(dB (n+1) H b).cells[j]?=some a→(∃ (c:AV) (m:Nat),b.cells[j]?=some c∧m≤n+1∧a=dB m H c)∨a=.jk:=by
   intro b h1 h2
   refine ⟨by rw [h1,h2]; rfl,fun j a h=>.inl ⟨b,n+1,?_⟩⟩
   rw [h1] at h
   rw [h2]
   cases j with
   | zero=>simp at h; exact ⟨rfl,Ax _,h.symm⟩
   | succ j=>simp at h
  cases e with
  | ag cs=>
   refine ⟨by simp [dB,AV.cells],fun j a h=>?_⟩
   simp only [dB,AV.cells] at h ⊢
   rw [lx23] at h
   cases hq:cs[j]? with
   | none=>rw [hq] at h; cases h
   | some c=>rw [hq] at h; cases h; exact .inl ⟨c,n,rfl,Nat.le_succ n,rfl⟩
  | pt id ver i off=>refine one _ ?_ rfl; simp only [dB]; cases AE H id ver <;> rfl
  | sl id ver lo len=>refine one _ ?_ rfl; simp only [dB]; cases AE H id ver <;> rfl
  | _=>exact one _ rfl rfl
theorem Awz {w X X0 hc} (hr:HR w X hc) (hx:∀ b,X0 b→X b) (ho:∀ b,Ys hc b→¬ X0 b):∀ (n:Nat) (a:AV) {v:Value},VR w X (some hc) a v→VR w X0 (some BW) (dB n hc.H a) v:=by
 intro n
 induction n using Nat.strongRecOn with
 | ind n IH=>
 intro a v h
 cases n with
 | zero=>
  cases a with
  | ag cs=>
   cases h with
   | ag hl h1 h2=>
    refine .ag (by simpa using hl) (fun i c u e1 e2=>?_) h2
    simp only [lx23] at e1
    cases hq:cs[i]? with
    | none=>rw [hq] at e1; cases e1
    | some x=>rw [hq] at e1; cases e1; exact .jk
  | _=>exact .jk
 | succ n=>
  have ih:=IH n (IY n)
  have lst:∀ {cs:List AV} {vs:List Value},(∀ (i:Nat) (a:AV) (v:Value),cs[i]?=some a→vs[i]?=some v→VR w X (some hc) a v)→
    ∀ (i:Nat) (a:AV) (v:Value),(cs.map (dB n hc.H))[i]?=some a→vs[i]?=some v→VR w X0 (some BW) a v:=by
   intro cs vs h1 i c u e1 e2
   simp only [lx23] at e1
   cases hq:cs[i]? with
   | none=>rw [hq] at e1; cases e1
   | some x=>rw [hq] at e1; cases e1; exact ih x (h1 i x u hq e2)
  cases a with
  | sc x=>cases h with | sc h=>exact .sc h
  | un=>cases h; exact .un
  | jk=>exact .jk
  | vw z es=>
   cases h with
   | vw0 hz hm=>exact .vw0 hz hm
   | vw1 f hne hX hb hcap hz hmax hsz hcl hv=>exact .vw1 f hne (fun h=>hX (hx _ h)) hb hcap hz hmax hsz hcl (fun i e j a h1 h2=>(hv i e j a h1 h2).antiX hx)
  | vp es i off=>
   cases h with
   | vp f hX hb hsz hcl hv=>exact .vp f (fun h=>hX (hx _ h)) hb hsz hcl (fun i e j a h1 h2=>(hv i e j a h1 h2).antiX hx)
  | ag cs=>
   cases h with
   | ag hl h1 h2=>exact .ag (by simpa using hl) (lst h1) h2
  | tu cs=>
   cases h with
   | tu hl h1=>exact .tu (by simpa using hl) (lst h1)
  | fn f cs=>
   cases h with
   | fn hl h1=>exact .fn (by simpa using hl) (lst h1)
  | pt id ver i off=>
   simp only [dB]
   split
   ·rename_i B hl
    obtain ⟨b,base,h1,h2,h3,⟨cs,h4⟩,h5⟩:=Gu hr h hl
    obtain ⟨g1,g2,g3⟩:=Ba hl
    subst h2
    refine .vp (fun i j=>(w.cell? ⟨b,base+i * B.esz+j,none⟩).getD undef) (ho b ⟨id,B,base,g1,g2,h1⟩) (hr.lt b h3) ?_ ?_ ?_
    ·intro e he
     obtain ⟨i,hi⟩:=lx44.1 he
     rw [lx23] at hi
     cases hq:B.els[i]? with
     | none=>rw [hq] at hi; cases hi
     | some x=>rw [hq] at hi; cases hi; rw [(LH n hc.H x).1]; exact (h5 i x hq).1
    ·intro i j hi hj
     have hi:i < B.els.length:=by simpa using hi
     exact Ajv
    ·intro i e j a he ha
     rw [lx23] at he
     cases hq:B.els[i]? with
     | none=>rw [hq] at he; cases he
     | some x=>
      rw [hq] at he
      cases he
      obtain ⟨q1,q2⟩:=h5 i x hq
      rcases (LH n hc.H x).2 j a ha with ⟨y,m,e1,hm,rfl⟩ | rfl
      ·obtain ⟨c,k1,k2,k3⟩:=q2 j y e1
       rw [k1]
       exact (IH m (Nat.lt_succ_of_le hm) y k3).close
      ·exact .jk
   ·exact .jk
  | sl id ver lo len=>
   simp only [dB]
   split
   ·rename_i B hl
    obtain ⟨g1,g2,g3⟩:=Ba hl
    cases h with
    | sl q1 q2=>
     obtain ⟨r1,r2⟩:=q2 _ rfl
     obtain ⟨r3,r4⟩:=r2 B g1 g2 g3
     have hlen:(((B.els.drop lo).take len).map (dB n hc.H)).length=len:=E6
     have hB:=hr.blk id B g1 g2
     rcases r4 with ⟨r4,p,hp⟩ | ⟨b,base,cap,nn,hloc,k1,k2,k3,k4,k5⟩
     ·exact Adi
     ·have hB2:=hB.2.2
      rw [hloc] at hB2
      obtain ⟨m1,⟨cs,m2⟩,m3⟩:=hB2
      subst k1
      by_cases h0:len=0
      ·exact Adj
      ·have hne:((B.els.drop lo).take len).map (dB n hc.H)≠[]:=by intro e; rw [e] at hlen; simp at hlen; omega
       have hget:∀ i e,(((B.els.drop lo).take len).map (dB n hc.H))[i]?=some e→∃ x,B.els[lo+i]?=some x∧e=dB n hc.H x:=by
        intro i e he
        rw [lx23,lx19] at he
        split at he
        ·rw [lx20] at he
         cases hq:B.els[lo+i]? with
         | none=>rw [hq] at he; cases he
         | some x=>rw [hq] at he; cases he; exact ⟨x,rfl,rfl⟩
        ·cases he
       have:=VR.vw1 (w:=w) (X:=X0) (o:=some BW) (z:=false) (es:=((B.els.drop lo).take len).map (dB n hc.H)) (b:=b) (base:=base+lo * B.esz) (cap:=cap) (esz:=B.esz)
        (fun i j=>(w.cell? ⟨b,base+lo * B.esz+i * B.esz+j,none⟩).getD undef) hne (ho b ⟨id,B,base,g1,g2,hloc⟩) (hr.lt b m1) (by rw [hlen]; exact k2) (fun h=>by cases h) k3
        (fun e he=>by
         obtain ⟨i,hi⟩:=lx44.1 he
         obtain ⟨x,hx1,rfl⟩:=hget i e hi
         rw [(LH n hc.H x).1]
         exact (m3 _ x hx1).1)
        (fun i j hi hj=>by
         have he:(((B.els.drop lo).take len).map (dB n hc.H))[i]?=some (((B.els.drop lo).take len).map (dB n hc.H))[i]:=lx51 hi
         obtain ⟨x,hx1,_⟩:=hget i _ he
         obtain ⟨q1,q2⟩:=m3 _ _ hx1
         obtain ⟨c,e1,e2,e3⟩:=q2 j (x.cells[j]'(by omega)) (by simp)
         rw [Gt,←Gd] at e1
         rw [e1]
         exact ⟨rfl,e2⟩)
        (fun i e j a he ha=>by
         obtain ⟨x,hx1,rfl⟩:=hget i e he
         obtain ⟨q1,q2⟩:=m3 _ x hx1
         rcases (LH n hc.H x).2 j a ha with ⟨y,m,e1,hm,rfl⟩ | rfl
         ·obtain ⟨c,k1,k2,k3⟩:=q2 j y e1
          rw [Gt,←Gd] at k1
          rw [k1]
          exact (IH m (Nat.lt_succ_of_le hm) y k3).close
         ·exact .jk)
       rw [hlen] at this
       exact this
   ·exact .jk
theorem SV {P:Program} {E:Env} (hE:EnvOk P E) (hm:P.follows .mixedOrders=true) {f:FuncId} {fn:Func} {c:Code} {args:List AV} {r:AV} (n:Nat)
  (hf:P.funcs[f]?=some fn) (hb:fn.body=some c) (hn:(fn.name == "runtime.NumGoroutine")=false) (hlex:C7 E.hb E.perm c=true) (hr:r.noref=true)
  (h:Go P E 0 fn.results.toList (fun r' s'=>dB n s'.H r'=r) [.code c] (Af fn args [] 0)):Db P f args r:=by
 refine ⟨⟨fn,hf,hn,by rw [hb]; rfl⟩,hr,fun w X0 cargs hx hv=>?_⟩
 have J8:HR w X0 ⟨fun _=>none,[],0⟩:=⟨fun id B h1 _=>by simp at h1,fun id id' B B' b o o' h1=>by simp at h1,hx⟩
 refine (DJ hE hm hf hb hlex (H:=[]) (cnt:=0) (R:=fun r' s'=>dB n s'.H r'=r) h w X0 (fun _=>none) cargs J8 hv).mono ?_
 rintro e w' ⟨r',s',X',loc',c',rfl,rfl,g1,g2,g3⟩
 have hown:∀ b,Ys (s'.hc loc') b→¬ X0 b:=by
  exact Aod
 refine ⟨c',rfl,Awz g1 (fun b hb0=>(g3.xs b (hx b hb0)).2 hb0) hown n _ g2,g3.os,g3.tape,g3.output,g3.size,fun k hk=>g3.keep k hk ?_⟩
 exact TP
def Arn (E:Env) (isV:Nat→Bool):Prop:=∀ g,isV g=true→E.isP g=false∧∃ F:List AV→Option AV,∀ args H cnt,E.hcall g args H cnt=(F args).map fun r=>(r,H,cnt)
def isVop (isV:Nat→Bool) (s:St) (o:Op):Bool:=B9 o && match E9 s o with
 | some (g,_)=>isV g
 | none=>false
theorem Aky {P:Program} {E:Env} {isV:Nat→Bool} (hV:Arn E isV) {ops:Array Oper} {T:List AV} {H:List Blk} {c:Nat} {o:Oper} {s':St} (hv:isVop isV ⟨T,H,c⟩ o.op=true) (h:Ad P E ops ⟨T,H,c⟩ o=some s'):
  s'.H=H∧s'.cnt=c∧∀ H2 c2,Ad P E ops ⟨T,H2,c2⟩ o=some ⟨s'.T,H2,c2⟩:=by
 unfold isVop at hv
 simp only [AH] at hv
 obtain ⟨hc,hv⟩:=hv
 split at hv
 ·rename_i g args ht
  obtain ⟨hp,F,hF⟩:=hV g hv
  have ht2:∀ H2 c2,E9 ⟨T,H2,c2⟩ o.op=some (g,args):=fun H2 c2=>ht
  have pure:∀ H2 c2,¬ AP E ⟨T,H2,c2⟩ o.op=true:=by
   intro H2 c2
   unfold AP
   rw [hc,if_pos rfl,ht2]
   simp only
   rw [hp]; decide
  have Fu:∀ H2 c2,Fu P E ⟨T,H2,c2⟩ o=(F args).map fun r=>St.put ⟨T,H2,c2⟩ o.dst r:=by
   intro H2 c2
   unfold Fu
   rw [hc,if_pos rfl,ht2]
   simp only [hF]
   cases F args <;> rfl
  have put:∀ (d:Option Nat) (v:AV) (H2:List Blk) (c2:Nat),St.put ⟨T,H2,c2⟩ d v=⟨(St.put ⟨T,H,c⟩ d v).T,H2,c2⟩:=by
   intro d v H2 c2
   cases d <;> rfl
  unfold Ad at h ⊢
  cases hg:o.guard with
  | none=>
   rw [hg] at h
   simp only [if_neg (pure _ _),Fu] at h ⊢
   cases hq:F args with
   | none=>rw [hq] at h; cases h
   | some r=>
    rw [hq] at h
    cases h
    refine ⟨by cases o.dst <;> rfl,by cases o.dst <;> rfl,fun H2 c2=>?_⟩
    rw [lx34,put o.dst r H2 c2]
  | some jw=>
   obtain ⟨j,want⟩:=jw
   rw [hg] at h
   have gv:∀ H2 c2,Ao ops ⟨T,H2,c2⟩ j=Ao ops ⟨T,H,c⟩ j:=fun _ _=>rfl
   simp only [gv,if_neg (pure _ _),Fu] at h ⊢
   split at h
   ·split at h
    ·rename_i hw
     cases hq:F args with
     | none=>rw [hq] at h; cases h
     | some r=>
      rw [hq] at h
      cases h
      refine ⟨by cases o.dst <;> rfl,by cases o.dst <;> rfl,fun H2 c2=>?_⟩
      rw [if_pos hw,lx34,put o.dst r H2 c2]
    ·rename_i hw
     cases h
     refine ⟨by cases o.dst <;> rfl,by cases o.dst <;> rfl,fun H2 c2=>?_⟩
     rw [if_neg hw,put o.dst .un H2 c2]
   ·cases h
    refine ⟨by cases o.dst <;> rfl,by cases o.dst <;> rfl,fun H2 c2=>?_⟩
    rw [put o.dst .un H2 c2]
   ·cases h
 ·cases hv
def sameB (P:Program) (E:Env) (ops:Array Oper) (o:Oper) (T T':List AV) (H:List Blk) (c:Nat):Bool:=
 AP E ⟨T,H,c⟩ o.op && match Ad P E ops ⟨T,H,c⟩ o,o.dst with
  | some s1,some d=>TI (s1.T.getD d .un) (T'.getD d .un)
  | some _,none=>true
  | none,_=>false
theorem KK {P:Program} {E:Env} {ops:Array Oper} {s s':St} {o:Oper} (hp:AP E s o.op=true) (h:Ad P E ops s o=some s'):∃ v,s'=s.put o.dst v:=by
 unfold Ad at h
 simp only [hp,lx6] at h
 split at h
 ·simp only [lx24] at h
  obtain ⟨v,_,h⟩:=h
  exact ⟨v,h.symm⟩
 ·split at h
  ·simp only [lx24] at h
   obtain ⟨v,_,h⟩:=h
   exact ⟨v,h.symm⟩
  ·cases h; exact ⟨_,rfl⟩
  ·cases h
theorem Agg {P:Program} {E:Env} {ops:Array Oper} {o:Oper} {T T':List AV} {H H0:List Blk} {c c0:Nat} (hT:∃ v,T'=(St.put ⟨T,H0,c0⟩ o.dst v).T) (h:sameB P E ops o T T' H c=true):
  Ad P E ops ⟨T,H,c⟩ o=some ⟨T',H,c⟩:=by
 unfold sameB at h
 simp only [AH] at h
 obtain ⟨hp,h⟩:=h
 obtain ⟨v,hT⟩:=hT
 split at h
 ·rename_i s1 d h1 hd
  obtain ⟨v1,rfl⟩:=KK hp h1
  have:=Agf _ _ h
  rw [h1]
  rw [hd] at hT this ⊢
  simp only [St.put] at hT this ⊢
  rw [hT] at this ⊢
  by_cases hl:d < T.length
  ·simp [lx80,hl] at this
   rw [this]
  ·have hl':T.length≤d:=Nat.le_of_not_lt hl
   rw [lx72 hl',lx72 hl']
 ·rename_i s1 h1 hd
  obtain ⟨v1,rfl⟩:=KK hp h1
  rw [h1,hT,hd]
  rfl
 ·cases h
def Pz (P:Program) (E:Env) (isV:Nat→Bool) (ops:Array Oper) (i:Nat) (o:Oper) (T T':List AV):List Past→Bool
 | []=>true
 | h::r=>(gB E.hb ops h.at_ i || (isVop isV ⟨T,[],0⟩ o.op || sameB P E ops o T T' h.H h.c)) && Pz P E isV ops i o T T' r
def PA (P:Program) (E:Env) (isV:Nat→Bool) (ops:Array Oper) (k:Nat) (H:List Blk) (c:Nat):List Did→Bool
 | []=>true
 | d::r=>(gB E.hb ops d.at_ k || (isVop isV ⟨d.T,[],0⟩ d.o.op || sameB P E ops d.o d.T d.T' H c)) && PA P E isV ops k H c r
def ZH (κ:Nat→Bool) (ops:Array Oper) (i:Nat) (H':List Blk):Op→Bool
 | .buildSlice ..=>gB κ ops i i || norefs (CZ H')
 | _=>true
def Jq (P:Program) (E:Env) (isV:Nat→Bool) (ops:Array Oper):List Oper→Nat→St→List Past→List Did→Option St
 | [],_,s,_,_=>some s
 | o::r,i,s,hs,ds=>match Ad P E ops s o with
  | none=>none
  | some s'=>
   match Ce E.hb o.op with
   | false=>
    match AI o.op with
    | true=>Jq P E isV ops r (i+1) s' hs ds
    | false=>match (AP E s o.op || isVop isV s o.op) && Pz P E isV ops i o s.T s'.T hs with
     | true=>Jq P E isV ops r (i+1) s' hs (⟨i,o,s.T,s'.T⟩::ds)
     | false=>none
   | true=>match PA P E isV ops i s'.H s'.cnt ds && ZH E.hb ops i s'.H o.op with
    | true=>Jq P E isV ops r (i+1) s' (⟨i,s.H,s.cnt⟩::hs) ds
    | false=>none
theorem Xo {κ:Nat→Bool} {ops:Array Oper} {i k:Nat} {p:Prop} {b:Bool} (hb:b=true→p) (h:(gB κ ops i k || b)=true):Chk κ ops i k p:=by
 intro hg
 rw [hg,Oi] at h
 exact hb h
def ZI (P:Program) (E:Env) (isV:Nat→Bool) (ops:Array Oper) (o:Oper) (T T':List AV):Prop:=
 (isVop isV ⟨T,[],0⟩ o.op=true→∀ H c,Ad P E ops ⟨T,H,c⟩ o=some ⟨T',H,c⟩)∧(isVop isV ⟨T,[],0⟩ o.op=false→∃ H0 c0 v,T'=(St.put ⟨T,H0,c0⟩ o.dst v).T)
theorem VZ {P:Program} {E:Env} {isV:Nat→Bool} {ops:Array Oper} {o:Oper} {T T':List AV} {H:List Blk} {c:Nat} (hd:ZI P E isV ops o T T') (h:(isVop isV ⟨T,[],0⟩ o.op || sameB P E ops o T T' H c)=true):
  Ad P E ops ⟨T,H,c⟩ o=some ⟨T',H,c⟩:=by
 cases hv:isVop isV ⟨T,[],0⟩ o.op with
 | true=>exact hd.1 hv H c
 | false=>
  obtain ⟨H0,c0,hT⟩:=hd.2 hv
  rw [hv,Oi] at h
  exact Agg (H0:=H0) (c0:=c0) hT h
theorem V0 {P:Program} {E:Env} {isV:Nat→Bool} {ops:Array Oper} {i:Nat} {o:Oper} {T T':List AV} (hT:ZI P E isV ops o T T'):∀ {hs:List Past},Pz P E isV ops i o T T' hs=true→Ss P E ops i o T T' hs
 | [],_=>trivial
 | h::r,hb=>by
  simp only [Pz,AH] at hb
  exact ⟨Xo (VZ hT) hb.1,V0 hT hb.2⟩
def Ap4 (P:Program) (E:Env) (isV:Nat→Bool) (ops:Array Oper) (ds:List Did):Prop:=∀ d ∈ ds,ZI P E isV ops d.o d.T d.T'
theorem V1 {P:Program} {E:Env} {isV:Nat→Bool} {ops:Array Oper} {k:Nat} {H:List Blk} {c:Nat}:∀ {ds:List Did},Ap4 P E isV ops ds→PA P E isV ops k H c ds=true→chkF P E ops k H c ds
 | [],_,_=>trivial
 | d::r,hd,hb=>by
  simp only [PA,AH] at hb
  exact ⟨Xo (VZ (hd d lx48)) hb.1,V1 (fun x hx=>hd x (lx49 _ hx)) hb.2⟩
theorem Agh {E:Env} {ops:Array Oper} {i:Nat} {H:List Blk} {o:Op} (h:ZH E.hb ops i H o=true):Ki E.hb ops i H o:=by
 cases o <;> first | trivial | exact Xo id h
theorem HV {P:Program} {E:Env} {isV:Nat→Bool} (hV:Arn E isV) {ops:Array Oper} {s1:St}:∀ {l:List Oper} {i:Nat} {s:St} {hs:List Past} {ds:List Did},Ap4 P E isV ops ds→Jq P E isV ops l i s hs ds=some s1→Dp P E ops (·=s1) l i s hs ds
 | [],i,s,hs,ds,hd,h=>by simp only [Jq,lx16] at h; exact h
 | o::r,i,s,hs,ds,hd,h=>by
  simp only [Jq] at h
  split at h
  ·cases h
  ·rename_i s' hs'
   refine ⟨s',hs',?_⟩
   split at h
   ·rename_i hh
    rw [if_pos hh]
    split at h
    ·rename_i hn
     rw [if_pos hn]
     exact HV hV hd h
    ·rename_i hn
     rw [if_neg (by rw [hn]; decide)]
     split at h
     ·rename_i hc
      simp only [AH,IX] at hc
      have key:(s'.H=s.H∧s'.cnt=s.cnt)∧ZI P E isV ops o s.T s'.T:=by
       cases hv:isVop isV s o.op with
       | true=>
        obtain ⟨k1,k2,k3⟩:=Aky hV hv hs'
        exact ⟨⟨k1,k2⟩,⟨fun _=>k3,fun h'=>by rw [show isVop isV ⟨s.T,[],0⟩ o.op=isVop isV s o.op from rfl,hv] at h'; cases h'⟩⟩
       | false=>
        have hp:AP E s o.op=true:=by
         rcases hc.1 with h' | h'
         ·exact h'
         ·rw [hv] at h'; cases h'
        obtain ⟨v,hv'⟩:=KK hp hs'
        exact ⟨Mn hp hs',⟨fun h'=>(by rw [show isVop isV ⟨s.T,[],0⟩ o.op=isVop isV s o.op from rfl,hv] at h'; cases h'),fun _=>⟨s.H,s.cnt,v,by rw [hv']⟩⟩⟩
      exact ⟨key.1,V0 key.2 hc.2,HV hV (fun d hm=>by
       rcases lx59.1 hm with rfl | hm
       ·exact key.2
       ·exact hd d hm) h⟩
     ·cases h
   ·rename_i hh
    rw [if_neg (by rw [hh]; decide)]
    split at h
    ·rename_i hc
     simp only [AH] at hc
     exact ⟨V1 hd hc.1,Agh hc.2,HV hV hd h⟩
    ·cases h
def Agi:Item→Bool
 | .code .ret=>true
 | _=>false
theorem NT {P:Program} {E:Env} {n0:Nat} {rs:List ResultVar} {R R':AV→St→Prop} {k:List Item} {s:St} (h:Go P E n0 rs R k s) (hR:∀ r s,R r s→R' r s):Go P E n0 rs R' k s:=by
 induction h with
 | ret h h1=>exact .ret h (hR _ _ h1)
 | fin h h1=>exact .fin h (hR _ _ h1)
 | skip _ ih=>exact .skip ih
 | seq _ ih=>exact .seq ih
 | cond t hc _ ih=>exact .cond t hc ih
 | block _ ih=>exact .block ih
 | inBlock _ ih=>exact .inBlock ih
 | loop _ ih=>exact .loop ih
 | inLoop _ ih=>exact .inLoop ih
 | exit he _ ih=>exact .exit he ih
 | region hr _ ih=>exact .region hr ih
 | draw hp hr _ ih=>exact .draw hp hr ih
 | drawH hp hh hr _ ih=>exact .drawH hp hh hr ih
 | drawP hp hr _ ih=>exact .drawP hp hr ih
 | ghost hg _ ih=>exact .ghost hg ih
 | alt hg _ ih=>exact .alt hg ih
 | know hp _ ih=>exact .know hp ih
 | sem hg _ ih=>exact .sem hg ih
structure Giv where
 p:Nat→List AV→Option AV
 v:Nat→List AV→Option AV
 h:Nat→List AV→List Blk→Nat→Option (AV × List Blk × Nat)
 f:Nat→List AV→Option AV
structure GivOk (P:Program) (G:Giv):Prop where
 p:∀ f args r,G.p f args=some r→CO P f args r
 v:∀ f args r,G.v f args=some r→Db P f args r
 h:∀ f args H cnt r H' cnt',G.h f args H cnt=some (r,H',cnt')→HSpec P f args H cnt r H' cnt'
 f:∀ f args r,G.f f args=some r→IQ P f args r
def Ax0:Nat:=1000000
end Go.SX
