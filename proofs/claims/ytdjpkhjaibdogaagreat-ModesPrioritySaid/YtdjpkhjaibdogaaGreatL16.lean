/-
  Lemmas towards ModesPriority (joined texts: SXY, SYA).
  Conditions: none.
-/
import Derived.Test.YtdjpkhjaibdogaaGreatL01
import Derived.Test.YtdjpkhjaibdogaaGreatL15
import Derived.Laws.Strings
set_option linter.unusedSimpArgs false
set_option linter.unusedVariables false
set_option maxRecDepth 100000
namespace Go.SX
def vlE:Value→Value→Bool
 | .bool a,.bool b=>a == b
 | .int k n,.int k' n'=>(k == k') && (n == n')
 | .string a,.string b=>a.data.toList == b.data.toList
 | .slice none 0 0,.slice none 0 0=>true
 | .pointer none,.pointer none=>true
 | .nilFunc,.nilFunc=>true
 | _,_=>false
theorem Azm:∀ {a b:Value},vlE a b=true→a=b:=by
 intro a b h
 unfold vlE at h
 split at h
 ·rw [eq_of_beq h]
 ·simp only [AH] at h
  obtain ⟨h1,h2⟩:=h
  rw [eq_of_beq h1,eq_of_beq h2]
 ·rename_i a b
  have:=eq_of_beq h
  obtain ⟨⟨a⟩⟩:=a
  obtain ⟨⟨b⟩⟩:=b
  simp only at this
  rw [this]
 ·rfl
 ·rfl
 ·rfl
 ·cases h
mutual
def NA:AV→AV→Bool
 | .sc a,.sc b=>vlE a b
 | .ag a,.ag b=>NV a b
 | .tu a,.tu b=>NV a b
 | .pt a b c d,.pt a' b' c' d'=>a == a' && b == b' && c == c' && d == d'
 | .sl a b c d,.sl a' b' c' d'=>a == a' && b == b' && c == c' && d == d'
 | .vw z a,.vw z' a'=>z == z' && NV a a'
 | .vp a i o,.vp a' i' o'=>i == i' && o == o' && NV a a'
 | .fn f a,.fn f' a'=>f == f' && NV a a'
 | .un,.un=>true
 | .jk,.jk=>true
 | _,_=>false
def NV:List AV→List AV→Bool
 | [],[]=>true
 | a::r,a'::r'=>NA a a' && NV r r'
 | _,_=>false
end
mutual
theorem Ab6:∀ (a b:AV),NA a b=true→a=b
 | .sc a,b,h=>by
  cases b <;> first | (simp [NA] at h; done) | skip
  simp only [NA] at h
  rw [Azm h]
 | .ag a,b,h=>by
  cases b <;> first | (simp [NA] at h; done) | skip
  simp only [NA] at h
  rw [Kx _ _ h]
 | .tu a,b,h=>by
  cases b <;> first | (simp [NA] at h; done) | skip
  simp only [NA] at h
  rw [Kx _ _ h]
 | .pt a b c d,x,h=>by
  exact Bd9
 | .sl a b c d,x,h=>by
  exact Bd9
 | .vw z a,x,h=>by
  exact Bdc
 | .vp a i o,x,h=>by
  cases x <;> first | (simp [NA] at h; done) | skip
  simp only [NA,AH,lx86] at h
  obtain ⟨⟨rfl,rfl⟩,h2⟩:=h
  rw [Kx _ _ h2]
 | .fn f a,x,h=>by
  exact Bdc
 | .un,x,h=>by
  cases x <;> first | (simp [NA] at h; done) | rfl
 | .jk,x,h=>by
  cases x <;> first | (simp [NA] at h; done) | rfl
theorem Kx:∀ (a b:List AV),NV a b=true→a=b
 | [],b,h=>by
  cases b <;> first | (simp [NV] at h; done) | rfl
 | a::r,b,h=>by
  cases b <;> first | (simp [NV] at h; done) | skip
  simp only [NV,AH] at h
  rw [Ab6 _ _ h.1,Kx _ _ h.2]
end
def dB:Nat→List Blk→AV→AV
 | 0,_,a=>match a with
  | .ag cs=>.ag (cs.map fun _=>.jk)
  | _=>.jk
 | n+1,H,a=>match a with
  | .pt id ver i off=>match AJ H id ver with
   | some B=>.vp (B.els.map (dB n H)) i off
   | none=>.jk
  | .sl id ver lo len=>match AJ H id ver with
   | some B=>.vw false (((B.els.drop lo).take len).map (dB n H))
   | none=>.jk
  | .ag cs=>.ag (cs.map (dB n H))
  | .tu cs=>.tu (cs.map (dB n H))
  | .fn f cs=>.fn f (cs.map (dB n H))
  | a=>a
theorem MW (n:Nat) (H:List Blk) (e:AV):(dB n H e).cells.length=e.cells.length∧
  ∀ (j:Nat) (a:AV),(dB n H e).cells[j]?=some a→(∃ (c:AV) (m:Nat),e.cells[j]?=some c∧m≤n∧a=dB m H c)∨a=.jk:=by
 cases n with
 | zero=>
  cases e <;> refine ⟨by simp [dB,AV.cells],fun j a h=>.inr ?_⟩ <;> simp only [dB,AV.cells] at h
  case ag cs=>
   rw [lx23] at h
   cases hq:cs[j]? with
   | none=>rw [hq] at h; cases h
   | some c=>rw [hq] at h; cases h; rfl
  all_goals
   cases j with
   | zero=>cases h; rfl
   | succ j=>simp at h
 | succ n=>
  have one:∀ b:AV,(dB (n+1) H b).cells=[dB (n+1) H b]→b.cells=[b]→(dB (n+1) H b).cells.length=b.cells.length∧
    ∀ (j:Nat) (a:AV),(dB (n+1) H b).cells[j]?=some a→(∃ (c:AV) (m:Nat),b.cells[j]?=some c∧m≤n+1∧a=dB m H c)∨a=.jk:=by
   intro b h1 h2
   refine ⟨by rw [h1,h2]; rfl,fun j a h=>.inl ⟨b,n+1,?_⟩⟩
   rw [h1] at h
   rw [h2]
   cases j with
   | zero=>simp at h; exact ⟨rfl,Av _,h.symm⟩
   | succ j=>simp at h
  cases e with
  | ag cs=>
   refine ⟨by simp [dB,AV.cells],fun j a h=>?_⟩
   simp only [dB,AV.cells] at h ⊢
   rw [lx23] at h
   cases hq:cs[j]? with
   | none=>rw [hq] at h; cases h
   | some c=>rw [hq] at h; cases h; exact .inl ⟨c,n,rfl,Nat.le_succ n,rfl⟩
  | pt id ver i off=>refine one _ ?_ rfl; simp only [dB]; cases AJ H id ver <;> rfl
  | sl id ver lo len=>refine one _ ?_ rfl; simp only [dB]; cases AJ H id ver <;> rfl
  | _=>exact one _ rfl rfl
theorem Bf3 {w X X0 hc} (hr:HR w X hc) (hx:∀ b,X0 b→X b) (ho:∀ b,Own hc b→¬ X0 b):∀ (n:Nat) (a:AV) {v:Value},VR w X (some hc) a v→VR w X0 (some Cc) (dB n hc.H a) v:=by
 intro n
 induction n using Nat.strongRecOn with
 | ind n IH=>
 intro a v h
 cases n with
 | zero=>
  cases a with
  | ag cs=>
   cases h with
   | ag hl h1 h2=>
    refine .ag (by simpa using hl) (fun i c u e1 e2=>?_) h2
    simp only [lx23] at e1
    cases hq:cs[i]? with
    | none=>rw [hq] at e1; cases e1
    | some x=>rw [hq] at e1; cases e1; exact .jk
  | _=>exact .jk
 | succ n=>
  have ih:=IH n (WL n)
  have lst:∀ {cs:List AV} {vs:List Value},(∀ (i:Nat) (a:AV) (v:Value),cs[i]?=some a→vs[i]?=some v→VR w X (some hc) a v)→
    ∀ (i:Nat) (a:AV) (v:Value),(cs.map (dB n hc.H))[i]?=some a→vs[i]?=some v→VR w X0 (some Cc) a v:=by
   intro cs vs h1 i c u e1 e2
   simp only [lx23] at e1
   cases hq:cs[i]? with
   | none=>rw [hq] at e1; cases e1
   | some x=>rw [hq] at e1; cases e1; exact ih x (h1 i x u hq e2)
  cases a with
  | sc x=>cases h with | sc h=>exact .sc h
  | un=>cases h; exact .un
  | jk=>exact .jk
  | vw z es=>
   cases h with
   | vw0 hz hm=>exact .vw0 hz hm
   | vw1 f hne hX hb hcap hz hmax hsz hcl hv=>exact .vw1 f hne (fun h=>hX (hx _ h)) hb hcap hz hmax hsz hcl (fun i e j a h1 h2=>(hv i e j a h1 h2).antiX hx)
  | vp es i off=>
   cases h with
   | vp f hX hb hsz hcl hv=>exact .vp f (fun h=>hX (hx _ h)) hb hsz hcl (fun i e j a h1 h2=>(hv i e j a h1 h2).antiX hx)
  | ag cs=>
   cases h with
   | ag hl h1 h2=>exact .ag (by simpa using hl) (lst h1) h2
  | tu cs=>
   cases h with
   | tu hl h1=>exact .tu (by simpa using hl) (lst h1)
  | fn f cs=>
   cases h with
   | fn hl h1=>exact .fn (by simpa using hl) (lst h1)
  | pt id ver i off=>
   simp only [dB]
   split
   ·rename_i B hl
    obtain ⟨b,base,h1,h2,h3,⟨cs,h4⟩,h5⟩:=Gy hr h hl
    obtain ⟨g1,g2,g3⟩:=Bc hl
    subst h2
    refine .vp (fun i j=>(w.cell? ⟨b,base+i * B.esz+j,none⟩).getD undef) (ho b ⟨id,B,base,g1,g2,h1⟩) (hr.lt b h3) ?_ ?_ ?_
    ·intro e he
     obtain ⟨i,hi⟩:=lx44.1 he
     rw [lx23] at hi
     cases hq:B.els[i]? with
     | none=>rw [hq] at hi; cases hi
     | some x=>rw [hq] at hi; cases hi; rw [(MW n hc.H x).1]; exact (h5 i x hq).1
    ·intro i j hi hj
     have hi:i < B.els.length:=by simpa using hi
     exact Aqn
    ·intro i e j a he ha
     rw [lx23] at he
     cases hq:B.els[i]? with
     | none=>rw [hq] at he; cases he
     | some x=>
      rw [hq] at he
      cases he
      obtain ⟨q1,q2⟩:=h5 i x hq
      rcases (MW n hc.H x).2 j a ha with ⟨y,m,e1,hm,rfl⟩ | rfl
      ·obtain ⟨c,k1,k2,k3⟩:=q2 j y e1
       rw [k1]
       exact (IH m (Nat.lt_succ_of_le hm) y k3).close
      ·exact .jk
   ·exact .jk
  | sl id ver lo len=>
   simp only [dB]
   split
   ·rename_i B hl
    obtain ⟨g1,g2,g3⟩:=Bc hl
    cases h with
    | sl q1 q2=>
     obtain ⟨r1,r2⟩:=q2 _ rfl
     obtain ⟨r3,r4⟩:=r2 B g1 g2 g3
     have hlen:(((B.els.drop lo).take len).map (dB n hc.H)).length=len:=F6
     have hB:=hr.blk id B g1 g2
     rcases r4 with ⟨r4,p,hp⟩ | ⟨b,base,cap,nn,hloc,k1,k2,k3,k4,k5⟩
     ·exact Ajq
     ·have hB2:=hB.2.2
      rw [hloc] at hB2
      obtain ⟨m1,⟨cs,m2⟩,m3⟩:=hB2
      subst k1
      by_cases h0:len=0
      ·exact Ajr
      ·have hne:((B.els.drop lo).take len).map (dB n hc.H)≠[]:=by intro e; rw [e] at hlen; simp at hlen; omega
       have hget:∀ i e,(((B.els.drop lo).take len).map (dB n hc.H))[i]?=some e→∃ x,B.els[lo+i]?=some x∧e=dB n hc.H x:=by
        intro i e he
        rw [lx23,lx19] at he
        split at he
        ·rw [lx20] at he
         cases hq:B.els[lo+i]? with
         | none=>rw [hq] at he; cases he
         | some x=>rw [hq] at he; cases he; exact ⟨x,rfl,rfl⟩
        ·cases he
       have:=VR.vw1 (w:=w) (X:=X0) (o:=some Cc) (z:=false) (es:=((B.els.drop lo).take len).map (dB n hc.H)) (b:=b) (base:=base+lo * B.esz) (cap:=cap) (esz:=B.esz)
        (fun i j=>(w.cell? ⟨b,base+lo * B.esz+i * B.esz+j,none⟩).getD undef) hne (ho b ⟨id,B,base,g1,g2,hloc⟩) (hr.lt b m1) (by rw [hlen]; exact k2) (fun h=>by cases h) k3
        (fun e he=>by
         obtain ⟨i,hi⟩:=lx44.1 he
         obtain ⟨x,hx1,rfl⟩:=hget i e hi
         rw [(MW n hc.H x).1]
         exact (m3 _ x hx1).1)
        (fun i j hi hj=>by
         have he:(((B.els.drop lo).take len).map (dB n hc.H))[i]?=some (((B.els.drop lo).take len).map (dB n hc.H))[i]:=lx50 hi
         obtain ⟨x,hx1,_⟩:=hget i _ he
         obtain ⟨q1,q2⟩:=m3 _ _ hx1
         obtain ⟨c,e1,e2,e3⟩:=q2 j (x.cells[j]'(by omega)) (by simp)
         rw [Gx,←F0] at e1
         rw [e1]
         exact ⟨rfl,e2⟩)
        (fun i e j a he ha=>by
         obtain ⟨x,hx1,rfl⟩:=hget i e he
         obtain ⟨q1,q2⟩:=m3 _ x hx1
         rcases (MW n hc.H x).2 j a ha with ⟨y,m,e1,hm,rfl⟩ | rfl
         ·obtain ⟨c,k1,k2,k3⟩:=q2 j y e1
          rw [Gx,←F0] at k1
          rw [k1]
          exact (IH m (Nat.lt_succ_of_le hm) y k3).close
         ·exact .jk)
       rw [hlen] at this
       exact this
   ·exact .jk
theorem VM {P:Program} {E:Env} (hE:EnvOk P E) (hm:P.follows .mixedOrders=true) {f:FuncId} {fn:Func} {c:Code} {args:List AV} {r:AV} (n:Nat)
  (hf:P.funcs[f]?=some fn) (hb:fn.body=some c) (hn:(fn.name == "runtime.NumGoroutine")=false) (hlex:C2 E.hb E.perm c=true) (hr:r.noref=true)
  (h:Go P E 0 fn.results.toList (fun r' s'=>dB n s'.H r'=r) [.code c] (Ae fn args [] 0)):Ba P f args r:=by
 refine ⟨⟨fn,hf,hn,by rw [hb]; rfl⟩,hr,fun w X0 cargs hx hv=>?_⟩
 have Kp:HR w X0 ⟨fun _=>none,[],0⟩:=⟨fun id B h1 _=>by simp at h1,fun id id' B B' b o o' h1=>by simp at h1,hx⟩
 refine (DG hE hm hf hb hlex (H:=[]) (cnt:=0) (R:=fun r' s'=>dB n s'.H r'=r) h w X0 (fun _=>none) cargs Kp hv).mono ?_
 rintro e w' ⟨r',s',X',loc',c',rfl,rfl,g1,g2,g3⟩
 have hown:∀ b,Own (s'.hc loc') b→¬ X0 b:=by
  exact Bdr
 refine ⟨c',rfl,Bf3 g1 (fun b hb0=>(g3.xs b (hx b hb0)).2 hb0) hown n _ g2,g3.os,g3.tape,g3.output,g3.size,fun k hk=>g3.keep k hk ?_⟩
 exact Ah3
def Azn (E:Env) (isV:Nat→Bool):Prop:=∀ g,isV g=true→E.isP g=false∧∃ F:List AV→Option AV,∀ args H cnt,E.hcall g args H cnt=(F args).map fun r=>(r,H,cnt)
def isVop (isV:Nat→Bool) (s:St) (o:Op):Bool:=Bk o && match EN s o with
 | some (g,_)=>isV g
 | none=>false
theorem Ari {P:Program} {E:Env} {isV:Nat→Bool} (hV:Azn E isV) {ops:Array Oper} {T:List AV} {H:List Blk} {c:Nat} {o:Oper} {s':St} (hv:isVop isV ⟨T,H,c⟩ o.op=true) (h:Ag P E ops ⟨T,H,c⟩ o=some s'):
  s'.H=H∧s'.cnt=c∧∀ H2 c2,Ag P E ops ⟨T,H2,c2⟩ o=some ⟨s'.T,H2,c2⟩:=by
 unfold isVop at hv
 simp only [AH] at hv
 obtain ⟨hc,hv⟩:=hv
 split at hv
 ·rename_i g args ht
  obtain ⟨hp,F,hF⟩:=hV g hv
  have ht2:∀ H2 c2,EN ⟨T,H2,c2⟩ o.op=some (g,args):=fun H2 c2=>ht
  have pure:∀ H2 c2,¬ AQ E ⟨T,H2,c2⟩ o.op=true:=by
   intro H2 c2
   unfold AQ
   rw [hc,if_pos rfl,ht2]
   simp only
   rw [hp]; decide
  have Fe:∀ H2 c2,Fe P E ⟨T,H2,c2⟩ o=(F args).map fun r=>St.put ⟨T,H2,c2⟩ o.dst r:=by
   intro H2 c2
   unfold Fe
   rw [hc,if_pos rfl,ht2]
   simp only [hF]
   cases F args <;> rfl
  have put:∀ (d:Option Nat) (v:AV) (H2:List Blk) (c2:Nat),St.put ⟨T,H2,c2⟩ d v=⟨(St.put ⟨T,H,c⟩ d v).T,H2,c2⟩:=by
   intro d v H2 c2
   cases d <;> rfl
  unfold Ag at h ⊢
  cases hg:o.guard with
  | none=>
   rw [hg] at h
   simp only [if_neg (pure _ _),Fe] at h ⊢
   cases hq:F args with
   | none=>rw [hq] at h; cases h
   | some r=>
    rw [hq] at h
    cases h
    refine ⟨by cases o.dst <;> rfl,by cases o.dst <;> rfl,fun H2 c2=>?_⟩
    rw [lx34,put o.dst r H2 c2]
  | some jw=>
   obtain ⟨j,want⟩:=jw
   rw [hg] at h
   have gv:∀ H2 c2,Ao ops ⟨T,H2,c2⟩ j=Ao ops ⟨T,H,c⟩ j:=fun _ _=>rfl
   simp only [gv,if_neg (pure _ _),Fe] at h ⊢
   split at h
   ·split at h
    ·rename_i hw
     cases hq:F args with
     | none=>rw [hq] at h; cases h
     | some r=>
      rw [hq] at h
      cases h
      refine ⟨by cases o.dst <;> rfl,by cases o.dst <;> rfl,fun H2 c2=>?_⟩
      rw [if_pos hw,lx34,put o.dst r H2 c2]
    ·rename_i hw
     cases h
     refine ⟨by cases o.dst <;> rfl,by cases o.dst <;> rfl,fun H2 c2=>?_⟩
     rw [if_neg hw,put o.dst .un H2 c2]
   ·cases h
    refine ⟨by cases o.dst <;> rfl,by cases o.dst <;> rfl,fun H2 c2=>?_⟩
    rw [put o.dst .un H2 c2]
   ·cases h
 ·cases hv
def sameB (P:Program) (E:Env) (ops:Array Oper) (o:Oper) (T T':List AV) (H:List Blk) (c:Nat):Bool:=
 AQ E ⟨T,H,c⟩ o.op && match Ag P E ops ⟨T,H,c⟩ o,o.dst with
  | some s1,some d=>NA (s1.T.getD d .un) (T'.getD d .un)
  | some _,none=>true
  | none,_=>false
theorem LD {P:Program} {E:Env} {ops:Array Oper} {s s':St} {o:Oper} (hp:AQ E s o.op=true) (h:Ag P E ops s o=some s'):∃ v,s'=s.put o.dst v:=by
 unfold Ag at h
 simp only [hp,lx8] at h
 split at h
 ·simp only [lx24] at h
  obtain ⟨v,_,h⟩:=h
  exact ⟨v,h.symm⟩
 ·split at h
  ·simp only [lx24] at h
   obtain ⟨v,_,h⟩:=h
   exact ⟨v,h.symm⟩
  ·cases h; exact ⟨_,rfl⟩
  ·cases h
theorem Ami {P:Program} {E:Env} {ops:Array Oper} {o:Oper} {T T':List AV} {H H0:List Blk} {c c0:Nat} (hT:∃ v,T'=(St.put ⟨T,H0,c0⟩ o.dst v).T) (h:sameB P E ops o T T' H c=true):
  Ag P E ops ⟨T,H,c⟩ o=some ⟨T',H,c⟩:=by
 unfold sameB at h
 simp only [AH] at h
 obtain ⟨hp,h⟩:=h
 obtain ⟨v,hT⟩:=hT
 split at h
 ·rename_i s1 d h1 hd
  obtain ⟨v1,rfl⟩:=LD hp h1
  have:=Ab6 _ _ h
  rw [h1]
  rw [hd] at hT this ⊢
  simp only [St.put] at hT this ⊢
  rw [hT] at this ⊢
  by_cases hl:d < T.length
  ·simp [lx81,hl] at this
   rw [this]
  ·have hl':T.length≤d:=Nat.le_of_not_lt hl
   rw [lx71 hl',lx71 hl']
 ·rename_i s1 h1 hd
  obtain ⟨v1,rfl⟩:=LD hp h1
  rw [h1,hT,hd]
  rfl
 ·cases h
def RY (P:Program) (E:Env) (isV:Nat→Bool) (ops:Array Oper) (i:Nat) (o:Oper) (T T':List AV):List Past→Bool
 | []=>true
 | h::r=>(gB E.hb ops h.at_ i || (isVop isV ⟨T,[],0⟩ o.op || sameB P E ops o T T' h.H h.c)) && RY P E isV ops i o T T' r
def RZ (P:Program) (E:Env) (isV:Nat→Bool) (ops:Array Oper) (k:Nat) (H:List Blk) (c:Nat):List Did→Bool
 | []=>true
 | d::r=>(gB E.hb ops d.at_ k || (isVop isV ⟨d.T,[],0⟩ d.o.op || sameB P E ops d.o d.T d.T' H c)) && RZ P E isV ops k H c r
def Af0 (κ:Nat→Bool) (ops:Array Oper) (i:Nat) (H':List Blk):Op→Bool
 | .buildSlice ..=>gB κ ops i i || norefs (Cs H')
 | _=>true
def J3 (P:Program) (E:Env) (isV:Nat→Bool) (ops:Array Oper):List Oper→Nat→St→List Past→List Did→Option St
 | [],_,s,_,_=>some s
 | o::r,i,s,hs,ds=>match Ag P E ops s o with
  | none=>none
  | some s'=>
   match BY E.hb o.op with
   | false=>
    match AE o.op with
    | true=>J3 P E isV ops r (i+1) s' hs ds
    | false=>match (AQ E s o.op || isVop isV s o.op) && RY P E isV ops i o s.T s'.T hs with
     | true=>J3 P E isV ops r (i+1) s' hs (⟨i,o,s.T,s'.T⟩::ds)
     | false=>none
   | true=>match RZ P E isV ops i s'.H s'.cnt ds && Af0 E.hb ops i s'.H o.op with
    | true=>J3 P E isV ops r (i+1) s' (⟨i,s.H,s.cnt⟩::hs) ds
    | false=>none
theorem Ab7 {κ:Nat→Bool} {ops:Array Oper} {i k:Nat} {p:Prop} {b:Bool} (hb:b=true→p) (h:(gB κ ops i k || b)=true):Chk κ ops i k p:=by
 intro hg
 rw [hg,Qx] at h
 exact hb h
def Af1 (P:Program) (E:Env) (isV:Nat→Bool) (ops:Array Oper) (o:Oper) (T T':List AV):Prop:=
 (isVop isV ⟨T,[],0⟩ o.op=true→∀ H c,Ag P E ops ⟨T,H,c⟩ o=some ⟨T',H,c⟩)∧(isVop isV ⟨T,[],0⟩ o.op=false→∃ H0 c0 v,T'=(St.put ⟨T,H0,c0⟩ o.dst v).T)
theorem Y1 {P:Program} {E:Env} {isV:Nat→Bool} {ops:Array Oper} {o:Oper} {T T':List AV} {H:List Blk} {c:Nat} (hd:Af1 P E isV ops o T T') (h:(isVop isV ⟨T,[],0⟩ o.op || sameB P E ops o T T' H c)=true):
  Ag P E ops ⟨T,H,c⟩ o=some ⟨T',H,c⟩:=by
 cases hv:isVop isV ⟨T,[],0⟩ o.op with
 | true=>exact hd.1 hv H c
 | false=>
  obtain ⟨H0,c0,hT⟩:=hd.2 hv
  rw [hv,Qx] at h
  exact Ami (H0:=H0) (c0:=c0) hT h
theorem Y2 {P:Program} {E:Env} {isV:Nat→Bool} {ops:Array Oper} {i:Nat} {o:Oper} {T T':List AV} (hT:Af1 P E isV ops o T T'):∀ {hs:List Past},RY P E isV ops i o T T' hs=true→Vk P E ops i o T T' hs
 | [],_=>trivial
 | h::r,hb=>by
  simp only [RY,AH] at hb
  exact ⟨Ab7 (Y1 hT) hb.1,Y2 hT hb.2⟩
def Avl (P:Program) (E:Env) (isV:Nat→Bool) (ops:Array Oper) (ds:List Did):Prop:=∀ d ∈ ds,Af1 P E isV ops d.o d.T d.T'
theorem Y3 {P:Program} {E:Env} {isV:Nat→Bool} {ops:Array Oper} {k:Nat} {H:List Blk} {c:Nat}:∀ {ds:List Did},Avl P E isV ops ds→RZ P E isV ops k H c ds=true→chkF P E ops k H c ds
 | [],_,_=>trivial
 | d::r,hd,hb=>by
  simp only [RZ,AH] at hb
  exact ⟨Ab7 (Y1 (hd d lx47)) hb.1,Y3 (fun x hx=>hd x (lx48 _ hx)) hb.2⟩
theorem Amj {E:Env} {ops:Array Oper} {i:Nat} {H:List Blk} {o:Op} (h:Af0 E.hb ops i H o=true):K1 E.hb ops i H o:=by
 cases o <;> first | trivial | exact Ab7 id h
theorem Im {P:Program} {E:Env} {isV:Nat→Bool} (hV:Azn E isV) {ops:Array Oper} {s1:St}:∀ {l:List Oper} {i:Nat} {s:St} {hs:List Past} {ds:List Did},Avl P E isV ops ds→J3 P E isV ops l i s hs ds=some s1→Dj P E ops (·=s1) l i s hs ds
 | [],i,s,hs,ds,hd,h=>by simp only [J3,lx16] at h; exact h
 | o::r,i,s,hs,ds,hd,h=>by
  simp only [J3] at h
  split at h
  ·cases h
  ·rename_i s' hs'
   refine ⟨s',hs',?_⟩
   split at h
   ·rename_i hh
    rw [if_pos hh]
    split at h
    ·rename_i hn
     rw [if_pos hn]
     exact Im hV hd h
    ·rename_i hn
     rw [if_neg (by rw [hn]; decide)]
     split at h
     ·rename_i hc
      simp only [AH,ID] at hc
      have key:(s'.H=s.H∧s'.cnt=s.cnt)∧Af1 P E isV ops o s.T s'.T:=by
       cases hv:isVop isV s o.op with
       | true=>
        obtain ⟨k1,k2,k3⟩:=Ari hV hv hs'
        exact ⟨⟨k1,k2⟩,⟨fun _=>k3,fun h'=>by rw [show isVop isV ⟨s.T,[],0⟩ o.op=isVop isV s o.op from rfl,hv] at h'; cases h'⟩⟩
       | false=>
        have hp:AQ E s o.op=true:=by
         rcases hc.1 with h' | h'
         ·exact h'
         ·rw [hv] at h'; cases h'
        obtain ⟨v,hv'⟩:=LD hp hs'
        exact ⟨NN hp hs',⟨fun h'=>(by rw [show isVop isV ⟨s.T,[],0⟩ o.op=isVop isV s o.op from rfl,hv] at h'; cases h'),fun _=>⟨s.H,s.cnt,v,by rw [hv']⟩⟩⟩
      exact ⟨key.1,Y2 key.2 hc.2,Im hV (fun d hm=>by
       rcases lx59.1 hm with rfl | hm
       ·exact key.2
       ·exact hd d hm) h⟩
     ·cases h
   ·rename_i hh
    rw [if_neg (by rw [hh]; decide)]
    split at h
    ·rename_i hc
     simp only [AH] at hc
     exact ⟨Y3 hd hc.1,Amj hc.2,Im hV hd h⟩
    ·cases h
def MX:Item→Bool
 | .code .ret=>true
 | _=>false
theorem MY {P:Program} {E:Env} {n0:Nat} {rs:List ResultVar} {R R':AV→St→Prop} {k:List Item} {s:St} (h:Go P E n0 rs R k s) (hR:∀ r s,R r s→R' r s):Go P E n0 rs R' k s:=by
 induction h with
 | ret h h1=>exact .ret h (hR _ _ h1)
 | fin h h1=>exact .fin h (hR _ _ h1)
 | skip _ ih=>exact .skip ih
 | seq _ ih=>exact .seq ih
 | cond t hc _ ih=>exact .cond t hc ih
 | block _ ih=>exact .block ih
 | inBlock _ ih=>exact .inBlock ih
 | loop _ ih=>exact .loop ih
 | inLoop _ ih=>exact .inLoop ih
 | exit he _ ih=>exact .exit he ih
 | region hr _ ih=>exact .region hr ih
 | draw hp hr _ ih=>exact .draw hp hr ih
 | drawH hp hh hr _ ih=>exact .drawH hp hh hr ih
 | drawP hp hr _ ih=>exact .drawP hp hr ih
 | ghost hg _ ih=>exact .ghost hg ih
 | alt hg _ ih=>exact .alt hg ih
 | know hp _ ih=>exact .know hp ih
 | sem hg _ ih=>exact .sem hg ih
structure Giv where
 p:Nat→List AV→Option AV
 v:Nat→List AV→Option AV
 h:Nat→List AV→List Blk→Nat→Option (AV × List Blk × Nat)
 f:Nat→List AV→Option AV
structure GivOk (P:Program) (G:Giv):Prop where
 p:∀ f args r,G.p f args=some r→Ap P f args r
 v:∀ f args r,G.v f args=some r→Ba P f args r
 h:∀ f args H cnt r H' cnt',G.h f args H cnt=some (r,H',cnt')→HSpec P f args H cnt r H' cnt'
 f:∀ f args r,G.f f args=some r→C4 P f args r
def Amk:Nat:=1000000
inductive Tr (α:Type) where
 | nil
 | node (v:α) (l r:Tr α)
namespace Tr
variable {α:Type}
def get (d:α):Tr α→Nat→α
 | .nil,_=>d
 | .node v l r,i=>match i with
  | 0=>v
  | k+1=>match k % 2 with
   | 0=>l.get d (k / 2)
   | _=>r.get d (k / 2)
def set (t:Tr α) (i:Nat) (x:α):Option (Tr α):=
 match t with
 | .nil=>none
 | .node v l r=>match i with
  | 0=>some (.node x l r)
  | k+1=>match k % 2 with
   | 0=>match l.set (k / 2) x with
    | some l'=>some (.node v l' r)
    | none=>none
   | _=>match r.set (k / 2) x with
    | some r'=>some (.node v l r')
    | none=>none
def push (t:Tr α) (n:Nat) (x:α):Option (Tr α):=
 match t with
 | .nil=>some (.node x .nil .nil)
 | .node v l r=>match n with
  | 0=>none
  | k+1=>match k % 2 with
   | 0=>match l.push (k / 2) x with
    | some l'=>some (.node v l' r)
    | none=>none
   | _=>match r.push (k / 2) x with
    | some r'=>some (.node v l r')
    | none=>none
def pop (t:Tr α) (n:Nat):Option (Tr α):=
 match t with
 | .nil=>none
 | .node v l r=>match n with
  | 0=>some .nil
  | k+1=>match k % 2 with
   | 0=>match l.pop (k / 2) with
    | some l'=>some (.node v l' r)
    | none=>none
   | _=>match r.pop (k / 2) with
    | some r'=>some (.node v l r')
    | none=>none
def Fit:Tr α→Nat→Prop
 | .nil,n=>n=0
 | .node _ l r,n=>0 < n∧Fit l (n / 2)∧Fit r ((n - 1) / 2)
theorem Dx (d v:α) (l r:Tr α) (j:Nat):(Tr.node v l r).get d (2 * j+1)=l.get d j:=by
 have h1:2 * j % 2=0:=An
 have h2:2 * j / 2=j:=An
 simp only [get,h1,h2]
theorem CZ (d v:α) (l r:Tr α) (j:Nat):(Tr.node v l r).get d (2 * j+2)=r.get d j:=by
 have h1:(2 * j+1) % 2=1:=An
 have h2:(2 * j+1) / 2=j:=An
 show (match (2 * j+1) % 2 with | 0=>l.get d ((2 * j+1) / 2) | _=>r.get d ((2 * j+1) / 2))=_
 rw [h1,h2]
 rfl
theorem idx (i:Nat):i=0∨(∃ j,i=2 * j+1)∨∃ j,i=2 * j+2:=by
 rcases Nat.eq_zero_or_pos i with h | h
 ·exact .inl h
 ·rcases Qz i with h2 | h2
  ·exact .inr (.inr ⟨i / 2 - 1,by omega⟩)
  ·exact .inr (.inl ⟨i / 2,by omega⟩)
theorem VN (d:α):∀ {t t':Tr α} {n:Nat},Fit t n→Fit t' n→(∀ i,i < n→t.get d i=t'.get d i)→t=t'
 | .nil,.nil,n,_,_,_=>rfl
 | .nil,.node ..,n,h,h',_=>by
  have:n=0:=h
  have:=h'.1
  omega
 | .node ..,.nil,n,h,h',_=>by
  have:n=0:=h'
  have:=h.1
  omega
 | .node v l r,.node v' l' r',n,h,h',hg=>by
  obtain ⟨h1,h2,h3⟩:=h
  obtain ⟨k1,k2,k3⟩:=h'
  have e0:v=v':=hg 0 h1
  have e1:l=l':=VN d h2 k2 fun j hj=>by
   have:=hg (2 * j+1) (by omega)
   rwa [Dx,Dx] at this
  have e2:r=r':=VN d h3 k3 fun j hj=>by
   have:=hg (2 * j+2) (by omega)
   rwa [CZ,CZ] at this
  rw [e0,e1,e2]
theorem set_ok (d x:α):∀ {t t':Tr α} {i:Nat},t.set i x=some t'→(∀ j,t'.get d j=if j=i then x else t.get d j)∧∀ n,Fit t n→Fit t' n
 | .nil,t',i,h=>by simp [set] at h
 | .node v l r,t',i,h=>by
  rcases idx i with rfl | ⟨k,rfl⟩ | ⟨k,rfl⟩
  ·simp only [set,lx16] at h
   subst h
   refine ⟨fun j=>?_,fun n h=>h⟩
   rcases idx j with rfl | ⟨j,rfl⟩ | ⟨j,rfl⟩
   ·rfl
   ·rw [Dx,Dx,if_neg (by omega)]
   ·rw [CZ,CZ,if_neg (by omega)]
  ·have h1:2 * k % 2=0:=by omega
   have h2:2 * k / 2=k:=An
   simp only [set,h1,h2] at h
   split at h
   ·rename_i l' hl
    cases h
    obtain ⟨g1,g2⟩:=set_ok d x hl
    refine ⟨fun j=>?_,fun n h=>⟨h.1,g2 _ h.2.1,h.2.2⟩⟩
    exact Bct
   ·cases h
  ·have h:(match (2 * k+1) % 2 with | 0=>(match l.set ((2 * k+1) / 2) x with | some l'=>some (Tr.node v l' r) | none=>none) | _=>(match r.set ((2 * k+1) / 2) x with | some r'=>some (Tr.node v l r') | none=>none))=some t':=h
   have h1:(2 * k+1) % 2=1:=An
   have h2:(2 * k+1) / 2=k:=An
   rw [h1,h2] at h
   simp only at h
   split at h
   ·rename_i r' hr
    cases h
    obtain ⟨g1,g2⟩:=set_ok d x hr
    refine ⟨fun j=>?_,fun n h=>⟨h.1,h.2.1,g2 _ h.2.2⟩⟩
    exact Bcu
   ·cases h
theorem push_ok (d x:α):∀ {t t':Tr α} {n:Nat},Fit t n→t.push n x=some t'→(∀ j,t'.get d j=if j=n then x else t.get d j)∧Fit t' (n+1)
 | .nil,t',n,hf,h=>by
  have hn:n=0:=hf
  subst hn
  simp only [push,lx16] at h
  subst h
  refine ⟨fun j=>?_,⟨by omega,by show (0+1) / 2=0; omega,by show (0+1 - 1) / 2=0; omega⟩⟩
  rcases idx j with rfl | ⟨j,rfl⟩ | ⟨j,rfl⟩
  ·rfl
  ·rw [Dx,if_neg (by omega)]; rfl
  ·rw [CZ,if_neg (by omega)]; rfl
 | .node v l r,t',n,hf,h=>by
  obtain ⟨f1,f2,f3⟩:=hf
  rcases idx n with rfl | ⟨k,rfl⟩ | ⟨k,rfl⟩
  ·omega
  ·have h1:2 * k % 2=0:=by omega
   have h2:2 * k / 2=k:=An
   simp only [push,h1,h2] at h
   split at h
   ·rename_i l' hl
    cases h
    rw [show (2 * k+1) / 2=k by omega] at f2
    obtain ⟨g1,g2⟩:=push_ok d x f2 hl
    refine ⟨fun j=>?_,⟨by omega,by rw [show (2 * k+1+1) / 2=k+1 by omega]; exact g2,by rw [show (2 * k+1+1 - 1) / 2=(2 * k+1 - 1) / 2 by omega]; exact f3⟩⟩
    exact Bct
   ·cases h
  ·have h:(match (2 * k+1) % 2 with | 0=>(match l.push ((2 * k+1) / 2) x with | some l'=>some (Tr.node v l' r) | none=>none) | _=>(match r.push ((2 * k+1) / 2) x with | some r'=>some (Tr.node v l r') | none=>none))=some t':=h
   have h1:(2 * k+1) % 2=1:=An
   have h2:(2 * k+1) / 2=k:=An
   rw [h1,h2] at h
   simp only at h
   split at h
   ·rename_i r' hr
    cases h
    rw [show (2 * k+2 - 1) / 2=k by omega] at f3
    obtain ⟨g1,g2⟩:=push_ok d x f3 hr
    refine ⟨fun j=>?_,⟨by omega,by rw [show (2 * k+2+1) / 2=(2 * k+2) / 2 by omega]; exact f2,by rw [show (2 * k+2+1 - 1) / 2=k+1 by omega]; exact g2⟩⟩
    exact Bcu
   ·cases h
theorem pop_ok (d:α):∀ {t t':Tr α} {n:Nat},Fit t (n+1)→t.pop n=some t'→(∀ j,j < n→t'.get d j=t.get d j)∧Fit t' n
 | .nil,t',n,hf,h=>by simp [pop] at h
 | .node v l r,t',n,hf,h=>by
  obtain ⟨f1,f2,f3⟩:=hf
  rcases idx n with rfl | ⟨k,rfl⟩ | ⟨k,rfl⟩
  ·simp only [pop,lx16] at h
   subst h
   exact ⟨fun j hj=>by omega,rfl⟩
  ·have h1:2 * k % 2=0:=by omega
   have h2:2 * k / 2=k:=An
   simp only [pop,h1,h2] at h
   split at h
   ·rename_i l' hl
    cases h
    rw [show (2 * k+1+1) / 2=k+1 by omega] at f2
    obtain ⟨g1,g2⟩:=pop_ok d f2 hl
    refine ⟨fun j hj=>?_,⟨by omega,by rw [show (2 * k+1) / 2=k by omega]; exact g2,by rw [show (2 * k+1 - 1) / 2=(2 * k+1+1 - 1) / 2 by omega]; exact f3⟩⟩
    rcases idx j with rfl | ⟨j,rfl⟩ | ⟨j,rfl⟩
    ·rfl
    ·rw [Dx,Dx,g1 j (by omega)]
    ·rw [CZ,CZ]
   ·cases h
  ·have h:(match (2 * k+1) % 2 with | 0=>(match l.pop ((2 * k+1) / 2) with | some l'=>some (Tr.node v l' r) | none=>none) | _=>(match r.pop ((2 * k+1) / 2) with | some r'=>some (Tr.node v l r') | none=>none))=some t':=h
   have h1:(2 * k+1) % 2=1:=An
   have h2:(2 * k+1) / 2=k:=An
   rw [h1,h2] at h
   simp only at h
   split at h
   ·rename_i r' hr
    cases h
    rw [show (2 * k+2+1 - 1) / 2=k+1 by omega] at f3
    obtain ⟨g1,g2⟩:=pop_ok d f3 hr
    refine ⟨fun j hj=>?_,⟨by omega,by rw [show (2 * k+2) / 2=(2 * k+2+1) / 2 by omega]; exact f2,by rw [show (2 * k+2 - 1) / 2=k by omega]; exact g2⟩⟩
    rcases idx j with rfl | ⟨j,rfl⟩ | ⟨j,rfl⟩
    ·rfl
    ·rw [Dx,Dx]
    ·rw [CZ,CZ,g1 j (by omega)]
   ·cases h
theorem NW (x:α):∀ {t:Tr α} {n:Nat},Fit t n→∃ t',t.push n x=some t'
 | .nil,n,_=>⟨_,rfl⟩
 | .node v l r,n,hf=>by
  obtain ⟨f1,f2,f3⟩:=hf
  rcases idx n with rfl | ⟨k,rfl⟩ | ⟨k,rfl⟩
  ·omega
  ·rw [show (2 * k+1) / 2=k by omega] at f2
   obtain ⟨l',hl⟩:=NW x f2
   have h1:2 * k % 2=0:=An
   have h2:2 * k / 2=k:=An
   exact ⟨.node v l' r,by simp only [push,h1,h2,hl]⟩
  ·rw [show (2 * k+2 - 1) / 2=k by omega] at f3
   obtain ⟨r',hr⟩:=NW x f3
   have h1:(2 * k+1) % 2=1:=An
   have h2:(2 * k+1) / 2=k:=An
   refine ⟨.node v l r',?_⟩
   show (match (2 * k+1) % 2 with | 0=>(match l.push ((2 * k+1) / 2) x with | some l'=>some (Tr.node v l' r) | none=>none) | _=>(match r.push ((2 * k+1) / 2) x with | some r'=>some (Tr.node v l r') | none=>none))=_
   rw [h1,h2,hr]
   rfl
def toL (d:α) (t:Tr α) (n:Nat):List α:=(List.range n).map (t.get d)
theorem toL_len (d:α) (t:Tr α) (n:Nat):(t.toL d n).length=n:=by simp [toL]
theorem toL_get (d:α) (t:Tr α) (n i:Nat):(t.toL d n)[i]?=if i < n then some (t.get d i) else none:=by
 unfold toL
 rw [lx23]
 by_cases h:i < n
 ·rw [SS h,if_pos h]; rfl
 ·rw [lx30 (by simp; omega),if_neg h]; rfl
theorem toL_set {d x:α} {t t':Tr α} {i:Nat} (h:t.set i x=some t') (n:Nat):t'.toL d n=(t.toL d n).set i x:=by
 refine lx65 fun j=>?_
 rw [toL_get,lx21,toL_get,(set_ok d x h).1,toL_len]
 by_cases hj:j < n
 ·by_cases hi:i=j
  ·subst hi; simp [hj]
  ·rw [if_pos hj,if_neg (fun e=>hi e.symm),if_neg hi,if_pos hj]
 ·rw [if_neg hj]
  by_cases hi:i=j
  ·subst hi; simp [hj]
  ·rw [if_neg hi,if_neg hj]
theorem toL_push {d x:α} {t t':Tr α} {n:Nat} (hf:Fit t n) (h:t.push n x=some t'):t'.toL d (n+1)=t.toL d n++[x]:=by
 refine lx65 fun j=>?_
 rw [toL_get,(push_ok d x hf h).1,lx18,toL_len,toL_get]
 by_cases hj:j < n
 ·rw [if_pos (by omega),if_neg (by omega),if_pos hj,if_pos hj]
 ·by_cases hi:j=n
  ·subst hi; simp
  ·rw [if_neg (by omega),if_neg hj,lx30 (by simp; omega)]
theorem toL_pop {d:α} {t t':Tr α} {n:Nat} (hf:Fit t (n+1)) (h:t.pop n=some t'):t'.toL d n=(t.toL d (n+1)).take n:=by
 refine lx65 fun j=>?_
 rw [toL_get,lx19,toL_get]
 by_cases hj:j < n
 ·rw [if_pos hj,if_pos hj,if_pos (by omega),(pop_ok d hf h).1 j hj]
 ·rw [if_neg hj,if_neg hj]
def ofF (d:α) (f:Nat→α):Nat→Tr α
 | 0=>.nil
 | n+1=>((ofF d f n).push n (f n)).getD .nil
theorem VP (d:α) (f:Nat→α):∀ n,Fit (ofF d f n) n∧∀ i,i < n→(ofF d f n).get d i=f i
 | 0=>⟨rfl,fun i hi=>by omega⟩
 | n+1=>by
  obtain ⟨h1,h2⟩:=VP d f n
  obtain ⟨t',ht⟩:=NW (f n) h1
  obtain ⟨g1,g2⟩:=push_ok d (f n) h1 ht
  have e:ofF d f (n+1)=t':=by simp only [ofF,ht,lx4]
  rw [e]
  refine ⟨g2,fun i hi=>?_⟩
  rw [g1]
  by_cases h:i=n
  ·subst h; simp
  ·rw [if_neg h]; exact h2 i (by omega)
def ofL (d:α) (l:List α):Tr α:=ofF d (fun i=>l.getD i d) l.length
theorem ofL_fit (d:α) (l:List α):Fit (ofL d l) l.length:=(VP d _ _).1
theorem toL_ofL (d:α) (l:List α):(ofL d l).toL d l.length=l:=by
 refine lx65 fun i=>?_
 rw [toL_get]
 by_cases h:i < l.length
 ·rw [if_pos h]
  unfold ofL
  rw [(VP d _ _).2 i h]
  simp [h]
 ·rw [if_neg h,lx30 (by omega)]
theorem ofL_toL (d:α) {t:Tr α} {n:Nat} (hf:Fit t n):ofL d (t.toL d n)=t:=by
 refine VN d (n:=n) (by have:=ofL_fit d (t.toL d n); rwa [toL_len] at this) hf fun i hi=>?_
 unfold ofL
 rw [toL_len,(VP d _ _).2 i hi]
 rw [lx81,toL_get,if_pos hi,lx4]
def rep (x:α):Nat→Nat→Tr α
 | 0,_=>.nil
 | f+1,n=>match n with
  | 0=>.nil
  | k+1=>.node x (rep x f ((k+1) / 2)) (rep x f (k / 2))
theorem rep_get (x:α):∀ (f n i:Nat),(rep x f n).get x i=x
 | 0,n,i=>rfl
 | f+1,0,i=>rfl
 | f+1,n+1,i=>by
  rcases idx i with rfl | ⟨j,rfl⟩ | ⟨j,rfl⟩
  ·rfl
  ·rw [rep,Dx,rep_get]
  ·rw [rep,CZ,rep_get]
def setAll (t:Tr α) (i:Nat):List α→Option (Tr α)
 | []=>some t
 | x::r=>match t.set i x with
  | some t'=>setAll t' (i+1) r
  | none=>none
theorem setAll_ok (d:α):∀ {l:List α} {t t':Tr α} {i:Nat},setAll t i l=some t'→∀ j,t'.get d j=if i≤j∧j < i+l.length then l.getD (j - i) d else t.get d j
 | [],t,t',i,h,j=>by
  simp only [setAll,lx16] at h
  subst h
  rw [if_neg (by simp)]
 | x::r,t,t',i,h,j=>by
  simp only [setAll] at h
  split at h
  ·rename_i t1 h1
   rw [setAll_ok d h j,(set_ok d x h1).1]
   by_cases c1:i+1≤j∧j < i+1+r.length
   ·rw [if_pos c1,if_pos (by simp; omega),show j - i=(j - (i+1))+1 by omega]
    simp
   ·rw [if_neg c1]
    by_cases c2:j=i
    ·subst c2; simp
    ·rw [if_neg c2,if_neg (by simp; omega)]
  ·cases h
end Tr
inductive Pth where
 | z
 | o (p:Pth)
 | e (p:Pth)
def He:Nat→Nat→Pth
 | 0,_=>.z
 | f+1,i=>match i with
  | 0=>.z
  | k+1=>match k % 2 with
   | 0=>.o (He f (k / 2))
   | _=>.e (He f (k / 2))
def pth (i:Nat):Pth:=He i i
namespace Tr
variable {α:Type}
noncomputable def getP (d:α) (p:Pth):Tr α→α:=
 Pth.rec (motive:=fun _=>Tr α→α) (fun t=>Tr.rec (motive:=fun _=>α) d (fun v _ _ _ _=>v) t)
  (fun _ ih t=>Tr.rec (motive:=fun _=>α) d (fun _ l _ _ _=>ih l) t) (fun _ ih t=>Tr.rec (motive:=fun _=>α) d (fun _ _ r _ _=>ih r) t) p
noncomputable def setP (x:α) (p:Pth):Tr α→Option (Tr α):=
 Pth.rec (motive:=fun _=>Tr α→Option (Tr α)) (fun t=>Tr.rec (motive:=fun _=>Option (Tr α)) none (fun _ l r _ _=>some (.node x l r)) t)
  (fun _ ih t=>Tr.rec (motive:=fun _=>Option (Tr α)) none (fun v l r _ _=>Option.rec (motive:=fun _=>Option (Tr α)) none (fun l'=>some (.node v l' r)) (ih l)) t)
  (fun _ ih t=>Tr.rec (motive:=fun _=>Option (Tr α)) none (fun v l r _ _=>Option.rec (motive:=fun _=>Option (Tr α)) none (fun r'=>some (.node v l r')) (ih r)) t) p
theorem Ab8 (d:α):∀ (f i:Nat) (t:Tr α),i≤f→getP d (He f i) t=t.get d i
 | 0,i,t,h=>by
  have:i=0:=An
  subst this
  cases t <;> rfl
 | f+1,0,t,h=>by cases t <;> rfl
 | f+1,k+1,t,h=>by
  rcases Qz k with h2 | h2
  ·have e:He (f+1) (k+1)=.o (He f (k / 2)):=by simp only [He,h2]
   rw [e]
   cases t with
   | nil=>rfl
   | node v l r=>
    have:=Ab8 d f (k / 2) l (by omega)
    show getP d (He f (k / 2)) l=_
    rw [this]
    simp only [get,h2]
  ·have e:He (f+1) (k+1)=.e (He f (k / 2)):=by
    show (match k % 2 with | 0=>Pth.o (He f (k / 2)) | _=>Pth.e (He f (k / 2)))=_
    rw [h2]
    rfl
   rw [e]
   cases t with
   | nil=>rfl
   | node v l r=>
    have:=Ab8 d f (k / 2) r (by omega)
    show getP d (He f (k / 2)) r=_
    rw [this]
    show _=(match k % 2 with | 0=>l.get d (k / 2) | _=>r.get d (k / 2))
    rw [h2]
    rfl
theorem getP_eq (d:α) (i:Nat) (t:Tr α):getP d (pth i) t=t.get d i:=Ab8 d i i t (Av _)
theorem Ab9 (x:α):∀ (f i:Nat) (t:Tr α),i≤f→setP x (He f i) t=t.set i x
 | 0,i,t,h=>by
  have:i=0:=An
  subst this
  cases t <;> rfl
 | f+1,0,t,h=>by cases t <;> rfl
 | f+1,k+1,t,h=>by
  rcases Qz k with h2 | h2
  ·have e:He (f+1) (k+1)=.o (He f (k / 2)):=by simp only [He,h2]
   rw [e]
   cases t with
   | nil=>rfl
   | node v l r=>
    have:=Ab9 x f (k / 2) l (by omega)
    show Option.rec (motive:=fun _=>Option (Tr α)) none (fun l'=>some (.node v l' r)) (setP x (He f (k / 2)) l)=_
    rw [this]
    simp only [set,h2]
    cases l.set (k / 2) x <;> rfl
  ·have e:He (f+1) (k+1)=.e (He f (k / 2)):=by
    show (match k % 2 with | 0=>Pth.o (He f (k / 2)) | _=>Pth.e (He f (k / 2)))=_
    rw [h2]
    rfl
   rw [e]
   cases t with
   | nil=>rfl
   | node v l r=>
    have:=Ab9 x f (k / 2) r (by omega)
    show Option.rec (motive:=fun _=>Option (Tr α)) none (fun r'=>some (.node v l r')) (setP x (He f (k / 2)) r)=_
    rw [this]
    show _=(match k % 2 with | 0=>(match l.set (k / 2) x with | some l'=>some (Tr.node v l' r) | none=>none) | _=>(match r.set (k / 2) x with | some r'=>some (Tr.node v l r') | none=>none))
    rw [h2]
    cases r.set (k / 2) x <;> rfl
theorem setP_eq (x:α) (i:Nat) (t:Tr α):setP x (pth i) t=t.set i x:=Ab9 x i i t (Av _)
noncomputable def getN (d:α) (t:Tr α):Nat→α:=
 Tr.rec (motive:=fun _=>Nat→α) (fun _=>d)
  (fun v _ _ ihl ihr i=>Nat.rec (motive:=fun _=>α) v (fun k _=>Nat.rec (motive:=fun _=>α) (ihl (Nat.div k 2)) (fun _ _=>ihr (Nat.div k 2)) (Nat.mod k 2)) i) t
theorem getN_eq (d:α):∀ (t:Tr α) (i:Nat),getN d t i=t.get d i
 | .nil,i=>rfl
 | .node v l r,0=>rfl
 | .node v l r,k+1=>by
  show Nat.rec (motive:=fun _=>α) (getN d l (k / 2)) (fun _ _=>getN d r (k / 2)) (k % 2)=(match k % 2 with | 0=>l.get d (k / 2) | _=>r.get d (k / 2))
  rw [getN_eq d l,getN_eq d r]
  generalize k % 2=m
  cases m <;> rfl
noncomputable def setN (x:α) (t:Tr α):Nat→Option (Tr α):=
 Tr.rec (motive:=fun _=>Nat→Option (Tr α)) (fun _=>none)
  (fun v l r ihl ihr i=>Nat.rec (motive:=fun _=>Option (Tr α)) (some (.node x l r))
   (fun k _=>Nat.rec (motive:=fun _=>Option (Tr α)) (Option.rec (motive:=fun _=>Option (Tr α)) none (fun l'=>some (.node v l' r)) (ihl (Nat.div k 2)))
    (fun _ _=>Option.rec (motive:=fun _=>Option (Tr α)) none (fun r'=>some (.node v l r')) (ihr (Nat.div k 2))) (Nat.mod k 2)) i) t
theorem setN_eq (x:α):∀ (t:Tr α) (i:Nat),setN x t i=t.set i x
 | .nil,i=>rfl
 | .node v l r,0=>rfl
 | .node v l r,k+1=>by
  show Nat.rec (motive:=fun _=>Option (Tr α)) (Option.rec (motive:=fun _=>Option (Tr α)) none (fun l'=>some (.node v l' r)) (setN x l (k / 2)))
    (fun _ _=>Option.rec (motive:=fun _=>Option (Tr α)) none (fun r'=>some (.node v l r')) (setN x r (k / 2))) (k % 2)=
   (match k % 2 with | 0=>(match l.set (k / 2) x with | some l'=>some (Tr.node v l' r) | none=>none) | _=>(match r.set (k / 2) x with | some r'=>some (Tr.node v l r') | none=>none))
  rw [setN_eq x l,setN_eq x r]
  generalize k % 2=m
  cases m with
  | zero=>cases l.set (k / 2) x <;> rfl
  | succ m=>cases r.set (k / 2) x <;> rfl
end Tr
end Go.SX
