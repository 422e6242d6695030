/-
  Lemmas towards ModesHandles (joined texts: SXY).
  Conditions: none.
-/
import Derived.Test.YtdjpkhjaibdogaaGreatM01
import Derived.Test.YtdjpkhjaibdogaaGreatM15
set_option linter.unusedSimpArgs false
set_option linter.unusedVariables false
set_option maxRecDepth 100000
namespace Go.SX
def vlE:Value→Value→Bool
 | .bool a,.bool b=>a == b
 | .int k n,.int k' n'=>(k == k') && (n == n')
 | .string a,.string b=>a.data.toList == b.data.toList
 | .slice none 0 0,.slice none 0 0=>true
 | .pointer none,.pointer none=>true
 | .nilFunc,.nilFunc=>true
 | _,_=>false
theorem At9:∀ {a b:Value},vlE a b=true→a=b:=by
 intro a b h
 unfold vlE at h
 split at h
 ·rw [eq_of_beq h]
 ·simp only [AT] at h
  obtain ⟨h1,h2⟩:=h
  rw [eq_of_beq h1,eq_of_beq h2]
 ·rename_i a b
  have:=eq_of_beq h
  obtain ⟨⟨a⟩⟩:=a
  obtain ⟨⟨b⟩⟩:=b
  simp only at this
  rw [this]
 ·rfl
 ·rfl
 ·rfl
 ·cases h
mutual
def Um:AV→AV→Bool
 | .sc a,.sc b=>vlE a b
 | .ag a,.ag b=>Qj a b
 | .tu a,.tu b=>Qj a b
 | .pt a b c d,.pt a' b' c' d'=>a == a' && b == b' && c == c' && d == d'
 | .sl a b c d,.sl a' b' c' d'=>a == a' && b == b' && c == c' && d == d'
 | .vw z a,.vw z' a'=>z == z' && Qj a a'
 | .vp a i o,.vp a' i' o'=>i == i' && o == o' && Qj a a'
 | .fn f a,.fn f' a'=>f == f' && Qj a a'
 | .un,.un=>true
 | .jk,.jk=>true
 | _,_=>false
def Qj:List AV→List AV→Bool
 | [],[]=>true
 | a::r,a'::r'=>Um a a' && Qj r r'
 | _,_=>false
end
mutual
theorem Ahd:∀ (a b:AV),Um a b=true→a=b
 | .sc a,b,h=>by
  cases b <;> first | (simp [Um] at h; done) | skip
  simp only [Um] at h
  rw [At9 h]
 | .ag a,b,h=>by
  cases b <;> first | (simp [Um] at h; done) | skip
  simp only [Um] at h
  rw [Kz _ _ h]
 | .tu a,b,h=>by
  cases b <;> first | (simp [Um] at h; done) | skip
  simp only [Um] at h
  rw [Kz _ _ h]
 | .pt a b c d,x,h=>by
  exact Aou
 | .sl a b c d,x,h=>by
  exact Aou
 | .vw z a,x,h=>by
  exact Aox
 | .vp a i o,x,h=>by
  cases x <;> first | (simp [Um] at h; done) | skip
  simp only [Um,AT,lx85] at h
  obtain ⟨⟨rfl,rfl⟩,h2⟩:=h
  rw [Kz _ _ h2]
 | .fn f a,x,h=>by
  exact Aox
 | .un,x,h=>by
  cases x <;> first | (simp [Um] at h; done) | rfl
 | .jk,x,h=>by
  cases x <;> first | (simp [Um] at h; done) | rfl
theorem Kz:∀ (a b:List AV),Qj a b=true→a=b
 | [],b,h=>by
  cases b <;> first | (simp [Qj] at h; done) | rfl
 | a::r,b,h=>by
  cases b <;> first | (simp [Qj] at h; done) | skip
  simp only [Qj,AT] at h
  rw [Ahd _ _ h.1,Kz _ _ h.2]
end
def dB:Nat→List Blk→AV→AV
 | 0,_,a=>match a with
  | .ag cs=>.ag (cs.map fun _=>.jk)
  | _=>.jk
 | n+1,H,a=>match a with
  | .pt id ver i off=>match AO H id ver with
   | some B=>.vp (B.els.map (dB n H)) i off
   | none=>.jk
  | .sl id ver lo len=>match AO H id ver with
   | some B=>.vw false (((B.els.drop lo).take len).map (dB n H))
   | none=>.jk
  | .ag cs=>.ag (cs.map (dB n H))
  | .tu cs=>.tu (cs.map (dB n H))
  | .fn f cs=>.fn f (cs.map (dB n H))
  | a=>a
theorem Mu (n:Nat) (H:List Blk) (e:AV):(dB n H e).cells.length=e.cells.length∧
  ∀ (j:Nat) (a:AV),(dB n H e).cells[j]?=some a→(∃ (c:AV) (m:Nat),e.cells[j]?=some c∧m≤n∧a=dB m H c)∨a=.jk:=by
 cases n with
 | zero=>
  cases e <;> refine ⟨by simp [dB,AV.cells],fun j a h=>.inr ?_⟩ <;> simp only [dB,AV.cells] at h
  case ag cs=>
   rw [lx23] at h
   cases hq:cs[j]? with
   | none=>rw [hq] at h; cases h
   | some c=>rw [hq] at h; cases h; rfl
  all_goals
   cases j with
   | zero=>cases h; rfl
   | succ j=>simp at h
 | succ n=>
  have one:∀ b:AV,(dB (n+1) H b).cells=[dB (n+1) H b]→b.cells=[b]→(dB (n+1) H b).cells.length=b.cells.length∧
    ∀ (j:Nat) (a:AV),(dB (n+1) H b).cells[j]?=some a→(∃ (c:AV) (m:Nat),b.cells[j]?=some c∧m≤n+1∧a=dB m H c)∨a=.jk:=by
   intro b h1 h2
   refine ⟨by rw [h1,h2]; rfl,fun j a h=>.inl ⟨b,n+1,?_⟩⟩
   rw [h1] at h
   rw [h2]
   cases j with
   | zero=>simp at h; exact ⟨rfl,Aw _,h.symm⟩
   | succ j=>simp at h
  cases e with
  | ag cs=>
   refine ⟨by simp [dB,AV.cells],fun j a h=>?_⟩
   simp only [dB,AV.cells] at h ⊢
   rw [lx23] at h
   cases hq:cs[j]? with
   | none=>rw [hq] at h; cases h
   | some c=>rw [hq] at h; cases h; exact .inl ⟨c,n,rfl,Nat.le_succ n,rfl⟩
  | pt id ver i off=>refine one _ ?_ rfl; simp only [dB]; cases AO H id ver <;> rfl
  | sl id ver lo len=>refine one _ ?_ rfl; simp only [dB]; cases AO H id ver <;> rfl
  | _=>exact one _ rfl rfl
theorem Aym {w X X0 hc} (hr:HR w X hc) (hx:∀ b,X0 b→X b) (ho:∀ b,Y7 hc b→¬ X0 b):∀ (n:Nat) (a:AV) {v:Value},VR w X (some hc) a v→VR w X0 (some Cj) (dB n hc.H a) v:=by
 intro n
 induction n using Nat.strongRecOn with
 | ind n IH=>
 intro a v h
 cases n with
 | zero=>
  cases a with
  | ag cs=>
   cases h with
   | ag hl h1 h2=>
    refine .ag (by simpa using hl) (fun i c u e1 e2=>?_) h2
    simp only [lx23] at e1
    cases hq:cs[i]? with
    | none=>rw [hq] at e1; cases e1
    | some x=>rw [hq] at e1; cases e1; exact .jk
  | _=>exact .jk
 | succ n=>
  have ih:=IH n (Iv n)
  have lst:∀ {cs:List AV} {vs:List Value},(∀ (i:Nat) (a:AV) (v:Value),cs[i]?=some a→vs[i]?=some v→VR w X (some hc) a v)→
    ∀ (i:Nat) (a:AV) (v:Value),(cs.map (dB n hc.H))[i]?=some a→vs[i]?=some v→VR w X0 (some Cj) a v:=by
   intro cs vs h1 i c u e1 e2
   simp only [lx23] at e1
   cases hq:cs[i]? with
   | none=>rw [hq] at e1; cases e1
   | some x=>rw [hq] at e1; cases e1; exact ih x (h1 i x u hq e2)
  cases a with
  | sc x=>cases h with | sc h=>exact .sc h
  | un=>cases h; exact .un
  | jk=>exact .jk
  | vw z es=>
   cases h with
   | vw0 hz hm=>exact .vw0 hz hm
   | vw1 f hne hX hb hcap hz hmax hsz hcl hv=>exact .vw1 f hne (fun h=>hX (hx _ h)) hb hcap hz hmax hsz hcl (fun i e j a h1 h2=>(hv i e j a h1 h2).antiX hx)
  | vp es i off=>
   cases h with
   | vp f hX hb hsz hcl hv=>exact .vp f (fun h=>hX (hx _ h)) hb hsz hcl (fun i e j a h1 h2=>(hv i e j a h1 h2).antiX hx)
  | ag cs=>
   cases h with
   | ag hl h1 h2=>exact .ag (by simpa using hl) (lst h1) h2
  | tu cs=>
   cases h with
   | tu hl h1=>exact .tu (by simpa using hl) (lst h1)
  | fn f cs=>
   cases h with
   | fn hl h1=>exact .fn (by simpa using hl) (lst h1)
  | pt id ver i off=>
   simp only [dB]
   split
   ·rename_i B hl
    obtain ⟨b,base,h1,h2,h3,⟨cs,h4⟩,h5⟩:=Hc hr h hl
    obtain ⟨g1,g2,g3⟩:=Br hl
    subst h2
    refine .vp (fun i j=>(w.cell? ⟨b,base+i * B.esz+j,none⟩).getD undef) (ho b ⟨id,B,base,g1,g2,h1⟩) (hr.lt b h3) ?_ ?_ ?_
    ·intro e he
     obtain ⟨i,hi⟩:=lx44.1 he
     rw [lx23] at hi
     cases hq:B.els[i]? with
     | none=>rw [hq] at hi; cases hi
     | some x=>rw [hq] at hi; cases hi; rw [(Mu n hc.H x).1]; exact (h5 i x hq).1
    ·intro i j hi hj
     have hi:i < B.els.length:=by simpa using hi
     exact Akf
    ·intro i e j a he ha
     rw [lx23] at he
     cases hq:B.els[i]? with
     | none=>rw [hq] at he; cases he
     | some x=>
      rw [hq] at he
      cases he
      obtain ⟨q1,q2⟩:=h5 i x hq
      rcases (Mu n hc.H x).2 j a ha with ⟨y,m,e1,hm,rfl⟩ | rfl
      ·obtain ⟨c,k1,k2,k3⟩:=q2 j y e1
       rw [k1]
       exact (IH m (Nat.lt_succ_of_le hm) y k3).close
      ·exact .jk
   ·exact .jk
  | sl id ver lo len=>
   simp only [dB]
   split
   ·rename_i B hl
    obtain ⟨g1,g2,g3⟩:=Br hl
    cases h with
    | sl q1 q2=>
     obtain ⟨r1,r2⟩:=q2 _ rfl
     obtain ⟨r3,r4⟩:=r2 B g1 g2 g3
     have hlen:(((B.els.drop lo).take len).map (dB n hc.H)).length=len:=E9
     have hB:=hr.blk id B g1 g2
     rcases r4 with ⟨r4,p,hp⟩ | ⟨b,base,cap,nn,hloc,k1,k2,k3,k4,k5⟩
     ·exact Aem
     ·have hB2:=hB.2.2
      rw [hloc] at hB2
      obtain ⟨m1,⟨cs,m2⟩,m3⟩:=hB2
      subst k1
      by_cases h0:len=0
      ·exact Aen
      ·have hne:((B.els.drop lo).take len).map (dB n hc.H)≠[]:=by intro e; rw [e] at hlen; simp at hlen; omega
       have hget:∀ i e,(((B.els.drop lo).take len).map (dB n hc.H))[i]?=some e→∃ x,B.els[lo+i]?=some x∧e=dB n hc.H x:=by
        intro i e he
        rw [lx23,lx19] at he
        split at he
        ·rw [lx20] at he
         cases hq:B.els[lo+i]? with
         | none=>rw [hq] at he; cases he
         | some x=>rw [hq] at he; cases he; exact ⟨x,rfl,rfl⟩
        ·cases he
       have:=VR.vw1 (w:=w) (X:=X0) (o:=some Cj) (z:=false) (es:=((B.els.drop lo).take len).map (dB n hc.H)) (b:=b) (base:=base+lo * B.esz) (cap:=cap) (esz:=B.esz)
        (fun i j=>(w.cell? ⟨b,base+lo * B.esz+i * B.esz+j,none⟩).getD undef) hne (ho b ⟨id,B,base,g1,g2,hloc⟩) (hr.lt b m1) (by rw [hlen]; exact k2) (fun h=>by cases h) k3
        (fun e he=>by
         obtain ⟨i,hi⟩:=lx44.1 he
         obtain ⟨x,hx1,rfl⟩:=hget i e hi
         rw [(Mu n hc.H x).1]
         exact (m3 _ x hx1).1)
        (fun i j hi hj=>by
         have he:(((B.els.drop lo).take len).map (dB n hc.H))[i]?=some (((B.els.drop lo).take len).map (dB n hc.H))[i]:=lx51 hi
         obtain ⟨x,hx1,_⟩:=hget i _ he
         obtain ⟨q1,q2⟩:=m3 _ _ hx1
         obtain ⟨c,e1,e2,e3⟩:=q2 j (x.cells[j]'(by omega)) (by simp)
         rw [Hb,←G2] at e1
         rw [e1]
         exact ⟨rfl,e2⟩)
        (fun i e j a he ha=>by
         obtain ⟨x,hx1,rfl⟩:=hget i e he
         obtain ⟨q1,q2⟩:=m3 _ x hx1
         rcases (Mu n hc.H x).2 j a ha with ⟨y,m,e1,hm,rfl⟩ | rfl
         ·obtain ⟨c,k1,k2,k3⟩:=q2 j y e1
          rw [Hb,←G2] at k1
          rw [k1]
          exact (IH m (Nat.lt_succ_of_le hm) y k3).close
         ·exact .jk)
       rw [hlen] at this
       exact this
   ·exact .jk
theorem TC {P:Program} {E:Env} (hE:EnvOk P E) (hm:P.follows .mixedOrders=true) {f:FuncId} {fn:Func} {c:Code} {args:List AV} {r:AV} (n:Nat)
  (hf:P.funcs[f]?=some fn) (hb:fn.body=some c) (hn:(fn.name == "runtime.NumGoroutine")=false) (hlex:Dv E.hb E.perm c=true) (hr:r.noref=true)
  (h:Go P E 0 fn.results.toList (fun r' s'=>dB n s'.H r'=r) [.code c] (Af fn args [] 0)):C1 P f args r:=by
 refine ⟨⟨fn,hf,hn,by rw [hb]; rfl⟩,hr,fun w X0 cargs hx hv=>?_⟩
 have IY:HR w X0 ⟨fun _=>none,[],0⟩:=⟨fun id B h1 _=>by simp at h1,fun id id' B B' b o o' h1=>by simp at h1,hx⟩
 refine (Eh hE hm hf hb hlex (H:=[]) (cnt:=0) (R:=fun r' s'=>dB n s'.H r'=r) h w X0 (fun _=>none) cargs IY hv).mono ?_
 rintro e w' ⟨r',s',X',loc',c',rfl,rfl,g1,g2,g3⟩
 have hown:∀ b,Y7 (s'.hc loc') b→¬ X0 b:=by
  exact Apg
 refine ⟨c',rfl,Aym g1 (fun b hb0=>(g3.xs b (hx b hb0)).2 hb0) hown n _ g2,g3.os,g3.tape,g3.output,g3.size,fun k hk=>g3.keep k hk ?_⟩
 exact Uv
def Ata (E:Env) (isV:Nat→Bool):Prop:=∀ g,isV g=true→E.isP g=false∧∃ F:List AV→Option AV,∀ args H cnt,E.hcall g args H cnt=(F args).map fun r=>(r,H,cnt)
def isVop (isV:Nat→Bool) (s:St) (o:Op):Bool:=Cs o && match Fj s o with
 | some (g,_)=>isV g
 | none=>false
theorem Alh {P:Program} {E:Env} {isV:Nat→Bool} (hV:Ata E isV) {ops:Array Oper} {T:List AV} {H:List Blk} {c:Nat} {o:Oper} {s':St} (hv:isVop isV ⟨T,H,c⟩ o.op=true) (h:Ah P E ops ⟨T,H,c⟩ o=some s'):
  s'.H=H∧s'.cnt=c∧∀ H2 c2,Ah P E ops ⟨T,H2,c2⟩ o=some ⟨s'.T,H2,c2⟩:=by
 unfold isVop at hv
 simp only [AT] at hv
 obtain ⟨hc,hv⟩:=hv
 split at hv
 ·rename_i g args ht
  obtain ⟨hp,F,hF⟩:=hV g hv
  have ht2:∀ H2 c2,Fj ⟨T,H2,c2⟩ o.op=some (g,args):=fun H2 c2=>ht
  have pure:∀ H2 c2,¬ AZ E ⟨T,H2,c2⟩ o.op=true:=by
   intro H2 c2
   unfold AZ
   rw [hc,if_pos rfl,ht2]
   simp only
   rw [hp]; decide
  have Ga:∀ H2 c2,Ga P E ⟨T,H2,c2⟩ o=(F args).map fun r=>St.put ⟨T,H2,c2⟩ o.dst r:=by
   intro H2 c2
   unfold Ga
   rw [hc,if_pos rfl,ht2]
   simp only [hF]
   cases F args <;> rfl
  have put:∀ (d:Option Nat) (v:AV) (H2:List Blk) (c2:Nat),St.put ⟨T,H2,c2⟩ d v=⟨(St.put ⟨T,H,c⟩ d v).T,H2,c2⟩:=by
   intro d v H2 c2
   cases d <;> rfl
  unfold Ah at h ⊢
  cases hg:o.guard with
  | none=>
   rw [hg] at h
   simp only [if_neg (pure _ _),Ga] at h ⊢
   cases hq:F args with
   | none=>rw [hq] at h; cases h
   | some r=>
    rw [hq] at h
    cases h
    refine ⟨by cases o.dst <;> rfl,by cases o.dst <;> rfl,fun H2 c2=>?_⟩
    rw [lx34,put o.dst r H2 c2]
  | some jw=>
   obtain ⟨j,want⟩:=jw
   rw [hg] at h
   have gv:∀ H2 c2,Ap ops ⟨T,H2,c2⟩ j=Ap ops ⟨T,H,c⟩ j:=fun _ _=>rfl
   simp only [gv,if_neg (pure _ _),Ga] at h ⊢
   split at h
   ·split at h
    ·rename_i hw
     cases hq:F args with
     | none=>rw [hq] at h; cases h
     | some r=>
      rw [hq] at h
      cases h
      refine ⟨by cases o.dst <;> rfl,by cases o.dst <;> rfl,fun H2 c2=>?_⟩
      rw [if_pos hw,lx34,put o.dst r H2 c2]
    ·rename_i hw
     cases h
     refine ⟨by cases o.dst <;> rfl,by cases o.dst <;> rfl,fun H2 c2=>?_⟩
     rw [if_neg hw,put o.dst .un H2 c2]
   ·cases h
    refine ⟨by cases o.dst <;> rfl,by cases o.dst <;> rfl,fun H2 c2=>?_⟩
    rw [put o.dst .un H2 c2]
   ·cases h
 ·cases hv
def sameB (P:Program) (E:Env) (ops:Array Oper) (o:Oper) (T T':List AV) (H:List Blk) (c:Nat):Bool:=
 AZ E ⟨T,H,c⟩ o.op && match Ah P E ops ⟨T,H,c⟩ o,o.dst with
  | some s1,some d=>Um (s1.T.getD d .un) (T'.getD d .un)
  | some _,none=>true
  | none,_=>false
theorem Lw {P:Program} {E:Env} {ops:Array Oper} {s s':St} {o:Oper} (hp:AZ E s o.op=true) (h:Ah P E ops s o=some s'):∃ v,s'=s.put o.dst v:=by
 unfold Ah at h
 simp only [hp,lx6] at h
 split at h
 ·simp only [lx24] at h
  obtain ⟨v,_,h⟩:=h
  exact ⟨v,h.symm⟩
 ·split at h
  ·simp only [lx24] at h
   obtain ⟨v,_,h⟩:=h
   exact ⟨v,h.symm⟩
  ·cases h; exact ⟨_,rfl⟩
  ·cases h
theorem Ahe {P:Program} {E:Env} {ops:Array Oper} {o:Oper} {T T':List AV} {H H0:List Blk} {c c0:Nat} (hT:∃ v,T'=(St.put ⟨T,H0,c0⟩ o.dst v).T) (h:sameB P E ops o T T' H c=true):
  Ah P E ops ⟨T,H,c⟩ o=some ⟨T',H,c⟩:=by
 unfold sameB at h
 simp only [AT] at h
 obtain ⟨hp,h⟩:=h
 obtain ⟨v,hT⟩:=hT
 split at h
 ·rename_i s1 d h1 hd
  obtain ⟨v1,rfl⟩:=Lw hp h1
  have:=Ahd _ _ h
  rw [h1]
  rw [hd] at hT this ⊢
  simp only [St.put] at hT this ⊢
  rw [hT] at this ⊢
  by_cases hl:d < T.length
  ·simp [lx80,hl] at this
   rw [this]
  ·have hl':T.length≤d:=Nat.le_of_not_lt hl
   rw [lx72 hl',lx72 hl']
 ·rename_i s1 h1 hd
  obtain ⟨v1,rfl⟩:=Lw hp h1
  rw [h1,hT,hd]
  rfl
 ·cases h
def Qk (P:Program) (E:Env) (isV:Nat→Bool) (ops:Array Oper) (i:Nat) (o:Oper) (T T':List AV):List Past→Bool
 | []=>true
 | h::r=>(gB E.hb ops h.at_ i || (isVop isV ⟨T,[],0⟩ o.op || sameB P E ops o T T' h.H h.c)) && Qk P E isV ops i o T T' r
def Ql (P:Program) (E:Env) (isV:Nat→Bool) (ops:Array Oper) (k:Nat) (H:List Blk) (c:Nat):List Did→Bool
 | []=>true
 | d::r=>(gB E.hb ops d.at_ k || (isVop isV ⟨d.T,[],0⟩ d.o.op || sameB P E ops d.o d.T d.T' H c)) && Ql P E isV ops k H c r
def Aaf (κ:Nat→Bool) (ops:Array Oper) (i:Nat) (H':List Blk):Op→Bool
 | .buildSlice ..=>gB κ ops i i || norefs (Dh H')
 | _=>true
def Ka (P:Program) (E:Env) (isV:Nat→Bool) (ops:Array Oper):List Oper→Nat→St→List Past→List Did→Option St
 | [],_,s,_,_=>some s
 | o::r,i,s,hs,ds=>match Ah P E ops s o with
  | none=>none
  | some s'=>
   match Cy E.hb o.op with
   | false=>
    match AU o.op with
    | true=>Ka P E isV ops r (i+1) s' hs ds
    | false=>match (AZ E s o.op || isVop isV s o.op) && Qk P E isV ops i o s.T s'.T hs with
     | true=>Ka P E isV ops r (i+1) s' hs (⟨i,o,s.T,s'.T⟩::ds)
     | false=>none
   | true=>match Ql P E isV ops i s'.H s'.cnt ds && Aaf E.hb ops i s'.H o.op with
    | true=>Ka P E isV ops r (i+1) s' (⟨i,s.H,s.cnt⟩::hs) ds
    | false=>none
theorem XY {κ:Nat→Bool} {ops:Array Oper} {i k:Nat} {p:Prop} {b:Bool} (hb:b=true→p) (h:(gB κ ops i k || b)=true):Chk κ ops i k p:=by
 intro hg
 rw [hg,Ii] at h
 exact hb h
def Aag (P:Program) (E:Env) (isV:Nat→Bool) (ops:Array Oper) (o:Oper) (T T':List AV):Prop:=
 (isVop isV ⟨T,[],0⟩ o.op=true→∀ H c,Ah P E ops ⟨T,H,c⟩ o=some ⟨T',H,c⟩)∧(isVop isV ⟨T,[],0⟩ o.op=false→∃ H0 c0 v,T'=(St.put ⟨T,H0,c0⟩ o.dst v).T)
theorem WE {P:Program} {E:Env} {isV:Nat→Bool} {ops:Array Oper} {o:Oper} {T T':List AV} {H:List Blk} {c:Nat} (hd:Aag P E isV ops o T T') (h:(isVop isV ⟨T,[],0⟩ o.op || sameB P E ops o T T' H c)=true):
  Ah P E ops ⟨T,H,c⟩ o=some ⟨T',H,c⟩:=by
 cases hv:isVop isV ⟨T,[],0⟩ o.op with
 | true=>exact hd.1 hv H c
 | false=>
  obtain ⟨H0,c0,hT⟩:=hd.2 hv
  rw [hv,Ii] at h
  exact Ahe (H0:=H0) (c0:=c0) hT h
theorem WG {P:Program} {E:Env} {isV:Nat→Bool} {ops:Array Oper} {i:Nat} {o:Oper} {T T':List AV} (hT:Aag P E isV ops o T T'):∀ {hs:List Past},Qk P E isV ops i o T T' hs=true→Ti P E ops i o T T' hs
 | [],_=>trivial
 | h::r,hb=>by
  simp only [Qk,AT] at hb
  exact ⟨XY (WE hT) hb.1,WG hT hb.2⟩
def Aqe (P:Program) (E:Env) (isV:Nat→Bool) (ops:Array Oper) (ds:List Did):Prop:=∀ d ∈ ds,Aag P E isV ops d.o d.T d.T'
theorem WH {P:Program} {E:Env} {isV:Nat→Bool} {ops:Array Oper} {k:Nat} {H:List Blk} {c:Nat}:∀ {ds:List Did},Aqe P E isV ops ds→Ql P E isV ops k H c ds=true→chkF P E ops k H c ds
 | [],_,_=>trivial
 | d::r,hd,hb=>by
  simp only [Ql,AT] at hb
  exact ⟨XY (WE (hd d lx48)) hb.1,WH (fun x hx=>hd x (lx49 _ hx)) hb.2⟩
theorem Ahf {E:Env} {ops:Array Oper} {i:Nat} {H:List Blk} {o:Op} (h:Aaf E.hb ops i H o=true):KX E.hb ops i H o:=by
 cases o <;> first | trivial | exact XY id h
theorem II {P:Program} {E:Env} {isV:Nat→Bool} (hV:Ata E isV) {ops:Array Oper} {s1:St}:∀ {l:List Oper} {i:Nat} {s:St} {hs:List Past} {ds:List Did},Aqe P E isV ops ds→Ka P E isV ops l i s hs ds=some s1→DM P E ops (·=s1) l i s hs ds
 | [],i,s,hs,ds,hd,h=>by simp only [Ka,lx16] at h; exact h
 | o::r,i,s,hs,ds,hd,h=>by
  simp only [Ka] at h
  split at h
  ·cases h
  ·rename_i s' hs'
   refine ⟨s',hs',?_⟩
   split at h
   ·rename_i hh
    rw [if_pos hh]
    split at h
    ·rename_i hn
     rw [if_pos hn]
     exact II hV hd h
    ·rename_i hn
     rw [if_neg (by rw [hn]; decide)]
     split at h
     ·rename_i hc
      simp only [AT,Iu] at hc
      have key:(s'.H=s.H∧s'.cnt=s.cnt)∧Aag P E isV ops o s.T s'.T:=by
       cases hv:isVop isV s o.op with
       | true=>
        obtain ⟨k1,k2,k3⟩:=Alh hV hv hs'
        exact ⟨⟨k1,k2⟩,⟨fun _=>k3,fun h'=>by rw [show isVop isV ⟨s.T,[],0⟩ o.op=isVop isV s o.op from rfl,hv] at h'; cases h'⟩⟩
       | false=>
        have hp:AZ E s o.op=true:=by
         rcases hc.1 with h' | h'
         ·exact h'
         ·rw [hv] at h'; cases h'
        obtain ⟨v,hv'⟩:=Lw hp hs'
        exact ⟨M4 hp hs',⟨fun h'=>(by rw [show isVop isV ⟨s.T,[],0⟩ o.op=isVop isV s o.op from rfl,hv] at h'; cases h'),fun _=>⟨s.H,s.cnt,v,by rw [hv']⟩⟩⟩
      exact ⟨key.1,WG key.2 hc.2,II hV (fun d hm=>by
       rcases lx59.1 hm with rfl | hm
       ·exact key.2
       ·exact hd d hm) h⟩
     ·cases h
   ·rename_i hh
    rw [if_neg (by rw [hh]; decide)]
    split at h
    ·rename_i hc
     simp only [AT] at hc
     exact ⟨WH hd hc.1,Ahf hc.2,II hV hd h⟩
    ·cases h
def Ahg:Item→Bool
 | .code .ret=>true
 | _=>false
theorem Ox {P:Program} {E:Env} {n0:Nat} {rs:List ResultVar} {R R':AV→St→Prop} {k:List Item} {s:St} (h:Go P E n0 rs R k s) (hR:∀ r s,R r s→R' r s):Go P E n0 rs R' k s:=by
 induction h with
 | ret h h1=>exact .ret h (hR _ _ h1)
 | fin h h1=>exact .fin h (hR _ _ h1)
 | skip _ ih=>exact .skip ih
 | seq _ ih=>exact .seq ih
 | cond t hc _ ih=>exact .cond t hc ih
 | block _ ih=>exact .block ih
 | inBlock _ ih=>exact .inBlock ih
 | loop _ ih=>exact .loop ih
 | inLoop _ ih=>exact .inLoop ih
 | exit he _ ih=>exact .exit he ih
 | region hr _ ih=>exact .region hr ih
 | draw hp hr _ ih=>exact .draw hp hr ih
 | drawH hp hh hr _ ih=>exact .drawH hp hh hr ih
 | drawP hp hr _ ih=>exact .drawP hp hr ih
 | ghost hg _ ih=>exact .ghost hg ih
 | alt hg _ ih=>exact .alt hg ih
 | know hp _ ih=>exact .know hp ih
 | sem hg _ ih=>exact .sem hg ih
structure Giv where
 p:Nat→List AV→Option AV
 v:Nat→List AV→Option AV
 h:Nat→List AV→List Blk→Nat→Option (AV × List Blk × Nat)
 f:Nat→List AV→Option AV
structure GivOk (P:Program) (G:Giv):Prop where
 p:∀ f args r,G.p f args=some r→Di P f args r
 v:∀ f args r,G.v f args=some r→C1 P f args r
 h:∀ f args H cnt r H' cnt',G.h f args H cnt=some (r,H',cnt')→HSpec P f args H cnt r H' cnt'
 f:∀ f args r,G.f f args=some r→Hz P f args r
def Ayn:Nat:=1000000
end Go.SX
