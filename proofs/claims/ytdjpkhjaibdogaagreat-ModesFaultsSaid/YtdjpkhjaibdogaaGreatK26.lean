/-
  Lemmas towards ModesFaults (joined texts: GJ, CB, CC, CD, CE).
  Conditions: none.
-/
import Derived.Test.YtdjpkhjaibdogaaGreatK01
import Derived.Test.YtdjpkhjaibdogaaGreatK22
import Derived.Test.YtdjpkhjaibdogaaGreatK25
import Derived.Lib.Overlaps
import Derived.Test.YtdjpkhjaibdogaaGreatK02
set_option linter.unusedSimpArgs false
set_option linter.unusedVariables false
set_option maxRecDepth 100000
set_option maxHeartbeats 8000000
namespace Go.Proofs.YtdjpkhjaibdogaaGreat
open Go Go.SX
theorem XI {α:Type} (p y news:List α):Bs (p++y) p.length news=p++news++y.drop news.length:=by
 unfold Bs
 rw [List.take_left' rfl,List.drop_append,List.drop_of_length_le (by omega),IK,lx64]
theorem J0 {α:Type} (p y news:List α) (k:Nat) (hk:k=p.length):Bs (p++y) k news=p++news++y.drop news.length:=by subst hk; exact XI p y news
theorem MF (w:World) (b off i c n k:Nat) (info:TypeInfo) (z:Value) (hinfo:Tryz.prog.info? 82=some info) (hz:info.zero=some z) (hs:info.size=6) (hbt:info.bytes=48) (hi:i < n) (hnc:n≤c) (hroom:c < n+1) (hn:n≤100000) (hk:k=n+1 - i)
  (olds:List Value) (hol:olds.length=i * 6) (hcs:∀ j u,olds[j]?=some u→w.cell? ⟨b,off+j,none⟩=some u) (ty:TypeId):
  (Builtin.append_ #[39,3] ty #[.slice (some ⟨b,off,none⟩) i c,.int .i64 ((n:Int)+1 - (i:Int))]).run Tryz.prog w=
   .ok (.slice (some ⟨w.heap.size,0,none⟩) (n+1) (grownCap w (n+1) c 82))
    (w.drew.alloc (.cells (olds.toArray++Builtin.zeroCells z.cells k++Builtin.zeroCells z.cells (grownCap w (n+1) c 82 - (n+1))) 82)):=by
 have e1:(n:Int)+1 - (i:Int)=(k:Int):=Ah
 have e2:n+1=i+k:=Ah
 rw [e1,e2]
 have hk0:k≠0:=Ah
 have hw:IntKind.i64.wrap (k:Int)=k:=by rw [IntKind.wrap_i64]; omega
 have hn':¬ (i+k≤c):=Ah
 have h63':¬ (9223372036854775807 < ((i:Int)+(k:Int))):=Ah
 have hfit:=growslice_fits (need:=i+k) (old:=c) (bytes:=48) (by omega) (by omega)
 have h48':¬ (281474976710656 < Builtin.nextslicecap (i+k) c * info.bytes):=by rw [hbt]; omega
 have h48i:¬ (281474976710656 < (k:Int) * (info.bytes:Int)):=by rw [hbt]; omega
 have hneg:¬ ((k:Int) < 0):=Ah
 have hns:¬ (k * info.size=0):=by rw [hs]; omega
 have hold:(Builtin.firstCells info.size i (.slice (some ⟨b,off,none⟩) i c)).run Tryz.prog w.drew=.ok olds.toArray w.drew:=by
  rw [hs]
  exact Fx (w:=w.drew) (P:=Tryz.prog) hol (.inr ⟨b,off,rfl,fun j u h=>hcs j u h⟩) i
 have u39:=run_underlying t39
 have u3:=run_underlying t3'
 simp [Builtin.append_,u39,u3,sizeOf,typeInfo,zeroValue,hinfo,hz,asInt,asIntOf,hw,hn',hneg,hns,h63',h48',h48i,Question.forced,hold,newRow,grownCap]
theorem PT {w:World} {b:Nat} {cs:Array Value} {t:TypeId} (h:w.heap[b]?=some (.cells cs t (0,0))) (k:Nat):w.frozen? ⟨b,k,none⟩=false:=by
 simp [World.frozen?,h]
theorem NF (w:World) (b vb off voff vc lb cb:Nat) (hne:vb≠b) (cs csv:Array Value) (hh:w.heap[b]?=some (.cells cs 82 (0,0))) (hv:w.heap[vb]?=some (.cells csv 82 (0,0))) (hcs:cs.size≠0):
  (callFunc 249 #[.slice (some ⟨vb,voff,none⟩) 1 vc,.slice (some ⟨b,off,none⟩) lb cb]).run Tryz.prog w=.ok (.value (.bool false)) w:=by
 have hsa:w.shape? vb=some (82,csv.size):=by simp [World.shape?,hv]
 have hsb:w.shape? b=some (82,cs.size):=by simp [World.shape?,hh]
 have hfa:=PT hv voff
 have hfe:=PT hv csv.size
 have hz:∀ w,(Go.sizeOf 82).run Tryz.prog w=.ok 6 w:=fun _=>by kernel_rfl
 rw [run_callFunc_extern Tryz.func249 (by kernel_rfl) (by kernel_rfl) (by kernel_rfl) (e:=Extern.SlicesOverlaps.overlaps #[39,39] #[4]) (by kernel_rfl)]
 rw [Lib.run_overlaps_apart w 39 4 82 t39 6 hz ⟨vb,voff,none⟩ ⟨b,off,none⟩ 1 vc lb cb hne 82 82 csv.size cs.size hsa hsb hcs hfa hfe]
 rfl
theorem Am1 {w w':World} {X:Nat→Prop} {hc:HC} (h:HR w X hc) (hos:w'.os=w.os) (htape:w'.tape=w.tape) (hout:w'.output=w.output) (hheap:w'.heap=w.heap):HR w' X hc∧Evo w X hc w' X hc:=by
 have ev:Evo w X hc w' X hc:=by
  refine ⟨hos,htape,hout,by rw [hheap]; exact Ax _,fun b _ _=>by rw [hheap],fun b s hs=>?_,fun _ _=>Iff.rfl,Ax _,fun k B h1 h2 _=>⟨B,h1,h2,rfl,rfl,rfl,rfl,rfl⟩,fun k B b o h1 h2 h3 _=>⟨B,o,h1,h2,h3⟩⟩
  unfold World.shape? at *
  rw [hheap]; exact hs
 refine ⟨⟨fun id B h1 h2=>h.rest ev h1 h2 rfl (fun b o _=>by rw [hheap]) (fun _ hx=>hx),h.inj,fun b hb=>by rw [hheap]; exact h.lt b hb⟩,ev⟩
theorem Aho (z:Array Value) (n:Nat):(Builtin.zeroCells z n).size=n * z.size:=size_zeroCells z n
theorem vl3 {w:World} {X:Nat→Prop} {o:Option HC} {a b c:AV} {cargs:Array Value} (h:VL w X o [a,b,c] cargs.toList):∃ u v x,cargs=#[u,v,x]∧VR w X o a u∧VR w X o b v∧VR w X o c x:=by
 obtain ⟨u,l1,e1,k1,h1⟩:=h.uncons
 obtain ⟨v,l2,e2,k2,h2⟩:=h1.uncons
 obtain ⟨x,l3,e3,k3,h3⟩:=h2.uncons
 have e4:=h3.unnil
 subst e4; subst e3; subst e2
 refine ⟨u,v,x,?_,k1,k2,k3⟩
 apply Array.ext'
 rw [e1]
theorem G9 {w:World} {b:Nat} {cs r:Array Value} {t:TypeId} (h:w.heap[b]?=some (.cells cs t (0,0))) (k:Nat):(w.setRow b r).heap[k]?=if k=b then some (.cells r t (0,0)) else w.heap[k]?:=by
 by_cases hk:k=b
 ·rw [if_pos hk,hk]; exact setRow_heap w b cs r t (0,0) h
 ·rw [if_neg hk]; exact setRow_other w b k r hk
theorem GF {w:World} {row:Array Value} {t:TypeId}:(w.drew.alloc (.cells row t)).heap=w.heap.push (.cells row t (0,0)):=rfl
theorem Ahp {w:World} {row r1 r2:Array Value} {t:TypeId}:(((w.drew.alloc (.cells row t)).setRow w.heap.size r1).setRow w.heap.size r2).heap=w.heap.push (.cells r2 t (0,0)):=by
 have h0:(w.drew.alloc (.cells row t)).heap[w.heap.size]?=some (.cells row t (0,0)):=by rw [GF]; simp
 have h1:((w.drew.alloc (.cells row t)).setRow w.heap.size r1).heap[w.heap.size]?=some (.cells r1 t (0,0)):=setRow_heap _ _ _ _ _ _ h0
 refine Array.ext_getElem? fun k=>?_
 rw [G9 h1,G9 h0,GF,Array.getElem?_push,Array.getElem?_push]
 by_cases hk:k=w.heap.size
 ·simp [hk]
 ·simp [hk]
theorem Ahq {w:World} {b:Nat} {cs r1 r2:Array Value} {t:TypeId} (h:w.heap[b]?=some (.cells cs t (0,0))):((w.setRow b r1).setRow b r2).heap=(w.setRow b r2).heap:=by
 refine Array.ext_getElem? fun k=>?_
 rw [G9 (setRow_heap w b cs r1 t (0,0) h),G9 h,G9 h]
 by_cases hk:k=b
 ·simp [hk]
 ·simp [hk]
theorem Wu {w:World} {X:Nat→Prop} {hc:HC} {cs:List Value} {esz:Nat} {els:List AV} (h:Real w X hc cs 0 esz els) (h0:0 < esz) (hl:cs.length=els.length * esz):∀ u ∈ cs,u.oneCell'=true:=by
 intro u hu
 obtain ⟨k,hk,rfl⟩:=lx69 hu
 have hi:k / esz < els.length:=Nat.div_lt_of_lt_mul (by rw [Nat.mul_comm]; omega)
 obtain ⟨h1,h2⟩:=h (k / esz) _ (lx51 hi)
 have hj:k % esz < (els[k / esz]).cells.length:=by rw [h1]; exact Nat.mod_lt _ h0
 obtain ⟨c,g1,g2,_⟩:=h2 (k % esz) _ (lx51 hj)
 have e:0+k / esz * esz+k % esz=k:=by have:=Nat.div_add_mod k esz; rw [Nat.mul_comm] at this; omega
 rw [e,lx51 hk] at g1
 cases g1
 exact g2
theorem Ase:∃ info,Tryz.prog.info? 82=some info∧info.size=6∧info.bytes=48∧info.zero=some (.agg #[.int .i64 0,.int .i64 0,.int .i64 0,.int .i64 0,.int .i64 0,.int .i64 0]):=by
 obtain ⟨i,u,h1,_,h2,h3,h4,_⟩:=Bf As5
 exact ⟨i,h1,h2,h3,h4⟩
theorem Wv (ls:List Lo) (x:Lo) (i:Nat) (hi:i < ls.length) (hn:ls.length≤100000) (H:List Blk) (id q v u:Nat) (tmp:Bool) (hB:H[id]?=some ⟨true,v,82,6,ls.map BY,false⟩) (hq:H[q]?=some ⟨true,u,82,6,[BY x],tmp⟩) (hne:q≠id) (cnt:Nat):
  HSpec Tryz.prog 234 [.sl id v 0 ls.length,.sc (.int .i64 (i:Int)),.sl q u 0 1] H cnt (.sl id cnt 0 (ls.length+1)) (H.set id ⟨true,cnt,82,6,(ls.take i++x::ls.drop i).map BY,false⟩) (cnt+1):=by
 obtain ⟨n,hnn⟩:∃ n,ls.length=n:=⟨_,rfl⟩
 refine ⟨⟨Tryz.f234,Tryz.func234,by decide,rfl⟩,fun w X loc cargs hr hv=>?_⟩
 obtain ⟨c0,c1,c2,rfl,k0,k1,k2⟩:=vl3 hv
 cases k1 with
 | sc _=>?_
 obtain ⟨y0,y1⟩:(∃ a cap,c0=.slice a ls.length cap)∧SlOk w ⟨loc,H,cnt⟩ id v 0 ls.length c0:=by cases k0 with | sl h1 h2=>exact ⟨h1,h2 _ rfl⟩
 obtain ⟨z0,z1⟩:(∃ a cap,c2=.slice a 1 cap)∧SlOk w ⟨loc,H,cnt⟩ q u 0 1 c2:=by cases k2 with | sl h1 h2=>exact ⟨h1,h2 _ rfl⟩
 obtain ⟨_,y2⟩:=y1
 obtain ⟨y3,y4⟩:=y2 _ hB rfl rfl
 obtain ⟨_,z2⟩:=z1
 obtain ⟨z3,z4⟩:=z2 _ hq rfl rfl
 rcases y4 with ⟨y4,_⟩ | ⟨b,base,cap,N,y5,y6,y7,y8,y9,y10⟩
 ·omega
 rcases z4 with ⟨z4,_⟩ | ⟨vb,vbase,vcap,vN,z5,z6,z7,z8,z9,z10⟩
 ·omega
 subst y6; subst z6
 obtain ⟨b1,b2,b3⟩:=hr.blk id _ hB rfl
 obtain ⟨d1,d2,d3⟩:=hr.blk q _ hq rfl
 rw [y5] at b3
 rw [z5] at d3
 obtain ⟨b4,⟨cs,b5⟩,b6⟩:=b3
 obtain ⟨d4,⟨csv,d5⟩,d6⟩:=d3
 have hbv:vb≠b:=fun h=>hne (hr.inj q id _ _ b vbase base hq hB rfl rfl (by rw [z5,h]) y5)
 have hN:N=cs.size:=by simp [World.shape?,b5] at y9; exact y9.symm
 have hvN:vN=csv.size:=by simp [World.shape?,d5] at z9; exact z9.symm
 subst hN; subst hvN
 simp only at y3 y7 y10 z7 z10 b6 d6 b5 d5
 rw [hnn] at hi hn y3 y7 ⊢
 have rB:Real w X ⟨loc,H,cnt⟩ cs.toList base 6 (ls.map BY):=b6.real b5
 have rV:=(d6.real d5:Real w X ⟨loc,H,cnt⟩ csv.toList vbase 6 [BY x]).seg (lo:=0) (len:=1) (by simp)
 have rA:=rB.seg (lo:=0) (len:=i) (by simp; omega)
 have rD:=rB.seg (lo:=i) (len:=n - i) (by simp; omega)
 obtain ⟨A,hA⟩:∃ A,(cs.toList.drop (base+0 * 6)).take (i * 6)=A:=⟨_,rfl⟩
 obtain ⟨D,hD⟩:∃ D,(cs.toList.drop (base+i * 6)).take ((n - i) * 6)=D:=⟨_,rfl⟩
 obtain ⟨V,hV⟩:∃ V,(csv.toList.drop (vbase+0 * 6)).take (1 * 6)=V:=⟨_,rfl⟩
 have lA:A.length=i * 6:=by rw [←hA,lx68,lx93,lx29]; omega
 have lD:D.length=(n - i) * 6:=by rw [←hD,lx68,lx93,lx29]; omega
 have lV:V.length=6:=by rw [←hV,lx68,lx93,lx29]; omega
 rw [hA] at rA; rw [hD] at rD; rw [hV] at rV
 have gA:∀ j u,A[j]?=some u→w.cell? ⟨b,base+j,none⟩=some u:=fun j u h=>by
  rw [←hA,lx19] at h
  split at h
  ·rw [lx20] at h; rw [Cv b5]; simpa using h
  ·cases h
 have gD:∀ j u,D[j]?=some u→w.cell? ⟨b,base+i * 6+j,none⟩=some u:=fun j u h=>by
  rw [←hD,lx19] at h
  split at h
  ·rw [lx20] at h; rw [Cv b5]; exact h
  ·cases h
 have gV:∀ j u,V[j]?=some u→w.cell? ⟨vb,vbase+j,none⟩=some u:=fun j u h=>by
  rw [←hV,lx19] at h
  split at h
  ·rw [lx20] at h; rw [Cv d5]; simpa using h
  ·cases h
 have oD:=Wu rD (show 0 < 6 by decide) (by rw [lD,lx68,lx93,lx58,hnn,Nat.min_self])
 have oV:=Wu rV (show 0 < 6 by decide) (by rw [lV]; simp)
 have rF:Real w X ⟨loc,H,cnt⟩ (A++V++D) 0 6 ((ls.take i++x::ls.drop i).map BY):=by
  have h1:=(rA.append (by rw [lA]; simp; omega) rV).append (by rw [lx5,lA,lV]; simp; omega) rD
  have e1:(List.take i (List.drop 0 (ls.map BY))++List.take 1 (List.drop 0 [BY x]))++List.take (n - i) (List.drop i (ls.map BY))=(ls.take i++x::ls.drop i).map BY:=by
   have e2:List.take (n - i) (List.drop i (ls.map BY))=List.drop i (ls.map BY):=lx118 (by simp; omega)
   rw [e2]
   simp
  rw [e1] at h1
  exact h1
 obtain ⟨info,i1,i2,i3,i4⟩:=Ase
 have hlen:((ls.take i++x::ls.drop i).map BY).length=n+1:=E6
 have hset:(H.set id (⟨true,cnt,82,6,(ls.take i++x::ls.drop i).map BY,false⟩:Blk))[id]?=some ⟨true,cnt,82,6,(ls.take i++x::ls.drop i).map BY,false⟩:=by
  rw [List.getElem?_set_self (lx22.1 hB).1]
 have hsetne:∀ k,k≠id→(H.set id (⟨true,cnt,82,6,(ls.take i++x::ls.drop i).map BY,false⟩:Blk))[k]?=H[k]?:=fun k hk=>lx52 (fun h=>hk h.symm)
 have hL:((ls.take i++x::ls.drop i).map BY).length≤Dr:=by rw [hlen]; simp only [Dr]; omega
 clear k0 y0 y2 k2 z0 z2
 have hcz:(Value.cells (.agg #[.int .i64 0,.int .i64 0,.int .i64 0,.int .i64 0,.int .i64 0,.int .i64 0])).size=6:=rfl
 by_cases hroom:cap < n+1
 ·obtain ⟨G,hG⟩:∃ G,grownCap w (n+1) cap 82=G:=⟨_,rfl⟩
  have hG1:=grownCap_ge w (n+1) cap 82
  have hG2:=grownCap_le_maxLen w (n+1) cap 82 (by simp only [maxLen]; omega)
  have hrz:=MF w b base i cap n (n+1 - i) info _ i1 i4 i2 i3 hi y7 hroom hn rfl A lA gA
  rw [hG] at hG1 hG2 hrz
  obtain ⟨Z,hZ⟩:∃ Z,(Builtin.zeroCells (Value.cells (.agg #[.int .i64 0,.int .i64 0,.int .i64 0,.int .i64 0,.int .i64 0,.int .i64 0])) (n+1 - i)++Builtin.zeroCells (Value.cells (.agg #[.int .i64 0,.int .i64 0,.int .i64 0,.int .i64 0,.int .i64 0,.int .i64 0])) (G - (n+1)))=Z:=⟨_,rfl⟩
  have lZ:Z.toList.length=(n+1 - i) * 6+(G - (n+1)) * 6:=by rw [←hZ,lx29,Array.size_append,Aho,Aho,hcz]
  simp only [Array.append_assoc,hZ] at hrz
  have e0:(A.toArray++Z).toList=A++Z.toList:=Br
  have e1:Bs (A.toArray++Z).toList (i * 6) V=A++V++Z.toList.drop 6:=by rw [e0,J0 A Z.toList V (i * 6) lA.symm,lV]
  have e2:Bs (A++V++Z.toList.drop 6) ((i+1) * 6) D=A++V++D++(Z.toList.drop 6).drop D.length:=J0 (A++V) _ D _ (by rw [lx5,lA,lV]; omega)
  refine (Ahd w b base n cap i vb vbase vcap hi y7 hroom hn (A.toArray++Z) (A++V++Z.toList.drop 6).toArray (A++V++D++(Z.toList.drop 6).drop D.length).toArray G hG1 hG2 hrz (fun ty dc W hW=>?_) (fun ty dc sc W hW=>?_)).mono ?_
  ·have hr1:=Jc (P:=Tryz.prog) (w:=W) (t:=39) (t':=39) (ty:=ty) t39 i1 (b:=w.heap.size) (o:=i * 6) (dLen:=n+1 - i) (dCap:=dc) (cur:=A.toArray++Z) (ety:=82) (by rw [hW,GF]; simp) (p:=some ⟨vb,vbase,none⟩) (m:=1) (c:=vcap) (news:=V)
    (by rw [lV,i2,show Nat.min 1 (n+1 - i)=1 from Nat.min_eq_left (by omega)]) (.inr ⟨vb,vbase,rfl,fun j u h=>by
     have:=gV j u h
     rw [Cv d5] at this
     have hlt:vb < w.heap.size:=(lx50.1 d5).1
     rw [Cv (cs:=csv) (t:=82) (fr:=(0,0)) (by rw [hW,GF,Array.getElem?_push,if_neg (by omega)]; exact d5)]
     exact this⟩) oV (by rw [←lx29,e0,lx5,lA,lZ,lV]; omega)
   rw [e1,show Nat.min 1 (n+1 - i)=1 from Nat.min_eq_left (by omega)] at hr1
   exact hr1
  ·have hrow:W.heap[w.heap.size]?=some (.cells (A++V++Z.toList.drop 6).toArray 82 (0,0)):=by
    rw [hW]; exact setRow_heap _ _ (A.toArray++Z) _ _ _ (by rw [GF]; simp)
   have hr1:=Jc (P:=Tryz.prog) (w:=W) (t:=39) (t':=39) (ty:=ty) t39 i1 (b:=w.heap.size) (o:=(i+1) * 6) (dLen:=n+1 - (i+1)) (dCap:=dc) hrow (p:=some ⟨b,base+i * 6,none⟩) (m:=n - i) (c:=sc) (news:=D)
    (by rw [lD,i2,show Nat.min (n - i) (n+1 - (i+1))=n - i from Nat.min_eq_left (by omega)]) (.inr ⟨b,base+i * 6,rfl,fun j u h=>by
     have:=gD j u h
     rw [Cv b5] at this
     have hlt:b < w.heap.size:=(lx50.1 b5).1
     rw [Cv (cs:=cs) (t:=82) (fr:=(0,0)) (by rw [hW,setRow_other _ _ _ _ (by omega),GF,Array.getElem?_push,if_neg (by omega)]; exact b5)]
     exact this⟩) oD (by simp only [lx56,lx5,lx93,lA,lV,lD,lZ]; omega)
   rw [show Nat.min (n - i) (n+1 - (i+1))=n - i from Nat.min_eq_left (by omega)] at hr1
   simp only [e2] at hr1
   exact hr1
  ·rintro e w' ⟨rfl,q1,q2,q3,q4⟩
   rw [Ahp] at q4
   obtain ⟨g1,g2⟩:=W9 hr id ⟨true,cnt,82,6,(ls.take i++x::ls.drop i).map BY,false⟩ (A++V++D++(Z.toList.drop 6).drop D.length).toArray _ w' q1 q2 q3 q4 hset hsetne rfl rfl hL (rF.weaken fun k u hk h=>by
    simp only [BO] at h ⊢
    rw [lx61 (lx22.1 h).1]; exact h)
   refine ⟨_,_,_,rfl,g1,Mg (s:=⟨[],H,cnt⟩) q4 hset rfl (by rw [hlen]; omega) hG1 hG2 ?_,g2⟩
   simp only [lx56,lx5,lx93,lA,lV,lD,lZ]; omega
 ·obtain ⟨Y,hY⟩:∃ Y,cs.toList.drop (base+i * 6)=Y:=⟨_,rfl⟩
  obtain ⟨pr,hpr⟩:∃ pr,cs.toList.take base=pr:=⟨_,rfl⟩
  have lpr:pr.length=base:=by rw [←hpr,lx68,lx29]; omega
  have hP:cs.toList.take (base+i * 6)=pr++A:=by rw [List.take_add,hpr,←hA,Nat.zero_mul,IW]
  have hcs:cs.toList=pr++A++Y:=by rw [←hP,←hY,lx67]
  have lY:Y.length=cs.size - (base+i * 6):=by rw [←hY,lx93,lx29]
  have lP:(pr++A).length=base+i * 6:=by rw [lx5,lpr,lA]
  have hY6:(Y.take 6).length=6:=by rw [lx68,lY]; omega
  have hcs2:cs.toList=(pr++A++Y.take 6)++Y.drop 6:=by rw [lx4 _ (Y.take 6),lx67]; exact hcs
  obtain ⟨T,hT⟩:∃ T,(Y.drop 6).drop D.length=T:=⟨_,rfl⟩
  have e1:Bs cs.toList (base+(i+1) * 6) D=pr++A++(Y.take 6++D++T):=by
   rw [hcs2,J0 (pr++A++Y.take 6) (Y.drop 6) D _ (by rw [lx5,lP,hY6]; omega),hT]
   simp only [lx4]
  have e2:Bs (pr++A++(Y.take 6++D++T)) (base+i * 6) V=pr++(A++V++D)++T:=by
   rw [J0 (pr++A) _ V _ lP.symm,lV,lx4 (Y.take 6),List.drop_left' hY6]
   simp only [lx4]
  have lT:T.length=cs.size - (base+i * 6) - 6 - (n - i) * 6:=by rw [←hT,lx93,lx93,lY,lD]
  have s1:(pr++A++(Y.take 6++D++T)).length=cs.size:=by simp only [lx5,hY6,lD,lT,lpr,lA]; omega
  have s2:(pr++(A++V++D)++T).length=cs.size:=by simp only [lx5,lV,lD,lT,lpr,lA]; omega
  have hcsz:cs.size≠0:=Ah
  refine (Abz w b base n cap i vb vbase vcap hi (by omega) hn y8 (pr++A++(Y.take 6++D++T)).toArray (pr++(A++V++D)++T).toArray (fun lb cb=>NF w b vb _ vbase vcap lb cb hbv cs csv b5 d5 hcsz) (fun ty dc sc W hW=>?_) (fun ty dc W hW=>?_)).mono ?_
  ·have hr1:=Jc (P:=Tryz.prog) (w:=W) (t:=39) (t':=39) (ty:=ty) t39 i1 (b:=b) (o:=base+(i+1) * 6) (dLen:=n+1 - (i+1)) (dCap:=dc) (cur:=cs) (ety:=82) (by rw [hW]; exact b5) (p:=some ⟨b,base+i * 6,none⟩) (m:=n+1 - i) (c:=sc) (news:=D)
    (by rw [lD,i2,show Nat.min (n+1 - i) (n+1 - (i+1))=n - i from by simp only [Nat.min_def]; split <;> omega]) (.inr ⟨b,base+i * 6,rfl,fun j u h=>by
     have:=gD j u h
     rw [Cv b5] at this
     rw [Cv (cs:=cs) (t:=82) (fr:=(0,0)) (by rw [hW]; exact b5)]
     exact this⟩) oD (by rw [lD]; omega)
   rw [e1,show Nat.min (n+1 - i) (n+1 - (i+1))=n - i from by simp only [Nat.min_def]; split <;> omega] at hr1
   exact hr1
  ·have hrow:W.heap[b]?=some (.cells (pr++A++(Y.take 6++D++T)).toArray 82 (0,0)):=by rw [hW]; exact setRow_heap _ _ _ _ _ _ b5
   have hr1:=Jc (P:=Tryz.prog) (w:=W) (t:=39) (t':=39) (ty:=ty) t39 i1 (b:=b) (o:=base+i * 6) (dLen:=n+1 - i) (dCap:=dc) hrow (p:=some ⟨vb,vbase,none⟩) (m:=1) (c:=vcap) (news:=V)
    (by rw [lV,i2,show Nat.min 1 (n+1 - i)=1 from Nat.min_eq_left (by omega)]) (.inr ⟨vb,vbase,rfl,fun j u h=>by
     have:=gV j u h
     rw [Cv d5] at this
     rw [Cv (cs:=csv) (t:=82) (fr:=(0,0)) (by rw [hW,setRow_other _ _ _ _ hbv]; exact d5)]
     exact this⟩) oV (by simp only [lx56,s1,lV]; omega)
   rw [show Nat.min 1 (n+1 - i)=1 from Nat.min_eq_left (by omega)] at hr1
   simp only [e2] at hr1
   exact hr1
  ·rintro e w' ⟨rfl,q1,q2,q3,q4⟩
   rw [Ahq b5] at q4
   obtain ⟨g1,g2⟩:=OA hr id _ ⟨true,cnt,82,6,(ls.take i++x::ls.drop i).map BY,false⟩ b base base (cnt+1) cs (pr++(A++V++D)++T).toArray hB rfl y5 b5 (by simp only [lx56]; exact s2) rfl rfl hL (.inr ⟨rfl,rfl⟩) (rF.weaken fun k u hk h=>by
    simp only [BO] at h ⊢
    rw [lx4,lx62 (by omega),lpr,IK,lx61 (lx22.1 h).1]
    exact h)
   obtain ⟨f1,f2⟩:=Am1 (w':=w') g1 q1 q2 q3 q4
   refine ⟨_,_,_,rfl,f1,.sl ⟨_,_,rfl⟩ fun hc hhc=>?_,g2.trans f2⟩
   cases hhc
   refine ⟨IY _,fun B' h1 h2 h3=>?_⟩
   have h1':(H.set id (⟨true,cnt,82,6,(ls.take i++x::ls.drop i).map BY,false⟩:Blk))[id]?=some B':=h1
   rw [hset] at h1'
   cases h1'
   refine ⟨by rw [hlen]; omega,.inr ⟨b,base,cap,cs.size,by simp,by simp,by omega,y8,?_,y10⟩⟩
   exact (g2.trans f2).shape _ _ y9
end Go.Proofs.YtdjpkhjaibdogaaGreat
namespace Go.Proofs.YtdjpkhjaibdogaaGreat
open Go Go.SX
attribute [local congr] ite_congr
def EY (lo n:Int):Bool:=decide (n < lo) || decide ((2147483647:Int) < n)
noncomputable def f114:=EP (fun _:Int=>True) (fun x=>[kA .i64 x]) (fun x=>.fn 115 [.vp [kA .i64 x] 0 0])
theorem Ahr (x:Int):f114 [.sc (.int .i64 x)]=some (.fn 115 [.vp [.sc (.int .i64 x)] 0 0]):=
 (AG (q:=fun _:Int=>True) (enc:=fun x=>[kA .i64 x]) (out:=fun x=>.fn 115 [.vp [kA .i64 x] 0 0]) x trivial (by intro y h; simp only [lx96,Ay] at h; rw [Bt h]) :)
theorem Aq4:VOk Tryz.prog 114 f114:=SC <| by
 rintro x -
 refine C2 (Am (lit:=false) (pm:=fun _=>none) .nil .nil .nil .nil) rfl Tryz.func114 rfl (by decide) (by kernel_rfl) (by simp [AV.noref,norefs]) ?_
 simp only [Tryz.f114,Af,lx53,lx63,Nat.reduceAdd,Nat.reduceSub,List.replicate]
 refine Aa ?_
 simp (maxSteps:=10000000) +contextual -implicitDefEqProofs only [Bk,Bg,St.put,Ap,Al,↓reduceIte,Dq,AB]
 all_goals done
noncomputable def f115:=EP (fun _:Int × Int=>True) (fun p=>[kA .i64 p.1,.vp [kA .i64 p.2] 0 0]) (fun p=>bA (EY p.2 p.1))
theorem Am2 (n lo:Int):f115 [kA .i64 n,.vp [.sc (.int .i64 lo)] 0 0]=some (bA (EY lo n)):=
 (AG (q:=fun _:Int × Int=>True) (enc:=fun p=>[kA .i64 p.1,.vp [kA .i64 p.2] 0 0]) (out:=fun p=>bA (EY p.2 p.1)) (n,lo) trivial (by
  rintro ⟨a,b⟩ h
  simp only [lx96,AV.vp.injEq,Ay] at h
  rw [Bt h.1,Bt h.2]) :)
theorem Ahs:Eb Tryz.prog 115 f115:=AQ <| by
 rintro ⟨n,lo⟩ -
 refine Ab (Aq (.nil) (.nil)) rfl Tryz.func115 rfl (by decide) (by kernel_rfl) (by kernel_rfl) ?_
 simp only [Tryz.f115,Af,lx53,lx63,Nat.reduceAdd,Nat.reduceSub,List.replicate]
 refine Aa ?_
 simp (maxSteps:=10000000) +contextual -implicitDefEqProofs only [Bk,Bg,Ao,St.put,↓reduceIte,D5,AB,AU,AV.noref,EY]
 all_goals done
noncomputable def Hg (c:Cd) (v:Vn):Bool:=(Be c == 0) && ((v.vars.length:Int) == c.vars.length) && ((v.left.length:Int) == c.tim) && !v.vars.any (EY (-2147483647)) && !v.left.any (EY 0) && (He .u32 v.act c.pri.length == 0) && !EY 0 v.pl' && !EY 0 v.ba
theorem H6 {c:Cd} (h:Be c=0):PO c=true∧IT c=true∧G8 c=true∧Ns c=true∧I3 c=true:=by
 unfold Be at h
 split at h
 ·cases h
 ·rename_i h1
  split at h
  ·cases h
  ·rename_i h2
   split at h
   ·cases h
   ·rename_i h3
    split at h
    ·cases h
    ·rename_i h4
     split at h
     ·cases h
     ·rename_i h5
      exact ⟨by simpa using h1,by simpa using h2,by simpa using h3,by simpa using h4,by simpa using h5⟩
theorem Cw {c:Cd} (h:Be c=0):c.ins.length≤4000∧c.strs.length≤200∧c.ens.length≤512∧c.pri.length≤16∧c.vars.length≤128∧(0≤c.tim∧c.tim≤128)∧0≤c.evs∧c.evs≤128:=by
 have:=(H6 h).1
 simp only [PO,AH,AR] at this
 obtain ⟨⟨⟨⟨⟨⟨h1,h2⟩,h3⟩,h4⟩,h5⟩,h6⟩,h7⟩:=this
 have h6:=Du.1 h6
 have h7:=Du.1 h7
 omega
def vnQ (p:Cd × Vn):Prop:=Fit p.1
noncomputable def f77:=EP vnQ (fun p=>[B5 p.1,Ma p.2]) (fun p=>bA (Hg p.1 p.2))
theorem e77 (c:Cd) (v:Vn) (h:Fit c):f77 [B5 c,Ma v]=some (.sc (.bool (Hg c v))):=
 (AG (q:=vnQ) (enc:=fun p=>[B5 p.1,Ma p.2]) (out:=fun p=>bA (Hg p.1 p.2)) (c,v) h (by
  rintro ⟨a,b⟩ h
  simp only [lx96,Ay] at h
  rw [CV h.1,Aa3 h.2]) :)
theorem Azb:Eb Tryz.prog 77 f77:=AQ <| by
 rintro ⟨c,v⟩ hq
 have hq:Fit c:=hq
 have x1:=e53 c hq
 simp only [Ac] at x1
 have hsh:(0:Int)≤(c.pri.length:Int):=Nv _
 by_cases h:Be c=0∧(v.vars.length:Int)=c.vars.length∧(v.left.length:Int)=c.tim
 rotate_left
 ·have hE:Hg c v=false:=by
   rw [K5]
   intro hh
   simp only [Hg,AH,lx85] at hh
   exact h ⟨hh.1.1.1.1.1.1.1,hh.1.1.1.1.1.1.2,hh.1.1.1.1.1.2⟩
  simp only
  rw [hE]
  refine Ab (Am (lit:=false) (pm:=fun _=>none) (.cons Az4 .nil) (.cons Aq4 .nil) .nil .nil) rfl Tryz.func77 rfl (by decide) (by kernel_rfl) (by kernel_rfl) ?_
  simp only [Tryz.f77,Af,lx53,lx63,Nat.reduceAdd,Nat.reduceSub,List.replicate]
  refine Aa ?_
  cases h1:(Be c == 0) with
  | false=>
   exact Mc (a3 x1 h1 @Bm)
   repeat' (first | exact Ae (by kernel_rfl) | refine ⟨Ae (by kernel_rfl),?_⟩ | refine And.intro ?_ ?_ | fail)
   all_goals done
  | true=>
  cases h2:((v.vars.length:Int) == (c.vars.length:Int)) with
  | false=>
   exact Mc (a4 x1 h1 h2 @Bm)
   repeat' (first | exact Ae (by kernel_rfl) | refine ⟨Ae (by kernel_rfl),?_⟩ | refine And.intro ?_ ?_ | fail)
   all_goals done
  | true=>
  cases h3:((v.left.length:Int) == c.tim) with
  | false=>
   exact Mc (a5 x1 h1 h2 h3 @Bm)
   repeat' (first | exact Ae (by kernel_rfl) | refine ⟨Ae (by kernel_rfl),?_⟩ | refine And.intro ?_ ?_ | fail)
   all_goals done
  | true=>
   simp only [lx85] at h1 h2 h3
   exact absurd ⟨h1,h2,h3⟩ h
 obtain ⟨h1,h2,h3⟩:=h
 have hl:=Cw h1
 have b1:(Be c == 0)=true:=by simp [h1]
 have b2:((v.vars.length:Int) == (c.vars.length:Int))=true:=by simp [h2]
 have b3:((v.left.length:Int) == c.tim)=true:=by simp [h3]
 obtain ⟨F116,k116,e116,e116'⟩:=Aa1 (Apx Ahs (EY (-2147483647)) [kA .i64 (-2147483647)] v.zv v.vars (fun b _=>Am2 b (-2147483647)) (by omega)) (Apx Ahs (EY 0) [kA .i64 0] v.zl v.left (fun b _=>Am2 b 0) (by omega)) (by simp [kA])
 simp only [AB,AU] at e116 e116'
 have x2:=Am2 v.pl' 0
 have x3:=Am2 v.ba 0
 simp only [AB,AU] at x2 x3
 have hE:Hg c v=(!v.vars.any (EY (-2147483647)) && !v.left.any (EY 0) && (He .u32 v.act c.pri.length == 0) && !EY 0 v.pl' && !EY 0 v.ba):=by
  simp only [Hg,b1,b2,b3,Kw]
 simp only
 rw [hE]
 clear hl
 refine Ab (Am (lit:=false) (pm:=fun _=>none) (.cons Az4 (.cons k116 (.cons Ahs .nil))) (.cons Aq4 .nil) .nil .nil) rfl Tryz.func77 rfl (by decide) (by kernel_rfl) (by kernel_rfl) ?_
 simp only [Tryz.f77,Af,lx53,lx63,Nat.reduceAdd,Nat.reduceSub,List.replicate]
 refine Aa ?_
 cases c1:v.vars.any (EY (-2147483647)) with
 | true=>
  rw [c1] at e116
  exact Mc (a7 x1 b1 b2 b3 e116 @Bm @Ahr)
  repeat' (first | exact Ae (by kernel_rfl) | refine ⟨Ae (by kernel_rfl),?_⟩ | refine And.intro ?_ ?_ | fail)
  all_goals done
 | false=>
 rw [c1] at e116
 cases c2:v.left.any (EY 0) with
 | true=>
  rw [c2] at e116'
  exact Mc (a8 x1 b1 b2 b3 e116 e116' @Bm @Ahr)
  repeat' (first | exact Ae (by kernel_rfl) | refine ⟨Ae (by kernel_rfl),?_⟩ | refine And.intro ?_ ?_ | fail)
  all_goals done
 | false=>
 rw [c2] at e116'
 cases c3:(He .u32 v.act c.pri.length == 0) with
 | false=>
  exact Mc (Hk x1 b1 b2 b3 hsh e116 e116' c3 @Bm @Ahr)
  repeat' (first | exact Ae (by kernel_rfl) | refine ⟨Ae (by kernel_rfl),?_⟩ | refine And.intro ?_ ?_ | fail)
  all_goals done
 | true=>
 cases c4:EY 0 v.pl' with
 | true=>
  rw [c4] at x2
  exact Mc (HH x1 b1 b2 b3 hsh e116 e116' c3 x2 @Bm @Ahr)
  repeat' (first | exact Ae (by kernel_rfl) | refine ⟨Ae (by kernel_rfl),?_⟩ | refine And.intro ?_ ?_ | fail)
  all_goals done
 | false=>
  rw [c4] at x2
  exact Mc (Hd x1 b1 b2 b3 hsh e116 e116' c3 x2 x3 @Bm @Ahr)
  repeat' (first | exact Ae (by kernel_rfl) | refine ⟨Ae (by kernel_rfl),?_⟩ | refine And.intro ?_ ?_ | fail)
  all_goals done
def AM (n:Int):Int:=if n < -2147483647 then -2147483647 else if 2147483647 < n then 2147483647 else n
theorem GG (n:Int):-2147483647≤AM n∧AM n≤2147483647:=by
 unfold AM; split
 ·omega
 ·split <;> omega
theorem Aht (n:Int):min (max n (-2147483647)) 2147483647=AM n:=by
 unfold AM; split
 ·omega
 ·split <;> omega
noncomputable def Azc:=EP (fun _:Int=>True) (fun x=>[kA .i64 x]) (fun x=>kA .i64 (AM x))
theorem Ac9 (x:Int):Azc [.sc (.int .i64 x)]=some (.sc (.int .i64 (AM x))):=
 (AG (q:=fun _:Int=>True) (enc:=fun x=>[kA .i64 x]) (out:=fun x=>kA .i64 (AM x)) x trivial (by intro y h; simp only [lx96,Ay] at h; rw [Bt h]) :)
theorem Aq5:Eb Tryz.prog 247 Azc:=AQ <| by
 rintro x -
 refine Ab (Aq (.nil) (.nil)) rfl Tryz.func247 rfl (by decide) (by kernel_rfl) (by kernel_rfl) ?_
 simp only [Tryz.f247,Af,lx53,lx63,Nat.reduceAdd,Nat.reduceSub,List.replicate]
 refine Aa ?_
 simp (maxSteps:=10000000) +contextual -implicitDefEqProofs only [Bk,Bg,St.put,Dq,AB,Aht]
 all_goals done
structure Ef where
 k:Int
 a:Int
 b:Int
 c:Int
 t:ByteArray
 deriving DecidableEq
instance:Inhabited Ef:=⟨⟨0,0,0,0,⟨#[]⟩⟩⟩
def Ek (x:Ef):AV:=.ag [kA .i64 x.k,kA .i64 x.a,kA .i64 x.b,kA .i64 x.c,stA x.t]
theorem DR (x:Ef):Ek x=.ag [.sc (.int .i64 x.k),.sc (.int .i64 x.a),.sc (.int .i64 x.b),.sc (.int .i64 x.c),.sc (.string x.t)]:=rfl
theorem Ti {x y:Ef} (h:Ek x=Ek y):x=y:=by
 cases x; cases y; simp_all [Ek,kA,stA]
theorem N6 {l m:List Ef}:l.map Ek=m.map Ek↔l=m:=⟨DX (fun _ _=>Ti),fun h=>by rw [h]⟩
theorem J1 (l:List Ef):CY 5 (l.map Ek)=true:=Dy (f:=Ek) (fun _=>rfl) l
theorem PU (l:List Ef):norefs (l.map Ek)=true:=C8 (f:=Ek) (fun _=>by simp [Ek,kA,stA,AV.noref,norefs]) l
theorem PV {α:Type} [Inhabited α] {a b:List α} (hl:a.length=b.length) (h:∀ j,j < a.length→a.getD j default=b.getD j default):a=b:=by
 refine List.ext_getElem hl fun i h1 h2=>?_
 have:=h i h1
 exact Ao2
theorem Asf {x y:Lo} (h:x.mo=y.mo∧x.la=y.la∧x.se.lv=y.se.lv∧x.se.on=y.se.on∧x.se.off=y.se.off∧x.se.si=y.se.si):x=y:=by
 obtain ⟨a,b,⟨c,d,e,f⟩⟩:=x; obtain ⟨a',b',⟨c',d',e',f'⟩⟩:=y; simp_all
theorem RY (a b:ByteArray):((a == b)=true)=(a=b):=by
 obtain ⟨x⟩:=a
 obtain ⟨y⟩:=b
 refine propext ?_
 show (x == y)=true↔_
 simp
theorem Asg {x y:Ef} (h:x.k=y.k∧x.a=y.a∧x.b=y.b∧x.c=y.c∧x.t=y.t):x=y:=by
 cases x; cases y; simp_all
noncomputable def f75:=EP (fun _:(Bool × List Int) × (Bool × List Int)=>True) (fun p=>[.vw p.1.1 (p.1.2.map (kA .i64)),.vw p.2.1 (p.2.2.map (kA .i64))]) (fun p=>bA (decide (p.1.2=p.2.2)))
theorem e75 (z:Bool) (a:List Int) (z':Bool) (b:List Int):f75 [.vw z (a.map (kA .i64)),.vw z' (b.map (kA .i64))]=some (.sc (.bool (decide (a=b)))):=
 (AG (q:=fun _:(Bool × List Int) × (Bool × List Int)=>True) (enc:=fun p=>[.vw p.1.1 (p.1.2.map (kA .i64)),.vw p.2.1 (p.2.2.map (kA .i64))]) (out:=fun p=>bA (decide (p.1.2=p.2.2))) ((z,a),(z',b)) trivial (by
  rintro ⟨⟨y1,y2⟩,⟨y3,y4⟩⟩ h
  simp only [lx96,AV.vw.injEq,HZ,Ay] at h
  rw [h.1.1,h.1.2,h.2.1,h.2.2]) :)
theorem Ben:Eb Tryz.prog 70 f75:=AQ <| by
 rintro ⟨⟨z,a⟩,⟨z',b⟩⟩ -
 refine Ab (Aq (.nil) (.nil)) rfl Tryz.func70 rfl (by decide) (by kernel_rfl) (by kernel_rfl) ?_
 simp only [Tryz.f70,Af,lx53,lx63,Nat.reduceAdd,Nat.reduceSub,List.replicate]
 refine Aeo 0 rfl fun hlen=>?_
 have hla:a.length < 9223372036854775808:=by simp [maxLen] at hlen; omega
 refine Aa ?_
 by_cases he:a.length=b.length
 rotate_left
 ·exact Au6
 have h1:((a.length:Int) != (b.length:Int))=false:=E6
 refine Avx ?_
 refine Aw (σ:=Nat) (fun k cnt=>⟨Cg 0 26 [(0,.vw z (a.map (kA .i64))),(1,.vw z' (b.map (kA .i64))),(5,.sc (.int .i64 k))],[],cnt⟩)
  (fun k=>k≤a.length∧∀ j,j < k→a.getD j default=b.getD j default) (fun k=>a.length - k) 0 ⟨by omega,by omega⟩ ?_ trivial rfl ?_
 ·exact IZ
 rintro k cnt ⟨hk,hn⟩ ih
 refine Aa ?_
 by_cases hk':k < a.length
 ·have h2:decide ((k:Int) < (a.length:Int))=true:=by rw [AR]; omega
  have h3:decide (k < a.length)=true:=Aj
  have h4:decide ((k:Int) < (b.length:Int))=true:=Aj
  have h5:decide (k < b.length)=true:=Aj
  have w1:IntKind.i64.wrap ((k:Int)+1)=((k+1:Nat):Int):=AK
  have hne:=Cl (p:=fun j=>a.getD j default=b.getD j default) hn (k:=k)
  have hdf:a.getD k default≠b.getD k default→decide (a=b)=false:=fun hv=>by rw [BJ]; intro h; exact hv (by rw [h])
  obtain ⟨x,hx⟩:∃ x,a.getD k default=x:=⟨_,rfl⟩
  obtain ⟨y,hy⟩:∃ y,b.getD k default=y:=⟨_,rfl⟩
  simp only [hx,hy] at hne hdf
  by_cases hv:x=y
  ·have ih:=fun c=>ih (k+1) c ⟨by omega,hne hv⟩ (by omega)
   have hv':(x != y)=false:=by simpa using hv
   refine CL ?_
   refine Yr (a8 h2 h3 h4 h5 hx hy w1 hv') ?_
   exact Aqk
  ·have h6:=hdf hv
   have hv':(x != y)=true:=by simpa using hv
   refine CL ?_
   exact Mc (a8 h2 h3 h4 h5 hx hy hv' h6)
   repeat' (first | exact Ae (by kernel_rfl) | refine ⟨Ae (by kernel_rfl),?_⟩ | refine And.intro ?_ ?_ | fail)
   all_goals done
 ·exact Au3
noncomputable def f27:=EP (fun _:(Bool × List Ef) × (Bool × List Ef)=>True) (fun p=>[.vw p.1.1 (p.1.2.map Ek),.vw p.2.1 (p.2.2.map Ek)]) (fun p=>bA (decide (p.1.2=p.2.2)))
theorem e27 (z:Bool) (a:List Ef) (z':Bool) (b:List Ef):f27 [.vw z (a.map Ek),.vw z' (b.map Ek)]=some (.sc (.bool (decide (a=b)))):=
 (AG (q:=fun _:(Bool × List Ef) × (Bool × List Ef)=>True) (enc:=fun p=>[.vw p.1.1 (p.1.2.map Ek),.vw p.2.1 (p.2.2.map Ek)]) (out:=fun p=>bA (decide (p.1.2=p.2.2))) ((z,a),(z',b)) trivial (by
  rintro ⟨⟨y1,y2⟩,⟨y3,y4⟩⟩ h
  simp only [lx96,AV.vw.injEq,N6,Ay] at h
  rw [h.1.1,h.1.2,h.2.1,h.2.2]) :)
theorem Azd:Eb Tryz.prog 27 f27:=AQ <| by
 rintro ⟨⟨z,a⟩,⟨z',b⟩⟩ -
 refine Ab (Aq (.nil) (.nil)) rfl Tryz.func27 rfl (by decide) (by kernel_rfl) (by kernel_rfl) ?_
 simp only [Tryz.f27,Af,lx53,lx63,Nat.reduceAdd,Nat.reduceSub,List.replicate]
 refine Aeo 0 rfl fun hlen=>?_
 have hla:a.length < 9223372036854775808:=by simp [maxLen] at hlen; omega
 refine Aa ?_
 by_cases he:a.length=b.length
 rotate_left
 ·exact Au6
 have h1:((a.length:Int) != (b.length:Int))=false:=E6
 refine Avx ?_
 refine Aw (σ:=Nat) (fun k cnt=>⟨Cg 0 26 [(0,.vw z (a.map Ek)),(1,.vw z' (b.map Ek)),(5,.sc (.int .i64 k))],[],cnt⟩)
  (fun k=>k≤a.length∧∀ j,j < k→a.getD j default=b.getD j default) (fun k=>a.length - k) 0 ⟨by omega,by omega⟩ ?_ trivial rfl ?_
 ·exact IZ
 rintro k cnt ⟨hk,hn⟩ ih
 refine Aa ?_
 by_cases hk':k < a.length
 ·have h2:decide ((k:Int) < (a.length:Int))=true:=by rw [AR]; omega
  have h3:decide (k < a.length)=true:=Aj
  have h4:decide ((k:Int) < (b.length:Int))=true:=Aj
  have h5:decide (k < b.length)=true:=Aj
  have w1:IntKind.i64.wrap ((k:Int)+1)=((k+1:Nat):Int):=AK
  have hne:=Cl (p:=fun j=>a.getD j default=b.getD j default) hn (k:=k)
  have hdf:a.getD k default≠b.getD k default→decide (a=b)=false:=fun hv=>by rw [BJ]; intro h; exact hv (by rw [h])
  obtain ⟨x,hx⟩:∃ x,a.getD k default=x:=⟨_,rfl⟩
  obtain ⟨y,hy⟩:∃ y,b.getD k default=y:=⟨_,rfl⟩
  simp only [hx,hy] at hne hdf
  by_cases hv:x=y
  ·have ih:=fun c=>ih (k+1) c ⟨by omega,hne hv⟩ (by omega)
   have hv':((x.k == y.k) && ((x.a == y.a) && ((x.b == y.b) && ((x.c == y.c) && (x.t == y.t)))))=true:=by subst hv; simp [RY]
   refine CL ?_
   refine Yr (Hk h2 h3 h4 h5 hx hy w1 hv' @DR @J1) ?_
   exact Aqk
  ·have h6:=hdf hv
   have hv':((x.k == y.k) && ((x.a == y.a) && ((x.b == y.b) && ((x.c == y.c) && (x.t == y.t)))))=false:=by rw [K5]; intro hh; simp only [AH,lx85,RY] at hh; exact hv (Asg hh)
   refine CL ?_
   exact Mc (Hk h2 h3 h4 h5 hx hy hv' h6 @DR @J1)
   repeat' (first | exact Ae (by kernel_rfl) | refine ⟨Ae (by kernel_rfl),?_⟩ | refine And.intro ?_ ?_ | fail)
   all_goals done
 ·exact Au3
def cx0:Cx:=⟨0,0,0,0⟩
def loX (c:Cd) (s:Rs) (o:Lo):Bool:=decide (o.mo < 0) || decide ((c.pri.length:Int)≤o.mo) || !BT s.act o.mo || decide (o.la < 0) || decide ((64:Int)≤o.la) || !Kv o.se
def loY (s:Rs) (i:Nat):Bool:=decide ((0:Int) < (i:Int)) && decide (0≤Hz (s.lamps.getD (i - 1) default) (s.lamps.getD i default))
def H7 (c:Cd) (s:Rs) (i:Nat):Bool:=loX c s (s.lamps.getD i default) || loY s i
noncomputable def BU (c:Cd) (s:Rs):Bool:=Hg c (DQ s cx0) && (decide (0≤s.fau) && decide (s.fau≤2147483647)) && !(List.range s.lamps.length).any (H7 c s)
theorem Aca {c:Cd} {s:Rs} {i:Nat} (hi:i < s.lamps.length) (h:H7 c s i=true):BU c s=false:=by
 rw [BU,H5.2 ⟨i,hi,h⟩]; simp
theorem KP {c:Cd} {s:Rs} (h:∀ i,i < s.lamps.length→H7 c s i=false):BU c s=(Hg c (DQ s cx0) && (decide (0≤s.fau) && decide (s.fau≤2147483647))):=by
 have:(List.range s.lamps.length).any (H7 c s)=false:=by
  rw [K5]
  intro hc
  obtain ⟨i,hi,h2⟩:=H5.1 hc
  rw [h i hi] at h2; cases h2
 rw [BU,this]; simp
theorem H8 {c:Cd} {v:Vn} (h:Hg c v=true):Be c=0:=by
 simp only [Hg,AH,lx85] at h
 exact h.1.1.1.1.1.1.1
def csQ (p:Cd × Rs):Prop:=Fit p.1
noncomputable def f40:=EP csQ (fun p=>[B5 p.1,Hf p.2]) (fun p=>bA (BU p.1 p.2))
theorem e40 (c:Cd) (s:Rs) (h:Fit c):f40 [B5 c,Hf s]=some (.sc (.bool (BU c s))):=
 (AG (q:=csQ) (enc:=fun p=>[B5 p.1,Hf p.2]) (out:=fun p=>bA (BU p.1 p.2)) (c,s) h (by
  rintro ⟨a,b⟩ h
  simp only [lx96,Ay] at h
  rw [CV h.1,JZ h.2]) :)
theorem Aze:Eb Tryz.prog 40 f40:=AQ <| by
 rintro ⟨c,s⟩ hq
 have hq:Fit c:=hq
 have x1:=e77 c (DQ s cx0) hq
 have x2:=e78 s cx0
 simp only [Ac,Bm,AL,CJ,DQ,cx0] at x1 x2
 simp only
 refine Ab (Am (lit:=false) (pm:=fun _=>none) (.cons Azb (.cons Ac8 (.cons Bel (.cons Az8 .nil)))) (.cons Bem .nil) .nil .nil) rfl Tryz.func40 rfl (by decide) (by kernel_rfl) (by kernel_rfl) ?_
 simp only [Tryz.f40,Af,lx53,lx63,Nat.reduceAdd,Nat.reduceSub,List.replicate]
 refine YG 1 rfl fun hlen=>?_
 have hll:s.lamps.length < 9223372036854775808:=by
  have:=hlen s.zm (s.lamps.map BY) (by simp [Hf])
  simp [maxLen] at this; omega
 clear hlen
 refine Aa ?_
 have hcx:(⟨s.zv,s.vars,s.zl,s.left,0,s.act,0,0⟩:Vn)=DQ s cx0:=rfl
 cases h1:Hg c ⟨s.zv,s.vars,s.zl,s.left,0,s.act,0,0⟩ with
 | false=>
  have e:BU c s=false:=by rw [BU,←hcx,h1]; rfl
  rw [h1] at x1
  exact Mc (a4 x1 x2 e @AL)
  repeat' (first | exact Ae (by kernel_rfl) | refine ⟨Ae (by kernel_rfl),?_⟩ | refine And.intro ?_ ?_ | fail)
  all_goals done
 | true=>
 have hv:=H8 h1
 have hlm:=Cw hv
 rw [h1] at x1
 cases h2:decide (s.fau < 0) with
 | true=>
  have e:BU c s=false:=by
   simp only [AR] at h2
   rw [BU,GX (by omega:¬ 0≤s.fau)]; simp
  exact Mc (a5 x1 x2 h2 e @AL)
  repeat' (first | exact Ae (by kernel_rfl) | refine ⟨Ae (by kernel_rfl),?_⟩ | refine And.intro ?_ ?_ | fail)
  all_goals done
 | false=>
 cases h3:decide ((2147483647:Int) < s.fau) with
 | true=>
  have e:BU c s=false:=by
   exact Avn
  exact Mc (a6 x1 x2 h2 h3 e @AL)
  repeat' (first | exact Ae (by kernel_rfl) | refine ⟨Ae (by kernel_rfl),?_⟩ | refine And.intro ?_ ?_ | fail)
  all_goals done
 | false=>
 have h4:(decide (0≤s.fau) && decide (s.fau≤2147483647))=true:=by
  simp only [BJ] at h2 h3
  simp; omega
 refine Yr (a5 x1 x2 h2 h3 @AL) ?_
 repeat' (first | exact Ae (by kernel_rfl) | refine ⟨Ae (by kernel_rfl),?_⟩ | refine And.intro ?_ ?_ | fail)
 clear x1 x2 h2 h3
 refine Aw (σ:=Nat) (fun k cnt=>⟨Cg 0 81 [(2,.pt 0 0 0 0),(3,.pt 1 1 0 0),(24,.vw s.zm (s.lamps.map BY)),(25,.sc (.int .i64 s.lamps.length)),(26,.sc (.int .i64 k))],[⟨true,0,36,7,[B5 c],false⟩,⟨true,1,41,5,[Hf s],false⟩],cnt⟩)
  (fun k=>k≤s.lamps.length∧∀ j,j < k→H7 c s j=false) (fun k=>s.lamps.length - k) 0 ⟨by omega,by omega⟩ ?_ ?_ rfl ?_
 ·exact IZ
 ·simp (maxSteps:=10000000) only [Bk,Bg,Ac,AL]
 rintro k cnt ⟨hk,hn⟩ ih
 by_cases hk':k < s.lamps.length
 rotate_left
 ·obtain rfl:k=s.lamps.length:=by omega
  have g1:decide ((s.lamps.length:Int) < (s.lamps.length:Int))=false:=Br
  have e:=KP (c:=c) (s:=s) hn
  rw [←hcx,h1,h4] at e
  refine Aa ?_
  refine CL ?_
  simp (maxSteps:=10000000) +contextual -implicitDefEqProofs only [Bk,Bg,St.put,↓reduceIte,Dq,Ac,AL,g1,e]
  all_goals done
 have g1:decide ((k:Int) < (s.lamps.length:Int))=true:=Aj
 have g2:decide (k < s.lamps.length)=true:=Aj
 have w1:IntKind.i64.wrap ((k:Int)+1)=((k+1:Nat):Int):=AK
 have hno:H7 c s k=true→BU c s=false:=Aca hk'
 have ih:=fun hb cc=>ih (k+1) cc ⟨by omega,Cl hn hb⟩ (by omega)
 have hb:H7 c s k=(loX c s (s.lamps.getD k default) || loY s k):=rfl
 have hY:loY s k=(decide ((0:Int) < (k:Int)) && decide (0≤Hz (s.lamps.getD (k - 1) default) (s.lamps.getD k default))):=rfl
 obtain ⟨o,ho⟩:∃ o,s.lamps.getD k default=o:=⟨_,rfl⟩
 rw [ho] at hb hY
 have x3:=e79 o.se
 simp only [ID] at x3
 refine Aa ?_
 cases c1:decide (o.mo < 0) with
 | true=>
  exact Bd0
 | false=>
 cases c2:decide ((c.pri.length:Int)≤o.mo) with
 | true=>
  exact Bcz
 | false=>
 have x4:=e58 s o.mo (by simp only [BJ] at c1 c2; omega)
 simp only [AL] at x4
 cases c3:(!BT s.act o.mo || decide (o.la < 0) || decide ((64:Int)≤o.la) || !Kv o.se) with
 | true=>
  exact Bcw
 | false=>
 have hX:loX c s o=false:=by simp only [loX,c1,c2,Oi,c3]
 rw [hX,Oi] at hb
 by_cases hk0:0 < k
 rotate_left
 ·exact Avb
 have c4:decide ((0:Int) < (k:Int))=true:=Aj
 have w2:IntKind.i64.wrap ((k:Int) - 1)=((k - 1:Nat):Int):=AK
 have g3:decide (((k - 1:Nat):Int) < (s.lamps.length:Int))=true:=Aj
 have g4:decide (k - 1 < s.lamps.length)=true:=Aj
 obtain ⟨o',ho'⟩:∃ o',s.lamps.getD (k - 1) default=o':=⟨_,rfl⟩
 rw [ho',c4,Kw] at hY
 have x5:=e80 o' o
 simp only [Bl] at x5
 cases c5:decide (0≤Hz o' o) with
 | true=>
  rw [c5] at hY
  rw [hY] at hb
  have e:=hno hb
  refine CL ?_
  exact Mc (a19 g1 g2 g3 g4 ho ho' c1 c2 x4 x3 c3 c4 x5 c5 w2 e @Bl @AL @Bq)
  repeat' (first | exact Ae (by kernel_rfl) | refine ⟨Ae (by kernel_rfl),?_⟩ | refine And.intro ?_ ?_ | fail)
  all_goals done
 | false=>
  rw [c5] at hY
  rw [hY] at hb
  have ih:=ih hb
  refine CL ?_
  refine Yr (a19 g1 g2 g3 g4 ho ho' c1 c2 x4 x3 c3 c4 x5 c5 w1 w2 @Bl @AL @Bq) ?_
  exact Au2
end Go.Proofs.YtdjpkhjaibdogaaGreat
