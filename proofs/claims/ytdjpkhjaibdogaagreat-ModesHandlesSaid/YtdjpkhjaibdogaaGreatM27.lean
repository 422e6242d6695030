/-
  Lemmas towards ModesHandles (joined texts: GJ, CB, CC, CD).
  Conditions: none.
-/
import Derived.Test.YtdjpkhjaibdogaaGreatM01
import Derived.Test.YtdjpkhjaibdogaaGreatM22
import Derived.Test.YtdjpkhjaibdogaaGreatM26
import Derived.Lib.Overlaps
import Derived.Test.YtdjpkhjaibdogaaGreatM02
set_option linter.unusedSimpArgs false
set_option linter.unusedVariables false
set_option maxRecDepth 100000
set_option maxHeartbeats 8000000
namespace Go.Proofs.YtdjpkhjaibdogaaGreat
open Go Go.SX
theorem Yo {α:Type} (p y news:List α):Cb (p++y) p.length news=p++news++y.drop news.length:=by
 unfold Cb
 rw [List.take_left' rfl,List.drop_append,List.drop_of_length_le (by omega),Ny,lx64]
theorem KJ {α:Type} (p y news:List α) (k:Nat) (hk:k=p.length):Cb (p++y) k news=p++news++y.drop news.length:=by subst hk; exact Yo p y news
theorem Nm (w:World) (b off i c n k:Nat) (info:TypeInfo) (z:Value) (hinfo:Tryz.prog.info? 82=some info) (hz:info.zero=some z) (hs:info.size=6) (hbt:info.bytes=48) (hi:i < n) (hnc:n≤c) (hroom:c < n+1) (hn:n≤100000) (hk:k=n+1 - i)
  (olds:List Value) (hol:olds.length=i * 6) (hcs:∀ j u,olds[j]?=some u→w.cell? ⟨b,off+j,none⟩=some u) (ty:TypeId):
  (Builtin.append_ #[39,3] ty #[.slice (some ⟨b,off,none⟩) i c,.int .i64 ((n:Int)+1 - (i:Int))]).run Tryz.prog w=
   .ok (.slice (some ⟨w.heap.size,0,none⟩) (n+1) (grownCap w (n+1) c 82))
    (w.drew.alloc (.cells (olds.toArray++Builtin.zeroCells z.cells k++Builtin.zeroCells z.cells (grownCap w (n+1) c 82 - (n+1))) 82)):=by
 have e1:(n:Int)+1 - (i:Int)=(k:Int):=Ai
 have e2:n+1=i+k:=Ai
 rw [e1,e2]
 have hk0:k≠0:=Ai
 have hw:IntKind.i64.wrap (k:Int)=k:=by rw [IntKind.wrap_i64]; omega
 have hn':¬ (i+k≤c):=Ai
 have h63':¬ (9223372036854775807 < ((i:Int)+(k:Int))):=Ai
 have hfit:=growslice_fits (need:=i+k) (old:=c) (bytes:=48) (by omega) (by omega)
 have h48':¬ (281474976710656 < Builtin.nextslicecap (i+k) c * info.bytes):=by rw [hbt]; omega
 have h48i:¬ (281474976710656 < (k:Int) * (info.bytes:Int)):=by rw [hbt]; omega
 have hneg:¬ ((k:Int) < 0):=Ai
 have hns:¬ (k * info.size=0):=by rw [hs]; omega
 have hold:(Builtin.firstCells info.size i (.slice (some ⟨b,off,none⟩) i c)).run Tryz.prog w.drew=.ok olds.toArray w.drew:=by
  rw [hs]
  exact Gd (w:=w.drew) (P:=Tryz.prog) hol (.inr ⟨b,off,rfl,fun j u h=>hcs j u h⟩) i
 have u39:=run_underlying t39
 have u3:=run_underlying t3'
 simp [Builtin.append_,u39,u3,sizeOf,typeInfo,zeroValue,hinfo,hz,asInt,asIntOf,hw,hn',hneg,hns,h63',h48',h48i,Question.forced,hold,newRow,grownCap]
theorem QN {w:World} {b:Nat} {cs:Array Value} {t:TypeId} (h:w.heap[b]?=some (.cells cs t (0,0))) (k:Nat):w.frozen? ⟨b,k,none⟩=false:=by
 simp [World.frozen?,h]
theorem On (w:World) (b vb off voff vc lb cb:Nat) (hne:vb≠b) (cs csv:Array Value) (hh:w.heap[b]?=some (.cells cs 82 (0,0))) (hv:w.heap[vb]?=some (.cells csv 82 (0,0))) (hcs:cs.size≠0):
  (callFunc 249 #[.slice (some ⟨vb,voff,none⟩) 1 vc,.slice (some ⟨b,off,none⟩) lb cb]).run Tryz.prog w=.ok (.value (.bool false)) w:=by
 have hsa:w.shape? vb=some (82,csv.size):=by simp [World.shape?,hv]
 have hsb:w.shape? b=some (82,cs.size):=by simp [World.shape?,hh]
 have hfa:=QN hv voff
 have hfe:=QN hv csv.size
 have hz:∀ w,(Go.sizeOf 82).run Tryz.prog w=.ok 6 w:=fun _=>by kernel_rfl
 rw [run_callFunc_extern Tryz.func249 (by kernel_rfl) (by kernel_rfl) (by kernel_rfl) (e:=Extern.SlicesOverlaps.overlaps #[39,39] #[4]) (by kernel_rfl)]
 rw [Lib.run_overlaps_apart w 39 4 82 t39 6 hz ⟨vb,voff,none⟩ ⟨b,off,none⟩ 1 vc lb cb hne 82 82 csv.size cs.size hsa hsb hcs hfa hfe]
 rfl
theorem Amm {w w':World} {X:Nat→Prop} {hc:HC} (h:HR w X hc) (hos:w'.os=w.os) (htape:w'.tape=w.tape) (hout:w'.output=w.output) (hheap:w'.heap=w.heap):HR w' X hc∧Evo w X hc w' X hc:=by
 have ev:Evo w X hc w' X hc:=by
  refine ⟨hos,htape,hout,by rw [hheap]; exact Aw _,fun b _ _=>by rw [hheap],fun b s hs=>?_,fun _ _=>Iff.rfl,Aw _,fun k B h1 h2 _=>⟨B,h1,h2,rfl,rfl,rfl,rfl,rfl⟩,fun k B b o h1 h2 h3 _=>⟨B,o,h1,h2,h3⟩⟩
  unfold World.shape? at *
  rw [hheap]; exact hs
 refine ⟨⟨fun id B h1 h2=>h.rest ev h1 h2 rfl (fun b o _=>by rw [hheap]) (fun _ hx=>hx),h.inj,fun b hb=>by rw [hheap]; exact h.lt b hb⟩,ev⟩
theorem Aim (z:Array Value) (n:Nat):(Builtin.zeroCells z n).size=n * z.size:=size_zeroCells z n
theorem vl3 {w:World} {X:Nat→Prop} {o:Option HC} {a b c:AV} {cargs:Array Value} (h:VL w X o [a,b,c] cargs.toList):∃ u v x,cargs=#[u,v,x]∧VR w X o a u∧VR w X o b v∧VR w X o c x:=by
 obtain ⟨u,l1,e1,k1,h1⟩:=h.uncons
 obtain ⟨v,l2,e2,k2,h2⟩:=h1.uncons
 obtain ⟨x,l3,e3,k3,h3⟩:=h2.uncons
 have e4:=h3.unnil
 subst e4; subst e3; subst e2
 refine ⟨u,v,x,?_,k1,k2,k3⟩
 apply Array.ext'
 rw [e1]
theorem HK {w:World} {b:Nat} {cs r:Array Value} {t:TypeId} (h:w.heap[b]?=some (.cells cs t (0,0))) (k:Nat):(w.setRow b r).heap[k]?=if k=b then some (.cells r t (0,0)) else w.heap[k]?:=by
 by_cases hk:k=b
 ·rw [if_pos hk,hk]; exact setRow_heap w b cs r t (0,0) h
 ·rw [if_neg hk]; exact setRow_other w b k r hk
theorem Hp {w:World} {row:Array Value} {t:TypeId}:(w.drew.alloc (.cells row t)).heap=w.heap.push (.cells row t (0,0)):=rfl
theorem Ain {w:World} {row r1 r2:Array Value} {t:TypeId}:(((w.drew.alloc (.cells row t)).setRow w.heap.size r1).setRow w.heap.size r2).heap=w.heap.push (.cells r2 t (0,0)):=by
 have h0:(w.drew.alloc (.cells row t)).heap[w.heap.size]?=some (.cells row t (0,0)):=by rw [Hp]; simp
 have h1:((w.drew.alloc (.cells row t)).setRow w.heap.size r1).heap[w.heap.size]?=some (.cells r1 t (0,0)):=setRow_heap _ _ _ _ _ _ h0
 refine Array.ext_getElem? fun k=>?_
 rw [HK h1,HK h0,Hp,Array.getElem?_push,Array.getElem?_push]
 by_cases hk:k=w.heap.size
 ·simp [hk]
 ·simp [hk]
theorem Aio {w:World} {b:Nat} {cs r1 r2:Array Value} {t:TypeId} (h:w.heap[b]?=some (.cells cs t (0,0))):((w.setRow b r1).setRow b r2).heap=(w.setRow b r2).heap:=by
 refine Array.ext_getElem? fun k=>?_
 rw [HK (setRow_heap w b cs r1 t (0,0) h),HK h,HK h]
 by_cases hk:k=b
 ·simp [hk]
 ·simp [hk]
theorem W7 {w:World} {X:Nat→Prop} {hc:HC} {cs:List Value} {esz:Nat} {els:List AV} (h:Real w X hc cs 0 esz els) (h0:0 < esz) (hl:cs.length=els.length * esz):∀ u ∈ cs,u.oneCell'=true:=by
 intro u hu
 obtain ⟨k,hk,rfl⟩:=lx69 hu
 have hi:k / esz < els.length:=Nat.div_lt_of_lt_mul (by rw [Nat.mul_comm]; omega)
 obtain ⟨h1,h2⟩:=h (k / esz) _ (lx51 hi)
 have hj:k % esz < (els[k / esz]).cells.length:=by rw [h1]; exact Nat.mod_lt _ h0
 obtain ⟨c,g1,g2,_⟩:=h2 (k % esz) _ (lx51 hj)
 have e:0+k / esz * esz+k % esz=k:=by have:=Nat.div_add_mod k esz; rw [Nat.mul_comm] at this; omega
 rw [e,lx51 hk] at g1
 cases g1
 exact g2
theorem Au5:∃ info,Tryz.prog.info? 82=some info∧info.size=6∧info.bytes=48∧info.zero=some (.agg #[.int .i64 0,.int .i64 0,.int .i64 0,.int .i64 0,.int .i64 0,.int .i64 0]):=by
 obtain ⟨i,u,h1,_,h2,h3,h4,_⟩:=BQ Atr
 exact ⟨i,h1,h2,h3,h4⟩
theorem W8 (ls:List Lo) (x:Lo) (i:Nat) (hi:i < ls.length) (hn:ls.length≤100000) (H:List Blk) (id q v u:Nat) (tmp:Bool) (hB:H[id]?=some ⟨true,v,82,6,ls.map Bg,false⟩) (hq:H[q]?=some ⟨true,u,82,6,[Bg x],tmp⟩) (hne:q≠id) (cnt:Nat):
  HSpec Tryz.prog 234 [.sl id v 0 ls.length,.sc (.int .i64 (i:Int)),.sl q u 0 1] H cnt (.sl id cnt 0 (ls.length+1)) (H.set id ⟨true,cnt,82,6,(ls.take i++x::ls.drop i).map Bg,false⟩) (cnt+1):=by
 obtain ⟨n,hnn⟩:∃ n,ls.length=n:=⟨_,rfl⟩
 refine ⟨⟨Tryz.f234,Tryz.func234,by decide,rfl⟩,fun w X loc cargs hr hv=>?_⟩
 obtain ⟨c0,c1,c2,rfl,k0,k1,k2⟩:=vl3 hv
 cases k1 with
 | sc _=>?_
 obtain ⟨y0,y1⟩:(∃ a cap,c0=.slice a ls.length cap)∧SlOk w ⟨loc,H,cnt⟩ id v 0 ls.length c0:=by cases k0 with | sl h1 h2=>exact ⟨h1,h2 _ rfl⟩
 obtain ⟨z0,z1⟩:(∃ a cap,c2=.slice a 1 cap)∧SlOk w ⟨loc,H,cnt⟩ q u 0 1 c2:=by cases k2 with | sl h1 h2=>exact ⟨h1,h2 _ rfl⟩
 obtain ⟨_,y2⟩:=y1
 obtain ⟨y3,y4⟩:=y2 _ hB rfl rfl
 obtain ⟨_,z2⟩:=z1
 obtain ⟨z3,z4⟩:=z2 _ hq rfl rfl
 rcases y4 with ⟨y4,_⟩ | ⟨b,base,cap,N,y5,y6,y7,y8,y9,y10⟩
 ·omega
 rcases z4 with ⟨z4,_⟩ | ⟨vb,vbase,vcap,vN,z5,z6,z7,z8,z9,z10⟩
 ·omega
 subst y6; subst z6
 obtain ⟨b1,b2,b3⟩:=hr.blk id _ hB rfl
 obtain ⟨d1,d2,d3⟩:=hr.blk q _ hq rfl
 rw [y5] at b3
 rw [z5] at d3
 obtain ⟨b4,⟨cs,b5⟩,b6⟩:=b3
 obtain ⟨d4,⟨csv,d5⟩,d6⟩:=d3
 have hbv:vb≠b:=fun h=>hne (hr.inj q id _ _ b vbase base hq hB rfl rfl (by rw [z5,h]) y5)
 have hN:N=cs.size:=by simp [World.shape?,b5] at y9; exact y9.symm
 have hvN:vN=csv.size:=by simp [World.shape?,d5] at z9; exact z9.symm
 subst hN; subst hvN
 simp only at y3 y7 y10 z7 z10 b6 d6 b5 d5
 rw [hnn] at hi hn y3 y7 ⊢
 have rB:Real w X ⟨loc,H,cnt⟩ cs.toList base 6 (ls.map Bg):=b6.real b5
 have rV:=(d6.real d5:Real w X ⟨loc,H,cnt⟩ csv.toList vbase 6 [Bg x]).seg (lo:=0) (len:=1) (by simp)
 have rA:=rB.seg (lo:=0) (len:=i) (by simp; omega)
 have rD:=rB.seg (lo:=i) (len:=n - i) (by simp; omega)
 obtain ⟨A,hA⟩:∃ A,(cs.toList.drop (base+0 * 6)).take (i * 6)=A:=⟨_,rfl⟩
 obtain ⟨D,hD⟩:∃ D,(cs.toList.drop (base+i * 6)).take ((n - i) * 6)=D:=⟨_,rfl⟩
 obtain ⟨V,hV⟩:∃ V,(csv.toList.drop (vbase+0 * 6)).take (1 * 6)=V:=⟨_,rfl⟩
 have lA:A.length=i * 6:=by rw [←hA,lx68,lx93,lx29]; omega
 have lD:D.length=(n - i) * 6:=by rw [←hD,lx68,lx93,lx29]; omega
 have lV:V.length=6:=by rw [←hV,lx68,lx93,lx29]; omega
 rw [hA] at rA; rw [hD] at rD; rw [hV] at rV
 have gA:∀ j u,A[j]?=some u→w.cell? ⟨b,base+j,none⟩=some u:=fun j u h=>by
  rw [←hA,lx19] at h
  split at h
  ·rw [lx20] at h; rw [CQ b5]; simpa using h
  ·cases h
 have gD:∀ j u,D[j]?=some u→w.cell? ⟨b,base+i * 6+j,none⟩=some u:=fun j u h=>by
  rw [←hD,lx19] at h
  split at h
  ·rw [lx20] at h; rw [CQ b5]; exact h
  ·cases h
 have gV:∀ j u,V[j]?=some u→w.cell? ⟨vb,vbase+j,none⟩=some u:=fun j u h=>by
  rw [←hV,lx19] at h
  split at h
  ·rw [lx20] at h; rw [CQ d5]; simpa using h
  ·cases h
 have oD:=W7 rD (show 0 < 6 by decide) (by rw [lD,lx68,lx93,lx58,hnn,Nat.min_self])
 have oV:=W7 rV (show 0 < 6 by decide) (by rw [lV]; simp)
 have rF:Real w X ⟨loc,H,cnt⟩ (A++V++D) 0 6 ((ls.take i++x::ls.drop i).map Bg):=by
  have h1:=(rA.append (by rw [lA]; simp; omega) rV).append (by rw [lx5,lA,lV]; simp; omega) rD
  have e1:(List.take i (List.drop 0 (ls.map Bg))++List.take 1 (List.drop 0 [Bg x]))++List.take (n - i) (List.drop i (ls.map Bg))=(ls.take i++x::ls.drop i).map Bg:=by
   have e2:List.take (n - i) (List.drop i (ls.map Bg))=List.drop i (ls.map Bg):=lx118 (by simp; omega)
   rw [e2]
   simp
  rw [e1] at h1
  exact h1
 obtain ⟨info,i1,i2,i3,i4⟩:=Au5
 have hlen:((ls.take i++x::ls.drop i).map Bg).length=n+1:=E9
 have hset:(H.set id (⟨true,cnt,82,6,(ls.take i++x::ls.drop i).map Bg,false⟩:Blk))[id]?=some ⟨true,cnt,82,6,(ls.take i++x::ls.drop i).map Bg,false⟩:=by
  rw [List.getElem?_set_self (lx22.1 hB).1]
 have hsetne:∀ k,k≠id→(H.set id (⟨true,cnt,82,6,(ls.take i++x::ls.drop i).map Bg,false⟩:Blk))[k]?=H[k]?:=fun k hk=>lx52 (fun h=>hk h.symm)
 have hL:((ls.take i++x::ls.drop i).map Bg).length≤DO:=by rw [hlen]; simp only [DO]; omega
 clear k0 y0 y2 k2 z0 z2
 have hcz:(Value.cells (.agg #[.int .i64 0,.int .i64 0,.int .i64 0,.int .i64 0,.int .i64 0,.int .i64 0])).size=6:=rfl
 by_cases hroom:cap < n+1
 ·obtain ⟨G,hG⟩:∃ G,grownCap w (n+1) cap 82=G:=⟨_,rfl⟩
  have hG1:=grownCap_ge w (n+1) cap 82
  have hG2:=grownCap_le_maxLen w (n+1) cap 82 (by simp only [maxLen]; omega)
  have hrz:=Nm w b base i cap n (n+1 - i) info _ i1 i4 i2 i3 hi y7 hroom hn rfl A lA gA
  rw [hG] at hG1 hG2 hrz
  obtain ⟨Z,hZ⟩:∃ Z,(Builtin.zeroCells (Value.cells (.agg #[.int .i64 0,.int .i64 0,.int .i64 0,.int .i64 0,.int .i64 0,.int .i64 0])) (n+1 - i)++Builtin.zeroCells (Value.cells (.agg #[.int .i64 0,.int .i64 0,.int .i64 0,.int .i64 0,.int .i64 0,.int .i64 0])) (G - (n+1)))=Z:=⟨_,rfl⟩
  have lZ:Z.toList.length=(n+1 - i) * 6+(G - (n+1)) * 6:=by rw [←hZ,lx29,Array.size_append,Aim,Aim,hcz]
  simp only [Array.append_assoc,hZ] at hrz
  have e0:(A.toArray++Z).toList=A++Z.toList:=Bc
  have e1:Cb (A.toArray++Z).toList (i * 6) V=A++V++Z.toList.drop 6:=by rw [e0,KJ A Z.toList V (i * 6) lA.symm,lV]
  have e2:Cb (A++V++Z.toList.drop 6) ((i+1) * 6) D=A++V++D++(Z.toList.drop 6).drop D.length:=KJ (A++V) _ D _ (by rw [lx5,lA,lV]; omega)
  refine (Aid w b base n cap i vb vbase vcap hi y7 hroom hn (A.toArray++Z) (A++V++Z.toList.drop 6).toArray (A++V++D++(Z.toList.drop 6).drop D.length).toArray G hG1 hG2 hrz (fun ty dc W hW=>?_) (fun ty dc sc W hW=>?_)).mono ?_
  ·have hr1:=JT (P:=Tryz.prog) (w:=W) (t:=39) (t':=39) (ty:=ty) t39 i1 (b:=w.heap.size) (o:=i * 6) (dLen:=n+1 - i) (dCap:=dc) (cur:=A.toArray++Z) (ety:=82) (by rw [hW,Hp]; simp) (p:=some ⟨vb,vbase,none⟩) (m:=1) (c:=vcap) (news:=V)
    (by rw [lV,i2,show Nat.min 1 (n+1 - i)=1 from Nat.min_eq_left (by omega)]) (.inr ⟨vb,vbase,rfl,fun j u h=>by
     have:=gV j u h
     rw [CQ d5] at this
     have hlt:vb < w.heap.size:=(lx50.1 d5).1
     rw [CQ (cs:=csv) (t:=82) (fr:=(0,0)) (by rw [hW,Hp,Array.getElem?_push,if_neg (by omega)]; exact d5)]
     exact this⟩) oV (by rw [←lx29,e0,lx5,lA,lZ,lV]; omega)
   rw [e1,show Nat.min 1 (n+1 - i)=1 from Nat.min_eq_left (by omega)] at hr1
   exact hr1
  ·have hrow:W.heap[w.heap.size]?=some (.cells (A++V++Z.toList.drop 6).toArray 82 (0,0)):=by
    rw [hW]; exact setRow_heap _ _ (A.toArray++Z) _ _ _ (by rw [Hp]; simp)
   have hr1:=JT (P:=Tryz.prog) (w:=W) (t:=39) (t':=39) (ty:=ty) t39 i1 (b:=w.heap.size) (o:=(i+1) * 6) (dLen:=n+1 - (i+1)) (dCap:=dc) hrow (p:=some ⟨b,base+i * 6,none⟩) (m:=n - i) (c:=sc) (news:=D)
    (by rw [lD,i2,show Nat.min (n - i) (n+1 - (i+1))=n - i from Nat.min_eq_left (by omega)]) (.inr ⟨b,base+i * 6,rfl,fun j u h=>by
     have:=gD j u h
     rw [CQ b5] at this
     have hlt:b < w.heap.size:=(lx50.1 b5).1
     rw [CQ (cs:=cs) (t:=82) (fr:=(0,0)) (by rw [hW,setRow_other _ _ _ _ (by omega),Hp,Array.getElem?_push,if_neg (by omega)]; exact b5)]
     exact this⟩) oD (by simp only [lx56,lx5,lx93,lA,lV,lD,lZ]; omega)
   rw [show Nat.min (n - i) (n+1 - (i+1))=n - i from Nat.min_eq_left (by omega)] at hr1
   simp only [e2] at hr1
   exact hr1
  ·rintro e w' ⟨rfl,q1,q2,q3,q4⟩
   rw [Ain] at q4
   obtain ⟨g1,g2⟩:=XI hr id ⟨true,cnt,82,6,(ls.take i++x::ls.drop i).map Bg,false⟩ (A++V++D++(Z.toList.drop 6).drop D.length).toArray _ w' q1 q2 q3 q4 hset hsetne rfl rfl hL (rF.weaken fun k u hk h=>by
    simp only [B4] at h ⊢
    rw [lx61 (lx22.1 h).1]; exact h)
   refine ⟨_,_,_,rfl,g1,MX (s:=⟨[],H,cnt⟩) q4 hset rfl (by rw [hlen]; omega) hG1 hG2 ?_,g2⟩
   simp only [lx56,lx5,lx93,lA,lV,lD,lZ]; omega
 ·obtain ⟨Y,hY⟩:∃ Y,cs.toList.drop (base+i * 6)=Y:=⟨_,rfl⟩
  obtain ⟨pr,hpr⟩:∃ pr,cs.toList.take base=pr:=⟨_,rfl⟩
  have lpr:pr.length=base:=by rw [←hpr,lx68,lx29]; omega
  have hP:cs.toList.take (base+i * 6)=pr++A:=by rw [List.take_add,hpr,←hA,Nat.zero_mul,JF]
  have hcs:cs.toList=pr++A++Y:=by rw [←hP,←hY,lx67]
  have lY:Y.length=cs.size - (base+i * 6):=by rw [←hY,lx93,lx29]
  have lP:(pr++A).length=base+i * 6:=by rw [lx5,lpr,lA]
  have hY6:(Y.take 6).length=6:=by rw [lx68,lY]; omega
  have hcs2:cs.toList=(pr++A++Y.take 6)++Y.drop 6:=by rw [lx4 _ (Y.take 6),lx67]; exact hcs
  obtain ⟨T,hT⟩:∃ T,(Y.drop 6).drop D.length=T:=⟨_,rfl⟩
  have e1:Cb cs.toList (base+(i+1) * 6) D=pr++A++(Y.take 6++D++T):=by
   rw [hcs2,KJ (pr++A++Y.take 6) (Y.drop 6) D _ (by rw [lx5,lP,hY6]; omega),hT]
   simp only [lx4]
  have e2:Cb (pr++A++(Y.take 6++D++T)) (base+i * 6) V=pr++(A++V++D)++T:=by
   rw [KJ (pr++A) _ V _ lP.symm,lV,lx4 (Y.take 6),List.drop_left' hY6]
   simp only [lx4]
  have lT:T.length=cs.size - (base+i * 6) - 6 - (n - i) * 6:=by rw [←hT,lx93,lx93,lY,lD]
  have s1:(pr++A++(Y.take 6++D++T)).length=cs.size:=by simp only [lx5,hY6,lD,lT,lpr,lA]; omega
  have s2:(pr++(A++V++D)++T).length=cs.size:=by simp only [lx5,lV,lD,lT,lpr,lA]; omega
  have hcsz:cs.size≠0:=Ai
  refine (Ad7 w b base n cap i vb vbase vcap hi (by omega) hn y8 (pr++A++(Y.take 6++D++T)).toArray (pr++(A++V++D)++T).toArray (fun lb cb=>On w b vb _ vbase vcap lb cb hbv cs csv b5 d5 hcsz) (fun ty dc sc W hW=>?_) (fun ty dc W hW=>?_)).mono ?_
  ·have hr1:=JT (P:=Tryz.prog) (w:=W) (t:=39) (t':=39) (ty:=ty) t39 i1 (b:=b) (o:=base+(i+1) * 6) (dLen:=n+1 - (i+1)) (dCap:=dc) (cur:=cs) (ety:=82) (by rw [hW]; exact b5) (p:=some ⟨b,base+i * 6,none⟩) (m:=n+1 - i) (c:=sc) (news:=D)
    (by rw [lD,i2,show Nat.min (n+1 - i) (n+1 - (i+1))=n - i from by simp only [Nat.min_def]; split <;> omega]) (.inr ⟨b,base+i * 6,rfl,fun j u h=>by
     have:=gD j u h
     rw [CQ b5] at this
     rw [CQ (cs:=cs) (t:=82) (fr:=(0,0)) (by rw [hW]; exact b5)]
     exact this⟩) oD (by rw [lD]; omega)
   rw [e1,show Nat.min (n+1 - i) (n+1 - (i+1))=n - i from by simp only [Nat.min_def]; split <;> omega] at hr1
   exact hr1
  ·have hrow:W.heap[b]?=some (.cells (pr++A++(Y.take 6++D++T)).toArray 82 (0,0)):=by rw [hW]; exact setRow_heap _ _ _ _ _ _ b5
   have hr1:=JT (P:=Tryz.prog) (w:=W) (t:=39) (t':=39) (ty:=ty) t39 i1 (b:=b) (o:=base+i * 6) (dLen:=n+1 - i) (dCap:=dc) hrow (p:=some ⟨vb,vbase,none⟩) (m:=1) (c:=vcap) (news:=V)
    (by rw [lV,i2,show Nat.min 1 (n+1 - i)=1 from Nat.min_eq_left (by omega)]) (.inr ⟨vb,vbase,rfl,fun j u h=>by
     have:=gV j u h
     rw [CQ d5] at this
     rw [CQ (cs:=csv) (t:=82) (fr:=(0,0)) (by rw [hW,setRow_other _ _ _ _ hbv]; exact d5)]
     exact this⟩) oV (by simp only [lx56,s1,lV]; omega)
   rw [show Nat.min 1 (n+1 - i)=1 from Nat.min_eq_left (by omega)] at hr1
   simp only [e2] at hr1
   exact hr1
  ·rintro e w' ⟨rfl,q1,q2,q3,q4⟩
   rw [Aio b5] at q4
   obtain ⟨g1,g2⟩:=O8 hr id _ ⟨true,cnt,82,6,(ls.take i++x::ls.drop i).map Bg,false⟩ b base base (cnt+1) cs (pr++(A++V++D)++T).toArray hB rfl y5 b5 (by simp only [lx56]; exact s2) rfl rfl hL (.inr ⟨rfl,rfl⟩) (rF.weaken fun k u hk h=>by
    simp only [B4] at h ⊢
    rw [lx4,lx62 (by omega),lpr,Ny,lx61 (lx22.1 h).1]
    exact h)
   obtain ⟨f1,f2⟩:=Amm (w':=w') g1 q1 q2 q3 q4
   refine ⟨_,_,_,rfl,f1,.sl ⟨_,_,rfl⟩ fun hc hhc=>?_,g2.trans f2⟩
   cases hhc
   refine ⟨Iv _,fun B' h1 h2 h3=>?_⟩
   have h1':(H.set id (⟨true,cnt,82,6,(ls.take i++x::ls.drop i).map Bg,false⟩:Blk))[id]?=some B':=h1
   rw [hset] at h1'
   cases h1'
   refine ⟨by rw [hlen]; omega,.inr ⟨b,base,cap,cs.size,by simp,by simp,by omega,y8,?_,y10⟩⟩
   exact (g2.trans f2).shape _ _ y9
end Go.Proofs.YtdjpkhjaibdogaaGreat
namespace Go.Proofs.YtdjpkhjaibdogaaGreat
open Go Go.SX
attribute [local congr] ite_congr
def De (lo n:Int):Bool:=decide (n < lo) || decide ((2147483647:Int) < n)
noncomputable def f114:=Er (fun _:Int=>True) (fun x=>[kA .i64 x]) (fun x=>.fn 115 [.vp [kA .i64 x] 0 0])
theorem Aip (x:Int):f114 [.sc (.int .i64 x)]=some (.fn 115 [.vp [.sc (.int .i64 x)] 0 0]):=
 (AJ (q:=fun _:Int=>True) (enc:=fun x=>[kA .i64 x]) (out:=fun x=>.fn 115 [.vp [kA .i64 x] 0 0]) x trivial (by intro y h; simp only [lx96,Az] at h; rw [Bt h]) :)
theorem Arh:VOk Tryz.prog 114 f114:=Lr <| by
 rintro x -
 refine BO (Aj (lit:=false) (pm:=fun _=>none) .nil .nil .nil .nil) rfl Tryz.func114 rfl (by decide) (by kernel_rfl) (by simp [AV.noref,norefs]) ?_
 simp only [Tryz.f114,Af,lx53,lx63,Nat.reduceAdd,Nat.reduceSub,List.replicate]
 refine Ab ?_
 simp (maxSteps:=10000000) +contextual -implicitDefEqProofs only [AX,AW,St.put,Ao,Al,↓reduceIte,CO,AA]
 all_goals done
noncomputable def f115:=Er (fun _:Int × Int=>True) (fun p=>[kA .i64 p.1,.vp [kA .i64 p.2] 0 0]) (fun p=>bA (De p.2 p.1))
theorem Amn (n lo:Int):f115 [kA .i64 n,.vp [.sc (.int .i64 lo)] 0 0]=some (bA (De lo n)):=
 (AJ (q:=fun _:Int × Int=>True) (enc:=fun p=>[kA .i64 p.1,.vp [kA .i64 p.2] 0 0]) (out:=fun p=>bA (De p.2 p.1)) (n,lo) trivial (by
  rintro ⟨a,b⟩ h
  simp only [lx96,AV.vp.injEq,Az] at h
  rw [Bt h.1,Bt h.2]) :)
theorem Aiq:DK Tryz.prog 115 f115:=AE <| by
 rintro ⟨n,lo⟩ -
 refine Ad (Ar (.nil) (.nil)) rfl Tryz.func115 rfl (by decide) (by kernel_rfl) (by kernel_rfl) ?_
 simp only [Tryz.f115,Af,lx53,lx63,Nat.reduceAdd,Nat.reduceSub,List.replicate]
 refine Ab ?_
 simp (maxSteps:=10000000) +contextual -implicitDefEqProofs only [AX,AW,Ap,St.put,↓reduceIte,Dd,AA,AY,AV.noref,De]
 all_goals done
noncomputable def GH (c:Cd) (v:Vn):Bool:=(Bf c == 0) && ((v.vars.length:Int) == c.vars.length) && ((v.left.length:Int) == c.tim) && !v.vars.any (De (-2147483647)) && !v.left.any (De 0) && (ID .u32 v.act c.pri.length == 0) && !De 0 v.pl' && !De 0 v.ba
theorem IS {c:Cd} (h:Bf c=0):Nk c=true∧Ic c=true∧Fu c=true∧SJ c=true∧IP c=true:=by
 unfold Bf at h
 split at h
 ·cases h
 ·rename_i h1
  split at h
  ·cases h
  ·rename_i h2
   split at h
   ·cases h
   ·rename_i h3
    split at h
    ·cases h
    ·rename_i h4
     split at h
     ·cases h
     ·rename_i h5
      exact ⟨by simpa using h1,by simpa using h2,by simpa using h3,by simpa using h4,by simpa using h5⟩
theorem B9 {c:Cd} (h:Bf c=0):c.ins.length≤4000∧c.strs.length≤200∧c.ens.length≤512∧c.pri.length≤16∧c.vars.length≤128∧(0≤c.tim∧c.tim≤128)∧0≤c.evs∧c.evs≤128:=by
 have:=(IS h).1
 simp only [Nk,AT,AR] at this
 obtain ⟨⟨⟨⟨⟨⟨h1,h2⟩,h3⟩,h4⟩,h5⟩,h6⟩,h7⟩:=this
 have h6:=Gr.1 h6
 have h7:=Gr.1 h7
 omega
def vnQ (p:Cd × Vn):Prop:=Fit p.1
noncomputable def f77:=Er vnQ (fun p=>[Bv p.1,JA p.2]) (fun p=>bA (GH p.1 p.2))
theorem e77 (c:Cd) (v:Vn) (h:Fit c):f77 [Bv c,JA v]=some (.sc (.bool (GH c v))):=
 (AJ (q:=vnQ) (enc:=fun p=>[Bv p.1,JA p.2]) (out:=fun p=>bA (GH p.1 p.2)) (c,v) h (by
  rintro ⟨a,b⟩ h
  simp only [lx96,Az] at h
  rw [CS h.1,Abd h.2]) :)
theorem Bb6:DK Tryz.prog 77 f77:=AE <| by
 rintro ⟨c,v⟩ hq
 have hq:Fit c:=hq
 have x1:=e53 c hq
 simp only [Aa] at x1
 have hsh:(0:Int)≤(c.pri.length:Int):=MS _
 by_cases h:Bf c=0∧(v.vars.length:Int)=c.vars.length∧(v.left.length:Int)=c.tim
 rotate_left
 ·have hE:GH c v=false:=by
   rw [JP]
   intro hh
   simp only [GH,AT,lx85] at hh
   exact h ⟨hh.1.1.1.1.1.1.1,hh.1.1.1.1.1.1.2,hh.1.1.1.1.1.2⟩
  simp only
  rw [hE]
  refine Ad (Aj (lit:=false) (pm:=fun _=>none) (.cons Bb0 .nil) (.cons Arh .nil) .nil .nil) rfl Tryz.func77 rfl (by decide) (by kernel_rfl) (by kernel_rfl) ?_
  simp only [Tryz.f77,Af,lx53,lx63,Nat.reduceAdd,Nat.reduceSub,List.replicate]
  refine Ab ?_
  cases h1:(Bf c == 0) with
  | false=>
   exact I2 (a3 x1 h1 @AP)
   repeat' (first | exact Ac (by kernel_rfl) | refine ⟨Ac (by kernel_rfl),?_⟩ | refine And.intro ?_ ?_ | fail)
   all_goals done
  | true=>
  cases h2:((v.vars.length:Int) == (c.vars.length:Int)) with
  | false=>
   exact I2 (a4 x1 h1 h2 @AP)
   repeat' (first | exact Ac (by kernel_rfl) | refine ⟨Ac (by kernel_rfl),?_⟩ | refine And.intro ?_ ?_ | fail)
   all_goals done
  | true=>
  cases h3:((v.left.length:Int) == c.tim) with
  | false=>
   exact I2 (a5 x1 h1 h2 h3 @AP)
   repeat' (first | exact Ac (by kernel_rfl) | refine ⟨Ac (by kernel_rfl),?_⟩ | refine And.intro ?_ ?_ | fail)
   all_goals done
  | true=>
   simp only [lx85] at h1 h2 h3
   exact absurd ⟨h1,h2,h3⟩ h
 obtain ⟨h1,h2,h3⟩:=h
 have hl:=B9 h1
 have b1:(Bf c == 0)=true:=by simp [h1]
 have b2:((v.vars.length:Int) == (c.vars.length:Int))=true:=by simp [h2]
 have b3:((v.left.length:Int) == c.tim)=true:=by simp [h3]
 obtain ⟨F116,k116,e116,e116'⟩:=Ab7 (Ar6 Aiq (De (-2147483647)) [kA .i64 (-2147483647)] v.zv v.vars (fun b _=>Amn b (-2147483647)) (by omega)) (Ar6 Aiq (De 0) [kA .i64 0] v.zl v.left (fun b _=>Amn b 0) (by omega)) (by simp [kA])
 simp only [AA,AY] at e116 e116'
 have x2:=Amn v.pl' 0
 have x3:=Amn v.ba 0
 simp only [AA,AY] at x2 x3
 have hE:GH c v=(!v.vars.any (De (-2147483647)) && !v.left.any (De 0) && (ID .u32 v.act c.pri.length == 0) && !De 0 v.pl' && !De 0 v.ba):=by
  simp only [GH,b1,b2,b3,Gs]
 simp only
 rw [hE]
 clear hl
 refine Ad (Aj (lit:=false) (pm:=fun _=>none) (.cons Bb0 (.cons k116 (.cons Aiq .nil))) (.cons Arh .nil) .nil .nil) rfl Tryz.func77 rfl (by decide) (by kernel_rfl) (by kernel_rfl) ?_
 simp only [Tryz.f77,Af,lx53,lx63,Nat.reduceAdd,Nat.reduceSub,List.replicate]
 refine Ab ?_
 cases c1:v.vars.any (De (-2147483647)) with
 | true=>
  rw [c1] at e116
  exact I2 (a7 x1 b1 b2 b3 e116 @AP @Aip)
  repeat' (first | exact Ac (by kernel_rfl) | refine ⟨Ac (by kernel_rfl),?_⟩ | refine And.intro ?_ ?_ | fail)
  all_goals done
 | false=>
 rw [c1] at e116
 cases c2:v.left.any (De 0) with
 | true=>
  rw [c2] at e116'
  exact I2 (a8 x1 b1 b2 b3 e116 e116' @AP @Aip)
  repeat' (first | exact Ac (by kernel_rfl) | refine ⟨Ac (by kernel_rfl),?_⟩ | refine And.intro ?_ ?_ | fail)
  all_goals done
 | false=>
 rw [c2] at e116'
 cases c3:(ID .u32 v.act c.pri.length == 0) with
 | false=>
  exact I2 (Gv x1 b1 b2 b3 hsh e116 e116' c3 @AP @Aip)
  repeat' (first | exact Ac (by kernel_rfl) | refine ⟨Ac (by kernel_rfl),?_⟩ | refine And.intro ?_ ?_ | fail)
  all_goals done
 | true=>
 cases c4:De 0 v.pl' with
 | true=>
  rw [c4] at x2
  exact I2 (Ij x1 b1 b2 b3 hsh e116 e116' c3 x2 @AP @Aip)
  repeat' (first | exact Ac (by kernel_rfl) | refine ⟨Ac (by kernel_rfl),?_⟩ | refine And.intro ?_ ?_ | fail)
  all_goals done
 | false=>
  rw [c4] at x2
  exact I2 (G0 x1 b1 b2 b3 hsh e116 e116' c3 x2 x3 @AP @Aip)
  repeat' (first | exact Ac (by kernel_rfl) | refine ⟨Ac (by kernel_rfl),?_⟩ | refine And.intro ?_ ?_ | fail)
  all_goals done
def AQ (n:Int):Int:=if n < -2147483647 then -2147483647 else if 2147483647 < n then 2147483647 else n
theorem Ey (n:Int):-2147483647≤AQ n∧AQ n≤2147483647:=by
 unfold AQ; split
 ·omega
 ·split <;> omega
theorem Adg (n:Int):(n != AQ n)=De (-2147483647) n:=by
 rw [Bool.eq_iff_iff]
 simp only [bne_iff_ne,ne_eq,De,Iu,AR,AQ]
 split
 ·omega
 ·split <;> omega
theorem Amo (n:Int):max (-2147483647) (min 2147483647 n)=AQ n:=by
 unfold AQ; split
 ·omega
 ·split <;> omega
theorem Air (n:Int):min (max n (-2147483647)) 2147483647=AQ n:=by
 unfold AQ; split
 ·omega
 ·split <;> omega
noncomputable def f119:=Er (fun _:Int=>True) (fun x=>[kA .i64 x]) (fun x=>kA .i64 (AQ x))
theorem Rg (x:Int):f119 [.sc (.int .i64 x)]=some (.sc (.int .i64 (AQ x))):=
 (AJ (q:=fun _:Int=>True) (enc:=fun x=>[kA .i64 x]) (out:=fun x=>kA .i64 (AQ x)) x trivial (by intro y h; simp only [lx96,Az] at h; rw [Bt h]) :)
theorem Ais:DK Tryz.prog 119 f119:=AE <| by
 rintro x -
 refine Ad (Ar (.nil) (.nil)) rfl Tryz.func119 rfl (by decide) (by kernel_rfl) (by kernel_rfl) ?_
 simp only [Tryz.f119,Af,lx53,lx63,Nat.reduceAdd,Nat.reduceSub,List.replicate]
 refine Ab ?_
 simp (maxSteps:=10000000) +contextual -implicitDefEqProofs only [AX,AW,St.put,CO,AA,Amo]
 all_goals done
theorem Ari:DK Tryz.prog 247 f119:=AE <| by
 rintro x -
 refine Ad (Ar (.nil) (.nil)) rfl Tryz.func247 rfl (by decide) (by kernel_rfl) (by kernel_rfl) ?_
 simp only [Tryz.f247,Af,lx53,lx63,Nat.reduceAdd,Nat.reduceSub,List.replicate]
 refine Ab ?_
 simp (maxSteps:=10000000) +contextual -implicitDefEqProofs only [AX,AW,St.put,CO,AA,Air]
 all_goals done
theorem Bb7:DK Tryz.prog 81 f77:=AE <| by
 rintro ⟨c,v⟩ hq
 have hq:Fit c:=hq
 have x1:=e53 c hq
 simp only [Aa] at x1
 have hsh:(0:Int)≤(c.pri.length:Int):=MS _
 have hpl:=hq.pri
 have wp:IntKind.u64.wrap (c.pri.length:Int)=(c.pri.length:Int):=D6 (by omega) (by omega)
 simp only
 have p1:(decide (v.pl' < 0) || decide ((2147483647:Int) < v.pl'))=De 0 v.pl':=rfl
 have p2:(decide (v.ba < 0) || decide ((2147483647:Int) < v.ba))=De 0 v.ba:=rfl
 cases hb:((Bf c != 0) || ((v.vars.length:Int) != (c.vars.length:Int)) || ((v.left.length:Int) != c.tim) || (ID .u32 v.act c.pri.length != 0) || decide (v.pl' < 0) || decide ((2147483647:Int) < v.pl') || decide (v.ba < 0) || decide ((2147483647:Int) < v.ba)) with
 | true=>
  have hE:GH c v=false:=by
   rw [JP]
   intro hh
   simp only [GH,De,AT,lx85,JK,JL,Bz] at hh
   simp only [Iu,AR,bne_iff_ne,ne_eq] at hb
   omega
  rw [hE]
  refine Ad (Aj (lit:=false) (pm:=fun _=>none) (.cons Ami .nil) .nil .nil .nil) rfl Tryz.func81 rfl (by decide) (by kernel_rfl) (by kernel_rfl) ?_
  simp only [Tryz.f81,Af,lx53,lx63,Nat.reduceAdd,Nat.reduceSub,List.replicate]
  refine Ab ?_
  exact I2 (a5 x1 hsh wp hb @AP)
  all_goals done
 | false=>
 have hb2:=hb
 simp only [JL,Bz,bne_eq_false_iff_eq] at hb2
 obtain ⟨⟨⟨⟨⟨⟨⟨h1,h2⟩,h3⟩,h4⟩,h5⟩,h6⟩,h7⟩,h8⟩:=hb2
 have hlm:=B9 h1
 have hE:GH c v=(!v.vars.any (De (-2147483647)) && !v.left.any (De 0)):=by
  have e1:De 0 v.pl'=false:=by simp [De]; omega
  have e2:De 0 v.ba=false:=by simp [De]; omega
  simp only [GH,h1,h2,h3,h4,e1,e2,beq_self_eq_true,Gs,JM,Gt]
 rw [hE]
 refine Ad (Aj (lit:=false) (pm:=fun _=>none) (.cons Ami (.cons Ais .nil)) .nil .nil .nil) rfl Tryz.func81 rfl (by decide) (by kernel_rfl) (by kernel_rfl) ?_
 simp only [Tryz.f81,Af,lx53,lx63,Nat.reduceAdd,Nat.reduceSub,List.replicate]
 refine Ab ?_
 refine NC (a5 x1 hsh wp hb @AP) ?_
 clear hb p1 p2 x1 wp
 refine Am (σ:=Nat) (fun k cnt=>⟨Bm 0 97 [(3,.pt 1 1 0 0),(5,.sc (.int .i64 k))],[dead,⟨true,1,104,6,[JA v],false⟩],cnt⟩)
  (fun k=>k≤v.vars.length∧∀ j,j < k→De (-2147483647) (v.vars.getD j default)=false) (fun k=>v.vars.length - k) 0 ⟨by omega,by omega⟩ ?_ ?_ rfl ?_
 ·exact F4
 ·simp only [dead]
  simp (maxSteps:=10000000) only [AX,AW,AP]
 rintro k cnt ⟨hk,hn⟩ ih
 by_cases hk':k < v.vars.length
 ·have g1:decide ((k:Int) < (v.vars.length:Int))=true:=by rw [AR]; omega
  have g2:decide (k < v.vars.length)=true:=Ae
  have w1:IntKind.i64.wrap ((k:Int)+1)=((k+1:Nat):Int):=Ay
  have hat:=Im (p:=De (-2147483647)) hk'
  have hne:=Bd hn (k:=k)
  obtain ⟨x,hx⟩:∃ x,v.vars.getD k default=x:=⟨_,rfl⟩
  rw [hx] at hat hne
  have x2:=Rg x
  have x3:=Adg x
  refine Ab ?_
  simp only [dead] at ih ⊢
  cases h9:De (-2147483647) x with
  | true=>
   have e:=hat h9
   rw [h9] at x3
   rw [e]
   refine BJ ?_
   exact I2 (a6 g1 g2 hx x2 x3 @AP)
   repeat' (first | exact Ac (by kernel_rfl) | refine ⟨Ac (by kernel_rfl),?_⟩ | refine And.intro ?_ ?_ | fail)
   all_goals done
  | false=>
   have ih:=fun c=>ih (k+1) c ⟨by omega,hne h9⟩ (by omega)
   rw [h9] at x3
   refine BJ ?_
   refine NC (a7 g1 g2 hx x2 x3 w1 @AP) ?_
   exact Awb
 have hkl:k=v.vars.length:=Ai
 subst hkl
 have g1:decide ((v.vars.length:Int) < (v.vars.length:Int))=false:=Bc
 have n1:v.vars.any (De (-2147483647))=false:=Io hn
 rw [n1]
 clear hn ih hk hk'
 refine Ab ?_
 simp only [dead]
 refine BJ ?_
 refine NC (a2 g1 @AP) ?_
 refine Am (σ:=Nat) (fun k cnt=>⟨Bm 0 97 [(3,.pt 1 1 0 0),(6,.sc (.int .i64 k))],[dead,⟨true,1,104,6,[JA v],false⟩],cnt⟩)
  (fun k=>k≤v.left.length∧∀ j,j < k→De 0 (v.left.getD j default)=false) (fun k=>v.left.length - k) 0 ⟨by omega,by omega⟩ ?_ ?_ rfl ?_
 ·exact F4
 ·simp only [dead]
  simp (maxSteps:=10000000) only [AX,AW,AP]
 rintro k cnt ⟨hk,hn⟩ ih
 by_cases hk':k < v.left.length
 ·have g1:decide ((k:Int) < (v.left.length:Int))=true:=by rw [AR]; omega
  have g2:decide (k < v.left.length)=true:=Ae
  have w1:IntKind.i64.wrap ((k:Int)+1)=((k+1:Nat):Int):=Ay
  have hat:=Im (p:=De 0) hk'
  have hne:=Bd hn (k:=k)
  obtain ⟨x,hx⟩:∃ x,v.left.getD k default=x:=⟨_,rfl⟩
  rw [hx] at hat hne
  refine Ab ?_
  simp only [dead] at ih ⊢
  cases h9:De 0 x with
  | true=>
   have e:=hat h9
   simp only [De] at h9
   rw [e]
   refine BJ ?_
   exact I2 (a5 g1 g2 hx h9 @AP)
   repeat' (first | exact Ac (by kernel_rfl) | refine ⟨Ac (by kernel_rfl),?_⟩ | refine And.intro ?_ ?_ | fail)
   all_goals done
  | false=>
   have ih:=fun c=>ih (k+1) c ⟨by omega,hne h9⟩ (by omega)
   simp only [De] at h9
   refine BJ ?_
   refine NC (a6 g1 g2 hx h9 w1 @AP) ?_
   exact Awb
 have hkl:k=v.left.length:=Ai
 subst hkl
 have g1:decide ((v.left.length:Int) < (v.left.length:Int))=false:=Bc
 have n2:v.left.any (De 0)=false:=Io hn
 rw [n2]
 clear hn ih hk hk'
 refine Ab ?_
 simp only [dead]
 refine BJ ?_
 exact I2 (a2 g1 @AP)
 all_goals done
structure Ef where
 k:Int
 a:Int
 b:Int
 c:Int
 t:ByteArray
 deriving DecidableEq
instance:Inhabited Ef:=⟨⟨0,0,0,0,⟨#[]⟩⟩⟩
def C6 (x:Ef):AV:=.ag [kA .i64 x.k,kA .i64 x.a,kA .i64 x.b,kA .i64 x.c,stA x.t]
theorem Dx (x:Ef):C6 x=.ag [.sc (.int .i64 x.k),.sc (.int .i64 x.a),.sc (.int .i64 x.b),.sc (.int .i64 x.c),.sc (.string x.t)]:=rfl
theorem MC {x y:Ef} (h:C6 x=C6 y):x=y:=by
 cases x; cases y; simp_all [C6,kA,stA]
theorem KK {l m:List Ef}:l.map C6=m.map C6↔l=m:=⟨D8 (fun _ _=>MC),fun h=>by rw [h]⟩
theorem Hq (l:List Ef):Db 5 (l.map C6)=true:=D7 (f:=C6) (fun _=>rfl) l
theorem Jl (l:List Ef):norefs (l.map C6)=true:=C4 (f:=C6) (fun _=>by simp [C6,kA,stA,AV.noref,norefs]) l
theorem QO {α:Type} [Inhabited α] {a b:List α} (hl:a.length=b.length) (h:∀ j,j < a.length→a.getD j default=b.getD j default):a=b:=by
 refine List.ext_getElem hl fun i h1 h2=>?_
 have:=h i h1
 exact Ap4
theorem Au6 {x y:Lo} (h:x.mo=y.mo∧x.la=y.la∧x.se.lv=y.se.lv∧x.se.on=y.se.on∧x.se.off=y.se.off∧x.se.si=y.se.si):x=y:=by
 obtain ⟨a,b,⟨c,d,e,f⟩⟩:=x; obtain ⟨a',b',⟨c',d',e',f'⟩⟩:=y; simp_all
theorem Au7 {x y:Ev} (h:x.tr=y.tr∧x.ix=y.ix∧x.mo=y.mo):x=y:=by
 cases x; cases y; simp_all
theorem KL (a b:ByteArray):((a == b)=true)=(a=b):=by
 obtain ⟨x⟩:=a
 obtain ⟨y⟩:=b
 refine propext ?_
 show (x == y)=true↔_
 simp
theorem Au8 {x y:Ef} (h:x.k=y.k∧x.a=y.a∧x.b=y.b∧x.c=y.c∧x.t=y.t):x=y:=by
 cases x; cases y; simp_all
noncomputable def f75:=Er (fun _:(Bool × List Int) × (Bool × List Int)=>True) (fun p=>[.vw p.1.1 (p.1.2.map (kA .i64)),.vw p.2.1 (p.2.2.map (kA .i64))]) (fun p=>bA (decide (p.1.2=p.2.2)))
theorem e75 (z:Bool) (a:List Int) (z':Bool) (b:List Int):f75 [.vw z (a.map (kA .i64)),.vw z' (b.map (kA .i64))]=some (.sc (.bool (decide (a=b)))):=
 (AJ (q:=fun _:(Bool × List Int) × (Bool × List Int)=>True) (enc:=fun p=>[.vw p.1.1 (p.1.2.map (kA .i64)),.vw p.2.1 (p.2.2.map (kA .i64))]) (out:=fun p=>bA (decide (p.1.2=p.2.2))) ((z,a),(z',b)) trivial (by
  rintro ⟨⟨y1,y2⟩,⟨y3,y4⟩⟩ h
  simp only [lx96,AV.vw.injEq,IM,Az] at h
  rw [h.1.1,h.1.2,h.2.1,h.2.2]) :)
theorem Bg5:DK Tryz.prog 70 f75:=AE <| by
 rintro ⟨⟨z,a⟩,⟨z',b⟩⟩ -
 refine Ad (Ar (.nil) (.nil)) rfl Tryz.func70 rfl (by decide) (by kernel_rfl) (by kernel_rfl) ?_
 simp only [Tryz.f70,Af,lx53,lx63,Nat.reduceAdd,Nat.reduceSub,List.replicate]
 refine XR 0 rfl fun hlen=>?_
 have hla:a.length < 9223372036854775808:=by simp [maxLen] at hlen; omega
 refine Ab ?_
 by_cases he:a.length=b.length
 rotate_left
 ·exact As8
 have h1:((a.length:Int) != (b.length:Int))=false:=E9
 refine Asp ?_
 refine Am (σ:=Nat) (fun k cnt=>⟨Bm 0 26 [(0,.vw z (a.map (kA .i64))),(1,.vw z' (b.map (kA .i64))),(5,.sc (.int .i64 k))],[],cnt⟩)
  (fun k=>k≤a.length∧∀ j,j < k→a.getD j default=b.getD j default) (fun k=>a.length - k) 0 ⟨by omega,by omega⟩ ?_ trivial rfl ?_
 ·exact F4
 rintro k cnt ⟨hk,hn⟩ ih
 refine Ab ?_
 by_cases hk':k < a.length
 ·have h2:decide ((k:Int) < (a.length:Int))=true:=by rw [AR]; omega
  have h3:decide (k < a.length)=true:=Ae
  have h4:decide ((k:Int) < (b.length:Int))=true:=Ae
  have h5:decide (k < b.length)=true:=Ae
  have w1:IntKind.i64.wrap ((k:Int)+1)=((k+1:Nat):Int):=Ay
  have hne:=Bd (p:=fun j=>a.getD j default=b.getD j default) hn (k:=k)
  have hdf:a.getD k default≠b.getD k default→decide (a=b)=false:=fun hv=>by rw [Bz]; intro h; exact hv (by rw [h])
  obtain ⟨x,hx⟩:∃ x,a.getD k default=x:=⟨_,rfl⟩
  obtain ⟨y,hy⟩:∃ y,b.getD k default=y:=⟨_,rfl⟩
  simp only [hx,hy] at hne hdf
  by_cases hv:x=y
  ·have ih:=fun c=>ih (k+1) c ⟨by omega,hne hv⟩ (by omega)
   have hv':(x != y)=false:=by simpa using hv
   refine BJ ?_
   refine NC (a8 h2 h3 h4 h5 hx hy w1 hv') ?_
   exact Akd
  ·have h6:=hdf hv
   have hv':(x != y)=true:=by simpa using hv
   refine BJ ?_
   exact I2 (a8 h2 h3 h4 h5 hx hy hv' h6)
   repeat' (first | exact Ac (by kernel_rfl) | refine ⟨Ac (by kernel_rfl),?_⟩ | refine And.intro ?_ ?_ | fail)
   all_goals done
 ·exact As4
noncomputable def f73:=Er (fun _:(Bool × List Ev) × (Bool × List Ev)=>True) (fun p=>[.vw p.1.1 (p.1.2.map CV),.vw p.2.1 (p.2.2.map CV)]) (fun p=>bA (decide (p.1.2=p.2.2)))
theorem e73 (z:Bool) (a:List Ev) (z':Bool) (b:List Ev):f73 [.vw z (a.map CV),.vw z' (b.map CV)]=some (.sc (.bool (decide (a=b)))):=
 (AJ (q:=fun _:(Bool × List Ev) × (Bool × List Ev)=>True) (enc:=fun p=>[.vw p.1.1 (p.1.2.map CV),.vw p.2.1 (p.2.2.map CV)]) (out:=fun p=>bA (decide (p.1.2=p.2.2))) ((z,a),(z',b)) trivial (by
  rintro ⟨⟨y1,y2⟩,⟨y3,y4⟩⟩ h
  simp only [lx96,AV.vw.injEq,TZ,Az] at h
  rw [h.1.1,h.1.2,h.2.1,h.2.2]) :)
theorem Bg6:DK Tryz.prog 73 f73:=AE <| by
 rintro ⟨⟨z,a⟩,⟨z',b⟩⟩ -
 refine Ad (Ar (.nil) (.nil)) rfl Tryz.func73 rfl (by decide) (by kernel_rfl) (by kernel_rfl) ?_
 simp only [Tryz.f73,Af,lx53,lx63,Nat.reduceAdd,Nat.reduceSub,List.replicate]
 refine XR 0 rfl fun hlen=>?_
 have hla:a.length < 9223372036854775808:=by simp [maxLen] at hlen; omega
 refine Ab ?_
 by_cases he:a.length=b.length
 rotate_left
 ·exact As8
 have h1:((a.length:Int) != (b.length:Int))=false:=E9
 refine Asp ?_
 refine Am (σ:=Nat) (fun k cnt=>⟨Bm 0 26 [(0,.vw z (a.map CV)),(1,.vw z' (b.map CV)),(5,.sc (.int .i64 k))],[],cnt⟩)
  (fun k=>k≤a.length∧∀ j,j < k→a.getD j default=b.getD j default) (fun k=>a.length - k) 0 ⟨by omega,by omega⟩ ?_ trivial rfl ?_
 ·exact F4
 rintro k cnt ⟨hk,hn⟩ ih
 refine Ab ?_
 by_cases hk':k < a.length
 ·have h2:decide ((k:Int) < (a.length:Int))=true:=by rw [AR]; omega
  have h3:decide (k < a.length)=true:=Ae
  have h4:decide ((k:Int) < (b.length:Int))=true:=Ae
  have h5:decide (k < b.length)=true:=Ae
  have w1:IntKind.i64.wrap ((k:Int)+1)=((k+1:Nat):Int):=Ay
  have hne:=Bd (p:=fun j=>a.getD j default=b.getD j default) hn (k:=k)
  have hdf:a.getD k default≠b.getD k default→decide (a=b)=false:=fun hv=>by rw [Bz]; intro h; exact hv (by rw [h])
  obtain ⟨x,hx⟩:∃ x,a.getD k default=x:=⟨_,rfl⟩
  obtain ⟨y,hy⟩:∃ y,b.getD k default=y:=⟨_,rfl⟩
  simp only [hx,hy] at hne hdf
  by_cases hv:x=y
  ·have ih:=fun c=>ih (k+1) c ⟨by omega,hne hv⟩ (by omega)
   have hv':((x.tr == y.tr) && ((x.ix == y.ix) && (x.mo == y.mo)))=true:=by subst hv; simp [KL]
   refine BJ ?_
   refine NC (Gv h2 h3 h4 h5 hx hy w1 hv' @AN @Dg) ?_
   exact Akd
  ·have h6:=hdf hv
   have hv':((x.tr == y.tr) && ((x.ix == y.ix) && (x.mo == y.mo)))=false:=by rw [JP]; intro hh; simp only [AT,lx85,KL] at hh; exact hv (Au7 hh)
   refine BJ ?_
   exact I2 (Gv h2 h3 h4 h5 hx hy hv' h6 @AN @Dg)
   repeat' (first | exact Ac (by kernel_rfl) | refine ⟨Ac (by kernel_rfl),?_⟩ | refine And.intro ?_ ?_ | fail)
   all_goals done
 ·exact As4
noncomputable def f27:=Er (fun _:(Bool × List Ef) × (Bool × List Ef)=>True) (fun p=>[.vw p.1.1 (p.1.2.map C6),.vw p.2.1 (p.2.2.map C6)]) (fun p=>bA (decide (p.1.2=p.2.2)))
theorem e27 (z:Bool) (a:List Ef) (z':Bool) (b:List Ef):f27 [.vw z (a.map C6),.vw z' (b.map C6)]=some (.sc (.bool (decide (a=b)))):=
 (AJ (q:=fun _:(Bool × List Ef) × (Bool × List Ef)=>True) (enc:=fun p=>[.vw p.1.1 (p.1.2.map C6),.vw p.2.1 (p.2.2.map C6)]) (out:=fun p=>bA (decide (p.1.2=p.2.2))) ((z,a),(z',b)) trivial (by
  rintro ⟨⟨y1,y2⟩,⟨y3,y4⟩⟩ h
  simp only [lx96,AV.vw.injEq,KK,Az] at h
  rw [h.1.1,h.1.2,h.2.1,h.2.2]) :)
theorem Bg7:DK Tryz.prog 27 f27:=AE <| by
 rintro ⟨⟨z,a⟩,⟨z',b⟩⟩ -
 refine Ad (Ar (.nil) (.nil)) rfl Tryz.func27 rfl (by decide) (by kernel_rfl) (by kernel_rfl) ?_
 simp only [Tryz.f27,Af,lx53,lx63,Nat.reduceAdd,Nat.reduceSub,List.replicate]
 refine XR 0 rfl fun hlen=>?_
 have hla:a.length < 9223372036854775808:=by simp [maxLen] at hlen; omega
 refine Ab ?_
 by_cases he:a.length=b.length
 rotate_left
 ·exact As8
 have h1:((a.length:Int) != (b.length:Int))=false:=E9
 refine Asp ?_
 refine Am (σ:=Nat) (fun k cnt=>⟨Bm 0 26 [(0,.vw z (a.map C6)),(1,.vw z' (b.map C6)),(5,.sc (.int .i64 k))],[],cnt⟩)
  (fun k=>k≤a.length∧∀ j,j < k→a.getD j default=b.getD j default) (fun k=>a.length - k) 0 ⟨by omega,by omega⟩ ?_ trivial rfl ?_
 ·exact F4
 rintro k cnt ⟨hk,hn⟩ ih
 refine Ab ?_
 by_cases hk':k < a.length
 ·have h2:decide ((k:Int) < (a.length:Int))=true:=by rw [AR]; omega
  have h3:decide (k < a.length)=true:=Ae
  have h4:decide ((k:Int) < (b.length:Int))=true:=Ae
  have h5:decide (k < b.length)=true:=Ae
  have w1:IntKind.i64.wrap ((k:Int)+1)=((k+1:Nat):Int):=Ay
  have hne:=Bd (p:=fun j=>a.getD j default=b.getD j default) hn (k:=k)
  have hdf:a.getD k default≠b.getD k default→decide (a=b)=false:=fun hv=>by rw [Bz]; intro h; exact hv (by rw [h])
  obtain ⟨x,hx⟩:∃ x,a.getD k default=x:=⟨_,rfl⟩
  obtain ⟨y,hy⟩:∃ y,b.getD k default=y:=⟨_,rfl⟩
  simp only [hx,hy] at hne hdf
  by_cases hv:x=y
  ·have ih:=fun c=>ih (k+1) c ⟨by omega,hne hv⟩ (by omega)
   have hv':((x.k == y.k) && ((x.a == y.a) && ((x.b == y.b) && ((x.c == y.c) && (x.t == y.t)))))=true:=by subst hv; simp [KL]
   refine BJ ?_
   refine NC (Gv h2 h3 h4 h5 hx hy w1 hv' @Dx @Hq) ?_
   exact Akd
  ·have h6:=hdf hv
   have hv':((x.k == y.k) && ((x.a == y.a) && ((x.b == y.b) && ((x.c == y.c) && (x.t == y.t)))))=false:=by rw [JP]; intro hh; simp only [AT,lx85,KL] at hh; exact hv (Au8 hh)
   refine BJ ?_
   exact I2 (Gv h2 h3 h4 h5 hx hy hv' h6 @Dx @Hq)
   repeat' (first | exact Ac (by kernel_rfl) | refine ⟨Ac (by kernel_rfl),?_⟩ | refine And.intro ?_ ?_ | fail)
   all_goals done
 ·exact As4
end Go.Proofs.YtdjpkhjaibdogaaGreat
