/-
  Lemmas towards ModesPriority (joined texts: GJ, FY, FZ, FZB, GK, GL).
  Conditions: none.
-/
import Derived.Test.YtdjpkhjaibdogaaGreatL01
import Derived.Test.YtdjpkhjaibdogaaGreatL49
import Derived.Test.YtdjpkhjaibdogaaGreatL27
import Derived.Lib.Overlaps
import Derived.Test.YtdjpkhjaibdogaaGreatL48
import Derived.Test.YtdjpkhjaibdogaaGreatL02
set_option linter.unusedSimpArgs false
set_option linter.unusedVariables false
set_option maxRecDepth 100000
set_option maxHeartbeats 8000000
namespace Go.Proofs.YtdjpkhjaibdogaaGreat
open Go Go.SX
theorem Acf {α:Type} (p y news:List α):Bx (p++y) p.length news=p++news++y.drop news.length:=by
 unfold Bx
 rw [List.take_left' rfl,List.drop_append,List.drop_of_length_le (by omega),KW,lx64]
theorem KO {α:Type} (p y news:List α) (k:Nat) (hk:k=p.length):Bx (p++y) k news=p++news++y.drop news.length:=by subst hk; exact Acf p y news
theorem Ot (w:World) (b off i c n k:Nat) (info:TypeInfo) (z:Value) (hinfo:Tryz.prog.info? 82=some info) (hz:info.zero=some z) (hs:info.size=6) (hbt:info.bytes=48) (hi:i < n) (hnc:n≤c) (hroom:c < n+1) (hn:n≤100000) (hk:k=n+1 - i)
  (olds:List Value) (hol:olds.length=i * 6) (hcs:∀ j u,olds[j]?=some u→w.cell? ⟨b,off+j,none⟩=some u) (ty:TypeId):
  (Builtin.append_ #[39,3] ty #[.slice (some ⟨b,off,none⟩) i c,.int .i64 ((n:Int)+1 - (i:Int))]).run Tryz.prog w=
   .ok (.slice (some ⟨w.heap.size,0,none⟩) (n+1) (grownCap w (n+1) c 82))
    (w.drew.alloc (.cells (olds.toArray++Builtin.zeroCells z.cells k++Builtin.zeroCells z.cells (grownCap w (n+1) c 82 - (n+1))) 82)):=by
 have e1:(n:Int)+1 - (i:Int)=(k:Int):=An
 have e2:n+1=i+k:=An
 rw [e1,e2]
 have hk0:k≠0:=An
 have hw:IntKind.i64.wrap (k:Int)=k:=by rw [IntKind.wrap_i64]; omega
 have hn':¬ (i+k≤c):=An
 have h63':¬ (9223372036854775807 < ((i:Int)+(k:Int))):=An
 have hfit:=growslice_fits (need:=i+k) (old:=c) (bytes:=48) (by omega) (by omega)
 have h48':¬ (281474976710656 < Builtin.nextslicecap (i+k) c * info.bytes):=by rw [hbt]; omega
 have h48i:¬ (281474976710656 < (k:Int) * (info.bytes:Int)):=by rw [hbt]; omega
 have hneg:¬ ((k:Int) < 0):=An
 have hns:¬ (k * info.size=0):=by rw [hs]; omega
 have hold:(Builtin.firstCells info.size i (.slice (some ⟨b,off,none⟩) i c)).run Tryz.prog w.drew=.ok olds.toArray w.drew:=by
  rw [hs]
  exact Fh (w:=w.drew) (P:=Tryz.prog) hol (.inr ⟨b,off,rfl,fun j u h=>hcs j u h⟩) i
 have u39:=run_underlying t39
 have u3:=run_underlying t3'
 simp [Builtin.append_,u39,u3,sizeOf,typeInfo,zeroValue,hinfo,hz,asInt,asIntOf,hw,hn',hneg,hns,h63',h48',h48i,Question.forced,hold,newRow,grownCap]
theorem SN {w:World} {b:Nat} {cs:Array Value} {t:TypeId} (h:w.heap[b]?=some (.cells cs t (0,0))) (k:Nat):w.frozen? ⟨b,k,none⟩=false:=by
 simp [World.frozen?,h]
theorem Pq (w:World) (b vb off voff vc lb cb:Nat) (hne:vb≠b) (cs csv:Array Value) (hh:w.heap[b]?=some (.cells cs 82 (0,0))) (hv:w.heap[vb]?=some (.cells csv 82 (0,0))) (hcs:cs.size≠0):
  (callFunc 249 #[.slice (some ⟨vb,voff,none⟩) 1 vc,.slice (some ⟨b,off,none⟩) lb cb]).run Tryz.prog w=.ok (.value (.bool false)) w:=by
 have hsa:w.shape? vb=some (82,csv.size):=by simp [World.shape?,hv]
 have hsb:w.shape? b=some (82,cs.size):=by simp [World.shape?,hh]
 have hfa:=SN hv voff
 have hfe:=SN hv csv.size
 have hz:∀ w,(Go.sizeOf 82).run Tryz.prog w=.ok 6 w:=fun _=>by kernel_rfl
 rw [run_callFunc_extern Tryz.func249 (by kernel_rfl) (by kernel_rfl) (by kernel_rfl) (e:=Extern.SlicesOverlaps.overlaps #[39,39] #[4]) (by kernel_rfl)]
 rw [Lib.run_overlaps_apart w 39 4 82 t39 6 hz ⟨vb,voff,none⟩ ⟨b,off,none⟩ 1 vc lb cb hne 82 82 csv.size cs.size hsa hsb hcs hfa hfe]
 rfl
theorem Aud {w w':World} {X:Nat→Prop} {hc:HC} (h:HR w X hc) (hos:w'.os=w.os) (htape:w'.tape=w.tape) (hout:w'.output=w.output) (hheap:w'.heap=w.heap):HR w' X hc∧Evo w X hc w' X hc:=by
 have ev:Evo w X hc w' X hc:=by
  refine ⟨hos,htape,hout,by rw [hheap]; exact Av _,fun b _ _=>by rw [hheap],fun b s hs=>?_,fun _ _=>Iff.rfl,Av _,fun k B h1 h2 _=>⟨B,h1,h2,rfl,rfl,rfl,rfl,rfl⟩,fun k B b o h1 h2 h3 _=>⟨B,o,h1,h2,h3⟩⟩
  unfold World.shape? at *
  rw [hheap]; exact hs
 refine ⟨⟨fun id B h1 h2=>h.rest ev h1 h2 rfl (fun b o _=>by rw [hheap]) (fun _ hx=>hx),h.inj,fun b hb=>by rw [hheap]; exact h.lt b hb⟩,ev⟩
theorem Apv (z:Array Value) (n:Nat):(Builtin.zeroCells z n).size=n * z.size:=size_zeroCells z n
theorem vl3 {w:World} {X:Nat→Prop} {o:Option HC} {a b c:AV} {cargs:Array Value} (h:VL w X o [a,b,c] cargs.toList):∃ u v x,cargs=#[u,v,x]∧VR w X o a u∧VR w X o b v∧VR w X o c x:=by
 obtain ⟨u,l1,e1,k1,h1⟩:=h.uncons
 obtain ⟨v,l2,e2,k2,h2⟩:=h1.uncons
 obtain ⟨x,l3,e3,k3,h3⟩:=h2.uncons
 have e4:=h3.unnil
 subst e4; subst e3; subst e2
 refine ⟨u,v,x,?_,k1,k2,k3⟩
 apply Array.ext'
 rw [e1]
theorem Ho {w:World} {b:Nat} {cs r:Array Value} {t:TypeId} (h:w.heap[b]?=some (.cells cs t (0,0))) (k:Nat):(w.setRow b r).heap[k]?=if k=b then some (.cells r t (0,0)) else w.heap[k]?:=by
 by_cases hk:k=b
 ·rw [if_pos hk,hk]; exact setRow_heap w b cs r t (0,0) h
 ·rw [if_neg hk]; exact setRow_other w b k r hk
theorem G3 {w:World} {row:Array Value} {t:TypeId}:(w.drew.alloc (.cells row t)).heap=w.heap.push (.cells row t (0,0)):=rfl
theorem Apw {w:World} {row r1 r2:Array Value} {t:TypeId}:(((w.drew.alloc (.cells row t)).setRow w.heap.size r1).setRow w.heap.size r2).heap=w.heap.push (.cells r2 t (0,0)):=by
 have h0:(w.drew.alloc (.cells row t)).heap[w.heap.size]?=some (.cells row t (0,0)):=by rw [G3]; simp
 have h1:((w.drew.alloc (.cells row t)).setRow w.heap.size r1).heap[w.heap.size]?=some (.cells r1 t (0,0)):=setRow_heap _ _ _ _ _ _ h0
 refine Array.ext_getElem? fun k=>?_
 rw [Ho h1,Ho h0,G3,Array.getElem?_push,Array.getElem?_push]
 by_cases hk:k=w.heap.size
 ·simp [hk]
 ·simp [hk]
theorem Apx {w:World} {b:Nat} {cs r1 r2:Array Value} {t:TypeId} (h:w.heap[b]?=some (.cells cs t (0,0))):((w.setRow b r1).setRow b r2).heap=(w.setRow b r2).heap:=by
 refine Array.ext_getElem? fun k=>?_
 rw [Ho (setRow_heap w b cs r1 t (0,0) h),Ho h,Ho h]
 by_cases hk:k=b
 ·simp [hk]
 ·simp [hk]
theorem Aa8 {w:World} {X:Nat→Prop} {hc:HC} {cs:List Value} {esz:Nat} {els:List AV} (h:Real w X hc cs 0 esz els) (h0:0 < esz) (hl:cs.length=els.length * esz):∀ u ∈ cs,u.oneCell'=true:=by
 intro u hu
 obtain ⟨k,hk,rfl⟩:=lx69 hu
 have hi:k / esz < els.length:=Nat.div_lt_of_lt_mul (by rw [Nat.mul_comm]; omega)
 obtain ⟨h1,h2⟩:=h (k / esz) _ (lx50 hi)
 have hj:k % esz < (els[k / esz]).cells.length:=by rw [h1]; exact Nat.mod_lt _ h0
 obtain ⟨c,g1,g2,_⟩:=h2 (k % esz) _ (lx50 hj)
 have e:0+k / esz * esz+k % esz=k:=by have:=Nat.div_add_mod k esz; rw [Nat.mul_comm] at this; omega
 rw [e,lx50 hk] at g1
 cases g1
 exact g2
theorem Bbl:∃ info,Tryz.prog.info? 82=some info∧info.size=6∧info.bytes=48∧info.zero=some (.agg #[.int .i64 0,.int .i64 0,.int .i64 0,.int .i64 0,.int .i64 0,.int .i64 0]):=by
 obtain ⟨i,u,h1,_,h2,h3,h4,_⟩:=Bl Ba6
 exact ⟨i,h1,h2,h3,h4⟩
theorem Aa9 (ls:List Lo) (x:Lo) (i:Nat) (hi:i < ls.length) (hn:ls.length≤100000) (H:List Blk) (id q v u:Nat) (tmp:Bool) (hB:H[id]?=some ⟨true,v,82,6,ls.map B6,false⟩) (hq:H[q]?=some ⟨true,u,82,6,[B6 x],tmp⟩) (hne:q≠id) (cnt:Nat):
  HSpec Tryz.prog 234 [.sl id v 0 ls.length,.sc (.int .i64 (i:Int)),.sl q u 0 1] H cnt (.sl id cnt 0 (ls.length+1)) (H.set id ⟨true,cnt,82,6,(ls.take i++x::ls.drop i).map B6,false⟩) (cnt+1):=by
 obtain ⟨n,hnn⟩:∃ n,ls.length=n:=⟨_,rfl⟩
 refine ⟨⟨Tryz.f234,Tryz.func234,by decide,rfl⟩,fun w X loc cargs hr hv=>?_⟩
 obtain ⟨c0,c1,c2,rfl,k0,k1,k2⟩:=vl3 hv
 cases k1 with
 | sc _=>?_
 obtain ⟨y0,y1⟩:(∃ a cap,c0=.slice a ls.length cap)∧SlOk w ⟨loc,H,cnt⟩ id v 0 ls.length c0:=by cases k0 with | sl h1 h2=>exact ⟨h1,h2 _ rfl⟩
 obtain ⟨z0,z1⟩:(∃ a cap,c2=.slice a 1 cap)∧SlOk w ⟨loc,H,cnt⟩ q u 0 1 c2:=by cases k2 with | sl h1 h2=>exact ⟨h1,h2 _ rfl⟩
 obtain ⟨_,y2⟩:=y1
 obtain ⟨y3,y4⟩:=y2 _ hB rfl rfl
 obtain ⟨_,z2⟩:=z1
 obtain ⟨z3,z4⟩:=z2 _ hq rfl rfl
 rcases y4 with ⟨y4,_⟩ | ⟨b,base,cap,N,y5,y6,y7,y8,y9,y10⟩
 ·omega
 rcases z4 with ⟨z4,_⟩ | ⟨vb,vbase,vcap,vN,z5,z6,z7,z8,z9,z10⟩
 ·omega
 subst y6; subst z6
 obtain ⟨b1,b2,b3⟩:=hr.blk id _ hB rfl
 obtain ⟨d1,d2,d3⟩:=hr.blk q _ hq rfl
 rw [y5] at b3
 rw [z5] at d3
 obtain ⟨b4,⟨cs,b5⟩,b6⟩:=b3
 obtain ⟨d4,⟨csv,d5⟩,d6⟩:=d3
 have hbv:vb≠b:=fun h=>hne (hr.inj q id _ _ b vbase base hq hB rfl rfl (by rw [z5,h]) y5)
 have hN:N=cs.size:=by simp [World.shape?,b5] at y9; exact y9.symm
 have hvN:vN=csv.size:=by simp [World.shape?,d5] at z9; exact z9.symm
 subst hN; subst hvN
 simp only at y3 y7 y10 z7 z10 b6 d6 b5 d5
 rw [hnn] at hi hn y3 y7 ⊢
 have rB:Real w X ⟨loc,H,cnt⟩ cs.toList base 6 (ls.map B6):=b6.real b5
 have rV:=(d6.real d5:Real w X ⟨loc,H,cnt⟩ csv.toList vbase 6 [B6 x]).seg (lo:=0) (len:=1) (by simp)
 have rA:=rB.seg (lo:=0) (len:=i) (by simp; omega)
 have rD:=rB.seg (lo:=i) (len:=n - i) (by simp; omega)
 obtain ⟨A,hA⟩:∃ A,(cs.toList.drop (base+0 * 6)).take (i * 6)=A:=⟨_,rfl⟩
 obtain ⟨D,hD⟩:∃ D,(cs.toList.drop (base+i * 6)).take ((n - i) * 6)=D:=⟨_,rfl⟩
 obtain ⟨V,hV⟩:∃ V,(csv.toList.drop (vbase+0 * 6)).take (1 * 6)=V:=⟨_,rfl⟩
 have lA:A.length=i * 6:=by rw [←hA,lx68,lx92,lx29]; omega
 have lD:D.length=(n - i) * 6:=by rw [←hD,lx68,lx92,lx29]; omega
 have lV:V.length=6:=by rw [←hV,lx68,lx92,lx29]; omega
 rw [hA] at rA; rw [hD] at rD; rw [hV] at rV
 have gA:∀ j u,A[j]?=some u→w.cell? ⟨b,base+j,none⟩=some u:=fun j u h=>by
  rw [←hA,lx19] at h
  split at h
  ·rw [lx20] at h; rw [Cm b5]; simpa using h
  ·cases h
 have gD:∀ j u,D[j]?=some u→w.cell? ⟨b,base+i * 6+j,none⟩=some u:=fun j u h=>by
  rw [←hD,lx19] at h
  split at h
  ·rw [lx20] at h; rw [Cm b5]; exact h
  ·cases h
 have gV:∀ j u,V[j]?=some u→w.cell? ⟨vb,vbase+j,none⟩=some u:=fun j u h=>by
  rw [←hV,lx19] at h
  split at h
  ·rw [lx20] at h; rw [Cm d5]; simpa using h
  ·cases h
 have oD:=Aa8 rD (show 0 < 6 by decide) (by rw [lD,lx68,lx92,lx57,hnn,Nat.min_self])
 have oV:=Aa8 rV (show 0 < 6 by decide) (by rw [lV]; simp)
 have rF:Real w X ⟨loc,H,cnt⟩ (A++V++D) 0 6 ((ls.take i++x::ls.drop i).map B6):=by
  have h1:=(rA.append (by rw [lA]; simp; omega) rV).append (by rw [lx7,lA,lV]; simp; omega) rD
  have e1:(List.take i (List.drop 0 (ls.map B6))++List.take 1 (List.drop 0 [B6 x]))++List.take (n - i) (List.drop i (ls.map B6))=(ls.take i++x::ls.drop i).map B6:=by
   have e2:List.take (n - i) (List.drop i (ls.map B6))=List.drop i (ls.map B6):=lx12 (by simp; omega)
   rw [e2]
   simp
  rw [e1] at h1
  exact h1
 obtain ⟨info,i1,i2,i3,i4⟩:=Bbl
 have hlen:((ls.take i++x::ls.drop i).map B6).length=n+1:=F6
 have hset:(H.set id (⟨true,cnt,82,6,(ls.take i++x::ls.drop i).map B6,false⟩:Blk))[id]?=some ⟨true,cnt,82,6,(ls.take i++x::ls.drop i).map B6,false⟩:=by
  rw [List.getElem?_set_self (lx22.1 hB).1]
 have hsetne:∀ k,k≠id→(H.set id (⟨true,cnt,82,6,(ls.take i++x::ls.drop i).map B6,false⟩:Blk))[k]?=H[k]?:=fun k hk=>lx51 (fun h=>hk h.symm)
 have hL:((ls.take i++x::ls.drop i).map B6).length≤Dl:=by rw [hlen]; simp only [Dl]; omega
 clear k0 y0 y2 k2 z0 z2
 have hcz:(Value.cells (.agg #[.int .i64 0,.int .i64 0,.int .i64 0,.int .i64 0,.int .i64 0,.int .i64 0])).size=6:=rfl
 by_cases hroom:cap < n+1
 ·obtain ⟨G,hG⟩:∃ G,grownCap w (n+1) cap 82=G:=⟨_,rfl⟩
  have hG1:=grownCap_ge w (n+1) cap 82
  have hG2:=grownCap_le_maxLen w (n+1) cap 82 (by simp only [maxLen]; omega)
  have hrz:=Ot w b base i cap n (n+1 - i) info _ i1 i4 i2 i3 hi y7 hroom hn rfl A lA gA
  rw [hG] at hG1 hG2 hrz
  obtain ⟨Z,hZ⟩:∃ Z,(Builtin.zeroCells (Value.cells (.agg #[.int .i64 0,.int .i64 0,.int .i64 0,.int .i64 0,.int .i64 0,.int .i64 0])) (n+1 - i)++Builtin.zeroCells (Value.cells (.agg #[.int .i64 0,.int .i64 0,.int .i64 0,.int .i64 0,.int .i64 0,.int .i64 0])) (G - (n+1)))=Z:=⟨_,rfl⟩
  have lZ:Z.toList.length=(n+1 - i) * 6+(G - (n+1)) * 6:=by rw [←hZ,lx29,Array.size_append,Apv,Apv,hcz]
  simp only [Array.append_assoc,hZ] at hrz
  have e0:(A.toArray++Z).toList=A++Z.toList:=AZ
  have e1:Bx (A.toArray++Z).toList (i * 6) V=A++V++Z.toList.drop 6:=by rw [e0,KO A Z.toList V (i * 6) lA.symm,lV]
  have e2:Bx (A++V++Z.toList.drop 6) ((i+1) * 6) D=A++V++D++(Z.toList.drop 6).drop D.length:=KO (A++V) _ D _ (by rw [lx7,lA,lV]; omega)
  refine (Apu w b base n cap i vb vbase vcap hi y7 hroom hn (A.toArray++Z) (A++V++Z.toList.drop 6).toArray (A++V++D++(Z.toList.drop 6).drop D.length).toArray G hG1 hG2 hrz (fun ty dc W hW=>?_) (fun ty dc sc W hW=>?_)).mono ?_
  ·have hr1:=JJ (P:=Tryz.prog) (w:=W) (t:=39) (t':=39) (ty:=ty) t39 i1 (b:=w.heap.size) (o:=i * 6) (dLen:=n+1 - i) (dCap:=dc) (cur:=A.toArray++Z) (ety:=82) (by rw [hW,G3]; simp) (p:=some ⟨vb,vbase,none⟩) (m:=1) (c:=vcap) (news:=V)
    (by rw [lV,i2,show Nat.min 1 (n+1 - i)=1 from L2 (by omega)]) (.inr ⟨vb,vbase,rfl,fun j u h=>by
     have:=gV j u h
     rw [Cm d5] at this
     have hlt:vb < w.heap.size:=(lx49.1 d5).1
     rw [Cm (cs:=csv) (t:=82) (fr:=(0,0)) (by rw [hW,G3,Array.getElem?_push,if_neg (by omega)]; exact d5)]
     exact this⟩) oV (by rw [←lx29,e0,lx7,lA,lZ,lV]; omega)
   rw [e1,show Nat.min 1 (n+1 - i)=1 from L2 (by omega)] at hr1
   exact hr1
  ·have hrow:W.heap[w.heap.size]?=some (.cells (A++V++Z.toList.drop 6).toArray 82 (0,0)):=by
    rw [hW]; exact setRow_heap _ _ (A.toArray++Z) _ _ _ (by rw [G3]; simp)
   have hr1:=JJ (P:=Tryz.prog) (w:=W) (t:=39) (t':=39) (ty:=ty) t39 i1 (b:=w.heap.size) (o:=(i+1) * 6) (dLen:=n+1 - (i+1)) (dCap:=dc) hrow (p:=some ⟨b,base+i * 6,none⟩) (m:=n - i) (c:=sc) (news:=D)
    (by rw [lD,i2,show Nat.min (n - i) (n+1 - (i+1))=n - i from L2 (by omega)]) (.inr ⟨b,base+i * 6,rfl,fun j u h=>by
     have:=gD j u h
     rw [Cm b5] at this
     have hlt:b < w.heap.size:=(lx49.1 b5).1
     rw [Cm (cs:=cs) (t:=82) (fr:=(0,0)) (by rw [hW,setRow_other _ _ _ _ (by omega),G3,Array.getElem?_push,if_neg (by omega)]; exact b5)]
     exact this⟩) oD (by simp only [lx55,lx7,lx92,lA,lV,lD,lZ]; omega)
   rw [show Nat.min (n - i) (n+1 - (i+1))=n - i from L2 (by omega)] at hr1
   simp only [e2] at hr1
   exact hr1
  ·rintro e w' ⟨rfl,q1,q2,q3,q4⟩
   rw [Apw] at q4
   obtain ⟨g1,g2⟩:=Aar hr id ⟨true,cnt,82,6,(ls.take i++x::ls.drop i).map B6,false⟩ (A++V++D++(Z.toList.drop 6).drop D.length).toArray _ w' q1 q2 q3 q4 hset hsetne rfl rfl hL (rF.weaken fun k u hk h=>by
    simp only [CL] at h ⊢
    rw [lx61 (lx22.1 h).1]; exact h)
   refine ⟨_,_,_,rfl,g1,NH (s:=⟨[],H,cnt⟩) q4 hset rfl (by rw [hlen]; omega) hG1 hG2 ?_,g2⟩
   simp only [lx55,lx7,lx92,lA,lV,lD,lZ]; omega
 ·obtain ⟨Y,hY⟩:∃ Y,cs.toList.drop (base+i * 6)=Y:=⟨_,rfl⟩
  obtain ⟨pr,hpr⟩:∃ pr,cs.toList.take base=pr:=⟨_,rfl⟩
  have lpr:pr.length=base:=by rw [←hpr,lx68,lx29]; omega
  have hP:cs.toList.take (base+i * 6)=pr++A:=by rw [List.take_add,hpr,←hA,Nat.zero_mul,Gl]
  have hcs:cs.toList=pr++A++Y:=by rw [←hP,←hY,lx67]
  have lY:Y.length=cs.size - (base+i * 6):=by rw [←hY,lx92,lx29]
  have lP:(pr++A).length=base+i * 6:=by rw [lx7,lpr,lA]
  have hY6:(Y.take 6).length=6:=by rw [lx68,lY]; omega
  have hcs2:cs.toList=(pr++A++Y.take 6)++Y.drop 6:=by rw [lx6 _ (Y.take 6),lx67]; exact hcs
  obtain ⟨T,hT⟩:∃ T,(Y.drop 6).drop D.length=T:=⟨_,rfl⟩
  have e1:Bx cs.toList (base+(i+1) * 6) D=pr++A++(Y.take 6++D++T):=by
   rw [hcs2,KO (pr++A++Y.take 6) (Y.drop 6) D _ (by rw [lx7,lP,hY6]; omega),hT]
   simp only [lx6]
  have e2:Bx (pr++A++(Y.take 6++D++T)) (base+i * 6) V=pr++(A++V++D)++T:=by
   rw [KO (pr++A) _ V _ lP.symm,lV,lx6 (Y.take 6),List.drop_left' hY6]
   simp only [lx6]
  have lT:T.length=cs.size - (base+i * 6) - 6 - (n - i) * 6:=by rw [←hT,lx92,lx92,lY,lD]
  have s1:(pr++A++(Y.take 6++D++T)).length=cs.size:=by simp only [lx7,hY6,lD,lT,lpr,lA]; omega
  have s2:(pr++(A++V++D)++T).length=cs.size:=by simp only [lx7,lV,lD,lT,lpr,lA]; omega
  have hcsz:cs.size≠0:=An
  refine (Aj7 w b base n cap i vb vbase vcap hi (by omega) hn y8 (pr++A++(Y.take 6++D++T)).toArray (pr++(A++V++D)++T).toArray (fun lb cb=>Pq w b vb _ vbase vcap lb cb hbv cs csv b5 d5 hcsz) (fun ty dc sc W hW=>?_) (fun ty dc W hW=>?_)).mono ?_
  ·have hr1:=JJ (P:=Tryz.prog) (w:=W) (t:=39) (t':=39) (ty:=ty) t39 i1 (b:=b) (o:=base+(i+1) * 6) (dLen:=n+1 - (i+1)) (dCap:=dc) (cur:=cs) (ety:=82) (by rw [hW]; exact b5) (p:=some ⟨b,base+i * 6,none⟩) (m:=n+1 - i) (c:=sc) (news:=D)
    (by rw [lD,i2,show Nat.min (n+1 - i) (n+1 - (i+1))=n - i from by simp only [Nat.min_def]; split <;> omega]) (.inr ⟨b,base+i * 6,rfl,fun j u h=>by
     have:=gD j u h
     rw [Cm b5] at this
     rw [Cm (cs:=cs) (t:=82) (fr:=(0,0)) (by rw [hW]; exact b5)]
     exact this⟩) oD (by rw [lD]; omega)
   rw [e1,show Nat.min (n+1 - i) (n+1 - (i+1))=n - i from by simp only [Nat.min_def]; split <;> omega] at hr1
   exact hr1
  ·have hrow:W.heap[b]?=some (.cells (pr++A++(Y.take 6++D++T)).toArray 82 (0,0)):=by rw [hW]; exact setRow_heap _ _ _ _ _ _ b5
   have hr1:=JJ (P:=Tryz.prog) (w:=W) (t:=39) (t':=39) (ty:=ty) t39 i1 (b:=b) (o:=base+i * 6) (dLen:=n+1 - i) (dCap:=dc) hrow (p:=some ⟨vb,vbase,none⟩) (m:=1) (c:=vcap) (news:=V)
    (by rw [lV,i2,show Nat.min 1 (n+1 - i)=1 from L2 (by omega)]) (.inr ⟨vb,vbase,rfl,fun j u h=>by
     have:=gV j u h
     rw [Cm d5] at this
     rw [Cm (cs:=csv) (t:=82) (fr:=(0,0)) (by rw [hW,setRow_other _ _ _ _ hbv]; exact d5)]
     exact this⟩) oV (by simp only [lx55,s1,lV]; omega)
   rw [show Nat.min 1 (n+1 - i)=1 from L2 (by omega)] at hr1
   simp only [e2] at hr1
   exact hr1
  ·rintro e w' ⟨rfl,q1,q2,q3,q4⟩
   rw [Apx b5] at q4
   obtain ⟨g1,g2⟩:=QU hr id _ ⟨true,cnt,82,6,(ls.take i++x::ls.drop i).map B6,false⟩ b base base (cnt+1) cs (pr++(A++V++D)++T).toArray hB rfl y5 b5 (by simp only [lx55]; exact s2) rfl rfl hL (.inr ⟨rfl,rfl⟩) (rF.weaken fun k u hk h=>by
    simp only [CL] at h ⊢
    rw [lx6,lx62 (by omega),lpr,KW,lx61 (lx22.1 h).1]
    exact h)
   obtain ⟨f1,f2⟩:=Aud (w':=w') g1 q1 q2 q3 q4
   refine ⟨_,_,_,rfl,f1,.sl ⟨_,_,rfl⟩ fun hc hhc=>?_,g2.trans f2⟩
   cases hhc
   refine ⟨WL _,fun B' h1 h2 h3=>?_⟩
   have h1':(H.set id (⟨true,cnt,82,6,(ls.take i++x::ls.drop i).map B6,false⟩:Blk))[id]?=some B':=h1
   rw [hset] at h1'
   cases h1'
   refine ⟨by rw [hlen]; omega,.inr ⟨b,base,cap,cs.size,by simp,by simp,by omega,y8,?_,y10⟩⟩
   exact (g2.trans f2).shape _ _ y9
theorem RuI.nf {c:Cd} {x:Cx} {r r':Ru} (h:RuI c x r) (e:UX r=UX r'):RuI c x r':=by
 obtain ⟨⟨zv,vars,zl,left,act,zm,lamps,fau⟩,ef,po⟩:=r
 obtain ⟨⟨zv',vars',zl',left',act',zm',lamps',fau'⟩,ef',po'⟩:=r'
 simp only [UX,Ru.mk.injEq,Rs.mk.injEq,C5] at e
 obtain ⟨⟨rfl,rfl,rfl,rfl,rfl⟩,rfl,rfl⟩:=e
 exact ⟨h.val,h.fit,h.cx,h.vl,h.va,h.ll,h.lf,h.ac,h.fa,h.lo,h.so⟩
end Go.Proofs.YtdjpkhjaibdogaaGreat
namespace Go.Proofs.YtdjpkhjaibdogaaGreat
open Go Go.SX
attribute [local congr] ite_congr
theorem Agy {H:List Blk} {id:Nat} (h:id < H.length) (b z:Blk):(H++[b]).set id z=H.set id z++[b]:=by
 rw [List.set_append_left _ _ h]
theorem WC (ls:List Lo) (x:Lo) (hn:ls.length≤100000) (H:List Blk) (id v u:Nat) (tmp:Bool) (hB:H[id]?=some ⟨true,v,82,6,ls.map B6,false⟩) (cnt:Nat):
  HSpec Tryz.prog 234 [.sl id v 0 ls.length,.sc (.int .i64 (ls.length:Int)),.sl H.length u 0 1] (H++[⟨true,u,82,6,[B6 x],tmp⟩]) cnt (.sl id cnt 0 (ls.length+1)) (H.set id ⟨true,cnt,82,6,(ls++[x]).map B6,false⟩) (cnt+1):=by
 have hid:id < H.length:=(lx22.1 hB).1
 have g1:∀ b,(H++[b])[id]?=some ⟨true,v,82,6,ls.map B6,false⟩:=fun b=>by rw [lx61 hid]; exact hB
 have g2:=fun b z=>Agy hid b z
 have hz:decide ((ls.length+1) * 48≤140737488355328)=true:=Au
 have tl:(ls.map B6).take ls.length=ls.map B6:=lx12 (by simp)
 have q1:decide ((0:Int)≤(ls.length:Int))=true:=Au
 have q2:decide ((ls.length:Int)≤(ls.length:Int))=true:=AZ
 refine Ad (Af (lit:=true) (pm:=fun _=>none) .nil .nil .nil .nil) rfl Tryz.func234 rfl (by decide) (by kernel_rfl) ?_
 simp only [Tryz.f234,Ae,lx52,lx63,Nat.reduceAdd,Nat.reduceSub,List.replicate]
 refine Ac ?_
 cases tmp
 all_goals simp (maxSteps:=10000000) +contextual -implicitDefEqProofs only [AX,AT,St.put,↓reduceIte,Nat.reduceAdd,Int.reduceLT,Nat.reduceBEq,Nat.reduceLT,CS,Int.reduceAdd,B9,Bm,Bg,Bn,IS,B4,BS,Int.reduceBEq,g1,g2,hz,tl,q2,hB,lx7,lx2,List.dropLast_concat,lx10]
 all_goals try repeat' (first | exact Aa (by kernel_rfl) | refine ⟨Aa (by kernel_rfl),?_⟩ | refine And.intro ?_ ?_ | fail)
 all_goals first | exact .refl _ | exact .inl rfl | exact Ci _ _ _ | skip
 all_goals done
theorem Apy (ls:List Lo) (x:Lo) (i:Nat) (hi:i≤ls.length) (hn:ls.length≤100000) (H:List Blk) (id v u:Nat) (tmp:Bool) (hB:H[id]?=some ⟨true,v,82,6,ls.map B6,false⟩) (cnt:Nat):
  HSpec Tryz.prog 234 [.sl id v 0 ls.length,.sc (.int .i64 (i:Int)),.sl H.length u 0 1] (H++[⟨true,u,82,6,[B6 x],tmp⟩]) cnt (.sl id cnt 0 (ls.length+1)) (H.set id ⟨true,cnt,82,6,(ls.take i++x::ls.drop i).map B6,false⟩) (cnt+1):=by
 have hid:id < H.length:=(lx22.1 hB).1
 rcases Nat.lt_or_eq_of_le hi with h | rfl
 ·have:=Aa9 ls x i h hn (H++[⟨true,u,82,6,[B6 x],tmp⟩]) id H.length v u tmp (by rw [lx61 hid]; exact hB) (lx2 ..) (by omega) cnt
  refine this.wk (.refl _) ?_ (Av _)
  rw [Agy hid]
  exact Ci _ _ _
 ·have:=WC ls x hn H id v u tmp hB cnt
  rw [lx73,List.drop_length]
  exact this
def Du (x:Lo) (l:List Lo):Nat:=(l.filter fun y=>decide (DY y x)).length
def Nx (x:Lo) (l:List Lo):Bool:=decide (Du x l < l.length) && (Jz (l.getD (Du x l) default) x == 0)
theorem LV {x:Lo}:∀ {l:List Lo},HN l→∀ i,i < l.length→(DY (l.getD i default) x↔i < Du x l)
 | [],_,i,hi=>by simp at hi
 | y::l,h,i,hi=>by
  have hh:=lx116.1 h
  by_cases hy:DY y x
  ·have e:Du x (y::l)=Du x l+1:=by simp [Du,List.filter_cons,hy]
   rw [e]
   cases i with
   | zero=>simp [hy]
   | succ i=>
    have:=LV hh.2 i (by simpa using hi) (x:=x)
    simp only [List.getD_cons_succ]
    rw [this]; omega
  ·have hno:∀ z ∈ l,¬ DY z x:=fun z hz hc=>by
    have:=hh.1 z hz
    exact hy (Jf this hc)
   have e:Du x (y::l)=0:=by
    simp only [Du,List.filter_cons,hy,decide_false,DD,lx9]
    rw [List.filter_eq_nil_iff.2 (fun z hz=>by simpa using hno z hz)]; rfl
   rw [e]
   constructor
   ·intro hc
    cases i with
    | zero=>exact absurd hc hy
    | succ i=>
     simp only [List.getD_cons_succ] at hc
     have hi':i < l.length:=by simpa using hi
     rw [lx81,lx50 hi'] at hc
     exact absurd hc (hno _ (lx89 hi'))
   ·intro hc; omega
theorem Apz {a b:Lo}:(Jz a b == 0)=decide (Km a b):=by
 have h1:=SK (a:=a) (b:=b)
 have h2:Gg a.mo b.mo=0↔a.mo=b.mo:=by unfold Gg; split <;> (try split) <;> omega
 have h3:Gg a.la b.la=0↔a.la=b.la:=by unfold Gg; split <;> (try split) <;> omega
 have h4:Jz a b=0↔Km a b:=by
  rw [Jz,Afy]
  unfold Km
  by_cases h:Gg a.mo b.mo=0
  ·rw [if_pos h,h3]; have:=h2.1 h; omega
  ·rw [if_neg h]
   have:¬ a.mo=b.mo:=fun hh=>h (h2.2 hh)
   constructor
   ·intro hc; exact absurd hc h
   ·intro hc; exact absurd hc.1 this
 by_cases h:Km a b
 ·rw [AA h,h4.2 h]; rfl
 ·rw [Ce h,lx108]; exact fun hc=>h (h4.1 hc)
theorem Aue {n h:Nat} (hn:n≤1000000) (hh:n / 2=h):IntKind.i64.wrap (GD .u64 (IntKind.u64.wrap (n:Int)) 1)=(h:Int):=by
 have e1:IntKind.u64.wrap (n:Int)=(n:Int):=Ie (by omega) (by omega)
 have e:min ((1:Int).toNat) (IntKind.bits .u64)=1:=rfl
 rw [e1,GD,e,Int.fdiv_eq_ediv_of_nonneg _ (by decide),CR (by omega) (by omega)]
 omega
theorem Agz (x:Lo) (l:List Lo):Du x l≤l.length:=List.length_filter_le _ _
theorem SO {x:Lo}:∀ {l:List Lo},HN l→Kn x l=if Nx x l=true then l.set (Du x l) x else l.take (Du x l)++x::l.drop (Du x l)
 | [],_=>by simp [Kn,Nx,Du]
 | y::l,h=>by
  have hh:=lx116.1 h
  by_cases hy:DY y x
  ·have e:Du x (y::l)=Du x l+1:=by simp [Du,List.filter_cons,hy]
   have e2:Nx x (y::l)=Nx x l:=by simp [Nx,e]
   rw [Kn,if_pos hy,SO hh.2,e2,e]
   by_cases hc:Nx x l=true
   ·rw [if_pos hc,if_pos hc]; rfl
   ·rw [if_neg hc,if_neg hc]; rfl
  ·have e:Du x (y::l)=0:=by
    rcases Nat.eq_zero_or_pos (Du x (y::l)) with h0 | h0
    ·exact h0
    ·exact absurd ((LV h 0 (by simp)).2 h0) hy
   have e2:Nx x (y::l)=decide (Km y x):=by
    simp only [Nx,e,List.getD_cons_zero,Apz]
    simp
   rw [Kn,if_neg hy,e2,e]
   by_cases hc:Km y x
   ·rw [if_pos hc,if_pos (by simpa using hc)]; rfl
   ·rw [if_neg hc,if_neg (by simpa using hc)]; rfl
def bsQ (p:(Bool × List Lo) × Lo):Prop:=HN p.1.2∧p.1.2.length≤100000
def bsA (x:Lo) (l:List Lo):AV:=.tu [.sc (.int .i64 (Du x l:Nat)),.sc (.bool (Nx x l))]
noncomputable def f233:=EF bsQ (fun p=>[.vw p.1.1 (p.1.2.map B6),B6 p.2,.fn 80 []]) (fun p=>bsA p.2 p.1.2)
theorem Bky (z:Bool) (l:List Lo) (x:Lo) (h:HN l) (hl1:l.length≤100000):f233 [.vw z (l.map B6),B6 x,.fn 80 []]=some (bsA x l):=
 (AK (q:=bsQ) (enc:=fun p=>[.vw p.1.1 (p.1.2.map B6),B6 p.2,.fn 80 []]) (out:=fun p=>bsA p.2 p.1.2) ((z,l),x) ⟨h,hl1⟩ (by
  rintro ⟨⟨z',l'⟩,x'⟩ h
  simp only [lx94,AV.vw.injEq,Ql,AW] at h
  rw [h.1.1,h.1.2,Ni h.2]) :)
theorem Axx:DC Tryz.prog 233 f233:=AN <| by
 rintro ⟨⟨z,l⟩,x⟩ ⟨hso,hl1⟩
 simp only at hso hl1
 have x1:=fun a=>e80 a x
 have hp:=Agz x l
 simp only
 refine Ab (Kt (.cons Bhd .nil)) rfl Tryz.func233 rfl (by decide) (by kernel_rfl) (by simp [bsA,okc,Akm,Value.oneCell']) ?_
 simp only [Tryz.f233,Ae,lx52,lx63,Nat.reduceAdd,Nat.reduceSub,List.replicate]
 refine Ac ?_
 refine gG0 ?_
 have hsf:=fun i hi=>LV hso (x:=x) i hi
 have ho:=fun a=>SK (a:=a) (b:=x)
 refine Az (σ:=Nat × Nat) (fun y cnt=>⟨CW 0 49 [(0,.vw z (l.map B6)),(1,B6 x),(2,.fn 80 []),(4,.pt 0 0 0 0),(8,.sc (.int .i64 l.length)),(9,.sc (.int .i64 (y.1:Int))),(10,.sc (.int .i64 (y.2:Int)))],[⟨true,0,82,6,[B6 x],false⟩],cnt⟩)
  (fun y=>y.1≤Du x l∧Du x l≤y.2∧y.2≤l.length) (fun y=>y.2 - y.1) (0,l.length) ⟨Bq _,hp,Av _⟩ ?_ ?_ rfl ?_
 ·simp (maxSteps:=10000000) only [AX,AT,↓reduceIte,reduceCtorEq,Nat.reduceAdd,Nat.reduceEqDiff,CW,Jw,BS]
  all_goals done
 ·simp only [BS]; exact Aq _
 rintro ⟨i,j⟩ cnt ⟨hi,hj,hjl⟩ ih
 simp only at hi hj hjl
 by_cases hlt:i < j
 ·have hb:decide ((i:Int) < (j:Int))=true:=by rw [Bw]; omega
  obtain ⟨h,hh⟩:∃ h,(i+j) / 2=h:=⟨_,rfl⟩
  have h1:i≤h∧h < j:=An
  have w1:IntKind.i64.wrap ((i:Int)+(j:Int))=((i+j:Nat):Int):=CT
  have w2:IntKind.i64.wrap ((h:Int)+1)=((h+1:Nat):Int):=CT
  have w3:=Aue (n:=i+j) (by omega) hh
  have hb2:decide (h < l.length)=true:=Au
  have hb4:decide ((h:Int) < ((l.length:Nat):Int))=true:=Au
  obtain ⟨y,hg⟩:∃ y,l.getD h default=y:=⟨_,rfl⟩
  have hc:=hsf h (by omega)
  rw [hg] at hc
  have hy:=ho y
  have x2:=x1 y
  have ih1:=fun hc2 c'=>ih (h+1,j) c' ⟨hc2,hj,hjl⟩ (by simp only; omega)
  have ih2:=fun hc2 c'=>ih (i,h) c' ⟨hi,hc2,by omega⟩ (by simp only; omega)
  clear ih hsf ho x1
  simp only [BS] at x2
  refine Ac ?_
  refine Cb ?_
  by_cases hyl:Jz y x < 0
  ·have c0:decide (Jz y x < 0)=true:=by rw [Bw]; exact hyl
   refine Lh (a9 hb w1 w2 w3 hb2 hb4 hg x2 c0) ?_
   refine AB ?_ ?_ (Av _) (ih1 (by have:=hc.1 (hy.1 hyl); omega) _)
   all_goals exact Bdo
  ·have c0:decide (Jz y x < 0)=false:=by rw [Cy]; exact hyl
   refine Lh (a8 hb w1 w3 hb2 hb4 hg x2 c0) ?_
   refine AB ?_ ?_ (Av _) (ih2 (by
    rcases D0 h (Du x l) with g | g
    ·exact absurd (hy.2 (hc.2 g)) hyl
    ·exact g) _)
   all_goals exact Bdo
 ·obtain rfl:i=Du x l:=by omega
  obtain rfl:j=Du x l:=An
  have hb:decide (((Du x l:Nat):Int) < ((Du x l:Nat):Int))=false:=AZ
  clear ih hsf ho
  have hhit:Nx x l=(decide (Du x l < l.length) && (Jz (l.getD (Du x l) default) x == 0)):=rfl
  rw [bsA,hhit]
  generalize Du x l=p at *
  by_cases hpl:p < l.length
  ·have hb2:decide (p < l.length)=true:=by rw [Bw]; exact hpl
   have hb3:decide ((p:Int) < ((l.length:Nat):Int))=true:=Au
   obtain ⟨y,hg⟩:∃ y,l.getD p default=y:=⟨_,rfl⟩
   have x2:=x1 y
   rw [hg,hb2]
   simp only [BS] at x2
   refine Ac ?_
   refine Cb ?_
   exact zG1 (a5 hb hb2 hb3 hg x2)
   all_goals done
  ·have hb2:decide (p < l.length)=false:=by rw [Cy]; exact hpl
   have hb3:decide ((p:Int) < ((l.length:Nat):Int))=false:=L4
   rw [hb2]
   refine Ac ?_
   refine Cb ?_
   exact zG1 (a3 hb hb3 @Dv)
   all_goals done
def O9 (c:Cd) (x:Cx) (r:Ru) (w e p f m:Nat):Blk:=⟨true,w,138,18,[.ag [.vw c.zi (c.ins.map Gd),.vw c.zs (c.strs.map stA),.vw c.ze (c.ens.map Fw),.vw c.zp (c.pri.map (kA .i64)),.vw c.zv (c.vars.map (kA .i64)),.sc (.int .i64 c.tim),.sc (.int .i64 c.evs),
 .vw false (r.s.vars.map (kA .i64)),.sl 3 f 0 r.s.left.length,.sc (.int .u32 r.s.act),.sl 4 m 0 r.s.lamps.length,.sc (.int .i64 r.s.fau),.sc (.int .i64 x.ti),.sc (.int .u64 x.clo),.sc (.int .i64 x.pl'),.sc (.int .i64 x.ba),.sl 1 e 0 r.ef.length,.sl 2 p 0 r.po.length]],false⟩
def Df (c:Cd) (x:Cx) (r:Ru) (w e p f m:Nat) (R:List Blk):List Blk:=O9 c x r w e p f m::⟨true,e,73,5,r.ef.map EJ,false⟩::⟨true,p,46,3,r.po.map Hq,false⟩::⟨true,f,3,1,r.s.left.map (kA .i64),false⟩::⟨true,m,82,6,r.s.lamps.map B6,false⟩::R
theorem WD {c:Cd} {x:Cx} {r r':Ru} {w e p f m w' e' p' f' m':Nat} {R R':List Blk} (h:Df c x r w e p f m R=Df c x r' w' e' p' f' m' R'):UX r=UX r'∧w=w'∧e=e'∧p=p'∧f=f'∧m=m'∧R=R':=by
 obtain ⟨⟨zv,vars,zl,left,act,zm,lamps,fau⟩,ef,po⟩:=r
 obtain ⟨⟨zv',vars',zl',left',act',zm',lamps',fau'⟩,ef',po'⟩:=r'
 simp only [Df,O9,lx94,Blk.mk.injEq,AV.ag.injEq,AV.sl.injEq,AV.vw.injEq,AV.sc.injEq,Value.int.injEq,AW,C5] at h
 obtain ⟨⟨rfl,g1,⟨rfl,_⟩,rfl,⟨rfl,_⟩,rfl,⟨rfl,_⟩,rfl,_⟩,g2,g3,g4,g5,rfl⟩:=h
 obtain rfl:=On g1
 obtain rfl:=Afz.1 g2.2
 obtain rfl:=Ast.1 g3.2
 obtain rfl:=On g4.2
 obtain rfl:=Ql.1 g5.2
 simp [UX]
theorem Aaa (c:Cd) (x:Cx) (r:Ru) (hf:0≤r.s.fau∧r.s.fau≤2147483647) (w e p f m:Nat) (R:List Blk) (cnt:Nat):
  HSpec Tryz.prog 105 [.pt 0 w 0 0] (Df c x r w e p f m R) cnt (.tu []) (Df c x (Tf r) w e p f m R) cnt:=by
 obtain ⟨⟨zv,vars,zl,left,act,zm,lamps,fau⟩,ef,po⟩:=r
 simp only at hf
 have w1:IntKind.i64.wrap (fau+1)=fau+1:=CR (by omega) (by omega)
 refine Ad (Af (lit:=true) (pm:=fun _=>none) .nil .nil .nil .nil) rfl Tryz.func105 rfl (by decide) (by kernel_rfl) ?_
 simp only [Tryz.f105,Ae,lx52,lx63,Nat.reduceAdd,Nat.reduceSub,List.replicate]
 simp only [Df,O9,Tf]
 refine Ac ?_
 refine Lh w1 ?_
 exact qc4
structure SetQ (m:Int) (r:Ru):Prop where
 own:0≤m∧m < 32
 so:HN r.s.lamps
 len:r.s.lamps.length≤90000
theorem Auf (c:Cd) (x:Cx) (mo i:Int) (se:Lm) (r:Ru) (h:SetQ mo r) (hz:B7 r.s.act mo=false) (w e p f m:Nat) (R:List Blk) (cnt:Nat):
  HSpec Tryz.prog 208 [.pt 0 w 0 0,.sc (.int .i64 mo),.sc (.int .i64 i),lmA se] (Df c x r w e p f m R) cnt (.tu []) (Df c x r w e p f m R) (cnt+1):=by
 obtain ⟨h1,h2,h3⟩:=h
 obtain ⟨⟨zv,vars,zl,left,act,zm,lamps,fau⟩,ef,po⟩:=r
 simp only at hz h2 h3
 have E58:=e58 ⟨false,vars,false,left,act,false,lamps,fau⟩ mo ⟨by omega,by omega⟩
 simp only [Bf,hz] at E58
 have tl:(left.map (kA .i64)).take left.length=left.map (kA .i64):=lx12 (by simp)
 have tm:(lamps.map B6).take lamps.length=lamps.map B6:=lx12 (by simp)
 refine Ad (Af (lit:=true) (pm:=fun _=>none) (.cons Aid .nil) .nil .nil .nil) rfl Tryz.func208 rfl (by decide) (by kernel_rfl) ?_
 refine Ays ?_
 refine Lh (a3 E58 tl tm) ?_
 exact qc4
theorem Aq0 (c:Cd) (x:Cx) (mo i:Int) (se:Lm) (r:Ru) (h:SetQ mo r) (hz:B7 r.s.act mo=true) (hh:Nx ⟨mo,i,se⟩ r.s.lamps=true) (w e p f m:Nat) (R:List Blk) (cnt:Nat):
  HSpec Tryz.prog 208 [.pt 0 w 0 0,.sc (.int .i64 mo),.sc (.int .i64 i),lmA se] (Df c x r w e p f m R) cnt (.tu []) (Df c x (Eh r mo i se) w e p f m R) (cnt+1+1):=by
 have hR:Eh r mo i se={ r with s:={ r.s with zm:=false,lamps:=r.s.lamps.set (Du ⟨mo,i,se⟩ r.s.lamps) ⟨mo,i,se⟩ } }:=by
  rw [Eh,if_pos hz,Nu h.so,SO h.so,if_pos hh]
 rw [hR]
 obtain ⟨h1,h2,h3⟩:=h
 obtain ⟨⟨zv,vars,zl,left,act,zm,lamps,fau⟩,ef,po⟩:=r
 simp only at hz hh h2 h3
 have E58:=e58 ⟨false,vars,false,left,act,false,lamps,fau⟩ mo ⟨by omega,by omega⟩
 have E233:=Bky false lamps ⟨mo,i,se⟩ h2 (by omega)
 have hp:Du ⟨mo,i,se⟩ lamps < lamps.length:=by
  simp only [Nx,AH,Bw] at hh
  exact hh.1
 obtain ⟨lv,on,off,si⟩:=se
 simp only [Bf,BS,hz,bsA,hh] at E58 E233
 generalize Du ⟨mo,i,⟨lv,on,off,si⟩⟩ lamps=q at *
 have hq:decide ((q:Int) < ((lamps.length:Nat):Int))=true:=Au
 have hq2:decide (q < lamps.length)=true:=Au
 have hm:(lamps.map B6).set q (.ag [.sc (.int .i64 mo),.sc (.int .i64 i),.sc (.int .i64 lv),.sc (.int .i64 on),.sc (.int .i64 off),.sc (.int .i64 si)])=(lamps.set q ⟨mo,i,⟨lv,on,off,si⟩⟩).map B6:=by rw [List.map_set]; rfl
 have tl:(left.map (kA .i64)).take left.length=left.map (kA .i64):=lx12 (by simp)
 have tm:(lamps.map B6).take lamps.length=lamps.map B6:=lx12 (by simp)
 refine Ad (Af (lit:=true) (pm:=fun _=>none) (.cons Aid (.cons Axx .nil)) .nil .nil .nil) rfl Tryz.func208 rfl (by decide) (by kernel_rfl) ?_
 refine Ays ?_
 refine Lh (a7 E58 E233 tl tm hq hq2 hm) ?_
 exact qc4
theorem Aq1 (c:Cd) (x:Cx) (mo i:Int) (se:Lm) (r:Ru) (h:SetQ mo r) (hz:B7 r.s.act mo=true) (hh:Nx ⟨mo,i,se⟩ r.s.lamps=false) (w e p f m:Nat) (R:List Blk) (cnt:Nat):
  HSpec Tryz.prog 208 [.pt 0 w 0 0,.sc (.int .i64 mo),.sc (.int .i64 i),lmA se] (Df c x r w e p f m R) cnt (.tu []) (Df c x (Eh r mo i se) w e p f (cnt+1+1+1) R) (cnt+1+1+1+1):=by
 have hR:Eh r mo i se={ r with s:={ r.s with zm:=false,lamps:=r.s.lamps.take (Du ⟨mo,i,se⟩ r.s.lamps)++⟨mo,i,se⟩::r.s.lamps.drop (Du ⟨mo,i,se⟩ r.s.lamps) } }:=by
  rw [Eh,if_pos hz,Nu h.so,SO h.so,if_neg (by rw [hh]; simp)]
 rw [hR]
 obtain ⟨h1,h2,h3⟩:=h
 obtain ⟨⟨zv,vars,zl,left,act,zm,lamps,fau⟩,ef,po⟩:=r
 simp only at hz hh h2 h3
 have E58:=e58 ⟨false,vars,false,left,act,false,lamps,fau⟩ mo ⟨by omega,by omega⟩
 have E233:=Bky false lamps ⟨mo,i,se⟩ h2 (by omega)
 have hp:=Agz ⟨mo,i,se⟩ lamps
 obtain ⟨F,kF,E⟩:=DU (Apy lamps ⟨mo,i,se⟩ (Du ⟨mo,i,se⟩ lamps) hp (by omega) (Df c x ⟨⟨zv,vars,zl,left,act,zm,lamps,fau⟩,ef,po⟩ w e p f m (R++[⟨true,cnt,78,4,[lmA se],false⟩,⟨true,cnt+1,82,6,[B6 ⟨mo,i,se⟩],false⟩])) 4 m (cnt+1+1) true rfl (cnt+1+1+1))
 obtain ⟨lv,on,off,si⟩:=se
 simp only [Bf,BS,hz,bsA,hh] at E58 E233
 have hlen:(lamps.take (Du ⟨mo,i,⟨lv,on,off,si⟩⟩ lamps)++⟨mo,i,⟨lv,on,off,si⟩⟩::lamps.drop (Du ⟨mo,i,⟨lv,on,off,si⟩⟩ lamps)).length=lamps.length+1:=F6
 generalize Du ⟨mo,i,⟨lv,on,off,si⟩⟩ lamps=q at *
 generalize lamps.take q++⟨mo,i,⟨lv,on,off,si⟩⟩::lamps.drop q=L at *
 simp only [Df,O9,BS,HZ,lx90,lx64,lx6,lx52,lx7,lx63,lx5,lx111,Nat.reduceAdd,CL] at E
 have tl:(left.map (kA .i64)).take left.length=left.map (kA .i64):=lx12 (by simp)
 have tm:(lamps.map B6).take lamps.length=lamps.map B6:=lx12 (by simp)
 refine Ad (Af (lit:=true) (pm:=fun _=>none) (.cons Aid (.cons Axx .nil)) .nil .nil (.cons kF .nil)) rfl Tryz.func208 rfl (by decide) (by kernel_rfl) ?_
 refine Ays ?_
 refine Lh (a6 E58 E233 E tl tm hlen) ?_
 exact qc4
end Go.Proofs.YtdjpkhjaibdogaaGreat
