/- What the functions of this seat that lie on the laws' road compute (part LG), each for every input. By AI agents. -/
import Derived.Test.YtbmjlaknnpmgpaaGreatDoorProg
import Derived.KernelRfl
import Derived.Test.YtbmjlaknnpmgpaaGreatDoorAbMach
import Derived.WalkKit
import Derived.Deep.LoopGhost
import Derived.Deep.OwnRows
import Derived.Deep.RegionWith
import Derived.Test.YtbmjlaknnpmgpaaGreatDoorLT
import Derived.Test.YtbmjlaknnpmgpaaGreatDoorLD
set_option linter.all false
namespace Go.Proofs
open Go.Deep Go.Ab Go.RowKit
theorem Tryz.i4r:(Tryz.prog.info? 4).map (fun i=>(i.zero,i.size,i.bytes))=some (some (.bool false),1,1):=by kernel_rfl
theorem Tryz.i66r:(Tryz.prog.info? 270).map (fun i=>(i.zero,i.size,i.bytes))=some (some (.slice none 0 0),1,24):=by kernel_rfl
def c9m (bs:Nat→Nat) (n c:Nat):Nat→Value:=fun j=>if j<c then .slice (some ⟨bs j,0,none⟩) n n else .slice none 0 0
structure PA (w wr:World) (n c:Nat) (vx:Array Value) (L:Nat→Nat→Bool) (bs:Nat→Nat):Prop where
 since:w.Since w.heap.size wr
 size:w.heap.size+2≤wr.heap.size
 box:wr.heap[w.heap.size]?=some (.cells vx 46)
 top:wr.rowIs (w.heap.size+1) 270 n (c9m bs n c)
 done:∀j,j<c→wr.rowIs (bs j) 4 n (fun i=>.bool (L j i))
 lo:∀j,j<c→w.heap.size+1<bs j
 inj:∀i j,i<j→j<c→bs i<bs j
structure PB (w wr:World) (n c r:Nat) (vx:Array Value) (L:Nat→Nat→Bool) (bs:Nat→Nat):Prop where
 since:w.Since w.heap.size wr
 size:w.heap.size+2≤wr.heap.size
 box:wr.heap[w.heap.size]?=some (.cells vx 46)
 top:wr.rowIs (w.heap.size+1) 270 n (c9m bs n (c+1))
 done:∀j,j<c→wr.rowIs (bs j) 4 n (fun i=>.bool (L j i))
 cur:wr.rowIs (bs c) 4 n (fun i=>.bool (decide (i<r)&&L c i))
 lo:∀j,j≤c→w.heap.size+1<bs j
 inj:∀i j,i<j→j≤c→bs i<bs j
theorem d0r (w:World) (n:Nat) (vx:Array Value) (L:Nat→Nat→Bool):PA w ((w.alloc (.cells vx 46)).alloc (.cells (madeCells #[.slice none 0 0] n) 270)) n 0 vx L (fun _=>0):=by
 have hnew:=World.rowIs_made (w.alloc (.cells vx 46)) (.slice none 0 0) n 270
 rw [World.size_alloc] at hnew
 have hb:((w.alloc (.cells vx 46)).alloc (.cells (madeCells #[.slice none 0 0] n) 270)).heap[w.heap.size]?=some (.cells vx 46):=by
  rw [blk_alloc_lt _ _ _ (by simp)];exact World.alloc_heap_new w _
 exact ⟨((World.Since.refl _ _).alloc (Nat.le_refl _) _).alloc (by simp) _,by simp,hb,hnew.congr (fun j _=>by simp [c9m]),fun j hj=>absurd hj (Nat.not_lt_zero _),fun j hj=>absurd hj (Nat.not_lt_zero _),fun i j _ hj=>absurd hj (Nat.not_lt_zero _)⟩
theorem d0q {w wr:World} {n c:Nat} {vx:Array Value} {L:Nat→Nat→Bool} {bs:Nat→Nat} (h:PA w wr n c vx L bs) :
  PB w ((wr.alloc (.cells (madeCells #[.bool false] n) 4)).setCell ⟨w.heap.size+1,c,none⟩ (.slice (some ⟨wr.heap.size,0,none⟩) n n)) n c 0 vx L (fun j=>if j=c then wr.heap.size else bs j):=by
 have hnew:=World.rowIs_made wr (.bool false) n 4
 have hs:=h.size
 refine ⟨(h.since.alloc (by omega) _).setCell (by show w.heap.size≤w.heap.size+1;omega) _,by simp;omega,((blk_setCell_other _ _ _ _ (by show w.heap.size≠w.heap.size+1;omega)).trans (blk_alloc_lt _ _ _ (by omega))).trans h.box,((h.top.alloc _).set c _).congr (fun j _=>?_),fun j hj=>?_,?_,fun j hj=>?_,fun i j hij hj=>?_⟩
 ·simp only [c9m]
  by_cases e:j=c
  ·subst e;simp
  ·rw [if_neg e,if_neg e]
   by_cases hlt:j<c
   ·rw [if_pos hlt,if_pos (by omega)]
   ·rw [if_neg hlt,if_neg (by omega)]
 ·rw [if_neg (by omega)]
  have:=h.lo j hj
  exact ((h.done j hj).alloc _).setOther (by show bs j≠w.heap.size+1;omega) _
 ·simp only [if_true]
  exact (hnew.setOther (by show wr.heap.size≠w.heap.size+1;omega) _).congr fun i _=>by simp
 ·by_cases e:j=c
  ·rw [if_pos e];omega
  ·rw [if_neg e];exact h.lo j (by omega)
 ·by_cases e:j=c
  ·rw [if_pos e,if_neg (by omega)]
   exact (h.done i (by omega)).lt
  ·rw [if_neg e,if_neg (by omega)];exact h.inj i j hij (by omega)
theorem PB.grown {w wr wq:World} {n c r:Nat} {vx:Array Value} {L:Nat→Nat→Bool} {bs:Nat→Nat} (h:PB w wr n c r vx L bs) (hs:wr.Since wr.heap.size wq):PB w wq n c r vx L bs:=by
 have hz:=h.size
 have hz2:=hs.size
 have hk:∀b,b<wr.heap.size→wq.heap[b]?=wr.heap[b]?:=hs.block
 exact ⟨⟨hs.os.trans h.since.os,hs.tape.trans h.since.tape,hs.output.trans h.since.output,Nat.le_trans h.since.size hs.size,fun b hb=>(hk b (by omega)).trans (h.since.block b hb)⟩,by omega,(hk _ (by omega)).trans h.box,h.top.of_block (hk _ h.top.lt),fun j hj=>(h.done j hj).of_block (hk _ (h.done j hj).lt),h.cur.of_block (hk _ h.cur.lt),h.lo,h.inj⟩
theorem d6n {w wr:World} {n c r:Nat} {vx:Array Value} {L:Nat→Nat→Bool} {bs:Nat→Nat} (h:PB w wr n c r vx L bs):PB w (wr.setCell ⟨bs c,r,none⟩ (.bool (L c r))) n c (r+1) vx L bs:=by
 have hlo:=h.lo c (Nat.le_refl _)
 refine ⟨h.since.setCell (by show w.heap.size≤bs c;omega) _,by have:=h.size;simp;omega,(blk_setCell_other _ _ _ _ (by show w.heap.size≠bs c;omega)).trans h.box,h.top.setOther (by show w.heap.size+1≠bs c;omega) _,fun j hj=>(h.done j hj).setOther (by show bs j≠bs c;have:=h.inj j c hj (Nat.le_refl _);omega) _,(h.cur.set r _).congr (fun i _=>?_),h.lo,h.inj⟩
 by_cases e:i=r
 ·subst e;simp
 ·rw [if_neg e]
  have:decide (i<r+1)=decide (i<r):=decide_eq_decide.2 (by omega)
  rw [this]
theorem PB.drew {w wr:World} {n c r:Nat} {vx:Array Value} {L:Nat→Nat→Bool} {bs:Nat→Nat} (h:PB w wr n c r vx L bs):PB w wr.drew n c r vx L bs :=
 ⟨h.since.drew,h.size,h.box,h.top.drew,fun j hj=>(h.done j hj).drew,h.cur.drew,h.lo,h.inj⟩
theorem d6o {w wr:World} {n c:Nat} {vx:Array Value} {L:Nat→Nat→Bool} {bs:Nat→Nat} (h:PB w wr n c n vx L bs):PA w wr n (c+1) vx L bs :=
 ⟨h.since,h.size,h.box,h.top,fun j hj=>by
  by_cases e:j=c
  ·subst e;exact h.cur.congr fun i hi=>by simp [hi]
  ·exact h.done j (by omega),fun j hj=>h.lo j (by omega),fun i j hij hj=>h.inj i j hij (by omega)⟩
theorem PB.look {w wr:World} {n c r:Nat} {v0 v1 v2 v3 v4:Value} {L:Nat→Nat→Bool} {bs:Nat→Nat} (h:PB w wr n c r #[v0,v1,v2,v3,v4] L bs) (hc:c<n) (hr:r<n) :
  wr.cell? ⟨w.heap.size+1,c,none⟩=some (.slice (some ⟨bs c,0,none⟩) n n)∧wr.cell? ⟨w.heap.size,0,none⟩=some v0∧wr.cell? ⟨w.heap.size,1,none⟩=some v1∧wr.cell? ⟨w.heap.size,2,none⟩=some v2∧wr.cell? ⟨w.heap.size,3,none⟩=some v3∧wr.cell? ⟨w.heap.size,4,none⟩=some v4 ∧
  wr.cell? ⟨bs c,r,none⟩=some (.bool (decide (r<r)&&L c r))∧wr.frozen? ⟨bs c,r,none⟩=false:=by
 refine ⟨?_,by simp [World.cell?,h.box],by simp [World.cell?,h.box],by simp [World.cell?,h.box],by simp [World.cell?,h.box],by simp [World.cell?,h.box],h.cur.cell hr,h.cur.frozen r⟩
 have:=h.top.cell hc
 simpa [c9m] using this
def stp (L:Nat→Nat→Bool) (a b:Nat) (f:Nat→Bool):Nat→Bool:=fun i=>if i=b then f b||(f a&&L a b) else f i
def inn (L:Nat→Nat→Bool) (a:Nat) (f:Nat→Bool):Nat→Nat→Bool
 | 0=>f
 | b+1=>stp L a b (inn L a f b)
def midd (L:Nat→Nat→Bool) (n:Nat) (f:Nat→Bool):Nat→Nat→Bool
 | 0=>f
 | a+1=>inn L a (midd L n f a) n
def oul (L:Nat→Nat→Bool) (n:Nat) (f:Nat→Bool):Nat→Nat→Bool
 | 0=>f
 | k+1=>midd L n (oul L n f k) n
structure PC (w wr:World) (n:Nat) (L:Nat→Nat→Bool) (bs:Nat→Nat) (ob:Nat) (f:Nat→Bool):Prop where
 since:w.Since w.heap.size wr
 top:wr.rowIs (w.heap.size+1) 270 n (c9m bs n n)
 done:∀j,j<n→wr.rowIs (bs j) 4 n (fun i=>.bool (L j i))
 out:wr.rowIs ob 4 n (fun i=>.bool (f i))
 lo:w.heap.size+1<ob
 apart:∀j,j<n→bs j≠ob
theorem d0p {w wr:World} {n ci:Nat} {vx:Array Value} {L:Nat→Nat→Bool} {bs:Nat→Nat} (h:PA w wr n n vx L bs) :
  PC w ((wr.alloc (.cells (madeCells #[.bool false] n) 4)).setCell ⟨wr.heap.size,ci,none⟩ (.bool true)) n L bs wr.heap.size (fun i=>decide (i=ci)):=by
 have hnew:=World.rowIs_made wr (.bool false) n 4
 have hs:=h.size
 have hs0:=h.since.size
 have htl:=h.top.lt
 refine ⟨(h.since.alloc (by omega) _).setCell (by show w.heap.size≤wr.heap.size;omega) _,(h.top.alloc _).setOther (by show w.heap.size+1≠wr.heap.size;omega) _,fun j hj=>((h.done j hj).alloc _).setOther (by show bs j≠wr.heap.size;have:=(h.done j hj).lt;omega) _,(hnew.set ci _).congr (fun j _=>?_),by omega,fun j hj=>by have:=(h.done j hj).lt;omega⟩
 by_cases e:j=ci
 ·subst e;simp
 ·simp [e]
theorem d6m {w wr:World} {n:Nat} {L:Nat→Nat→Bool} {bs:Nat→Nat} {ob:Nat} {f:Nat→Bool} (h:PC w wr n L bs ob f) (a b:Nat) {x:Bool} (hx:x=(f b||(f a&&L a b))) :
  PC w (wr.setCell ⟨ob,b,none⟩ (.bool x)) n L bs ob (stp L a b f):=by
 have hlo:=h.lo
 refine ⟨h.since.setCell (by show w.heap.size≤ob;omega) _,h.top.setOther (by show w.heap.size+1≠ob;omega) _,fun j hj=>(h.done j hj).setOther (by show bs j≠ob;exact h.apart j hj) _,(h.out.set b _).congr (fun j _=>?_),hlo,h.apart⟩
 simp only [stp]
 by_cases e:j=b
 ·subst e;simp [hx]
 ·simp [e]
theorem PC.look {w wr:World} {n:Nat} {L:Nat→Nat→Bool} {bs:Nat→Nat} {ob:Nat} {f:Nat→Bool} (h:PC w wr n L bs ob f) {a b:Nat} (ha:a<n) (hb:b<n) :
  wr.cell? ⟨w.heap.size+1,a,none⟩=some (.slice (some ⟨bs a,0,none⟩) n n)∧wr.cell? ⟨bs a,b,none⟩=some (.bool (L a b))∧wr.cell? ⟨ob,a,none⟩=some (.bool (f a))∧wr.cell? ⟨ob,b,none⟩=some (.bool (f b))∧wr.frozen? ⟨ob,b,none⟩=false:=by
 refine ⟨?_,(h.done a ha).cell hb,h.out.cell ha,h.out.cell hb,h.out.frozen b⟩
 have:=h.top.cell ha
 simpa [c9m,ha] using this
set_option maxHeartbeats 3200000 in
set_option maxRecDepth 1000000 in
theorem c3e (n ci:Nat) (hci:ci<n) (hn:n≤24) (v1 v2 v3 v4:Value) (L:Nat→Nat→Bool) (w:World)
  (hcall:∀(W:World),w.Since w.heap.size W→∀a b:Nat,a<n→b<n→Calls Tryz.prog 228 #[.agg #[.int .i64 n,v1,v2,v3,v4],.int .i64 a,.int .i64 b] W fun e W'=>e=.returned (.bool (L a b))∧W.Since W.heap.size W') :
  Calls Tryz.prog 204 #[.agg #[.int .i64 n,v1,v2,v3,v4],.int .i64 ci] w fun e w'=>∃bs ob,e=.returned (.slice (some ⟨ob,0,none⟩) n n)∧PC w w' n L bs ob (oul L n (fun i=>decide (i=ci)) n):=by
 have hmk72:=run_make_row' (P:=Tryz.prog) 291 270 (.slice none 0 0) 24 Tryz.underlying291 Tryz.i66r rfl .i64 .i64 n (by omega) (by omega)
 go_enter Tryz.func204,Tryz.ntmps204
 go_wp2
 go_loopg [16] n (fun g i wr=>∃(c:Nat) (bs:Nat→Nat),c≤n∧g=n - c∧i=.int .i64 c∧PA w wr n c #[.int .i64 n,v1,v2,v3,v4] L bs)
 case atStart=>exact ⟨0,_,Nat.zero_le _,rfl,rfl,d0r w n _ L⟩
 case round =>
  obtain ⟨c,bs,hc,rfl,rfl,hO⟩:=hrel
  have hb0:wr.cell? ⟨w.heap.size,0,none⟩=some (.int .i64 n):=by simp [World.cell?,hO.box]
  have hmk66:=run_make_row' (P:=Tryz.prog) 270 4 (.bool false) 1 Tryz.underlying270 Tryz.i4r rfl .i64 .i64 n (by omega) (by omega)
  have hst1:c<n→∀o,(wr.alloc o).cell? ⟨w.heap.size+1,c,none⟩=some (c9m bs n c c):=fun h o=>(hO.top.alloc o).cell h
  have hst2:∀o,(wr.alloc o).frozen? ⟨w.heap.size+1,c,none⟩=false:=fun o=>(hO.top.alloc o).frozen c
  have hI0:=d0q hO
  have hst3:c<n→((wr.alloc (.cells (madeCells #[.bool false] n) 4)).setCell ⟨w.heap.size+1,c,none⟩ (.slice (some ⟨wr.heap.size,0,none⟩) n n)).cell? ⟨w.heap.size+1,c,none⟩=some (.slice (some ⟨wr.heap.size,0,none⟩) n n):=fun h=>by
   have:=hI0.top.cell h
   simpa [c9m] using this
  by_cases hcn:c<n
  ·have hst1:=hst1 hcn
   have hst3:=hst3 hcn
   go_wp2
   clear hst1 hst2 hst3 hmk66 hb0 hmk72
   generalize hbs:(fun j=>if j=c then wr.heap.size else bs j)=bs' at hI0
   have hbc:wr.heap.size=bs' c:=by rw [←hbs];simp
   rw [hbc]
   rw [hbc] at hI0
   clear hO
   go_loopg [30] n (fun g i wi=>∃r:Nat,r≤n∧g=n - r∧i=.int .i64 r∧PB w wi n c r #[.int .i64 n,v1,v2,v3,v4] L bs')
   case atStart=>exact ⟨0,Nat.zero_le _,rfl,rfl,hI0⟩
   case round =>
    clear hI0
    obtain ⟨r,hr,rfl,rfl,hI⟩:=hrel
    by_cases hrn:r<n
    ·obtain ⟨g1,b0,b1,b2,b3,b4,q1,q2⟩:=hI.look hcn hrn
     go_wp2
     go_region_with (go_at_call 228;refine (hcall _ ?_ c r hcn hrn).mono ?_;exact hI.drew.since;rintro e W' ⟨rfl,hW'⟩;obtain ⟨k1,k2,k3,k4,k5,k6,k7,k8⟩:=(hI.drew.grown hW').look hcn hrn)
     all_goals go_wp2
     all_goals
      go_roundg (n - (r+1))
      case measure=>omega
      case rel=>exact ⟨r+1,by omega,rfl,by simp,d6n (hI.drew.grown hW')⟩
    ·have hrr:r=n:=by omega
     subst hrr
     clear hcall
     go_wp2
     go_roundg (r - (c+1))
     case measure=>omega
     case rel=>exact ⟨c+1,bs',by omega,rfl,by simp,d6o hI⟩
  ·have hcc:c=n:=by omega
   subst hcc
   have hnew:=World.rowIs_made wr (.bool false) c 4
   have ho1:(wr.alloc (.cells (madeCells #[.bool false] c) 4)).cell? ⟨wr.heap.size,ci,none⟩=some (.bool false):=hnew.cell hci
   have ho2:(wr.alloc (.cells (madeCells #[.bool false] c) 4)).frozen? ⟨wr.heap.size,ci,none⟩=false:=hnew.frozen ci
   have hC:=d0p (ci:=ci) hO
   clear hst1 hst2 hst3 hI0 hcall hmk72 hnew
   go_wp2
   clear ho1 ho2 hb0 hmk66 hO
   try rw [show decide (c<c)=false by simp]
   have hC':PC w (wr.alloc (.cells ((madeCells #[.bool false] c).setIfInBounds ci (.bool true)) 4)) c L bs wr.heap.size (fun i=>decide (i=ci)):=by
    rw [World.setCell_alloc_at _ _ _ _ _ rfl] at hC;exact hC
   clear hC
   generalize hob:wr.heap.size=ob at hC' ⊢
   go_loopg [53] c (fun g i wq=>∃k:Nat,k≤c∧g=c - k∧i=.int .i64 k∧PC w wq c L bs ob (oul L c (fun i=>decide (i=ci)) k))
   case atStart=>exact ⟨0,Nat.zero_le _,rfl,rfl,hC'⟩
   case round =>
    clear hC'
    obtain ⟨k,hk,rfl,rfl,hK⟩:=hrel
    by_cases hkn:k<c
    ·go_wp2
     go_loopg [57] c (fun g i wq=>∃a:Nat,a≤c∧g=c - a∧i=.int .i64 a∧PC w wq c L bs ob (midd L c (oul L c (fun i=>decide (i=ci)) k) a))
     case atStart=>exact ⟨0,Nat.zero_le _,rfl,rfl,hK⟩
     case round =>
      clear hK
      obtain ⟨a,ha,rfl,rfl,hA⟩:=hrel
      by_cases han:a<c
      ·go_wp2
       go_loopg [62] c (fun g i wq=>∃b:Nat,b≤c∧g=c - b∧i=.int .i64 b∧PC w wq c L bs ob (inn L a (midd L c (oul L c (fun i=>decide (i=ci)) k) a) b))
       case atStart=>exact ⟨0,Nat.zero_le _,rfl,rfl,hA⟩
       case round =>
        clear hA
        obtain ⟨b,hb,rfl,rfl,hB⟩:=hrel
        by_cases hbn:b<c
        ·obtain ⟨g1,g2,g3,g4,g5⟩:=hB.look han hbn
         have hS:=@d6m w _ c L bs ob _ hB a b
         cases hfb:inn L a (midd L c (oul L c (fun i=>decide (i=ci)) k) a) b b
         all_goals cases hfa:inn L a (midd L c (oul L c (fun i=>decide (i=ci)) k) a) b a
         all_goals rw [hfb] at g4
         all_goals rw [hfa] at g3
         all_goals go_wp2
         all_goals
          go_roundg (c - (b+1))
          case measure=>omega
          case rel=>exact ⟨b+1,by omega,rfl,by simp,hS (by rw [hfa,hfb];simp)⟩
        ·have hbb:b=c:=by omega
         subst hbb
         go_wp2
         go_roundg (b - (a+1))
         case measure=>omega
         case rel=>exact ⟨a+1,by omega,rfl,by simp,hB⟩
      ·have haa:a=c:=by omega
       subst haa
       go_wp2
       go_roundg (a - (k+1))
       case measure=>omega
       case rel=>exact ⟨k+1,by omega,rfl,by simp,hA⟩
    ·have hkk:k=c:=by omega
     subst hkk
     go_wp2
     go_ret
     exact ⟨bs,ob,rfl,hK⟩
end Go.Proofs
set_option linter.unusedVariables false
namespace Go.Ab
open Go.RowKit Go.Proofs Go.Deep
theorem c4g {P:Program} {f:Nat} {args:List V} {b:Bool} (h:a0o P f args [] (fun r H'=>r=.bool b∧H'=[])) {g:Gh} {w W:World} (hH:a2l P g w []) (hk:a1o g.S w W) (hs:w.heap.size≤W.heap.size)
  {vals:Array Value} (hsz:vals.size=args.length) (hv:∀(i:Nat) (x:V),args[i]?=some x→VR g w (vals.getD i undef) x) :
  Calls P f vals W fun e W'=>e=.returned (.bool b)∧W.Since W.heap.size W':=by
 refine (h.2 g W vals ⟨fun _ _ h=>(by cases h),fun _ _ _ _ h=>(by cases h),fun _ _ h=>(by cases h),fun b hb=>Nat.lt_of_lt_of_le (hH.lt b hb) hs,fun w' hw=>hH.tabs w' fun b hb=>(hw b hb).trans (hk b hb)⟩ hsz fun i x hx=>(hv i x hx).mono hk (fun _ h=>h) fun id _=>.refl _ _).mono ?_
 rintro e w' ⟨v,r,H',g',rfl,⟨rfl,rfl⟩,hH',hr,hf,_⟩
 refine ⟨by rw [hr.bool_inv],⟨hf.os,hf.tape,hf.output,hf.size,fun b hb=>hf.old b hb ?_⟩⟩
 rintro ⟨id,o,ho,_⟩
 cases ho
def b6t (x:l7) (c:Int):Option (List Bool) :=
 chk (inb c 24&&decide (x.Credentials≤24)&&decide (c<x.Credentials)&&(List.range x.Credentials.toNat).all fun a=>(List.range x.Credentials.toNat).all fun b=>(F_4 x a b).isSome)
  (some ((List.range x.Credentials.toNat).map (Go.Proofs.oul (fun a b=>(F_4 x a b).getD false) x.Credentials.toNat (fun i=>decide (i=c.toNat)) x.Credentials.toNat)))
theorem g80 {vals:Array Value} (h2:vals.size=5):vals=#[vals.getD 0 undef,vals.getD 1 undef,vals.getD 2 undef,vals.getD 3 undef,vals.getD 4 undef]:=by
 apply Array.ext
 ·simp [h2]
 ·intro i h1 h3
  have:i=0∨i=1∨i=2∨i=3∨i=4:=by omega
  rcases this with rfl|rfl|rfl|rfl|rfl<;>simp [Array.getD_eq_getD_getElem?,h1]
theorem h4a {x:l7} {c:Int} {y:List Bool} (hy:b6t x c=some y) :
  a0o Tryz.prog 204 [l7.v x,.int .i64 c] [] (fun r H'=>r=.sl (y.map V.bool)∧H'=[]):=by
 unfold b6t at hy
 have hc0:(inb c 24&&decide (x.Credentials≤24)&&decide (c<x.Credentials)&&(List.range x.Credentials.toNat).all (fun a=>(List.range x.Credentials.toNat).all fun b=>(F_4 x a b).isSome))=true:=by
  generalize hcc:(inb c 24&&decide (x.Credentials≤24)&&decide (c<x.Credentials)&&(List.range x.Credentials.toNat).all (fun a=>(List.range x.Credentials.toNat).all fun b=>(F_4 x a b).isSome))=cc at hy ⊢
  cases cc with
  | true=>rfl
  | false=>simp [chk] at hy
 rw [o8 hc0] at hy
 obtain rfl:=(Option.some.inj hy).symm
 clear hy
 rw [Bool.and_eq_true,Bool.and_eq_true,Bool.and_eq_true] at hc0
 obtain ⟨⟨⟨h1,h2⟩,h3⟩,h4⟩:=hc0
 have h1:=q9.1 h1
 have h2:=of_decide_eq_true h2
 have h3:=of_decide_eq_true h3
 refine a5j (by kernel_rfl) fun g w vals hH hsz hv=>?_
 have hx:=hv 0 _ rfl
 have hc:=hv 1 _ rfl
 rw [g4y hsz]
 generalize vals.getD 0 undef=dv at hx
 generalize vals.getD 1 undef=cv at hc
 clear hv
 obtain ⟨vs,rfl,hvl,hvr⟩:=VR.agg_inv hx
 rw [g80 hvl] at hx ⊢
 have hn:=(VR.int_inv (hvr 0 _ rfl)).1
 generalize vs.getD 0 undef=nv at hn hx
 generalize vs.getD 1 undef=v1 at hx
 generalize vs.getD 2 undef=v2 at hx
 generalize vs.getD 3 undef=v3 at hx
 generalize vs.getD 4 undef=v4 at hx
 subst hn
 rw [hc.int_inv.1]
 clear hvr hvl
 have hN:x.Credentials=((x.Credentials.toNat:Nat):Int):=by omega
 have hC:c=((c.toNat:Nat):Int):=by omega
 generalize x.Credentials.toNat=n at *
 generalize c.toNat=ci at *
 rw [hN] at hx ⊢
 rw [hC]
 refine (c3e n ci (by omega) (by omega) v1 v2 v3 v4 (fun a b=>(F_4 x a b).getD false) w fun W hW a b ha hb=>?_).mono ?_
 ·have hs:=List.all_eq_true.1 (List.all_eq_true.1 h4 a (List.mem_range.2 ha)) b (List.mem_range.2 hb)
  obtain ⟨z,hz⟩:=Option.isSome_iff_exists.1 hs
  rw [hz]
  refine c4g (h0u.c.w hz) hH (fun q hq=>hW.block q (hH.lt q hq)) hW.size (by rfl) fun i v hi=>?_
  match i,hi with
  | 0,hi=>cases hi;exact hx
  | 1,hi=>cases hi;exact .rd (.int _ _ (by show -9223372036854775808≤_∧_≤(9223372036854775807:Int);omega))
  | 2,hi=>cases hi;exact .rd (.int _ _ (by show -9223372036854775808≤_∧_≤(9223372036854775807:Int);omega))
 ·rintro en w' ⟨bs,ob,rfl,hB⟩
  refine ⟨_,rfl,hB.since,?_⟩
  rw [List.map_map]
  have hlo:=hB.lo
  have:=c0v (S:=fun b=>g.S b∨(w.heap.size≤b∧b<w'.heap.size)) (F:=fun i=>.bool (Go.Proofs.oul (fun a b=>(F_4 x a b).getD false) n (fun i=>decide (i=ci)) n i)) hB.out (.inr ⟨by omega,hB.out.lt⟩) (by unfold maxLen;omega) (fun j hj=>.bool _) fun i _=>⟨rfl,rfl,rfl⟩
  exact this
end Go.Ab
set_option maxRecDepth 20000
set_option maxHeartbeats 2000000
namespace Go.Ab
open Go.Proofs
noncomputable section
def f5l (d_:d9) (a_:l5) (r_:o6) (x_:l7) (qB:List Int) (f_:a1v) (jA:Int) (fl_:a01) (s_:o5) (c_:l9):Option (l6×Int) :=
 (f7n (l6.mk f_.Fingerprint (f_.Where.length:Int) false 0 0 (p8.mk 0 0 0 0) false false) d_ a_ jA).bind fun y4=>bif (!decide (y4.1=0)) then some ((l6.mk 0 0 false 0 0 (p8.mk 0 0 0 0) false false),y4.1) else (e1x y4.2 r_ x_ qB).bind fun y8=>bif (!decide (y8.1=0)) then some ((l6.mk 0 0 false 0 0 (p8.mk 0 0 0 0) false false),y8.1) else (F_f fl_ s_).bind fun y12=>bif (!y12) then some ((l6.mk 0 0 false 0 0 (p8.mk 0 0 0 0) false false),36) else (d4n c_).bind fun y16=>bif (!decide (y16=0)) then some ((l6.mk 0 0 false 0 0 (p8.mk 0 0 0 0) false false),y16) else (f1c fl_ s_).bind fun y19=>(f0z c_ 1).bind fun y20=>some ((l6.mk y8.2.Fingerprint y8.2.Spots y8.2.Public y8.2.Readers y8.2.Since y8.2.Severity y19 y20),0)
instance g8a {d_:d9} {a_:l5} {r_:o6} {x_:l7} {qB:List Int} {f_:a1v} {jA:Int} {fl_:a01} {s_:o5} {c_:l9}:WJ (f5l d_ a_ r_ x_ qB f_ jA fl_ s_ c_) 38 [d9.v d_,l5.v a_,o6.v r_,l7.v x_,.sl (qB.map (V.int .i64)),a1v.v f_,.int .i64 jA,a01.v fl_,o5.v s_,l9.v c_] fun z=>.tup [l6.v z.1,.int .i64 z.2]:=wX Tryz.func38 [(1,⟨[.gc [4,6,10,11,12,13,15,17,18,19,20]],[],[]⟩),(2,⟨[],[.c 3 0 [22] []],[]⟩),(4,⟨[.gc [20,23]],[],[]⟩),(5,⟨[.gc [4,12,13,17,18,19,20,22]],[.c 3 0 [22] []],[]⟩),(7,⟨[.gc [20,24]],[],[]⟩),(8,⟨[.gc [17,18,19,20,22]],[],[]⟩),(9,⟨[.gc [20]],[],[]⟩),(12,⟨[.gc [20,25]],[],[]⟩),(13,⟨[.gc [17,18,19,20,22]],[],[]⟩),(14,⟨[.gc [20,22]],[],[]⟩)] (h:=fun _ _ h hQ M=>by have:SwA [(1000,22)]:=⟨⟩;unfold f5l at h;exact tX)
def e06 (z_:a0x):Option (l6×Int) :=
 (f5l z_.d_ z_.a_ z_.r_ z_.x_ z_.w_ z_.f_ z_.c_ z_.qC z_.s_ z_.gB).bind fun y2=>some (y2.1,y2.2)
instance h0i {z_:a0x}:WJ (e06 z_) 14 [a0x.v z_] fun z=>.tup [l6.v z.1,.int .i64 z.2]:=wX Tryz.func14 (h:=fun _ _ h hQ M=>by unfold e06 at h;exact tX)
set_option maxRecDepth 20000
set_option maxHeartbeats 2000000
@[go_sem] def g29 (x43:Int×Int×(List u7)×x8):Option (Fl (Int×Int×(List u7)×x8) (Int×(List u7)×x8)) :=
 bif decide (0<x43.1) then (F_0 x43.2.2.2 2).bind fun y53=>(F_0 y53.2 2).bind fun y54=>(F_0 y54.2 2).bind fun y55=>chk (room (x43.2.2.1.length+[(u7.mk y53.1 (decide (y54.1=1)) (decide (y55.1=1)))].length) 16) (chk (a0p (x43.1 - 1)) (some (.nx ((x43.1 - 1),x43.2.1,(x43.2.2.1++[(u7.mk y53.1 (decide (y54.1=1)) (decide (y55.1=1)))]),y55.2)))) else some (.ex (x43.2.1,x43.2.2.1,x43.2.2.2))
def f3p (t_:x8) (jI:Int):Option (a01×x8) :=
 (F_1 t_ 1 2).bind fun y2=>(F_1 y2.2 1 jI).bind fun y28=>(loop g29 (y28.1,y2.1,[],y28.2)).bind fun r56=>some ((a01.mk r56.1 r56.2.1),r56.2.2)
def g63:List (Nat×RN):=[(1,⟨[],[.c 1 0 [1000] [],.k 2 1],[]⟩),(2,⟨[],[.c 2 0 [1000] []],[]⟩),(4,⟨[.gc [0,4,5,6]],[],[]⟩),(5,⟨[],[.c 3 0 [1000] [],.c 5 0 [1000] [],.c 8 0 [1000] []],[]⟩)]
@[irreducible] def e5b:MC:=rdc (cK Tryz.prog Tryz.f60 g63 [] 3)
instance:LI e5b 0 0 [0,4,5] [4] (fun y:Int×Int×(List u7)×x8=>[(6,.int .i64 y.1)]) (fun y=>[.o 5 (.cells [.int .i64 y.2.1,.osl 4081 3 0 y.2.2.1.length]),.o 4081 (.arr 3 (y.2.2.1.map u7.v)),.o 1000 (.cells [.sl (y.2.2.2.L.map (V.int .i64)),.int .i64 y.2.2.2.at_])]) [.gc [0,4,5,6],.ownC 5 1 4081 3 none]:=⟨⟩
instance g1j {t_:x8} {jI:Int}:WI (f3p t_ jI) Tryz.prog 60 [.ptr 1000 0,.int .i64 jI] [(1000,.cells [.sl (t_.L.map (V.int .i64)),.int .i64 t_.at_])] (fun z=>.agg [.int .i64 z.1.Slots,.osl 1501 3 0 z.1.Consumers.length]) (fun z=>[(1000,.cells [.sl (z.2.L.map (V.int .i64)),.int .i64 z.2.at_]),(1501,.arr 3 (z.1.Consumers.map u7.v))]):=wX Tryz.func60 g63 [(3,e5b)] [.ownC 4 1 1501 3 none] [1000,1501] (h:=fun _ _ h hQ M=>by unfold f3p at h;exact tX)
def g45 (y2:a01×x8) (k46:Int) (a47:u7) (x45:List u7):Option (List u7) :=
 chk (inb k46 x45.length) ((F_l (a01.mk y2.1.Slots x45) ((x45.getD ((k46).toNat) default).Pool)).bind fun y55=>bif decide ((y55.length:Int)=1) then chk (inb k46 x45.length) (chk (inb k46 (x45.set ((k46).toNat) (u7.mk ((x45.getD ((k46).toNat) default).Pool) ((x45.getD ((k46).toNat) default).Dual) true)).length) (bif (x45.getD ((k46).toNat) default).Dual then chk (inb k46 (x45.set ((k46).toNat) (u7.mk ((x45.getD ((k46).toNat) default).Pool) ((x45.getD ((k46).toNat) default).Dual) true)).length) (some (x45.set ((k46).toNat) (u7.mk ((x45.getD ((k46).toNat) default).Pool) true true))) else chk (inb k46 (x45.set ((k46).toNat) (u7.mk ((x45.getD ((k46).toNat) default).Pool) ((x45.getD ((k46).toNat) default).Dual) true)).length) (some (x45.set ((k46).toNat) (u7.mk ((x45.getD ((k46).toNat) default).Pool) (decide (y2.1.Slots=1)) true))))) else some x45)
def f4f (t_:x8) (jI:Int):Option (a01×x8) :=
 (f3p t_ jI).bind fun y2=>(a0d (g45 y2) y2.1.Consumers 0 y2.1.Consumers).bind fun x56=>some ((a01.mk y2.1.Slots x56),y2.2)
def g6e:List (Nat×RN):=[(1,⟨[],[.c 2 0 [1000] [32561]],[]⟩),(5,⟨[],[.c 3 0 [32561] [22]],[]⟩),(6,⟨[.gc [4,5,6,12,13,14,40,41,42]],[],[]⟩)]
@[irreducible] def d15:MC:=rdc (cK Tryz.prog Tryz.f32 g6e [] 3)
def e7l:MC:=rdc (cT Tryz.prog Tryz.f32 g6e [(3,d15)])
theorem a9g {f_:a01} {qH:Int} {y:List Int} (hy:F_l f_ qH=some y):a0o Tryz.prog 61 [.agg [.int .i64 f_.Slots,.osl 1000 3 0 f_.Consumers.length],.int .i64 qH] [(1000,.arr 3 (f_.Consumers.map u7.v))] (fun r H=>r=.osl 1900 1 0 y.length∧H=(1000,.arr 3 (f_.Consumers.map u7.v))::[(1900,.arr 1 (y.map (V.int .i64)))]):=by
 refine c4m (n:=1000) (k:=3) (args:=[.agg [.int .i64 f_.Slots,.osl 1000 3 0 f_.Consumers.length],.int .i64 qH]) ?_ (by simp [V.sealOK,V.sealOKs]) (by simp [V.lf,V.lfL,a0i]) rfl (fun id o ho=>?_)
 ·have h:=g82.c.w hy
  simpa [V.shut,V.sealL,d59,a01.v] using h
 ·obtain rfl:=c7n ho
  exact ⟨_,_,_,rfl,by simp [V.cells,V.lf,V.lfL]⟩
instance h3t {t_:x8} {jI:Int}:WI (f4f t_ jI) Tryz.prog 32 [.ptr 1000 0,.int .i64 jI] [(1000,.cells [.sl (t_.L.map (V.int .i64)),.int .i64 t_.at_])] (fun z=>a01.v z.1) (fun z=>[(1000,.cells [.sl (z.2.L.map (V.int .i64)),.int .i64 z.2.at_])]):=⟨fun Q Q' h hQ=>by
 refine a3a e7l [.fzc 4] [1000] [.c 4 (some 2)] Tryz.func32 fun M=>?_
 unfold f4f at h
 unfold e7l
 replace h:=tY h
 refine tB ?_
 repeat' (first
 | (exact tZ)
 | ((first|refine b8n h ?_|refine a6x h ?_|refine b8p h ?_|refine b8o h ?_|refine b8q h ?_|refine appG h ?_|refine b8r h ?_|refine fork h ?_ ?_|refine a6y h ?_ ?_)<;>clear h<;>intro hc h)
 | (obtain ⟨y,hy,h⟩:=h;(first|have hw:=a0w 1501 32561 (g1j.c.w hy)|have hw:=a0w 1900 22 (a0w 1000 32561 (a9g hy)));replace hw:=tY hw;(first|refine M.sC hw ?_|refine M.sD hw ?_);clear hw hy;refine tB ?_)
 | (refine M.fold1 (b:=d15) 14 [4,5,13] [5,4,1000] (fun x=>[(12,.osl 32561 3 0 x.length)]) (fun x=>[.o 32561 (.arr 3 (x.map u7.v)),.p 5 1 [.osl 32561 3 0 x.length]]) [] h ?_ ?_ ?_<;>first
 | (clear h;intro k a x Qn K hK1 hkN1 ha1 h hf;have hl:=a3h (a1d (n:=13) hf.1 rfl);clear hf;have hkd:=kD hkN1;have hkB1:=kB hkN1;have hkI1:=kI (k:=k) (by omega);unfold g45 at h;unfold d15;replace h:=tY h;refine tK ha1 hkd hkN1 hkB1 hkI1 ?_)
  |(clear h;intro x K h;replace h:=And.left (And.intro h trivial);unfold d15;replace h:=tY h;refine tB ?_)
  |(clear h;(try refine tB ?_);exact tU0;done))
 | (simp only [ha1])
 | (exact absurd (hc.symm.trans (by assumption:_=true)) Bool.false_ne_true)
 | (exact absurd (hc.symm.trans (by assumption:_=false)) Bool.false_ne_true.symm)
 | (refine hK1 _ ?_;(try refine tB ?_);refine ⟨_,h,?_⟩;exact tU0;done)
 | (refine tE ?_;(first|rw [M.lok_compU]|rw [M.lokD_compU]);refine tB ?_)
 | (refine ⟨_,g50 (by first|exact a1s (by assumption)|exact a7o (by assumption)|assumption) rfl,?_⟩;(first|rw [M.lok_compU]|rw [M.lokD_compU]);refine tB ?_)
 | (refine ⟨_,g4z (by first|exact a1s (by assumption)|exact a7o (by assumption)|assumption),?_⟩;(first|rw [M.lok_compU]|rw [M.lokD_compU]|(simp only [V.cells,List.drop_succ_cons,List.drop_zero];first|rw [M.lok_comp]|rw [M.lokD_comp]));refine tB ?_)
 | (refine ⟨_,b2u (by first|exact a1s (by assumption)|exact a7o (by assumption)),?_⟩;(first|rw [M.lok_compU]|rw [M.lokD_compU]|(simp only [V.cells];first|rw [M.lok_comp]|rw [M.lokD_comp]));refine tB ?_)
 | (refine tA ?_)
 | fail)⟩
@[go_sem] def g28 (f_:a01) (x55:Int×o5×x8):Option (Fl (Int×o5×x8) (Sum (o5×x8) (o5×x8))) :=
 bif decide (0<x55.1) then (f3v f_ x55.2.1).bind fun y69=>bif decide ((y69.length:Int)=0) then some (.ex (.inr (x55.2.1,x55.2.2))) else (F_0 x55.2.2 (y69.length:Int)).bind fun y70=>chk (inb y70.1 y69.length) ((F_m f_ x55.2.1 (y69.getD (y70.1).toNat default)).bind fun y71=>chk (a0p (x55.1 - 1)) (some (.nx ((x55.1 - 1),y71.1,y70.2)))) else some (.ex (.inl (x55.2.1,x55.2.2)))
def f2o (t_:x8) (f_:a01):Option (o5×x8) :=
 (f3m f_).bind fun y2=>(F_0 t_ 16).bind fun y36=>(loop (g28 f_) (y36.1,y2.1,y36.2)).bind fun r72=>Sum.elim (fun u73=>some (u73.1,u73.2)) (fun u74=>some u74) r72
def g5f:List (Nat×RN):=[(2,⟨[],[.c 1 0 [1000] []],[]⟩),(4,⟨[.gc [0,3,4,5,7]],[],[]⟩),(8,⟨[.gc [0,3,4,5,7,8]],[.c 6 0 [1000] []],[]⟩)]
@[irreducible] def e5a:MC:=rdc (cK Tryz.prog Tryz.f33 g5f [] 3)
instance:LI e5a 0 0 [0,3,4,5] [4,3] (fun y:Int×o5×x8=>[(7,.int .i64 y.1)]) (fun y=>[.o 5 (.cells [.int .i64 y.2.1.Known,.int .i64 y.2.1.Valid,.sl (y.2.1.Units.map a0r.v)]),.o 1000 (.cells [.sl (y.2.2.L.map (V.int .i64)),.int .i64 y.2.2.at_])]) []:=⟨⟩
instance h1k {t_:x8} {f_:a01}:WI (f2o t_ f_) Tryz.prog 33 [.ptr 1000 0,a01.v f_] [(1000,.cells [.sl (t_.L.map (V.int .i64)),.int .i64 t_.at_])] (fun z=>o5.v z.1) (fun z=>[(1000,.cells [.sl (z.2.L.map (V.int .i64)),.int .i64 z.2.at_])]):=wX Tryz.func33 g5f [(3,e5a)] [.fzc 4] [1000] (h:=fun _ _ h hQ M=>by unfold f2o at h;exact tX)
def f0y (t_:x8) (c_:l9):Option (a0a×x8) :=
 (F_1 t_ 1 4).bind fun y2=>bif decide (y2.1=1) then (F_t y2.2 [1,2,2,3,0]).bind fun y7=>some ((a0a.mk y2.1 0 0 y7.1),y7.2) else bif decide (y2.1=4) then (F_0 y2.2 (c_.Replicas.length:Int)).bind fun y8=>chk (a0p ((c_.Snapshots.length:Int)+1)) ((F_0 y8.2 ((c_.Snapshots.length:Int)+1)).bind fun y9=>some ((a0a.mk y2.1 y8.1 y9.1 0),y9.2)) else (F_0 y2.2 (c_.Replicas.length:Int)).bind fun y10=>some ((a0a.mk y2.1 y10.1 0 0),y10.2)
instance g93 {t_:x8} {c_:l9}:WI (f0y t_ c_) Tryz.prog 67 [.ptr 1000 0,l9.v c_] [(1000,.cells [.sl (t_.L.map (V.int .i64)),.int .i64 t_.at_])] (fun z=>a0a.v z.1) (fun z=>[(1000,.cells [.sl (z.2.L.map (V.int .i64)),.int .i64 z.2.at_])]):=wX Tryz.func67 [(1,⟨[],[.c 1 0 [1000] []],[]⟩),(3,⟨[.gc [0,3,4,5]],[.c 4 0 [1000] []],[]⟩),(5,⟨[.gc [0,4,5]],[.k 1 2,.c 2 0 [1000] []],[]⟩),(7,⟨[.gc [0,3,4,5]],[.c 4 0 [1000] [],.c 10 0 [1000] []],[]⟩)] [] [] [1000] (h:=fun _ _ h hQ M=>by unfold f0y at h;exact tX)
@[go_sem] def g27 (x44:Int×l9×x8):Option (Fl (Int×l9×x8) (l9×x8)) :=
 bif decide (0<x44.1) then jn (α:=l9×x8) ((f0y x44.2.2 x44.2.1).bind fun y57=>(F_x x44.2.1 y57.1).bind fun y58=>bif decide (y58.2=0) then some (y58.1,y57.2) else some (x44.2.1,y57.2)) fun j54=>chk (a0p (x44.1 - 1)) (some (.nx ((x44.1 - 1),j54.1,j54.2))) else some (.ex (x44.2.1,x44.2.2))
def f3o (t_:x8):Option (l9×x8) :=
 (F_1 t_ 1 3).bind fun y5=>(F_t y5.2 [1,1,3,2]).bind fun y6=>(F_0 y6.2 2).bind fun y7=>(f7k y5.1 y6.1 (decide (y7.1=1))).bind fun y8=>(F_0 y7.2 12).bind fun y31=>(loop g27 (y31.1,y8.1,y31.2)).bind fun r59=>some (r59.1,r59.2)
def g0r:List (Nat×RN):=[(1,⟨[],[.c 1 0 [1000] [],.k 3 2,.c 4 0 [1000] [],.c 6 0 [1000] []],[]⟩),(2,⟨[.gc [0,2,3]],[.c 1 0 [1000] []],[]⟩),(5,⟨[],[.c 3 0 [1000] []],[]⟩)]
@[irreducible] def d76:MC:=rdc (cK Tryz.prog Tryz.f34 g0r [] 10000004)
@[irreducible] def e4z:MC:=rdc (cK Tryz.prog Tryz.f34 g0r [(10000004,d76)] 3)
instance:LI d76 0 0 [0,2,3,5] [2] (fun y:l9×x8=>[]) (fun y=>[.o 3 (.cells [.bool y.1.Fence,.sl (y.1.Sets.map (V.int .i64)),.sl (y.1.Replicas.map p9.v),.sl (y.1.Snapshots.map (V.int .i64))]),.o 1000 (.cells [.sl (y.2.L.map (V.int .i64)),.int .i64 y.2.at_])]) []:=⟨⟩
instance:LI e4z 0 0 [0,2,3] [2] (fun y:Int×l9×x8=>[(5,.int .i64 y.1)]) (fun y=>[.o 3 (.cells [.bool y.2.1.Fence,.sl (y.2.1.Sets.map (V.int .i64)),.sl (y.2.1.Replicas.map p9.v),.sl (y.2.1.Snapshots.map (V.int .i64))]),.o 1000 (.cells [.sl (y.2.2.L.map (V.int .i64)),.int .i64 y.2.2.at_])]) []:=⟨⟩
instance h2t {t_:x8}:WI (f3o t_) Tryz.prog 34 [.ptr 1000 0] [(1000,.cells [.sl (t_.L.map (V.int .i64)),.int .i64 t_.at_])] (fun z=>l9.v z.1) (fun z=>[(1000,.cells [.sl (z.2.L.map (V.int .i64)),.int .i64 z.2.at_])]):=wX Tryz.func34 g0r [(10000004,d76),(3,e4z)] [.fzc 2] [1000] (h:=fun _ _ h hQ M=>by unfold f3o at h;exact tX)
def f2f (m_:x8):Option (a0x×x8) :=
 (f4i m_).bind fun y2=>(f4h y2.2 y2.1).bind fun y4=>(f4c y4.2).bind fun y6=>(e2c y6.2).bind fun y8=>(f2v y8.2 y8.1.Resources).bind fun y10=>(F_0 y10.2 5).bind fun y13=>(F_0 y13.2 4).bind fun y14=>chk (b0z y14.1 y14.1 72) ((F_0 y14.2 3).bind fun y16=>(f4f y16.2 3).bind fun y18=>(f2o y18.2 y18.1).bind fun y20=>(f3o y20.2).bind fun y22=>some ((a0x.mk y2.1 y4.1 y6.1 y8.1 y10.1 (a1v.mk 0 (IntKind.wrap .u64 y13.1) (List.replicate (y14.1).toNat (a9h.mk (b3p.mk 0 [] 0) [] 0 0))) y16.1 y18.1 y20.1 y22.1),y22.2))
instance g1h {m_:x8}:WI (f2f m_) Tryz.prog 8 [.ptr 1000 0] [(1000,.cells [.sl (m_.L.map (V.int .i64)),.int .i64 m_.at_])] (fun z=>a0x.v z.1) (fun z=>[(1000,.cells [.sl (z.2.L.map (V.int .i64)),.int .i64 z.2.at_])]):=wX Tryz.func8 [(2,⟨[],[.c 1 0 [1000] []],[]⟩),(3,⟨[],[.c 3 0 [1000] []],[]⟩),(4,⟨[.gc [0,2,3]],[.c 1 0 [1000] []],[]⟩),(5,⟨[],[.c 1 0 [1000] []],[]⟩),(6,⟨[],[.c 4 0 [1000] []],[]⟩),(7,⟨[.gc [0,2,3]],[.c 1 0 [1000] [],.c 4 0 [1000] []],[]⟩),(8,⟨[.gc [0,2,3]],[.c 1 0 [1000] []],[]⟩),(9,⟨[],[.c 1 0 [1000] []],[]⟩),(10,⟨[],[.c 3 0 [1000] []],[]⟩),(11,⟨[.gc [0,2,3]],[.c 1 0 [1000] []],[]⟩)] [] [.fzc 2] [1000] (h:=fun _ _ h hQ M=>by unfold f2f at h;exact tX)
def F_b (x_:Int) (jD:Int) (kC:Int):Option Bool := grp ((decide (jD≤x_)&&decide (x_≤kC))) fun b2=>some b2
instance h56 {x_ jD kC:Int}:WJ (F_b x_ jD kC) 129 [.int .i64 x_,.int .i64 jD,.int .i64 kC] .bool:=wX Tryz.func129 [(1,⟨[],[],[.v 4 7]⟩)] (h:=fun _ _ h hQ M=>by unfold F_b at h;exact tX)
@[go_sem] def f7r (x_:l7) (k104:Int) (a105:a03) (x103:Unit):Option (Fl Unit Bool) :=
 chk (a0p (x_.Credentials - 1)) ((F_b a105.Credential 0 (x_.Credentials - 1)).bind fun y127=>bif (!y127) then some (.ex false) else chk (a0p (x_.Resources - 1)) ((F_b a105.Resource 0 (x_.Resources - 1)).bind fun y128=>bif (!y128) then some (.ex false) else (F_b a105.Right 1 3).bind fun y129=>bif (!y129) then some (.ex false) else some (.nx ())))
@[go_sem] def f7m (x_:l7) (k182:Int) (a183:a08) (x181:Unit):Option (Fl Unit Bool) :=
 chk (a0p (x_.Resources - 1)) ((F_b a183.Resource 0 (x_.Resources - 1)).bind fun y198=>bif (!y198) then some (.ex false) else chk (a0p (x_.Credentials - 1)) ((F_b a183.Credential 0 (x_.Credentials - 1)).bind fun y199=>bif (!y199) then some (.ex false) else some (.nx ())))
@[go_sem] def f7f (x_:l7) (k252:Int) (a253:a0n) (x251:Unit):Option (Fl Unit Bool) :=
 chk (a0p (x_.Credentials - 1)) ((F_b a253.From 0 (x_.Credentials - 1)).bind fun y268=>bif (!y268) then some (.ex false) else chk (a0p (x_.Credentials - 1)) ((F_b a253.To 0 (x_.Credentials - 1)).bind fun y269=>bif (!y269) then some (.ex false) else some (.nx ())))
def F_g (x_:l7):Option Bool := jn (α:=Fl Unit Bool) ((F_b x_.Credentials 0 24).bind fun y26=>bif (!y26) then grp (true) fun b27=>grp ((b27||decide (100<(x_.Stores.length:Int)))) fun b28=>grp ((b28||decide (100<(x_.Mints.length:Int)))) fun b29=>bif b29 then some (.ex false) else some (.nx ()) else (F_b x_.Resources 0 24).bind fun y30=>grp (((!y30)||decide (100<(x_.Grants.length:Int)))) fun b31=>grp ((b31||decide (100<(x_.Stores.length:Int)))) fun b32=>grp ((b32||decide (100<(x_.Mints.length:Int)))) fun b33=>bif b33 then some (.ex false) else some (.nx ())) fun o=>o.elim (fun j17=>(a10 (f7r x_) x_.Grants 0 ()).bind fun o=>o.elim (fun x130=>(a10 (f7m x_) x_.Stores 0 ()).bind fun o=>o.elim (fun x200=>(a10 (f7f x_) x_.Mints 0 ()).bind fun o=>o.elim (fun x270=>some true) (fun r271=>some r271)) (fun r201=>some r201)) (fun r131=>some r131)) (fun r272=>some r272)
def a_g:List (Nat×RN):=[(1,⟨[],[],[.v 11 15,.v 17 21,.v 23 27]⟩)]
@[irreducible] def c6s:MC:=rdc (cK Tryz.prog Tryz.f74 a_g [] 4)
@[irreducible] def d1h:MC:=rdc (cK Tryz.prog Tryz.f74 a_g [(4,c6s)] 10)
@[irreducible] def d7z:MC:=rdc (cK Tryz.prog Tryz.f74 a_g [(4,c6s),(10,d1h)] 16)
@[irreducible] def e4g:MC:=rdc (cK Tryz.prog Tryz.f74 a_g [(4,c6s),(10,d1h),(16,d7z)] 10000003)
instance:LI c6s 40 39 [1,38,39] [1] (fun y:Unit=>[]) (fun y=>[]) []:=⟨⟩
instance:LI d1h 70 69 [1,68,69] [1] (fun y:Unit=>[]) (fun y=>[]) []:=⟨⟩
instance:LI d7z 94 93 [1,92,93] [1] (fun y:Unit=>[]) (fun y=>[]) []:=⟨⟩
instance:LI e4g 0 0 [1] [1] (fun y:Unit=>[]) (fun y=>[]) []:=⟨⟩
instance h51 {x_:l7}:WJ (F_g x_) 74 [l7.v x_] .bool:=wX Tryz.func74 a_g [(4,c6s),(10,d1h),(16,d7z),(10000003,e4g)] (h:=fun _ _ h hQ M=>by unfold F_g at h;exact tX)
@[go_sem] def g26 (jC:Int) (k20:Int) (a21:o7) (x19:List Int):Option (List Int) :=
 bif decide (a21.Fingerprint=jC) then chk (room (x19.length+[k20].length) 8) (some (x19++[k20])) else some x19
def f2n (r_:o6) (jC:Int):Option (List Int) :=
 (F_8 r_).bind fun y4=>bif (!y4) then some [] else (a0d (g26 jC) r_.Credentials 0 []).bind fun x22=>some x22
def g5e:List (Nat×RN):=[(3,⟨[],[.k 0 1],[]⟩),(8,⟨[.gc [1,5,6,12,13,14]],[],[]⟩)]
@[irreducible] def e4y:MC:=rdc (cK Tryz.prog Tryz.f25 g5e [] 5)
instance:LI e4y 14 13 [1,12,13] [] (fun y:List Int=>[(5,.osl 2005 1 0 y.length)]) (fun y=>[.o 2005 (.arr 1 (y.map (V.int .i64)))]) [.gc [1,5,12,13,14],.acc 5 2005 1]:=⟨⟩
instance h1j {r_:o6} {jC:Int}:WJ (f2n r_ jC) 25 [o6.v r_,.int .u64 jC] fun z=>.sl (z.map (V.int .i64)):=wX Tryz.func25 g5e [(5,e4y)] [.fz 4] (h:=fun _ _ h hQ M=>by unfold f2n at h;exact tX)
@[go_sem] def g25 (k31:Int) (a32:Int) (x30:Unit):Option (Fl Unit Bool) :=
 grp ((decide (a32<0)||decide (100<a32))) fun b40=>bif b40 then some (.ex false) else some (.nx ())
def e0i (x_:l7) (qB:List Int):Option Bool :=
 bif (!decide ((qB.length:Int)=x_.Resources)) then some false else (a10 g25 qB 0 ()).bind fun o=>o.elim (fun x41=>some true) (fun r42=>some r42)
def g69:List (Nat×RN):=[(3,⟨[.gc [1,21,22]],[],[]⟩),(6,⟨[],[],[.v 3 5]⟩)]
@[irreducible] def e4x:MC:=rdc (cK Tryz.prog Tryz.f75 g69 [] 4)
instance:LI e4x 14 13 [12,13] [] (fun y:Unit=>[]) (fun y=>[]) []:=⟨⟩
instance h3g {x_:l7} {qB:List Int}:WJ (e0i x_ qB) 75 [l7.v x_,.sl (qB.map (V.int .i64))] .bool:=wX Tryz.func75 g69 [(4,e4x)] (h:=fun _ _ h hQ M=>by unfold e0i at h;exact tX)
def g44 (k28:Int) (a29:Bool) (x27:List Int):Option (List Int) :=
 bif a29 then chk (room (x27.length+[k28].length) 8) (some (x27++[k28])) else some x27
def f4e (x_:l7) (c_:Int):Option (List Int) :=
 (F_g x_).bind fun y7=>bif (!y7) then some [] else chk (a0p (x_.Credentials - 1)) ((F_b c_ 0 (x_.Credentials - 1)).bind fun y8=>bif (!y8) then some [] else (b6t x_ c_).bind fun y21=>(a0d g44 y21 0 []).bind fun x30=>some x30)
def g6d:List (Nat×RN):=[(3,⟨[],[.k 0 1],[]⟩),(4,⟨[.gc [1,2,5]],[],[]⟩)]
@[irreducible] def d14:MC:=rdc (cK Tryz.prog Tryz.f153 g6d [] 5)
def e7k:MC:=rdc (cT Tryz.prog Tryz.f153 g6d [(5,d14)])
instance h3s {x_:l7} {c_:Int}:WI (f4e x_ c_) Tryz.prog 153 [l7.v x_,.int .i64 c_] [] (fun z=>.sl (z.map (V.int .i64))) (fun z=>[]):=⟨fun Q Q' h hQ=>by
 refine a3a e7k [.fz 4] [] [.t 4] Tryz.func153 fun M=>?_
 unfold f4e at h
 unfold e7k
 replace h:=tY h
 refine tB ?_
 repeat' (first
 | (exact tZ)
 | ((first|refine b8n h ?_|refine a6x h ?_|refine b8p h ?_|refine b8o h ?_|refine b8q h ?_|refine appG h ?_|refine b8r h ?_|refine fork h ?_ ?_|refine a6y h ?_ ?_)<;>clear h<;>intro hc h)
 | (obtain ⟨y,hy,h⟩:=h;(first|with_reducible first|have hw:=WI.w hy|have hw:=h4a hy);replace hw:=tY hw;(first|refine M.sC hw ?_|refine M.sD hw ?_);clear hw hy;refine tB ?_)
 | (refine M.fold1 (b:=d14) 23 [21,22] [] (fun x=>[(5,.osl 2005 1 0 x.length)]) (fun x=>[.o 2005 (.arr 1 (x.map (V.int .i64)))]) [.gc [5,21,22,23],.acc 5 2005 1] h ?_ ?_ ?_<;>first
 | (clear h;intro k a x Qn K hK1 hkN1 ha1 h hf;have hl:=a3h (a1d (n:=22) hf.1 rfl);clear hf;have hkd:=kD hkN1;have hkB1:=kB hkN1;have hkI1:=kI (k:=k) (by omega);unfold g44 at h;unfold d14;replace h:=tY h;refine tK ha1 hkd hkN1 hkB1 hkI1 ?_)
  |(clear h;intro x K h;replace h:=And.left (And.intro h trivial);unfold d14;replace h:=tY h;refine tB ?_)
  |(clear h;(try refine tB ?_);exact tU0;done))
 | (simp only [ha1])
 | (refine hK1 _ ?_;(try refine tB ?_);refine ⟨_,h,?_⟩;exact tU0;done)
 | (refine tE ?_;(first|rw [M.lok_compU]|rw [M.lokD_compU]);refine tB ?_)
 | (refine tA ?_)
 | fail)⟩
@[go_sem] def g1z (qE:List Int) (k44:Int) (a45:a03) (x43:List Int):Option (List Int) :=
 (d4w qE a45.Credential).bind fun y53=>bif y53 then chk (inb a45.Resource x43.length) (chk (inb a45.Resource x43.length) (some (x43.set ((a45.Resource).toNat) (max (x43.getD ((a45.Resource).toNat) default) a45.Right)))) else some x43
def f0x (x_:l7) (qE:List Int):Option (List Int) :=
 chk (b0z x_.Resources x_.Resources 8) ((a0d (g1z qE) x_.Grants 0 (List.replicate (x_.Resources).toNat 0)).bind fun x54=>some x54)
@[irreducible] def e4w:MC:=rdc (cK Tryz.prog Tryz.f152 [] [] 3)
instance:LI e4w 14 13 [1,12,13] [] (fun y:List Int=>[(5,.osl 10 1 0 y.length)]) (fun y=>[.o 10 (.arr 1 (y.map (V.int .i64)))]) []:=⟨⟩
instance g92 {x_:l7} {qE:List Int}:WJ (f0x x_ qE) 152 [l7.v x_,.sl (qE.map (V.int .i64))] fun z=>.sl (z.map (V.int .i64)):=wX Tryz.func152 [] [(3,e4w)] [.fz 4] (h:=fun _ _ h hQ M=>by unfold f0x at h;exact tX)
def e1e (x_:l7) (c_:Int):Option (List Int) :=
 (F_g x_).bind fun y7=>bif (!y7) then some [] else chk (a0p (x_.Credentials - 1)) ((F_b c_ 0 (x_.Credentials - 1)).bind fun y8=>bif (!y8) then some [] else (f4e x_ c_).bind fun y11=>(f0x x_ y11).bind fun y12=>some y12)
instance g9y {x_:l7} {c_:Int}:WJ (e1e x_ c_) 102 [l7.v x_,.int .i64 c_] fun z=>.sl (z.map (V.int .i64)):=wX Tryz.func102 [(3,⟨[.gc [1,2]],[],[]⟩)] [] [.fz 4] (h:=fun _ _ h hQ M=>by unfold e1e at h;exact tX)
@[go_sem] def g6u (qB:List Int) (k32:Int) (a33:Int) (x31:Int):Option Int :=
 chk (inb k32 qB.length) (chk (a0p ((qB.getD (k32).toNat default)*a33)) (chk (a0p (x31+((qB.getD (k32).toNat default)*a33))) (some (x31+((qB.getD (k32).toNat default)*a33)))))
def f2m (x_:l7) (qB:List Int) (c_:Int):Option (Int×Int) :=
 (F_g x_).bind fun y4=>bif (!y4) then some (0,32) else (e0i x_ qB).bind fun y8=>bif (!y8) then some (0,2) else grp ((decide (c_<0)||decide (x_.Credentials≤c_))) fun b12=>bif b12 then some (0,6) else (e1e x_ c_).bind fun y25=>(a0d (g6u qB) y25 0 0).bind fun x34=>some (x34,0)
def g5d:List (Nat×RN):=[(5,⟨[.gc [1,2,3,21,22,23,24]],[],[.v 3 7]⟩)]
@[irreducible] def e4r:MC:=rdc (cK Tryz.prog Tryz.f55 g5d [] 9)
instance:LI e4r 30 29 [1,28,29] [] (fun y:Int=>[(8,.int .i64 y)]) (fun y=>[]) []:=⟨⟩
instance h1i {x_:l7} {qB:List Int} {c_:Int}:WJ (f2m x_ qB c_) 55 [l7.v x_,.sl (qB.map (V.int .i64)),.int .i64 c_] fun z=>.tup [.int .i64 z.1,.int .i64 z.2]:=wX Tryz.func55 g5d [(9,e4r)] (h:=fun _ _ h hQ M=>by unfold f2m at h;exact tX)
def g6y (jF:Int) (k16:Int) (a17:Int) (x15:Int):Option Int :=
 bif decide (a17≤jF) then chk (a0p (x15+1)) (some (x15+1)) else some x15
def g3m (jF:Int):Option Int :=
 (a0d (g6y jF) [1,100,1000,10000] 0 0).bind fun x18=>some x18
@[irreducible] def d13:MC:=rdc (cK Tryz.prog Tryz.f56 [] [] 3)
def e6v:MC:=rdc (cT Tryz.prog Tryz.f56 [] [(3,d13)])
instance g9x {jF:Int}:WI (g3m jF) Tryz.prog 56 [.int .i64 jF] [] (fun z=>.int .i64 z) (fun z=>[]):=⟨fun Q Q' h hQ=>by
 refine a3a e6v [] [] [.t 2] Tryz.func56 fun M=>?_
 unfold g3m at h
 unfold e6v
 replace h:=tY h
 refine tB ?_
 repeat' (first
 | (exact tZ)
 | ((first|refine b8n h ?_|refine a6x h ?_|refine b8p h ?_|refine b8o h ?_|refine b8q h ?_|refine appG h ?_|refine b8r h ?_|refine fork h ?_ ?_|refine a6y h ?_ ?_)<;>clear h<;>intro hc h)
 | (refine M.fold1 (b:=d13) 7 [0,6] [] (fun x=>[(3,.int .i64 x)]) (fun x=>[]) [] h ?_ ?_ ?_<;>first
 | (clear h;intro k a x Qn K hK1 hkN1 ha1 h hf;skip;clear hf;have hkd:=kD hkN1;have hkB1:=kB hkN1;have hkI1:=kI (k:=k) (by (try simp only [List.length_cons,List.length_nil] at hkN1);omega);have hkd1:decide ((k:Int)<4)=true:=decide_eq_true (by simp only [List.length_cons,List.length_nil] at hkN1;omega);have hkr1:(0≤(k:Int)∧(k:Int)<4)=True:=eq_true (by simp only [List.length_cons,List.length_nil] at hkN1;omega);have hle1:(k*1≤3)=True:=eq_true (by simp only [List.length_cons,List.length_nil] at hkN1;omega);have hpt1:=c7z (f:=fun e:Int=>.int .i64 e) ha1 hkN1;(try simp only [go_sem,Nat.reduceBEq,Nat.reduceAdd,Nat.reduceLeDiff,Nat.reduceSub,Nat.reduceMul,Int.reduceToNat,Int.reduceLT,Int.reduceLE,List.flatMap_cons,List.flatMap_nil,List.map_cons,List.map_nil] at hpt1);unfold g6y at h;unfold d13;replace h:=tY h;refine tKA ha1 hkd hkN1 hkB1 hkI1 hkd1 hkr1 hle1 hpt1 ?_)
  |(clear h;intro x K h;replace h:=And.left (And.intro h trivial);unfold d13;replace h:=tY h;refine tB ?_)
  |(clear h;(try refine tB ?_);exact tU0;done))
 | (simp only [ha1])
 | (refine hK1 _ ?_;(try refine tB ?_);refine ⟨_,h,?_⟩;exact tU0;done)
 | (refine tE ?_;(first|rw [M.lok_compU]|rw [M.lokD_compU]);refine tB ?_)
 | (refine tA ?_)
 | fail)⟩
def f2l (x_:l7) (qB:List Int) (c_:Int) (qD:Int) (qG:Bool):Option (p8×Int) :=
 (f2m x_ qB c_).bind fun y2=>bif (!decide (y2.2=0)) then some ((p8.mk 0 0 0 0),y2.2) else grp ((decide (qD<0)||decide (24<qD))) fun b6=>bif b6 then some ((p8.mk 0 0 0 0),2) else chk (a0p (1+qD)) (jn (α:=p8) (bif qG then some (p8.mk 0 y2.1 100 0) else some (p8.mk 0 y2.1 (1+qD) 0)) fun j7=>chk (a0p (j7.Worth*j7.Audience)) ((g3m (j7.Worth*j7.Audience)).bind fun y9=>some ((p8.mk y9 j7.Worth j7.Audience (j7.Worth*j7.Audience)),0)))
def g5c:List (Nat×RN):=[(3,⟨[.gc [10,13]],[],[]⟩),(4,⟨[.gc [3,4,10,12,29,30]],[],[.v 3 5]⟩),(11,⟨[.gc [10,14]],[],[]⟩)]
@[irreducible] def e4f:MC:=rdc (cK Tryz.prog Tryz.f26 g5c [] 10000009)
instance:LI e4f 0 0 [10,14] [10] (fun y:p8=>[]) (fun y=>[.o 14 (.cells [.int .i64 y.Level,.int .i64 y.Worth,.int .i64 y.Audience,.int .i64 y.Score])]) []:=⟨⟩
instance h1h {x_:l7} {qB:List Int} {c_ qD:Int} {qG:Bool}:WJ (f2l x_ qB c_ qD qG) 26 [l7.v x_,.sl (qB.map (V.int .i64)),.int .i64 c_,.int .i64 qD,.bool qG] fun z=>.tup [p8.v z.1,.int .i64 z.2]:=wX Tryz.func26 g5c [(10000009,e4f)] (h:=fun _ _ h hQ M=>by unfold f2l at h;exact tX)
@[go_sem] def g6t (l_:List p8) (k18:Int) (a19:p8) (x17:Int):Option Int :=
 chk (inb x17 l_.length) (bif decide ((l_.getD (x17).toNat default).Score<a19.Score) then some k18 else some x17)
def f0w (l_:List p8):Option (Int×Bool) :=
 (a0d (g6t l_) l_ 0 0).bind fun x20=>some (x20,decide (0<(l_.length:Int)))
@[irreducible] def e4q:MC:=rdc (cK Tryz.prog Tryz.f76 [] [] 3)
instance:LI e4q 9 8 [0,7,8] [] (fun y:Int=>[(4,.int .i64 y)]) (fun y=>[]) []:=⟨⟩
instance g91 {l_:List p8}:WJ (f0w l_) 76 [.sl (l_.map p8.v)] fun z=>.tup [.int .i64 z.1,.bool z.2]:=wX Tryz.func76 [] [(3,e4q)] (h:=fun _ _ h hQ M=>by unfold f0w at h;exact tX)
end
end Go.Ab