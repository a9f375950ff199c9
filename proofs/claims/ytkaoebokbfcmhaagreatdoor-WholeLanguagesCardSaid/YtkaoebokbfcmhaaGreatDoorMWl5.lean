/-
  Texts that the proof leans on.
-/
import Derived.Test.YtkaoebokbfcmhaaGreatDoorMWl4
import Derived.LaidEql
import Derived.Stop.Asserts
import Derived.RowKitTokens
import Derived.Deep.LoopGhost
import Derived.Ground.NamesProg
import Derived.Shelf.Slices.Cells
import Derived.RangeFuncBox
import Derived.RangeFuncLeaves
import Derived.Shelf.Abstract
import Derived.OwnWalkIn
import Derived.TacticsInMore
import Derived.LoopNIn
import Derived.LoopIn
import Derived.Maps.AppendAt
import Derived.Ground.SlgmProg
import Derived.Shelf.SlGeneric
import Derived.Shelf.SortM.Plain
import Derived.Shelf.SortM.SortNone
import Derived.Lib.SlKeysI
import Derived.Deep.DeepCutAuto
import Derived.BigQuiet
import Derived.Deep.QuietTactic
namespace Go.Proofs.YtkaoebokbfcmhaaGreatDoor
open Go.RowKit
set_option maxRecDepth 100000
set_option maxHeartbeats 8000000
def AllPost (r:Nat→Addr) (B g K R n:Nat) (tv:Value) (stop:Bool) (w:World):WkR (List (List Int))→Ending→World→Prop
 | .on a ws x,e,w'=>e=.returned .nilIface∧Below B w w'∧∃ f' gb b sv svs wv wvs nv nvs,Rows B w' f'∧WalkAt B w' f' g gb b K R n tv stop a ws x sv svs wv wvs nv nvs
 | .orphan wd,e,w'=>∃ p,e=.returned (.iface 180 (.pointer (some p)))∧Below B w w'∧FoundAt B w' wd (.iface 180 (.pointer (some p)))
 | .big,e,w'=>∃ p,e=.returned (.iface 75 (.pointer (some p)))∧Below B w w'∧ErrIs r w' (fresh sBag 0 4) (.iface 75 (.pointer (some p)))
theorem wkGo_round {stop:Bool} {K n:Nat} {T:List Int} {i:Nat} {sets:List (List Bool)} {words next:List (List Int)} (hi:i<sets.length) (h4:sets.length≤4096):wkGo stop K n T (4097-i) i sets words next=match wkRow stop K n T i K 0 sets words [] with
 | .on a b row=>wkGo stop K n T (4097-(i+1)) (i+1) a b (next++[row])
 | .orphan w=>.orphan w
 | .big=>.big:=by
 obtain ⟨m,hm⟩:∃ m,4097-i=m+1:=⟨4096-i,by omega⟩
 have hm2:4097-(i+1)=m:=by omega
 rw [hm,hm2]
 conv=>lhs; unfold wkGo
 (rw [if_pos hi])<;>(cases wkRow stop K n T i K 0 sets words []<;>rfl)
theorem wkGo_end {stop:Bool} {K n:Nat} {T:List Int} {i:Nat} {sets:List (List Bool)} {words next:List (List Int)} (hi:¬ i<sets.length) (h4:i≤4096):wkGo stop K n T (4097-i) i sets words next=.on sets words next:=by
 obtain ⟨m,hm⟩:∃ m,4097-i=m+1:=⟨4096-i,by omega⟩
 rw [hm]
 unfold wkGo
 rw [if_neg hi]
theorem wkRow_round {stop:Bool} {K n:Nat} {T:List Int} {i t:Nat} {sets:List (List Bool)} {words:List (List Int)} {row:List Int} (ht:t<K):wkRow stop K n T i (K-t) t sets words row=match wkStep stop K n T i t sets words with
 | .on a b id=>wkRow stop K n T i (K-(t+1)) (t+1) a b (row++[id])
 | .orphan w=>.orphan w
 | .big=>.big:=by
 obtain ⟨m,hm⟩:∃ m,K-t=m+1:=⟨K-t-1,by omega⟩
 have hm2:K-(t+1)=m:=by omega
 rw [hm,hm2]
 (conv=>lhs; unfold wkRow)<;>(cases wkStep stop K n T i t sets words<;>rfl)
theorem row_set {l:List Int} {K t:Nat} {x:Int} (h:l.length=t) (ht:t<K):(l++List.replicate (K-t) 0).set t x=(l++[x])++List.replicate (K-(t+1)) 0:=by
 obtain ⟨m,hm⟩:∃ m,K-t=m+1:=⟨K-t-1,by omega⟩
 have hm2:K-(t+1)=m:=by omega
 rw [hm,hm2,List.set_append,if_neg (by omega),h,Nat.sub_self,List.replicate_succ]
 simp
theorem WalkAt.congr {B:Nat} {w:World} {f f':Names} {g gb b K R n:Nat} {tv:Value} {stop:Bool} {sets:List (List Bool)} {words next:List (List Int)} {sv:Value} {svs:List Value} {wv:Value} {wvs:List Value} {nv:Value} {nvs:List Value} (h:WalkAt B w f g gb b K R n tv stop sets words next sv svs wv wvs nv nvs) (e:∀ j:Nat×Nat,j.1≠35→f' j=f j) :
 WalkAt B w f' g gb b K R n tv stop sets words next sv svs wv wvs nv nvs :=
 ⟨(e _ (by decide)).trans h.box,h.bag.congr fun j hj=>e j (by omega),h.words.congr fun j hj=>e j (by omega),h.next.congr fun j hj=>e j (by omega)⟩
def AllIn (B:Nat) (w:World) (g gb b K R n:Nat) (tv:Value) (stop:Bool) (T:List Int) (RES:WkR (List (List Int))) (p:Nat) (wr:World):Prop :=
 ∃ sets words next sv svs wv wvs nv nvs f',wkGo stop K n T (4097-p) p sets words next=RES∧WkOk sets words∧p≤sets.length∧next.length=p∧Rows B wr f'∧WalkAt B wr f' g gb b K R n tv stop sets words next sv svs wv wvs nv nvs∧Below B w wr
def RowIn (B:Nat) (w:World) (g gb b K R n:Nat) (tv:Value) (stop:Bool) (T:List Int) (next:List (List Int)) (nv:Value) (nvs:List Value) (rv:Value) (RR:WkR (List Int)) (p t:Nat) (wr:World):Prop :=
 ∃ sets words row sv svs wv wvs f',wkRow stop K n T p (K-t) t sets words row=RR∧WkOk sets words∧p<sets.length∧row.length=t∧Rows B wr f'∧WalkAt B wr f' g gb b K R n tv stop sets words next sv svs wv wvs nv nvs∧f' (35,0)=some (rowI rv (row++List.replicate (K-t) 0))∧Below B w wr
theorem all_any (r:Nat→Addr) {f:Names} {g K R n:Nat} {va:Option Addr} {vn vc:Nat} {T:List Int} {stop:Bool} {w0 w:World} (hg:Glob r w0) (hT:IntsAt w0 (.slice va vn vc) T) (b0:Below w0.heap.size w0 w) (hR:Rows w0.heap.size w f)
 (hbox:f (30,0)=some (box7 178 g [.int .i64 K,.int .i64 R,.slice va vn vc,.pointer none,.slice none 0 0,.slice none 0 0,.bool stop])) (hok:RuleOk K R T) (hl:T.length≤256) (hn:T.length/K=n) (h1:1≤n) (hn4:n≤256) :
 Calls Tryz.prog 115 #[.pointer (some ⟨g,0,none⟩)] w (AllPost r w0.heap.size g K R n (.slice va vn vc) stop w (wkAll stop K n T)):=by
 have x0:w.cell? ⟨g,0,none⟩=some (.int .i64 K):=hR.cell hbox (g:=g) (cap:=1) rfl 0 (show 0<1*7 by decide)
 have x1:w.cell? ⟨g,1,none⟩=some (.int .i64 R):=hR.cell hbox (g:=g) (cap:=1) rfl 1 (show 1<1*7 by decide)
 have x2:w.cell? ⟨g,2,none⟩=some (.slice va vn vc):=hR.cell hbox (g:=g) (cap:=1) rfl 2 (show 2<1*7 by decide)
 obtain ⟨hgB,hgl⟩:w0.heap.size≤g∧g<w.heap.size:=hR.lt hbox g rfl
 have hk1:=hok.k1
 have hk4:=hok.k4
 have hnodes:=over_Nodes r K R va vn vc T w (hg.below b0) (hT.below b0) hok hl
 rw [hn] at hnodes
 obtain ⟨RES,hRES⟩:∃ X,wkAll stop K n T=X:=⟨_,rfl⟩
 rw [hRES]
 have hb0s:=b0.size
 replace hg:=Hd hg
 replace hT:=Hd hT
 replace hok:=Hd hok
 replace hn:=Hd hn
 replace hRES:=Hd hRES
 replace hR:=Hd hR
 replace hbox:=Hd hbox
 obtain ⟨B,hB⟩:∃ B,w0.heap.size=B:=⟨_,rfl⟩
 rw [hB] at hgB hb0s hR b0 ⊢
 replace hB:=Hd hB
 go_enter Tryz.func115,Tryz.ntmps115
 go_wp2_with fail
 refine hnodes.mono ?_
 rintro e w1 ⟨_,_,rfl,b1,rfl,rfl⟩
 have hR1:=hR.out.below b1
 have hs1:=b1.size
 have hnew:=bag_New B f n w1 hR1 (by omega) (by omega)
 clear hnodes
 go_wp2_with fail
 refine hnew.mono ?_
 rintro e w2 ⟨gb,rfl,b2,hgb,b,f2,hR2,hb2,o2⟩
 have e30:f2 (30,0)=some (box7 178 g [.int .i64 K,.int .i64 R,.slice va vn vc,.pointer none,.slice none 0 0,.slice none 0 0,.bool stop]):=(o2 _ (by decide) (by decide)).trans hbox.out
 have c3:w2.cell? ⟨g,3,none⟩=some (.pointer none):=hR2.cell e30 (g:=g) (cap:=1) rfl 3 (show 3<1*7 by decide)
 have z3:=hR2.frozen e30 (g:=g) (cap:=1) rfl 3
 have hR3:=hR2.set e30 (g:=g) (cap:=1) rfl 3 (.pointer (some ⟨gb,0,none⟩))
 have g3:w2.grownBy (w2.setCell ⟨g,3,none⟩ (.pointer (some ⟨gb,0,none⟩))) (some g):=(World.ownsRow.stored (hR2.1 _ _ e30) 3 (.pointer (some ⟨gb,0,none⟩))).2
 have hb3:=hb2.kept hR2 e30 ⟨by decide,by decide,by decide⟩ (fun j e=>upd_ne _ _ e) g3 (f':=upd f2 (30,0) (some (box7 178 g [.int .i64 K,.int .i64 R,.slice va vn vc,.pointer (some ⟨gb,0,none⟩),.slice none 0 0,.slice none 0 0,.bool stop]))) (by intro k e; injection e with e; rw [← e]; rfl)
 have b12:=Below.step b1 b2
 have b3:=(b12.mono (by omega:B≤w.heap.size)).setCell (show B≤(⟨g,3,none⟩:Addr).block from hgB) (.pointer (some ⟨gb,0,none⟩))
 obtain ⟨w3,hw3⟩:∃ W:World,w2.setCell ⟨g,3,none⟩ (.pointer (some ⟨gb,0,none⟩))=W:=⟨_,rfl⟩
 obtain ⟨f3,hf3⟩:∃ F,upd f2 (30,0) (some (box7 178 g [.int .i64 K,.int .i64 R,.slice va vn vc,.pointer (some ⟨gb,0,none⟩),.slice none 0 0,.slice none 0 0,.bool stop]))=F:=⟨_,rfl⟩
 replace hR3:Rows B (w2.setCell ⟨g,3,none⟩ (.pointer (some ⟨gb,0,none⟩))) (upd f2 (30,0) (some (box7 178 g [.int .i64 K,.int .i64 R,.slice va vn vc,.pointer (some ⟨gb,0,none⟩),.slice none 0 0,.slice none 0 0,.bool stop]))):=hR3
 have n30:f3 (30,0)=some (box7 178 g [.int .i64 K,.int .i64 R,.slice va vn vc,.pointer (some ⟨gb,0,none⟩),.slice none 0 0,.slice none 0 0,.bool stop]):=by rw [← hf3,upd_same]
 rw [hf3] at hR3 hb3
 rw [hw3] at hR3 hb3 b3
 have hs3:=b3.size
 replace n30:=Hd n30
 replace hR3:=Hd hR3
 replace hb3:=Hd hb3
 replace hf3:=Hd hf3
 clear hR2 hb2 o2 e30 g3 hR1 hnew b12
 replace hw3:=Hd hw3
 go_upto_region 5 with fail
 rw [hw3.out]
 clear hw3 c3 z3
 go_wp2_with (at_make; refine wpl_make rfl _ _ rfl _ rfl rfl (by omega) (by omega) ?_)
 intro ev w4 ho4 b4
 rw [← idN_zero] at ho4
 have l4:=ho4.at.len
 rw [idN_len] at l4
 obtain ⟨ea,en,ec,rfl⟩:=ho4.at.shape
 replace ho4:=Hd ho4
 go_wp2
 go_loopw [41] (fun iv wr=>∃ i:Nat,iv=.int .i64 i∧i≤n∧OwnI w3.heap.size wr (.slice ea en ec) (idN n i)∧Below w3.heap.size w3 wr) (fun iv _=>n-(intOf iv).toNat)
 case atStart=>exact ⟨0,rfl,Nat.zero_le _,ho4.out,b4⟩
 case round =>
  obtain ⟨i,rfl,hi,hO,hB4⟩:=hrel
  by_cases hin:i<n
  ·have di:decide ((i:Int)<(n:Int))=true:=decide_eq_true (by omega)
   have iX:=fun w'=>hO.at.idx i (by rw [idN_len]; exact hin) w'
   have cX:=hO.at.cellD i (by rw [idN_len]; exact hin)
   have fX:=hO.frz i (by rw [idN_len]; exact hin)
   have hO2:=hO.set i (by rw [idN_len]; exact hin) (i:Int)
   have hB5:=hO.setBelow hB4 i (by rw [idN_len]; exact hin) (.int .i64 i)
   rw [idN_set] at hO2
   obtain ⟨xa,hxa⟩:∃ xa,valAt (.slice ea en ec) i=xa:=⟨_,rfl⟩
   rw [hxa] at iX cX fX hO2 hB5
   replace hxa:=Hd hxa
   replace hO:=Hd hO
   replace hO2:=Hd hO2
   go_wp2
   go_roundw
   case measure=>simp [intOf]; omega
   case rel=>exact ⟨i+1,by go_num,by omega,hO2.out,hB5⟩
  ·obtain rfl:i=n:=by omega
   have di:decide ((i:Int)<(i:Int))=false:=decide_eq_false (by omega)
   obtain ⟨wl,rfl⟩:∃ wl:World,wl=wr:=⟨_,rfl⟩
   rw [idN_full] at hO
   have hRl:=hR3.out.below hB4
   have hbl:=hb3.out.below hB4
   have put:=bag_Put_new hRl hbl _ (List.range i) hO.at (fun x hx=>List.mem_range.1 hx) (by rw [List.length_range]; omega) (by simp) h1 (by omega) (by simp)
   rw [setOf_all] at put
   have y3:wl.cell? ⟨g,3,none⟩=some (.pointer (some ⟨gb,0,none⟩)):=hRl.cell n30.out (g:=g) (cap:=1) rfl 3 (show 3<1*7 by decide)
   replace hO:=Hd hO
   replace hRl:=Hd hRl
   replace hbl:=Hd hbl
   go_wp2_with fail
   refine put.mono ?_
   rintro e w5 ⟨u,rfl,b5,f5,sv5,hR5,hb5,o5⟩
   have m30:=(o5 (30,0) (by decide) (by decide) (by decide) (by decide)).trans n30.out
   have hs4:=hB4.size
   have hs5:=b5.size
   have bl:=belowAlloc w5 (.cells #[.slice none 0 0] 22)
   have hR6:=hR5.add (i:=(31,0)) (r':=rowV 22 (.slice (some ⟨w5.heap.size,0,none⟩) 1 1) [.slice none 0 0]) bl
    (by
      have:=World.ownsRow_lit (base:=B) (e:=22) (size:=1) w5 #[.slice none 0 0] 1 (by omega) (by decide) rfl
      unfold Row.own
      simpa using this) (fun k hk=>by cases hk; exact Nat.le_refl _)
   have hR7:=hR6.add (i:=(32,0)) (r':=rowI (.slice none 0 0) []) (Below.refl _ _) (OwnI.nil _ _) (fun k hk=>by cases hk)
   have hR8:=hR7.add (i:=(33,0)) (r':=rowV 22 (.slice none 0 0) []) (Below.refl _ _) (OwnV.nil _ _ _) (fun k hk=>by cases hk)
   obtain ⟨f8,hf8⟩:∃ F,upd (upd (upd f5 (31,0) (some (rowV 22 (.slice (some ⟨w5.heap.size,0,none⟩) 1 1) [.slice none 0 0]))) (32,0) (some (rowI (.slice none 0 0) []))) (33,0) (some (rowV 22 (.slice none 0 0) []))=F:=⟨_,rfl⟩
   have k30:f8 (30,0)=some (box7 178 g [.int .i64 K,.int .i64 R,.slice va vn vc,.pointer (some ⟨gb,0,none⟩),.slice none 0 0,.slice none 0 0,.bool stop]):=by rw [← hf8,upd_ne _ _ (by decide),upd_ne _ _ (by decide),upd_ne _ _ (by decide)]; exact m30
   have k31:f8 (31,0)=some (rowV 22 (.slice (some ⟨w5.heap.size,0,none⟩) 1 1) [.slice none 0 0]):=by rw [← hf8,upd_ne _ _ (by decide),upd_ne _ _ (by decide),upd_same]
   have k32:f8 (32,0)=some (rowI (.slice none 0 0) []):=by rw [← hf8,upd_ne _ _ (by decide),upd_same]
   have k33:f8 (33,0)=some (rowV 22 (.slice none 0 0) []):=by rw [← hf8,upd_same]
   have hb8:BagAt B (w5.alloc (.cells #[.slice none 0 0] 22)) f8 gb b i [List.replicate i true] sv5 [u]:=(hb5.below bl).congr (fun j hj=>by
    have:j.1≠31∧j.1≠32∧j.1≠33:=by rcases hj with q | q | q<;>rw [q]<;>decide
    rw [← hf8,upd_ne _ _ (by intro e; exact this.2.2 (by rw [e])),upd_ne _ _ (by intro e; exact this.2.1 (by rw [e])),upd_ne _ _ (by intro e; exact this.1 (by rw [e]))])
   rw [hf8] at hR8
   have c5:(w5.alloc (.cells #[.slice none 0 0] 22)).cell? ⟨g,5,none⟩=some (.slice none 0 0):=hR8.cell k30 (g:=g) (cap:=1) rfl 5 (show 5<1*7 by decide)
   have z5:=hR8.frozen k30 (g:=g) (cap:=1) rfl 5
   have hR9:=hR8.set k30 (g:=g) (cap:=1) rfl 5 (.slice (some ⟨w5.heap.size,0,none⟩) 1 1)
   have g9:(w5.alloc (.cells #[.slice none 0 0] 22)).grownBy ((w5.alloc (.cells #[.slice none 0 0] 22)).setCell ⟨g,5,none⟩ (.slice (some ⟨w5.heap.size,0,none⟩) 1 1)) (some g):=(World.ownsRow.stored (hR8.1 _ _ k30) 5 (.slice (some ⟨w5.heap.size,0,none⟩) 1 1)).2
   obtain ⟨f9,hf9⟩:∃ F,upd f8 (30,0) (some (box7 178 g [.int .i64 K,.int .i64 R,.slice va vn vc,.pointer (some ⟨gb,0,none⟩),.slice none 0 0,.slice (some ⟨w5.heap.size,0,none⟩) 1 1,.bool stop]))=F:=⟨_,rfl⟩
   replace hR9:Rows B ((w5.alloc (.cells #[.slice none 0 0] 22)).setCell ⟨g,5,none⟩ (.slice (some ⟨w5.heap.size,0,none⟩) 1 1)) (upd f8 (30,0) (some (box7 178 g [.int .i64 K,.int .i64 R,.slice va vn vc,.pointer (some ⟨gb,0,none⟩),.slice none 0 0,.slice (some ⟨w5.heap.size,0,none⟩) 1 1,.bool stop]))):=hR9
   have hb9:=hb8.kept hR8 k30 ⟨by decide,by decide,by decide⟩ (fun j e=>by rw [← hf9]; exact upd_ne _ _ e) g9 (f':=f9) (by intro k e; injection e with e; rw [← e]; rfl)
   rw [hf9] at hR9
   have b9:=(((b3.trans (hB4.mono (by omega:B≤w3.heap.size))).trans b5).trans (bl.mono (by omega:B≤w5.heap.size))).setCell (show B≤(⟨g,5,none⟩:Addr).block from hgB) (.slice (some ⟨w5.heap.size,0,none⟩) 1 1)
   have hW9:WalkAt B ((w5.alloc (.cells #[.slice none 0 0] 22)).setCell ⟨g,5,none⟩ (.slice (some ⟨w5.heap.size,0,none⟩) 1 1)) f9 g gb b K R i (.slice va vn vc) stop [List.replicate i true] [[]] [] sv5 [u] (.slice (some ⟨w5.heap.size,0,none⟩) 1 1) [.slice none 0 0] (.slice none 0 0) []:=by
    refine ⟨by rw [← hf9,upd_same],hb9,⟨by rw [← hf9,upd_ne _ _ (by decide)]; exact k31,rfl,fun j hj=>?_⟩,⟨by rw [← hf9,upd_ne _ _ (by decide)]; exact k33,rfl,fun j hj=>absurd hj (Nat.not_lt_zero _)⟩⟩
    obtain rfl:j=0:=by simpa using hj
    rw [← hf9,upd_ne _ _ (by decide)]; exact k32
   obtain ⟨w9,hw9⟩:∃ W:World,(w5.alloc (.cells #[.slice none 0 0] 22)).setCell ⟨g,5,none⟩ (.slice (some ⟨w5.heap.size,0,none⟩) 1 1)=W:=⟨_,rfl⟩
   rw [hw9] at hR9 hW9 b9
   obtain ⟨qb,hqb⟩:∃ q,w5.heap.size=q:=⟨_,rfl⟩
   rw [hqb] at hW9
   replace hW9:=Hd hW9
   replace hR9:=Hd hR9
   replace hw9:=Hd hw9
   replace hqb:=Hd hqb
   clear hb9 g9 hR8 hb8 k30 k31 k32 k33 hf8 hf9 hR7 hR6 m30 hR5 hb5 o5 put bl b5 hRl hbl hO ho4 hB4 b4 b3 hR3 hb3 n30 y3
   go_upto_region 17 with fail
   rw [hw9.out]
   clear hw9 c5 z5
   have hs9:=b9.size
   have hgo0:wkGo stop K i T (4097-0) 0 [List.replicate i true] [[]] []=RES:=hRES.out
   replace hgo0:=Hd hgo0
   go_wp2
   go_loopw [10] (fun iv wr=>∃ p:Nat,iv=.int .i64 p∧AllIn B w g gb b K R i (.slice va vn vc) stop T RES p wr) (fun iv _=>4097-(intOf iv).toNat)
   case atStart=>exact ⟨0,rfl,_,_,_,_,_,_,_,_,_,_,hgo0.out,WkOk.init i,by simp,rfl,hR9.out,hW9.out,b9⟩
   case round =>
    obtain ⟨p,rfl,sets,words,next,sv,svs,wv,wvs,nv,nvs,f',hgo,hwk,hp,hnl,hR',hW',hB'⟩:=hrel
    obtain ⟨wo,rfl⟩:∃ wo:World,wo=wr:=⟨_,rfl⟩
    have y0:wo.cell? ⟨g,0,none⟩=some (.int .i64 K):=hW'.cell hR' 0 (by decide)
    have y3:wo.cell? ⟨g,3,none⟩=some (.pointer (some ⟨gb,0,none⟩)):=hW'.cell hR' 3 (by decide)
    obtain ⟨q0,q1,q2⟩:=hW'.bag.cells hR'
    have len:=bag_Len gb sv svs wo q1 (hW'.bag.outer hR')
    rw [hW'.bag.len] at len
    have hsm:=hwk.small
    have hso:=hB'.size
    clear q0 q1 q2
    by_cases hps:p<sets.length
    ·have dp:decide ((p:Int)<(sets.length:Int))=true:=decide_eq_true (by omega)
     rw [wkGo_round hps hsm] at hgo
     obtain ⟨RR,hRR⟩:∃ X,wkRow stop K i T p K 0 sets words []=X:=⟨_,rfl⟩
     rw [hRR] at hgo
     replace hRR:=Hd hRR
     replace hgo:=Hd hgo
     replace hR':=Hd hR'
     replace hW':=Hd hW'
     replace hwk:=Hd hwk
     replace hnl:=Hd hnl
     go_wp2_with fail
     refine len.mono ?_
     rintro e w' ⟨rfl,rfl⟩
     go_wp2_with (at_make; refine wpl_make rfl _ _ rfl _ rfl rfl (by omega) (by omega) ?_)
     intro rv w10 ho10 b10
     have hR10:=hR'.out.add (i:=(35,0)) (r':=rowI rv (List.replicate K 0)) b10 (ho10.mono (by omega:B≤wo.heap.size)) (fun k hk=>(ho10.lt k hk).1)
     have hW10:=(hW'.out.below b10).congr (f':=upd f' (35,0) (some (rowI rv (List.replicate K 0)))) (fun j hj=>upd_ne _ _ (by intro e; exact hj (by rw [e])))
     have l10:=ho10.at.len
     rw [List.length_replicate] at l10
     obtain ⟨ra,rn,rc,rfl⟩:=ho10.at.shape
     have bw10:=hB'.trans (b10.mono (by omega:B≤wo.heap.size))
     have hs10:=bw10.size
     replace ho10:=Hd ho10
     replace hR10:=Hd hR10
     replace hW10:=Hd hW10
     go_wp2
     go_loopw [83] (fun tv wr=>∃ t:Nat,tv=.int .i64 t∧t≤K∧RowIn B w g gb b K R i (.slice va vn vc) stop T next nv nvs (.slice ra rn rc) RR p t wr) (fun tv _=>K-(intOf tv).toNat)
     case atStart=>exact ⟨0,rfl,Nat.zero_le _,_,_,_,_,_,_,_,_,hRR.out,hwk.out,hps,rfl,hR10.out,hW10.out,upd_same _ _ _,bw10⟩
     case round =>
      obtain ⟨t,rfl,ht,sets',words',row,sv',svs',wv',wvs',f2,hrow,hwk2,hps2,hrl,hR2,hW2,n35,hB2⟩:=hrel
      obtain ⟨wi,rfl⟩:∃ wi:World,wi=wr:=⟨_,rfl⟩
      by_cases htK:t<K
      ·have dt:decide ((t:Int)<(K:Int))=true:=decide_eq_true (by omega)
       have b0i:Below w0.heap.size w0 wi:=by rw [hB.out]; exact b0.trans hB2
       have hst:=step_any r (hg.out.below b0i) hR2 hW2 (hT.out.below b0i) hok.out hl hn.out h1 hn4 p t hps2 hwk2
       rw [wkRow_round htK] at hrow
       have hrs:=row_set (x:=0) hrl htK
       cases hs:wkStep stop K i T p t sets' words' with
       | on a ws id =>
        rw [hs] at hst hrow
        obtain ⟨hwk3,hle3⟩:=wkStep_ok hwk2 hps2 hs
        replace hrow:=Hd hrow
        replace hs:=Hd hs
        replace hwk2:=Hd hwk2
        replace hwk3:=Hd hwk3
        replace hrl:=Hd hrl
        replace hR2:=Hd hR2
        replace hW2:=Hd hW2
        replace n35:=Hd n35
        clear hrs
        go_wp2_with fail
        refine hst.mono ?_
        rintro e w11 ⟨rfl,b11,f3,sv3,svs3,wv3,wvs3,hR3,hW3,o3⟩
        have m35:=(o3 (35,0) ⟨by decide,by decide,by decide,by decide,by decide,by decide,by decide⟩).trans n35.out
        have hown:=hR3.ownI m35
        have hlt:t<(row++List.replicate (K-t) (0:Int)).length:=by rw [List.length_append,hrl.out,List.length_replicate]; omega
        have iX:=fun w'=>hown.at.idx t hlt w'
        have cX:=hown.at.cellD t hlt
        have fX:=hown.frz t hlt
        have hR4:=hR3.setI m35 t hlt id
        have g4:wi.heap.size=wi.heap.size:=rfl
        have gr4:=(hown.toV.setGrown t (by simpa using hlt) (.int .i64 id))
        have hW4:=hW3.kept hR3 m35 rfl (fun j e=>upd_ne _ _ e) gr4 (f':=upd f3 (35,0) (some (rowI (.slice ra rn rc) ((row++List.replicate (K-t) (0:Int)).set t id)))) (fun k e=>e)
        have bb4:=hown.setBelow (b11) t hlt (.int .i64 id)
        rw [row_set hrl.out htK] at hR4 hW4
        obtain ⟨xa,hxa⟩:∃ xa,valAt (.slice ra rn rc) t=xa:=⟨_,rfl⟩
        rw [hxa] at iX cX fX hR4 hW4 bb4
        have bfin:=hB2.trans bb4
        replace hxa:=Hd hxa
        replace hR4:=Hd hR4
        replace hW4:=Hd hW4
        clear hown hlt g4 gr4 m35 hR3 hW3 o3 bb4
        go_wp2
        go_roundw
        case measure=>simp [intOf]; omega
        case rel=>exact ⟨t+1,by go_num,by omega,a,ws,row++[id],_,_,_,_,_,hrow.out,hwk3.out,by omega,by rw [List.length_append,hrl.out]; rfl,hR4.out,hW4.out,upd_same _ _ _,bfin⟩
       | orphan wd =>
        rw [hs] at hst hrow
        have hres:=hgo.out
        rw [← hrow] at hres
        replace hres:WkR.orphan wd=RES:=hres
        clear hs hrow
        replace hres:=Hd hres
        replace hwk2:=Hd hwk2
        replace hrl:=Hd hrl
        replace hR2:=Hd hR2
        replace hW2:=Hd hW2
        replace n35:=Hd n35
        clear hrs
        go_wp2_with fail
        refine hst.mono ?_
        rintro e w11 ⟨pe,rfl,b11,hfd⟩
        have hR3:=hR2.out.below b11
        have hown:=hR3.ownI n35.out
        have hown0:=hR2.out.ownI n35.out
        have hlt:t<(row++List.replicate (K-t) (0:Int)).length:=by rw [List.length_append,hrl.out,List.length_replicate]; omega
        have iX:=fun w'=>hown.at.idx t hlt w'
        have cX:=hown.at.cellD t hlt
        have fX:=hown.frz t hlt
        have bb4:=hown.setBelow (b11.mono (by have:=hB2.size; omega:B≤wi.heap.size)) t hlt (.int .i64 0)
        obtain ⟨pp,fa,fn,fc,e1,f2',f3',f4'⟩:=hfd
        injection e1 with _ e1
        injection e1 with e1
        injection e1 with e1
        subst e1
        have hne:(Value.slice fa fn fc).ownBlock≠(Value.slice ra rn rc).ownBlock:=fun e=>by
         cases hk:(Value.slice ra rn rc).ownBlock with
         | none =>
          have:=hown0.blkB t hlt
          have h0:=hown0.toV.blkB t (by simpa using hlt)
          rw [hk] at h0; cases h0.1
         | some k =>
          have a1:=(hown0.lt k hk).2
          have a2:=(f3'.lt k (by rw [e]; exact hk)).1
          omega
        have hf5:=f3'.setOther hown hne t hlt (.int .i64 0)
        have hx0:(valAt (.slice ra rn rc) t).block<wi.heap.size:=World.block_lt_of_cell? _ _ (hown0.at.cellD t hlt)
        have hf6:(w11.setCell (valAt (.slice ra rn rc) t) (.int .i64 0)).cell? ⟨pp,0,none⟩=some (.slice fa fn fc):=by rw [World.cell?_setCell_other _ _ _ _ (fun e=>by rw [e] at hx0; exact absurd f4' (Nat.not_le_of_lt hx0))]; exact f2'
        have hfin:AllPost r B g K R i (.slice va vn vc) stop w RES (.returned (.iface 180 (.pointer (some ⟨pp,0,none⟩)))) (w11.setCell (valAt (.slice ra rn rc) t) (.int .i64 0)):=by
         rw [← hres.out]
         exact ⟨_,rfl,hB2.trans bb4,pp,fa,fn,fc,rfl,hf6,hf5.mono (by have:=hB2.size; omega),by have:=hB2.size; omega⟩
        obtain ⟨xa,hxa⟩:∃ xa,valAt (.slice ra rn rc) t=xa:=⟨_,rfl⟩
        rw [hxa] at iX cX fX hfin
        replace hxa:=Hd hxa
        replace hfin:=Hd hfin
        clear hown hown0 hR3 bb4 hf5 hf6 hne f3' f2' hx0 hlt
        go_wp2
        go_ret
        exact hfin.out
       | big =>
        rw [hs] at hst hrow
        have hres:=hgo.out
        rw [← hrow] at hres
        replace hres:WkR.big=RES:=hres
        clear hs hrow
        replace hres:=Hd hres
        replace hwk2:=Hd hwk2
        replace hrl:=Hd hrl
        replace hR2:=Hd hR2
        replace hW2:=Hd hW2
        replace n35:=Hd n35
        clear hrs
        go_wp2_with fail
        refine hst.mono ?_
        rintro e w11 ⟨pe,rfl,b11,hfd⟩
        have hR3:=hR2.out.below b11
        have hown:=hR3.ownI n35.out
        have hlt:t<(row++List.replicate (K-t) (0:Int)).length:=by rw [List.length_append,hrl.out,List.length_replicate]; omega
        have iX:=fun w'=>hown.at.idx t hlt w'
        have cX:=hown.at.cellD t hlt
        have fX:=hown.frz t hlt
        have c0:=hown.at.cellD 0 (by omega)
        have bb4:=hown.setBelow (b11.mono (by have:=hB2.size; omega:B≤wi.heap.size)) t hlt (.int .i64 0)
        obtain ⟨gr,cap,hrv,-⟩:=Row.own.shape (hR3.1 _ _ n35.out) (show 0<(row++List.replicate (K-t) (0:Int)).length by omega)
        replace hrv:Value.slice ra rn rc=.slice (some ⟨gr,0,none⟩) (row++List.replicate (K-t) (0:Int)).length cap:=hrv
        have hx:valAt (.slice ra rn rc) t=⟨gr,t,none⟩:=by rw [hrv,valAt_row]
        have hx0:valAt (.slice ra rn rc) 0=⟨gr,0,none⟩:=by rw [hrv,valAt_row]
        rw [hx0] at c0
        have hfd2:=hfd.set (b:=gr) (i:=t) (fun s e=>by rw [c0] at e; cases e) (.int .i64 0)
        have hfin:AllPost r B g K R i (.slice va vn vc) stop w RES (.returned (.iface 75 (.pointer (some pe)))) (w11.setCell (valAt (.slice ra rn rc) t) (.int .i64 0)):=by
         rw [← hres.out]
         exact ⟨_,rfl,hB2.trans bb4,by rw [hx]; exact hfd2⟩
        obtain ⟨xa,hxa⟩:∃ xa,valAt (.slice ra rn rc) t=xa:=⟨_,rfl⟩
        rw [hxa] at iX cX fX hfin
        replace hxa:=Hd hxa
        replace hfin:=Hd hfin
        clear hown hR3 bb4 hfd hfd2 hx hx0 hrv c0 hlt
        go_wp2
        go_ret
        exact hfin.out
      ·obtain rfl:t=K:=by omega
       have dt:decide ((t:Int)<(t:Int))=false:=decide_eq_false (by omega)
       have hRRe:RR=.on sets' words' row:=by
        rw [← hrow,Nat.sub_self]; rfl
       rw [Nat.sub_self,List.replicate_zero,List.append_nil] at n35
       have hgo2:=hgo.out
       rw [hRRe] at hgo2
       replace hgo2:wkGo stop t i T (4097-(p+1)) (p+1) sets' words' (next++[row])=RES:=hgo2
       have e30:=hW2.box
       have c4:wi.cell? ⟨g,4,none⟩=some nv:=hR2.cell e30 (g:=g) (cap:=1) rfl 4 (show 4<1*7 by decide)
       obtain ⟨na,nn,nc,rfl⟩:=(hR2.ownV hW2.next.out).shape
       have hnl2:nvs.length<4398046511104:=by rw [hW2.next.len,hnl.out]; omega
       have hs12:=hB2.size
       clear hRRe hrow
       replace hgo2:=Hd hgo2
       replace hrl:=Hd hrl
       replace hwk2:=Hd hwk2
       replace hR2:=Hd hR2
       replace hW2:=Hd hW2
       replace n35:=Hd n35
       replace e30:=Hd e30
       go_wp2_with (at_builtin; go_loud (refine wpl_appR oneLists rfl _ _ rfl hR2.out (33,0) (.slice na nn nc) nvs hW2.out.next.out (.slice ra rn rc) rfl rfl rfl hnl2 (by omega) ?_))
       intro v5 w5' f5' R5 i5 o5 B5 hgr
       obtain ⟨row5,g5,hrow5⟩:=hgr
       obtain ⟨pa,pn,pc,rfl⟩:=(R5.ownV i5).shape
       have d30:=(o5 _ (by decide)).trans e30.out
       have d35:=(o5 _ (by decide)).trans n35.out
       have z4:=R5.cell d30 (g:=g) (cap:=1) rfl 4 (show 4<1*7 by decide)
       replace z4:w5'.cell? ⟨g,4,none⟩=some (.slice na nn nc):=z4
       have fz4:=R5.frozen d30 (g:=g) (cap:=1) rfl 4
       have R6:=R5.set d30 (g:=g) (cap:=1) rfl 4 (.slice pa pn pc)
       obtain ⟨F6,hF6⟩:∃ F,upd f5' (30,0) (some (box7 178 g [.int .i64 t,.int .i64 R,.slice va vn vc,.pointer (some ⟨gb,0,none⟩),.slice pa pn pc,wv',.bool stop]))=F:=⟨_,rfl⟩
       replace R6:Rows B (w5'.setCell ⟨g,4,none⟩ (.slice pa pn pc)) (upd f5' (30,0) (some (box7 178 g [.int .i64 t,.int .i64 R,.slice va vn vc,.pointer (some ⟨gb,0,none⟩),.slice pa pn pc,wv',.bool stop]))):=R6
       have g6:w5'.grownBy (w5'.setCell ⟨g,4,none⟩ (.slice pa pn pc)) (some g):=(World.ownsRow.stored (R5.1 _ _ d30) 4 (.slice pa pn pc)).2
       have hbag5:=hW2.out.bag.kept hR2.out hW2.out.next.out ⟨by decide,by decide,by decide⟩ o5 g5 hrow5
       have hbag6:=hbag5.kept R5 d30 ⟨by decide,by decide,by decide⟩ (f':=F6) (fun j e=>by rw [← hF6]; exact upd_ne _ _ e) g6 (by intro k e; injection e with e; rw [← e]; rfl)
       rw [hF6] at R6
       have m35:F6 (35,0)=some (rowI (.slice ra rn rc) row):=by rw [← hF6,upd_ne _ _ (by decide)]; exact d35
       have R7:=R6.move (j:=(34,next.length)) m35 (R6.1 _ _ m35) rfl
       have o7:∀ j:Nat×Nat,j≠(34,next.length)→j.1≠35→upd (upd F6 (35,0) none) (34,next.length) (some (rowI (.slice ra rn rc) row)) j=F6 j:=fun j a1 a2=>by rw [upd_ne _ _ a1,upd_ne _ _ (by intro e; exact a2 (by rw [e]))]
       have oF:∀ j:Nat×Nat,j≠(30,0)→j≠(33,0)→F6 j=f2 j:=fun j a1 a2=>by rw [← hF6,upd_ne _ _ a1]; exact o5 j a2
       have n34:∀ j:Nat×Nat,j.1≠34→j≠(34,next.length):=fun j a e=>a (by rw [e])
       have W7:WalkAt B (w5'.setCell ⟨g,4,none⟩ (.slice pa pn pc)) (upd (upd F6 (35,0) none) (34,next.length) (some (rowI (.slice ra rn rc) row))) g gb b t R i (.slice va vn vc) stop sets' words' (next++[row]) sv' svs' wv' wvs' (.slice pa pn pc) (nvs++[.slice ra rn rc]):=by
        refine ⟨?_,hbag6.congr fun j hj=>o7 j (n34 j (by omega)) (by omega),hW2.out.words.congr fun j hj=>?_,hW2.out.next.more ?_ (upd_same _ _ _) fun q hq=>?_⟩
        ·rw [o7 _ (by intro e; cases e) (by decide),← hF6,upd_same]
        ·rw [o7 j (n34 j (by omega)) (by omega),oF j (by intro e; subst e; omega) (by intro e; subst e; omega)]
        ·rw [o7 _ (by intro e; cases e) (by decide),← hF6,upd_ne _ _ (by decide)]; exact i5
        ·rw [o7 _ (by intro e; injection e with _ e; omega) (by show (34:Nat)≠35; decide),oF _ (by intro e; cases e) (by intro e; cases e)]
       have bfin:=hB2.trans (B5.setCell (show B≤(⟨g,4,none⟩:Addr).block from hgB) (.slice pa pn pc))
       have hfin:AllIn B w g gb b t R i (.slice va vn vc) stop T RES (p+1) (w5'.setCell ⟨g,4,none⟩ (.slice pa pn pc)):=⟨sets',words',next++[row],_,_,_,_,_,_,_,hgo2.out,hwk2.out,by omega,by rw [List.length_append,hnl.out]; rfl,R7,W7,bfin⟩
       replace hfin:=Hd hfin
       clear W7 n34 oF o7 R7 m35 hbag6 hbag5 g6 R6 hF6 d35 d30 i5 o5 B5 R5 g5 hrow5
       go_wp2
       go_roundw
       case measure=>simp [intOf]; omega
       case rel=>exact ⟨p+1,by go_num,hfin.out⟩
    ·have dp:decide ((p:Int)<(sets.length:Int))=false:=decide_eq_false (by omega)
     rw [wkGo_end hps (by omega)] at hgo
     have hfin:AllPost r B g K R i (.slice va vn vc) stop w RES (.returned .nilIface) wo:=by
      rw [← hgo]
      exact ⟨rfl,hB',_,_,_,_,_,_,_,_,_,hR',hW'⟩
     replace hfin:=Hd hfin
     replace hR':=Hd hR'
     replace hW':=Hd hW'
     replace hwk:=Hd hwk
     replace hnl:=Hd hnl
     clear hgo
     go_wp2_with fail
     refine len.mono ?_
     rintro e w' ⟨rfl,rfl⟩
     go_wp2
     go_ret
     exact hfin.out
end Go.Proofs.YtkaoebokbfcmhaaGreatDoor
namespace Go.Proofs.YtkaoebokbfcmhaaGreatDoor
open Go.RowKit Go.Extern.Stop Go.Stop Go.Extern
set_option maxRecDepth 100000
set_option maxHeartbeats 8000000
namespace Fnd
open Errs (methodKind methodElem methodImplements methodAssignableTo rlm rls)
theorem uF:Tryz.prog.underlying 180=some (.pointer 183):=by kernel_rfl
theorem valueOfFF (t:Addr) (w:World):(ReflectliteValue.unpack (.iface 181 (.pointer (some t)))).run Tryz.prog w
 = .ok (.agg #[.pointer (some ⟨13,181,none⟩),.pointer (some ⟨w.heap.size,0,none⟩),.int .u64 150]) (w.alloc (.cells #[.pointer (some t)] 181)):=by kernel_rfl
theorem typeFF (a : Addr) (w : World) : (ReflectliteValue.methodAny (ReflectliteValue.valueError "reflectlite.Value.Type" 0) (fun t _ _ _ => ReflectliteType.toType t) #[.agg #[.pointer (some ⟨13, 181, none⟩), .pointer (some a), .int .u64 150]]).run Tryz.prog w
 = .ok (.iface 192 (.agg #[.pointer (some ⟨13,181,none⟩)])) w:=by kernel_rfl
theorem kindFF (w:World):((ReflectliteType.abiMethod fun t=>(fun a:Nat=>Value.int IntKind.u8 (a:Int)) <$> Rtype.kind t) #[.pointer (some ⟨13,181,none⟩)]).run Tryz.prog w=.ok (.int .u8 22) w:=by kernel_rfl
theorem kindF (w:World):((ReflectliteType.abiMethod fun t=>(fun a:Nat=>Value.int IntKind.u8 (a:Int)) <$> Rtype.kind t) #[.pointer (some ⟨13,180,none⟩)]).run Tryz.prog w=.ok (.int .u8 22) w:=by kernel_rfl
theorem partsFF (a:Addr) (w:World):(ReflectliteValue.parts (.agg #[.pointer (some ⟨13,181,none⟩),.pointer (some a),.int .u64 150])).run Tryz.prog w=.ok (some (181,a,150)) w:=by kernel_rfl
theorem isNilFF (a p:Addr) (W:World) (ha:W.cell? a=some (.pointer (some p))) :
 (ReflectliteValue.method (ReflectliteValue.valueError "reflectlite.Value.IsNil" 0) ReflectliteValue.isNil #[.agg #[.pointer (some ⟨13, 181, none⟩), .pointer (some a), .int .u64 150]]).run Tryz.prog W = .ok (.bool false) W := by
 rw [rlm]
 simp only [Sem.run_bind,partsFF,Result.andThen]
 simp [ReflectliteValue.isNil,loadVar,isAgg,underlying,ha,Result.andThen]
theorem elemFF (w:World):(ReflectliteType.method ReflectliteType.elem #[.agg #[.pointer (some ⟨13,181,none⟩)]]).run Tryz.prog w=.ok (.iface 192 (.agg #[.pointer (some ⟨13,180,none⟩)])) w:=by kernel_rfl
theorem implementsF (w : World) : (ReflectliteType.relation "Implements" ReflectliteType.implements_ #[.agg #[.pointer (some ⟨13, 180, none⟩)], .iface 192 (.agg #[.pointer (some ⟨13, 27, none⟩)])]).run Tryz.prog w = .ok (.bool true) w := by kernel_rfl
theorem typeOfF (v:Value) (w:World):(ReflectliteType.typeOf #[.iface 180 v]).run Tryz.prog w=.ok (.iface 192 (.agg #[.pointer (some ⟨13,180,none⟩)])) w:=by kernel_rfl
theorem assignableF (w : World) : (ReflectliteType.relation "AssignableTo" ReflectliteType.assignableTo #[.agg #[.pointer (some ⟨13, 180, none⟩)], .iface 192 (.agg #[.pointer (some ⟨13, 180, none⟩)])]).run Tryz.prog w = .ok (.bool true) w := by kernel_rfl
theorem valueOfF (e:Addr) (w:World):(ReflectliteValue.unpack (.iface 180 (.pointer (some e)))).run Tryz.prog w
 = .ok (.agg #[.pointer (some ⟨13,180,none⟩),.pointer (some ⟨w.heap.size,0,none⟩),.int .u64 150]) (w.alloc (.cells #[.pointer (some e)] 180)):=by kernel_rfl
theorem elemOfFF (w:World):(Rtype.elem? 181).run Tryz.prog w=.ok (some 180) w:=by kernel_rfl
theorem mkF (p:Addr) (w:World):(ReflectliteValue.mk 180 p ReflectliteValue.flagAddr).run Tryz.prog w=.ok (.agg #[.pointer (some ⟨13,180,none⟩),.pointer (some p),.int .u64 406]) w:=by kernel_rfl
theorem elemVFF (a p:Addr) (W:World) (ha:W.cell? a=some (.pointer (some p))) :
 (ReflectliteValue.method (ReflectliteValue.valueError "reflectlite.Value.Elem" 0) ReflectliteValue.elem #[.agg #[.pointer (some ⟨13, 181, none⟩), .pointer (some a), .int .u64 150]]).run Tryz.prog W
   = .ok (.agg #[.pointer (some ⟨13,180,none⟩),.pointer (some p),.int .u64 406]) W:=by
 rw [rlm]
 simp only [Sem.run_bind,partsFF,Result.andThen]
 simp [ReflectliteValue.elem,loadVar,isAgg,underlying,ha,Result.andThen,elemOfFF,mkF]
theorem partsFa (a:Addr) (w:World):(ReflectliteValue.parts (.agg #[.pointer (some ⟨13,180,none⟩),.pointer (some a),.int .u64 406])).run Tryz.prog w=.ok (some (180,a,406)) w:=by kernel_rfl
theorem partsF (a:Addr) (w:World):(ReflectliteValue.parts (.agg #[.pointer (some ⟨13,180,none⟩),.pointer (some a),.int .u64 150])).run Tryz.prog w=.ok (some (180,a,150)) w:=by kernel_rfl
theorem directF (w:World):(Rtype.directlyAssignable 180 180).run Tryz.prog w=.ok true w:=by kernel_rfl
theorem setF (ta b e:Addr) (old:Value) (W:World) (hb:W.cell? b=some (.pointer (some e))) (ht:W.cell? ta=some old) (hf:W.frozen? ta=false) :
 (ReflectliteValue.set #[.agg #[.pointer (some ⟨13,180,none⟩),.pointer (some ta),.int .u64 406],.agg #[.pointer (some ⟨13,180,none⟩),.pointer (some b),.int .u64 150]]).run Tryz.prog W
   = .ok (.tuple #[]) (W.setCell ta (.pointer (some e))):=by
 rw [rls]
 simp only [Sem.run_bind,partsFa,partsF,Result.andThen]
 simp [ReflectliteValue.flagAddr,loadVar,isAgg,underlying,hb,Result.andThen,directF,storeVar,Value.cells,storeCells,Addr.add]
 rw [run_store Tryz.prog W ta _ _ (by rfl)]
 simp [ht,hf]
theorem as_hit (e t:Addr) (old:Value) (w:World) (hg:w.cell? ⟨3,0,none⟩=some (.iface 192 (.agg #[.pointer (some ⟨13,27,none⟩)]))) (ht0:w.cell? t=some old) (hf0:w.frozen? t=false) :
 Calls Tryz.prog 31 #[.iface 180 (.pointer (some e)),.iface 181 (.pointer (some t))] w fun ev w'=>ev=.returned (.bool true)∧w'=((((w.alloc (.cells #[.pointer (some t)] 181)).alloc (.cells #[.pointer (some ⟨13,181,none⟩),.pointer (some ⟨w.heap.size,0,none⟩),.int .u64 150] 138)).alloc (.cells #[.pointer (some ⟨13,181,none⟩),.pointer (some ⟨w.heap.size,0,none⟩),.int .u64 150] 138)).alloc (.cells #[.pointer (some e)] 180)).setCell t (.pointer (some e)):=by
 have h6:=@run_callFunc_extern Tryz.prog 79 _ (fun args=>ReflectliteValue.unpack (args.getD 0 (.tuple #[]))) Tryz.func79 (by kernel_rfl) (by kernel_rfl) (by kernel_rfl) (by kernel_rfl)
 have h7 := @run_callFunc_extern Tryz.prog 80 _ (ReflectliteValue.methodAny (ReflectliteValue.valueError "reflectlite.Value.Type" 0) (fun t _ _ _ => ReflectliteType.toType t)) Tryz.func80 (by kernel_rfl) (by kernel_rfl) (by kernel_rfl) (by kernel_rfl)
 have h8 := @run_callFunc_extern Tryz.prog 81 _ (ReflectliteValue.method (ReflectliteValue.valueError "reflectlite.Value.IsNil" 0) ReflectliteValue.isNil) Tryz.func81 (by kernel_rfl) (by kernel_rfl) (by kernel_rfl) (by kernel_rfl)
 have h27:=@run_callFunc_extern Tryz.prog 221 _ (ReflectliteType.abiMethod fun t=>do pure (.int .u8 (← Rtype.kind t))) Tryz.func221 (by kernel_rfl) (by kernel_rfl) (by kernel_rfl) (by kernel_rfl)
 have h37:=@run_callFunc_extern Tryz.prog 233 _ (ReflectliteType.method ReflectliteType.elem) Tryz.func233 (by kernel_rfl) (by kernel_rfl) (by kernel_rfl) (by kernel_rfl)
 have h38 := @run_callFunc_extern Tryz.prog 234 _ (ReflectliteType.relation "Implements" ReflectliteType.implements_) Tryz.func234 (by kernel_rfl) (by kernel_rfl) (by kernel_rfl) (by kernel_rfl)
 have h10:=@run_callFunc_extern Tryz.prog 71 _ ReflectliteType.typeOf Tryz.func71 (by kernel_rfl) (by kernel_rfl) (by kernel_rfl) (by kernel_rfl)
 have h35 := @run_callFunc_extern Tryz.prog 231 _ (ReflectliteType.relation "AssignableTo" ReflectliteType.assignableTo) Tryz.func231 (by kernel_rfl) (by kernel_rfl) (by kernel_rfl) (by kernel_rfl)
 have h11 := @run_callFunc_extern Tryz.prog 125 _ (ReflectliteValue.method (ReflectliteValue.valueError "reflectlite.Value.Elem" 0) ReflectliteValue.elem) Tryz.func125 (by kernel_rfl) (by kernel_rfl) (by kernel_rfl) (by kernel_rfl)
 have h12:=@run_callFunc_extern Tryz.prog 126 _ ReflectliteValue.set Tryz.func126 (by kernel_rfl) (by kernel_rfl) (by kernel_rfl) (by kernel_rfl)
 have tO:=typeOfF
 have mA:=methodAssignableTo
 have aF:=assignableF
 have vF:=valueOfF
 have f6:=valueOfFF
 have f7:=typeFF
 have mK:=methodKind
 have mE:=methodElem
 have mI:=methodImplements
 have kFF:=kindFF
 have kF:=kindF
 have eFF:=elemFF
 have iF:=implementsF
 have n8:=isNilFF ⟨w.heap.size,0,none⟩ t ((w.alloc (.cells #[.pointer (some t)] 181)).alloc (.cells #[.pointer (some ⟨13,181,none⟩),.pointer (some ⟨w.heap.size,0,none⟩),.int .u64 150] 138)) (by simp)
 have hlt:3<w.heap.size:=World.block_lt_of_cell? _ _ hg
 have hg2:((w.alloc (.cells #[.pointer (some t)] 181)).alloc (.cells #[.pointer (some ⟨13,181,none⟩),.pointer (some ⟨w.heap.size,0,none⟩),.int .u64 150] 138)).cell? ⟨3,0,none⟩=some (.iface 192 (.agg #[.pointer (some ⟨13,27,none⟩)])):=by
  rw [World.cell?_alloc_lt _ _ ⟨3,0,none⟩ (by simp; omega),World.cell?_alloc_lt _ _ ⟨3,0,none⟩ hlt]; exact hg
 have htl:t.block<w.heap.size:=World.block_lt_of_cell? _ _ ht0
 have el:=elemVFF ⟨w.heap.size,0,none⟩ t (((w.alloc (.cells #[.pointer (some t)] 181)).alloc (.cells #[.pointer (some ⟨13,181,none⟩),.pointer (some ⟨w.heap.size,0,none⟩),.int .u64 150] 138)).alloc (.cells #[.pointer (some ⟨13,181,none⟩),.pointer (some ⟨w.heap.size,0,none⟩),.int .u64 150] 138)) (by rw [World.cell?_alloc_lt _ _ ⟨w.heap.size,0,none⟩ (by simp; omega)]; simp)
 have st:=setF t ⟨w.heap.size+1+1+1,0,none⟩ e old ((((w.alloc (.cells #[.pointer (some t)] 181)).alloc (.cells #[.pointer (some ⟨13,181,none⟩),.pointer (some ⟨w.heap.size,0,none⟩),.int .u64 150] 138)).alloc (.cells #[.pointer (some ⟨13,181,none⟩),.pointer (some ⟨w.heap.size,0,none⟩),.int .u64 150] 138)).alloc (.cells #[.pointer (some e)] 180))
  (by rw [World.cell?_alloc_at _ _ _ _ (by simp)]; rfl)
  (by rw [World.cell?_alloc_lt _ _ t (by simp; omega),World.cell?_alloc_lt _ _ t (by simp; omega),World.cell?_alloc_lt _ _ t (by simp; omega),World.cell?_alloc_lt _ _ t htl]; exact ht0)
  (by rw [World.frozen?_alloc_old _ _ t (by simp; omega),World.frozen?_alloc_old _ _ t (by simp; omega),World.frozen?_alloc_old _ _ t (by simp; omega),World.frozen?_alloc_old _ _ t (Nat.ne_of_lt htl)]; exact hf0)
 go_enter Tryz.func31,Tryz.ntmps31
 go_wp2
 refine wp_loop_rounds 1 ?_
 rw [rounds_succ]
 go_wp2
 go_ret
 exact ⟨rfl,rfl⟩
theorem as_any (e t:Addr) (old:Value) (w:World) (hg:w.cell? ⟨3,0,none⟩=some (.iface 192 (.agg #[.pointer (some ⟨13,27,none⟩)]))) (ht0:w.cell? t=some old) (hf0:w.frozen? t=false) :
 Calls Tryz.prog 31 #[.iface 180 (.pointer (some e)),.iface 181 (.pointer (some t))] w fun ev w'=>ev=.returned (.bool true)∧∃ w1,Below w.heap.size w w1∧w'=w1.setCell t (.pointer (some e)) :=
 (as_hit e t old w hg ht0 hf0).mono fun _ _ ⟨h1,h2⟩=>⟨h1,_,((((Below.refl _ _).alloc (Nat.le_refl _) _).alloc (by simp) _).alloc (by simp; omega) _).alloc (by simp; omega) _,h2⟩
end Fnd
namespace Fnd
open Errs (methodKind methodElem methodImplements methodAssignableTo)
theorem assignF (w : World) : (ReflectliteType.relation "AssignableTo" ReflectliteType.assignableTo #[.agg #[.pointer (some ⟨13, 75, none⟩)], .iface 192 (.agg #[.pointer (some ⟨13, 180, none⟩)])]).run Tryz.prog w = .ok (.bool false) w := by kernel_rfl
theorem assignE (w : World) : (ReflectliteType.relation "AssignableTo" ReflectliteType.assignableTo #[.agg #[.pointer (some ⟨13, 287, none⟩)], .iface 192 (.agg #[.pointer (some ⟨13, 180, none⟩)])]).run Tryz.prog w = .ok (.bool false) w := by kernel_rfl
theorem uAs : Tryz.prog.underlying 202 = some (.interface #[("As", 204)]) := by kernel_rfl
theorem uUnws : Tryz.prog.underlying 198 = some (.interface #[("Unwrap", 199)]) := by kernel_rfl
theorem noAsF (v:Value) (xT:TypeId) (w:World):(Instr.typeAssert (.iface 75 v) xT 202 true).run Tryz.prog w=.ok (.tuple #[.nilIface,.bool false]) w:=run_typeAssert_lacksB uAs (by kernel_rfl) (by kernel_rfl) v xT w
theorem noAsE (v:Value) (xT:TypeId) (w:World):(Instr.typeAssert (.iface 287 v) xT 202 true).run Tryz.prog w=.ok (.tuple #[.nilIface,.bool false]) w:=run_typeAssert_lacksB uAs (by kernel_rfl) (by kernel_rfl) v xT w
theorem noUnwE (v:Value) (xT:TypeId) (w:World):(Instr.typeAssert (.iface 287 v) xT 197 true).run Tryz.prog w=.ok (.tuple #[.nilIface,.bool false]) w:=run_typeAssert_lacksB Errs.uUnw (by kernel_rfl) (by kernel_rfl) v xT w
theorem noUnwsE (v:Value) (xT:TypeId) (w:World):(Instr.typeAssert (.iface 287 v) xT 198 true).run Tryz.prog w=.ok (.tuple #[.nilIface,.bool false]) w:=run_typeAssert_lacksB uUnws (by kernel_rfl) (by kernel_rfl) v xT w
theorem as_loop (r:Nat→Addr) (n:Int) (l:List (ByteArray×Int)) (v tgt x0 x1 x2:Value) (w:World) (h:ErrAt r w n l v) :
 Calls Tryz.prog 82 #[v,tgt,.agg #[x0,x1,x2],.iface 192 (.agg #[.pointer (some ⟨13,180,none⟩)])] w fun e w'=>e=.returned (.bool false)∧Below w.heap.size w w':=by
 have h10:=@run_callFunc_extern Tryz.prog 71 _ ReflectliteType.typeOf Tryz.func71 (by kernel_rfl) (by kernel_rfl) (by kernel_rfl) (by kernel_rfl)
 have h35 := @run_callFunc_extern Tryz.prog 231 _ (ReflectliteType.relation "AssignableTo" ReflectliteType.assignableTo) Tryz.func231 (by kernel_rfl) (by kernel_rfl) (by kernel_rfl) (by kernel_rfl)
 have tF:=Errs.typeOfF
 have tE:=Errs.typeOfE
 have mA:=methodAssignableTo
 have aF:=assignF
 have aE:=assignE
 have nF:=noAsF
 have nE:=noAsE
 have uF:=Errs.hasUnwrapF
 have uE:=noUnwE
 have usE:=noUnwsE
 have mU:=Errs.methodUnwrap
 have bb:=belowAlloc w (.cells #[x0,x1,x2] 138)
 replace h:=Hd (h.below bb)
 obtain ⟨W,hW⟩:∃ W:World,w.alloc (.cells #[x0,x1,x2] 138)=W:=⟨_,rfl⟩
 rw [hW] at h bb
 replace hW:=Hd hW
 go_enter Tryz.func82,Tryz.ntmps82
 go_wp2
 rw [hW.out]
 go_loopg [0] l.length (fun k u wr=>wr=W∧∃ l',l'.length=k∧ErrAt r W n l' u)
 case atStart=>exact ⟨rfl,l,rfl,h.out⟩
 case round =>
  obtain ⟨rfl,l',hl',hu⟩:=hrel
  match l',hl',hu with
  | [],hl',hu =>
   obtain rfl:_=rootV r n:=hu
   clear hl'
   go_wp2
   go_ret
   exact ⟨rfl,bb⟩
  | (op,at_)::rest,hl',hu =>
   obtain ⟨p,u',rfl,c0,c1,c2,hrest⟩:=hu
   obtain ⟨T,a,rfl⟩:=hrest.shape
   replace hrest:=Hd hrest
   replace hl':=Hd hl'
   go_wp2_with (go_at_call 225; refine (Errs.unwrap_any p _ _ c2).mono ?_; rintro e w' ⟨rfl,rfl⟩)
   go_roundg rest.length
   case measure=>have:=hl'.out; simp at this; omega
   case rel=>exact ⟨rfl,rest,rfl,hrest.out⟩
theorem as_miss (r:Nat→Addr) (n:Int) (l:List (ByteArray×Int)) (v:Value) (t:Addr) (w:World) (h:ErrAt r w n l v) (hg:w.cell? ⟨3,0,none⟩=some (.iface 192 (.agg #[.pointer (some ⟨13,27,none⟩)]))) :
 Calls Tryz.prog 31 #[v,.iface 181 (.pointer (some t))] w fun ev w'=>ev=.returned (.bool false)∧Below w.heap.size w w':=by
 have h6:=@run_callFunc_extern Tryz.prog 79 _ (fun args=>ReflectliteValue.unpack (args.getD 0 (.tuple #[]))) Tryz.func79 (by kernel_rfl) (by kernel_rfl) (by kernel_rfl) (by kernel_rfl)
 have h7 := @run_callFunc_extern Tryz.prog 80 _ (ReflectliteValue.methodAny (ReflectliteValue.valueError "reflectlite.Value.Type" 0) (fun t _ _ _ => ReflectliteType.toType t)) Tryz.func80 (by kernel_rfl) (by kernel_rfl) (by kernel_rfl) (by kernel_rfl)
 have h8 := @run_callFunc_extern Tryz.prog 81 _ (ReflectliteValue.method (ReflectliteValue.valueError "reflectlite.Value.IsNil" 0) ReflectliteValue.isNil) Tryz.func81 (by kernel_rfl) (by kernel_rfl) (by kernel_rfl) (by kernel_rfl)
 have h27:=@run_callFunc_extern Tryz.prog 221 _ (ReflectliteType.abiMethod fun t=>do pure (.int .u8 (← Rtype.kind t))) Tryz.func221 (by kernel_rfl) (by kernel_rfl) (by kernel_rfl) (by kernel_rfl)
 have h37:=@run_callFunc_extern Tryz.prog 233 _ (ReflectliteType.method ReflectliteType.elem) Tryz.func233 (by kernel_rfl) (by kernel_rfl) (by kernel_rfl) (by kernel_rfl)
 have h38 := @run_callFunc_extern Tryz.prog 234 _ (ReflectliteType.relation "Implements" ReflectliteType.implements_) Tryz.func234 (by kernel_rfl) (by kernel_rfl) (by kernel_rfl) (by kernel_rfl)
 have f6:=valueOfFF
 have f7:=typeFF
 have mK:=methodKind
 have mE:=methodElem
 have mI:=methodImplements
 have kFF:=kindFF
 have kF:=kindF
 have eFF:=elemFF
 have iF:=implementsF
 have n8:=isNilFF ⟨w.heap.size,0,none⟩ t ((w.alloc (.cells #[.pointer (some t)] 181)).alloc (.cells #[.pointer (some ⟨13,181,none⟩),.pointer (some ⟨w.heap.size,0,none⟩),.int .u64 150] 138)) (by simp)
 have hlt:3<w.heap.size:=World.block_lt_of_cell? _ _ hg
 have hg2:((w.alloc (.cells #[.pointer (some t)] 181)).alloc (.cells #[.pointer (some ⟨13,181,none⟩),.pointer (some ⟨w.heap.size,0,none⟩),.int .u64 150] 138)).cell? ⟨3,0,none⟩=some (.iface 192 (.agg #[.pointer (some ⟨13,27,none⟩)])):=by
  rw [World.cell?_alloc_lt _ _ ⟨3,0,none⟩ (by simp; omega),World.cell?_alloc_lt _ _ ⟨3,0,none⟩ hlt]; exact hg
 have bb:=Below.step (belowAlloc w (.cells #[.pointer (some t)] 181)) (belowAlloc _ (.cells #[.pointer (some ⟨13,181,none⟩),.pointer (some ⟨w.heap.size,0,none⟩),.int .u64 150] 138))
 obtain ⟨T,a,rfl⟩:=h.shape
 replace h:=Hd (h.below bb)
 go_enter Tryz.func31,Tryz.ntmps31
 go_wp2_with (go_at_call 82; refine (as_loop r n l _ _ _ _ _ _ h.out).mono ?_; rintro e w' ⟨rfl,b2⟩)
 go_ret
 exact ⟨rfl,Below.step bb b2⟩
theorem as_nil (x:Value) (w:World):Calls Tryz.prog 31 #[.nilIface,x] w fun ev w'=>ev=.returned (.bool false)∧w=w':=by
 go_enter Tryz.func31,Tryz.ntmps31
 go_wp2
 go_ret
 exact ⟨rfl,rfl⟩
end Fnd
end Go.Proofs.YtkaoebokbfcmhaaGreatDoor
namespace Go.Proofs.YtkaoebokbfcmhaaGreatDoor
open Go.RowKit
set_option maxRecDepth 100000
set_option maxHeartbeats 8000000
def sSubset:ByteArray:=⟨#[115,117,98,115,101,116]⟩
theorem told_bag (r:Nat→Addr) (v:Value) (w:World) (hg:Glob r w) (hG:GlobE w) (h:ErrIs r w (fresh sBag 0 4) v) :
 Calls Tryz.prog 116 #[v] w (Ret1 (fun x w'=>ErrIs r w' (fresh sSubset 0 4) x) w):=by
 have z4:=hg.c4
 have his:=Errs.is_any r 4 _ v w h
 obtain ⟨p,u,rfl,c0,c1,c2,hu⟩:=h
 have bv:=belowAlloc' w (.cells #[.pointer none] 75)
 have zt:(w.alloc (.cells #[.pointer none] 75)).cell? ⟨w.heap.size,0,none⟩=some (.pointer none):=by simp
 have ft:(w.alloc (.cells #[.pointer none] 75)).frozen? ⟨w.heap.size,0,none⟩=false:=by simp
 have gv:=Hd (hG.below bv)
 replace hg:=Hd hg
 replace hG:=Hd hG
 replace hu:=Hd hu
 go_enter Tryz.func116,Tryz.ntmps116
 go_wp2_with fail
 refine his.mono ?_
 rintro e w1 ⟨rfl,rfl⟩
 clear his
 go_upto_region 3 with fail
 obtain ⟨wv,hwv⟩:∃ W:World,W=w.alloc (.cells #[.pointer none] 75):=⟨_,rfl⟩
 rw [← hwv] at bv zt ft gv ⊢
 clear hwv
 replace c0:=Hd c0
 replace c1:=Hd c1
 replace c2:=Hd c2
 have has:Calls Tryz.prog 31 #[.iface 75 (.pointer (some ⟨p,0,none⟩)),.iface 77 (.pointer (some ⟨w.heap.size,0,none⟩))] wv fun e w'=>e=.returned (.bool true)∧w'.cell? ⟨w.heap.size,0,none⟩=some (.pointer (some ⟨p,0,none⟩))∧Below w.heap.size w w':=by
  refine (Errs.as_any ⟨p,0,none⟩ ⟨w.heap.size,0,none⟩ (.pointer none) wv gv.out zt ft).mono ?_
  rintro e w6 ⟨rfl,w5,hb5,rfl⟩
  exact ⟨rfl,World.cell?_setCell_same _ _ _ (cell_keep hb5 zt),(Below.stepL bv hb5).setCell (p:=⟨w.heap.size,0,none⟩) (Nat.le_refl _) _⟩
 go_wp2_with fail
 refine has.mono ?_
 rintro e w6 ⟨rfl,p0,b6⟩
 have y0:w6.cell? ⟨p,0,none⟩=some (.string ⟨#[98,97,103]⟩):=cell_keep b6 c0.out
 have hg6:=Hd (hg.out.below b6)
 go_wp2_with fail
 refine (new_any r _ 0 4 w6 hg6.out (by decide) (by decide)).mono ?_
 rintro e w7 ⟨x,rfl,b7,he⟩
 have b67:=Below.step b6 b7
 go_wp2
 go_ret
 exact ⟨_,rfl,b67,he⟩
def OntoPost (r:Nat→Addr) (B:Nat):SubR→Value→Value→Value→World→Prop
 | .on _ _,x,y,z,_=>x=.bool true∧y=.slice none 0 0∧z=.nilIface
 | .orphan wd,x,y,z,w'=>x=.bool false∧z=.nilIface∧OwnI B w' y wd
 | .big,x,y,z,w'=>x=.bool false∧y=.slice none 0 0∧ErrIs r w' (fresh sSubset 0 4) z
theorem sub_onto (r:Nat→Addr) (K R:Nat) (va:Option Addr) (vn vc:Nat) (T:List Int) (w:World) (hg:Glob r w) (hG:GlobE w) (h:IntsAt w (.slice va vn vc) T) (hok:RuleOk K R T) (hl:T.length≤256) :
 Calls Tryz.prog 66 #[.agg #[.int .i64 K,.int .i64 R,.slice va vn vc]] w (Ret3 (fun x y z w'=>OntoPost r w.heap.size (subR K (pw K (2*R)) T) x y z w') w):=by
 have hk1:=hok.k1
 have hT:T.length=pw K (2*R)*K:=by rw [hok.len,pw_succ]
 have hn:T.length/K=pw K (2*R):=by rw [hT]; exact Nat.mul_div_cancel _ (by omega)
 have h1:=pw_pos (K:=K) (2*R) hk1
 have hn4:pw K (2*R)≤256:=by rw [← hn]; exact Nat.le_trans (Nat.div_le_self _ _) hl
 have hsub:=wk_sub K (pw K (2*R)) T
 obtain ⟨n,hne⟩:∃ n,pw K (2*R)=n:=⟨_,rfl⟩
 rw [hne] at hn h1 hn4 hsub ⊢
 rw [← hsub]
 have b0:=belowAlloc w (.cells #[.int .i64 K,.int .i64 R,.slice va vn vc] 24)
 have q:Box3 (w.alloc (.cells #[.int .i64 K,.int .i64 R,.slice va vn vc] 24)) w.heap.size (.int .i64 K) (.int .i64 R) (.slice va vn vc):=by simp [Box3,go_sem]
 have b1:=Below.step b0 (belowAlloc _ (.cells #[.int .i64 K,.int .i64 R,.slice va vn vc,.pointer none,.slice none 0 0,.slice none 0 0,.bool true] 178))
 have hR:=((Rows.void w.heap.size w).below b0).add (i:=(30,0)) (r':=box7 178 (w.heap.size+1) [.int .i64 K,.int .i64 R,.slice va vn vc,.pointer none,.slice none 0 0,.slice none 0 0,.bool true]) (belowAlloc _ (.cells #[.int .i64 K,.int .i64 R,.slice va vn vc,.pointer none,.slice none 0 0,.slice none 0 0,.bool true] 178))
  (by
    have:=World.ownsRow_lit (base:=w.heap.size) (e:=178) (size:=7) (w.alloc (.cells #[.int .i64 K,.int .i64 R,.slice va vn vc] 24)) #[.int .i64 K,.int .i64 R,.slice va vn vc,.pointer none,.slice none 0 0,.slice none 0 0,.bool true] 1 (by simp) (by decide) rfl
    unfold Row.own
    simpa using this) (fun k hk=>by cases hk; simp)
 obtain ⟨w1,hw1⟩:∃ W:World,((w.alloc (.cells #[.int .i64 K,.int .i64 R,.slice va vn vc] 24)).alloc (.cells #[.int .i64 K,.int .i64 R,.slice va vn vc,.pointer none,.slice none 0 0,.slice none 0 0,.bool true] 178))=W:=⟨_,rfl⟩
 rw [hw1] at hR b1
 have hall:=all_any (stop:=true) r hg h b1 hR (upd_same _ _ _) hok hl hn h1 hn4
 obtain ⟨RES,hRES⟩:∃ X,wkAll true K n T=X:=⟨_,rfl⟩
 rw [hRES] at hall ⊢
 obtain ⟨⟨z0,z1,z2⟩,-,-,-⟩:=q
 have hg0:=Hd hg
 have hG0:=Hd hG
 replace hRES:=Hd hRES
 replace hw1:=Hd hw1
 clear hR hok hl hn h1 hn4 hne hsub hT h hk1 hg hG b0
 go_enter Tryz.func66,Tryz.ntmps66
 go_wp2_with fail
 rw [hw1.out]
 refine hall.mono ?_
 clear hall z0 z1 z2
 cases RES with
 | on a ws x =>
  rintro e w2 ⟨rfl,b2,-⟩
  have b12:=b1.trans b2
  have b3:=Below.step b12 (belowAlloc w2 (.cells #[.pointer none] 180))
  go_wp2_with fail
  refine (Fnd.as_nil _ _).mono ?_
  rintro e w3 ⟨rfl,rfl⟩
  go_wp2
  go_ret3
  exact ⟨_,_,_,rfl,b3,rfl,rfl,rfl⟩
 | orphan wd =>
  rintro e w2 ⟨p,rfl,b2,hfd⟩
  obtain ⟨pp,fa,fn,fc,e1,f2,f3,f4⟩:=hfd
  injection e1 with _ e1
  injection e1 with e1
  injection e1 with e1
  subst e1
  have b12:=b1.trans b2
  have bl:=belowAlloc w2 (.cells #[.pointer none] 180)
  have b3:=Below.step b12 bl
  have hit:=Fnd.as_any ⟨pp,0,none⟩ ⟨w2.heap.size,0,none⟩ (.pointer none) (w2.alloc (.cells #[.pointer none] 180)) (hG0.out.below b3) (by simp [go_sem]) (by simp [go_sem])
  have ct:(w2.alloc (.cells #[.pointer none] 180)).cell? ⟨w2.heap.size,0,none⟩=some (.pointer none):=by simp [go_sem]
  replace f3:=Hd f3
  replace f2:=Hd f2
  go_wp2_with fail
  refine hit.mono ?_
  rintro e w4 ⟨rfl,w3,b4,rfl⟩
  have b14:=(Below.stepL bl b4).setCell (p:=⟨w2.heap.size,0,none⟩) (Nat.le_refl _) (.pointer (some ⟨pp,0,none⟩))
  have ct2:=World.cell?_setCell_same w3 ⟨w2.heap.size,0,none⟩ (.pointer (some ⟨pp,0,none⟩)) (cell_keep b4 ct)
  have cf:=cell_keep b14 f2.out
  have ho:=f3.out.below b14
  have bfin:=Below.step b12 b14
  obtain ⟨W,hW⟩:∃ W:World,w3.setCell ⟨w2.heap.size,0,none⟩ (.pointer (some ⟨pp,0,none⟩))=W:=⟨_,rfl⟩
  rw [hW] at ct2 cf ho bfin
  replace ho:=Hd ho
  replace hW:=Hd hW
  clear ct hit b14 b4
  go_upto_region 5 with fail
  rw [hW.out]
  refine wp_region_plan (fun w'=>w'.cell? ⟨w2.heap.size,0,none⟩=some (.pointer (some ⟨pp,0,none⟩))∧w'.cell? ⟨pp,0,none⟩=some (.slice fa fn fc)) 6 [(0,true),(1,true),(2,true),(3,true),(4,true),(5,true)] (by kernel_rfl) (by kernel_rfl) ?_
  have hS:(W.drew).cell? ⟨w2.heap.size,0,none⟩=some (.pointer (some ⟨pp,0,none⟩))∧(W.drew).cell? ⟨pp,0,none⟩=some (.slice fa fn fc):=⟨ct2,cf⟩
  refine pqY 16 hS ?_
  refine pqY 17 hS ?_
  refine pqY 18 hS ?_
  refine pqY 19 hS ?_
  refine pqY 2 hS ?_
  refine pqY 3 hS ?_
  refine head0 ?_
  simp only [List.drop_succ_cons,List.drop_zero]
  go_wp2
  refine NoPanic.normal ?_
  go_wp2
  go_ret3
  exact ⟨_,_,_,rfl,bfin.drew,rfl,rfl,ho.out.drew⟩
 | big =>
  rintro e w2 ⟨p,rfl,b2,he⟩
  have b12:=b1.trans b2
  have bl:=belowAlloc w2 (.cells #[.pointer none] 180)
  have b3:=Below.step b12 bl
  have miss:=Fnd.as_miss r 4 [(sBag,0)] (.iface 75 (.pointer (some p))) ⟨w2.heap.size,0,none⟩ (w2.alloc (.cells #[.pointer none] 180)) (he.below bl) (hG0.out.below b3)
  replace he:=Hd he
  go_wp2_with fail
  refine miss.mono ?_
  rintro e w4 ⟨rfl,b4⟩
  have b24:=Below.step bl b4
  have b14:=Below.step b12 b24
  have told:=told_bag r (.iface 75 (.pointer (some p))) w4 (hg0.out.below b14) (hG0.out.below b14) (he.out.below b24)
  clear miss
  go_wp2_with fail
  refine told.mono ?_
  rintro e w5 ⟨x,rfl,b5,he5⟩
  have bfin:=Below.step b14 b5
  obtain ⟨T5,p5,rfl⟩:=he5.some_shape
  replace he5:=Hd he5
  go_wp2
  go_ret3
  exact ⟨_,_,_,rfl,bfin,rfl,rfl,he5.out⟩
end Go.Proofs.YtkaoebokbfcmhaaGreatDoor
namespace Go.Proofs.YtkaoebokbfcmhaaGreatDoor
structure MIn (N:Nat) (adj:Nat→List Nat) (D:Nat→Nat) (q:List Nat) (i v:Nat) (pre:List Nat):Prop where
 at_:q[i]?=some v
 nodup:q.Nodup
 low:∀ x∈q,x<N*N
 diag:∀ x,x<N*N→Diag N x→x∈q∧D x=0
 old:∀ x,x<N*N→¬ Diag N x→(x∈q↔0<D x)
 mono:∀ (j k x y:Nat),j≤k→q[j]?=some x→q[k]?=some y→D x≤D y
 top:∀ x∈q,D x≤D v+1
 bnd:∀ x∈q,D x≤q.length
 done:∀ (k x:Nat),k<i→q[k]?=some x→∀ t∈adj x,(¬ Diag N t→t∈q∧D t≤D x+1)∧(Diag N t→Diag N x)
 now:∀ t∈pre,(¬ Diag N t→t∈q∧D t≤D v+1)∧(Diag N t→Diag N v)
structure MOut (N:Nat) (adj:Nat→List Nat) (D:Nat→Nat) (q:List Nat) (i:Nat):Prop where
 nodup:q.Nodup
 low:∀ x∈q,x<N*N
 diag:∀ x,x<N*N→Diag N x→x∈q∧D x=0
 old:∀ x,x<N*N→¬ Diag N x→(x∈q↔0<D x)
 mono:∀ (j k x y:Nat),j≤k→q[j]?=some x→q[k]?=some y→D x≤D y
 top:∀ v:Nat,q[i]?=some v→∀ x∈q,D x≤D v+1
 bnd:∀ x∈q,D x≤q.length
 done:∀ (k x:Nat),k<i→q[k]?=some x→∀ t∈adj x,(¬ Diag N t→t∈q∧D t≤D x+1)∧(Diag N t→Diag N x)
section
variable {N:Nat} {adj:Nat→List Nat} {D:Nat→Nat} {q:List Nat} {i v:Nat} {pre:List Nat}
def diags (N:Nat):List Nat:=(List.range N).map fun u=>u*N+u
theorem mem_diags {N x:Nat}:x∈diags N↔∃ u,u<N∧x=u*N+u:=by
 unfold diags; rw [List.mem_map]
 constructor
 ·rintro ⟨u,h,rfl⟩; exact ⟨u,List.mem_range.1 h,rfl⟩
 ·rintro ⟨u,h,rfl⟩; exact ⟨u,List.mem_range.2 h,rfl⟩
theorem MOut.init (N:Nat) (adj:Nat→List Nat):MOut N adj (fun _=>0) (diags N) 0:=by
 refine ⟨?_,fun x hx=>?_,fun x hx hd=>⟨mem_diags.2 ⟨x/N,div_lt_of hx,hd.eq⟩,rfl⟩,fun x hx hd=>⟨fun h=>?_,fun h=>absurd h (by simp)⟩,fun _ _ _ _ _ _ _=>Nat.le_refl _,fun _ _ _ _=>by simp,fun _ _=>Nat.zero_le _,fun k x hk=>by omega⟩
 ·unfold diags
  rw [List.nodup_iff_pairwise_ne,List.pairwise_map]
  refine List.pairwise_lt_range.imp_of_mem fun {a b} ha hb h e=>?_
  have hb:=List.mem_range.1 hb
  have:=Nat.mul_le_mul_right N (show a+1≤b by omega)
  rw [Nat.add_mul] at this
  omega
 ·obtain ⟨u,hu,rfl⟩:=mem_diags.1 hx
  exact pair_lt hu hu
 ·obtain ⟨u,hu,rfl⟩:=mem_diags.1 h
  exact absurd (diag_mk hu) hd
theorem MOut.enter (h:MOut N adj D q i) (hv:q[i]?=some v):MIn N adj D q i v [] :=
 ⟨hv,h.nodup,h.low,h.diag,h.old,h.mono,h.top v hv,h.bnd,h.done,fun _ ht=>by cases ht⟩
theorem MIn.leave (h:MIn N adj D q i v pre) (hp:pre=adj v):MOut N adj D q (i+1):=by
 subst hp
 refine ⟨h.nodup,h.low,h.diag,h.old,h.mono,fun y hy x hx=>?_,h.bnd,fun k x hk hx=>?_⟩
 ·have:=h.mono i (i+1) v y (by omega) h.at_ hy
  have:=h.top x hx
  omega
 ·by_cases e:k=i
  ·subst e
   rw [h.at_] at hx; cases hx
   exact h.now
  ·exact h.done k x (by omega) hx
theorem MIn.skip (h:MIn N adj D q i v pre) {t:Nat} (ht:(Diag N t∧Diag N v)∨(¬ Diag N t∧t∈q)):MIn N adj D q i v (pre++[t]):=by
 refine ⟨h.at_,h.nodup,h.low,h.diag,h.old,h.mono,h.top,h.bnd,h.done,fun s hs=>?_⟩
 rcases List.mem_append.1 hs with hs | hs
 ·exact h.now s hs
 ·cases List.mem_singleton.1 hs
  rcases ht with ⟨h1,h2⟩ | ⟨h1,h2⟩
  ·exact ⟨fun q=>absurd h1 q,fun _=>h2⟩
  ·exact ⟨fun _=>⟨h2,h.top _ h2⟩,fun q=>absurd q h1⟩
theorem MIn.add (h:MIn N adj D q i v pre) {t:Nat} (htl:t<N*N) (ht:¬ Diag N t) (hq:t∉q):MIn N adj (updN D t (D v+1)) (q++[t]) i v (pre++[t]):=by
 have hi:i<q.length:=(List.getElem?_eq_some_iff.1 h.at_).1
 have hvq:v∈q:=List.mem_of_getElem? h.at_
 have hvt:v≠t:=fun e=>hq (by rw [← e]; exact hvq)
 have hD:∀ x,x∈q→updN D t (D v+1) x=D x:=fun x hx=>updN_other _ _ _ (fun e=>hq (by rw [← e]; exact hx))
 have hget:∀ k x,(q++[t])[k]?=some x→(q[k]?=some x∧k<q.length)∨(k=q.length∧x=t):=fun k x hx=>by
  rw [List.getElem?_append] at hx
  split at hx
  ·exact .inl ⟨hx,by assumption⟩
  ·right
   cases hk:k-q.length with
   | zero=>rw [hk] at hx; simp at hx; exact ⟨by omega,hx.symm⟩
   | succ n=>rw [hk] at hx; simp at hx
 refine ⟨by rw [List.getElem?_append_left hi]; exact h.at_,List.nodup_append.2 ⟨h.nodup,by simp,fun a ha b hb e=>by cases List.mem_singleton.1 hb; subst e; exact hq ha⟩,fun x hx=>?_,fun x hx hd=>?_,fun x hx hd=>?_,fun j k x y hjk hx hy=>?_,fun x hx=>?_,fun x hx=>?_,fun k x hk hx s hs=>?_,fun s hs=>?_⟩
 ·rcases List.mem_append.1 hx with hx | hx
  ·exact h.low x hx
  ·cases List.mem_singleton.1 hx; exact htl
 ·obtain ⟨h1,h2⟩:=h.diag x hx hd
  exact ⟨List.mem_append_left _ h1,by rw [hD x h1]; exact h2⟩
 ·by_cases e:x=t
  ·subst e; rw [updN_same]; simp
  ·rw [updN_other _ _ _ e,← h.old x hx hd]; simp [e]
 ·rcases hget j x hx with ⟨a1,_⟩ | ⟨a1,rfl⟩
  ·rw [hD x (List.mem_of_getElem? a1)]
   rcases hget k y hy with ⟨b1,_⟩ | ⟨b1,rfl⟩
   ·rw [hD y (List.mem_of_getElem? b1)]; exact h.mono j k x y hjk a1 b1
   ·rw [updN_same]; exact h.top x (List.mem_of_getElem? a1)
  ·rcases hget k y hy with ⟨b1,b2⟩ | ⟨b1,rfl⟩
   ·omega
   ·exact Nat.le_refl _
 ·rw [updN_other D t (D v+1) hvt]
  rcases List.mem_append.1 hx with hx | hx
  ·rw [hD x hx]; exact h.top x hx
  ·cases List.mem_singleton.1 hx; rw [updN_same]; exact Nat.le_refl _
 ·rw [List.length_append,List.length_singleton]
  rcases List.mem_append.1 hx with hx | hx
  ·rw [hD x hx]; have:=h.bnd x hx; omega
  ·cases List.mem_singleton.1 hx; rw [updN_same]; have:=h.bnd v hvq; omega
 ·rcases hget k x hx with ⟨a1,_⟩ | ⟨a1,rfl⟩
  ·rw [hD x (List.mem_of_getElem? a1)]
   obtain ⟨c1,c2⟩:=h.done k x hk a1 s hs
   exact ⟨fun q'=>by
    obtain ⟨d1,d2⟩:=c1 q'
    exact ⟨List.mem_append_left _ d1,by rw [hD s d1]; exact d2⟩,c2⟩
  ·omega
 ·rw [updN_other D t (D v+1) hvt]
  rcases List.mem_append.1 hs with hs | hs
  ·obtain ⟨c1,c2⟩:=h.now s hs
   exact ⟨fun q'=>by
    obtain ⟨d1,d2⟩:=c1 q'
    exact ⟨List.mem_append_left _ d1,by rw [hD s d1]; exact d2⟩,c2⟩
  ·cases List.mem_singleton.1 hs
   exact ⟨fun _=>⟨List.mem_append_right _ (by simp),by rw [updN_same]; exact Nat.le_refl _⟩,fun q'=>absurd q' ht⟩
theorem MOut.along (h:MOut N adj D q i) {u:List Nat} (hu:ApartWay N adj u):∀ j,j+1<u.length →
 (∃ k,k≤j∧u.getD k 0∈q∧D (u.getD k 0)≤k∧∀ m,m<i→q[m]?≠some (u.getD k 0))∨(u.getD j 0∈q∧D (u.getD j 0)≤j∧∃ m,m<i∧q[m]?=some (u.getD j 0))
 | 0,h1=>by
  obtain ⟨a,b⟩:=h.diag _ (hu.low 0 (by omega)) hu.fst
  by_cases q':∃ m,m<i∧q[m]?=some (u.getD 0 0)
  ·exact .inr ⟨a,by omega,q'⟩
  ·exact .inl ⟨0,Nat.le_refl _,a,by omega,fun m hm e=>q' ⟨m,hm,e⟩⟩
 | j+1,h1=>by
  rcases h.along hu j (by omega) with ⟨k,k1,k2,k3,k4⟩ | ⟨_,a2,m,m1,m2⟩
  ·exact .inl ⟨k,by omega,k2,k3,k4⟩
  ·obtain ⟨c1,_⟩:=h.done m _ m1 m2 _ (hu.arr j (by omega))
   obtain ⟨d1,d2⟩:=c1 (hu.inn (j+1) (by omega) h1)
   by_cases q':∃ m,m<i∧q[m]?=some (u.getD (j+1) 0)
   ·exact .inr ⟨d1,by omega,q'⟩
   ·exact .inl ⟨j+1,Nat.le_refl _,d1,by omega,fun m hm e=>q' ⟨m,hm,e⟩⟩
theorem MOut.none (h:MOut N adj D q i) (hi:q.length≤i) (u:List Nat):¬ ApartWay N adj u:=fun hu=>by
 have h3:=hu.len
 rcases h.along hu (u.length-2) (by omega) with ⟨k,_,k2,_,k4⟩ | ⟨_,_,m,m1,m2⟩
 ·obtain ⟨m,hm⟩:=List.mem_iff_getElem?.1 k2
  have:=(List.getElem?_eq_some_iff.1 hm).1
  exact k4 m (by omega) hm
 ·obtain ⟨_,c2⟩:=h.done m _ m1 m2 _ (hu.arr (u.length-2) (by omega))
  refine hu.inn (u.length-2) (by omega) (by omega) (c2 ?_)
  rw [show u.length-2+1=u.length-1 by omega]
  exact hu.lst
theorem MIn.best (h:MIn N adj D q i v pre) {u:List Nat} (hu:ApartWay N adj u):D v+3≤u.length+1:=by
 have h3:=hu.len
 have ho:MOut N adj D q i:=⟨h.nodup,h.low,h.diag,h.old,h.mono,fun y hy=>by rw [h.at_] at hy; cases hy; exact h.top,h.bnd,h.done⟩
 rcases ho.along hu (u.length-2) (by omega) with ⟨k,k1,k2,k3,k4⟩ | ⟨_,_,m,m1,m2⟩
 ·obtain ⟨m,hm⟩:=List.mem_iff_getElem?.1 k2
  have hmi:i≤m:=Nat.le_of_not_lt fun q'=>k4 m q' hm
  have:=h.mono i m v _ hmi h.at_ hm
  omega
 ·obtain ⟨_,c2⟩:=h.done m _ m1 m2 _ (hu.arr (u.length-2) (by omega))
  refine absurd (c2 ?_) (hu.inn (u.length-2) (by omega) (by omega))
  rw [show u.length-2+1=u.length-1 by omega]
  exact hu.lst
def CameOf (N:Nat) (adj:Nat→List Nat) (D:Nat→Nat) (q:List Nat) (came:Nat→Int):Prop :=
 (∀ x,x<N*N→((came x<0↔Diag N x∨x∉q)∧(came x<0→came x=-1)))∧∀ x,x<N*N→0≤came x→∃ p:Nat,came x=p∧p∈q∧x∈adj p∧D x=D p+1
theorem CameOf.init (N:Nat) (adj:Nat→List Nat):CameOf N adj (fun _=>0) (diags N) (fun _=>-1):=by
 refine ⟨fun x hx=>⟨⟨fun _=>?_,fun _=>(by show (-1:Int)<0; decide)⟩,fun _=>rfl⟩,fun x _ h=>by simp at h⟩
 by_cases hd:Diag N x
 ·exact .inl hd
 ·right
  intro hm
  obtain ⟨u,hu,rfl⟩:=mem_diags.1 hm
  exact hd (diag_mk hu)
theorem CameOf.add (h:MIn N adj D q i v pre) {came:Nat→Int} (hc:CameOf N adj D q came) {t:Nat} (ht:¬ Diag N t) (hq:t∉q) (ha:t∈adj v):CameOf N adj (updN D t (D v+1)) (q++[t]) (updN came t (v:Int)):=by
 have hvq:v∈q:=List.mem_of_getElem? h.at_
 have hvt:v≠t:=fun e=>hq (by rw [← e]; exact hvq)
 refine ⟨fun x hx=>?_,fun x hx h0=>?_⟩
 ·by_cases e:x=t
  ·subst e; rw [updN_same]
   exact ⟨⟨fun q'=>by omega,fun q'=>by rcases q' with q' | q'; exact absurd q' ht; exact absurd (List.mem_append_right _ (by simp)) q'⟩,fun q'=>by omega⟩
  ·rw [updN_other _ _ _ e]
   obtain ⟨a,b⟩:=hc.1 x hx
   refine ⟨?_,b⟩
   rw [a]; simp [e]
 ·by_cases e:x=t
  ·subst e
   refine ⟨v,updN_same ..,List.mem_append_left _ hvq,ha,?_⟩
   rw [updN_same,updN_other _ _ _ hvt]
  ·rw [updN_other _ _ _ e] at h0 ⊢
   obtain ⟨p,p1,p2,p3,p4⟩:=hc.2 x hx h0
   refine ⟨p,p1,List.mem_append_left _ p2,p3,?_⟩
   rw [updN_other _ _ _ e,updN_other _ _ _ (fun e'=>hq (by rw [← e']; exact p2))]
   exact p4
inductive BackWay (N:Nat) (adj:Nat→List Nat) (came:Nat→Int):Nat→List Nat→Prop
 | stop (x:Nat) (h:came x=-1) (hd:Diag N x):BackWay N adj came x [x]
 | step (x p:Nat) (c:List Nat) (h:came x=p) (hd:¬ Diag N x) (ha:x∈adj p) (hp:p<N*N) (hc:BackWay N adj came p c):BackWay N adj came x (x::c)
theorem CameOf.back {came:Nat→Int} (hq:∀ x∈q,x<N*N) (h0:∀ x∈q,¬ Diag N x→0<D x) (hc:CameOf N adj D q came):∀ n x,D x=n→x∈q→∃ c,BackWay N adj came x c∧c.length≤n+1
 | n,x,hn,hx=>by
  obtain ⟨a,b⟩:=hc.1 x (hq x hx)
  by_cases hd:Diag N x
  ·exact ⟨[x],.stop x (b (a.2 (.inl hd))) hd,by simp⟩
  ·have h1:0≤came x:=by
    apply Classical.byContradiction
    intro q'
    rcases a.1 (by omega) with q' | q'
    ·exact hd q'
    ·exact q' hx
   obtain ⟨p,p1,p2,p3,p4⟩:=hc.2 x (hq x hx) h1
   obtain ⟨c,c1,c2⟩:=CameOf.back hq h0 hc (n-1) p (by omega) p2
   exact ⟨x::c,.step x p c p1 hd p3 (hq p p2) c1,by simp; omega⟩
termination_by n=>n
decreasing_by all_goals (have:=h0 x hx hd; omega)
theorem BackWay.ne {came:Nat→Int} {x:Nat} {c:List Nat} (h:BackWay N adj came x c):∃ c',c=x::c':=by cases h<;>exact ⟨_,rfl⟩
theorem BackWay.next {came:Nat→Int} {x:Nat} {c:List Nat} (h:BackWay N adj came x c) (hx:x<N*N):∀ k y,c[k]?=some y→y<N*N∧((k+1<c.length∧∃ z,c[k+1]?=some z∧came y=z)∨(k+1=c.length∧came y=-1)):=by
 induction h with
 | stop x h hd =>
  intro k y hy
  cases k with
  | zero=>simp at hy; subst hy; exact ⟨hx,.inr ⟨rfl,h⟩⟩
  | succ k=>simp at hy
 | step x p c hcm hnd ha hp hc ih =>
  intro k y hy
  obtain ⟨c',rfl⟩:=hc.ne
  cases k with
  | zero=>simp at hy; subst hy; exact ⟨hx,.inl ⟨by simp,p,rfl,hcm⟩⟩
  | succ k =>
   have hy:(p::c')[k]?=some y:=by simpa using hy
   obtain ⟨h1,h2⟩:=ih hp k y hy
   refine ⟨h1,h2.imp ?_ ?_⟩
   ·rintro ⟨a,z,b,d⟩; exact ⟨by simpa using a,z,by simpa using b,d⟩
   ·rintro ⟨a,b⟩; exact ⟨by simpa using a,b⟩
theorem BackWay.way {came:Nat→Int} {x:Nat} {c:List Nat} (h:BackWay N adj came x c) (hx:x<N*N) :
 (∀ i,i<c.length→c.reverse.getD i 0<N*N)∧(∀ i,i+1<c.length→c.reverse.getD (i+1) 0∈adj (c.reverse.getD i 0))∧Diag N (c.reverse.getD 0 0)∧(∀ i,0<i→i<c.length→¬ Diag N (c.reverse.getD i 0))∧c.reverse.getD (c.length-1) 0=x∧0<c.length:=by
 induction h with
 | stop x _ hd=>exact ⟨fun i hi=>by simp at hi; subst hi; simpa using hx,fun i hi=>by simp at hi,by simpa using hd,fun i h1 h2=>by simp at h2; omega,by simp,by simp⟩
 | step x p c hcm hnd ha hp hc ih =>
  obtain ⟨i1,i2,i3,i4,i5,i6⟩:=ih hp
  have g1:∀ i,i<c.length→(x::c).reverse.getD i 0=c.reverse.getD i 0:=fun i hi=>by
   rw [List.reverse_cons,List.getD_eq_getElem?_getD,List.getElem?_append_left (by simpa using hi)]; rfl
  have g2:(x::c).reverse.getD c.length 0=x:=by
   rw [List.reverse_cons,List.getD_eq_getElem?_getD,List.getElem?_append_right (by simp)]; simp
  refine ⟨fun i hi=>?_,fun i hi=>?_,?_,fun i h1 h2=>?_,?_,by simp⟩
  ·by_cases e:i<c.length
   ·rw [g1 i e]; exact i1 i e
   ·obtain rfl:i=c.length:=by simp at hi; omega
    rw [g2]; exact hx
  ·have hi:i+1<c.length+1:=by simpa using hi
   rw [g1 i (by omega)]
   by_cases e:i+1<c.length
   ·rw [g1 _ e]; exact i2 i e
   ·obtain rfl:i=c.length-1:=by omega
    rw [i5,show c.length-1+1=c.length by omega,g2]; exact ha
  ·rw [g1 0 i6]; exact i3
  ·by_cases e:i<c.length
   ·rw [g1 i e]; exact i4 i h1 e
   ·obtain rfl:i=c.length:=by simp at h2; omega
    rw [g2]; exact hnd
  ·rw [List.length_cons,Nat.add_sub_cancel,g2]
theorem MIn.met (h:MIn N adj D q i v pre) {came:Nat→Int} (hc:CameOf N adj D q came) {t:Nat} (hv:¬ Diag N v) (ht:Diag N t) (htl:t<N*N) (ha:t∈adj v) :
 ∃ c,BackWay N adj came v c∧ApartWay N adj (c.reverse++[t])∧(c.reverse++[t]).length=D v+2∧∀ u,ApartWay N adj u→(c.reverse++[t]).length≤u.length:=by
 have hvq:v∈q:=List.mem_of_getElem? h.at_
 obtain ⟨c,hb,hl⟩:=hc.back h.low (fun x hx hd=>(h.old x (h.low x hx) hd).1 hx) (D v) v rfl hvq
 obtain ⟨w1,w2,w3,w4,w5,w6⟩:=hb.way (h.low v hvq)
 have h2:2≤c.length:=by
  obtain ⟨c',rfl⟩:=hb.ne
  cases hb with
  | stop _ _ hd=>exact absurd hd hv
  | step _ p _ _ _ _ _ hc'=>obtain ⟨_,rfl⟩:=hc'.ne; simp
 have g1:∀ i,i<c.length→(c.reverse++[t]).getD i 0=c.reverse.getD i 0:=fun i hi=>by
  rw [List.getD_eq_getElem?_getD,List.getElem?_append_left (by simpa using hi)]; rfl
 have g2:(c.reverse++[t]).getD c.length 0=t:=by
  rw [List.getD_eq_getElem?_getD,List.getElem?_append_right (by simp)]; simp
 have hL:(c.reverse++[t]).length=c.length+1:=by simp
 have hw:ApartWay N adj (c.reverse++[t]):=by
  refine ⟨by omega,fun i hi=>?_,fun i hi=>?_,?_,?_,fun i h1 h2=>?_⟩
  ·by_cases e:i<c.length
   ·rw [g1 i e]; exact w1 i e
   ·obtain rfl:i=c.length:=by omega
    rw [g2]; exact htl
  ·rw [g1 i (by omega)]
   by_cases e:i+1<c.length
   ·rw [g1 _ e]; exact w2 i e
   ·obtain rfl:i=c.length-1:=by omega
    rw [w5,show c.length-1+1=c.length by omega,g2]; exact ha
  ·rw [g1 0 (by omega)]; exact w3
  ·rw [hL,Nat.add_sub_cancel,g2]; exact ht
  ·rw [g1 i (by omega)]; exact w4 i h1 (by omega)
 have hmin:∀ u,ApartWay N adj u→D v+2≤u.length:=fun u hu=>by have:=h.best hu; omega
 have:=hmin _ hw
 refine ⟨c,hb,hw,by omega,fun u hu=>?_⟩
 have:=hmin u hu
 omega
end
def stepM (N v:Nat) (s:(Nat→Int)×List Nat) (t:Nat):(Nat→Int)×List Nat:=if ¬ Diag N t∧s.1 t<0 then (updN s.1 t (v:Int),s.2++[t]) else s
def rowM (N:Nat) (adj:Nat→List Nat) (v:Nat) (s:(Nat→Int)×List Nat) (k:Nat):(Nat→Int)×List Nat:=((adj v).take k).foldl (stepM N v) s
def stM (N:Nat) (adj:Nat→List Nat):Nat→(Nat→Int)×List Nat
 | 0=>(fun _=>-1,diags N)
 | j+1=>match (stM N adj j).2[j]? with
  | some v=>rowM N adj v (stM N adj j) (adj v).length
  | none=>stM N adj j
theorem rowM_succ {N:Nat} {adj:Nat→List Nat} {v k t:Nat} {s:(Nat→Int)×List Nat} (h:(adj v)[k]?=some t):rowM N adj v s (k+1)=stepM N v (rowM N adj v s k) t:=by
 unfold rowM
 rw [List.take_add_one,h,List.foldl_append]; rfl
theorem stM_succ {N:Nat} {adj:Nat→List Nat} {j v:Nat} (h:(stM N adj j).2[j]?=some v):stM N adj (j+1)=rowM N adj v (stM N adj j) (adj v).length:=by
 rw [stM,h]
def NoHit (N:Nat) (adj:Nat→List Nat) (j:Nat):Prop:=∀ v,(stM N adj j).2[j]?=some v→∀ t∈adj v,Diag N t→Diag N v
def MeetIs (N:Nat) (adj:Nat→List Nat) (ws:List Nat):Prop :=
 ∃ j v k t c,(stM N adj j).2[j]?=some v∧(adj v)[k]?=some t∧Diag N t∧¬ Diag N v∧BackWay N adj (rowM N adj v (stM N adj j) k).1 v c∧ws=c.reverse++[t]∧(∀ i,i<j→NoHit N adj i)∧∀ i x,i<k→(adj v)[i]?=some x→Diag N x→Diag N v
theorem BackWay.unique {N:Nat} {adj:Nat→List Nat} {came:Nat→Int} {x:Nat} {c:List Nat} (h:BackWay N adj came x c):∀ {d:List Nat},BackWay N adj came x d→c=d:=by
 induction h with
 | stop x h hd =>
  intro d k
  cases k with
  | stop=>rfl
  | step _ p c' h' hd' _ _ _=>exact absurd hd hd'
 | step x p c hcm hnd ha hp hc ih =>
  intro d k
  cases k with
  | stop _ _ hd=>exact absurd hd hnd
  | step _ p' c' h' _ _ _ hc' =>
   rw [hcm] at h'
   obtain rfl:p=p':=by omega
   rw [ih hc']
theorem MeetIs.unique {N:Nat} {adj:Nat→List Nat} {ws us:List Nat} (h:MeetIs N adj ws) (k:MeetIs N adj us):ws=us:=by
 obtain ⟨j,v,m,t,c,a1,a2,a3,a4,a5,rfl,a7,a8⟩:=h
 obtain ⟨j',v',m',t',c',b1,b2,b3,b4,b5,rfl,b7,b8⟩:=k
 have ej:j=j':=by
  rcases Nat.lt_trichotomy j j' with e | e | e
  ·exact absurd (b7 j e v a1 t (List.mem_of_getElem? a2) a3) a4
  ·exact e
  ·exact absurd (a7 j' e v' b1 t' (List.mem_of_getElem? b2) b3) b4
 subst ej
 rw [a1] at b1
 obtain rfl:v=v':=Option.some.inj b1
 have em:m=m':=by
  rcases Nat.lt_trichotomy m m' with e | e | e
  ·exact absurd (b8 m t e a2 a3) a4
  ·exact e
  ·exact absurd (a8 m' t' e b2 b3) b4
 subst em
 rw [a2] at b2
 obtain rfl:t=t':=Option.some.inj b2
 rw [a5.unique b5]
open Go.RowKit
set_option maxRecDepth 100000
end Go.Proofs.YtkaoebokbfcmhaaGreatDoor
namespace Go.Proofs.YtkaoebokbfcmhaaGreatDoor
open Go.RowKit Go.Shelf
set_option maxRecDepth 100000
def Tryz.laysRev_ren:Go.Shelf.Ren:=⟨fun | 112=>150 | n=>n,fun | 28=>22 | 3=>3 | 4=>4 | 0=>0 | n=>n,fun | n=>n⟩
theorem Tryz.laysRev:Go.Proofs.Lays.n112 Tryz.prog Tryz.laysRev_ren:={
 mixed:=by kernel_rfl
 f112:=Tryz.func150.trans (congrArg some (by kernel_rfl))
 t0:=Tryz.underlying0
 a0:=Tryz.isAgg0
 z0:=Tryz.sizeOf0
 v0:=Tryz.zeroValue0
 t3:=Tryz.underlying3
 a3:=Tryz.isAgg3
 z3:=Tryz.sizeOf3
 v3:=Tryz.zeroValue3
 t4:=Tryz.underlying4
 a4:=Tryz.isAgg4
 z4:=Tryz.sizeOf4
 v4:=Tryz.zeroValue4
 t28:=Tryz.underlying22
 a28:=Tryz.isAgg22
 z28:=Tryz.sizeOf22
 v28:=Tryz.zeroValue22 }
theorem setCells_own {B g n cap:Nat} {w0:World}:∀ (zs:List Int) (o:Nat) (xs:List Int) (w:World),xs.length=n→o+zs.length≤n→OwnI B w (.slice (some ⟨g,0,none⟩) n cap) xs→Below B w0 w →
 OwnI B (w.setCells g o (zs.map (Value.int .i64))) (.slice (some ⟨g,0,none⟩) n cap) (xs.take o++zs++xs.drop (o+zs.length))∧Below B w0 (w.setCells g o (zs.map (Value.int .i64)))
 | [],o,xs,w,_,_,h,hb=>⟨by simpa [World.setCells] using h,hb⟩
 | z::r,o,xs,w,hn,ho,h,hb=>by
  have hol:o<xs.length:=by simp at ho; omega
  have h1:=h.set o hol z
  have h2:=h.setBelow hb o hol (.int .i64 z)
  rw [valAt_row] at h1 h2
  have ih:=setCells_own r (o+1) (xs.set o z) _ (by simpa using hn) (by simp at ho; omega) h1 h2
  have e:(xs.set o z).take (o+1)++r++(xs.set o z).drop (o+1+r.length)=xs.take o++(z::r)++xs.drop (o+(z::r).length):=by
   rw [List.take_set,List.drop_set_of_lt (by omega)]
   rw [show (xs.take (o+1)).set o z=xs.take o++[z] by rw [take_snoc xs o hol,List.set_append_right _ _ (by simp; omega)]; simp [show o-min o xs.length=0 by omega]]
   simp [show o+1+r.length=o+(r.length+1) by omega]
  rw [e] at ih
  exact ih
theorem reverse_own (B:Nat) (v:Value) (xs:List Int) (w:World) (h:OwnI B w v xs) (hl:xs.length≤9223372036854775807) :
 Calls Tryz.prog 150 #[v] w fun e w'=>e=.returned (.tuple #[])∧OwnI B w' v xs.reverse∧Below B w w':=by
 rcases h.2 with ⟨rfl,hn⟩ | ⟨g,cap,cur,rfl,hb,hg,hn,hm,hs,ht⟩
 ·obtain rfl:=List.length_eq_zero_iff.1 hn
  refine Calls.mono (Any.slices_Reverse_int_empty Tryz.laysRev none 0 w) ?_
  rintro e w' ⟨rfl,rfl⟩
  exact ⟨rfl,h,Below.refl _ _⟩
 ·refine Calls.mono (Any.slices_Reverse_int_cells Tryz.laysRev g 0 xs.length cap xs w (Nat.le_refl _) hl (fun j hj=>?_) (fun j hj=>?_)) ?_
  ·have:=h.at.cellD j hj
   rw [valAt_row] at this
   simpa using this
  ·have:=h.frz j hj
   rw [valAt_row] at this
   simpa using this
  ·rintro e w' ⟨rfl,q,rfl⟩
   rw [List.take_length]
   have:=setCells_own (w0:=w) xs.reverse 0 xs (w.drewN q) rfl (by simp) (h.drewN q) (below_drewN (Below.refl _ _) q)
   simp at this
   simpa using ⟨this.1,this.2⟩
end Go.Proofs.YtkaoebokbfcmhaaGreatDoor
namespace Go.Proofs.YtkaoebokbfcmhaaGreatDoor
open Go.RowKit
set_option maxRecDepth 100000
end Go.Proofs.YtkaoebokbfcmhaaGreatDoor
namespace Go.Proofs.YtkaoebokbfcmhaaGreatDoor
open Go.RowKit Go.Shelf
attribute [local go_sem] Oper.semAt_some
set_option maxRecDepth 100000
end Go.Proofs.YtkaoebokbfcmhaaGreatDoor
namespace Go.Proofs.YtkaoebokbfcmhaaGreatDoor
open Go.RowKit Go.Shelf Go.Sort
set_option maxRecDepth 100000
def Tryz.laysSort_ren:Go.Shelf.Ren:=⟨fun | 5=>98 | 8=>131 | 7=>130 | 19=>166 | 20=>167 | 10=>157 | 11=>158 | 12=>159 | 13=>160 | 14=>161 | 15=>162 | 16=>163 | 17=>164 | 18=>165 | 30=>181 | 31=>182 | 32=>183 | 33=>184 | 34=>185 | 35=>114 | 40=>193 | n=>n,fun | 23=>22 | 25=>3 | 3=>3 | 32=>108 | 22=>22 | 0=>0 | 44=>82 | 46=>50 | 4=>4 | 36=>235 | 35=>234 | 41=>219 | 5=>5 | 9=>9 | 53=>262 | 57=>266 | 63=>274 | 64=>275 | n=>n,fun | n=>n⟩
theorem Tryz.laysSort:Go.Proofs.SlLaysM.n5 Tryz.prog Tryz.laysSort_ren:={
 mixed:=by kernel_rfl
 f5:=⟨Tryz.f98.name,by decide,Tryz.func98.trans (congrArg some (by kernel_rfl))⟩
 f7:=⟨Tryz.f130.name,by decide,Tryz.func130.trans (congrArg some (by kernel_rfl))⟩
 f8:=Tryz.func131.trans (congrArg some (by kernel_rfl))
 f10:=⟨Tryz.f157.name,by decide,Tryz.func157.trans (congrArg some (by kernel_rfl))⟩
 f11:=⟨Tryz.f158.name,by decide,Tryz.func158.trans (congrArg some (by kernel_rfl))⟩
 f12:=⟨Tryz.f159.name,by decide,Tryz.func159.trans (congrArg some (by kernel_rfl))⟩
 f13:=⟨Tryz.f160.name,by decide,Tryz.func160.trans (congrArg some (by kernel_rfl))⟩
 f14:=⟨Tryz.f161.name,by decide,Tryz.func161.trans (congrArg some (by kernel_rfl))⟩
 f15:=⟨Tryz.f162.name,by decide,Tryz.func162.trans (congrArg some (by kernel_rfl))⟩
 f16:=⟨Tryz.f163.name,by decide,Tryz.func163.trans (congrArg some (by kernel_rfl))⟩
 f17:=⟨Tryz.f164.name,by decide,Tryz.func164.trans (congrArg some (by kernel_rfl))⟩
 f18:=⟨Tryz.f165.name,by decide,Tryz.func165.trans (congrArg some (by kernel_rfl))⟩
 f19:=Tryz.func166.trans (congrArg some (by kernel_rfl))
 f20:=Tryz.func167.trans (congrArg some (by kernel_rfl))
 f30:=⟨Tryz.f181.name,by decide,Tryz.func181.trans (congrArg some (by kernel_rfl))⟩
 f31:=Tryz.func182.trans (congrArg some (by kernel_rfl))
 f32:=Tryz.func183.trans (congrArg some (by kernel_rfl))
 f33:=⟨Tryz.f184.name,by decide,Tryz.func184.trans (congrArg some (by kernel_rfl))⟩
 f34:=⟨Tryz.f185.name,by decide,Tryz.func185.trans (congrArg some (by kernel_rfl))⟩
 f35:=⟨Tryz.f114.name,by decide,Tryz.func114.trans (congrArg some (by kernel_rfl))⟩
 f40:=⟨Tryz.f193.name,by decide,Tryz.func193.trans (congrArg some (by kernel_rfl))⟩
 t0:=Tryz.underlying0
 a0:=Tryz.isAgg0
 z0:=Tryz.sizeOf0
 v0:=Tryz.zeroValue0
 t3:=Tryz.underlying3
 a3:=Tryz.isAgg3
 z3:=Tryz.sizeOf3
 v3:=Tryz.zeroValue3
 t4:=Tryz.underlying4
 a4:=Tryz.isAgg4
 z4:=Tryz.sizeOf4
 v4:=Tryz.zeroValue4
 t5:=Tryz.underlying5
 a5:=Tryz.isAgg5
 z5:=Tryz.sizeOf5
 v5:=Tryz.zeroValue5
 t9:=Tryz.underlying9
 a9:=Tryz.isAgg9
 z9:=Tryz.sizeOf9
 v9:=Tryz.zeroValue9
 t22:=Tryz.underlying22
 a22:=Tryz.isAgg22
 z22:=Tryz.sizeOf22
 v22:=Tryz.zeroValue22
 t23:=Tryz.underlying22
 a23:=Tryz.isAgg22
 z23:=Tryz.sizeOf22
 v23:=Tryz.zeroValue22
 t25:=Tryz.underlying3
 a25:=Tryz.isAgg3
 z25:=Tryz.sizeOf3
 v25:=Tryz.zeroValue3
 t32:=Tryz.underlying108
 a32:=Tryz.isAgg108
 z32:=Tryz.sizeOf108
 v32:=Tryz.zeroValue108
 t35:=Tryz.underlying234
 a35:=Tryz.isAgg234
 z35:=Tryz.sizeOf234
 v35:=Tryz.zeroValue234
 t36:=Tryz.underlying235
 a36:=Tryz.isAgg235
 z36:=Tryz.sizeOf235
 v36:=Tryz.zeroValue235
 t41:=Tryz.underlying219
 a41:=Tryz.isAgg219
 z41:=Tryz.sizeOf219
 v41:=Tryz.zeroValue219
 t44:=Tryz.underlying82
 a44:=Tryz.isAgg82
 z44:=Tryz.sizeOf82
 v44:=Tryz.zeroValue82
 t46:=Tryz.underlying50
 a46:=Tryz.isAgg50
 z46:=Tryz.sizeOf50
 v46:=Tryz.zeroValue50
 t53:=Tryz.underlying262
 a53:=Tryz.isAgg262
 z53:=Tryz.sizeOf262
 v53:=Tryz.zeroValue262
 t57:=Tryz.underlying266
 a57:=Tryz.isAgg266
 z57:=Tryz.sizeOf266
 v57:=Tryz.zeroValue266
 t63:=Tryz.underlying274
 a63:=Tryz.isAgg274
 z63:=Tryz.sizeOf274
 v63:=Tryz.zeroValue274
 t64:=Tryz.underlying275
 a64:=Tryz.isAgg275
 z64:=Tryz.sizeOf275
 v64:=Tryz.zeroValue275 }
def srt (xs:List Int):List Int:=xs.mergeSort fun x y=>decide (x≤y)
theorem srt_length (xs:List Int):(srt xs).length=xs.length:=by simp [srt]
theorem sort_own (B:Nat) (v:Value) (xs:List Int) (w:World) (h:OwnI B w v xs) (hl:xs.length≤17592186044416) (hB:B≤w.heap.size) :
 Calls Tryz.prog 98 #[v] w fun e w'=>e=.returned (.tuple #[])∧OwnI B w' v (srt xs)∧Below B w w':=by
 rcases h.2 with ⟨rfl,hn⟩ | ⟨g,cap,cur,rfl,hb,hg,hn,hcm,hs,ht⟩
 ·obtain rfl:=List.length_eq_zero_iff.1 hn
  refine Calls.mono (AnyM.slices_Sort_int_none Tryz.laysSort none 0 w) ?_
  rintro e w' ⟨rfl,rfl⟩
  exact ⟨rfl,by simpa [srt] using h,Below.refl _ _⟩
 ·have hlen:xs.length<4611686018427387904:=by omega
  refine Calls.mono (AnyM.slices_Sort_int Tryz.laysSort g 0 cap xs w (holds_of_block_i hg (by simpa using ht)) (Array.getElem?_eq_some_iff.1 hg).1 hlen) ?_
  rintro e w' ⟨rfl,n,os,rfl⟩
  refine ⟨rfl,?_,(Below.refl _ _).grown (grownBy_sorted_i _) hB (fun j hj=>by cases hj; exact hb)⟩
  have:=ownsRow_sorted_i (n:=n) (os:=os) (ts:=srt xs) (srt_length xs) hb hg hn hcm hs
  unfold OwnI
  rw [srt_length]
  exact this
end Go.Proofs.YtkaoebokbfcmhaaGreatDoor
namespace Go.Proofs.YtkaoebokbfcmhaaGreatDoor
open Go.RowKit
set_option maxRecDepth 100000
def invP (p:List Int) (x:Int):Int:=idxOf (fun y=>x==y) p
theorem index_any (v:Value) (xs:List Int) (x:Int) (w:World) (h:IntsAt w v xs) :
 Calls Tryz.prog 148 #[v,.int .i64 x] w fun e w'=>e=.returned (.int .i64 (invP xs x))∧w=w':=by
 have hlen:=h.len
 have hm:=h.len_le
 replace h:=Hd h
 go_enter Tryz.func148,Tryz.ntmps148
 go_wp2
 go_loop [8] (fun i=>∃ j:Nat,j≤xs.length∧i=.int .i64 j∧∀ t (ht:t<xs.length),t<j→(x==xs[t])=false) (fun i=>xs.length-(intOf i).toNat)
 case atStart=>exact ⟨0,by omega,rfl,fun t ht h=>by omega⟩
 case round =>
  obtain ⟨j,hj,rfl,hne⟩:=hrel
  by_cases hjl:j<xs.length
  ·have i1:=h.out.idx j hjl
   have c1:=h.out.cell j hjl
   by_cases he:(x==xs[j])=true
   ·have hr:Hid (invP xs x=j):=Hd (idxOf_at j hjl he (fun t ht htj=>hne t ht htj))
    have he':x=xs[j]:=by simpa using he
    rw [← he'] at c1
    clear he he'
    replace hne:=Hd hne
    go_wp2
    go_ret
    exact ⟨ret_int hr.out.symm,rfl⟩
   ·have hn:Hid (∀ t (ht:t<xs.length),t<j+1→(x==xs[t])=false):=Hd (fun t ht htj=>by
     by_cases e:t=j
     ·subst e; simpa using he
     ·exact hne t ht (by omega))
    have he':(x==xs[j])=false:=by simpa using he
    obtain ⟨y,hy⟩:∃ y,y=xs[j]:=⟨_,rfl⟩
    rw [← hy] at c1 he'
    clear he hne hy
    go_wp2
    go_round
    case rel=>exact ⟨j+1,by omega,by go_num,hn.out⟩
    case measure=>simp [intOf]; omega
  ·have hr:Hid (invP xs x=-1):=Hd (idxOf_neg (fun y hy=>by
    obtain ⟨t,ht,rfl⟩:=List.mem_iff_getElem.1 hy
    exact hne t ht (by omega)))
   replace hne:=Hd hne
   go_wp2
   go_ret
   exact ⟨ret_int hr.out.symm,rfl⟩
end Go.Proofs.YtkaoebokbfcmhaaGreatDoor
namespace Go.Proofs.YtkaoebokbfcmhaaGreatDoor
theorem invP_at {T:List Int} {j:Nat} (hj:j<T.length):∃ i:Nat,invP T (T.getD j 0)=i∧i≤j∧T.getD i 0=T.getD j 0:=by
 have ej:T.getD j 0=T[j]:=by simp [List.getD,hj]
 rw [ej]
 rcases idxOf_cases (fun y=>T[j]==y) T with ⟨_,hn⟩ | ⟨k,hk,hkl,hp,hm⟩
 ·have:=hn _ (List.getElem_mem hj); simp at this
 ·refine ⟨k,hk,?_,?_⟩
  ·apply Classical.byContradiction
   intro e
   have:=hm j hj (by omega)
   simp at this
  ·simp only [List.getD,List.getElem?_eq_getElem hkl,Option.getD_some]
   exact (show T[j]=T[k] by simpa using hp).symm
def SingleIs (T:List Int) (x y:Nat):Prop:=y<T.length∧invP T (T.getD y 0)=x∧x<y∧∀ i,i<y→(i:Int)≤invP T (T.getD i 0)
theorem SingleIs.unique {T:List Int} {x y u v:Nat} (h:SingleIs T x y) (k:SingleIs T u v):x=u∧y=v:=by
 obtain ⟨h1,h2,h3,h4⟩:=h
 obtain ⟨k1,k2,k3,k4⟩:=k
 have e:y=v:=by
  rcases Nat.lt_trichotomy y v with e | e | e
  ·have:=k4 y e; rw [h2] at this; omega
  ·exact e
  ·have:=h4 v e; rw [k2] at this; omega
 subst e
 rw [h2] at k2
 exact ⟨by omega,rfl⟩
theorem img0_get {K:Nat} {T a:List Int} {i:Nat} (hi:i<a.length):(imgP K 0 T a).getD i 0=T.getD (a.getD i 0).toNat 0:=by
 rw [imgP_getD K 0 T a i (by omega)]
 have e:(a.drop i).take (2*0+1)=[a.getD i 0]:=by
  rw [List.drop_eq_getElem_cons hi,show 2*0+1=0+1 from rfl,List.take_succ_cons,List.take_zero]
  simp [List.getD,hi]
 rw [e]
 simp [numW]
theorem SingleIs.twins {K:Nat} {T:List Int} {x y:Nat} (hK:T.length=K) (h:SingleIs T x y):IsTwins K 0 T [(x:Int)] [(y:Int)]:=by
 obtain ⟨h1,h2,h3,h4⟩:=h
 have sx:Syms K [(x:Int)]:=fun z hz=>by simp at hz; subst hz; omega
 have sy:Syms K [(y:Int)]:=fun z hz=>by simp at hz; subst hz; omega
 refine ⟨sx,sy,rfl,by simp; omega,by simp,by simp,by simp,?_⟩
 have he:T.getD x 0=T.getD y 0:=by
  obtain ⟨i,i1,i2,i3⟩:=invP_at h1
  rw [h2] at i1
  obtain rfl:x=i:=by omega
  exact i3
 refine List.ext_getElem (by rw [imgP_length,imgP_length]; rfl) fun i h1 h2=>?_
 rw [imgP_length] at h1
 have hi:i=0:=by simp at h1; omega
 subst hi
 have g1:=img0_get (K:=K) (T:=T) (a:=[(x:Int)]) (i:=0) (by simp)
 have g2:=img0_get (K:=K) (T:=T) (a:=[(y:Int)]) (i:=0) (by simp)
 simp [List.getD] at g1 g2 he
 have l1:0<(imgP K 0 T [(x:Int)]).length:=by rw [imgP_length]; simp
 have l2:0<(imgP K 0 T [(y:Int)]).length:=by rw [imgP_length]; simp
 simp [List.getElem?_eq_getElem l1] at g1
 simp [List.getElem?_eq_getElem l2] at g2
 rw [g1,g2]
 exact he
theorem twins_pos {K R:Nat} {T a b:List Int} (h:IsTwins K R T a b):1≤a.length:=by
 have hl:=h.len
 have hn:=h.ne
 rcases a with _ | ⟨x,a⟩
 ·cases b with
  | nil=>exact absurd rfl hn
  | cons _ _=>simp at hl
 ·simp
theorem no_single {K:Nat} {T:List Int} (hK:T.length=K) (h:∀ i,i<T.length→(i:Int)≤invP T (T.getD i 0)) (a b:List Int):¬ IsTwins K 0 T a b:=by
 intro t
 apply t.ne
 have hinj:∀ i j,i<T.length→j<T.length→T.getD i 0=T.getD j 0→i≤j:=fun i j hi hj e=>by
  obtain ⟨p,p1,p2,_⟩:=invP_at hj
  have:=h i hi
  rw [e,p1] at this
  omega
 refine List.ext_getElem t.len fun i h1 h2=>?_
 have e:=congrArg (fun l=>l.getD i 0) t.img
 simp only [img0_get h1,img0_get h2] at e
 simp only [List.getD,List.getElem?_eq_getElem h1,List.getElem?_eq_getElem h2,Option.getD_some] at e
 have s1:=t.sa _ (List.getElem_mem h1)
 have s2:=t.sb _ (List.getElem_mem h2)
 have l1:=hinj a[i].toNat b[i].toNat (by omega) (by omega) e
 have l2:=hinj b[i].toNat a[i].toNat (by omega) (by omega) e.symm
 omega
theorem IsTwins.long {K R:Nat} {T a b:List Int} (h:IsTwins K R T a b):4*R+1≤a.length:=by
 apply Classical.byContradiction
 intro hl
 apply h.ne
 have hlen:=h.len
 have hlow:=h.low
 refine List.ext_getElem? fun i=>?_
 by_cases hi:i<2*R
 ·have:=congrArg (·[i]?) h.front
  simpa [List.getElem?_take,hi] using this
 ·by_cases hi2:i<a.length
  ·have:=congrArg (·[i-(a.length-2*R)]?) h.back
   simp only [List.getElem?_drop] at this
   rw [show a.length-2*R+(i-(a.length-2*R))=i by omega,show b.length-2*R+(i-(a.length-2*R))=i by omega] at this
   exact this
  ·rw [List.getElem?_eq_none (by omega),List.getElem?_eq_none (by omega)]
def FinIs (K R:Nat) (T a b:List Int):Prop :=
 (R=0∧∃ x y,SingleIs T x y∧a=[(x:Int)]∧b=[(y:Int)]) ∨
 (R≠0∧∃ ws,MeetIs (pw K (2*R)) (pairL K (pw K (2*R)) T) ws∧a=alongW K (2*R) (·/pw K (2*R)) ws∧b=alongW K (2*R) (·%pw K (2*R)) ws)
theorem FinIs.unique {K R:Nat} {T a b c d:List Int} (h:FinIs K R T a b) (k:FinIs K R T c d):a=c∧b=d:=by
 rcases h with ⟨h0,x,y,h1,rfl,rfl⟩ | ⟨h0,ws,h1,rfl,rfl⟩<;>rcases k with ⟨k0,u,v,k1,rfl,rfl⟩ | ⟨k0,us,k1,rfl,rfl⟩
 ·obtain ⟨rfl,rfl⟩:=h1.unique k1; exact ⟨rfl,rfl⟩
 ·exact absurd h0 k0
 ·exact absurd k0 h0
 ·obtain rfl:=h1.unique k1; exact ⟨rfl,rfl⟩
open Go.RowKit
theorem IntsAt.piece {w:World} {a:Option Addr} {cap:Nat} {xs:List Int} (h:IntsAt w (.slice a xs.length cap) xs) (k l:Nat) (hk:k≤l) (hl:l≤xs.length) :
 IntsAt w (sliced a k l cap 1) ((xs.take l).drop k):=by
 obtain ⟨a',cap',e,h1,h2,h3,h4⟩:=h
 injection e with e1 _ e3
 subst e1 e3
 have hlen:((xs.take l).drop k).length=l-k:=by simp; omega
 refine ⟨if cap=k then a else a.map (·.add (k*1)),cap-k,by rw [hlen]; rfl,by rw [hlen]; omega,by omega,?_,fun i hi=>?_⟩
 ·intro hn
  by_cases hc:cap=k
  ·omega
  ·rw [if_neg hc] at hn
   have:=h3 (Option.map_eq_none_iff.1 hn)
   omega
 ·rw [hlen] at hi
  have hc:¬ cap=k:=by omega
  show w.cell? (valAt (.slice (if cap=k then a else a.map (·.add (k*1))) _ _) i)=_
  rw [if_neg hc]
  cases a with
  | none=>have:=h3 rfl; omega
  | some p =>
   have h5:=h4 (k+i) (by omega)
   simp only [valAt] at h5
   show w.cell? ((p.add (k*1)).add i)=_
   rw [Nat.mul_one,show (p.add k).add i=p.add (k+i) by unfold Addr.add; by_cases hk0:k=0<;>by_cases hi0:i=0<;>simp [hk0,hi0,Nat.add_assoc],h5]
   simp
theorem IntsAt.post {w:World} {v:Value} {xs:List Int} (h:IntsAt w v xs) (k:Nat) (hk:k≤xs.length) :
 ∃ u,(∀ w',(Instr.slice 22 v (some (.int .i64 k)) none none).run Tryz.prog w'=.ok u w')∧IntsAt w u (xs.drop k):=by
 have h':=h
 obtain ⟨a,cap,rfl,_⟩:=h'
 refine ⟨sliced a k xs.length cap 1,fun w'=>?_,?_⟩
 ·rw [run_slice_l w' 22 a xs.length cap uIntsE .i64 k (by omega) (by omega),eInts,sInt]
  rfl
 ·have:=h.piece k xs.length hk (Nat.le_refl _)
  rwa [List.take_length] at this
theorem IntsAt.mid {w:World} {v:Value} {xs:List Int} (h:IntsAt w v xs) (k l:Nat) (hk:k≤l) (hl:l≤xs.length) :
 ∃ u,(∀ w',(Instr.slice 22 v (some (.int .i64 k)) (some (.int .i64 l)) none).run Tryz.prog w'=.ok u w')∧IntsAt w u ((xs.take l).drop k):=by
 have h':=h
 obtain ⟨a,cap,rfl,h1,_⟩:=h'
 refine ⟨sliced a k l cap 1,fun w'=>?_,h.piece k l hk hl⟩
 rw [run_slice_lh w' 22 a xs.length cap uIntsE .i64 .i64 k l (by omega) (by omega) (by omega),eInts,sInt]
 rfl
theorem IntsAt.front {w:World} {v:Value} {xs:List Int} (h:IntsAt w v xs) (l:Nat) (hl:l≤xs.length) :
 ∃ u,(∀ w',(Instr.slice 22 v none (some (.int .i64 l)) none).run Tryz.prog w'=.ok u w')∧IntsAt w u (xs.take l):=by
 have h':=h
 obtain ⟨a,cap,rfl,h1,_⟩:=h'
 refine ⟨sliced a 0 l cap 1,fun w'=>?_,?_⟩
 ·rw [run_slice_h w' 22 a xs.length cap uIntsE .i64 l (by omega) (by omega),eInts,sInt]
  rfl
 ·have:=h.piece 0 l (Nat.zero_le _) hl
  simpa using this
set_option maxRecDepth 100000
set_option maxHeartbeats 8000000
theorem widened1_any (K R d:Nat) (va:Option Addr) (vn vc:Nat) (T:List Int) (p q:Nat) (v:Value) (ys:List Int) (w:World)
 (h:IntsAt w (.slice va vn vc) T) (hr:RuleOk K R T) (hv:IntsAt w v ys) (hy:Syms K ys) (hyl:ys.length=2*(R+d)+1)
 (hRd:R+d≤3)
 (x0:w.cell? ⟨p,0,none⟩=some (.int .i64 K)) (x1:w.cell? ⟨p,1,none⟩=some (.int .i64 R)) (x2:w.cell? ⟨p,2,none⟩=some (.slice va vn vc)) (x3:w.cell? ⟨q,0,none⟩=some (.int .i64 d)) :
 Calls Tryz.prog 180 #[v,.pointer (some ⟨p,0,none⟩),.pointer (some ⟨q,0,none⟩)] w (Ret1 (fun x _=>x=.int .i64 (T.getD (numW K ((ys.drop d).take (2*R+1))) 0)) w):=by
 have lv:=hv.len
 obtain ⟨u,hu,hiu⟩:=hv.mid d (ys.length-d) (by omega) (by omega)
 have eL:(ys.take (ys.length-d)).drop d=(ys.drop d).take (2*R+1):=by
  rw [List.drop_take]; congr 1; omega
 rw [eL] at hiu
 have hD:(ys.length:Int)-(d:Int)=((ys.length-d:Nat):Int):=by omega
 have hle:ys.length≤7:=by omega
 have hsy:Syms K ((ys.drop d).take (2*R+1)):=syms_take (syms_drop hy _) _
 have hsl:((ys.drop d).take (2*R+1)).length=2*R+1:=by simp; omega
 generalize hY:T.getD (numW K ((ys.drop d).take (2*R+1))) 0=Y
 generalize (ys.drop d).take (2*R+1)=zs at *
 obtain ⟨e,hee⟩:∃ e,ys.length-d=e:=⟨_,rfl⟩
 rw [hee] at hD hu
 have he7:e≤7:=by omega
 have hwe:IntKind.i64.wrap (e:Int)=e:=wrapK (by omega) (by omega)
 obtain ⟨L,hL⟩:∃ L,ys.length=L:=⟨_,rfl⟩
 rw [hL] at lv hD hle
 have hd3:d≤3:=by omega
 replace hY:=Hd hY
 replace h:=Hd h
 replace hv:=Hd hv
 replace hy:=Hd hy
 replace hsy:=Hd hsy
 replace hsl:=Hd hsl
 replace hyl:=Hd hyl
 replace hr:=Hd hr
 replace hiu:=Hd hiu
 replace hL:=Hd hL
 clear hee eL
 go_enter Tryz.func180,Tryz.ntmps180
 go_upto_region 1 with fail
 refine wp_region_plan (fun w'=>w'.cell? ⟨p,0,none⟩=some (.int .i64 K)∧w'.cell? ⟨p,1,none⟩=some (.int .i64 R)∧w'.cell? ⟨p,2,none⟩=some (.slice va vn vc)∧w'.cell? ⟨q,0,none⟩=some (.int .i64 d)) 9 [(0,true),(1,true),(2,true),(3,true),(4,true),(5,true),(6,true),(7,true),(8,false)] (by kernel_rfl) (by kernel_rfl) ?_
 have hS:w.drew.cell? ⟨p,0,none⟩=some (.int .i64 K)∧w.drew.cell? ⟨p,1,none⟩=some (.int .i64 R)∧w.drew.cell? ⟨p,2,none⟩=some (.slice va vn vc)∧w.drew.cell? ⟨q,0,none⟩=some (.int .i64 d):=⟨x0,x1,x2,x3⟩
 refine pqY 5 hS ?_
 refine pqY 6 hS ?_
 refine pqY 7 hS ?_
 refine pqY 8 hS ?_
 refine pqY 9 hS ?_
 refine pqY 10 hS ?_
 refine pqY 11 hS ?_
 refine pqY 12 hS ?_
 refine headC rfl (fun KK hK=>?_)
 go_simp
 refine (symbol_any K R va vn vc T u zs _ h.out.drew hr.out hiu.out.drew hsy.out hsl.out).mono ?_
 rintro e w1 ⟨x,rfl,b1,rfl⟩
 rw [hY.out]
 have hS1:w1.cell? ⟨p,0,none⟩=some (.int .i64 K)∧w1.cell? ⟨p,1,none⟩=some (.int .i64 R)∧w1.cell? ⟨p,2,none⟩=some (.slice va vn vc)∧w1.cell? ⟨q,0,none⟩=some (.int .i64 d):=⟨cell_keep b1 hS.1,cell_keep b1 hS.2.1,cell_keep b1 hS.2.2.1,cell_keep b1 hS.2.2.2⟩
 refine hK _ _ hS1 ?_
 clear hK KK
 refine head0 ?_
 simp only [List.drop_succ_cons,List.drop_zero]
 clear hS hS1
 go_wp2
 refine NoPanic.normal ?_
 go_wp2
 go_ret
 exact ⟨_,rfl,Below.step ((Below.refl _ _).drew) b1,rfl⟩
theorem eg_widened1 (args:Array Value) (w:World):(callFunc 180 args).run Tryz.prog w=.ok (.enter 180 args) w:=by kernel_rfl
theorem madeP_wide (K R d:Nat) (T:List Int):madeP K (2*(R+d)+1) (fun ys=>T.getD (numW K ((ys.drop d).take (2*R+1))) 0) (pw K (2*(R+d)+1))=wideT K R d T:=rfl
theorem widened_any (K R d:Nat) (va:Option Addr) (vn vc:Nat) (T:List Int) (w:World) (h:IntsAt w (.slice va vn vc) T) (hr:RuleOk K R T) (hRd:R+d≤3) (Ri:Int) (hRi:Ri=((R+d:Nat):Int)) :
 Calls Tryz.prog 156 #[.agg #[.int .i64 K,.int .i64 R,.slice va vn vc],.int .i64 Ri] w (Ret1 (fun x w'=>∃ a n c,x=.agg #[.int .i64 K,.int .i64 ((R+d:Nat):Int),.slice a n c]∧OwnI w.heap.size w' (.slice a n c) (wideT K R d T)) w):=by
 have b0:=Below.step (belowAlloc w (.cells #[.int .i64 K,.int .i64 R,.slice va vn vc] 24)) (belowAlloc _ (.cells #[.int .i64 0,.int .i64 0,.slice none 0 0] 24))
 have b3:=Below.step b0 (belowAlloc _ (.cells #[.int .i64 d] 3))
 have q1:Box3 (((w.alloc (.cells #[.int .i64 K,.int .i64 R,.slice va vn vc] 24)).alloc (.cells #[.int .i64 0,.int .i64 0,.slice none 0 0] 24)).alloc (.cells #[.int .i64 d] 3)) w.heap.size (.int .i64 K) (.int .i64 R) (.slice va vn vc):=by simp [Box3,go_sem]
 have q2:Box3 (((w.alloc (.cells #[.int .i64 K,.int .i64 R,.slice va vn vc] 24)).alloc (.cells #[.int .i64 0,.int .i64 0,.slice none 0 0] 24)).alloc (.cells #[.int .i64 d] 3)) (w.heap.size+1) (.int .i64 0) (.int .i64 0) (.slice none 0 0):=by simp [Box3,go_sem]
 have q3:(((w.alloc (.cells #[.int .i64 K,.int .i64 R,.slice va vn vc] 24)).alloc (.cells #[.int .i64 0,.int .i64 0,.slice none 0 0] 24)).alloc (.cells #[.int .i64 d] 3)).cell? ⟨w.heap.size+2,0,none⟩=some (.int .i64 d):=by simp [go_sem]
 have hk1:=hr.k1
 have hk4:=hr.k4
 have hR3:=hr.r3
 have hsub:Ri-(R:Int)=(d:Int):=by omega
 have hRi3:0≤Ri∧Ri≤3:=by omega
 have h3:=h.below b3
 obtain ⟨W3,hW3⟩:∃ W3:World,W3=((w.alloc (.cells #[.int .i64 K,.int .i64 R,.slice va vn vc] 24)).alloc (.cells #[.int .i64 0,.int .i64 0,.slice none 0 0] 24)).alloc (.cells #[.int .i64 d] 3):=⟨_,rfl⟩
 have s3:W3.heap.size=w.heap.size+3:=by rw [hW3]; simp
 rw [← hW3] at b3 q1 q2 q3 h3
 replace hRi:=Hd hRi
 replace hr:=Hd hr
 replace hW3:=Hd hW3
 replace s3:=Hd s3
 replace q2:=Hd q2
 replace h3:=Hd h3
 go_enter Tryz.func156,Tryz.ntmps156
 go_wp2_with fail
 rw [← hW3.out]
 refine (made_two K (R+d) _ (.pointer (some ⟨w.heap.size,0,none⟩)) (.pointer (some ⟨w.heap.size+2,0,none⟩)) (fun ys=>T.getD (numW K ((ys.drop d).take (2*R+1))) 0) W3 hk1 hk4 hRd Ri hRi.out eg_widened1 (fun v ys w' hB hv hy hyl=>by
  have q11:=q1.below hB
  exact widened1_any K R d va vn vc T _ _ v ys w' (h3.out.below hB) hr.out hv hy hyl hRd q11.1.1 q11.1.2.1 q11.1.2.2 (cell_keep hB q3))).mono ?_
 rintro e w4 ⟨x,rfl,b4,a,n,c,rfl,ho⟩
 rw [madeP_wide] at ho
 obtain ⟨⟨y0,y1,y2⟩,f0,f1,f2⟩:=q2.out.below b4
 replace ho:=Hd ho
 clear q1 q3
 go_wp2
 refine bodyPost_ret (v:=.agg #[.int .i64 K,.int .i64 ((R+d:Nat):Int),.slice a n c]) (by simp [results,Tryz.results156,go_sem,y0,y1,y2]) rfl ⟨_,rfl,below_set3 (Below.step b3 b4) (Nat.le_succ _) _ _ _,a,n,c,rfl,?_⟩
 have:=s3.out
 exact (((ho.out.setBelowBase (a:=⟨w.heap.size+1,0,none⟩) (by simp; omega) _).setBelowBase (a:=⟨w.heap.size+1,1,none⟩) (by simp; omega) _).setBelowBase (a:=⟨w.heap.size+1,2,none⟩) (by simp; omega) _).mono (by omega)
theorem fwiden_ok (r:Nat→Addr) (K R d:Nat) (va:Option Addr) (vn vc:Nat) (T:List Int) (w:World) (hg:Glob r w) (h:IntsAt w (.slice va vn vc) T) (hr:RuleOk K R T) (hRd:R+d≤3) (Ri:Int) (hRi:Ri=((R+d:Nat):Int)) :
 Calls Tryz.prog 128 #[.agg #[.int .i64 K,.int .i64 R,.slice va vn vc],.int .i64 Ri] w (Ret2 (fun x y w'=>y=.nilIface∧∃ a n c,x=.agg #[.int .i64 K,.int .i64 ((R+d:Nat):Int),.slice a n c]∧OwnI w.heap.size w' (.slice a n c) (wideT K R d T)) w):=by
 have b0:=Below.step (belowAlloc w (.cells #[.int .i64 K,.int .i64 R,.slice va vn vc] 24)) (belowAlloc _ (.cells #[.int .i64 0,.int .i64 0,.slice none 0 0] 24))
 have q2:Box3 ((w.alloc (.cells #[.int .i64 K,.int .i64 R,.slice va vn vc] 24)).alloc (.cells #[.int .i64 0,.int .i64 0,.slice none 0 0] 24)) (w.heap.size+1) (.int .i64 0) (.int .i64 0) (.slice none 0 0):=by simp [Box3,go_sem]
 have q1:Box3 ((w.alloc (.cells #[.int .i64 K,.int .i64 R,.slice va vn vc] 24)).alloc (.cells #[.int .i64 0,.int .i64 0,.slice none 0 0] 24)) w.heap.size (.int .i64 K) (.int .i64 R) (.slice va vn vc):=by simp [Box3,go_sem]
 have hk1:=hr.k1
 have hk4:=hr.k4
 have hR3:=hr.r3
 have hck:=Hd hr.check
 have h1:R≤Ri:=by omega
 have h2:Ri≤3:=by omega
 have h1d:decide (Ri<(R:Int))=false:=by simp; omega
 have h2d:decide ((3:Int)<Ri)=false:=by simp; omega
 replace hRi:=Hd hRi
 replace hg:=Hd (hg.below b0)
 replace h:=Hd (h.below b0)
 replace hr:=Hd hr
 replace q1:=Hd q1
 replace q2:=Hd q2
 go_enter Tryz.func128,Tryz.ntmps128
 go_wp2_with fail
 refine (forms_check r _ K R va vn vc T _ hg.out h.out).mono ?_
 rintro e w1 ⟨x,rfl,hb,he⟩
 rw [hck.out] at he
 obtain rfl:=ErrIs.none_eq he
 have q11:=q1.out.below hb
 obtain ⟨⟨z0,z1,z2⟩,-,-,-⟩:=q11
 have s1:=hb.size
 simp only [World.size_alloc] at s1
 replace s1:=Hd s1
 go_wp2_with fail
 refine (widened_any K R d va vn vc T w1 (h.out.below hb) hr.out hRd Ri hRi.out).mono ?_
 rintro e w2 ⟨x,rfl,b2,a,n,c,rfl,ho⟩
 obtain ⟨⟨y0,y1,y2⟩,f0,f1,f2⟩:=q2.out.below (Below.step hb b2)
 replace ho:=Hd ho
 clear z0 z1 z2
 go_wp2
 refine bodyPost_ret (v:=.tuple #[.agg #[.int .i64 K,.int .i64 ((R+d:Nat):Int),.slice a n c],.nilIface]) (by simp [results,Tryz.results128,go_sem,y0,y1,y2]) rfl ⟨_,_,rfl,below_set3 (Below.step b0 (Below.step hb b2)) (Nat.le_succ _) _ _ _,rfl,a,n,c,rfl,?_⟩
 have:=s1.out
 exact (((ho.out.setBelowBase (a:=⟨w.heap.size+1,0,none⟩) (by simp; omega) _).setBelowBase (a:=⟨w.heap.size+1,1,none⟩) (by simp; omega) _).setBelowBase (a:=⟨w.heap.size+1,2,none⟩) (by simp; omega) _).mono (by omega)
def wkR (R:Nat):Nat:=if R=0 then 1 else R
def wkT (K R:Nat) (T:List Int):List Int:=if R=0 then wideT K 0 1 T else T
theorem wk_ok {K R:Nat} {T:List Int} (h:RuleOk K R T):RuleOk K (wkR R) (wkT K R T):=by
 unfold wkR wkT
 by_cases e:R=0
 ·subst e; rw [if_pos rfl,if_pos rfl]; exact wideT_ok (d:=1) h (by decide)
 ·rw [if_neg e,if_neg e]; exact h
theorem wk_pos (R:Nat):1≤wkR R:=by unfold wkR; split<;>omega
theorem wk_small {K R:Nat} {T:List Int} (h:RuleOk K R T) (hl:T.length≤256):(wkT K R T).length≤256:=by
 unfold wkT
 by_cases e:R=0
 ·subst e; rw [if_pos rfl,wideT_length]
  have h4:=h.k4
  have:pw K 3≤pw 4 3:=Nat.pow_le_pow_left h4 3
  have e4:pw 4 3=64:=by decide
  have:pw K (2*(0+1)+1)=pw K 3:=rfl
  omega
 ·rw [if_neg e]; exact hl
theorem nodes_le {K R:Nat} {T:List Int} (h:RuleOk K R T) (hR:1≤R) (hl:T.length≤256):pw K (2*R)≤81:=by
 have h1:=h.k1
 have h4:=h.k4
 have h3:=h.r3
 rw [h.len] at hl
 have hK:K=1∨K=2∨K=3∨K=4:=by omega
 have hR':R=1∨R=2∨R=3:=by omega
 rcases hK with rfl | rfl | rfl | rfl<;>rcases hR' with rfl | rfl | rfl<;>revert hl<;>decide
theorem working_ok (r:Nat→Addr) (K R:Nat) (va:Option Addr) (vn vc:Nat) (T:List Int) (w:World) (hg:Glob r w) (h:IntsAt w (.slice va vn vc) T) (hr:RuleOk K R T) (hl:T.length≤256) :
 Calls Tryz.prog 96 #[.agg #[.int .i64 K,.int .i64 R,.slice va vn vc]] w (Ret2 (fun x y w'=>y=.nilIface∧∃ a n c,x=.agg #[.int .i64 K,.int .i64 (wkR R),.slice a n c]∧IntsAt w' (.slice a n c) (wkT K R T)) w):=by
 have b0:=Below.step (belowAlloc w (.cells #[.int .i64 K,.int .i64 R,.slice va vn vc] 24)) (belowAlloc _ (.cells #[.int .i64 0,.int .i64 0,.slice none 0 0] 24))
 have q2:Box3 ((w.alloc (.cells #[.int .i64 K,.int .i64 R,.slice va vn vc] 24)).alloc (.cells #[.int .i64 0,.int .i64 0,.slice none 0 0] 24)) (w.heap.size+1) (.int .i64 0) (.int .i64 0) (.slice none 0 0):=by simp [Box3,go_sem]
 have q1:Box3 ((w.alloc (.cells #[.int .i64 K,.int .i64 R,.slice va vn vc] 24)).alloc (.cells #[.int .i64 0,.int .i64 0,.slice none 0 0] 24)) w.heap.size (.int .i64 K) (.int .i64 R) (.slice va vn vc):=by simp [Box3,go_sem]
 have hs:=Hd (smallP_small hr hl)
 have h0:=Hd h
 have hs0:w.heap.size+1<((w.alloc (.cells #[.int .i64 K,.int .i64 R,.slice va vn vc] 24)).alloc (.cells #[.int .i64 0,.int .i64 0,.slice none 0 0] 24)).heap.size:=by simp
 replace hg:=Hd (hg.below b0)
 replace h:=Hd (h.below b0)
 replace hr:=Hd hr
 replace q1:=Hd q1
 replace q2:=Hd q2
 replace hs0:=Hd hs0
 by_cases hR:R=0
 ·have e1:wkR R=R+1:=by unfold wkR; rw [if_pos hR,hR]
  have e2:wkT K R T=wideT K R 1 T:=by unfold wkT; rw [if_pos hR,hR]
  have hRq:((R:Int)==0)=true:=by simp [hR]
  rw [e1,e2]
  replace hR:=Hd hR
  clear e1 e2
  go_enter Tryz.func96,Tryz.ntmps96
  go_wp2_with fail
  refine (small_any r K R va vn vc T _ hg.out h.out).mono ?_
  rintro e w1 ⟨x,rfl,b1,he⟩
  rw [hs.out] at he
  obtain rfl:=ErrIs.none_eq he
  have q11:=q1.out.below b1
  obtain ⟨⟨z0,z1,z2⟩,-,-,-⟩:=q11
  go_wp2_with fail
  refine (fwiden_ok r K R 1 va vn vc T w1 (hg.out.below b1) (h.out.below b1) hr.out (by have:=hR.out; omega) 1 (by have:=hR.out; simp [this])).mono ?_
  rintro e w2 ⟨x,y,rfl,b2,rfl,a,n,c,rfl,ho⟩
  obtain ⟨⟨y0,y1,y2⟩,f0,f1,f2⟩:=q2.out.below (Below.step b1 b2)
  replace ho:=Hd ho
  clear z0 z1 z2
  go_wp2
  refine bodyPost_ret (v:=.tuple #[.agg #[.int .i64 K,.int .i64 ((R+1:Nat):Int),.slice a n c],.nilIface]) (by simp [results,Tryz.results96,go_sem,y0,y1,y2]) rfl ⟨_,_,rfl,below_set3 (Below.step b0 (Below.step b1 b2)) (Nat.le_succ _) _ _ _,rfl,a,n,c,rfl,?_⟩
  have s1:=hs0.out
  have s2:=b1.size
  exact (((ho.out.setBelowBase (a:=⟨w.heap.size+1,0,none⟩) (Nat.lt_of_lt_of_le s1 s2) _).setBelowBase (a:=⟨w.heap.size+1,1,none⟩) (Nat.lt_of_lt_of_le s1 s2) _).setBelowBase (a:=⟨w.heap.size+1,2,none⟩) (Nat.lt_of_lt_of_le s1 s2) _).at
 ·have e1:wkR R=R:=by unfold wkR; rw [if_neg hR]
  have e2:wkT K R T=T:=by unfold wkT; rw [if_neg hR]
  have hRq:((R:Int)==0)=false:=by rw [beq_eq_false_iff_ne]; omega
  have hR':¬ (R:Int)=0:=by omega
  rw [e1,e2]
  clear e1 e2
  go_enter Tryz.func96,Tryz.ntmps96
  go_wp2_with fail
  refine (small_any r K R va vn vc T _ hg.out h.out).mono ?_
  rintro e w1 ⟨x,rfl,b1,he⟩
  rw [hs.out] at he
  obtain rfl:=ErrIs.none_eq he
  have q11:=q1.out.below b1
  obtain ⟨⟨z0,z1,z2⟩,-,-,-⟩:=q11
  obtain ⟨⟨y0,y1,y2⟩,f0,f1,f2⟩:=q2.out.below b1
  have b01:=Below.step b0 b1
  have hTW:=h0.out.below (below_set3 b01 (Nat.le_succ _) (.int .i64 K) (.int .i64 R) (.slice va vn vc))
  replace hTW:=Hd hTW
  go_wp2
  refine bodyPost_ret (v:=.tuple #[.agg #[.int .i64 K,.int .i64 R,.slice va vn vc],.nilIface]) (by simp [results,Tryz.results96,go_sem,y0,y1,y2]) rfl ⟨_,_,rfl,below_set3 b01 (Nat.le_succ _) _ _ _,rfl,va,vn,vc,rfl,hTW.out⟩
def SinglePost (w:World) (T:List Int) (x y:Value) (w':World):Prop :=
 (∃ a b,SingleIs T a b∧OwnI w.heap.size w' x [(a:Int)]∧OwnI w.heap.size w' y [(b:Int)]∧(x.ownBlock=none∨x.ownBlock≠y.ownBlock)) ∨
 (x=.slice none 0 0∧y=.slice none 0 0∧∀ i,i<T.length→(i:Int)≤invP T (T.getD i 0))
theorem single_any (k R:Int) (va:Option Addr) (vn vc:Nat) (T:List Int) (w:World) (h:IntsAt w (.slice va vn vc) T) :
 Calls Tryz.prog 117 #[.agg #[.int .i64 k,.int .i64 R,.slice va vn vc]] w (Ret2 (SinglePost w T) w):=by
 have b0:=belowAlloc w (.cells #[.int .i64 k,.int .i64 R,.slice va vn vc] 24)
 have q:Box3 (w.alloc (.cells #[.int .i64 k,.int .i64 R,.slice va vn vc] 24)) w.heap.size (.int .i64 k) (.int .i64 R) (.slice va vn vc):=by simp [Box3,go_sem]
 have hlen:=h.len
 have hm:=h.len_le
 replace h:=Hd (h.below b0)
 obtain ⟨⟨y0,y1,y2⟩,-,-,-⟩:=q
 go_enter Tryz.func117,Tryz.ntmps117
 go_wp2
 obtain ⟨W,hW⟩:∃ W:World,W=w.alloc (.cells #[.int .i64 k,.int .i64 R,.slice va vn vc] 24):=⟨_,rfl⟩
 rw [← hW] at y0 y1 y2 b0 h ⊢
 replace hW:=Hd hW
 go_loop [10] (fun jv=>∃ j:Nat,j≤T.length∧jv=.int .i64 j∧∀ i,i<j→(i:Int)≤invP T (T.getD i 0)) (fun jv=>T.length-(intOf jv).toNat)
 case atStart=>exact ⟨0,by omega,rfl,fun i hi=>absurd hi (Nat.not_lt_zero _)⟩
 case round =>
  obtain ⟨j,hj,rfl,hno0⟩:=hrel
  have hno:∀ i,i<j→(i:Int)≤invP T (T.getD i 0):=fun i hi=>by have:=hno0 i hi; omega
  clear hno0
  replace hno:=Hd hno
  by_cases hjl:j<T.length
  ·have i1:=fun w'=>h.out.idx j hjl w'
   have c1:=h.out.cellD j hjl
   obtain ⟨z,hz⟩:∃ z,T.getD j 0=z:=⟨_,rfl⟩
   rw [hz] at c1
   obtain ⟨p,hp1,hp2,hp3⟩:=invP_at hjl
   rw [hz] at hp1
   have hIx:=index_any (.slice va vn vc) T z W h.out
   rw [hp1] at hIx
   generalize valAt (.slice va vn vc) j=ja at *
   have hjl2:=Hd hjl
   replace hIx:=Hd hIx
   replace hz:=Hd hz
   replace hp1:=Hd hp1
   replace hp3:=Hd hp3
   by_cases hpj:p<j
   ·have hpd:decide (p<j)=true:=decide_eq_true hpj
    have hpd2:decide ((p:Int)<(j:Int))=true:=decide_eq_true (by omega)
    have hpj2:=Hd hpj
    go_wp2_with (go_at_call 148; refine hIx.out.mono ?_; rintro e w' ⟨rfl,rfl⟩)
    have bA:=belowAlloc W (.cells #[.int .i64 p] 3)
    have hoA:=OwnI.lit W.heap.size W (Nat.le_refl _) [(p:Int)] (by simp [maxLen]) #[.int .i64 (p:Int)] rfl 1 rfl
    have bB:=belowAlloc (W.alloc (.cells #[.int .i64 p] 3)) (.cells #[.int .i64 j] 3)
    have hoB:=OwnI.lit (W.alloc (.cells #[.int .i64 p] 3)).heap.size (W.alloc (.cells #[.int .i64 p] 3)) (Nat.le_refl _) [(j:Int)] (by simp [maxLen]) #[.int .i64 (j:Int)] rfl 1 rfl
    have hs:=b0.size
    go_ret2
    refine ⟨_,_,rfl,b0.trans ((bA.trans (bB.mono bA.size)).mono hs),.inl ⟨p,j,⟨hjl2.out,by rw [hz.out]; exact hp1.out,hpj2.out,hno.out⟩,(hoA.below bB).mono hs,(show OwnI W.heap.size _ (Value.slice (some ⟨W.heap.size+1,0,none⟩) 1 1) _ from (by simpa using hoB.mono bA.size)).mono hs,.inr ?_⟩⟩
    simp [Value.ownBlock]
   ·have hpe:p=j:=by omega
    subst hpe
    go_wp2_with (go_at_call 148; refine hIx.out.mono ?_; rintro e w' ⟨rfl,rfl⟩)
    have hj1:=hjl2.out
    go_round
    case measure=>simp [intOf]; omega
    case rel =>
     refine ⟨p+1,by omega,by go_num,fun i hi=>?_⟩
     by_cases e:i=p
     ·subst e; rw [hz.out,hp1.out]; omega
     ·exact hno.out i (by omega)
  ·obtain rfl:j=T.length:=by omega
   go_wp2
   go_ret2
   exact ⟨_,_,rfl,b0,.inr ⟨rfl,rfl,hno.out⟩⟩
end Go.Proofs.YtkaoebokbfcmhaaGreatDoor
namespace Go.Proofs.YtkaoebokbfcmhaaGreatDoor
open Go.RowKit
set_option maxRecDepth 100000
def tab (n:Nat) (f:Nat→Nat):List Int:=(List.range n).map fun (v:Nat)=>(f v:Int)
def tabI (n:Nat) (f:Nat→Int):List Int:=(List.range n).map f
theorem tabI_len (n:Nat) (f:Nat→Int):(tabI n f).length=n:=by simp [tabI]
theorem tabI_get (n:Nat) (f:Nat→Int) (v:Nat) (hv:v<n):(tabI n f).getD v 0=f v:=by simp [tabI,List.getD,hv]
theorem tabI_upd (n:Nat) (f:Nat→Int) (v:Nat) (a:Int):(tabI n f).set v a=tabI n (updN f v a):=by
 apply List.ext_getElem
 ·simp [tabI]
 ·intro i h1 h2
  simp only [tabI,List.getElem_set,List.getElem_map,List.getElem_range,updN]
  by_cases e:v=i
  ·rw [if_pos e,if_pos e.symm]
  ·rw [if_neg e,if_neg (fun q=>e q.symm)]
def flatF (calls:List Nat) (idx:Nat→Nat):List Value:=calls.reverse.flatMap fun (v:Nat)=>[.int .i64 (v:Int),.int .i64 (idx v:Int)]
def upI (l:List Nat):List Int:=l.reverse.map fun (v:Nat)=>(v:Int)
theorem upI_len (l:List Nat):(upI l).length=l.length:=by simp [upI]
theorem upI_cons (v:Nat) (l:List Nat):upI (v::l)=upI l++[(v:Int)]:=by simp [upI]
structure SN (f:Names) (d:Nat) (nv lv fv pv ov cv:Value) (n:Nat) (S:TS):Prop where
 box:f (0,0)=some ⟨244,7,.slice (some ⟨d,0,none⟩) 1 1,1,[nv,lv,fv,ov,pv,cv,.int .i64 S.time]⟩
 low:f (1,0)=some (rowI lv (tab n S.low))
 fnd:f (2,0)=some (rowI fv (tab n S.found))
 opn:f (3,0)=some (rowI ov (upI S.opn))
 part:f (4,0)=some (rowI pv (tabI n S.part))
 calls:f (5,0)=some ⟨270,2,cv,S.calls.length,flatF S.calls S.idx⟩
section
variable {B:Nat} {w:World} {f:Names} {d:Nat} {nv lv fv pv ov cv:Value} {n:Nat} {S:TS}
theorem SN.cell (h:SN f d nv lv fv pv ov cv n S) (hr:Rows B w f) (k:Nat) (hk:k<7):w.cell? ⟨d,k,none⟩=[nv,lv,fv,ov,pv,cv,.int .i64 S.time][k]? :=
 hr.cell h.box (g:=d) (cap:=1) rfl k (by simp; omega)
theorem SN.frz (h:SN f d nv lv fv pv ov cv n S) (hr:Rows B w f) (k:Nat):w.frozen? ⟨d,k,none⟩=false:=hr.frozen h.box (g:=d) (cap:=1) rfl k
theorem SN.base (h:SN f d nv lv fv pv ov cv n S) (hr:Rows B w f):B≤d:=(hr.lt h.box d rfl).1
theorem grown_via {w':World} {row:Option Nat} (hg:w.grownBy w' row∨w.grownBy w' none):w.grownBy w' row:=by
 rcases hg with h | h
 ·exact h
 ·exact ⟨h.os,h.tape,h.output,h.size,fun k hk _=>h.block k hk (by simp)⟩
theorem row_shape {E:TypeId} {size m:Nat} {v:Value} {xs:List Value} (h:w.ownsRow B E size v m xs) (hm:0<m):∃ g c,v=.slice (some ⟨g,0,none⟩) m c∧m≤c:=by
 rcases h.2 with ⟨_,e⟩ | ⟨g,cap,cur,e,_,_,hn,_⟩
 ·omega
 ·exact ⟨g,cap,e,hn⟩
end
end Go.Proofs.YtkaoebokbfcmhaaGreatDoor
namespace Go.Proofs.YtkaoebokbfcmhaaGreatDoor
inductive Way (adj:Nat→List Nat):Nat→Nat→List Nat→Prop
 | one (x:Nat):Way adj x x [x]
 | cons {x t y:Nat} {w:List Nat} (ht:t∈adj x) (h:Way adj t y w):Way adj x y (x::w)
theorem Way.snoc {adj:Nat→List Nat} {x y z:Nat} {w:List Nat} (h:Way adj x y w) (hz:z∈adj y):Way adj x z (w++[z]):=by
 induction h with
 | one=>exact .cons hz (.one _)
 | cons ht _ ih=>exact .cons ht (ih hz)
theorem Goes.way {adj:Nat→List Nat} {x y:Nat} (h:Goes adj x y):∃ w,Way adj x y w:=by
 induction h with
 | refl=>exact ⟨_,.one _⟩
 | step _ hz ih=>obtain ⟨w,hw⟩:=ih; exact ⟨_,hw.snoc hz⟩
theorem Way.ne {adj:Nat→List Nat} {x y:Nat} {w:List Nat} (h:Way adj x y w):∃ w',w=x::w':=by
 cases h with
 | one=>exact ⟨_,rfl⟩
 | cons=>exact ⟨_,rfl⟩
theorem Way.pos {adj:Nat→List Nat} {x y:Nat} {w:List Nat} (h:Way adj x y w):0<w.length:=by
 obtain ⟨w',rfl⟩:=h.ne; simp
def lexLe:List Nat→List Nat→Prop
 | [],_=>True
 | _::_,[]=>False
 | a::l,b::m=>a<b∨(a=b∧lexLe l m)
theorem lexLe_antisymm:∀ {l m:List Nat},l.length=m.length→lexLe l m→lexLe m l→l=m
 | [],[],_,_,_=>rfl
 | [],_::_,h,_,_=>by simp at h
 | _::_,[],h,_,_=>by simp at h
 | a::l,b::m,h,h1,h2=>by
  simp only [lexLe] at h1 h2
  have hl:l.length=m.length:=by simpa using h
  rcases h1 with q | ⟨q,r⟩<;>rcases h2 with q' | ⟨q',r'⟩
  ·omega
  ·omega
  ·omega
  ·rw [q,lexLe_antisymm hl r r']
structure IsFirst (adj:Nat→List Nat) (x y:Nat) (w:List Nat):Prop where
 way:Way adj x y w
 short:∀ u,Way adj x y u→w.length≤u.length
 least:∀ u,Way adj x y u→u.length=w.length→lexLe w u
theorem IsFirst.unique {adj:Nat→List Nat} {x y:Nat} {w u:List Nat} (h:IsFirst adj x y w) (h2:IsFirst adj x y u):w=u:=by
 have e:w.length=u.length:=by have:=h.short u h2.way; have:=h2.short w h.way; omega
 exact lexLe_antisymm e (h.least u h2.way e.symm) (h2.least w h.way e)
theorem IsFirst.tail {adj:Nat→List Nat} {x y t:Nat} {w:List Nat} (h:IsFirst adj x y (x::t::w)):IsFirst adj t y (t::w):=by
 obtain ⟨ht,hw⟩:t∈adj x∧Way adj t y (t::w):=by
  have h1:=h.way
  cases h1 with
  | cons ht h2=>obtain ⟨w',e⟩:=h2.ne; injection e with e1 e2; subst e1; exact ⟨ht,h2⟩
 refine ⟨hw,fun u hu=>?_,fun u hu hl=>?_⟩
 ·have:=h.short _ (.cons ht hu); simp only [List.length_cons] at this ⊢; omega
 ·have:=h.least _ (.cons ht hu) (by simp only [List.length_cons] at hl ⊢; omega)
  exact (this.resolve_left (Nat.lt_irrefl _)).2
theorem Way.mem {adj:Nat→List Nat} {x y:Nat} {w:List Nat} (h:Way adj x y w):∀ z∈w,∃ u,Way adj z y u∧u.length≤w.length:=by
 induction h with
 | one=>intro z hz; cases List.mem_singleton.1 hz; exact ⟨_,.one _,Nat.le_refl _⟩
 | cons ht h ih =>
  intro z hz
  rcases List.mem_cons.1 hz with rfl | hz
  ·exact ⟨_,.cons ht h,Nat.le_refl _⟩
  ·obtain ⟨u,h1,h2⟩:=ih z hz; exact ⟨u,h1,by simp only [List.length_cons]; omega⟩
theorem IsFirst.nodup {adj:Nat→List Nat} {x y:Nat} {w:List Nat} (h:IsFirst adj x y w):w.Nodup:=by
 induction w generalizing x with
 | nil=>exact List.nodup_nil
 | cons a w ih =>
  obtain ⟨w',e⟩:=h.way.ne
  injection e with e1 e2
  subst e1; subst e2
  cases w with
  | nil=>simp
  | cons t w =>
   refine List.nodup_cons.2 ⟨fun hm=>?_,ih h.tail⟩
   obtain ⟨u,h1,h2⟩:=h.tail.way.mem _ hm
   have:=h.short u h1
   simp only [List.length_cons] at this h2; omega
structure BBase (adj:Nat→List Nat) (a:Nat) (came:Nat→Int) (q:List Nat) (par dist:Nat→Nat) (b i:Nat):Prop where
 hd:q[0]?=some a
 nodup:q.Nodup
 cameIff:∀ x,0≤came x↔x∈q
 low:∀ x,-1≤came x
 root:came a=a
 dist0:dist a=0
 parLt:∀ (j x:Nat),0<j→q[j]?=some x→par j<b∧par j<j∧∃ p,q[par j]?=some p∧came x=(p:Int)∧x∈adj p∧dist x=dist p+1
 mono:∀ (j k x y:Nat),0<j→j<k→q[j]?=some x→q[k]?=some y→par j≤par k∧(par j=par k→x<y)
 distMono:∀ (j k x y:Nat),j≤k→q[j]?=some x→q[k]?=some y→dist x≤dist y
 closed:∀ p x,p<i→q[p]?=some x→∀ t∈adj x,∃ j,q[j]?=some t∧(0<j→par j≤p)
abbrev BOut (adj:Nat→List Nat) (a:Nat) (came:Nat→Int) (q:List Nat) (par dist:Nat→Nat) (i:Nat):Prop:=BBase adj a came q par dist i i
structure BIn (adj:Nat→List Nat) (a:Nat) (came:Nat→Int) (q:List Nat) (par dist:Nat→Nat) (i v:Nat) (l:List Nat):Prop where
 base:BBase adj a came q par dist (i+1) i
 cur:q[i]?=some v
 sub:∀ t∈l,t∈adj v
 sorted:l.Pairwise (·≤·)
 seen:∀ t∈adj v,t∈l∨∃ j,q[j]?=some t∧(0<j→par j≤i)
 new:∀ j x,0<j→q[j]?=some x→par j=i→∀ t∈l,x≤t
variable {adj:Nat→List Nat} {a:Nat} {came:Nat→Int} {q:List Nat} {par dist:Nat→Nat} {b i v:Nat} {l:List Nat}
theorem get_of {q:List Nat} {j x:Nat} (h:q[j]?=some x):j<q.length:=by
 by_cases e:j<q.length
 ·exact e
 ·rw [List.getElem?_eq_none (by omega)] at h; cases h
theorem get_inj {q:List Nat} (hn:q.Nodup) {j k x:Nat} (h:q[j]?=some x) (h2:q[k]?=some x):j=k:=by
 have h1:=get_of h
 exact (List.getElem?_inj h1 hn).1 (h.trans h2.symm)
theorem BBase.enter (h:BOut adj a came q par dist i) (hv:q[i]?=some v) (hl:∀ t,t∈l↔t∈adj v) (hs:l.Pairwise (·≤·)):BIn adj a came q par dist i v l:=by
 refine ⟨⟨h.hd,h.nodup,h.cameIff,h.low,h.root,h.dist0,fun j x hj hx=>?_,h.mono,h.distMono,h.closed⟩,hv,fun t ht=>(hl t).1 ht,hs,fun t ht=>.inl ((hl t).2 ht),fun j x hj hx hp=>?_⟩
 ·obtain ⟨h1,h2,h3⟩:=h.parLt j x hj hx
  exact ⟨by omega,h2,h3⟩
 ·have:=(h.parLt j x hj hx).1; omega
theorem BIn.leave (h:BIn adj a came q par dist i v []):BOut adj a came q par dist (i+1):=by
 refine ⟨h.base.hd,h.base.nodup,h.base.cameIff,h.base.low,h.base.root,h.base.dist0,h.base.parLt,h.base.mono,h.base.distMono,fun p x hp hx t ht=>?_⟩
 by_cases e:p=i
 ·subst e
  rw [h.cur] at hx; cases hx
  exact (h.seen t ht).resolve_left (by simp)
 ·exact h.base.closed p x (by omega) hx t ht
theorem BIn.old {t:Nat} (h:BIn adj a came q par dist i v (t::l)) (ht:0≤came t):BIn adj a came q par dist i v l:=by
 refine ⟨h.base,h.cur,fun x hx=>h.sub x (List.mem_cons_of_mem _ hx),(List.pairwise_cons.1 h.sorted).2,fun x hx=>?_,fun j x hj hx hp y hy=>h.new j x hj hx hp y (List.mem_cons_of_mem _ hy)⟩
 rcases h.seen x hx with q1 | q1
 ·rcases List.mem_cons.1 q1 with e | e
  ·subst e
   obtain ⟨j,hj⟩:=List.mem_iff_getElem?.1 ((h.base.cameIff x).1 ht)
   refine .inr ⟨j,hj,fun hj0=>?_⟩
   have:=(h.base.parLt j x hj0 hj).1; omega
  ·exact .inl e
 ·exact .inr q1
theorem BIn.add {t:Nat} (h:BIn adj a came q par dist i v (t::l)) (ht:came t<0) :
 BIn adj a (updN came t (v:Int)) (q++[t]) (updN par q.length i) (updN dist t (dist v+1)) i v l:=by
 have hB:=h.base
 have htq:t∉q:=fun hm=>by have:=(hB.cameIff t).2 hm; omega
 have hil:=get_of h.cur
 have hga:∀ j x,(q++[t])[j]?=some x→q[j]?=some x∧j<q.length∧x≠t∨j=q.length∧x=t:=fun j x hx=>by
  by_cases e:j<q.length
  ·rw [List.getElem?_append_left e] at hx
   exact .inl ⟨hx,e,fun e2=>htq (by rw [← e2]; exact List.mem_of_getElem? hx)⟩
  ·rw [List.getElem?_append_right (by omega)] at hx
   by_cases e2:j=q.length
   ·rw [e2] at hx; simp at hx; exact .inr ⟨e2,hx.symm⟩
   ·rw [List.getElem?_eq_none (by simp; omega)] at hx; cases hx
 have hgo:∀ {j x},q[j]?=some x→(q++[t])[j]?=some x:=fun {j x} hx=>by rw [List.getElem?_append_left (get_of hx)]; exact hx
 have hne:∀ x,x∈q→x≠t:=fun x hx e=>htq (by rw [← e]; exact hx)
 have hvt:v≠t:=hne v (List.mem_of_getElem? h.cur)
 have po:∀ j,j<q.length→updN par q.length i j=par j:=fun j hj=>updN_other _ _ _ (by omega)
 have dq:∀ x,x∈q→updN dist t (dist v+1) x=dist x:=fun x hx=>updN_other _ _ _ (hne x hx)
 have haq:a∈q:=List.mem_of_getElem? hB.hd
 have hdle:∀ x,x∈q→dist x≤dist v+1:=fun x hx=>by
  obtain ⟨j,hj⟩:=List.mem_iff_getElem?.1 hx
  by_cases e:0<j
  ·obtain ⟨h1,h2,p,h3,h4,h5,h6⟩:=hB.parLt j x e hj
   have:=hB.distMono (par j) i p v (by omega) h3 h.cur
   omega
  ·have:j=0:=by omega
   subst this; rw [hB.hd] at hj; cases hj; have:=hB.dist0; omega
 refine ⟨⟨hgo hB.hd,?_,fun x=>?_,fun x=>?_,?_,?_,fun j x hj hx=>?_,fun j k x y hj hjk hx hy=>?_,fun j k x y hjk hx hy=>?_,fun p x hp hx t' ht'=>?_⟩,hgo h.cur,fun x hx=>h.sub x (List.mem_cons_of_mem _ hx),(List.pairwise_cons.1 h.sorted).2,fun x hx=>?_,fun j x hj hx hp y hy=>?_⟩
 ·exact List.nodup_append.2 ⟨hB.nodup,by simp,fun x hx y hy=>by cases List.mem_singleton.1 hy; exact hne x hx⟩
 ·by_cases e:x=t
  ·subst e; rw [updN_same]; simp
  ·rw [updN_other _ _ _ e,hB.cameIff]; simp [e]
 ·by_cases e:x=t
  ·subst e; rw [updN_same]; omega
  ·rw [updN_other _ _ _ e]; exact hB.low x
 ·rw [updN_other _ _ _ (hne a haq)]; exact hB.root
 ·rw [dq a haq]; exact hB.dist0
 ·rcases hga j x hx with ⟨h1,h2,h3⟩ | ⟨rfl,rfl⟩
  ·obtain ⟨p1,p2,p,p3,p4,p5,p6⟩:=hB.parLt j x hj h1
   rw [po j h2,updN_other _ _ _ h3,dq x (List.mem_of_getElem? h1)]
   exact ⟨p1,p2,p,hgo p3,p4,p5,by rw [dq p (List.mem_of_getElem? p3)]; exact p6⟩
  ·rw [updN_same,updN_same,updN_same]
   exact ⟨by omega,hil,v,hgo h.cur,rfl,h.sub _ List.mem_cons_self,by rw [dq v (List.mem_of_getElem? h.cur)]⟩
 ·rcases hga j x hx with ⟨h1,h2,h3⟩ | ⟨rfl,rfl⟩
  ·rcases hga k y hy with ⟨k1,k2,k3⟩ | ⟨rfl,rfl⟩
   ·rw [po j h2,po k k2]; exact hB.mono j k x y hj hjk h1 k1
   ·rw [po j h2,updN_same]
    have:=(hB.parLt j x hj h1).1
    exact ⟨by omega,fun e=>by have:=h.new j x hj h1 e y List.mem_cons_self; omega⟩
  ·rcases hga k y hy with ⟨k1,k2,k3⟩ | ⟨rfl,rfl⟩<;>omega
 ·rcases hga k y hy with ⟨k1,k2,k3⟩ | ⟨rfl,rfl⟩
  ·rcases hga j x hx with ⟨h1,h2,h3⟩ | ⟨rfl,rfl⟩
   ·rw [dq x (List.mem_of_getElem? h1),dq y (List.mem_of_getElem? k1)]; exact hB.distMono j k x y hjk h1 k1
   ·omega
  ·rcases hga j x hx with ⟨h1,h2,h3⟩ | ⟨h1,rfl⟩
   ·rw [dq x (List.mem_of_getElem? h1),updN_same]; exact hdle x (List.mem_of_getElem? h1)
   ·exact Nat.le_refl _
 ·rcases hga p x hx with ⟨h1,h2,h3⟩ | ⟨h1,rfl⟩
  ·obtain ⟨j,j1,j2⟩:=hB.closed p x hp h1 t' ht'
   exact ⟨j,hgo j1,fun hj=>by rw [po j (get_of j1)]; exact j2 hj⟩
  ·omega
 ·by_cases e:x=t
  ·subst e; exact .inr ⟨q.length,by simp,fun _=>by rw [updN_same]; exact Nat.le_refl _⟩
  ·rcases h.seen x hx with q1 | ⟨j,j1,j2⟩
   ·exact .inl ((List.mem_cons.1 q1).resolve_left e)
   ·exact .inr ⟨j,hgo j1,fun hj=>by rw [po j (get_of j1)]; exact j2 hj⟩
 ·rcases hga j x hx with ⟨h1,h2,h3⟩ | ⟨rfl,rfl⟩
  ·rw [po j h2] at hp; exact h.new j x hj h1 hp y (List.mem_cons_of_mem _ hy)
  ·exact (List.pairwise_cons.1 h.sorted).1 y hy
theorem BBase.init (adj:Nat→List Nat) (a:Nat):BOut adj a (updN (fun _=>(-1:Int)) a (a:Int)) [a] (fun _=>0) (fun _=>0) 0:=by
 have hg:∀ j x,[a][j]?=some x→j=0∧x=a:=fun j x hx=>by
  cases j with
  | zero=>simp at hx; exact ⟨rfl,hx.symm⟩
  | succ j=>simp at hx
 refine ⟨rfl,by simp,fun x=>?_,fun x=>?_,updN_same _ _ _,rfl,fun j x hj hx=>?_,fun j k x y hj hjk hx hy=>?_,fun j k x y hjk hx hy=>Nat.le_refl _,fun p x hp=>by omega⟩
 ·by_cases e:x=a
  ·subst e; rw [updN_same]; simp
  ·rw [updN_other _ _ _ e]; simp [e]
 ·by_cases e:x=a
  ·subst e; rw [updN_same]; omega
  ·rw [updN_other _ _ _ e]; omega
 ·have:=(hg j x hx).1; omega
 ·have:=(hg j x hx).1; have:=(hg k y hy).1; omega
inductive Tree (came:Nat→Int) (q:List Nat) (adj:Nat→List Nat):Nat→Nat→List Nat→Prop
 | one (x:Nat) (hx:x∈q):Tree came q adj x x [x]
 | cons {x t y:Nat} {w:List Nat} (jx jt:Nat) (hx:q[jx]?=some x) (ht:q[jt]?=some t) (h0:0<jt) (hp:came t=(x:Int)) (h:Tree came q adj t y w):Tree came q adj x y (x::w)
theorem BBase.parent (h:BOut adj a came q par dist i) {jx jt x t:Nat} (hx:q[jx]?=some x) (ht:q[jt]?=some t) (h0:0<jt) (hp:came t=(x:Int)):par jt=jx∧jx<i∧jx<jt∧t∈adj x∧dist t=dist x+1:=by
 obtain ⟨h1,h2,p,h3,h4,h5,h6⟩:=h.parLt jt t h0 ht
 have e:p=x:=by rw [hp] at h4; omega
 subst e
 have:=get_inj h.nodup h3 hx
 exact ⟨this,by omega,by omega,h5,h6⟩
theorem Tree.way (h:BOut adj a came q par dist i) {x y:Nat} {w:List Nat} (ht:Tree came q adj x y w):Way adj x y w:=by
 induction ht with
 | one=>exact .one _
 | cons jx jt hx ht h0 hp _ ih=>exact .cons (h.parent hx ht h0 hp).2.2.2.1 ih
theorem Tree.le (h:BOut adj a came q par dist i) {x y:Nat} {w:List Nat} (ht:Tree came q adj x y w):∀ {j k:Nat},q[j]?=some x→q[k]?=some y→j≤k:=by
 induction ht with
 | one=>intro j k hj hk; exact Nat.le_of_eq (get_inj h.nodup hj hk)
 | cons jx jt hx ht h0 hp _ ih =>
  intro j k hj hk
  have h1:=(h.parent hx ht h0 hp).2.2.1
  have h2:=ih ht hk
  have:=get_inj h.nodup hj hx
  omega
theorem BBase.far (h:BOut adj a came q par dist i) {x y:Nat} {u:List Nat} (hu:Way adj x y u) (hx:x∈q) (hy:y∈q):dist y+1≤dist x+u.length:=by
 induction hu with
 | one=>simp
 | @cons x t y w ht hu ih =>
  obtain ⟨jx,hjx⟩:=List.mem_iff_getElem?.1 hx
  have hl:=hu.pos
  simp only [List.length_cons]
  by_cases hi:jx<i
  ·obtain ⟨jt,h1,h2⟩:=h.closed jx x hi hjx t ht
   have:=ih (List.mem_of_getElem? h1) hy
   have hd:dist t≤dist x+1:=by
    by_cases h0:0<jt
    ·obtain ⟨_,_,p,p1,_,_,p2⟩:=h.parLt jt t h0 h1
     have:=h.distMono _ _ _ _ (h2 h0) p1 hjx
     omega
    ·have:jt=0:=by omega
     subst this; rw [h.hd] at h1; cases h1; have:=h.dist0; omega
   omega
  ·obtain ⟨jy,hjy⟩:=List.mem_iff_getElem?.1 hy
   by_cases h0:0<jy
   ·obtain ⟨p0,_,p,p1,_,_,p2⟩:=h.parLt jy y h0 hjy
    have:=h.distMono _ _ _ _ (show par jy≤jx by omega) p1 hjx
    omega
   ·have:jy=0:=by omega
    subst this; rw [h.hd] at hjy; cases hjy; have:=h.dist0; omega
theorem BBase.none (h:BOut adj a came q par dist i) (hi:q.length≤i) {b:Nat} (hb:came b<0):¬ Goes adj a b:=fun hg=>by
 have:=Goes.closed (P:=fun x=>x∈q) (fun x hx t ht=>by
  obtain ⟨j,hj⟩:=List.mem_iff_getElem?.1 hx
  obtain ⟨k,hk,_⟩:=h.closed j x (by have:=get_of hj; omega) hj t ht
  exact List.mem_of_getElem? hk) hg (List.mem_of_getElem? h.hd)
 have:=(h.cameIff b).2 this
 omega
open Go.RowKit
def ListsAt (w:World) (v:Value) (G:List (List Int)):Prop :=
 ∃ vs:List Value,ValsAt w v vs∧vs.length=G.length∧∀ i,i<G.length→IntsAt w (vAt vs i) (G.getD i [])
theorem ListsAt.below {w w':World} {v:Value} {G:List (List Int)} (h:ListsAt w v G) (hb:Below w.heap.size w w'):ListsAt w' v G:=by
 obtain ⟨vs,h1,h2,h3⟩:=h
 exact ⟨vs,h1.below hb,h2,fun i hi=>(h3 i hi).below hb⟩
theorem ListsAt.drewN {w:World} {v:Value} {G:List (List Int)} (h:ListsAt w v G) (n:Nat):ListsAt (w.drewN n) v G:=h
theorem ListsAt.len {w:World} {v:Value} {G:List (List Int)} (h:ListsAt w v G) (ty:TypeId) (w':World) :
 (Builtin.len_ #[31] ty #[v]).run Tryz.prog w'=.ok (.int .i64 G.length) w':=by
 obtain ⟨vs,h1,h2,h3⟩:=h
 rw [h1.len oneLists,h2]
theorem ListsAt.shape {w:World} {v:Value} {G:List (List Int)} (h:ListsAt w v G):∃ a c,v=.slice a G.length c:=by
 obtain ⟨vs,⟨a,c,e,_⟩,h2,_⟩:=h
 exact ⟨a,c,by rw [e,h2]⟩
theorem ListsAt.row {w:World} {v:Value} {G:List (List Int)} (h:ListsAt w v G) (x:Nat) (hx:x<G.length) :
 ∃ mv,(∀ w',(Instr.indexAt 31 v (.int .i64 x)).run Tryz.prog w'=.ok (.pointer (some (valAt v x))) w')∧w.cell? (valAt v x)=some mv∧IntsAt w mv (G.getD x []):=by
 obtain ⟨vs,h1,h2,h3⟩:=h
 exact ⟨vAt vs x,fun w'=>h1.idx oneLists x (by omega) w',h1.cellV x (by omega),h3 x hx⟩
def adjOf (G:List (List Int)) (v:Nat):List Nat:=(G.getD v []).map Int.toNat
def GraphOk (G:List (List Int)):Prop:=∀ v,v<G.length→∀ t∈G.getD v [],0≤t∧t<G.length
theorem GraphOk.lt {G:List (List Int)} (h:GraphOk G):∀ v,v<G.length→∀ t∈adjOf G v,t<G.length:=by
 intro v hv t ht
 obtain ⟨i,hi,rfl⟩:=List.mem_map.1 ht
 have:=h v hv i hi
 omega
theorem GraphOk.get {G:List (List Int)} (h:GraphOk G) {v:Nat} (hv:v<G.length) {i:Nat} (hi:i<(G.getD v []).length):(G.getD v []).getD i 0=((adjOf G v).getD i 0:Int):=by
 have hm:(G.getD v [])[i]∈G.getD v []:=List.getElem_mem hi
 have:=h v hv _ hm
 simp only [adjOf,List.getD_eq_getElem?_getD (l:=List.map _ _),List.getElem?_map,List.getElem?_eq_getElem hi,Option.map_some,Option.getD_some]
 rw [List.getD_eq_getElem?_getD,List.getElem?_eq_getElem hi,Option.getD_some]
 omega
end Go.Proofs.YtkaoebokbfcmhaaGreatDoor
