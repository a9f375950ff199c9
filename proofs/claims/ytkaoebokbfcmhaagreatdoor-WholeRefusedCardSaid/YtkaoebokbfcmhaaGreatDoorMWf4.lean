/-
  Texts that the proof leans on.
-/
import Derived.Test.YtkaoebokbfcmhaaGreatDoorMWf3
import Derived.LaidEql
import Derived.Stop.Asserts
import Derived.RowKitTokens
import Derived.Deep.LoopGhost
import Derived.Laws.Bits64b
import Derived.BigQuiet
import Derived.Deep.DeepCutAuto
import Derived.Deep.RegionWith
import Derived.RegionTactic
import Derived.Deep.RegionHeld3
namespace Go.Proofs.YtkaoebokbfcmhaaGreatDoor
open Go.RowKit
set_option maxRecDepth 100000
set_option maxHeartbeats 8000000
def AllPost (r:Nat→Addr) (B g K R n:Nat) (tv:Value) (stop:Bool) (w:World):WkR (List (List Int))→Ending→World→Prop
 | .on a ws x,e,w'=>e=.returned .nilIface∧Below B w w'∧∃ f' gb b sv svs wv wvs nv nvs,Rows B w' f'∧WalkAt B w' f' g gb b K R n tv stop a ws x sv svs wv wvs nv nvs
 | .orphan wd,e,w'=>∃ p,e=.returned (.iface 180 (.pointer (some p)))∧Below B w w'∧FoundAt B w' wd (.iface 180 (.pointer (some p)))
 | .big,e,w'=>∃ p,e=.returned (.iface 75 (.pointer (some p)))∧Below B w w'∧ErrIs r w' (fresh sBag 0 4) (.iface 75 (.pointer (some p)))
theorem wkGo_round {stop:Bool} {K n:Nat} {T:List Int} {i:Nat} {sets:List (List Bool)} {words next:List (List Int)} (hi:i<sets.length) (h4:sets.length≤4096):wkGo stop K n T (4097-i) i sets words next=match wkRow stop K n T i K 0 sets words [] with
 | .on a b row=>wkGo stop K n T (4097-(i+1)) (i+1) a b (next++[row])
 | .orphan w=>.orphan w
 | .big=>.big:=by
 obtain ⟨m,hm⟩:∃ m,4097-i=m+1:=⟨4096-i,by omega⟩
 have hm2:4097-(i+1)=m:=by omega
 rw [hm,hm2]
 conv=>lhs; unfold wkGo
 (rw [if_pos hi])<;>(cases wkRow stop K n T i K 0 sets words []<;>rfl)
theorem wkGo_end {stop:Bool} {K n:Nat} {T:List Int} {i:Nat} {sets:List (List Bool)} {words next:List (List Int)} (hi:¬ i<sets.length) (h4:i≤4096):wkGo stop K n T (4097-i) i sets words next=.on sets words next:=by
 obtain ⟨m,hm⟩:∃ m,4097-i=m+1:=⟨4096-i,by omega⟩
 rw [hm]
 unfold wkGo
 rw [if_neg hi]
theorem wkRow_round {stop:Bool} {K n:Nat} {T:List Int} {i t:Nat} {sets:List (List Bool)} {words:List (List Int)} {row:List Int} (ht:t<K):wkRow stop K n T i (K-t) t sets words row=match wkStep stop K n T i t sets words with
 | .on a b id=>wkRow stop K n T i (K-(t+1)) (t+1) a b (row++[id])
 | .orphan w=>.orphan w
 | .big=>.big:=by
 obtain ⟨m,hm⟩:∃ m,K-t=m+1:=⟨K-t-1,by omega⟩
 have hm2:K-(t+1)=m:=by omega
 rw [hm,hm2]
 (conv=>lhs; unfold wkRow)<;>(cases wkStep stop K n T i t sets words<;>rfl)
theorem row_set {l:List Int} {K t:Nat} {x:Int} (h:l.length=t) (ht:t<K):(l++List.replicate (K-t) 0).set t x=(l++[x])++List.replicate (K-(t+1)) 0:=by
 obtain ⟨m,hm⟩:∃ m,K-t=m+1:=⟨K-t-1,by omega⟩
 have hm2:K-(t+1)=m:=by omega
 rw [hm,hm2,List.set_append,if_neg (by omega),h,Nat.sub_self,List.replicate_succ]
 simp
theorem WalkAt.congr {B:Nat} {w:World} {f f':Names} {g gb b K R n:Nat} {tv:Value} {stop:Bool} {sets:List (List Bool)} {words next:List (List Int)} {sv:Value} {svs:List Value} {wv:Value} {wvs:List Value} {nv:Value} {nvs:List Value} (h:WalkAt B w f g gb b K R n tv stop sets words next sv svs wv wvs nv nvs) (e:∀ j:Nat×Nat,j.1≠35→f' j=f j) :
 WalkAt B w f' g gb b K R n tv stop sets words next sv svs wv wvs nv nvs :=
 ⟨(e _ (by decide)).trans h.box,h.bag.congr fun j hj=>e j (by omega),h.words.congr fun j hj=>e j (by omega),h.next.congr fun j hj=>e j (by omega)⟩
def AllIn (B:Nat) (w:World) (g gb b K R n:Nat) (tv:Value) (stop:Bool) (T:List Int) (RES:WkR (List (List Int))) (p:Nat) (wr:World):Prop :=
 ∃ sets words next sv svs wv wvs nv nvs f',wkGo stop K n T (4097-p) p sets words next=RES∧WkOk sets words∧p≤sets.length∧next.length=p∧Rows B wr f'∧WalkAt B wr f' g gb b K R n tv stop sets words next sv svs wv wvs nv nvs∧Below B w wr
def RowIn (B:Nat) (w:World) (g gb b K R n:Nat) (tv:Value) (stop:Bool) (T:List Int) (next:List (List Int)) (nv:Value) (nvs:List Value) (rv:Value) (RR:WkR (List Int)) (p t:Nat) (wr:World):Prop :=
 ∃ sets words row sv svs wv wvs f',wkRow stop K n T p (K-t) t sets words row=RR∧WkOk sets words∧p<sets.length∧row.length=t∧Rows B wr f'∧WalkAt B wr f' g gb b K R n tv stop sets words next sv svs wv wvs nv nvs∧f' (35,0)=some (rowI rv (row++List.replicate (K-t) 0))∧Below B w wr
theorem all_any (r:Nat→Addr) {f:Names} {g K R n:Nat} {va:Option Addr} {vn vc:Nat} {T:List Int} {stop:Bool} {w0 w:World} (hg:Glob r w0) (hT:IntsAt w0 (.slice va vn vc) T) (b0:Below w0.heap.size w0 w) (hR:Rows w0.heap.size w f)
 (hbox:f (30,0)=some (box7 178 g [.int .i64 K,.int .i64 R,.slice va vn vc,.pointer none,.slice none 0 0,.slice none 0 0,.bool stop])) (hok:RuleOk K R T) (hl:T.length≤256) (hn:T.length/K=n) (h1:1≤n) (hn4:n≤256) :
 Calls Tryz.prog 115 #[.pointer (some ⟨g,0,none⟩)] w (AllPost r w0.heap.size g K R n (.slice va vn vc) stop w (wkAll stop K n T)):=by
 have x0:w.cell? ⟨g,0,none⟩=some (.int .i64 K):=hR.cell hbox (g:=g) (cap:=1) rfl 0 (show 0<1*7 by decide)
 have x1:w.cell? ⟨g,1,none⟩=some (.int .i64 R):=hR.cell hbox (g:=g) (cap:=1) rfl 1 (show 1<1*7 by decide)
 have x2:w.cell? ⟨g,2,none⟩=some (.slice va vn vc):=hR.cell hbox (g:=g) (cap:=1) rfl 2 (show 2<1*7 by decide)
 obtain ⟨hgB,hgl⟩:w0.heap.size≤g∧g<w.heap.size:=hR.lt hbox g rfl
 have hk1:=hok.k1
 have hk4:=hok.k4
 have hnodes:=over_Nodes r K R va vn vc T w (hg.below b0) (hT.below b0) hok hl
 rw [hn] at hnodes
 obtain ⟨RES,hRES⟩:∃ X,wkAll stop K n T=X:=⟨_,rfl⟩
 rw [hRES]
 have hb0s:=b0.size
 replace hg:=Hd hg
 replace hT:=Hd hT
 replace hok:=Hd hok
 replace hn:=Hd hn
 replace hRES:=Hd hRES
 replace hR:=Hd hR
 replace hbox:=Hd hbox
 obtain ⟨B,hB⟩:∃ B,w0.heap.size=B:=⟨_,rfl⟩
 rw [hB] at hgB hb0s hR b0 ⊢
 replace hB:=Hd hB
 go_enter Tryz.func115,Tryz.ntmps115
 go_wp2_with fail
 refine hnodes.mono ?_
 rintro e w1 ⟨_,_,rfl,b1,rfl,rfl⟩
 have hR1:=hR.out.below b1
 have hs1:=b1.size
 have hnew:=bag_New B f n w1 hR1 (by omega) (by omega)
 clear hnodes
 go_wp2_with fail
 refine hnew.mono ?_
 rintro e w2 ⟨gb,rfl,b2,hgb,b,f2,hR2,hb2,o2⟩
 have e30:f2 (30,0)=some (box7 178 g [.int .i64 K,.int .i64 R,.slice va vn vc,.pointer none,.slice none 0 0,.slice none 0 0,.bool stop]):=(o2 _ (by decide) (by decide)).trans hbox.out
 have c3:w2.cell? ⟨g,3,none⟩=some (.pointer none):=hR2.cell e30 (g:=g) (cap:=1) rfl 3 (show 3<1*7 by decide)
 have z3:=hR2.frozen e30 (g:=g) (cap:=1) rfl 3
 have hR3:=hR2.set e30 (g:=g) (cap:=1) rfl 3 (.pointer (some ⟨gb,0,none⟩))
 have g3:w2.grownBy (w2.setCell ⟨g,3,none⟩ (.pointer (some ⟨gb,0,none⟩))) (some g):=(World.ownsRow.stored (hR2.1 _ _ e30) 3 (.pointer (some ⟨gb,0,none⟩))).2
 have hb3:=hb2.kept hR2 e30 ⟨by decide,by decide,by decide⟩ (fun j e=>upd_ne _ _ e) g3 (f':=upd f2 (30,0) (some (box7 178 g [.int .i64 K,.int .i64 R,.slice va vn vc,.pointer (some ⟨gb,0,none⟩),.slice none 0 0,.slice none 0 0,.bool stop]))) (by intro k e; injection e with e; rw [← e]; rfl)
 have b12:=Below.step b1 b2
 have b3:=(b12.mono (by omega:B≤w.heap.size)).setCell (show B≤(⟨g,3,none⟩:Addr).block from hgB) (.pointer (some ⟨gb,0,none⟩))
 obtain ⟨w3,hw3⟩:∃ W:World,w2.setCell ⟨g,3,none⟩ (.pointer (some ⟨gb,0,none⟩))=W:=⟨_,rfl⟩
 obtain ⟨f3,hf3⟩:∃ F,upd f2 (30,0) (some (box7 178 g [.int .i64 K,.int .i64 R,.slice va vn vc,.pointer (some ⟨gb,0,none⟩),.slice none 0 0,.slice none 0 0,.bool stop]))=F:=⟨_,rfl⟩
 replace hR3:Rows B (w2.setCell ⟨g,3,none⟩ (.pointer (some ⟨gb,0,none⟩))) (upd f2 (30,0) (some (box7 178 g [.int .i64 K,.int .i64 R,.slice va vn vc,.pointer (some ⟨gb,0,none⟩),.slice none 0 0,.slice none 0 0,.bool stop]))):=hR3
 have n30:f3 (30,0)=some (box7 178 g [.int .i64 K,.int .i64 R,.slice va vn vc,.pointer (some ⟨gb,0,none⟩),.slice none 0 0,.slice none 0 0,.bool stop]):=by rw [← hf3,upd_same]
 rw [hf3] at hR3 hb3
 rw [hw3] at hR3 hb3 b3
 have hs3:=b3.size
 replace n30:=Hd n30
 replace hR3:=Hd hR3
 replace hb3:=Hd hb3
 replace hf3:=Hd hf3
 clear hR2 hb2 o2 e30 g3 hR1 hnew b12
 replace hw3:=Hd hw3
 go_upto_region 5 with fail
 rw [hw3.out]
 clear hw3 c3 z3
 go_wp2_with (at_make; refine wpl_make rfl _ _ rfl _ rfl rfl (by omega) (by omega) ?_)
 intro ev w4 ho4 b4
 rw [← idN_zero] at ho4
 have l4:=ho4.at.len
 rw [idN_len] at l4
 obtain ⟨ea,en,ec,rfl⟩:=ho4.at.shape
 replace ho4:=Hd ho4
 go_wp2
 go_loopw [41] (fun iv wr=>∃ i:Nat,iv=.int .i64 i∧i≤n∧OwnI w3.heap.size wr (.slice ea en ec) (idN n i)∧Below w3.heap.size w3 wr) (fun iv _=>n-(intOf iv).toNat)
 case atStart=>exact ⟨0,rfl,Nat.zero_le _,ho4.out,b4⟩
 case round =>
  obtain ⟨i,rfl,hi,hO,hB4⟩:=hrel
  by_cases hin:i<n
  ·have di:decide ((i:Int)<(n:Int))=true:=decide_eq_true (by omega)
   have iX:=fun w'=>hO.at.idx i (by rw [idN_len]; exact hin) w'
   have cX:=hO.at.cellD i (by rw [idN_len]; exact hin)
   have fX:=hO.frz i (by rw [idN_len]; exact hin)
   have hO2:=hO.set i (by rw [idN_len]; exact hin) (i:Int)
   have hB5:=hO.setBelow hB4 i (by rw [idN_len]; exact hin) (.int .i64 i)
   rw [idN_set] at hO2
   obtain ⟨xa,hxa⟩:∃ xa,valAt (.slice ea en ec) i=xa:=⟨_,rfl⟩
   rw [hxa] at iX cX fX hO2 hB5
   replace hxa:=Hd hxa
   replace hO:=Hd hO
   replace hO2:=Hd hO2
   go_wp2
   go_roundw
   case measure=>simp [intOf]; omega
   case rel=>exact ⟨i+1,by go_num,by omega,hO2.out,hB5⟩
  ·obtain rfl:i=n:=by omega
   have di:decide ((i:Int)<(i:Int))=false:=decide_eq_false (by omega)
   obtain ⟨wl,rfl⟩:∃ wl:World,wl=wr:=⟨_,rfl⟩
   rw [idN_full] at hO
   have hRl:=hR3.out.below hB4
   have hbl:=hb3.out.below hB4
   have put:=bag_Put_new hRl hbl _ (List.range i) hO.at (fun x hx=>List.mem_range.1 hx) (by rw [List.length_range]; omega) (by simp) h1 (by omega) (by simp)
   rw [setOf_all] at put
   have y3:wl.cell? ⟨g,3,none⟩=some (.pointer (some ⟨gb,0,none⟩)):=hRl.cell n30.out (g:=g) (cap:=1) rfl 3 (show 3<1*7 by decide)
   replace hO:=Hd hO
   replace hRl:=Hd hRl
   replace hbl:=Hd hbl
   go_wp2_with fail
   refine put.mono ?_
   rintro e w5 ⟨u,rfl,b5,f5,sv5,hR5,hb5,o5⟩
   have m30:=(o5 (30,0) (by decide) (by decide) (by decide) (by decide)).trans n30.out
   have hs4:=hB4.size
   have hs5:=b5.size
   have bl:=belowAlloc w5 (.cells #[.slice none 0 0] 22)
   have hR6:=hR5.add (i:=(31,0)) (r':=rowV 22 (.slice (some ⟨w5.heap.size,0,none⟩) 1 1) [.slice none 0 0]) bl
    (by
      have:=World.ownsRow_lit (base:=B) (e:=22) (size:=1) w5 #[.slice none 0 0] 1 (by omega) (by decide) rfl
      unfold Row.own
      simpa using this) (fun k hk=>by cases hk; exact Nat.le_refl _)
   have hR7:=hR6.add (i:=(32,0)) (r':=rowI (.slice none 0 0) []) (Below.refl _ _) (OwnI.nil _ _) (fun k hk=>by cases hk)
   have hR8:=hR7.add (i:=(33,0)) (r':=rowV 22 (.slice none 0 0) []) (Below.refl _ _) (OwnV.nil _ _ _) (fun k hk=>by cases hk)
   obtain ⟨f8,hf8⟩:∃ F,upd (upd (upd f5 (31,0) (some (rowV 22 (.slice (some ⟨w5.heap.size,0,none⟩) 1 1) [.slice none 0 0]))) (32,0) (some (rowI (.slice none 0 0) []))) (33,0) (some (rowV 22 (.slice none 0 0) []))=F:=⟨_,rfl⟩
   have k30:f8 (30,0)=some (box7 178 g [.int .i64 K,.int .i64 R,.slice va vn vc,.pointer (some ⟨gb,0,none⟩),.slice none 0 0,.slice none 0 0,.bool stop]):=by rw [← hf8,upd_ne _ _ (by decide),upd_ne _ _ (by decide),upd_ne _ _ (by decide)]; exact m30
   have k31:f8 (31,0)=some (rowV 22 (.slice (some ⟨w5.heap.size,0,none⟩) 1 1) [.slice none 0 0]):=by rw [← hf8,upd_ne _ _ (by decide),upd_ne _ _ (by decide),upd_same]
   have k32:f8 (32,0)=some (rowI (.slice none 0 0) []):=by rw [← hf8,upd_ne _ _ (by decide),upd_same]
   have k33:f8 (33,0)=some (rowV 22 (.slice none 0 0) []):=by rw [← hf8,upd_same]
   have hb8:BagAt B (w5.alloc (.cells #[.slice none 0 0] 22)) f8 gb b i [List.replicate i true] sv5 [u]:=(hb5.below bl).congr (fun j hj=>by
    have:j.1≠31∧j.1≠32∧j.1≠33:=by rcases hj with q | q | q<;>rw [q]<;>decide
    rw [← hf8,upd_ne _ _ (by intro e; exact this.2.2 (by rw [e])),upd_ne _ _ (by intro e; exact this.2.1 (by rw [e])),upd_ne _ _ (by intro e; exact this.1 (by rw [e]))])
   rw [hf8] at hR8
   have c5:(w5.alloc (.cells #[.slice none 0 0] 22)).cell? ⟨g,5,none⟩=some (.slice none 0 0):=hR8.cell k30 (g:=g) (cap:=1) rfl 5 (show 5<1*7 by decide)
   have z5:=hR8.frozen k30 (g:=g) (cap:=1) rfl 5
   have hR9:=hR8.set k30 (g:=g) (cap:=1) rfl 5 (.slice (some ⟨w5.heap.size,0,none⟩) 1 1)
   have g9:(w5.alloc (.cells #[.slice none 0 0] 22)).grownBy ((w5.alloc (.cells #[.slice none 0 0] 22)).setCell ⟨g,5,none⟩ (.slice (some ⟨w5.heap.size,0,none⟩) 1 1)) (some g):=(World.ownsRow.stored (hR8.1 _ _ k30) 5 (.slice (some ⟨w5.heap.size,0,none⟩) 1 1)).2
   obtain ⟨f9,hf9⟩:∃ F,upd f8 (30,0) (some (box7 178 g [.int .i64 K,.int .i64 R,.slice va vn vc,.pointer (some ⟨gb,0,none⟩),.slice none 0 0,.slice (some ⟨w5.heap.size,0,none⟩) 1 1,.bool stop]))=F:=⟨_,rfl⟩
   replace hR9:Rows B ((w5.alloc (.cells #[.slice none 0 0] 22)).setCell ⟨g,5,none⟩ (.slice (some ⟨w5.heap.size,0,none⟩) 1 1)) (upd f8 (30,0) (some (box7 178 g [.int .i64 K,.int .i64 R,.slice va vn vc,.pointer (some ⟨gb,0,none⟩),.slice none 0 0,.slice (some ⟨w5.heap.size,0,none⟩) 1 1,.bool stop]))):=hR9
   have hb9:=hb8.kept hR8 k30 ⟨by decide,by decide,by decide⟩ (fun j e=>by rw [← hf9]; exact upd_ne _ _ e) g9 (f':=f9) (by intro k e; injection e with e; rw [← e]; rfl)
   rw [hf9] at hR9
   have b9:=(((b3.trans (hB4.mono (by omega:B≤w3.heap.size))).trans b5).trans (bl.mono (by omega:B≤w5.heap.size))).setCell (show B≤(⟨g,5,none⟩:Addr).block from hgB) (.slice (some ⟨w5.heap.size,0,none⟩) 1 1)
   have hW9:WalkAt B ((w5.alloc (.cells #[.slice none 0 0] 22)).setCell ⟨g,5,none⟩ (.slice (some ⟨w5.heap.size,0,none⟩) 1 1)) f9 g gb b K R i (.slice va vn vc) stop [List.replicate i true] [[]] [] sv5 [u] (.slice (some ⟨w5.heap.size,0,none⟩) 1 1) [.slice none 0 0] (.slice none 0 0) []:=by
    refine ⟨by rw [← hf9,upd_same],hb9,⟨by rw [← hf9,upd_ne _ _ (by decide)]; exact k31,rfl,fun j hj=>?_⟩,⟨by rw [← hf9,upd_ne _ _ (by decide)]; exact k33,rfl,fun j hj=>absurd hj (Nat.not_lt_zero _)⟩⟩
    obtain rfl:j=0:=by simpa using hj
    rw [← hf9,upd_ne _ _ (by decide)]; exact k32
   obtain ⟨w9,hw9⟩:∃ W:World,(w5.alloc (.cells #[.slice none 0 0] 22)).setCell ⟨g,5,none⟩ (.slice (some ⟨w5.heap.size,0,none⟩) 1 1)=W:=⟨_,rfl⟩
   rw [hw9] at hR9 hW9 b9
   obtain ⟨qb,hqb⟩:∃ q,w5.heap.size=q:=⟨_,rfl⟩
   rw [hqb] at hW9
   replace hW9:=Hd hW9
   replace hR9:=Hd hR9
   replace hw9:=Hd hw9
   replace hqb:=Hd hqb
   clear hb9 g9 hR8 hb8 k30 k31 k32 k33 hf8 hf9 hR7 hR6 m30 hR5 hb5 o5 put bl b5 hRl hbl hO ho4 hB4 b4 b3 hR3 hb3 n30 y3
   go_upto_region 17 with fail
   rw [hw9.out]
   clear hw9 c5 z5
   have hs9:=b9.size
   have hgo0:wkGo stop K i T (4097-0) 0 [List.replicate i true] [[]] []=RES:=hRES.out
   replace hgo0:=Hd hgo0
   go_wp2
   go_loopw [10] (fun iv wr=>∃ p:Nat,iv=.int .i64 p∧AllIn B w g gb b K R i (.slice va vn vc) stop T RES p wr) (fun iv _=>4097-(intOf iv).toNat)
   case atStart=>exact ⟨0,rfl,_,_,_,_,_,_,_,_,_,_,hgo0.out,WkOk.init i,by simp,rfl,hR9.out,hW9.out,b9⟩
   case round =>
    obtain ⟨p,rfl,sets,words,next,sv,svs,wv,wvs,nv,nvs,f',hgo,hwk,hp,hnl,hR',hW',hB'⟩:=hrel
    obtain ⟨wo,rfl⟩:∃ wo:World,wo=wr:=⟨_,rfl⟩
    have y0:wo.cell? ⟨g,0,none⟩=some (.int .i64 K):=hW'.cell hR' 0 (by decide)
    have y3:wo.cell? ⟨g,3,none⟩=some (.pointer (some ⟨gb,0,none⟩)):=hW'.cell hR' 3 (by decide)
    obtain ⟨q0,q1,q2⟩:=hW'.bag.cells hR'
    have len:=bag_Len gb sv svs wo q1 (hW'.bag.outer hR')
    rw [hW'.bag.len] at len
    have hsm:=hwk.small
    have hso:=hB'.size
    clear q0 q1 q2
    by_cases hps:p<sets.length
    ·have dp:decide ((p:Int)<(sets.length:Int))=true:=decide_eq_true (by omega)
     rw [wkGo_round hps hsm] at hgo
     obtain ⟨RR,hRR⟩:∃ X,wkRow stop K i T p K 0 sets words []=X:=⟨_,rfl⟩
     rw [hRR] at hgo
     replace hRR:=Hd hRR
     replace hgo:=Hd hgo
     replace hR':=Hd hR'
     replace hW':=Hd hW'
     replace hwk:=Hd hwk
     replace hnl:=Hd hnl
     go_wp2_with fail
     refine len.mono ?_
     rintro e w' ⟨rfl,rfl⟩
     go_wp2_with (at_make; refine wpl_make rfl _ _ rfl _ rfl rfl (by omega) (by omega) ?_)
     intro rv w10 ho10 b10
     have hR10:=hR'.out.add (i:=(35,0)) (r':=rowI rv (List.replicate K 0)) b10 (ho10.mono (by omega:B≤wo.heap.size)) (fun k hk=>(ho10.lt k hk).1)
     have hW10:=(hW'.out.below b10).congr (f':=upd f' (35,0) (some (rowI rv (List.replicate K 0)))) (fun j hj=>upd_ne _ _ (by intro e; exact hj (by rw [e])))
     have l10:=ho10.at.len
     rw [List.length_replicate] at l10
     obtain ⟨ra,rn,rc,rfl⟩:=ho10.at.shape
     have bw10:=hB'.trans (b10.mono (by omega:B≤wo.heap.size))
     have hs10:=bw10.size
     replace ho10:=Hd ho10
     replace hR10:=Hd hR10
     replace hW10:=Hd hW10
     go_wp2
     go_loopw [83] (fun tv wr=>∃ t:Nat,tv=.int .i64 t∧t≤K∧RowIn B w g gb b K R i (.slice va vn vc) stop T next nv nvs (.slice ra rn rc) RR p t wr) (fun tv _=>K-(intOf tv).toNat)
     case atStart=>exact ⟨0,rfl,Nat.zero_le _,_,_,_,_,_,_,_,_,hRR.out,hwk.out,hps,rfl,hR10.out,hW10.out,upd_same _ _ _,bw10⟩
     case round =>
      obtain ⟨t,rfl,ht,sets',words',row,sv',svs',wv',wvs',f2,hrow,hwk2,hps2,hrl,hR2,hW2,n35,hB2⟩:=hrel
      obtain ⟨wi,rfl⟩:∃ wi:World,wi=wr:=⟨_,rfl⟩
      by_cases htK:t<K
      ·have dt:decide ((t:Int)<(K:Int))=true:=decide_eq_true (by omega)
       have b0i:Below w0.heap.size w0 wi:=by rw [hB.out]; exact b0.trans hB2
       have hst:=step_any r (hg.out.below b0i) hR2 hW2 (hT.out.below b0i) hok.out hl hn.out h1 hn4 p t hps2 hwk2
       rw [wkRow_round htK] at hrow
       have hrs:=row_set (x:=0) hrl htK
       cases hs:wkStep stop K i T p t sets' words' with
       | on a ws id =>
        rw [hs] at hst hrow
        obtain ⟨hwk3,hle3⟩:=wkStep_ok hwk2 hps2 hs
        replace hrow:=Hd hrow
        replace hs:=Hd hs
        replace hwk2:=Hd hwk2
        replace hwk3:=Hd hwk3
        replace hrl:=Hd hrl
        replace hR2:=Hd hR2
        replace hW2:=Hd hW2
        replace n35:=Hd n35
        clear hrs
        go_wp2_with fail
        refine hst.mono ?_
        rintro e w11 ⟨rfl,b11,f3,sv3,svs3,wv3,wvs3,hR3,hW3,o3⟩
        have m35:=(o3 (35,0) ⟨by decide,by decide,by decide,by decide,by decide,by decide,by decide⟩).trans n35.out
        have hown:=hR3.ownI m35
        have hlt:t<(row++List.replicate (K-t) (0:Int)).length:=by rw [List.length_append,hrl.out,List.length_replicate]; omega
        have iX:=fun w'=>hown.at.idx t hlt w'
        have cX:=hown.at.cellD t hlt
        have fX:=hown.frz t hlt
        have hR4:=hR3.setI m35 t hlt id
        have g4:wi.heap.size=wi.heap.size:=rfl
        have gr4:=(hown.toV.setGrown t (by simpa using hlt) (.int .i64 id))
        have hW4:=hW3.kept hR3 m35 rfl (fun j e=>upd_ne _ _ e) gr4 (f':=upd f3 (35,0) (some (rowI (.slice ra rn rc) ((row++List.replicate (K-t) (0:Int)).set t id)))) (fun k e=>e)
        have bb4:=hown.setBelow (b11) t hlt (.int .i64 id)
        rw [row_set hrl.out htK] at hR4 hW4
        obtain ⟨xa,hxa⟩:∃ xa,valAt (.slice ra rn rc) t=xa:=⟨_,rfl⟩
        rw [hxa] at iX cX fX hR4 hW4 bb4
        have bfin:=hB2.trans bb4
        replace hxa:=Hd hxa
        replace hR4:=Hd hR4
        replace hW4:=Hd hW4
        clear hown hlt g4 gr4 m35 hR3 hW3 o3 bb4
        go_wp2
        go_roundw
        case measure=>simp [intOf]; omega
        case rel=>exact ⟨t+1,by go_num,by omega,a,ws,row++[id],_,_,_,_,_,hrow.out,hwk3.out,by omega,by rw [List.length_append,hrl.out]; rfl,hR4.out,hW4.out,upd_same _ _ _,bfin⟩
       | orphan wd =>
        rw [hs] at hst hrow
        have hres:=hgo.out
        rw [← hrow] at hres
        replace hres:WkR.orphan wd=RES:=hres
        clear hs hrow
        replace hres:=Hd hres
        replace hwk2:=Hd hwk2
        replace hrl:=Hd hrl
        replace hR2:=Hd hR2
        replace hW2:=Hd hW2
        replace n35:=Hd n35
        clear hrs
        go_wp2_with fail
        refine hst.mono ?_
        rintro e w11 ⟨pe,rfl,b11,hfd⟩
        have hR3:=hR2.out.below b11
        have hown:=hR3.ownI n35.out
        have hown0:=hR2.out.ownI n35.out
        have hlt:t<(row++List.replicate (K-t) (0:Int)).length:=by rw [List.length_append,hrl.out,List.length_replicate]; omega
        have iX:=fun w'=>hown.at.idx t hlt w'
        have cX:=hown.at.cellD t hlt
        have fX:=hown.frz t hlt
        have bb4:=hown.setBelow (b11.mono (by have:=hB2.size; omega:B≤wi.heap.size)) t hlt (.int .i64 0)
        obtain ⟨pp,fa,fn,fc,e1,f2',f3',f4'⟩:=hfd
        injection e1 with _ e1
        injection e1 with e1
        injection e1 with e1
        subst e1
        have hne:(Value.slice fa fn fc).ownBlock≠(Value.slice ra rn rc).ownBlock:=fun e=>by
         cases hk:(Value.slice ra rn rc).ownBlock with
         | none =>
          have:=hown0.blkB t hlt
          have h0:=hown0.toV.blkB t (by simpa using hlt)
          rw [hk] at h0; cases h0.1
         | some k =>
          have a1:=(hown0.lt k hk).2
          have a2:=(f3'.lt k (by rw [e]; exact hk)).1
          omega
        have hf5:=f3'.setOther hown hne t hlt (.int .i64 0)
        have hx0:(valAt (.slice ra rn rc) t).block<wi.heap.size:=World.block_lt_of_cell? _ _ (hown0.at.cellD t hlt)
        have hf6:(w11.setCell (valAt (.slice ra rn rc) t) (.int .i64 0)).cell? ⟨pp,0,none⟩=some (.slice fa fn fc):=by rw [World.cell?_setCell_other _ _ _ _ (fun e=>by rw [e] at hx0; exact absurd f4' (Nat.not_le_of_lt hx0))]; exact f2'
        have hfin:AllPost r B g K R i (.slice va vn vc) stop w RES (.returned (.iface 180 (.pointer (some ⟨pp,0,none⟩)))) (w11.setCell (valAt (.slice ra rn rc) t) (.int .i64 0)):=by
         rw [← hres.out]
         exact ⟨_,rfl,hB2.trans bb4,pp,fa,fn,fc,rfl,hf6,hf5.mono (by have:=hB2.size; omega),by have:=hB2.size; omega⟩
        obtain ⟨xa,hxa⟩:∃ xa,valAt (.slice ra rn rc) t=xa:=⟨_,rfl⟩
        rw [hxa] at iX cX fX hfin
        replace hxa:=Hd hxa
        replace hfin:=Hd hfin
        clear hown hown0 hR3 bb4 hf5 hf6 hne f3' f2' hx0 hlt
        go_wp2
        go_ret
        exact hfin.out
       | big =>
        rw [hs] at hst hrow
        have hres:=hgo.out
        rw [← hrow] at hres
        replace hres:WkR.big=RES:=hres
        clear hs hrow
        replace hres:=Hd hres
        replace hwk2:=Hd hwk2
        replace hrl:=Hd hrl
        replace hR2:=Hd hR2
        replace hW2:=Hd hW2
        replace n35:=Hd n35
        clear hrs
        go_wp2_with fail
        refine hst.mono ?_
        rintro e w11 ⟨pe,rfl,b11,hfd⟩
        have hR3:=hR2.out.below b11
        have hown:=hR3.ownI n35.out
        have hlt:t<(row++List.replicate (K-t) (0:Int)).length:=by rw [List.length_append,hrl.out,List.length_replicate]; omega
        have iX:=fun w'=>hown.at.idx t hlt w'
        have cX:=hown.at.cellD t hlt
        have fX:=hown.frz t hlt
        have c0:=hown.at.cellD 0 (by omega)
        have bb4:=hown.setBelow (b11.mono (by have:=hB2.size; omega:B≤wi.heap.size)) t hlt (.int .i64 0)
        obtain ⟨gr,cap,hrv,-⟩:=Row.own.shape (hR3.1 _ _ n35.out) (show 0<(row++List.replicate (K-t) (0:Int)).length by omega)
        replace hrv:Value.slice ra rn rc=.slice (some ⟨gr,0,none⟩) (row++List.replicate (K-t) (0:Int)).length cap:=hrv
        have hx:valAt (.slice ra rn rc) t=⟨gr,t,none⟩:=by rw [hrv,valAt_row]
        have hx0:valAt (.slice ra rn rc) 0=⟨gr,0,none⟩:=by rw [hrv,valAt_row]
        rw [hx0] at c0
        have hfd2:=hfd.set (b:=gr) (i:=t) (fun s e=>by rw [c0] at e; cases e) (.int .i64 0)
        have hfin:AllPost r B g K R i (.slice va vn vc) stop w RES (.returned (.iface 75 (.pointer (some pe)))) (w11.setCell (valAt (.slice ra rn rc) t) (.int .i64 0)):=by
         rw [← hres.out]
         exact ⟨_,rfl,hB2.trans bb4,by rw [hx]; exact hfd2⟩
        obtain ⟨xa,hxa⟩:∃ xa,valAt (.slice ra rn rc) t=xa:=⟨_,rfl⟩
        rw [hxa] at iX cX fX hfin
        replace hxa:=Hd hxa
        replace hfin:=Hd hfin
        clear hown hR3 bb4 hfd hfd2 hx hx0 hrv c0 hlt
        go_wp2
        go_ret
        exact hfin.out
      ·obtain rfl:t=K:=by omega
       have dt:decide ((t:Int)<(t:Int))=false:=decide_eq_false (by omega)
       have hRRe:RR=.on sets' words' row:=by
        rw [← hrow,Nat.sub_self]; rfl
       rw [Nat.sub_self,List.replicate_zero,List.append_nil] at n35
       have hgo2:=hgo.out
       rw [hRRe] at hgo2
       replace hgo2:wkGo stop t i T (4097-(p+1)) (p+1) sets' words' (next++[row])=RES:=hgo2
       have e30:=hW2.box
       have c4:wi.cell? ⟨g,4,none⟩=some nv:=hR2.cell e30 (g:=g) (cap:=1) rfl 4 (show 4<1*7 by decide)
       obtain ⟨na,nn,nc,rfl⟩:=(hR2.ownV hW2.next.out).shape
       have hnl2:nvs.length<4398046511104:=by rw [hW2.next.len,hnl.out]; omega
       have hs12:=hB2.size
       clear hRRe hrow
       replace hgo2:=Hd hgo2
       replace hrl:=Hd hrl
       replace hwk2:=Hd hwk2
       replace hR2:=Hd hR2
       replace hW2:=Hd hW2
       replace n35:=Hd n35
       replace e30:=Hd e30
       go_wp2_with (at_builtin; go_loud (refine wpl_appR oneLists rfl _ _ rfl hR2.out (33,0) (.slice na nn nc) nvs hW2.out.next.out (.slice ra rn rc) rfl rfl rfl hnl2 (by omega) ?_))
       intro v5 w5' f5' R5 i5 o5 B5 hgr
       obtain ⟨row5,g5,hrow5⟩:=hgr
       obtain ⟨pa,pn,pc,rfl⟩:=(R5.ownV i5).shape
       have d30:=(o5 _ (by decide)).trans e30.out
       have d35:=(o5 _ (by decide)).trans n35.out
       have z4:=R5.cell d30 (g:=g) (cap:=1) rfl 4 (show 4<1*7 by decide)
       replace z4:w5'.cell? ⟨g,4,none⟩=some (.slice na nn nc):=z4
       have fz4:=R5.frozen d30 (g:=g) (cap:=1) rfl 4
       have R6:=R5.set d30 (g:=g) (cap:=1) rfl 4 (.slice pa pn pc)
       obtain ⟨F6,hF6⟩:∃ F,upd f5' (30,0) (some (box7 178 g [.int .i64 t,.int .i64 R,.slice va vn vc,.pointer (some ⟨gb,0,none⟩),.slice pa pn pc,wv',.bool stop]))=F:=⟨_,rfl⟩
       replace R6:Rows B (w5'.setCell ⟨g,4,none⟩ (.slice pa pn pc)) (upd f5' (30,0) (some (box7 178 g [.int .i64 t,.int .i64 R,.slice va vn vc,.pointer (some ⟨gb,0,none⟩),.slice pa pn pc,wv',.bool stop]))):=R6
       have g6:w5'.grownBy (w5'.setCell ⟨g,4,none⟩ (.slice pa pn pc)) (some g):=(World.ownsRow.stored (R5.1 _ _ d30) 4 (.slice pa pn pc)).2
       have hbag5:=hW2.out.bag.kept hR2.out hW2.out.next.out ⟨by decide,by decide,by decide⟩ o5 g5 hrow5
       have hbag6:=hbag5.kept R5 d30 ⟨by decide,by decide,by decide⟩ (f':=F6) (fun j e=>by rw [← hF6]; exact upd_ne _ _ e) g6 (by intro k e; injection e with e; rw [← e]; rfl)
       rw [hF6] at R6
       have m35:F6 (35,0)=some (rowI (.slice ra rn rc) row):=by rw [← hF6,upd_ne _ _ (by decide)]; exact d35
       have R7:=R6.move (j:=(34,next.length)) m35 (R6.1 _ _ m35) rfl
       have o7:∀ j:Nat×Nat,j≠(34,next.length)→j.1≠35→upd (upd F6 (35,0) none) (34,next.length) (some (rowI (.slice ra rn rc) row)) j=F6 j:=fun j a1 a2=>by rw [upd_ne _ _ a1,upd_ne _ _ (by intro e; exact a2 (by rw [e]))]
       have oF:∀ j:Nat×Nat,j≠(30,0)→j≠(33,0)→F6 j=f2 j:=fun j a1 a2=>by rw [← hF6,upd_ne _ _ a1]; exact o5 j a2
       have n34:∀ j:Nat×Nat,j.1≠34→j≠(34,next.length):=fun j a e=>a (by rw [e])
       have W7:WalkAt B (w5'.setCell ⟨g,4,none⟩ (.slice pa pn pc)) (upd (upd F6 (35,0) none) (34,next.length) (some (rowI (.slice ra rn rc) row))) g gb b t R i (.slice va vn vc) stop sets' words' (next++[row]) sv' svs' wv' wvs' (.slice pa pn pc) (nvs++[.slice ra rn rc]):=by
        refine ⟨?_,hbag6.congr fun j hj=>o7 j (n34 j (by omega)) (by omega),hW2.out.words.congr fun j hj=>?_,hW2.out.next.more ?_ (upd_same _ _ _) fun q hq=>?_⟩
        ·rw [o7 _ (by intro e; cases e) (by decide),← hF6,upd_same]
        ·rw [o7 j (n34 j (by omega)) (by omega),oF j (by intro e; subst e; omega) (by intro e; subst e; omega)]
        ·rw [o7 _ (by intro e; cases e) (by decide),← hF6,upd_ne _ _ (by decide)]; exact i5
        ·rw [o7 _ (by intro e; injection e with _ e; omega) (by show (34:Nat)≠35; decide),oF _ (by intro e; cases e) (by intro e; cases e)]
       have bfin:=hB2.trans (B5.setCell (show B≤(⟨g,4,none⟩:Addr).block from hgB) (.slice pa pn pc))
       have hfin:AllIn B w g gb b t R i (.slice va vn vc) stop T RES (p+1) (w5'.setCell ⟨g,4,none⟩ (.slice pa pn pc)):=⟨sets',words',next++[row],_,_,_,_,_,_,_,hgo2.out,hwk2.out,by omega,by rw [List.length_append,hnl.out]; rfl,R7,W7,bfin⟩
       replace hfin:=Hd hfin
       clear W7 n34 oF o7 R7 m35 hbag6 hbag5 g6 R6 hF6 d35 d30 i5 o5 B5 R5 g5 hrow5
       go_wp2
       go_roundw
       case measure=>simp [intOf]; omega
       case rel=>exact ⟨p+1,by go_num,hfin.out⟩
    ·have dp:decide ((p:Int)<(sets.length:Int))=false:=decide_eq_false (by omega)
     rw [wkGo_end hps (by omega)] at hgo
     have hfin:AllPost r B g K R i (.slice va vn vc) stop w RES (.returned .nilIface) wo:=by
      rw [← hgo]
      exact ⟨rfl,hB',_,_,_,_,_,_,_,_,_,hR',hW'⟩
     replace hfin:=Hd hfin
     replace hR':=Hd hR'
     replace hW':=Hd hW'
     replace hwk:=Hd hwk
     replace hnl:=Hd hnl
     clear hgo
     go_wp2_with fail
     refine len.mono ?_
     rintro e w' ⟨rfl,rfl⟩
     go_wp2
     go_ret
     exact hfin.out
end Go.Proofs.YtkaoebokbfcmhaaGreatDoor
namespace Go.Proofs.YtkaoebokbfcmhaaGreatDoor
open Go.RowKit Go.Extern.Stop Go.Stop Go.Extern
set_option maxRecDepth 100000
set_option maxHeartbeats 8000000
namespace Fnd
open Errs (methodKind methodElem methodImplements methodAssignableTo rlm rls)
theorem uF:Tryz.prog.underlying 180=some (.pointer 183):=by kernel_rfl
theorem valueOfFF (t:Addr) (w:World):(ReflectliteValue.unpack (.iface 181 (.pointer (some t)))).run Tryz.prog w
 = .ok (.agg #[.pointer (some ⟨13,181,none⟩),.pointer (some ⟨w.heap.size,0,none⟩),.int .u64 150]) (w.alloc (.cells #[.pointer (some t)] 181)):=by kernel_rfl
theorem typeFF (a : Addr) (w : World) : (ReflectliteValue.methodAny (ReflectliteValue.valueError "reflectlite.Value.Type" 0) (fun t _ _ _ => ReflectliteType.toType t) #[.agg #[.pointer (some ⟨13, 181, none⟩), .pointer (some a), .int .u64 150]]).run Tryz.prog w
 = .ok (.iface 192 (.agg #[.pointer (some ⟨13,181,none⟩)])) w:=by kernel_rfl
theorem kindFF (w:World):((ReflectliteType.abiMethod fun t=>(fun a:Nat=>Value.int IntKind.u8 (a:Int)) <$> Rtype.kind t) #[.pointer (some ⟨13,181,none⟩)]).run Tryz.prog w=.ok (.int .u8 22) w:=by kernel_rfl
theorem kindF (w:World):((ReflectliteType.abiMethod fun t=>(fun a:Nat=>Value.int IntKind.u8 (a:Int)) <$> Rtype.kind t) #[.pointer (some ⟨13,180,none⟩)]).run Tryz.prog w=.ok (.int .u8 22) w:=by kernel_rfl
theorem partsFF (a:Addr) (w:World):(ReflectliteValue.parts (.agg #[.pointer (some ⟨13,181,none⟩),.pointer (some a),.int .u64 150])).run Tryz.prog w=.ok (some (181,a,150)) w:=by kernel_rfl
theorem isNilFF (a p:Addr) (W:World) (ha:W.cell? a=some (.pointer (some p))) :
 (ReflectliteValue.method (ReflectliteValue.valueError "reflectlite.Value.IsNil" 0) ReflectliteValue.isNil #[.agg #[.pointer (some ⟨13, 181, none⟩), .pointer (some a), .int .u64 150]]).run Tryz.prog W = .ok (.bool false) W := by
 rw [rlm]
 simp only [Sem.run_bind,partsFF,Result.andThen]
 simp [ReflectliteValue.isNil,loadVar,isAgg,underlying,ha,Result.andThen]
theorem elemFF (w:World):(ReflectliteType.method ReflectliteType.elem #[.agg #[.pointer (some ⟨13,181,none⟩)]]).run Tryz.prog w=.ok (.iface 192 (.agg #[.pointer (some ⟨13,180,none⟩)])) w:=by kernel_rfl
theorem implementsF (w : World) : (ReflectliteType.relation "Implements" ReflectliteType.implements_ #[.agg #[.pointer (some ⟨13, 180, none⟩)], .iface 192 (.agg #[.pointer (some ⟨13, 27, none⟩)])]).run Tryz.prog w = .ok (.bool true) w := by kernel_rfl
theorem typeOfF (v:Value) (w:World):(ReflectliteType.typeOf #[.iface 180 v]).run Tryz.prog w=.ok (.iface 192 (.agg #[.pointer (some ⟨13,180,none⟩)])) w:=by kernel_rfl
theorem assignableF (w : World) : (ReflectliteType.relation "AssignableTo" ReflectliteType.assignableTo #[.agg #[.pointer (some ⟨13, 180, none⟩)], .iface 192 (.agg #[.pointer (some ⟨13, 180, none⟩)])]).run Tryz.prog w = .ok (.bool true) w := by kernel_rfl
theorem valueOfF (e:Addr) (w:World):(ReflectliteValue.unpack (.iface 180 (.pointer (some e)))).run Tryz.prog w
 = .ok (.agg #[.pointer (some ⟨13,180,none⟩),.pointer (some ⟨w.heap.size,0,none⟩),.int .u64 150]) (w.alloc (.cells #[.pointer (some e)] 180)):=by kernel_rfl
theorem elemOfFF (w:World):(Rtype.elem? 181).run Tryz.prog w=.ok (some 180) w:=by kernel_rfl
theorem mkF (p:Addr) (w:World):(ReflectliteValue.mk 180 p ReflectliteValue.flagAddr).run Tryz.prog w=.ok (.agg #[.pointer (some ⟨13,180,none⟩),.pointer (some p),.int .u64 406]) w:=by kernel_rfl
theorem elemVFF (a p:Addr) (W:World) (ha:W.cell? a=some (.pointer (some p))) :
 (ReflectliteValue.method (ReflectliteValue.valueError "reflectlite.Value.Elem" 0) ReflectliteValue.elem #[.agg #[.pointer (some ⟨13, 181, none⟩), .pointer (some a), .int .u64 150]]).run Tryz.prog W
   = .ok (.agg #[.pointer (some ⟨13,180,none⟩),.pointer (some p),.int .u64 406]) W:=by
 rw [rlm]
 simp only [Sem.run_bind,partsFF,Result.andThen]
 simp [ReflectliteValue.elem,loadVar,isAgg,underlying,ha,Result.andThen,elemOfFF,mkF]
theorem partsFa (a:Addr) (w:World):(ReflectliteValue.parts (.agg #[.pointer (some ⟨13,180,none⟩),.pointer (some a),.int .u64 406])).run Tryz.prog w=.ok (some (180,a,406)) w:=by kernel_rfl
theorem partsF (a:Addr) (w:World):(ReflectliteValue.parts (.agg #[.pointer (some ⟨13,180,none⟩),.pointer (some a),.int .u64 150])).run Tryz.prog w=.ok (some (180,a,150)) w:=by kernel_rfl
theorem directF (w:World):(Rtype.directlyAssignable 180 180).run Tryz.prog w=.ok true w:=by kernel_rfl
theorem setF (ta b e:Addr) (old:Value) (W:World) (hb:W.cell? b=some (.pointer (some e))) (ht:W.cell? ta=some old) (hf:W.frozen? ta=false) :
 (ReflectliteValue.set #[.agg #[.pointer (some ⟨13,180,none⟩),.pointer (some ta),.int .u64 406],.agg #[.pointer (some ⟨13,180,none⟩),.pointer (some b),.int .u64 150]]).run Tryz.prog W
   = .ok (.tuple #[]) (W.setCell ta (.pointer (some e))):=by
 rw [rls]
 simp only [Sem.run_bind,partsFa,partsF,Result.andThen]
 simp [ReflectliteValue.flagAddr,loadVar,isAgg,underlying,hb,Result.andThen,directF,storeVar,Value.cells,storeCells,Addr.add]
 rw [run_store Tryz.prog W ta _ _ (by rfl)]
 simp [ht,hf]
theorem as_hit (e t:Addr) (old:Value) (w:World) (hg:w.cell? ⟨3,0,none⟩=some (.iface 192 (.agg #[.pointer (some ⟨13,27,none⟩)]))) (ht0:w.cell? t=some old) (hf0:w.frozen? t=false) :
 Calls Tryz.prog 31 #[.iface 180 (.pointer (some e)),.iface 181 (.pointer (some t))] w fun ev w'=>ev=.returned (.bool true)∧w'=((((w.alloc (.cells #[.pointer (some t)] 181)).alloc (.cells #[.pointer (some ⟨13,181,none⟩),.pointer (some ⟨w.heap.size,0,none⟩),.int .u64 150] 138)).alloc (.cells #[.pointer (some ⟨13,181,none⟩),.pointer (some ⟨w.heap.size,0,none⟩),.int .u64 150] 138)).alloc (.cells #[.pointer (some e)] 180)).setCell t (.pointer (some e)):=by
 have h6:=@run_callFunc_extern Tryz.prog 79 _ (fun args=>ReflectliteValue.unpack (args.getD 0 (.tuple #[]))) Tryz.func79 (by kernel_rfl) (by kernel_rfl) (by kernel_rfl) (by kernel_rfl)
 have h7 := @run_callFunc_extern Tryz.prog 80 _ (ReflectliteValue.methodAny (ReflectliteValue.valueError "reflectlite.Value.Type" 0) (fun t _ _ _ => ReflectliteType.toType t)) Tryz.func80 (by kernel_rfl) (by kernel_rfl) (by kernel_rfl) (by kernel_rfl)
 have h8 := @run_callFunc_extern Tryz.prog 81 _ (ReflectliteValue.method (ReflectliteValue.valueError "reflectlite.Value.IsNil" 0) ReflectliteValue.isNil) Tryz.func81 (by kernel_rfl) (by kernel_rfl) (by kernel_rfl) (by kernel_rfl)
 have h27:=@run_callFunc_extern Tryz.prog 221 _ (ReflectliteType.abiMethod fun t=>do pure (.int .u8 (← Rtype.kind t))) Tryz.func221 (by kernel_rfl) (by kernel_rfl) (by kernel_rfl) (by kernel_rfl)
 have h37:=@run_callFunc_extern Tryz.prog 233 _ (ReflectliteType.method ReflectliteType.elem) Tryz.func233 (by kernel_rfl) (by kernel_rfl) (by kernel_rfl) (by kernel_rfl)
 have h38 := @run_callFunc_extern Tryz.prog 234 _ (ReflectliteType.relation "Implements" ReflectliteType.implements_) Tryz.func234 (by kernel_rfl) (by kernel_rfl) (by kernel_rfl) (by kernel_rfl)
 have h10:=@run_callFunc_extern Tryz.prog 71 _ ReflectliteType.typeOf Tryz.func71 (by kernel_rfl) (by kernel_rfl) (by kernel_rfl) (by kernel_rfl)
 have h35 := @run_callFunc_extern Tryz.prog 231 _ (ReflectliteType.relation "AssignableTo" ReflectliteType.assignableTo) Tryz.func231 (by kernel_rfl) (by kernel_rfl) (by kernel_rfl) (by kernel_rfl)
 have h11 := @run_callFunc_extern Tryz.prog 125 _ (ReflectliteValue.method (ReflectliteValue.valueError "reflectlite.Value.Elem" 0) ReflectliteValue.elem) Tryz.func125 (by kernel_rfl) (by kernel_rfl) (by kernel_rfl) (by kernel_rfl)
 have h12:=@run_callFunc_extern Tryz.prog 126 _ ReflectliteValue.set Tryz.func126 (by kernel_rfl) (by kernel_rfl) (by kernel_rfl) (by kernel_rfl)
 have tO:=typeOfF
 have mA:=methodAssignableTo
 have aF:=assignableF
 have vF:=valueOfF
 have f6:=valueOfFF
 have f7:=typeFF
 have mK:=methodKind
 have mE:=methodElem
 have mI:=methodImplements
 have kFF:=kindFF
 have kF:=kindF
 have eFF:=elemFF
 have iF:=implementsF
 have n8:=isNilFF ⟨w.heap.size,0,none⟩ t ((w.alloc (.cells #[.pointer (some t)] 181)).alloc (.cells #[.pointer (some ⟨13,181,none⟩),.pointer (some ⟨w.heap.size,0,none⟩),.int .u64 150] 138)) (by simp)
 have hlt:3<w.heap.size:=World.block_lt_of_cell? _ _ hg
 have hg2:((w.alloc (.cells #[.pointer (some t)] 181)).alloc (.cells #[.pointer (some ⟨13,181,none⟩),.pointer (some ⟨w.heap.size,0,none⟩),.int .u64 150] 138)).cell? ⟨3,0,none⟩=some (.iface 192 (.agg #[.pointer (some ⟨13,27,none⟩)])):=by
  rw [World.cell?_alloc_lt _ _ ⟨3,0,none⟩ (by simp; omega),World.cell?_alloc_lt _ _ ⟨3,0,none⟩ hlt]; exact hg
 have htl:t.block<w.heap.size:=World.block_lt_of_cell? _ _ ht0
 have el:=elemVFF ⟨w.heap.size,0,none⟩ t (((w.alloc (.cells #[.pointer (some t)] 181)).alloc (.cells #[.pointer (some ⟨13,181,none⟩),.pointer (some ⟨w.heap.size,0,none⟩),.int .u64 150] 138)).alloc (.cells #[.pointer (some ⟨13,181,none⟩),.pointer (some ⟨w.heap.size,0,none⟩),.int .u64 150] 138)) (by rw [World.cell?_alloc_lt _ _ ⟨w.heap.size,0,none⟩ (by simp; omega)]; simp)
 have st:=setF t ⟨w.heap.size+1+1+1,0,none⟩ e old ((((w.alloc (.cells #[.pointer (some t)] 181)).alloc (.cells #[.pointer (some ⟨13,181,none⟩),.pointer (some ⟨w.heap.size,0,none⟩),.int .u64 150] 138)).alloc (.cells #[.pointer (some ⟨13,181,none⟩),.pointer (some ⟨w.heap.size,0,none⟩),.int .u64 150] 138)).alloc (.cells #[.pointer (some e)] 180))
  (by rw [World.cell?_alloc_at _ _ _ _ (by simp)]; rfl)
  (by rw [World.cell?_alloc_lt _ _ t (by simp; omega),World.cell?_alloc_lt _ _ t (by simp; omega),World.cell?_alloc_lt _ _ t (by simp; omega),World.cell?_alloc_lt _ _ t htl]; exact ht0)
  (by rw [World.frozen?_alloc_old _ _ t (by simp; omega),World.frozen?_alloc_old _ _ t (by simp; omega),World.frozen?_alloc_old _ _ t (by simp; omega),World.frozen?_alloc_old _ _ t (Nat.ne_of_lt htl)]; exact hf0)
 go_enter Tryz.func31,Tryz.ntmps31
 go_wp2
 refine wp_loop_rounds 1 ?_
 rw [rounds_succ]
 go_wp2
 go_ret
 exact ⟨rfl,rfl⟩
theorem as_any (e t:Addr) (old:Value) (w:World) (hg:w.cell? ⟨3,0,none⟩=some (.iface 192 (.agg #[.pointer (some ⟨13,27,none⟩)]))) (ht0:w.cell? t=some old) (hf0:w.frozen? t=false) :
 Calls Tryz.prog 31 #[.iface 180 (.pointer (some e)),.iface 181 (.pointer (some t))] w fun ev w'=>ev=.returned (.bool true)∧∃ w1,Below w.heap.size w w1∧w'=w1.setCell t (.pointer (some e)) :=
 (as_hit e t old w hg ht0 hf0).mono fun _ _ ⟨h1,h2⟩=>⟨h1,_,((((Below.refl _ _).alloc (Nat.le_refl _) _).alloc (by simp) _).alloc (by simp; omega) _).alloc (by simp; omega) _,h2⟩
end Fnd
namespace Fnd
open Errs (methodKind methodElem methodImplements methodAssignableTo)
theorem assignF (w : World) : (ReflectliteType.relation "AssignableTo" ReflectliteType.assignableTo #[.agg #[.pointer (some ⟨13, 75, none⟩)], .iface 192 (.agg #[.pointer (some ⟨13, 180, none⟩)])]).run Tryz.prog w = .ok (.bool false) w := by kernel_rfl
theorem assignE (w : World) : (ReflectliteType.relation "AssignableTo" ReflectliteType.assignableTo #[.agg #[.pointer (some ⟨13, 287, none⟩)], .iface 192 (.agg #[.pointer (some ⟨13, 180, none⟩)])]).run Tryz.prog w = .ok (.bool false) w := by kernel_rfl
theorem uAs : Tryz.prog.underlying 202 = some (.interface #[("As", 204)]) := by kernel_rfl
theorem uUnws : Tryz.prog.underlying 198 = some (.interface #[("Unwrap", 199)]) := by kernel_rfl
theorem noAsF (v:Value) (xT:TypeId) (w:World):(Instr.typeAssert (.iface 75 v) xT 202 true).run Tryz.prog w=.ok (.tuple #[.nilIface,.bool false]) w:=run_typeAssert_lacksB uAs (by kernel_rfl) (by kernel_rfl) v xT w
theorem noAsE (v:Value) (xT:TypeId) (w:World):(Instr.typeAssert (.iface 287 v) xT 202 true).run Tryz.prog w=.ok (.tuple #[.nilIface,.bool false]) w:=run_typeAssert_lacksB uAs (by kernel_rfl) (by kernel_rfl) v xT w
theorem noUnwE (v:Value) (xT:TypeId) (w:World):(Instr.typeAssert (.iface 287 v) xT 197 true).run Tryz.prog w=.ok (.tuple #[.nilIface,.bool false]) w:=run_typeAssert_lacksB Errs.uUnw (by kernel_rfl) (by kernel_rfl) v xT w
theorem noUnwsE (v:Value) (xT:TypeId) (w:World):(Instr.typeAssert (.iface 287 v) xT 198 true).run Tryz.prog w=.ok (.tuple #[.nilIface,.bool false]) w:=run_typeAssert_lacksB uUnws (by kernel_rfl) (by kernel_rfl) v xT w
theorem as_loop (r:Nat→Addr) (n:Int) (l:List (ByteArray×Int)) (v tgt x0 x1 x2:Value) (w:World) (h:ErrAt r w n l v) :
 Calls Tryz.prog 82 #[v,tgt,.agg #[x0,x1,x2],.iface 192 (.agg #[.pointer (some ⟨13,180,none⟩)])] w fun e w'=>e=.returned (.bool false)∧Below w.heap.size w w':=by
 have h10:=@run_callFunc_extern Tryz.prog 71 _ ReflectliteType.typeOf Tryz.func71 (by kernel_rfl) (by kernel_rfl) (by kernel_rfl) (by kernel_rfl)
 have h35 := @run_callFunc_extern Tryz.prog 231 _ (ReflectliteType.relation "AssignableTo" ReflectliteType.assignableTo) Tryz.func231 (by kernel_rfl) (by kernel_rfl) (by kernel_rfl) (by kernel_rfl)
 have tF:=Errs.typeOfF
 have tE:=Errs.typeOfE
 have mA:=methodAssignableTo
 have aF:=assignF
 have aE:=assignE
 have nF:=noAsF
 have nE:=noAsE
 have uF:=Errs.hasUnwrapF
 have uE:=noUnwE
 have usE:=noUnwsE
 have mU:=Errs.methodUnwrap
 have bb:=belowAlloc w (.cells #[x0,x1,x2] 138)
 replace h:=Hd (h.below bb)
 obtain ⟨W,hW⟩:∃ W:World,w.alloc (.cells #[x0,x1,x2] 138)=W:=⟨_,rfl⟩
 rw [hW] at h bb
 replace hW:=Hd hW
 go_enter Tryz.func82,Tryz.ntmps82
 go_wp2
 rw [hW.out]
 go_loopg [0] l.length (fun k u wr=>wr=W∧∃ l',l'.length=k∧ErrAt r W n l' u)
 case atStart=>exact ⟨rfl,l,rfl,h.out⟩
 case round =>
  obtain ⟨rfl,l',hl',hu⟩:=hrel
  match l',hl',hu with
  | [],hl',hu =>
   obtain rfl:_=rootV r n:=hu
   clear hl'
   go_wp2
   go_ret
   exact ⟨rfl,bb⟩
  | (op,at_)::rest,hl',hu =>
   obtain ⟨p,u',rfl,c0,c1,c2,hrest⟩:=hu
   obtain ⟨T,a,rfl⟩:=hrest.shape
   replace hrest:=Hd hrest
   replace hl':=Hd hl'
   go_wp2_with (go_at_call 225; refine (Errs.unwrap_any p _ _ c2).mono ?_; rintro e w' ⟨rfl,rfl⟩)
   go_roundg rest.length
   case measure=>have:=hl'.out; simp at this; omega
   case rel=>exact ⟨rfl,rest,rfl,hrest.out⟩
theorem as_miss (r:Nat→Addr) (n:Int) (l:List (ByteArray×Int)) (v:Value) (t:Addr) (w:World) (h:ErrAt r w n l v) (hg:w.cell? ⟨3,0,none⟩=some (.iface 192 (.agg #[.pointer (some ⟨13,27,none⟩)]))) :
 Calls Tryz.prog 31 #[v,.iface 181 (.pointer (some t))] w fun ev w'=>ev=.returned (.bool false)∧Below w.heap.size w w':=by
 have h6:=@run_callFunc_extern Tryz.prog 79 _ (fun args=>ReflectliteValue.unpack (args.getD 0 (.tuple #[]))) Tryz.func79 (by kernel_rfl) (by kernel_rfl) (by kernel_rfl) (by kernel_rfl)
 have h7 := @run_callFunc_extern Tryz.prog 80 _ (ReflectliteValue.methodAny (ReflectliteValue.valueError "reflectlite.Value.Type" 0) (fun t _ _ _ => ReflectliteType.toType t)) Tryz.func80 (by kernel_rfl) (by kernel_rfl) (by kernel_rfl) (by kernel_rfl)
 have h8 := @run_callFunc_extern Tryz.prog 81 _ (ReflectliteValue.method (ReflectliteValue.valueError "reflectlite.Value.IsNil" 0) ReflectliteValue.isNil) Tryz.func81 (by kernel_rfl) (by kernel_rfl) (by kernel_rfl) (by kernel_rfl)
 have h27:=@run_callFunc_extern Tryz.prog 221 _ (ReflectliteType.abiMethod fun t=>do pure (.int .u8 (← Rtype.kind t))) Tryz.func221 (by kernel_rfl) (by kernel_rfl) (by kernel_rfl) (by kernel_rfl)
 have h37:=@run_callFunc_extern Tryz.prog 233 _ (ReflectliteType.method ReflectliteType.elem) Tryz.func233 (by kernel_rfl) (by kernel_rfl) (by kernel_rfl) (by kernel_rfl)
 have h38 := @run_callFunc_extern Tryz.prog 234 _ (ReflectliteType.relation "Implements" ReflectliteType.implements_) Tryz.func234 (by kernel_rfl) (by kernel_rfl) (by kernel_rfl) (by kernel_rfl)
 have f6:=valueOfFF
 have f7:=typeFF
 have mK:=methodKind
 have mE:=methodElem
 have mI:=methodImplements
 have kFF:=kindFF
 have kF:=kindF
 have eFF:=elemFF
 have iF:=implementsF
 have n8:=isNilFF ⟨w.heap.size,0,none⟩ t ((w.alloc (.cells #[.pointer (some t)] 181)).alloc (.cells #[.pointer (some ⟨13,181,none⟩),.pointer (some ⟨w.heap.size,0,none⟩),.int .u64 150] 138)) (by simp)
 have hlt:3<w.heap.size:=World.block_lt_of_cell? _ _ hg
 have hg2:((w.alloc (.cells #[.pointer (some t)] 181)).alloc (.cells #[.pointer (some ⟨13,181,none⟩),.pointer (some ⟨w.heap.size,0,none⟩),.int .u64 150] 138)).cell? ⟨3,0,none⟩=some (.iface 192 (.agg #[.pointer (some ⟨13,27,none⟩)])):=by
  rw [World.cell?_alloc_lt _ _ ⟨3,0,none⟩ (by simp; omega),World.cell?_alloc_lt _ _ ⟨3,0,none⟩ hlt]; exact hg
 have bb:=Below.step (belowAlloc w (.cells #[.pointer (some t)] 181)) (belowAlloc _ (.cells #[.pointer (some ⟨13,181,none⟩),.pointer (some ⟨w.heap.size,0,none⟩),.int .u64 150] 138))
 obtain ⟨T,a,rfl⟩:=h.shape
 replace h:=Hd (h.below bb)
 go_enter Tryz.func31,Tryz.ntmps31
 go_wp2_with (go_at_call 82; refine (as_loop r n l _ _ _ _ _ _ h.out).mono ?_; rintro e w' ⟨rfl,b2⟩)
 go_ret
 exact ⟨rfl,Below.step bb b2⟩
theorem as_nil (x:Value) (w:World):Calls Tryz.prog 31 #[.nilIface,x] w fun ev w'=>ev=.returned (.bool false)∧w=w':=by
 go_enter Tryz.func31,Tryz.ntmps31
 go_wp2
 go_ret
 exact ⟨rfl,rfl⟩
end Fnd
end Go.Proofs.YtkaoebokbfcmhaaGreatDoor
namespace Go.Proofs.YtkaoebokbfcmhaaGreatDoor
open Go.RowKit
set_option maxRecDepth 100000
set_option maxHeartbeats 8000000
def sSubset:ByteArray:=⟨#[115,117,98,115,101,116]⟩
theorem told_bag (r:Nat→Addr) (v:Value) (w:World) (hg:Glob r w) (hG:GlobE w) (h:ErrIs r w (fresh sBag 0 4) v) :
 Calls Tryz.prog 116 #[v] w (Ret1 (fun x w'=>ErrIs r w' (fresh sSubset 0 4) x) w):=by
 have z4:=hg.c4
 have his:=Errs.is_any r 4 _ v w h
 obtain ⟨p,u,rfl,c0,c1,c2,hu⟩:=h
 have bv:=belowAlloc' w (.cells #[.pointer none] 75)
 have zt:(w.alloc (.cells #[.pointer none] 75)).cell? ⟨w.heap.size,0,none⟩=some (.pointer none):=by simp
 have ft:(w.alloc (.cells #[.pointer none] 75)).frozen? ⟨w.heap.size,0,none⟩=false:=by simp
 have gv:=Hd (hG.below bv)
 replace hg:=Hd hg
 replace hG:=Hd hG
 replace hu:=Hd hu
 go_enter Tryz.func116,Tryz.ntmps116
 go_wp2_with fail
 refine his.mono ?_
 rintro e w1 ⟨rfl,rfl⟩
 clear his
 go_upto_region 3 with fail
 obtain ⟨wv,hwv⟩:∃ W:World,W=w.alloc (.cells #[.pointer none] 75):=⟨_,rfl⟩
 rw [← hwv] at bv zt ft gv ⊢
 clear hwv
 replace c0:=Hd c0
 replace c1:=Hd c1
 replace c2:=Hd c2
 have has:Calls Tryz.prog 31 #[.iface 75 (.pointer (some ⟨p,0,none⟩)),.iface 77 (.pointer (some ⟨w.heap.size,0,none⟩))] wv fun e w'=>e=.returned (.bool true)∧w'.cell? ⟨w.heap.size,0,none⟩=some (.pointer (some ⟨p,0,none⟩))∧Below w.heap.size w w':=by
  refine (Errs.as_any ⟨p,0,none⟩ ⟨w.heap.size,0,none⟩ (.pointer none) wv gv.out zt ft).mono ?_
  rintro e w6 ⟨rfl,w5,hb5,rfl⟩
  exact ⟨rfl,World.cell?_setCell_same _ _ _ (cell_keep hb5 zt),(Below.stepL bv hb5).setCell (p:=⟨w.heap.size,0,none⟩) (Nat.le_refl _) _⟩
 go_wp2_with fail
 refine has.mono ?_
 rintro e w6 ⟨rfl,p0,b6⟩
 have y0:w6.cell? ⟨p,0,none⟩=some (.string ⟨#[98,97,103]⟩):=cell_keep b6 c0.out
 have hg6:=Hd (hg.out.below b6)
 go_wp2_with fail
 refine (new_any r _ 0 4 w6 hg6.out (by decide) (by decide)).mono ?_
 rintro e w7 ⟨x,rfl,b7,he⟩
 have b67:=Below.step b6 b7
 go_wp2
 go_ret
 exact ⟨_,rfl,b67,he⟩
def OntoPost (r:Nat→Addr) (B:Nat):SubR→Value→Value→Value→World→Prop
 | .on _ _,x,y,z,_=>x=.bool true∧y=.slice none 0 0∧z=.nilIface
 | .orphan wd,x,y,z,w'=>x=.bool false∧z=.nilIface∧OwnI B w' y wd
 | .big,x,y,z,w'=>x=.bool false∧y=.slice none 0 0∧ErrIs r w' (fresh sSubset 0 4) z
theorem sub_onto (r:Nat→Addr) (K R:Nat) (va:Option Addr) (vn vc:Nat) (T:List Int) (w:World) (hg:Glob r w) (hG:GlobE w) (h:IntsAt w (.slice va vn vc) T) (hok:RuleOk K R T) (hl:T.length≤256) :
 Calls Tryz.prog 66 #[.agg #[.int .i64 K,.int .i64 R,.slice va vn vc]] w (Ret3 (fun x y z w'=>OntoPost r w.heap.size (subR K (pw K (2*R)) T) x y z w') w):=by
 have hk1:=hok.k1
 have hT:T.length=pw K (2*R)*K:=by rw [hok.len,pw_succ]
 have hn:T.length/K=pw K (2*R):=by rw [hT]; exact Nat.mul_div_cancel _ (by omega)
 have h1:=pw_pos (K:=K) (2*R) hk1
 have hn4:pw K (2*R)≤256:=by rw [← hn]; exact Nat.le_trans (Nat.div_le_self _ _) hl
 have hsub:=wk_sub K (pw K (2*R)) T
 obtain ⟨n,hne⟩:∃ n,pw K (2*R)=n:=⟨_,rfl⟩
 rw [hne] at hn h1 hn4 hsub ⊢
 rw [← hsub]
 have b0:=belowAlloc w (.cells #[.int .i64 K,.int .i64 R,.slice va vn vc] 24)
 have q:Box3 (w.alloc (.cells #[.int .i64 K,.int .i64 R,.slice va vn vc] 24)) w.heap.size (.int .i64 K) (.int .i64 R) (.slice va vn vc):=by simp [Box3,go_sem]
 have b1:=Below.step b0 (belowAlloc _ (.cells #[.int .i64 K,.int .i64 R,.slice va vn vc,.pointer none,.slice none 0 0,.slice none 0 0,.bool true] 178))
 have hR:=((Rows.void w.heap.size w).below b0).add (i:=(30,0)) (r':=box7 178 (w.heap.size+1) [.int .i64 K,.int .i64 R,.slice va vn vc,.pointer none,.slice none 0 0,.slice none 0 0,.bool true]) (belowAlloc _ (.cells #[.int .i64 K,.int .i64 R,.slice va vn vc,.pointer none,.slice none 0 0,.slice none 0 0,.bool true] 178))
  (by
    have:=World.ownsRow_lit (base:=w.heap.size) (e:=178) (size:=7) (w.alloc (.cells #[.int .i64 K,.int .i64 R,.slice va vn vc] 24)) #[.int .i64 K,.int .i64 R,.slice va vn vc,.pointer none,.slice none 0 0,.slice none 0 0,.bool true] 1 (by simp) (by decide) rfl
    unfold Row.own
    simpa using this) (fun k hk=>by cases hk; simp)
 obtain ⟨w1,hw1⟩:∃ W:World,((w.alloc (.cells #[.int .i64 K,.int .i64 R,.slice va vn vc] 24)).alloc (.cells #[.int .i64 K,.int .i64 R,.slice va vn vc,.pointer none,.slice none 0 0,.slice none 0 0,.bool true] 178))=W:=⟨_,rfl⟩
 rw [hw1] at hR b1
 have hall:=all_any (stop:=true) r hg h b1 hR (upd_same _ _ _) hok hl hn h1 hn4
 obtain ⟨RES,hRES⟩:∃ X,wkAll true K n T=X:=⟨_,rfl⟩
 rw [hRES] at hall ⊢
 obtain ⟨⟨z0,z1,z2⟩,-,-,-⟩:=q
 have hg0:=Hd hg
 have hG0:=Hd hG
 replace hRES:=Hd hRES
 replace hw1:=Hd hw1
 clear hR hok hl hn h1 hn4 hne hsub hT h hk1 hg hG b0
 go_enter Tryz.func66,Tryz.ntmps66
 go_wp2_with fail
 rw [hw1.out]
 refine hall.mono ?_
 clear hall z0 z1 z2
 cases RES with
 | on a ws x =>
  rintro e w2 ⟨rfl,b2,-⟩
  have b12:=b1.trans b2
  have b3:=Below.step b12 (belowAlloc w2 (.cells #[.pointer none] 180))
  go_wp2_with fail
  refine (Fnd.as_nil _ _).mono ?_
  rintro e w3 ⟨rfl,rfl⟩
  go_wp2
  go_ret3
  exact ⟨_,_,_,rfl,b3,rfl,rfl,rfl⟩
 | orphan wd =>
  rintro e w2 ⟨p,rfl,b2,hfd⟩
  obtain ⟨pp,fa,fn,fc,e1,f2,f3,f4⟩:=hfd
  injection e1 with _ e1
  injection e1 with e1
  injection e1 with e1
  subst e1
  have b12:=b1.trans b2
  have bl:=belowAlloc w2 (.cells #[.pointer none] 180)
  have b3:=Below.step b12 bl
  have hit:=Fnd.as_any ⟨pp,0,none⟩ ⟨w2.heap.size,0,none⟩ (.pointer none) (w2.alloc (.cells #[.pointer none] 180)) (hG0.out.below b3) (by simp [go_sem]) (by simp [go_sem])
  have ct:(w2.alloc (.cells #[.pointer none] 180)).cell? ⟨w2.heap.size,0,none⟩=some (.pointer none):=by simp [go_sem]
  replace f3:=Hd f3
  replace f2:=Hd f2
  go_wp2_with fail
  refine hit.mono ?_
  rintro e w4 ⟨rfl,w3,b4,rfl⟩
  have b14:=(Below.stepL bl b4).setCell (p:=⟨w2.heap.size,0,none⟩) (Nat.le_refl _) (.pointer (some ⟨pp,0,none⟩))
  have ct2:=World.cell?_setCell_same w3 ⟨w2.heap.size,0,none⟩ (.pointer (some ⟨pp,0,none⟩)) (cell_keep b4 ct)
  have cf:=cell_keep b14 f2.out
  have ho:=f3.out.below b14
  have bfin:=Below.step b12 b14
  obtain ⟨W,hW⟩:∃ W:World,w3.setCell ⟨w2.heap.size,0,none⟩ (.pointer (some ⟨pp,0,none⟩))=W:=⟨_,rfl⟩
  rw [hW] at ct2 cf ho bfin
  replace ho:=Hd ho
  replace hW:=Hd hW
  clear ct hit b14 b4
  go_upto_region 5 with fail
  rw [hW.out]
  refine wp_region_plan (fun w'=>w'.cell? ⟨w2.heap.size,0,none⟩=some (.pointer (some ⟨pp,0,none⟩))∧w'.cell? ⟨pp,0,none⟩=some (.slice fa fn fc)) 6 [(0,true),(1,true),(2,true),(3,true),(4,true),(5,true)] (by kernel_rfl) (by kernel_rfl) ?_
  have hS:(W.drew).cell? ⟨w2.heap.size,0,none⟩=some (.pointer (some ⟨pp,0,none⟩))∧(W.drew).cell? ⟨pp,0,none⟩=some (.slice fa fn fc):=⟨ct2,cf⟩
  refine pqY 16 hS ?_
  refine pqY 17 hS ?_
  refine pqY 18 hS ?_
  refine pqY 19 hS ?_
  refine pqY 2 hS ?_
  refine pqY 3 hS ?_
  refine head0 ?_
  simp only [List.drop_succ_cons,List.drop_zero]
  go_wp2
  refine NoPanic.normal ?_
  go_wp2
  go_ret3
  exact ⟨_,_,_,rfl,bfin.drew,rfl,rfl,ho.out.drew⟩
 | big =>
  rintro e w2 ⟨p,rfl,b2,he⟩
  have b12:=b1.trans b2
  have bl:=belowAlloc w2 (.cells #[.pointer none] 180)
  have b3:=Below.step b12 bl
  have miss:=Fnd.as_miss r 4 [(sBag,0)] (.iface 75 (.pointer (some p))) ⟨w2.heap.size,0,none⟩ (w2.alloc (.cells #[.pointer none] 180)) (he.below bl) (hG0.out.below b3)
  replace he:=Hd he
  go_wp2_with fail
  refine miss.mono ?_
  rintro e w4 ⟨rfl,b4⟩
  have b24:=Below.step bl b4
  have b14:=Below.step b12 b24
  have told:=told_bag r (.iface 75 (.pointer (some p))) w4 (hg0.out.below b14) (hG0.out.below b14) (he.out.below b24)
  clear miss
  go_wp2_with fail
  refine told.mono ?_
  rintro e w5 ⟨x,rfl,b5,he5⟩
  have bfin:=Below.step b14 b5
  obtain ⟨T5,p5,rfl⟩:=he5.some_shape
  replace he5:=Hd he5
  go_wp2
  go_ret3
  exact ⟨_,_,_,rfl,bfin,rfl,rfl,he5.out⟩
end Go.Proofs.YtkaoebokbfcmhaaGreatDoor
namespace Go.Proofs.YtkaoebokbfcmhaaGreatDoor
def natV:List Nat→Nat
 | []=>0
 | x::l=>x+4294967296*natV l
def Limbs (l:List Nat):Prop:=∀ x∈l,x<4294967296
def Norm (l:List Nat):Prop:=∀ h:l≠[],l.getLast h≠0
open Go.RowKit
set_option maxRecDepth 100000
def limbs (l:List Nat):List Value:=l.map fun (n:Nat)=>Value.int .u32 (n:Int)
theorem limbs_len (l:List Nat):(limbs l).length=l.length:=by simp [limbs]
theorem limbs_take (l:List Nat) (m:Nat):limbs (l.take m)=(limbs l).take m:=by simp [limbs,List.map_take]
theorem limbs_set (l:List Nat) (i x:Nat):limbs (l.set i x)=(limbs l).set i (.int .u32 (x:Int)):=by simp [limbs,List.map_set]
theorem uNat:Tryz.prog.underlying 35=some (.slice 82):=by kernel_rfl
theorem oneNat:OneCell 35 82 (.int .u32 0) 4:=⟨by kernel_rfl,by kernel_rfl,rfl,by decide,fun _=>by kernel_rfl⟩
theorem eNat:Tryz.prog.elem 35=82:=by kernel_rfl
theorem uNatE:Tryz.prog.underlying 35=some (.slice (Tryz.prog.elem 35)):=by rw [eNat]; exact uNat
def cutAt (v:Value) (m:Nat):Value:=match v with | .slice a _ c=>.slice a m c | _=>v
theorem valAt_cut (v:Value) (m i:Nat):valAt (cutAt v m) i=valAt v i:=by
 cases v<;>try rfl
 rename_i a n c; cases a<;>rfl
def lenV (v:Value):Nat:=match v with | .slice _ n _=>n | _=>0
theorem ValsAt.cut {w:World} {v:Value} {vs:List Value} (h:ValsAt w v vs) {m:Nat} (hm:m≤vs.length):ValsAt w (cutAt v m) (vs.take m):=by
 obtain ⟨a,cap,rfl,h1,h2,h3,h4⟩:=h
 have hl:(vs.take m).length=m:=by simp; omega
 refine ⟨a,cap,by rw [hl]; rfl,by rw [hl]; omega,h2,h3,fun i hi=>?_⟩
 rw [hl] at hi
 rw [valAt_cut,h4 i (by omega)]; simp
theorem OwnV.cut {E:TypeId} {B:Nat} {w:World} {v:Value} {vs:List Value} (h:OwnV E B w v vs) {m:Nat} (hm:m≤vs.length):OwnV E B w (cutAt v m) (vs.take m):=by
 have hl:(vs.take m).length=m:=by simp; omega
 rcases h.2 with ⟨rfl,hn⟩ | ⟨g,cap,cur,rfl,hB,hg,hn,hmm,hs,ht⟩
 ·obtain rfl:m=0:=by omega
  exact OwnV.nil E B w
 ·refine ⟨by simp,.inr ⟨g,cap,cur,by rw [hl]; rfl,hB,hg,by rw [hl]; omega,hmm,hs,?_⟩⟩
  rw [hl]
  have:=congrArg (List.take m) ht
  rw [List.take_take] at this
  simp only [Nat.mul_one] at this ⊢
  rwa [Nat.min_eq_left (by omega)] at this
def LimbsAt (w:World) (v:Value) (l:List Nat):Prop:=ValsAt w v (limbs l)
def OwnN (B:Nat) (w:World) (v:Value) (l:List Nat):Prop:=OwnV 82 B w v (limbs l)
theorem OwnN.at {B:Nat} {w:World} {v:Value} {l:List Nat} (h:OwnN B w v l):LimbsAt w v l:=OwnV.at h
theorem LimbsAt.below {w w':World} {v:Value} {l:List Nat} (h:LimbsAt w v l) (hb:Below w.heap.size w w'):LimbsAt w' v l:=ValsAt.below h hb
theorem LimbsAt.shape {w:World} {v:Value} {l:List Nat} (h:LimbsAt w v l):∃ a n c,v=.slice a n c:=by
 obtain ⟨a,cap,e,_⟩:=h; exact ⟨_,_,_,e⟩
theorem LimbsAt.len {w:World} {v:Value} {l:List Nat} (h:LimbsAt w v l) (w':World) :
 (Builtin.len_ #[35] 3 #[v]).run Tryz.prog w'=.ok (.int .i64 l.length) w':=by
 have:=ValsAt.len oneNat h 3 w'
 rwa [limbs_len] at this
theorem LimbsAt.idx {w:World} {v:Value} {l:List Nat} (h:LimbsAt w v l) (i:Nat) (hi:i<l.length) (w':World) :
 (Instr.indexAt 35 v (.int .i64 i)).run Tryz.prog w'=.ok (.pointer (some (valAt v i))) w':=ValsAt.idx oneNat h i (by rw [limbs_len]; exact hi) w'
theorem LimbsAt.cell {w:World} {v:Value} {l:List Nat} (h:LimbsAt w v l) (i:Nat) (hi:i<l.length):w.cell? (valAt v i)=some (.int .u32 ((l.getD i 0:Nat):Int)):=by
 have:=ValsAt.cell h i (by rw [limbs_len]; exact hi)
 rw [this]; simp [limbs,List.getD,hi]
theorem LimbsAt.len_le {w:World} {v:Value} {l:List Nat} (h:LimbsAt w v l):l.length≤9223372036854775807:=by
 have:=ValsAt.len_le h
 rwa [limbs_len] at this
theorem LimbsAt.cut {w:World} {v:Value} {l:List Nat} (h:LimbsAt w v l) {m:Nat} (hm:m≤l.length):LimbsAt w (cutAt v m) (l.take m):=by
 have:=ValsAt.cut h (m:=m) (by rw [limbs_len]; exact hm)
 rwa [← limbs_take] at this
theorem OwnN.cut {B:Nat} {w:World} {v:Value} {l:List Nat} (h:OwnN B w v l) {m:Nat} (hm:m≤l.length):OwnN B w (cutAt v m) (l.take m):=by
 have:=OwnV.cut h (m:=m) (by rw [limbs_len]; exact hm)
 rwa [← limbs_take] at this
theorem OwnN.set {B:Nat} {w:World} {v:Value} {l:List Nat} (h:OwnN B w v l) (i:Nat) (hi:i<l.length) (x:Nat):OwnN B (w.setCell (valAt v i) (.int .u32 (x:Int))) v (l.set i x):=by
 have:=OwnV.set h i (by rw [limbs_len]; exact hi) (.int .u32 (x:Int))
 rwa [← limbs_set] at this
theorem OwnN.frz {B:Nat} {w:World} {v:Value} {l:List Nat} (h:OwnN B w v l) (i:Nat) (hi:i<l.length):w.frozen? (valAt v i)=false:=OwnV.frz h i (by rw [limbs_len]; exact hi)
theorem OwnN.blkB {B:Nat} {w:World} {v:Value} {l:List Nat} (h:OwnN B w v l) (i:Nat) (hi:i<l.length):B≤(valAt v i).block:=(OwnV.blkB h i (by rw [limbs_len]; exact hi)).2
theorem OwnN.setBelow {B:Nat} {w0 w:World} {v:Value} {l:List Nat} (h:OwnN B w v l) (hb:Below B w0 w) (i:Nat) (hi:i<l.length) (y:Value):Below B w0 (w.setCell (valAt v i) y):=hb.setCell (h.blkB i hi) y
theorem OwnN.mono {B B':Nat} {w:World} {v:Value} {l:List Nat} (h:OwnN B w v l) (hB:B'≤B):OwnN B' w v l:=OwnV.mono h hB
theorem OwnN.below {B:Nat} {w w':World} {v:Value} {l:List Nat} (h:OwnN B w v l) (hb:Below w.heap.size w w'):OwnN B w' v l:=OwnV.below h hb
theorem LimbsAt.front {w:World} {v:Value} {l:List Nat} (h:LimbsAt w v l) (m:Nat) (hm:m≤l.length) (w':World) :
 (Instr.slice 35 v none (some (.int .i64 m)) none).run Tryz.prog w'=.ok (cutAt v m) w':=by
 obtain ⟨a,cap,rfl,h1,h2,h3,h4⟩:=h
 rw [limbs_len] at h1 ⊢
 rw [run_slice_h w' 35 a l.length cap uNatE .i64 m (by omega) (by omega),eNat,oneNat.hs]
 show Result.ok (sliced a 0 m cap 1) w'=.ok (.slice a m cap) w'
 unfold sliced
 by_cases hc:cap=0
 ·subst hc; simp
 ·rw [if_neg hc]
  cases a with
  | none=>rfl
  | some p=>simp [Addr.add]
def NumIs (B:Nat) (w:World) (v:Value) (n:Nat):Prop:=∃ l,OwnN B w v l∧Limbs l∧Norm l∧natV l=n
theorem NumIs.below {B:Nat} {w w':World} {v:Value} {n:Nat} (h:NumIs B w v n) (hb:Below w.heap.size w w'):NumIs B w' v n:=by
 obtain ⟨l,h1,h2⟩:=h; exact ⟨l,h1.below hb,h2⟩
theorem NumIs.mono {B B':Nat} {w:World} {v:Value} {n:Nat} (h:NumIs B w v n) (hB:B'≤B):NumIs B' w v n:=by
 obtain ⟨l,h1,h2⟩:=h; exact ⟨l,h1.mono hB,h2⟩
end Go.Proofs.YtkaoebokbfcmhaaGreatDoor
namespace Go.Proofs.YtkaoebokbfcmhaaGreatDoor
def cellA {α:Type} (d:α) (L C Q:List α) (i:Int):α :=
 if i<0 then L.getD (i%(L.length:Int)).toNat d
 else if i<C.length then C.getD i.toNat d
 else Q.getD ((i-C.length)%(Q.length:Int)).toNat d
theorem emod_next {a:Int} {n j:Nat} (hn:1≤n) (h:a%(n:Int)=j):(a+1)%(n:Int)=if j+1<n then ((j+1:Nat):Int) else 0:=by
 have h1:=Int.emod_lt_of_pos a (show (0:Int)<n by omega)
 have e:(a+1)%(n:Int)=(((a%n)+1)%n):=by rw [Int.emod_add_emod]
 rw [e,h]
 split
 ·exact Int.emod_eq_of_lt (by omega) (by omega)
 ·rw [show (j:Int)+1=n by omega]; exact Int.emod_self
structure Bi (adj:Nat→List Nat) (L C Q:List Nat):Prop where
 l1:1≤L.length
 c1:1≤C.length
 q1:1≤Q.length
 sL:∀ j,j+1<L.length→L.getD (j+1) 0∈adj (L.getD j 0)
 eL:L.getD 0 0∈adj (L.getD (L.length-1) 0)
 fC:C.getD 0 0=L.getD 0 0
 sC:∀ j,j+1<C.length→C.getD (j+1) 0∈adj (C.getD j 0)
 eC:Q.getD 0 0∈adj (C.getD (C.length-1) 0)
 sQ:∀ j,j+1<Q.length→Q.getD (j+1) 0∈adj (Q.getD j 0)
 eQ:Q.getD (Q.length-1) 0=C.getD (C.length-1) 0
theorem Bi.step {adj:Nat→List Nat} {L C Q:List Nat} (h:Bi adj L C Q) (i:Int):cellA 0 L C Q (i+1)∈adj (cellA 0 L C Q i):=by
 have l1:=h.l1
 have c1:=h.c1
 have q1:=h.q1
 unfold cellA
 by_cases h0:i<0
 ·rw [if_pos h0]
  obtain ⟨j,hj,e⟩:=emod_nat (a:=i) l1
  have e2:=emod_next l1 e
  rw [e,Int.toNat_natCast]
  by_cases h1:i+1<0
  ·rw [if_pos h1,e2]
   split
   ·rename_i hlt; rw [Int.toNat_natCast]; exact h.sL j hlt
   ·obtain rfl:j=L.length-1:=by omega
    exact h.eL
  ·rw [if_neg h1,if_pos (by omega),show (i+1).toNat=0 by omega,h.fC]
   have:i=-1:=by omega
   subst this
   have e3:(-1:Int)+1=0:=rfl
   rw [e3,Int.zero_emod] at e2
   have:j=L.length-1:=by
    split at e2
    ·omega
    ·omega
   subst this
   exact h.eL
 ·rw [if_neg h0,if_neg (show ¬ i+1<0 by omega)]
  by_cases h1:i<C.length
  ·rw [if_pos h1]
   by_cases h2:i+1<C.length
   ·rw [if_pos h2,show (i+1).toNat=i.toNat+1 by omega]; exact h.sC _ (by omega)
   ·rw [if_neg h2,show i+1-(C.length:Int)=0 by omega,Int.zero_emod]
    have:=h.eC
    rw [show i.toNat=C.length-1 by omega]
    exact this
  ·rw [if_neg h1,if_neg (show ¬ i+1<C.length by omega)]
   obtain ⟨j,hj,e⟩:=emod_nat (a:=i-C.length) q1
   have e2:=emod_next q1 e
   rw [show i+1-(C.length:Int)=i-C.length+1 by omega,e2,e,Int.toNat_natCast]
   split
   ·rename_i hlt; rw [Int.toNat_natCast]; exact h.sQ j hlt
   ·obtain rfl:j=Q.length-1:=by omega
    rw [h.eQ]; exact h.eC
open Go.RowKit
set_option maxRecDepth 100000
def NumAt (w:World) (v:Value) (n:Nat):Prop:=∃ l,LimbsAt w v l∧Limbs l∧Norm l∧natV l=n
theorem NumAt.below {w w':World} {v:Value} {n:Nat} (h:NumAt w v n) (hb:Below w.heap.size w w'):NumAt w' v n:=by
 obtain ⟨l,h1,h2⟩:=h; exact ⟨l,h1.below hb,h2⟩
theorem NumAt.nil (w:World):NumAt w (.slice none 0 0) 0:=⟨[],(OwnV.nil 82 0 w).at,(by intro x hx; cases hx),(by intro h; exact absurd rfl h),rfl⟩
theorem NumAt.shape {w:World} {v:Value} {n:Nat} (h:NumAt w v n):∃ a m c,v=.slice a m c:=by
 obtain ⟨l,h1,_⟩:=h; exact h1.shape
theorem NumAt.set {w:World} {v u:Value} {n:Nat} {a:Addr} (h:NumAt w v n) (hc:w.cell? a=some u) (hu:∀ x,u≠.int .u32 x) (y:Value):NumAt (w.setCell a y) v n:=by
 obtain ⟨l,h1,h2⟩:=h
 refine ⟨l,ValsAt.cells_eq h1 fun i hi=>World.cell?_setCell_other _ _ _ _ (fun e=>?_),h2⟩
 have h3:=ValsAt.cell h1 i hi
 rw [← e,hc] at h3
 injection h3 with h3
 exact hu _ (h3.trans (List.getElem_map ..))
structure NumsIn (w:World) (vs:List Value) (ns:List Nat):Prop where
 len:vs.length=ns.length
 each:∀ i,i<ns.length→NumAt w (vs.getD i .nilIface) (ns.getD i 0)
theorem NumsIn.below {w w':World} {vs:List Value} {ns:List Nat} (h:NumsIn w vs ns) (hb:Below w.heap.size w w'):NumsIn w' vs ns:=⟨h.len,fun i hi=>(h.each i hi).below hb⟩
theorem NumsIn.set {w:World} {vs:List Value} {ns:List Nat} {a:Addr} {u:Value} (h:NumsIn w vs ns) (hc:w.cell? a=some u) (hu:∀ x,u≠.int .u32 x) (y:Value):NumsIn (w.setCell a y) vs ns:=⟨h.len,fun i hi=>(h.each i hi).set hc hu y⟩
theorem getD_at {vs:List Value} {i:Nat} (h:i<vs.length):vs.getD i .nilIface=vs[i]:=by simp [List.getD,h]
set_option maxHeartbeats 8000000
theorem of_ok (K R:Nat) (v:Value) (xs:List Int) (w:World) (h:IntsAt w v xs) (hr:RuleOk K R xs) :
 Calls Tryz.prog 69 #[.agg #[.int .i64 K,.int .i64 R,v]] w (Ret3 (fun x y z w'=>z=.nilIface∧y=.bool (isSum K R xs)∧(isSum K R xs=true→OwnI w.heap.size w' x (facs K R xs))∧(isSum K R xs=false→x=.slice none 0 0)) w):=by
 obtain ⟨va,vn,vc,hv⟩:=h.shape
 subst hv
 have hb0:=(Below.refl w.heap.size w).alloc (Nat.le_refl _) (.cells #[.int .i64 K,.int .i64 R,.slice va vn vc] 24)
 have h0:=Hd (h.below hb0)
 clear h
 have hk1:=hr.k1
 have hk4:=hr.k4
 have hr3:=hr.r3
 replace hr:=Hd hr
 obtain ⟨n,hn⟩:∃ n,n=2*R+1:=⟨_,rfl⟩
 have hn7:n≤7:=by omega
 have hnc:(2*(R:Int)+1)=(n:Int):=by omega
 replace hn:=Hd hn
 go_enter Tryz.func69,Tryz.ntmps69
 go_wp2_with fail
 refine (check_ok K R _ xs _ h0.out hr.out).mono ?_
 rintro e w1 ⟨x,rfl,hb,rfl⟩
 obtain ⟨z0,z1,z2,f0,f1,f2⟩:=cells3 hb
 go_wp2_with (at_make; refine wpl_make rfl _ _ rfl _ rfl rfl (by omega) (by omega) ?_)
 intro fv w2 ho hb2
 clear z0 z1 z2 f0 f1 f2
 have hfl:∀ w',(Builtin.len_ #[22] 3 #[fv]).run Tryz.prog w'=.ok (.int .i64 n) w':=by have:=ho.at.len; rwa [List.length_replicate] at this
 go_wp2
 go_loopw [7,22] (fun g i wr=>∃ j:Nat,j≤n∧i=.int .i64 j∧g=.int .i64 (wI K j)∧OwnI w1.heap.size wr fv (facI K n xs j)∧Below w1.heap.size w1 wr) (fun _ i _=>n-(intOf i).toNat)
 case atStart=>exact ⟨0,by omega,rfl,by unfold wI; split<;>rfl,by rw [facI_zero]; exact ho,hb2⟩
 case round =>
  obtain ⟨j,hj,rfl,rfl,ho,hbr⟩:=hrel
  obtain ⟨wo,rfl⟩:∃ wo:World,wo=wr:=⟨_,rfl⟩
  have hbw:=hb.trans (hbr.mono hb.size)
  obtain ⟨z0,z1,z2,f0,f1,f2⟩:=cells3 hbw
  by_cases hlt:j<n
  ·by_cases hK:1<K
   ·have hxl:pw K j<xs.length:=by rw [hr.out.len,← hn.out]; exact pw_lt hK hlt
    have ha:=h0.out.below hbw
    have i1:=ha.idx (pw K j) hxl
    have c1:=ha.cell (pw K j) hxl
    have i2:∀ w',(Instr.indexAt 22 fv (.int .i64 ((n:Int)-1-(j:Int)))).run Tryz.prog w'=.ok (.pointer (some (valAt fv (n-1-j)))) w':=by
     intro w'
     have:=ho.at.idxI ((n:Int)-1-(j:Int)) (by omega) (by rw [facI_length]; omega) w'
     rwa [show ((n:Int)-1-(j:Int)).toNat=n-1-j by omega] at this
    have c2:=ho.at.cell (n-1-j) (by rw [facI_length]; omega)
    have g2:=ho.frz (n-1-j) (by rw [facI_length]; omega)
    have hset:=Hd (ho.set (n-1-j) (by rw [facI_length]; omega) xs[pw K j])
    have hsb:=Hd (ho.setBelow hbr (n-1-j) (by rw [facI_length]; omega) (.int .i64 xs[pw K j]))
    have hne:∀ o,(valAt fv (n-1-j)=⟨w.heap.size,o,none⟩)=False:=by
     intro o
     have hbk:=ho.blkB (n-1-j) (by rw [facI_length]; omega)
     have hs:=hb.size
     simp at hs
     apply eq_false
     intro e
     rw [e] at hbk
     simp at hbk
     omega
    have hfe:Hid ((facI K n xs j).set (n-1-j) xs[pw K j]=facI K n xs (j+1)):=by
     show _=_
     simp only [facI,if_pos hK]
     exact facL_succ K n xs j hlt hxl
    have hwj:wI K j=pw K j:=if_pos hK
    have hwj1:Hid (wI K (j+1)=pw K j*K):=by show _=_; rw [wI,if_pos hK,pw_succ]
    rw [hwj]
    clear hwj
    have hb1:0≤(pw K j:Int)*(K:Int):=Int.mul_nonneg (by omega) (by omega)
    have hb2:(pw K j:Int)*(K:Int)≤16384:=by
     have:=pw_le (i:=j+1) hk1 hk4 (by omega)
     rw [pw_succ] at this
     exact_mod_cast this
    go_wp2
    go_roundw
    case rel =>
     refine ⟨j+1,by omega,by go_num,by rw [hwj1.out]; simp,?_,hsb.out⟩
     rw [← hfe.out]; exact hset.out
    case measure=>simp [intOf]; omega
   ·have hfe:Hid (facI K n xs (j+1)=facI K n xs j):=by show _=_; simp only [facI,if_neg hK]
    have hwj1:Hid (wI K (j+1)=1):=if_neg hK
    have hwj:wI K j=1:=if_neg hK
    rw [hwj]
    clear hwj
    have hK1:K=1:=by omega
    clear hK
    have hKK:(K:Int)≤1:=by omega
    have hKK1:(1:Int)≤K:=by omega
    clear hK1
    go_wp2
    go_roundw
    case rel =>
     refine ⟨j+1,by omega,by go_num,?_,by rw [hfe.out]; exact ho,hbr⟩
     rw [hwj1.out]
    case measure=>simp [intOf]; omega
  ·obtain rfl:j=n:=by omega
   have ha:=h0.out.below hbw
   have hfac:facI K j xs j=facs K R xs:=by rw [hn.out]; rfl
   rw [hfac] at ho
   clear hfac
   replace ha:=Hd ha
   replace ho:=Hd ho
   have hfs:=Hd (facs_syms hr.out)
   have hsz:w.heap.size<wo.heap.size:=World.block_lt_of_cell? _ _ z0
   have hf7:(facs K R xs).length≤7:=by rw [facs_length]; omega
   have hfd:=field_T
   go_wp2
   go_region_held3 (fun w'=>w'.cell? ⟨w.heap.size,0,none⟩=some (.int .i64 K)∧w'.cell? ⟨w.heap.size,2,none⟩=some (.slice va vn vc)) (go_keep)
    (first | (go_at_call 122; refine (sum_any K fv (facs K R xs) _ (by exact ho.out.at) hfs.out hk1 hk4 hf7).mono ?_; rintro e w3 ⟨x,rfl,hb3,ua,un,uc,rfl,hu⟩; have y0:=(hb3.cell (p:=⟨w.heap.size,0,none⟩) (by simp; omega)).trans z0; have y2:=(hb3.cell (p:=⟨w.heap.size,2,none⟩) (by simp; omega)).trans z2) | (go_at_call 121; refine (equal_any _ _ (sumT K (facs K R xs)) xs _ (by exact hu.at) (by exact ha.out.drew.below hb3)).mono ?_; rintro e w4 hq; obtain ⟨rfl,hb4⟩:=hq.below; have y4:=(hb4.cell (p:=⟨w.heap.size,0,none⟩) (World.block_lt_of_cell? _ _ y0)).trans y0; have y5:=(hb4.cell (p:=⟨w.heap.size,2,none⟩) (World.block_lt_of_cell? _ _ y2)).trans y2))
   have hball:Below w.heap.size w w4:=(hb0.trans ((hbw.drew.trans (hb3.mono (by have:=hbw.size; simp at this ⊢; omega))).mono (by simp))).trans (hb4.mono (by have:=hb3.size; simp at this; omega))
   have hown:OwnI w.heap.size w4 fv (facs K R xs):=(((ho.out.drew).below hb3).below hb4).mono (by have:=hb.size; simp at this; omega)
   replace hball:=Hd hball
   replace hown:=Hd hown
   clear y0 y2 y4 y5 hq
   cases hs:isSum K R xs
   ·rw [show decide (sumT K (facs K R xs)=xs)=false from hs]
    replace hs:=Hd hs
    go_wp2
    go_ret3
    exact ⟨_,_,_,rfl,hball.out,rfl,(by rw [hs.out]; rfl),(fun h=>by rw [hs.out] at h; cases h),fun _=>rfl⟩
   ·rw [show decide (sumT K (facs K R xs)=xs)=true from hs]
    replace hs:=Hd hs
    go_wp2
    go_ret3
    exact ⟨_,_,_,rfl,hball.out,rfl,(by rw [hs.out]; rfl),fun _=>hown.out,(fun h=>by rw [hs.out] at h; cases h)⟩
end Go.Proofs.YtkaoebokbfcmhaaGreatDoor
namespace Go.Proofs.YtkaoebokbfcmhaaGreatDoor
open Go.RowKit
set_option maxRecDepth 100000
theorem EOwn.drew {B:Nat} {w:World} {t:PErr} {v:Value} (h:EOwn B w t v):EOwn B w.drew t v:=by
 match t,h with
 | none,h=>exact h
 | some (n,l),h=>exact h
end Go.Proofs.YtkaoebokbfcmhaaGreatDoor
namespace Go.Proofs.YtkaoebokbfcmhaaGreatDoor
open Go.RowKit
set_option maxRecDepth 100000
theorem symbol_any (K R:Nat) (va:Option Addr) (vn vc:Nat) (T:List Int) (u:Value) (ys:List Int) (w:World) (h:IntsAt w (.slice va vn vc) T) (hr:RuleOk K R T) (hu:IntsAt w u ys) (hy:Syms K ys) (hyl:ys.length=2*R+1) :
 Calls Tryz.prog 87 #[.agg #[.int .i64 K,.int .i64 R,.slice va vn vc],u] w (Ret1 (fun x _=>x=.int .i64 (T.getD (numW K ys) 0)) w):=by
 have hb0:=belowAlloc w (.cells #[.int .i64 K,.int .i64 R,.slice va vn vc] 24)
 have hR:=hr.r3
 have hk1:=hr.k1
 have hk4:=hr.k4
 have l1:=hu.len
 have hb7:ys.length≤7:=by omega
 have hnl:numW K ys<T.length:=by rw [hr.len,← hyl]; exact numW_lt ys hy
 generalize hy0:T.getD (numW K ys) 0=y0
 replace hy0:=Hd hy0
 replace hnl:=Hd hnl
 replace hyl:=Hd hyl
 replace h:=Hd (h.below hb0)
 replace hu:=Hd (hu.below hb0)
 replace hy:=Hd hy
 replace hr:=Hd hr
 obtain ⟨ua,un,uc,rfl⟩:=hu.out.shape
 go_enter Tryz.func87,Tryz.ntmps87
 go_wp2
 go_loop [5,10] (fun n i=>∃ j:Nat,j≤ys.length∧i=.int .i64 j∧n=.int .i64 (numW K (ys.take j))) (fun _ i=>ys.length-(intOf i).toNat)
 case atStart=>exact ⟨0,by omega,rfl,rfl⟩
 case round =>
  obtain ⟨j,hj,rfl,rfl⟩:=hrel
  by_cases hjl:j<ys.length
  ·have i1:=hu.out.idx j hjl
   have c1:=hu.out.cell j hjl
   have hx:=hy.out ys[j] (by simp)
   have hn:Hid (numW K (ys.take (j+1))=numW K (ys.take j)*K+ys[j].toNat):=by
    show _=_
    rw [take_snoc ys j hjl,numW_snoc]
   have hn2:numW K (ys.take j)≤16384:=by
    have h1:=numW_lt (ys.take j) (fun x hx=>hy.out x (List.mem_of_mem_take hx))
    have h2:=pw_le hk1 hk4 (i:=(ys.take j).length) (by simp; omega)
    omega
   generalize ys[j]=x at c1 hx hn
   generalize numW K (ys.take j)=N at hn hn2
   have hm1:0≤(N:Int)*(K:Int):=Int.mul_nonneg (by omega) (by omega)
   have hm2:(N:Int)*(K:Int)≤65536:=by
    have:N*K≤65536:=Nat.mul_le_mul hn2 hk4
    have h2:=Int.ofNat_le.2 this
    rw [Int.natCast_mul] at h2
    exact h2
   go_wp2
   go_round
   case rel=>exact ⟨j+1,by omega,by go_num,by rw [hn.out]; go_num⟩
   case measure=>simp [intOf]; omega
  ·obtain rfl:j=ys.length:=by omega
   rw [List.take_length]
   have i2:=h.out.idx (numW K ys) hnl.out
   have c2:=h.out.cellD (numW K ys) hnl.out
   rw [hy0.out] at c2
   clear hy0 hnl
   generalize numW K ys=N at i2 c2
   go_wp2
   go_ret
   exact ⟨_,rfl,hb0,rfl⟩
set_option maxHeartbeats 8000000
def madeP (K n:Nat) (s:List Int→Int) (m:Nat):List Int:=(List.range m).map fun x=>s (digs K n x)
theorem madeP_length (K n:Nat) (s:List Int→Int) (m:Nat):(madeP K n s m).length=m:=by simp [madeP]
theorem madeP_set (K n:Nat) (s:List Int→Int) (m P:Nat) (h:m<P):(madeP K n s m++List.replicate (P-m) (0:Int)).set m (s (digs K n m))=madeP K n s (m+1)++List.replicate (P-(m+1)) 0:=by
 rw [List.set_append_right _ _ (by rw [madeP_length]; exact Nat.le_refl _),madeP_length,Nat.sub_self,show P-m=(P-(m+1))+1 by omega,List.replicate_succ,List.set_cons_zero,madeP,madeP,List.range_succ,List.map_append,List.append_assoc]
 rfl
theorem made_two0 (K R F:Nat) (c1 c2:Value) (s:List Int→Int) (w:World) (hk1:1≤K) (hk4:K≤4) (hR:R≤3)
 (eg:∀ args w,(callFunc F args).run Tryz.prog w=.ok (.enter F args) w)
 (hF:∀ (v:Value) (ys:List Int) (w':World),Below w.heap.size w w'→IntsAt w' v ys→Syms K ys→ys.length=2*R+1→Calls Tryz.prog F #[v,c1,c2] w' (Ret1 (fun x _=>x=.int .i64 (s ys)) w')) :
 Calls Tryz.prog 84 #[.int .i64 K,.int .i64 R,.func (.func F) #[] #[c1,c2]] w (Ret1 (fun x w'=>∃ a n c,x=.agg #[.int .i64 K,.int .i64 R,.slice a n c]∧OwnI w.heap.size w' (.slice a n c) (madeP K (2*R+1) s (pw K (2*R+1)))) w):=by
 have hpl:=pw_le hk1 hk4 (i:=2*R+1) (by omega)
 replace hF:=Hd hF
 go_enter Tryz.func84,Tryz.ntmps84
 go_wp2_with fail
 refine (size_ok K R _ hk1 hk4 hR).mono ?_
 rintro e w' ⟨rfl,rfl⟩
 go_wp2_with fail
 have hb0:=belowAlloc w (.cells #[.int .i64 0,.int .i64 0,.slice none 0 0] 24)
 obtain ⟨tv,w1,hmk,ho1,hb1⟩:=run_makeI ((pw K (2*R+1):Nat):Int) (pw K (2*R+1)) (w.alloc (.cells #[.int .i64 0,.int .i64 0,.slice none 0 0] 24)) rfl (by omega)
 obtain ⟨ta,tn,tc,rfl⟩:=ho1.at.shape
 rw [hmk]
 simp only [Result.andThen]
 clear hmk
 generalize hN:2*R+1=N at *
 go_wp2_with fail
 obtain ⟨wv,w2,hmk2,ho2,hb2⟩:=run_makeI (2*(R:Int)+1) N (w1.alloc (.cells #[.int .i64 K,.int .i64 R,.slice ta tn tc] 24)) (by omega) (by omega)
 obtain ⟨wa,wn,wc,rfl⟩:=ho2.at.shape
 rw [hmk2]
 simp only [Result.andThen]
 clear hmk2
 obtain ⟨z0,z1,z2,-,-,-⟩:=cells3 hb2
 have lt:=(ho1.at.len)
 rw [List.length_replicate] at lt
 have hN7:N≤7:=by omega
 replace hN:=Hd hN
 have ltb:∀ k,(Value.slice ta tn tc).ownBlock=some k→k<w1.heap.size:=fun k hk=>(ho1.lt k hk).2
 have lwn:=ho2.at.len
 rw [List.length_replicate] at lwn
 have ho1':=Hd ((ho1.alloc (.cells #[.int .i64 K,.int .i64 R,.slice ta tn tc] 24)).below hb2)
 have zz:=Hd (And.intro z0 (And.intro z1 z2))
 have hbw:=Hd (hb1.trans ((Below.step (belowAlloc w1 (.cells #[.int .i64 K,.int .i64 R,.slice ta tn tc] 24)) hb2).mono hb1.size))
 replace ho2:=Hd ho2
 replace ltb:=Hd ltb
 have hsz1:=hb1.size
 simp at hsz1
 have hM:pw K N=pw K N:=rfl
 clear hM
 go_wp2
 go_loopw [32] (fun i wr=>∃ m:Nat,m≤pw K N∧i=.int .i64 m∧OwnI (w.heap.size+1) wr (.slice ta tn tc) (madeP K N s m++List.replicate (pw K N-m) 0)∧(∃ p:List Int,p.length=N∧OwnI (w1.heap.size+1) wr (.slice wa wn wc) p) ∧
  (wr.cell? ⟨w1.heap.size,0,none⟩=some (.int .i64 K)∧wr.cell? ⟨w1.heap.size,1,none⟩=some (.int .i64 R)∧wr.cell? ⟨w1.heap.size,2,none⟩=some (.slice ta tn tc)) ∧
  Below (w.heap.size+1) (w.alloc (.cells #[.int .i64 0,.int .i64 0,.slice none 0 0] 24)) wr) (fun i _=>pw K N-(intOf i).toNat)
 case atStart=>exact ⟨0,by omega,rfl,by simpa [madeP] using ho1'.out,⟨List.replicate N 0,by simp,by simpa using ho2.out⟩,zz.out,by simpa using hbw.out⟩
 case round =>
  obtain ⟨m,hm,rfl,hT,⟨p,hp,hP⟩,hz,hbO⟩:=hrel
  obtain ⟨wo,rfl⟩:∃ wo:World,wo=wr:=⟨_,rfl⟩
  replace hz:=Hd hz
  replace hT:=Hd hT
  by_cases hml:m<pw K N
  ·have hsz2:w1.heap.size<wo.heap.size:=World.block_lt_of_cell? _ _ hz.out.1
   have hK0:((K:Int)==0)=false:=by rw [beq_eq_false_iff_ne]; omega
   have hK1:¬ (K:Int)=0:=by omega
   have hK2:(0:Int)<K:=by omega
   go_wp2
   go_loopw [12,38] (fun x i wr=>∃ j:Nat,j≤N∧i=.int .i64 j∧x=.int .i64 (m/pw K j:Nat)∧OwnI (w1.heap.size+1) wr (.slice wa wn wc) (p.take (N-j)++(digs K N m).drop (N-j))∧Below (w1.heap.size+1) wo wr) (fun _ i _=>N-(intOf i).toNat)
   case atStart=>exact ⟨0,by omega,rfl,by simp [pw],by rw [Nat.sub_zero,List.drop_of_length_le (by rw [digs_length]; exact Nat.le_refl _),List.append_nil,List.take_of_length_le (by omega)]; exact hP,Below.refl _ _⟩
   case round =>
    obtain ⟨j,hj,rfl,rfl,hO,hbI⟩:=hrel
    obtain ⟨wi,rfl⟩:∃ wi:World,wi=wr:=⟨_,rfl⟩
    by_cases hjl:j<N
    ·have hXl:(p.take (N-j)++(digs K N m).drop (N-j)).length=N:=by simp [digs_length]; omega
     have i1:∀ w',(Instr.indexAt 22 (.slice wa wn wc) (.int .i64 ((N:Int)-1-(j:Int)))).run Tryz.prog w'=.ok (.pointer (some (valAt (.slice wa wn wc) (N-1-j)))) w':=by
      intro w'
      have:=hO.at.idxI ((N:Int)-1-(j:Int)) (by omega) (by rw [hXl]; omega) w'
      rwa [show ((N:Int)-1-(j:Int)).toNat=N-1-j by omega] at this
     have c1:=hO.at.cellD (N-1-j) (by rw [hXl]; omega)
     have f1:=hO.frz (N-1-j) (by rw [hXl]; omega)
     have hS:=hO.set (N-1-j) (by rw [hXl]; omega) ((m/pw K j%K:Nat):Int)
     have hbS:=hO.setBelow hbI (N-1-j) (by rw [hXl]; omega) (.int .i64 ((m/pw K j%K:Nat):Int))
     rw [digs_fill K N m j hjl p hp] at hS
     replace hS:=Hd hS
     replace hbS:=Hd hbS
     have hqd:m/pw K j/K=m/pw K (j+1):=by rw [Nat.div_div_eq_div_mul,← pw_succ]
     replace hqd:=Hd hqd
     have hql:m/pw K j≤16384:=Nat.le_trans (Nat.div_le_self _ _) (by omega)
     generalize (p.take (N-j)++(digs K N m).drop (N-j)).getD (N-1-j) 0=y at c1
     clear hXl hO
     generalize m/pw K j=q at *
     rw [Int.natCast_emod] at hS hbS
     have hd0:0≤(q:Int)/(K:Int):=Int.ediv_nonneg (by omega) (by omega)
     have hd1:(q:Int)/(K:Int)≤16384:=by
      have h1:q/K≤q:=Nat.div_le_self _ _
      have h2:q/K≤16384:=by omega
      exact_mod_cast h2
     have hdw:IntKind.i64.wrap ((q:Int)/(K:Int))=(q:Int)/(K:Int):=wrapK (by omega) (by omega)
     go_wp2
     go_roundw
     case rel=>exact ⟨j+1,by omega,by go_num,by rw [← hqd.out]; simp,hS.out,hbS.out⟩
     case measure=>simp [intOf]; omega
    ·have hjN:j=N:=by omega
     subst hjN
     rw [Nat.sub_self,List.take_zero,List.drop_zero,List.nil_append] at hO
     have hbW:Below w.heap.size w wi:=((belowAlloc w _).trans (hbO.mono (by omega))).trans (hbI.mono (by omega))
     have hz2:=hbI.cell (p:=⟨w1.heap.size,2,none⟩) (by simp)
     have hTl:m<(madeP K j s m++List.replicate (pw K j-m) (0:Int)).length:=by simp [madeP_length]; omega
     have hTi:=hT.out.belowB hbI (fun k hk=>by have:=ltb.out k hk; omega)
     have i2:=hTi.at.idx m hTl
     have c2:=hTi.at.cellD m hTl
     have f2:=hTi.frz m hTl
     have b2:=hTi.at.blk m hTl
     have z2i:=hz2.trans hz.out.2.2
     have zbi:(⟨w1.heap.size,2,none⟩:Addr).block<wi.heap.size:=World.block_lt_of_cell? _ _ z2i
     generalize (madeP K j s m++List.replicate (pw K j-m) (0:Int)).getD m 0=o at c2
     replace hTi:=Hd hTi
     replace hO:=Hd hO
     replace hbW:=Hd hbW
     replace hTl:=Hd hTl
     clear hz2
     have hvb:(valAt (.slice ta tn tc) m).block≠w1.heap.size:=by
      have:=ltb.out _ (hT.out.toV.blkB m (by simpa using hTl.out)).1
      omega
     have hdl:m+1≤pw K j:=hml
     go_wp2
     go_region_held3 (fun w'=>w'.cell? ⟨w1.heap.size,2,none⟩=some (.slice ta tn tc)) (go_keep)
      (first | (refine (hF.out _ (digs K j m) _ (by first | exact hbW.out.drew | exact hbW.out) (by first | exact hO.out.at.drew | exact hO.out.at) (digs_syms hk1 _ _) (by rw [digs_length])).mono ?_; rintro e w5 ⟨x5,rfl,hb5,rfl⟩; have y1:=(hb5.cell zbi).trans z2i; have y2:=(hb5.cell b2).trans c2; have y3:=(hb5.frozen b2).trans f2; have bb:Below wi.heap.size wi w5:=((Below.refl _ _).drew).trans hb5))
     have hT5:=(hTi.out.drew.below hb5).set m hTl.out (s (digs K j m))
     rw [madeP_set K j s m _ hml] at hT5
     have hO5:=(hO.out.drew.below hb5).setOther (hTi.out.drew.below hb5) (by
      intro e
      have e1:=(hT.out.toV.blkB m (by simpa using hTl.out)).1
      have e2:=(hO.out.lt _ (e.trans e1)).1
      have e3:=ltb.out _ e1
      omega) m hTl.out (.int .i64 (s (digs K j m)))
     have hB5:=((hbO.trans (hbI.mono (by omega))).trans (bb.mono (by omega))).setCell ((hTi.out.blkB m hTl.out)) (.int .i64 (s (digs K j m)))
     have x0:=(World.cell?_setCell_far w5 (valAt (.slice ta tn tc) m) ⟨w1.heap.size,0,none⟩ (.int .i64 (s (digs K j m))) hvb).trans (((bb.cell (p:=⟨w1.heap.size,0,none⟩) zbi)).trans ((hbI.cell (p:=⟨w1.heap.size,0,none⟩) (by simp)).trans hz.out.1))
     have x1:=(World.cell?_setCell_far w5 (valAt (.slice ta tn tc) m) ⟨w1.heap.size,1,none⟩ (.int .i64 (s (digs K j m))) hvb).trans (((bb.cell (p:=⟨w1.heap.size,1,none⟩) zbi)).trans ((hbI.cell (p:=⟨w1.heap.size,1,none⟩) (by simp)).trans hz.out.2.1))
     have x2:=(World.cell?_setCell_far w5 (valAt (.slice ta tn tc) m) ⟨w1.heap.size,2,none⟩ (.int .i64 (s (digs K j m))) hvb).trans y1
     have xx:=Hd (And.intro x0 (And.intro x1 x2))
     clear x0 x1 x2
     replace hT5:=Hd hT5
     replace hO5:=Hd hO5
     replace hB5:=Hd hB5
     go_wp2
     go_roundw
     case rel=>exact ⟨m+1,by omega,by go_num,hT5.out,⟨digs K j m,digs_length ..,hO5.out⟩,xx.out,hB5.out⟩
     case measure=>simp [intOf]; omega
  ·obtain rfl:m=pw K N:=by omega
   rw [Nat.sub_self,List.replicate_zero,List.append_nil] at hT
   obtain ⟨z0,z1,z2⟩:=hz.out
   obtain ⟨y0,y1,y2,f0,f1,f2⟩:=cells3 (w:=w) (show Below (w.alloc (.cells #[.int .i64 0,.int .i64 0,.slice none 0 0] 24)).heap.size _ wo by simpa using hbO)
   replace hbO:=Hd hbO
   go_wp2
   refine bodyPost_ret (v:=.agg #[.int .i64 K,.int .i64 R,.slice ta tn tc]) (by simp [results,Tryz.results84,go_sem,y0,y1,y2]) rfl ⟨_,rfl,?_,ta,tn,tc,rfl,?_⟩
   ·exact (((belowAlloc w _).trans (hbO.out.mono (by omega))).setCell (by simp) _).setCell (by simp) _ |>.setCell (by simp) _
   ·rw [hN.out]; exact (((hT.out.setBelowBase (a:=⟨w.heap.size,0,none⟩) (by simp) _).setBelowBase (a:=⟨w.heap.size,1,none⟩) (by simp) _).setBelowBase (a:=⟨w.heap.size,2,none⟩) (by simp) _).mono (Nat.le_succ _)
theorem made_two (K R F:Nat) (c1 c2:Value) (s:List Int→Int) (w:World) (hk1:1≤K) (hk4:K≤4) (hR:R≤3) (Ri:Int) (hRi:Ri=R)
 (eg:∀ args w,(callFunc F args).run Tryz.prog w=.ok (.enter F args) w)
 (hF:∀ (v:Value) (ys:List Int) (w':World),Below w.heap.size w w'→IntsAt w' v ys→Syms K ys→ys.length=2*R+1→Calls Tryz.prog F #[v,c1,c2] w' (Ret1 (fun x _=>x=.int .i64 (s ys)) w')) :
 Calls Tryz.prog 84 #[.int .i64 K,.int .i64 Ri,.func (.func F) #[] #[c1,c2]] w (Ret1 (fun x w'=>∃ a n c,x=.agg #[.int .i64 K,.int .i64 R,.slice a n c]∧OwnI w.heap.size w' (.slice a n c) (madeP K (2*R+1) s (pw K (2*R+1)))) w):=by
 subst hRi
 exact made_two0 K R F c1 c2 s w hk1 hk4 hR eg hF
end Go.Proofs.YtkaoebokbfcmhaaGreatDoor
namespace Go.Proofs.YtkaoebokbfcmhaaGreatDoor
open Go.RowKit
set_option maxRecDepth 100000
abbrev zR:Value:=.agg #[.int .i64 0,.int .i64 0,.slice none 0 0]
def sForms:ByteArray:=⟨#[102,111,114,109,115]⟩
theorem forms_check (r:Nat→Addr) (at_:Int) (k R:Int) (va:Option Addr) (vn vc:Nat) (xs:List Int) (w:World) (hg:Glob r w) (h:IntsAt w (.slice va vn vc) xs) :
 Calls Tryz.prog 34 #[.int .i64 at_,.agg #[.int .i64 k,.int .i64 R,.slice va vn vc]] w (Ret1 (fun x w'=>ErrIs r w' (under sForms at_ (checkP k R xs)) x) w):=by
 have hb0:=belowAlloc w (.cells #[.int .i64 k,.int .i64 R,.slice va vn vc] 24)
 replace hg:=Hd (hg.below hb0)
 replace h:=Hd (h.below hb0)
 go_enter Tryz.func34,Tryz.ntmps34
 go_wp2_with fail
 refine (check_any r k R _ xs _ hg.out h.out).mono ?_
 rintro e w1 ⟨x,rfl,hb,he⟩
 go_wp2_with fail
 refine (under_any r _ _ _ _ _ he).mono ?_
 rintro e w2 ⟨x,rfl,hb',he⟩
 go_wp2
 go_ret
 exact ⟨_,rfl,Below.step hb0 (Below.step hb hb'),he⟩
def sCount:ByteArray:=⟨#[99,111,117,110,116]⟩
theorem count_small (r:Nat→Addr) (k R:Int) (va:Option Addr) (vn vc:Nat) (T:List Int) (w:World) (hg:Glob r w) (h:IntsAt w (.slice va vn vc) T) :
 Calls Tryz.prog 43 #[.agg #[.int .i64 k,.int .i64 R,.slice va vn vc]] w (Ret1 (fun x w'=>ErrIs r w' (under sCount 0 (smallP k R T)) x) w):=by
 have b0:=belowAlloc w (.cells #[.int .i64 k,.int .i64 R,.slice va vn vc] 24)
 have q:Box3 (w.alloc (.cells #[.int .i64 k,.int .i64 R,.slice va vn vc] 24)) w.heap.size (.int .i64 k) (.int .i64 R) (.slice va vn vc):=by simp [Box3,go_sem]
 replace hg:=Hd (hg.below b0)
 replace h:=Hd (h.below b0)
 obtain ⟨⟨z0,z1,z2⟩,-,-,-⟩:=q
 go_enter Tryz.func43,Tryz.ntmps43
 go_wp2_with fail
 refine (small_any r k R va vn vc T _ hg.out h.out).mono ?_
 rintro e w1 ⟨x,rfl,b1,he⟩
 clear z0 z1 z2
 have hund:=under_any r sCount 0 (smallP k R T) _ w1 he
 replace he:=Hd he
 go_wp2_with fail
 refine hund.mono ?_
 rintro e w2 ⟨y,rfl,b2,hy⟩
 clear hund
 have bE:=Below.step b0 (Below.step b1 b2)
 replace hy:=Hd hy
 go_wp2
 go_ret
 exact ⟨_,rfl,bE,hy.out⟩
theorem count_Words_bad (r:Nat→Addr) (k R:Int) (va:Option Addr) (vn vc:Nat) (T:List Int) (u:Value) (w:World) (hg:Glob r w) (h:IntsAt w (.slice va vn vc) T) (t:Int×List (ByteArray×Int)) (hc:smallP k R T=some t) :
 Calls Tryz.prog 11 #[.agg #[.int .i64 k,.int .i64 R,.slice va vn vc],u] w (Ret2 (fun x y w'=>x=.slice none 0 0∧ErrIs r w' (under sCount 0 (some t)) y) w):=by
 have b0:=belowAlloc w (.cells #[.int .i64 k,.int .i64 R,.slice va vn vc] 24)
 have q:Box3 (w.alloc (.cells #[.int .i64 k,.int .i64 R,.slice va vn vc] 24)) w.heap.size (.int .i64 k) (.int .i64 R) (.slice va vn vc):=by simp [Box3,go_sem]
 have hs:=count_small r k R va vn vc T _ (hg.below b0) (h.below b0)
 rw [hc] at hs
 replace hs:=Hd hs
 obtain ⟨⟨z0,z1,z2⟩,-,-,-⟩:=q
 go_enter Tryz.func11,Tryz.ntmps11
 go_wp2_with fail
 refine hs.out.mono ?_
 rintro e w1 ⟨x,rfl,b1,he⟩
 obtain ⟨T1,p1,rfl⟩:∃ T a,x=.iface T (.pointer (some a)):=by
  unfold under at he
  exact he.some_shape
 have bE:=Below.step b0 b1
 replace he:=Hd he
 clear z0 z1 z2 hs
 go_wp2
 go_ret2
 exact ⟨_,_,rfl,bE,rfl,he.out⟩
end Go.Proofs.YtkaoebokbfcmhaaGreatDoor
namespace Go.Proofs.YtkaoebokbfcmhaaGreatDoor
open Go.RowKit Go.Extern.Stop Go.Stop Go.Extern
set_option maxRecDepth 100000
set_option maxHeartbeats 8000000
namespace Errs
theorem noIsE (v:Value) (xT:TypeId) (w:World):(Instr.typeAssert (.iface 287 v) xT 194 true).run Tryz.prog w=.ok (.tuple #[.nilIface,.bool false]) w:=run_typeAssert_lacksB uIs (by kernel_rfl) (by kernel_rfl) v xT w
theorem noUnwE (v:Value) (xT:TypeId) (w:World):(Instr.typeAssert (.iface 287 v) xT 197 true).run Tryz.prog w=.ok (.tuple #[.nilIface,.bool false]) w:=run_typeAssert_lacksB uUnw (by kernel_rfl) (by kernel_rfl) v xT w
theorem uUnws' : Tryz.prog.underlying 198 = some (.interface #[("Unwrap", 199)]) := by kernel_rfl
theorem noUnwsE (v:Value) (xT:TypeId) (w:World):(Instr.typeAssert (.iface 287 v) xT 198 true).run Tryz.prog w=.ok (.tuple #[.nilIface,.bool false]) w:=run_typeAssert_lacksB uUnws' (by kernel_rfl) (by kernel_rfl) v xT w
theorem roots_ne {r:Nat→Addr} {w:World} (hg:Glob r w) {m n:Int} (hm:1≤m∧m≤11) (hn:1≤n∧n≤11) (hne:m≠n):(binOp .eql 27 (rootV r m) (rootV r n)).run Tryz.prog w=.ok (.bool false) w:=by
 obtain ⟨i,hi,hcmp⟩:=Option.map_eq_some_iff.1 compE
 obtain ⟨j,hj,hjs⟩:=Option.map_eq_some_iff.1 sizeE
 obtain ⟨c1,t1,f1⟩:=hg.flat m.toNat (.inl (by omega))
 obtain ⟨c2,t2,f2⟩:=hg.flat n.toNat (.inl (by omega))
 exact run_eql_iface_ptr_other (P:=Tryz.prog) w uErr uES hi hcmp hj (by rw [hjs]; decide) (fun e=>hne (hg.apart m n hm.1 hm.2 hn.1 hn.2 e)) f1 f2
theorem is_loop_no (r:Nat→Addr) (n m:Int) (l:List (ByteArray×Int)) (v:Value) (w:World) (hg:Glob r w) (h:ErrAt r w n l v) (hm:1≤m∧m≤11) (hn:1≤n∧n≤11) (hne:n≠m) :
 Calls Tryz.prog 72 #[v,rootV r m,.bool true] w fun e w'=>e=.returned (.bool false)∧w=w':=by
 have heq:=roots_ne hg hn hm hne
 have nF:=noIsF
 have uF:=hasUnwrapF
 have mU:=methodUnwrap
 have nE:=noIsE
 have uE:=noUnwE
 have usE:=noUnwsE
 replace h:=Hd h
 replace hg:=Hd hg
 clear hm hn hne
 go_enter Tryz.func72,Tryz.ntmps72
 go_wp2
 go_loopg [0] l.length (fun k u wr=>wr=w∧∃ l',l'.length=k∧ErrAt r w n l' u)
 case atStart=>exact ⟨rfl,l,rfl,h.out⟩
 case round =>
  obtain ⟨rfl,l',hl',hu⟩:=hrel
  match l',hl',hu with
  | [],hl',hu =>
   obtain rfl:_=rootV r n:=hu
   clear hl'
   go_wp2
   go_ret
   exact ⟨rfl,rfl⟩
  | (op,at_)::rest,hl',hu =>
   obtain ⟨p,u',rfl,c0,c1,c2,hrest⟩:=hu
   obtain ⟨T,a,rfl⟩:=hrest.shape
   have hty:=run_eql_iface_types (P:=Tryz.prog) 75 287 (.pointer (some ⟨p,0,none⟩)) (.pointer (some (r m.toNat))) uErr (by decide) wr
   replace hrest:=Hd hrest
   replace hl':=Hd hl'
   go_wp2_with (go_at_call 225; refine (unwrap_any p _ _ c2).mono ?_; rintro e w' ⟨rfl,rfl⟩)
   go_roundg rest.length
   case measure=>have:=hl'.out; simp at this; omega
   case rel=>exact ⟨rfl,rest,rfl,hrest.out⟩
theorem is_no (r:Nat→Addr) (n m:Int) (l:List (ByteArray×Int)) (v:Value) (w:World) (hg:Glob r w) (h:ErrAt r w n l v) (hm:1≤m∧m≤11) (hn:1≤n∧n≤11) (hne:n≠m) :
 Calls Tryz.prog 27 #[v,rootV r m] w fun e w'=>e=.returned (.bool false)∧w=w':=by
 have h8:=@run_callFunc_extern Tryz.prog 71 _ Extern.ReflectliteType.typeOf Tryz.func71 (by kernel_rfl) (by kernel_rfl) (by kernel_rfl) (by kernel_rfl)
 have h32 := @run_callFunc_extern Tryz.prog 232 _ (Extern.ReflectliteType.method fun t => do Extern.Rtype.noPackHeld "Comparable" t; pure (.bool (← typeInfo t).comparable)) Tryz.func232 (by kernel_rfl) (by kernel_rfl) (by kernel_rfl) (by kernel_rfl)
 have tT:=typeOfE
 have cT:=comparableE
 have mR:=methodComparable
 obtain ⟨T,a,rfl⟩:=h.shape
 replace h:=Hd h
 replace hg:=Hd hg
 go_enter Tryz.func27,Tryz.ntmps27
 go_wp2_with fail
 refine (is_loop_no r n m l _ _ hg.out h.out hm hn hne).mono ?_
 rintro e w' ⟨rfl,rfl⟩
 go_wp2
 go_ret
 exact ⟨rfl,rfl⟩
theorem is_nil (T:TypeId) (x:Value) (w:World):Calls Tryz.prog 27 #[.nilIface,.iface T x] w fun e w'=>e=.returned (.bool false)∧w=w':=by
 have q:=fun w':World=>run_eql_iface_nil_left (P:=Tryz.prog) w' T x uErr
 go_enter Tryz.func27,Tryz.ntmps27
 go_wp2
 go_ret
 exact ⟨rfl,rfl⟩
end Errs
end Go.Proofs.YtkaoebokbfcmhaaGreatDoor
namespace Go.Proofs.YtkaoebokbfcmhaaGreatDoor
open Go.RowKit
set_option maxRecDepth 100000
theorem small_fresh {k R:Int} {T:List Int} {t:Int×List (ByteArray×Int)} (h:smallP k R T=some t):∃ a n:Int,t=(n,[(sRule,a)])∧1≤n∧n≤11:=by
 have hf:∀ {a n:Int} {t:Int×List (ByteArray×Int)},fresh sRule a n=some t→1≤n→n≤11→∃ a n:Int,t=(n,[(sRule,a)])∧1≤n∧n≤11:=fun {a n t} h h1 h2=>by
  unfold fresh at h
  injection h with h
  exact ⟨a,n,h.symm,h1,h2⟩
 unfold smallP at h
 cases hc:checkP k R T with
 | none =>
  rw [hc] at h
  simp only at h
  by_cases hl:256<T.length
  ·rw [if_pos hl] at h; exact hf h (by decide) (by decide)
  ·rw [if_neg hl] at h; cases h
 | some s =>
  rw [hc] at h
  simp only at h
  injection h with h
  subst h
  unfold checkP at hc
  split at hc
  ·exact hf hc (by decide) (by decide)
  ·split at hc
   ·exact hf hc (by decide) (by decide)
   ·split at hc
    ·exact hf hc (by decide) (by decide)
    ·split at hc
     ·cases hc
     ·exact hf hc (by decide) (by decide)
theorem nodes_bad (r:Nat→Addr) (k R:Int) (va:Option Addr) (vn vc:Nat) (T:List Int) (t:Int×List (ByteArray×Int)) (w:World) (hg:Glob r w) (h:IntsAt w (.slice va vn vc) T) (hc:smallP k R T=some t) :
 Calls Tryz.prog 76 #[.agg #[.int .i64 k,.int .i64 R,.slice va vn vc]] w (Ret2 (fun x y w'=>x=.int .i64 0∧ErrIs r w' (under sOverlap 0 (some t)) y) w):=by
 have b0:=belowAlloc w (.cells #[.int .i64 k,.int .i64 R,.slice va vn vc] 24)
 have q:Box3 (w.alloc (.cells #[.int .i64 k,.int .i64 R,.slice va vn vc] 24)) w.heap.size (.int .i64 k) (.int .i64 R) (.slice va vn vc):=by simp [Box3,go_sem]
 have hs:=over_small r k R va vn vc T _ (hg.below b0) (h.below b0)
 rw [hc] at hs
 replace hs:=Hd hs
 obtain ⟨⟨z0,z1,z2⟩,-,-,-⟩:=q
 go_enter Tryz.func76,Tryz.ntmps76
 go_wp2_with fail
 refine hs.out.mono ?_
 rintro e w1 ⟨x,rfl,b1,he⟩
 obtain ⟨T1,p1,rfl⟩:∃ T a,x=.iface T (.pointer (some a)):=by
  unfold under at he
  exact he.some_shape
 have bE:=Below.step b0 b1
 replace he:=Hd he
 clear z0 z1 z2 hs
 go_wp2
 go_ret2
 exact ⟨_,_,rfl,bE,rfl,he.out⟩
theorem fixed_bad (r:Nat→Addr) (k R:Int) (va:Option Addr) (vn vc:Nat) (T:List Int) (m:Int) (t:Int×List (ByteArray×Int)) (w:World) (hg:Glob r w) (h:IntsAt w (.slice va vn vc) T) (hc:smallP k R T=some t) :
 Calls Tryz.prog 78 #[.agg #[.int .i64 k,.int .i64 R,.slice va vn vc],.int .i64 m] w (Ret2 (fun x y w'=>x=.slice none 0 0∧ErrIs r w' (under sCount 0 (some t)) y) w):=by
 have b0:=belowAlloc w (.cells #[.int .i64 k,.int .i64 R,.slice va vn vc] 24)
 have q:Box3 (w.alloc (.cells #[.int .i64 k,.int .i64 R,.slice va vn vc] 24)) w.heap.size (.int .i64 k) (.int .i64 R) (.slice va vn vc):=by simp [Box3,go_sem]
 have hs:=count_small r k R va vn vc T _ (hg.below b0) (h.below b0)
 rw [hc] at hs
 replace hs:=Hd hs
 obtain ⟨⟨z0,z1,z2⟩,-,-,-⟩:=q
 go_enter Tryz.func78,Tryz.ntmps78
 go_wp2_with fail
 refine hs.out.mono ?_
 rintro e w1 ⟨x,rfl,b1,he⟩
 obtain ⟨T1,p1,rfl⟩:∃ T a,x=.iface T (.pointer (some a)):=by
  unfold under at he
  exact he.some_shape
 have bE:=Below.step b0 b1
 replace he:=Hd he
 clear z0 z1 z2 hs
 go_wp2
 go_ret2
 exact ⟨_,_,rfl,bE,rfl,he.out⟩
theorem unw_any (r:Nat→Addr) (n:Int) (op:ByteArray) (at_:Int) (l:List (ByteArray×Int)) (v:Value) (w:World) (h:ErrAt r w n ((op,at_)::l) v) :
 Calls Tryz.prog 143 #[v] w (Ret1 (fun x w'=>ErrAt r w' n l x) w):=by
 obtain ⟨p,u,rfl,c0,c1,c2,hu⟩:=h
 obtain ⟨T,a,rfl⟩:=hu.shape
 replace hu:=Hd hu
 have uF:=Errs.hasUnwrapF
 have mU:=Errs.methodUnwrap
 clear c0 c1
 go_enter Tryz.func143,Tryz.ntmps143
 go_wp2_with (go_at_call 225; refine (Errs.unwrap_any p _ _ c2).mono ?_; rintro e w' ⟨rfl,rfl⟩)
 go_ret
 exact ⟨_,rfl,Below.refl _ _,hu.out⟩
set_option maxHeartbeats 8000000
def Box2 (w:World) (b:Nat) (x0 x1:Value):Prop:=(w.cell? ⟨b,0,none⟩=some x0∧w.cell? ⟨b,1,none⟩=some x1)∧w.frozen? ⟨b,0,none⟩=false∧w.frozen? ⟨b,1,none⟩=false
theorem Box2.below {w w':World} {b:Nat} {x0 x1:Value} (h:Box2 w b x0 x1) (hb:Below w.heap.size w w'):Box2 w' b x0 x1:=by
 obtain ⟨⟨h0,h1⟩,f0,f1⟩:=h
 have l0:=World.block_lt_of_cell? _ _ h0
 exact ⟨⟨cell_keep hb h0,cell_keep hb h1⟩,(hb.frozen (p:=⟨b,0,none⟩) l0).trans f0,(hb.frozen (p:=⟨b,1,none⟩) l0).trans f1⟩
theorem all_bad (r:Nat→Addr) (g:Nat) (k R:Int) (va:Option Addr) (vn vc:Nat) (T:List Int) (t:Int×List (ByteArray×Int)) (w:World) (hg:Glob r w) (h:IntsAt w (.slice va vn vc) T) (hc:smallP k R T=some t)
 (x0:w.cell? ⟨g,0,none⟩=some (.int .i64 k)) (x1:w.cell? ⟨g,1,none⟩=some (.int .i64 R)) (x2:w.cell? ⟨g,2,none⟩=some (.slice va vn vc)) :
 Calls Tryz.prog 115 #[.pointer (some ⟨g,0,none⟩)] w (Ret1 (fun x w'=>ErrIs r w' (under sSubset 0 (some t)) x) w):=by
 obtain ⟨a,n,rfl,n1,n2⟩:=small_fresh hc
 have hn:=nodes_bad r k R va vn vc T _ w hg h hc
 replace hn:=Hd hn
 clear hc h hg
 go_enter Tryz.func115,Tryz.ntmps115
 go_wp2_with fail
 refine hn.out.mono ?_
 rintro e w1 ⟨_,y,rfl,b1,rfl,hy⟩
 have hu:=unw_any r n sOverlap 0 [(sRule,a)] y w1 hy
 obtain ⟨T1,p1,rfl⟩:∃ T a,y=.iface T (.pointer (some a)):=by
  unfold under at hy
  exact hy.some_shape
 replace hu:=Hd hu
 clear hn hy x0 x1 x2
 go_wp2_with fail
 refine hu.out.mono ?_
 rintro e w2 ⟨z,rfl,b2,hz⟩
 have hun:=under_any r sSubset 0 (some (n,[(sRule,a)])) z w2 hz
 obtain ⟨T2,p2,rfl⟩:=hz.shape
 replace hun:=Hd hun
 clear hz hu
 go_wp2_with fail
 refine hun.out.mono ?_
 rintro e w3 ⟨x,rfl,b3,hx⟩
 have bE:=Hd (Below.step b1 (Below.step b2 b3))
 replace hx:=Hd hx
 clear b1 b2 b3 hun
 go_wp2
 go_ret
 exact ⟨_,rfl,bE.out,hx.out⟩
theorem told_back (r:Nat→Addr) (n:Int) (at_:Int) (l:List (ByteArray×Int)) (v:Value) (w:World) (hg:Glob r w) (hG:GlobE w) (h:ErrAt r w n ((sSubset,at_)::l) v) (h1:1≤n) (h2:n≤11) :
 Calls Tryz.prog 116 #[v] w (Ret1 (fun x _=>x=v) w):=by
 have z4:=hg.c4
 have h':=h
 obtain ⟨p,u,rfl,c0,c1,c2,hu⟩:=h
 by_cases h4:n=4
 ·subst h4
  have his:=Errs.is_any r 4 _ _ w h'
  have bv:=belowAlloc' w (.cells #[.pointer none] 75)
  have zt:(w.alloc (.cells #[.pointer none] 75)).cell? ⟨w.heap.size,0,none⟩=some (.pointer none):=by simp
  have ft:(w.alloc (.cells #[.pointer none] 75)).frozen? ⟨w.heap.size,0,none⟩=false:=by simp
  have gv:=Hd (hG.below bv)
  replace hg:=Hd hg
  replace hG:=Hd hG
  replace hu:=Hd hu
  replace h':=Hd h'
  go_enter Tryz.func116,Tryz.ntmps116
  go_wp2_with fail
  refine his.mono ?_
  rintro e w1 ⟨rfl,rfl⟩
  clear his
  go_upto_region 3 with fail
  obtain ⟨wv,hwv⟩:∃ W:World,W=w.alloc (.cells #[.pointer none] 75):=⟨_,rfl⟩
  rw [← hwv] at bv zt ft gv ⊢
  clear hwv
  replace c0:=Hd c0
  replace c1:=Hd c1
  replace c2:=Hd c2
  have has:Calls Tryz.prog 31 #[.iface 75 (.pointer (some ⟨p,0,none⟩)),.iface 77 (.pointer (some ⟨w.heap.size,0,none⟩))] wv fun e w'=>e=.returned (.bool true)∧w'.cell? ⟨w.heap.size,0,none⟩=some (.pointer (some ⟨p,0,none⟩))∧Below w.heap.size w w':=by
   refine (Errs.as_any ⟨p,0,none⟩ ⟨w.heap.size,0,none⟩ (.pointer none) wv gv.out zt ft).mono ?_
   rintro e w6 ⟨rfl,w5,hb5,rfl⟩
   exact ⟨rfl,World.cell?_setCell_same _ _ _ (cell_keep hb5 zt),(Below.stepL bv hb5).setCell (p:=⟨w.heap.size,0,none⟩) (Nat.le_refl _) _⟩
  go_wp2_with fail
  refine has.mono ?_
  rintro e w6 ⟨rfl,p0,b6⟩
  have y0:w6.cell? ⟨p,0,none⟩=some (.string ⟨#[115,117,98,115,101,116]⟩):=cell_keep b6 c0.out
  clear has zt ft
  go_wp2
  go_ret
  exact ⟨_,rfl,b6,rfl⟩
 ·have his:=Errs.is_no r n 4 _ _ w hg h' ⟨by omega,by omega⟩ ⟨h1,h2⟩ h4
  replace hg:=Hd hg
  replace hG:=Hd hG
  replace hu:=Hd hu
  replace h':=Hd h'
  go_enter Tryz.func116,Tryz.ntmps116
  go_wp2_with fail
  refine his.mono ?_
  rintro e w1 ⟨rfl,rfl⟩
  clear his
  go_wp2
  go_ret
  exact ⟨_,rfl,Below.refl _ _,rfl⟩
theorem walk_bad (r:Nat→Addr) (k R:Int) (va:Option Addr) (vn vc:Nat) (T:List Int) (t:Int×List (ByteArray×Int)) (w:World) (hg:Glob r w) (hG:GlobE w) (h:IntsAt w (.slice va vn vc) T) (hc:smallP k R T=some t) :
 Calls Tryz.prog 77 #[.agg #[.int .i64 k,.int .i64 R,.slice va vn vc]] w (Ret2 (fun x y w'=>x=.agg #[.int .i64 0,.slice none 0 0]∧ErrIs r w' (under sSubset 0 (some t)) y) w):=by
 obtain ⟨a,n,rfl,n1,n2⟩:=small_fresh hc
 have b0:=Below.step (belowAlloc w (.cells #[.int .i64 k,.int .i64 R,.slice va vn vc] 24)) (belowAlloc _ (.cells #[.int .i64 0,.slice none 0 0] 54))
 have b1:=Below.step b0 (belowAlloc _ (.cells #[.int .i64 k,.int .i64 R,.slice va vn vc,.pointer none,.slice none 0 0,.slice none 0 0,.bool false] 178))
 obtain ⟨w1,hw1⟩:∃ W:World,((w.alloc (.cells #[.int .i64 k,.int .i64 R,.slice va vn vc] 24)).alloc (.cells #[.int .i64 0,.slice none 0 0] 54)).alloc (.cells #[.int .i64 k,.int .i64 R,.slice va vn vc,.pointer none,.slice none 0 0,.slice none 0 0,.bool false] 178)=W:=⟨_,rfl⟩
 have x0:w1.cell? ⟨w.heap.size+1+1,0,none⟩=some (.int .i64 k):=by rw [← hw1]; simp [go_sem]
 have x1:w1.cell? ⟨w.heap.size+1+1,1,none⟩=some (.int .i64 R):=by rw [← hw1]; simp [go_sem]
 have x2:w1.cell? ⟨w.heap.size+1+1,2,none⟩=some (.slice va vn vc):=by rw [← hw1]; simp [go_sem]
 have qa:Box2 w1 (w.heap.size+1) (.int .i64 0) (.slice none 0 0):=by rw [← hw1]; simp [Box2,go_sem]
 rw [hw1] at b1
 have hall:=all_bad r (w.heap.size+1+1) k R va vn vc T _ w1 (hg.below b1) (h.below b1) hc x0 x1 x2
 replace hall:=Hd hall
 replace hw1:=Hd hw1
 replace hg:=Hd hg
 replace hG:=Hd hG
 clear h hc b0 x0 x1 x2
 go_enter Tryz.func77,Tryz.ntmps77
 go_upto_region 2 with fail
 rw [hw1.out]
 go_wp2_with fail
 refine hall.out.mono ?_
 rintro e w2 ⟨x,rfl,b2,hx⟩
 have b12:=Below.step b1 b2
 have htb:=told_back r n 0 [(sRule,a)] x w2 (hg.out.below b12) (hG.out.below b12) hx n1 n2
 obtain ⟨T1,p1,rfl⟩:∃ T a,x=.iface T (.pointer (some a)):=by
  unfold under at hx
  exact hx.some_shape
 replace qa:=Hd (qa.below b2)
 replace hx:=Hd hx
 replace htb:=Hd htb
 replace b12:=Hd b12
 clear hall b1 b2
 go_wp2_with fail
 refine htb.out.mono ?_
 rintro e w3 ⟨_,rfl,b3,rfl⟩
 obtain ⟨⟨u0,u1⟩,g0,g1⟩:=qa.out.below b3
 have hx3:=Hd (hx.out.below b3)
 have bE:=Hd (Below.step b12.out b3)
 clear hx b3 htb
 go_wp2
 rw [setCell_self u0,setCell_self u1]
 exact bodyPost_ret (v:=.tuple #[.agg #[.int .i64 0,.slice none 0 0],.iface T1 (.pointer (some p1))]) (by simp [results,Tryz.results77,go_sem,u0,u1]) rfl ⟨_,_,rfl,bE.out,rfl,hx3.out⟩
theorem onto_bad (r:Nat→Addr) (k R:Int) (va:Option Addr) (vn vc:Nat) (T:List Int) (t:Int×List (ByteArray×Int)) (w:World) (hg:Glob r w) (hG:GlobE w) (h:IntsAt w (.slice va vn vc) T) (hc:smallP k R T=some t) :
 Calls Tryz.prog 66 #[.agg #[.int .i64 k,.int .i64 R,.slice va vn vc]] w (Ret3 (fun x y z w'=>x=.bool false∧y=.slice none 0 0∧ErrIs r w' (under sSubset 0 (some t)) z) w):=by
 obtain ⟨a,n,rfl,n1,n2⟩:=small_fresh hc
 have b1:=Below.step (belowAlloc w (.cells #[.int .i64 k,.int .i64 R,.slice va vn vc] 24)) (belowAlloc _ (.cells #[.int .i64 k,.int .i64 R,.slice va vn vc,.pointer none,.slice none 0 0,.slice none 0 0,.bool true] 178))
 obtain ⟨w1,hw1⟩:∃ W:World,(w.alloc (.cells #[.int .i64 k,.int .i64 R,.slice va vn vc] 24)).alloc (.cells #[.int .i64 k,.int .i64 R,.slice va vn vc,.pointer none,.slice none 0 0,.slice none 0 0,.bool true] 178)=W:=⟨_,rfl⟩
 have x0:w1.cell? ⟨w.heap.size+1,0,none⟩=some (.int .i64 k):=by rw [← hw1]; simp [go_sem]
 have x1:w1.cell? ⟨w.heap.size+1,1,none⟩=some (.int .i64 R):=by rw [← hw1]; simp [go_sem]
 have x2:w1.cell? ⟨w.heap.size+1,2,none⟩=some (.slice va vn vc):=by rw [← hw1]; simp [go_sem]
 rw [hw1] at b1
 have hall:=all_bad r (w.heap.size+1) k R va vn vc T _ w1 (hg.below b1) (h.below b1) hc x0 x1 x2
 replace hall:=Hd hall
 replace hw1:=Hd hw1
 replace hg:=Hd hg
 replace hG:=Hd hG
 clear h hc x0 x1 x2
 go_enter Tryz.func66,Tryz.ntmps66
 go_upto_region 2 with fail
 rw [hw1.out]
 go_wp2_with fail
 refine hall.out.mono ?_
 rintro e w2 ⟨x,rfl,b2,hx⟩
 have bl:=belowAlloc w2 (.cells #[.pointer none] 180)
 have b12:=Below.step (Below.step b1 b2) bl
 have hx2:=hx.below bl
 have hms:=Fnd.as_miss r n _ x ⟨w2.heap.size,0,none⟩ _ hx2 (hG.out.below b12)
 obtain ⟨T1,p1,rfl⟩:∃ T a,x=.iface T (.pointer (some a)):=by
  unfold under at hx
  exact hx.some_shape
 replace hx:=Hd hx
 replace hx2:=Hd hx2
 replace hms:=Hd hms
 replace b12:=Hd b12
 clear hall b1 b2 bl
 go_wp2_with fail
 refine hms.out.mono ?_
 rintro e w3 ⟨rfl,b3⟩
 have b13:=Below.step b12.out b3
 have htb:=told_back r n 0 [(sRule,a)] _ w3 (hg.out.below b13) (hG.out.below b13) (hx2.out.below b3) n1 n2
 have hx3:=hx2.out.below b3
 replace hx3:=Hd hx3
 replace htb:=Hd htb
 replace b13:=Hd b13
 clear b3 hms
 go_wp2_with fail
 refine htb.out.mono ?_
 rintro e w4 ⟨_,rfl,b4,rfl⟩
 have hx4:=Hd (hx3.out.below b4)
 have bE:=Hd (Below.step b13.out b4)
 clear b4 htb
 go_wp2
 go_ret3
 exact ⟨_,_,_,rfl,bE.out,rfl,rfl,hx4.out⟩
def sImage:ByteArray:=⟨#[105,109,97,103,101]⟩
theorem imgof_bad (r:Nat→Addr) (m k R:Int) (va:Option Addr) (vn vc:Nat) (T:List Int) (t:Int×List (ByteArray×Int)) (w:World) (hg:Glob r w) (hG:GlobE w) (h:IntsAt w (.slice va vn vc) T) (hc:smallP k R T=some t) :
 Calls Tryz.prog 58 #[.int .i64 m,.agg #[.int .i64 k,.int .i64 R,.slice va vn vc]] w (Ret2 (fun x y w'=>x=.agg #[.int .i64 0,.slice none 0 0]∧ErrIs r w' (under sImage m (under sSubset 0 (some t))) y) w):=by
 have b0:=Below.step (belowAlloc w (.cells #[.int .i64 k,.int .i64 R,.slice va vn vc] 24)) (belowAlloc _ (.cells #[.int .i64 0,.slice none 0 0] 54))
 have q:Box3 ((w.alloc (.cells #[.int .i64 k,.int .i64 R,.slice va vn vc] 24)).alloc (.cells #[.int .i64 0,.slice none 0 0] 54)) w.heap.size (.int .i64 k) (.int .i64 R) (.slice va vn vc):=by simp [Box3,go_sem]
 obtain ⟨w1,hw1⟩:∃ W:World,(w.alloc (.cells #[.int .i64 k,.int .i64 R,.slice va vn vc] 24)).alloc (.cells #[.int .i64 0,.slice none 0 0] 54)=W:=⟨_,rfl⟩
 rw [hw1] at b0 q
 have qa:Box2 w1 (w.heap.size+1) (.int .i64 0) (.slice none 0 0):=by rw [← hw1]; simp [Box2,go_sem]
 have hwk:=walk_bad r k R va vn vc T t w1 (hg.below b0) (hG.below b0) (h.below b0) hc
 replace hwk:=Hd hwk
 replace hw1:=Hd hw1
 clear hg hG h hc
 obtain ⟨⟨z0,z1,z2⟩,-,-,-⟩:=q
 go_enter Tryz.func58,Tryz.ntmps58
 go_upto_region 1 with fail
 rw [hw1.out]
 go_wp2_with fail
 refine hwk.out.mono ?_
 rintro e w2 ⟨_,y,rfl,b2,rfl,hy⟩
 have bl:=belowAlloc w2 (.cells #[.int .i64 0,.slice none 0 0] 54)
 have b3:=Below.step b2 bl
 have hun:=under_any r sImage m _ y _ (hy.below bl)
 obtain ⟨T1,p1,rfl⟩:∃ T a,y=.iface T (.pointer (some a)):=by
  unfold under at hy
  exact hy.some_shape
 replace qa:=Hd (qa.below b3)
 have b03:=Hd (Below.step b0 b3)
 replace hun:=Hd hun
 clear z0 z1 z2 hwk b2 bl b3 b0 hy
 go_wp2_with fail
 refine hun.out.mono ?_
 rintro e w4 ⟨x,rfl,b4,hx⟩
 obtain ⟨⟨u0,u1⟩,g0,g1⟩:=qa.out.below b4
 obtain ⟨T2,p2,rfl⟩:∃ T a,x=.iface T (.pointer (some a)):=by
  unfold under at hx
  exact hx.some_shape
 have bE:=Hd (Below.step b03.out b4)
 replace hx:=Hd hx
 clear hun b4
 go_wp2
 rw [setCell_self u0,setCell_self u1]
 exact bodyPost_ret (v:=.tuple #[.agg #[.int .i64 0,.slice none 0 0],.iface T2 (.pointer (some p2))]) (by simp [results,Tryz.results58,go_sem,u0,u1]) rfl ⟨_,_,rfl,bE.out,rfl,hx.out⟩
theorem least_bad (r:Nat→Addr) (k R:Int) (va:Option Addr) (vn vc:Nat) (T:List Int) (t:Int×List (ByteArray×Int)) (w:World) (hg:Glob r w) (hG:GlobE w) (h:IntsAt w (.slice va vn vc) T) (hc:smallP k R T=some t) :
 Calls Tryz.prog 21 #[.agg #[.int .i64 k,.int .i64 R,.slice va vn vc]] w (Ret2 (fun x y w'=>x=.agg #[.int .i64 0,.slice none 0 0]∧ErrIs r w' (under sImage 0 (under sSubset 0 (some t))) y) w):=by
 have b0:=Below.step (belowAlloc w (.cells #[.int .i64 k,.int .i64 R,.slice va vn vc] 24)) (belowAlloc _ (.cells #[.int .i64 0,.slice none 0 0] 54))
 have q:Box3 ((w.alloc (.cells #[.int .i64 k,.int .i64 R,.slice va vn vc] 24)).alloc (.cells #[.int .i64 0,.slice none 0 0] 54)) w.heap.size (.int .i64 k) (.int .i64 R) (.slice va vn vc):=by simp [Box3,go_sem]
 obtain ⟨w1,hw1⟩:∃ W:World,(w.alloc (.cells #[.int .i64 k,.int .i64 R,.slice va vn vc] 24)).alloc (.cells #[.int .i64 0,.slice none 0 0] 54)=W:=⟨_,rfl⟩
 rw [hw1] at b0 q
 have qa:Box2 w1 (w.heap.size+1) (.int .i64 0) (.slice none 0 0):=by rw [← hw1]; simp [Box2,go_sem]
 have hof:=imgof_bad r 0 k R va vn vc T t w1 (hg.below b0) (hG.below b0) (h.below b0) hc
 replace hof:=Hd hof
 replace hw1:=Hd hw1
 clear hg hG h hc
 obtain ⟨⟨z0,z1,z2⟩,-,-,-⟩:=q
 go_enter Tryz.func21,Tryz.ntmps21
 go_upto_region 1 with fail
 rw [hw1.out]
 go_wp2_with fail
 refine hof.out.mono ?_
 rintro e w2 ⟨_,x,rfl,b2,rfl,hx⟩
 obtain ⟨⟨u0,u1⟩,g0,g1⟩:=qa.below b2
 obtain ⟨T2,p2,rfl⟩:∃ T a,x=.iface T (.pointer (some a)):=by
  unfold under at hx
  exact hx.some_shape
 have bE:=Hd (Below.step b0 b2)
 replace hx:=Hd hx
 clear z0 z1 z2 hof b0 b2
 go_wp2
 rw [setCell_self u0,setCell_self u1]
 exact bodyPost_ret (v:=.tuple #[.agg #[.int .i64 0,.slice none 0 0],.iface T2 (.pointer (some p2))]) (by simp [results,Tryz.results21,go_sem,u0,u1]) rfl ⟨_,_,rfl,bE.out,rfl,hx.out⟩
end Go.Proofs.YtkaoebokbfcmhaaGreatDoor
namespace Go.Proofs.YtkaoebokbfcmhaaGreatDoor
open Go.RowKit
set_option maxRecDepth 100000
abbrev boxN (T:TypeId) (n g:Nat) (cs:List Value):Row:=⟨T,n,.slice (some ⟨g,0,none⟩) 1 1,1,cs⟩
theorem Rows.mkN {B:Nat} {w:World} {f:Names} (i:Nat×Nat) (h:Rows B w f) (hB:B≤w.heap.size) (T:TypeId) (n:Nat) (cs:Array Value) (hs:cs.size=n) :
 ∃ f',Rows B (w.alloc (.cells cs T)) f'∧f' i=some (boxN T n w.heap.size cs.toList)∧∀ j,j≠i→f' j=f j :=
 h.addE i (r':=boxN T n w.heap.size cs.toList) (belowAlloc w _) (World.ownsRow_lit (base:=B) (e:=T) (size:=n) w cs 1 hB (by unfold maxLen; omega) (by rw [hs]; omega)) (fun k hk=>by cases hk; exact Nat.le_refl _)
section
variable {B:Nat} {w:World} {f:Names} {i:Nat×Nat} {T:TypeId} {n g:Nat} {cs:List Value}
theorem Rows.cellN (h:Rows B w f) (hi:f i=some (boxN T n g cs)) (k:Nat) (hk:k<n):w.cell? ⟨g,k,none⟩=cs[k]?:=h.cell hi (g:=g) (cap:=1) rfl k (show k<1*n by omega)
theorem Rows.frzN (h:Rows B w f) (hi:f i=some (boxN T n g cs)) (k:Nat):w.frozen? ⟨g,k,none⟩=false:=h.frozen hi (g:=g) (cap:=1) rfl k
theorem Rows.lowN (h:Rows B w f) (hi:f i=some (boxN T n g cs)):B≤g∧g<w.heap.size:=h.lt hi g rfl
theorem Rows.stN (h:Rows B w f) (hi:f i=some (boxN T n g cs)) (k:Nat) (y:Value):∃ f',Rows B (w.setCell ⟨g,k,none⟩ y) f'∧f' i=some (boxN T n g (cs.set k y))∧∀ j,j≠i→f' j=f j :=
 ⟨_,h.set hi (g:=g) (cap:=1) rfl k y,upd_same _ _ _,fun _ e=>upd_ne _ _ e⟩
end
def LkAt (B:Nat) (w:World) (b x e o:Nat) (rs cs es zs:List Value) (ov fv:Value) (ol fl:List Int):Prop :=
 ∃ f,Rows B w f∧f (40,0)=some (boxN 62 9 x cs)∧f (41,0)=some (boxN 116 5 e es)∧f (42,0)=some (boxN 62 9 o zs)∧f (43,0)=some (rowI ov ol)∧f (44,0)=some (rowI fv fl)∧f (45,0)=some (boxN 24 3 b rs)
section
variable {B:Nat} {w:World} {b x e o:Nat} {rs cs es zs:List Value} {ov fv:Value} {ol fl:List Int}
theorem LkAt.below {w':World} (h:LkAt B w b x e o rs cs es zs ov fv ol fl) (hb:Below w.heap.size w w'):LkAt B w' b x e o rs cs es zs ov fv ol fl:=by
 obtain ⟨f,hR,r⟩:=h
 exact ⟨f,hR.below hb,r⟩
theorem LkAt.low (h:LkAt B w b x e o rs cs es zs ov fv ol fl):B≤x∧B≤e∧B≤o:=by
 obtain ⟨f,hR,n0,n1,n2,-,-,-⟩:=h
 exact ⟨(hR.lowN n0).1,(hR.lowN n1).1,(hR.lowN n2).1⟩
theorem LkAt.cx (h:LkAt B w b x e o rs cs es zs ov fv ol fl) (k:Nat) (hk:k<9):w.cell? ⟨x,k,none⟩=cs[k]?:=by
 obtain ⟨f,hR,n0,n1,n2,-,-,-⟩:=h
 exact hR.cellN n0 k hk
theorem LkAt.ce (h:LkAt B w b x e o rs cs es zs ov fv ol fl) (k:Nat) (hk:k<5):w.cell? ⟨e,k,none⟩=es[k]?:=by
 obtain ⟨f,hR,n0,n1,n2,-,-,-⟩:=h
 exact hR.cellN n1 k hk
theorem LkAt.co (h:LkAt B w b x e o rs cs es zs ov fv ol fl) (k:Nat) (hk:k<9):w.cell? ⟨o,k,none⟩=zs[k]?:=by
 obtain ⟨f,hR,n0,n1,n2,-,-,-⟩:=h
 exact hR.cellN n2 k hk
theorem LkAt.cr (h:LkAt B w b x e o rs cs es zs ov fv ol fl) (k:Nat) (hk:k<3):w.cell? ⟨b,k,none⟩=rs[k]?:=by
 obtain ⟨f,hR,n0,n1,n2,-,-,n5⟩:=h
 exact hR.cellN n5 k hk
theorem LkAt.fx (h:LkAt B w b x e o rs cs es zs ov fv ol fl) (k:Nat):w.frozen? ⟨x,k,none⟩=false:=by
 obtain ⟨f,hR,n0,n1,n2,-,-,-⟩:=h
 exact hR.frzN n0 k
theorem LkAt.fe (h:LkAt B w b x e o rs cs es zs ov fv ol fl) (k:Nat):w.frozen? ⟨e,k,none⟩=false:=by
 obtain ⟨f,hR,n0,n1,n2,-,-,-⟩:=h
 exact hR.frzN n1 k
theorem LkAt.fo (h:LkAt B w b x e o rs cs es zs ov fv ol fl) (k:Nat):w.frozen? ⟨o,k,none⟩=false:=by
 obtain ⟨f,hR,n0,n1,n2,-,-,-⟩:=h
 exact hR.frzN n2 k
theorem LkAt.sx (h:LkAt B w b x e o rs cs es zs ov fv ol fl) (k:Nat) (y:Value):LkAt B (w.setCell ⟨x,k,none⟩ y) b x e o rs (cs.set k y) es zs ov fv ol fl:=by
 obtain ⟨f,hR,n0,n1,n2,n3,n4,n5⟩:=h
 obtain ⟨f',hR',m0,o'⟩:=hR.stN n0 k y
 exact ⟨f',hR',m0,(o' _ (by decide)).trans n1,(o' _ (by decide)).trans n2,(o' _ (by decide)).trans n3,(o' _ (by decide)).trans n4,(o' _ (by decide)).trans n5⟩
theorem LkAt.se (h:LkAt B w b x e o rs cs es zs ov fv ol fl) (k:Nat) (y:Value):LkAt B (w.setCell ⟨e,k,none⟩ y) b x e o rs cs (es.set k y) zs ov fv ol fl:=by
 obtain ⟨f,hR,n0,n1,n2,n3,n4,n5⟩:=h
 obtain ⟨f',hR',m0,o'⟩:=hR.stN n1 k y
 exact ⟨f',hR',(o' _ (by decide)).trans n0,m0,(o' _ (by decide)).trans n2,(o' _ (by decide)).trans n3,(o' _ (by decide)).trans n4,(o' _ (by decide)).trans n5⟩
theorem LkAt.so (h:LkAt B w b x e o rs cs es zs ov fv ol fl) (k:Nat) (y:Value):LkAt B (w.setCell ⟨o,k,none⟩ y) b x e o rs cs es (zs.set k y) ov fv ol fl:=by
 obtain ⟨f,hR,n0,n1,n2,n3,n4,n5⟩:=h
 obtain ⟨f',hR',m0,o'⟩:=hR.stN n2 k y
 exact ⟨f',hR',(o' _ (by decide)).trans n0,(o' _ (by decide)).trans n1,m0,(o' _ (by decide)).trans n3,(o' _ (by decide)).trans n4,(o' _ (by decide)).trans n5⟩
theorem LkAt.orphan {w':World} {v:Value} {l:List Int} (h:LkAt B w b x e o rs cs es zs ov fv ol fl) (hb:Below w.heap.size w w') (hB:B≤w.heap.size) (ho:OwnI w.heap.size w' v l):LkAt B w' b x e o rs cs es zs v fv l fl:=by
 obtain ⟨f,hR,n0,n1,n2,n3,n4,n5⟩:=h
 obtain ⟨f',hR',m0,o'⟩:=hR.addE (43,0) (r':=rowI v l) hb (ho.mono hB) (fun k hk=>(ho.lt k hk).1)
 exact ⟨f',hR',(o' _ (by decide)).trans n0,(o' _ (by decide)).trans n1,(o' _ (by decide)).trans n2,m0,(o' _ (by decide)).trans n4,(o' _ (by decide)).trans n5⟩
theorem LkAt.facs {w':World} {v:Value} {l:List Int} (h:LkAt B w b x e o rs cs es zs ov fv ol fl) (hb:Below w.heap.size w w') (hB:B≤w.heap.size) (ho:OwnI w.heap.size w' v l):LkAt B w' b x e o rs cs es zs ov v ol l:=by
 obtain ⟨f,hR,n0,n1,n2,n3,n4,n5⟩:=h
 obtain ⟨f',hR',m0,o'⟩:=hR.addE (44,0) (r':=rowI v l) hb (ho.mono hB) (fun k hk=>(ho.lt k hk).1)
 exact ⟨f',hR',(o' _ (by decide)).trans n0,(o' _ (by decide)).trans n1,(o' _ (by decide)).trans n2,(o' _ (by decide)).trans n3,m0,(o' _ (by decide)).trans n5⟩
theorem LkAt.lists (h:LkAt B w b x e o rs cs es zs ov fv ol fl):OwnI B w ov ol∧OwnI B w fv fl∧(ov.ownBlock=none∨ov.ownBlock≠fv.ownBlock):=by
 obtain ⟨f,hR,n0,n1,n2,n3,n4,n5⟩:=h
 exact ⟨hR.ownI n3,hR.ownI n4,hR.2 (43,0) (44,0) _ _ n3 n4 (by decide)⟩
end
def ontoN:SubR→Int
 | .on _ _=>1
 | .orphan _=>2
 | .big=>3
def orphL:SubR→List Int
 | .orphan w=>w
 | _=>[]
end Go.Proofs.YtkaoebokbfcmhaaGreatDoor
