/-
  Texts that the proof leans on.
-/
import Derived.Calls
import Derived.Lib.Hide
import Derived.Test.YtindfaehjoileaaGreatDoorProg
import Derived.KernelRfl
import Derived.WalkKit
import Derived.WalkSpells
import Derived.WalkLawsBesides
import Derived.Maps.AppendAt
import Derived.Deep.RegionLawGrows
import Derived.Deep.RegionHeld3
import Derived.BigQuiet
import Derived.Deep.QuietTactic
import Derived.Laws.CopyOwn
import Derived.LaidEql
import Derived.Stop.Asserts
import Derived.RowKitTokens
import Derived.Deep.LoopGhost
import Derived.Laws.EntriesVeiled
import Derived.Lib.FieldsP
import Derived.Lib.SplitLaws
import Derived.Shelf.Strings.FieldsFuncAny
namespace Go.Proofs.YtindfaehjoileaaGreatDoor
theorem Hd {p:Prop} (h:p):RowKit.Hid p:=h
theorem pq:(∀ (a:Act) (v:Value),a.put none v=a)∧(∀ (a:Act) (k:Tmp) (v:Value),a.put (some k) v={ a with tmps:=a.tmps.setIfInBounds k v })∧(∀ (l:List Value) (i:Nat) (v:Value),l.toArray.setIfInBounds i v=(l.set i v).toArray)∧(∀ (x v:Value) (l:List Value),(x::l).set 0 v=v::l)∧(∀ (x v:Value) (l:List Value) (n:Nat),(x::l).set (n+1) v=x::l.set n v) :=
 ⟨fun _ _=>rfl,fun _ _ _=>rfl,fun _ _ _=>by simp,fun _ _ _=>rfl,fun _ _ _ _=>rfl⟩
open Go.RowKit
def valAt (v:Value) (i:Nat):Addr:=match v with | .slice (some p) _ _=>p.add i | _=>default
def IntsAt (w:World) (v:Value) (xs:List Int):Prop :=
 ∃ a cap,v=.slice a xs.length cap∧xs.length≤cap∧cap≤maxLen∧(a=none→cap=0)∧∀ i (h:i<xs.length),w.cell? (valAt v i)=some (.int .i64 xs[i])
theorem IntsAt.len_le {w:World} {v:Value} {xs:List Int} (h:IntsAt w v xs):xs.length≤9223372036854775807:=by
 obtain ⟨a,cap,rfl,h1,h2,_⟩:=h
 unfold maxLen at h2; omega
theorem uInts:Tryz.prog.underlying 30=some (.slice 3):=by kernel_rfl
theorem iInt:(Tryz.prog.info? 3).map (fun i=>(i.zero,i.size,i.bytes))=some (some (.int .i64 0),1,8):=by kernel_rfl
theorem eInts:Tryz.prog.elem 30=3:=by kernel_rfl
theorem uIntsE:Tryz.prog.underlying 30=some (.slice (Tryz.prog.elem 30)):=by rw [eInts]; exact uInts
theorem sInt (w:World):(sizeOf 3).run Tryz.prog w=.ok 1 w:=by kernel_rfl
theorem IntsAt.len {w:World} {v:Value} {xs:List Int} (h:IntsAt w v xs) (w':World) :
 (Builtin.len_ #[30] 3 #[v]).run Tryz.prog w'=.ok (.int .i64 xs.length) w':=by
 obtain ⟨a,cap,rfl,h1,h2,h3,h4⟩:=h
 rw [run_len_slice _ _ _ _ _ _ uIntsE]
 rfl
theorem IntsAt.idx {w:World} {v:Value} {xs:List Int} (h:IntsAt w v xs) (i:Nat) (hi:i<xs.length) (w':World) :
 (Instr.indexAt 30 v (.int .i64 i)).run Tryz.prog w'=.ok (.pointer (some (valAt v i))) w':=by
 obtain ⟨a,cap,rfl,h1,h2,h3,h4⟩:=h
 cases a with
 | none=>have:=h3 rfl; omega
 | some p =>
  rw [run_indexAt_slice _ _ _ _ _ _ _ uIntsE,if_pos (by omega),eInts,sInt]
  simp [valAt]
theorem IntsAt.idxI {w:World} {v:Value} {xs:List Int} (h:IntsAt w v xs) (i:Int) (h0:0≤i) (hi:i<xs.length) (w':World) :
 (Instr.indexAt 30 v (.int .i64 i)).run Tryz.prog w'=.ok (.pointer (some (valAt v i.toNat))) w':=by
 have:=h.idx i.toNat (by omega) w'
 rwa [Int.toNat_of_nonneg h0] at this
theorem IntsAt.cell {w:World} {v:Value} {xs:List Int} (h:IntsAt w v xs) (i:Nat) (hi:i<xs.length) :
 w.cell? (valAt v i)=some (.int .i64 xs[i]):=by
 obtain ⟨a,cap,rfl,h1,h2,h3,h4⟩:=h
 exact h4 i hi
theorem IntsAt.cellD {w:World} {v:Value} {xs:List Int} (h:IntsAt w v xs) (i:Nat) (hi:i<xs.length) :
 w.cell? (valAt v i)=some (.int .i64 (xs.getD i 0)):=by
 rw [h.cell i hi]; simp [List.getD,hi]
theorem IntsAt.blk {w:World} {v:Value} {xs:List Int} (h:IntsAt w v xs) (i:Nat) (hi:i<xs.length):(valAt v i).block<w.heap.size :=
 World.block_lt_of_cell? _ _ (h.cell i hi)
theorem IntsAt.below {w w':World} {v:Value} {xs:List Int} (h:IntsAt w v xs) (hb:Below w.heap.size w w'):IntsAt w' v xs:=by
 have hk:=h.blk
 obtain ⟨a,cap,e,h1,h2,h3,h4⟩:=h
 exact ⟨a,cap,e,h1,h2,h3,fun i hi=>by rw [hb.cell (hk i hi)]; exact h4 i hi⟩
theorem IntsAt.cells_eq {w w':World} {v:Value} {xs:List Int} (h:IntsAt w v xs) (hc:∀ i,i<xs.length→w'.cell? (valAt v i)=w.cell? (valAt v i)):IntsAt w' v xs:=by
 obtain ⟨a,cap,e,h1,h2,h3,h4⟩:=h
 exact ⟨a,cap,e,h1,h2,h3,fun i hi=>by rw [hc i hi]; exact h4 i hi⟩
theorem IntsAt.uniq {w:World} {v:Value} {xs ys:List Int} (h:IntsAt w v xs) (k:IntsAt w v ys):xs=ys:=by
 have e:xs.length=ys.length:=by
  obtain ⟨a,cap,e,_⟩:=h
  obtain ⟨b,cap',e',_⟩:=k
  rw [e] at e'; injection e'
 refine List.ext_getElem e fun i h1 h2=>?_
 have c1:=h.cell i h1
 rw [k.cell i h2] at c1
 simpa using c1.symm
def OwnI (B:Nat) (w:World) (v:Value) (xs:List Int):Prop:=w.ownsRow B 3 1 v xs.length (xs.map (Value.int .i64))
theorem OwnI.nil (B:Nat) (w:World):OwnI B w (.slice none 0 0) []:=World.ownsRow_nil w B _ 1
theorem OwnI.at {B:Nat} {w:World} {v:Value} {xs:List Int} (h:OwnI B w v xs):IntsAt w v xs:=by
 rcases h.2 with ⟨rfl,hn⟩ | ⟨g,cap,cur,rfl,hb,hg,hn,hm,hs,ht⟩
 ·obtain rfl:=List.length_eq_zero_iff.1 hn
  exact ⟨none,0,rfl,by simp,by simp,fun _=>rfl,by simp⟩
 ·refine ⟨some ⟨g,0,none⟩,cap,rfl,hn,hm,(by intro e; cases e),fun i hi=>?_⟩
  exact World.ownsRow.cells h (g:=g) rfl i _ (by simp [hi])
theorem OwnI.mono {B B':Nat} {w:World} {v:Value} {xs:List Int} (h:OwnI B w v xs) (hB:B'≤B):OwnI B' w v xs:=by
 refine ⟨h.1,?_⟩
 rcases h.2 with h2 | ⟨g,cap,cur,e,hb,r⟩
 ·exact .inl h2
 ·exact .inr ⟨g,cap,cur,e,Nat.le_trans hB hb,r⟩
theorem OwnI.lt {B:Nat} {w:World} {v:Value} {xs:List Int} (h:OwnI B w v xs):∀ k,v.ownBlock=some k→B≤k∧k<w.heap.size:=World.ownsRow.lt h
theorem valAt_row (g i n cap:Nat):valAt (.slice (some ⟨g,0,none⟩) n cap) i=⟨g,i,none⟩:=by
 show (⟨g,0,none⟩:Addr).add i=_
 unfold Addr.add; split<;>simp_all
theorem OwnI.frz {B:Nat} {w:World} {v:Value} {xs:List Int} (h:OwnI B w v xs) (i:Nat) (hi:i<xs.length):w.frozen? (valAt v i)=false:=by
 rcases h.2 with ⟨rfl,hn⟩ | ⟨g,cap,cur,rfl,hb,hg,hn,hm,hs,ht⟩
 ·omega
 ·rw [valAt_row]
  exact frozen_of_row w g i cur _ hg
theorem OwnI.blkB {B:Nat} {w:World} {v:Value} {xs:List Int} (h:OwnI B w v xs) (i:Nat) (hi:i<xs.length):B≤(valAt v i).block:=by
 rcases h.2 with ⟨rfl,hn⟩ | ⟨g,cap,cur,rfl,hb,hg,hn,hm,hs,ht⟩
 ·omega
 ·rw [valAt_row]; exact hb
theorem OwnI.set {B:Nat} {w:World} {v:Value} {xs:List Int} (h:OwnI B w v xs) (i:Nat) (hi:i<xs.length) (y:Int) :
 OwnI B (w.setCell (valAt v i) (.int .i64 y)) v (xs.set i y):=by
 rcases h.2 with ⟨rfl,hn⟩ | ⟨g,cap,cur,rfl,hb,hg,hn,hm,hs,ht⟩
 ·omega
 ·rw [valAt_row]
  have:=(World.ownsRow.stored h i (.int .i64 y)).1
  unfold OwnI
  rw [List.map_set,List.length_set]
  exact this
theorem OwnI.setBelow {B:Nat} {w0 w:World} {v:Value} {xs:List Int} (h:OwnI B w v xs) (hb:Below B w0 w) (i:Nat) (hi:i<xs.length) (y:Value) :
 Below B w0 (w.setCell (valAt v i) y):=hb.setCell (h.blkB i hi) y
theorem OwnI.below {B:Nat} {w w':World} {v:Value} {xs:List Int} (h:OwnI B w v xs) (hb:Below w.heap.size w w'):OwnI B w' v xs:=by
 refine ⟨h.1,?_⟩
 rcases h.2 with h2 | ⟨g,cap,cur,e,hB,hg,r⟩
 ·exact .inl h2
 ·refine .inr ⟨g,cap,cur,e,hB,?_,r⟩
  rw [hb.block g (Array.getElem?_eq_some_iff.1 hg).1]; exact hg
theorem OwnI.alloc {B:Nat} {w:World} {v:Value} {xs:List Int} (h:OwnI B w v xs) (o:Obj):OwnI B (w.alloc o) v xs:=World.ownsRow.alloc h o
theorem OwnI.drew {B:Nat} {w:World} {v:Value} {xs:List Int} (h:OwnI B w v xs):OwnI B w.drew v xs:=h
theorem OwnI.drewN {B:Nat} {w:World} {v:Value} {xs:List Int} (h:OwnI B w v xs) (n:Nat):OwnI B (w.drewN n) v xs:=h
theorem IntsAt.drew {w:World} {v:Value} {xs:List Int} (h:IntsAt w v xs):IntsAt w.drew v xs:=h
theorem IntsAt.drewN {w:World} {v:Value} {xs:List Int} (h:IntsAt w v xs) (n:Nat):IntsAt (w.drewN n) v xs:=h
theorem OwnI.kept {B:Nat} {w w':World} {row:Option Nat} {v:Value} {xs:List Int} (h:OwnI B w v xs) (hg:w.grownBy w' row) (hne:v.ownBlock=none∨v.ownBlock≠row):OwnI B w' v xs:=World.ownsRow.kept h hg hne
theorem OwnI.setOther {B B':Nat} {w:World} {v u:Value} {xs ys:List Int} (h:OwnI B w v xs) (k:OwnI B' w u ys) (hne:v.ownBlock≠u.ownBlock) (i:Nat) (hi:i<ys.length) (y:Value) :
 OwnI B (w.setCell (valAt u i) y) v xs:=by
 rcases k.2 with ⟨rfl,hn⟩ | ⟨g,cap,cur,rfl,hb,hg,hn,hm,hs,ht⟩
 ·omega
 ·rw [valAt_row]
  exact h.kept (row:=some g) ⟨rfl,rfl,rfl,by simp [World.setCell],fun j _ hj=>Below.heap_setCell _ _ _ _ (by simp at hj; omega)⟩ (.inr (by simpa [Value.ownBlock] using hne))
theorem OwnI.lit (B:Nat) (w:World) (hB:B≤w.heap.size) (xs:List Int) (hm:xs.length≤maxLen) (cs:Array Value) (hc:cs.toList=xs.map (Value.int .i64)) (n:Nat) (hn:n=xs.length) :
 OwnI B (w.alloc (.cells cs 3)) (.slice (some ⟨w.heap.size,0,none⟩) n n) xs:=by
 subst hn
 have hs:cs.size=xs.length*1:=by rw [← Array.length_toList,hc]; simp
 have:=World.ownsRow_lit (base:=B) (e:=3) (size:=1) w cs xs.length hB hm hs
 unfold OwnI
 rw [← hc]; exact this
theorem wpl_make0 {w:World} {ops:Array Oper} {rest:List Oper} {o:Oper} {a:Act} {Q:Exit→Act→World→Prop}
 (hg:o.guard=none) (l c:Operand) (hop:o.op=Op.makeSlice 30 l c) (C:Int) (hl:a.eval l=.int .i64 0) (hc:a.eval c=.int .i64 C)
 (h0:0≤C) (hC:C≤17592186044416)
 (hK:∀ v w',OwnI w.heap.size w' v []→Below w.heap.size w w'→wpList Tryz.prog ops Q rest (a.put o.dst v) w') :
 wpList Tryz.prog ops Q (o::rest) a w:=by
 obtain ⟨i,hi,hz0,hz1,hz2⟩:=info_parts iInt
 obtain ⟨n,rfl⟩:=Int.eq_ofNat_of_zero_le h0
 refine wpList_make_own w hg l c 30 hop w.heap.size 3 i (.int .i64 0) 1 uInts hi hz0 hz1 .i64 .i64 n n hl hc rfl (by rw [hz2]; omega) (by unfold maxLen; omega) (Nat.le_refl _) ?_
 intro w' hown hgrow
 exact hK _ _ hown ((Below.refl _ _).grown hgrow (Nat.le_refl _) (by intro k hk; cases hk))
theorem wpl_make {w:World} {ops:Array Oper} {rest:List Oper} {o:Oper} {a:Act} {Q:Exit→Act→World→Prop}
 (hg:o.guard=none) (l c:Operand) (hop:o.op=Op.makeSlice 30 l c) (C:Int) (hl:a.eval l=.int .i64 C) (hc:a.eval c=.int .i64 C)
 (h0:0≤C) (hC:C≤17592186044416)
 (hK:∀ v w',OwnI w.heap.size w' v (List.replicate C.toNat 0)→Below w.heap.size w w'→wpList Tryz.prog ops Q rest (a.put o.dst v) w') :
 wpList Tryz.prog ops Q (o::rest) a w:=by
 obtain ⟨i,hi,hz0,hz1,hz2⟩:=info_parts iInt
 obtain ⟨n,rfl⟩:=Int.eq_ofNat_of_zero_le h0
 refine wpList_make_full w hg l c 30 hop w.heap.size 3 i (.int .i64 0) 1 uInts hi hz0 hz1 .i64 .i64 n n n hl hc rfl rfl (by rw [hz2]; omega) (by unfold maxLen; omega) (Nat.le_refl _) ?_
 intro w' hown hgrow
 refine hK _ _ ?_ ((Below.refl _ _).grown hgrow (Nat.le_refl _) (by intro k hk; cases hk))
 have e:(madeCells (Value.cells (.int .i64 0)) (n*1)).toList=(List.replicate n (0:Int)).map (Value.int .i64):=by
  rw [show Value.cells (.int .i64 0)=#[.int .i64 0] from rfl,toList_madeCells_one]; simp
 rw [e] at hown
 simpa [OwnI] using hown
theorem wpl_append1 {w:World} {ops:Array Oper} {rest:List Oper} {o:Oper} {a:Act} {Q:Exit→Act→World→Prop} (hgd:o.guard=none) (s x:Operand)
 (ho:o.op=.call { callee:=.builtin .append,args:=#[s,x],argTypes:=#[30,30] })
 (B:Nat) (v:Value) (xs:List Int) (y:Int) (hown:OwnI B w v xs) (hs:a.eval s=v) (hx:a.eval x=.slice (some ⟨w.heap.size,0,none⟩) 1 1)
 (hlen:xs.length<17592186044415) (hB:B≤w.heap.size)
 (h:∀ v' w',OwnI B w' v' (xs++[y])→Below B w w'→w.grownBy w' v.ownBlock→(v'.ownBlock=v.ownBlock∨∃ k,v'.ownBlock=some k∧w.heap.size≤k)→wpList Tryz.prog ops Q rest (a.put o.dst v') w') :
 wpList Tryz.prog ops Q (o::rest) a (w.alloc (.cells #[.int .i64 y] 3)):=by
 obtain ⟨i,hi,hz0,hz1,hz2⟩:=info_parts iInt
 have hown':=hown.alloc (.cells #[.int .i64 y] 3)
 refine wpList_append_own_at _ hgd s x 30 ho B 3 i (.int .i64 0) 1 8 uInts hi hz0 hz1 hz2 rfl (by decide) v xs.length _ hs hown' _ 1 1 [.int .i64 y] hx rfl (cell_one_new _ _ _) (by simp [Value.oneCell']) (by unfold maxLen; omega) (by omega) (by simp; omega) ?_
 intro v' w' ho' hgr _ hat
 have hg2:w.grownBy w' v.ownBlock:=(World.grownBy_alloc w _ _).trans hgr
 refine h v' w' (by simpa [OwnI] using ho') ((Below.refl _ _).grown hg2 hB (fun k hk=>(hown.lt k hk).1)) hg2 ?_
 rcases hat with hat | hat
 ·exact .inl hat
 ·exact .inr ⟨_,hat,by simp⟩
theorem wpl_append {w:World} {ops:Array Oper} {rest:List Oper} {o:Oper} {a:Act} {Q:Exit→Act→World→Prop} (hgd:o.guard=none) (s x:Operand)
 (ho:o.op=.call { callee:=.builtin .append,args:=#[s,x],argTypes:=#[30,30] })
 (B:Nat) (v u:Value) (xs ys:List Int) (hown:OwnI B w v xs) (hu:IntsAt w u ys) (hs:a.eval s=v) (hx:a.eval x=u)
 (hlen:xs.length+ys.length≤17592186044416) (hB:B≤w.heap.size)
 (h:∀ v' w',OwnI B w' v' (xs++ys)→Below B w w'→w.grownBy w' v.ownBlock→(v'.ownBlock=v.ownBlock∨∃ k,v'.ownBlock=some k∧w.heap.size≤k)→wpList Tryz.prog ops Q rest (a.put o.dst v') w') :
 wpList Tryz.prog ops Q (o::rest) a w:=by
 obtain ⟨i,hi,hz0,hz1,hz2⟩:=info_parts iInt
 have hu':=hu
 obtain ⟨ao,cap,rfl,h1,h2,h3,h4⟩:=hu
 cases ao with
 | none =>
  obtain rfl:=h3 rfl
  have hy:ys=[]:=List.length_eq_zero_iff.1 (by omega)
  subst hy
  refine wpList_plain hgd fun K hK=>?_
  have hrun:=run_append_owned_none (P:=Tryz.prog) w B 30 o.type 3 i 1 uInts hi v xs.length _ hown
  unfold Oper.wp execOp
  simp only [ho,resolve,invoke,builtin,Sem.run_bind,Sem.run_pure,Result.andThen_ok,List.map_toArray,List.map_cons,List.map_nil,hs,hx]
  rw [show (Value.slice none ([]:List Int).length 0)=.slice none 0 0 from rfl,hrun]
  exact hK _ _ (h v w (by simpa using hown) (Below.refl _ _) (World.grownBy.refl _ _) (.inl rfl))
 | some p =>
  refine wpList_append_own_at _ hgd s x 30 ho B 3 i (.int .i64 0) 1 8 uInts hi hz0 hz1 hz2 rfl (by decide) v xs.length _ hs hown p ys.length cap (ys.map (.int .i64)) hx (by simp) ?_ (ints_oneCell _ _) (by unfold maxLen; omega) (by omega) hB ?_
  ·intro j u hj
   have hjl:j<ys.length:=by have:=(List.getElem?_eq_some_iff.1 hj).1; simpa using this
   have:=h4 j hjl
   simp only [valAt] at this
   rw [this,← hj]; simp [hjl]
  ·intro v' w' ho' hgr _ hat
   refine h v' w' (by simpa [OwnI] using ho') ((Below.refl _ _).grown hgr hB (fun k hk=>(hown.lt k hk).1)) hgr ?_
   rcases hat with hat | hat
   ·exact .inl hat
   ·exact .inr ⟨_,hat,Nat.le_refl _⟩
theorem IntsAt.shape {w:World} {v:Value} {xs:List Int} (h:IntsAt w v xs):∃ a n c,v=.slice a n c:=by
 obtain ⟨a,cap,e,_⟩:=h; exact ⟨_,_,_,e⟩
theorem OwnI.setBelowBase {B:Nat} {w:World} {v:Value} {xs:List Int} (h:OwnI B w v xs) {a:Addr} (ha:a.block<B) (u:Value):OwnI B (w.setCell a u) v xs:=ownsRow_setCell_below h ha u
theorem cells3 {w w':World} {a b c:Value} {T:TypeId} (hb:Below (w.alloc (.cells #[a,b,c] T)).heap.size (w.alloc (.cells #[a,b,c] T)) w') :
 w'.cell? ⟨w.heap.size,0,none⟩=some a∧w'.cell? ⟨w.heap.size,1,none⟩=some b∧w'.cell? ⟨w.heap.size,2,none⟩=some c ∧
 w'.frozen? ⟨w.heap.size,0,none⟩=false∧w'.frozen? ⟨w.heap.size,1,none⟩=false∧w'.frozen? ⟨w.heap.size,2,none⟩=false:=by
 refine ⟨?_,?_,?_,?_,?_,?_⟩
 ·rw [hb.cell (by simp)]; simp
 ·rw [hb.cell (by simp)]; simp
 ·rw [hb.cell (by simp)]; simp
 ·rw [hb.frozen (by simp)]; simp
 ·rw [hb.frozen (by simp)]; simp
 ·rw [hb.frozen (by simp)]; simp
theorem keep3 {w w':World} {n:Nat} {a b c:Value} (hb:Below w.heap.size w w') (h:w.cell? ⟨n,0,none⟩=some a∧w.cell? ⟨n,1,none⟩=some b∧w.cell? ⟨n,2,none⟩=some c) :
 w'.cell? ⟨n,0,none⟩=some a∧w'.cell? ⟨n,1,none⟩=some b∧w'.cell? ⟨n,2,none⟩=some c:=by
 obtain ⟨h0,h1,h2⟩:=h
 have hn:=World.block_lt_of_cell? _ _ h0
 exact ⟨(hb.cell (p:=⟨n,0,none⟩) hn).trans h0,(hb.cell (p:=⟨n,1,none⟩) hn).trans h1,(hb.cell (p:=⟨n,2,none⟩) hn).trans h2⟩
theorem wrapK {x:Int} (h1:-9223372036854775808≤x) (h2:x<9223372036854775808):IntKind.i64.wrap x=x:=by simp [IntKind.wrap_i64]; omega
theorem ret_int {a b:Int} (h:a=b):Ending.returned (.int .i64 a)=.returned (.int .i64 b):=by rw [h]
theorem ret_bool {a b:Bool} (h:a=b):Ending.returned (.bool a)=.returned (.bool b):=by rw [h]
end Go.Proofs.YtindfaehjoileaaGreatDoor
namespace Go.Proofs.YtindfaehjoileaaGreatDoor
abbrev PErr:=Option (Int×List (ByteArray×Int))
def under (op:ByteArray) (at_:Int) (t:PErr):PErr:=t.map fun x=>(x.1,(op,at_)::x.2)
def fresh (op:ByteArray) (at_:Int) (n:Int):PErr:=some (n,[(op,at_)])
def sRule:ByteArray:=⟨#[114,117,108,101]⟩
def sAdditive:ByteArray:=⟨#[97,100,100,105,116,105,118,101]⟩
def pw (K i:Nat):Nat:=K ^ i
theorem pw_zero (K:Nat):pw K 0=1:=rfl
theorem pw_succ (K i:Nat):pw K (i+1)=pw K i*K:=Nat.pow_succ ..
theorem pw_one (K:Nat):pw K 1=K:=by simp [pw]
theorem pw_pos {K:Nat} (i:Nat) (h:1≤K):1≤pw K i:=Nat.one_le_pow _ _ h
theorem pw_le {K i:Nat} (_h1:1≤K) (h4:K≤4) (hi:i≤7):pw K i≤16384 :=
 Nat.le_trans (Nat.pow_le_pow_left h4 i) (Nat.le_trans (Nat.pow_le_pow_right (by omega) hi) (by decide))
def idxOf (p:Int→Bool) (xs:List Int):Int:=match xs.findIdx? p with | some i=>i | none=>-1
theorem idxOf_neg {p:Int→Bool} {xs:List Int} (h:∀ x∈xs,p x=false):idxOf p xs=-1:=by
 have:xs.findIdx? p=none:=List.findIdx?_eq_none_iff.2 h
 simp [idxOf,this]
theorem idxOf_at {p:Int→Bool} {xs:List Int} (k:Nat) (hk:k<xs.length) (hp:p xs[k]=true) (hj:∀ j (h:j<xs.length),j<k→p xs[j]=false):idxOf p xs=k:=by
 have:xs.findIdx? p=some k:=by
  rw [List.findIdx?_eq_some_iff_getElem]
  exact ⟨hk,hp,fun j hjk=>by simp [hj j (by omega) hjk]⟩
 simp [idxOf,this]
theorem idxOf_cases (p:Int→Bool) (xs:List Int):(idxOf p xs=-1∧∀ x∈xs,p x=false)∨(∃ k:Nat,idxOf p xs=k∧∃ h:k<xs.length,p xs[k]=true∧∀ j (h:j<xs.length),j<k→p xs[j]=false):=by
 cases h:xs.findIdx? p with
 | none=>exact .inl ⟨by simp [idxOf,h],List.findIdx?_eq_none_iff.1 h⟩
 | some k =>
  obtain ⟨hk,hp,hj⟩:=List.findIdx?_eq_some_iff_getElem.1 h
  exact .inr ⟨k,by simp [idxOf,h],hk,hp,fun j hj' hjk=>by simpa using hj j hjk⟩
def odd1 (k:Int) (x:Int):Bool:=decide (x<0)||decide (k≤x)
theorem odd1_false {k x:Int}:odd1 k x=false↔0≤x∧x<k:=by simp [odd1]
def Syms (k:Int) (xs:List Int):Prop:=∀ x∈xs,0≤x∧x<k
theorem Syms.odd {k:Int} {xs:List Int} (h:Syms k xs):idxOf (odd1 k) xs=-1:=idxOf_neg fun x hx=>odd1_false.2 (h x hx)
theorem syms_or (k:Int) (xs:List Int):Syms k xs∨∃ i:Nat,idxOf (odd1 k) xs=i∧i<xs.length:=by
 rcases idxOf_cases (odd1 k) xs with ⟨_,h⟩ | ⟨i,h,hi,_⟩
 ·exact .inl fun x hx=>odd1_false.1 (h x hx)
 ·exact .inr ⟨i,h,hi⟩
structure RuleOk (K R:Nat) (xs:List Int):Prop where
 k1:1≤K
 k4:K≤4
 r3:R≤3
 len:xs.length=pw K (2*R+1)
 syms:Syms K xs
theorem RuleOk.len_le {K R:Nat} {xs:List Int} (h:RuleOk K R xs):xs.length≤16384:=by
 rw [h.len]; exact pw_le h.k1 h.k4 (by have:=h.r3; omega)
def checkP (k r:Int) (xs:List Int):PErr :=
 if k<1∨4<k then fresh sRule 0 1
 else if r<0∨3<r then fresh sRule 1 1
 else if xs.length≠pw k.toNat (2*r.toNat+1) then fresh sRule 2 1
 else if idxOf (odd1 k) xs=-1 then none
 else fresh sRule (3+idxOf (odd1 k) xs) 1
theorem RuleOk.check {K R:Nat} {xs:List Int} (h:RuleOk K R xs):checkP K R xs=none:=by
 have:=h.k1; have:=h.k4; have:=h.r3
 unfold checkP
 rw [if_neg (by omega),if_neg (by omega),if_neg (by simp [h.len]),if_pos h.syms.odd]
set_option maxHeartbeats 8000000
open Go.RowKit
def Ret1 (Φ:Value→World→Prop) (w:World) (e:Ending) (w':World):Prop:=∃ x,e=.returned x∧Below w.heap.size w w'∧Φ x w'
def Ret2 (Φ:Value→Value→World→Prop) (w:World) (e:Ending) (w':World):Prop:=∃ x y,e=.returned (.tuple #[x,y])∧Below w.heap.size w w'∧Φ x y w'
def Ret3 (Φ:Value→Value→Value→World→Prop) (w:World) (e:Ending) (w':World):Prop:=∃ x y z,e=.returned (.tuple #[x,y,z])∧Below w.heap.size w w'∧Φ x y z w'
abbrev rootV (r:Nat→Addr) (n:Int):Value:=.iface 417 (.pointer (some (r n.toNat)))
structure Glob (r:Nat→Addr) (w:World):Prop where
 c1:w.cell? ⟨0,0,none⟩=some (rootV r 1)
 c2:w.cell? ⟨1,0,none⟩=some (rootV r 2)
 c3:w.cell? ⟨2,0,none⟩=some (rootV r 3)
 c4:w.cell? ⟨3,0,none⟩=some (rootV r 4)
 c5:w.cell? ⟨4,0,none⟩=some (rootV r 5)
 c6:w.cell? ⟨5,0,none⟩=some (rootV r 6)
 c7:w.cell? ⟨6,0,none⟩=some (rootV r 7)
 c8:w.cell? ⟨7,0,none⟩=some (rootV r 8)
 c9:w.cell? ⟨8,0,none⟩=some (rootV r 9)
 c10:w.cell? ⟨9,0,none⟩=some (rootV r 10)
 c11:w.cell? ⟨10,0,none⟩=some (rootV r 11)
 c12:w.cell? ⟨11,0,none⟩=some (rootV r 99)
 str:∀ n:Nat,(1≤n∧n≤11)∨n=99→∃ s,w.cell? (r n)=some (.string s)
 apart:∀ m n:Int,1≤m→m≤11→1≤n→n≤11→r m.toNat=r n.toNat→m=n
 flat:∀ n:Nat,(1≤n∧n≤11)∨n=99→∃ c t,w.heap[(r n).block]?=some (.cells c t (0,0))
theorem Glob.below {r:Nat→Addr} {w w':World} (h:Glob r w) (hb:Below w.heap.size w w'):Glob r w':=by
 have k:∀ {i v},w.cell? ⟨i,0,none⟩=some v→w'.cell? ⟨i,0,none⟩=some v:=fun {i v} hc=>by
  rw [hb.cell (World.block_lt_of_cell? _ _ hc)]; exact hc
 exact ⟨k h.c1,k h.c2,k h.c3,k h.c4,k h.c5,k h.c6,k h.c7,k h.c8,k h.c9,k h.c10,k h.c11,k h.c12,(fun n hn=>by
  obtain ⟨s,hs⟩:=h.str n hn
  exact ⟨s,by rw [hb.cell (World.block_lt_of_cell? _ _ hs)]; exact hs⟩),h.apart,fun n hn=>by
  obtain ⟨s,hs⟩:=h.str n hn
  obtain ⟨c,t,e⟩:=h.flat n hn
  exact ⟨c,t,by rw [hb.block _ (World.block_lt_of_cell? _ _ hs)]; exact e⟩⟩
def ErrAt (r:Nat→Addr) (w:World) (n:Int):List (ByteArray×Int)→Value→Prop
 | [],v=>v=rootV r n
 | (op,at_)::rest,v=>∃ p u,v=.iface 47 (.pointer (some ⟨p,0,none⟩))∧w.cell? ⟨p,0,none⟩=some (.string op)∧w.cell? ⟨p,1,none⟩=some (.int .i64 at_) ∧
     w.cell? ⟨p,2,none⟩=some u∧ErrAt r w n rest u
def ErrIs (r:Nat→Addr) (w:World) (t:PErr) (v:Value):Prop :=
 match t with
 | none=>v=.nilIface
 | some (n,l)=>ErrAt r w n l v
theorem ErrAt.below {r:Nat→Addr} {w w':World} {n:Int} (hb:Below w.heap.size w w'):∀ {l:List (ByteArray×Int)} {v:Value},ErrAt r w n l v→ErrAt r w' n l v
 | [],_,h=>h
 | (op,at_)::rest,v,⟨p,u,e,c0,c1,c2,h⟩=>by
  have k:∀ {i x},w.cell? ⟨p,i,none⟩=some x→w'.cell? ⟨p,i,none⟩=some x:=fun {i x} hc=>by
   rw [hb.cell (World.block_lt_of_cell? _ _ hc)]; exact hc
  exact ⟨p,u,e,k c0,k c1,k c2,ErrAt.below hb h⟩
theorem ErrIs.below {r:Nat→Addr} {w w':World} {t:PErr} {v:Value} (h:ErrIs r w t v) (hb:Below w.heap.size w w'):ErrIs r w' t v:=by
 match t,h with
 | none,h=>exact h
 | some (n,l),h=>exact ErrAt.below hb h
theorem ErrAt.shape {r:Nat→Addr} {w:World} {n:Int} {l:List (ByteArray×Int)} {v:Value} (h:ErrAt r w n l v):∃ T a,v=.iface T (.pointer (some a)):=by
 match l,h with
 | [],h=>exact ⟨_,_,h⟩
 | _::_,⟨p,u,e,_⟩=>exact ⟨_,_,e⟩
theorem ErrIs.none_eq {r:Nat→Addr} {w:World} {v:Value} (h:ErrIs r w none v):v=.nilIface:=h
theorem ErrIs.some_shape {r:Nat→Addr} {w:World} {t:Int×List (ByteArray×Int)} {v:Value} (h:ErrIs r w (some t) v):∃ T a,v=.iface T (.pointer (some a)):=ErrAt.shape h
theorem root_any (r:Nat→Addr) (n:Int) (w:World) (hg:Glob r w) (h1:1≤n) (h2:n≤11) :
 Calls Tryz.prog 34 #[.int .i64 n] w fun e w'=>e=.returned (rootV r n)∧w=w':=by
 obtain ⟨c1,c2,c3,c4,c5,c6,c7,c8,c9,c10,c11,_,_,_,_⟩:=hg
 have hn:n=1∨n=2∨n=3∨n=4∨n=5∨n=6∨n=7∨n=8∨n=9∨n=10∨n=11:=by omega
 rcases hn with rfl | rfl | rfl | rfl | rfl | rfl | rfl | rfl | rfl | rfl | rfl <;>
 (clear h1 h2
  go_enter Tryz.func34,Tryz.ntmps34
  go_wp2
  go_ret
  exact ⟨rfl,rfl⟩)
theorem new_any (r:Nat→Addr) (op:ByteArray) (at_ n:Int) (w:World) (hg:Glob r w) (h1:1≤n) (h2:n≤11) :
 Calls Tryz.prog 19 #[.string op,.int .i64 at_,.int .i64 n] w (Ret1 (fun v w'=>ErrIs r w' (fresh op at_ n) v) w):=by
 have hn:(n==0)=false:=by simp; omega
 go_enter Tryz.func19,Tryz.ntmps19
 go_wp2_with fail
 refine (root_any r n w hg h1 h2).mono ?_
 rintro e w' ⟨rfl,rfl⟩
 go_wp2
 go_ret
 refine ⟨_,rfl,(Below.refl _ _).alloc (Nat.le_refl _) _,w.heap.size,rootV r n,rfl,?_,?_,?_,rfl⟩<;>simp
theorem under_nil (op:ByteArray) (at_:Int) (w:World) :
 Calls Tryz.prog 147 #[.string op,.int .i64 at_,.nilIface] w fun e w'=>e=.returned .nilIface∧w=w':=by
 go_enter Tryz.func147,Tryz.ntmps147
 go_wp2
 go_ret
 exact ⟨rfl,rfl⟩
theorem under_any (r:Nat→Addr) (op:ByteArray) (at_:Int) (t:PErr) (v:Value) (w:World) (h:ErrIs r w t v) :
 Calls Tryz.prog 147 #[.string op,.int .i64 at_,v] w (Ret1 (fun u w'=>ErrIs r w' (under op at_ t) u) w):=by
 match t,h with
 | none,h =>
  obtain rfl:=h.none_eq
  exact (under_nil op at_ w).mono fun e w' ⟨he,hw⟩=>by subst hw; exact ⟨_,he,Below.refl _ _,rfl⟩
 | some t,h =>
  obtain ⟨T,a,rfl⟩:=h.some_shape
  have h':=Hd h
  clear h
  go_enter Tryz.func147,Tryz.ntmps147
  go_wp2
  go_ret
  refine ⟨_,rfl,(Below.refl _ _).alloc (Nat.le_refl _) _,w.heap.size,.iface T (.pointer (some a)),rfl,?_,?_,?_,ErrAt.below ((Below.refl _ _).alloc (Nat.le_refl _) _) h'.out⟩<;>simp
end Go.Proofs.YtindfaehjoileaaGreatDoor
namespace Go.Proofs.YtindfaehjoileaaGreatDoor
open Go.RowKit
def ValsAt (w:World) (v:Value) (vs:List Value):Prop :=
 ∃ a cap,v=.slice a vs.length cap∧vs.length≤cap∧cap≤maxLen∧(a=none→cap=0)∧∀ i (h:i<vs.length),w.cell? (valAt v i)=some vs[i]
theorem ValsAt.cell {w:World} {v:Value} {vs:List Value} (h:ValsAt w v vs) (i:Nat) (hi:i<vs.length):w.cell? (valAt v i)=some vs[i]:=by
 obtain ⟨a,cap,e,h1,h2,h3,h4⟩:=h
 exact h4 i hi
theorem ValsAt.len_le {w:World} {v:Value} {vs:List Value} (h:ValsAt w v vs):vs.length≤9223372036854775807:=by
 obtain ⟨a,cap,rfl,h1,h2,_⟩:=h
 unfold maxLen at h2; omega
theorem ValsAt.blk {w:World} {v:Value} {vs:List Value} (h:ValsAt w v vs) (i:Nat) (hi:i<vs.length):(valAt v i).block<w.heap.size :=
 World.block_lt_of_cell? _ _ (h.cell i hi)
theorem ValsAt.below {w w':World} {v:Value} {vs:List Value} (h:ValsAt w v vs) (hb:Below w.heap.size w w'):ValsAt w' v vs:=by
 have hk:=h.blk
 obtain ⟨a,cap,e,h1,h2,h3,h4⟩:=h
 exact ⟨a,cap,e,h1,h2,h3,fun i hi=>by rw [hb.cell (hk i hi)]; exact h4 i hi⟩
theorem ValsAt.cells_eq {w w':World} {v:Value} {vs:List Value} (h:ValsAt w v vs) (hc:∀ i,i<vs.length→w'.cell? (valAt v i)=w.cell? (valAt v i)):ValsAt w' v vs:=by
 obtain ⟨a,cap,e,h1,h2,h3,h4⟩:=h
 exact ⟨a,cap,e,h1,h2,h3,fun i hi=>by rw [hc i hi]; exact h4 i hi⟩
structure OneCell (T E:TypeId) (z:Value) (bytes:Nat):Prop where
 ht:Tryz.prog.underlying T=some (.slice E)
 hi:(Tryz.prog.info? E).map (fun i=>(i.zero,i.size,i.bytes))=some (some z,1,bytes)
 hz:z.cells=#[z]
 hb:bytes≤32
 hs:∀ w,(sizeOf E).run Tryz.prog w=.ok 1 w
theorem oneInts:OneCell 30 3 (.int .i64 0) 8:=⟨uInts,iInt,rfl,by decide,sInt⟩
theorem ValsAt.len {T E:TypeId} {z:Value} {b:Nat} (o:OneCell T E z b) {w:World} {v:Value} {vs:List Value} (h:ValsAt w v vs) (ty:TypeId) (w':World) :
 (Builtin.len_ #[T] ty #[v]).run Tryz.prog w'=.ok (.int .i64 vs.length) w':=by
 obtain ⟨a,cap,rfl,h1,h2,h3,h4⟩:=h
 have e:Tryz.prog.elem T=E:=by simp [Program.elem,o.ht]
 rw [run_len_slice _ _ _ _ _ _ (by rw [e]; exact o.ht)]
 rfl
theorem ValsAt.idx {T E:TypeId} {z:Value} {b:Nat} (o:OneCell T E z b) {w:World} {v:Value} {vs:List Value} (h:ValsAt w v vs) (i:Nat) (hi:i<vs.length) (w':World) :
 (Instr.indexAt T v (.int .i64 i)).run Tryz.prog w'=.ok (.pointer (some (valAt v i))) w':=by
 obtain ⟨a,cap,rfl,h1,h2,h3,h4⟩:=h
 have e:Tryz.prog.elem T=E:=by simp [Program.elem,o.ht]
 cases a with
 | none=>have:=h3 rfl; omega
 | some p =>
  rw [run_indexAt_slice _ _ _ _ _ _ _ (by rw [e]; exact o.ht),if_pos (by omega),e,o.hs]
  simp [valAt]
def OwnV (E:TypeId) (B:Nat) (w:World) (v:Value) (vs:List Value):Prop:=w.ownsRow B E 1 v vs.length vs
theorem OwnI.toV {B:Nat} {w:World} {v:Value} {xs:List Int} (h:OwnI B w v xs):OwnV 3 B w v (xs.map (Value.int .i64)):=by
 unfold OwnV; simpa [OwnI] using h
theorem OwnV.toI {B:Nat} {w:World} {v:Value} {xs:List Int} (h:OwnV 3 B w v (xs.map (Value.int .i64))):OwnI B w v xs:=by
 unfold OwnV at h; simpa [OwnI] using h
theorem OwnV.nil (E:TypeId) (B:Nat) (w:World):OwnV E B w (.slice none 0 0) []:=World.ownsRow_nil w B _ 1
theorem OwnV.at {E:TypeId} {B:Nat} {w:World} {v:Value} {vs:List Value} (h:OwnV E B w v vs):ValsAt w v vs:=by
 rcases h.2 with ⟨rfl,hn⟩ | ⟨g,cap,cur,rfl,hb,hg,hn,hm,hs,ht⟩
 ·obtain rfl:=List.length_eq_zero_iff.1 hn
  exact ⟨none,0,rfl,by simp,by simp,fun _=>rfl,by simp⟩
 ·refine ⟨some ⟨g,0,none⟩,cap,rfl,hn,hm,(by intro e; cases e),fun i hi=>?_⟩
  exact World.ownsRow.cells h (g:=g) rfl i _ (by simp [hi])
theorem OwnV.mono {E:TypeId} {B B':Nat} {w:World} {v:Value} {vs:List Value} (h:OwnV E B w v vs) (hB:B'≤B):OwnV E B' w v vs:=by
 refine ⟨h.1,?_⟩
 rcases h.2 with h2 | ⟨g,cap,cur,e,hb,r⟩
 ·exact .inl h2
 ·exact .inr ⟨g,cap,cur,e,Nat.le_trans hB hb,r⟩
theorem OwnV.lt {E:TypeId} {B:Nat} {w:World} {v:Value} {vs:List Value} (h:OwnV E B w v vs):∀ k,v.ownBlock=some k→B≤k∧k<w.heap.size:=World.ownsRow.lt h
theorem OwnV.frz {E:TypeId} {B:Nat} {w:World} {v:Value} {vs:List Value} (h:OwnV E B w v vs) (i:Nat) (hi:i<vs.length):w.frozen? (valAt v i)=false:=by
 rcases h.2 with ⟨rfl,hn⟩ | ⟨g,cap,cur,rfl,hb,hg,hn,hm,hs,ht⟩
 ·omega
 ·rw [valAt_row]; exact frozen_of_row w g i cur _ hg
theorem OwnV.blkB {E:TypeId} {B:Nat} {w:World} {v:Value} {vs:List Value} (h:OwnV E B w v vs) (i:Nat) (hi:i<vs.length):v.ownBlock=some (valAt v i).block∧B≤(valAt v i).block:=by
 rcases h.2 with ⟨rfl,hn⟩ | ⟨g,cap,cur,rfl,hb,hg,hn,hm,hs,ht⟩
 ·omega
 ·rw [valAt_row]; exact ⟨rfl,hb⟩
theorem OwnV.set {E:TypeId} {B:Nat} {w:World} {v:Value} {vs:List Value} (h:OwnV E B w v vs) (i:Nat) (hi:i<vs.length) (y:Value) :
 OwnV E B (w.setCell (valAt v i) y) v (vs.set i y):=by
 rcases h.2 with ⟨rfl,hn⟩ | ⟨g,cap,cur,rfl,hb,hg,hn,hm,hs,ht⟩
 ·omega
 ·rw [valAt_row]
  have:=(World.ownsRow.stored h i y).1
  unfold OwnV
  rw [List.length_set]
  exact this
theorem OwnV.setGrown {E:TypeId} {B:Nat} {w:World} {v:Value} {vs:List Value} (h:OwnV E B w v vs) (i:Nat) (hi:i<vs.length) (y:Value) :
 w.grownBy (w.setCell (valAt v i) y) v.ownBlock:=by
 have hb:=(h.blkB i hi).1
 exact ⟨rfl,rfl,rfl,by simp [World.setCell],fun k _ hk=>Below.heap_setCell _ _ _ _ (by rw [hb] at hk; simp at hk; omega)⟩
theorem OwnV.below {E:TypeId} {B:Nat} {w w':World} {v:Value} {vs:List Value} (h:OwnV E B w v vs) (hb:Below w.heap.size w w'):OwnV E B w' v vs:=by
 refine ⟨h.1,?_⟩
 rcases h.2 with h2 | ⟨g,cap,cur,e,hB,hg,r⟩
 ·exact .inl h2
 ·refine .inr ⟨g,cap,cur,e,hB,?_,r⟩
  rw [hb.block g (Array.getElem?_eq_some_iff.1 hg).1]; exact hg
theorem OwnV.kept {E:TypeId} {B:Nat} {w w':World} {row:Option Nat} {v:Value} {vs:List Value} (h:OwnV E B w v vs) (hg:w.grownBy w' row) (hne:v.ownBlock=none∨v.ownBlock≠row):OwnV E B w' v vs:=World.ownsRow.kept h hg hne
theorem OwnV.alloc {E:TypeId} {B:Nat} {w:World} {v:Value} {vs:List Value} (h:OwnV E B w v vs) (o:Obj):OwnV E B (w.alloc o) v vs:=World.ownsRow.alloc h o
theorem OwnV.shape {E:TypeId} {B:Nat} {w:World} {v:Value} {vs:List Value} (h:OwnV E B w v vs):∃ a n c,v=.slice a n c:=by
 obtain ⟨a,cap,e,_⟩:=h.at; exact ⟨_,_,_,e⟩
def roomOf (v:Value):Option Addr×Nat:=match v with | .slice a _ c=>(a,c) | _=>(none,0)
theorem OwnV.front {E:TypeId} {B:Nat} {w w':World} {v v':Value} {xs ys:List Value} (h:OwnV E B w v xs) (h':OwnV E B w' v' (xs++ys)) (hb:roomOf v'=roomOf v):OwnV E B w' v xs:=by
 rcases h.2 with ⟨rfl,hn⟩ | ⟨g,cap,cur,rfl,hB,hg,hn,hm,hs,ht⟩
 ·obtain rfl:=List.length_eq_zero_iff.1 hn
  exact OwnV.nil E B w'
 ·rcases h'.2 with ⟨rfl,_⟩ | ⟨g',cap',cur',rfl,hB',hg',hn',hm',hs',ht'⟩
  ·simp [roomOf] at hb
  ·simp [roomOf] at hb
   obtain ⟨rfl,rfl⟩:=hb
   refine ⟨by simp,.inr ⟨g',cap',cur',rfl,hB',hg',hn,hm',hs',?_⟩⟩
   have:=congrArg (List.take xs.length) ht'
   rw [List.take_take,List.take_left'] at this
   ·rw [Nat.mul_one] at this ⊢
    rwa [Nat.min_eq_left (by simp)] at this
   ·rfl
theorem ownBlock_of_room {v v':Value} {a n c a' n' c'} (hv:v=.slice a n c) (hv':v'=.slice a' n' c') (h:roomOf v'=roomOf v):v'.ownBlock=v.ownBlock:=by
 subst hv hv'
 simp [roomOf] at h
 obtain ⟨rfl,rfl⟩:=h
 cases a'<;>rfl
theorem run_app {T E:TypeId} {z:Value} {b:Nat} (o:OneCell T E z b) (w:World) (B:Nat) (ty:TypeId) (v:Value) (xs:List Value) (hown:OwnV E B w v xs)
 (a:Addr) (c:Nat) (ys:List Value) (h0:0<ys.length) (hys:∀ j u,ys[j]?=some u→w.cell? (a.add j)=some u) (h1:∀ u∈ys,u.oneCell'=true)
 (hlen:xs.length+ys.length≤4398046511104) (hB:B≤w.heap.size) :
 ∃ v' w',(Builtin.append_ #[T,T] ty #[v,.slice (some a) ys.length c]).run Tryz.prog w=.ok v' w'∧OwnV E B w' v' (xs++ys) ∧
  ((roomOf v'=roomOf v∧w.grownBy w' v.ownBlock)∨(v'.ownBlock=some w.heap.size∧w.grownBy w' none)):=by
 obtain ⟨i,hi,hz0,hz1,hz2⟩:=info_parts o.hi
 have hb:=o.hb
 have hl1:(xs++ys).length=(xs.length+ys.length)*1:=by simp
 have big:∀ (old:Nat),old<xs.length+ys.length →
  OwnV E B (w.drew.alloc (.cells (xs.toArray++ys.toArray++Builtin.zeroCells z.cells (grownCap w (xs.length+ys.length) old E-(xs.length+ys.length))) E)) (.slice (some ⟨w.heap.size,0,none⟩) (xs.length+ys.length) (grownCap w (xs.length+ys.length) old E)) (xs++ys):=by
  intro old ho
  have hge:=grownCap_ge w (xs.length+ys.length) old E
  have hcm:grownCap w (xs.length+ys.length) old E≤maxLen:=grownCap_le_maxLen w _ old E (by unfold maxLen; omega)
  refine ⟨by simp,.inr ⟨w.heap.size,_,_,by simp,hB,heap_alloc_new w.drew _,by simpa using hge,hcm,?_,?_⟩⟩
  ·simp only [Array.size_append,List.size_toArray,size_zeroCells,o.hz]
   simp
   omega
  ·simp only [Array.toList_append,Nat.mul_one,List.length_append]
   exact List.take_left' (by simp)
 have grw:∀ (oo:Obj),w.grownBy (w.drew.alloc oo) none:=fun oo=>⟨rfl,rfl,rfl,by simp,fun k hk _=>Below.heap_alloc w.drew oo k hk⟩
 rcases hown.2 with ⟨rfl,hn⟩ | ⟨g,cap,cur,rfl,hbg,hg,hnc,hcm,hcs,htake⟩
 ·obtain rfl:=List.length_eq_zero_iff.1 hn
  have hr:=run_append_nil (P:=Tryz.prog) w T ty E i z o.ht hi hz0 a ys.length c ys (by rw [hz1]; simp) hys h0 (by simp at hlen; omega) (by
   rw [hz2]
   simp only [List.length_nil,Nat.zero_add] at hlen
   calc ys.length*b≤4398046511104*32:=Nat.mul_le_mul hlen hb
    _≤_:=by decide)
  have hbg:=big 0 (by simpa using h0)
  simp only [List.length_nil,Nat.zero_add,List.nil_append,Array.empty_append] at hbg
  exact ⟨_,_,hr,by simpa using hbg,.inr ⟨rfl,grw _⟩⟩
 ·by_cases hroom:xs.length+ys.length≤cap
  ·have hr:=run_append_room (P:=Tryz.prog) w T ty E i o.ht hi g xs.length cap cur hg a ys.length c ys (by rw [hz1]; simp) hys h1 hroom (by rw [hz1,hcs]; omega)
   refine ⟨_,_,hr,⟨by simp,.inr ⟨g,cap,_,by simp,hbg,setRow_heap w g cur _ E _ hg,by simpa using hroom,hcm,?_,?_⟩⟩,.inl ⟨rfl,⟨rfl,rfl,rfl,by simp,fun k _ hk=>setRow_other w g k _ (fun e=>hk (by simp [Value.ownBlock,e]))⟩⟩⟩
   ·simp only [List.size_toArray,List.length_append,List.length_take,List.length_drop,Array.length_toList,hz1]
    omega
   ·rw [hz1,htake]
    simp only [Nat.mul_one,List.length_append]
    exact List.take_left' (by simp)
  ·have holds:∀ j u,xs[j]?=some u→w.cell? ((⟨g,0,none⟩:Addr).add j)=some u:=World.ownsRow.cells hown (g:=g) rfl
   have hr:=run_append_grow (P:=Tryz.prog) w T ty E i z o.ht hi hz0 ⟨g,0,none⟩ xs.length cap xs (by rw [hz1]; simp) holds a ys.length c ys (by rw [hz1]; simp) hys (by omega) (by omega) (by
    rw [hz2]
    exact growslice_fits (by omega) (by
     calc (xs.length+ys.length)*b≤4398046511104*32:=Nat.mul_le_mul hlen hb
      _≤_:=by decide))
   exact ⟨_,_,hr,big cap (by omega),.inr ⟨rfl,grw _⟩⟩
theorem wpl_app1 {w:World} {ops:Array Oper} {rest:List Oper} {o:Oper} {a:Act} {Q:Exit→Act→World→Prop} (hgd:o.guard=none) (s x:Operand)
 (ho:o.op=.call { callee:=.builtin .append,args:=#[s,x],argTypes:=#[30,30] })
 (B:Nat) (v:Value) (xs:List Int) (y:Int) (hown:OwnI B w v xs) (hs:a.eval s=v) (hx:a.eval x=.slice (some ⟨w.heap.size,0,none⟩) 1 1)
 (hlen:xs.length<4398046511104) (hB:B≤w.heap.size)
 (h:∀ v' w',OwnI B w' v' (xs++[y])→Below B w w'→((roomOf v'=roomOf v∧w.grownBy w' v.ownBlock)∨(∃ k,v'.ownBlock=some k∧w.heap.size≤k∧w.grownBy w' none))→wpList Tryz.prog ops Q rest (a.put o.dst v') w') :
 wpList Tryz.prog ops Q (o::rest) a (w.alloc (.cells #[.int .i64 y] 3)):=by
 refine wpList_plain hgd fun K hK=>?_
 obtain ⟨v',w',hr,h2,h3⟩:=run_app oneInts (w.alloc (.cells #[.int .i64 y] 3)) B o.type v _ (hown.alloc _).toV ⟨w.heap.size,0,none⟩ 1 [.int .i64 y] (by simp) (cell_one_new _ _ _) (by simp [Value.oneCell']) (by simp; omega) (by simp; omega)
 unfold Oper.wp execOp
 simp only [ho,resolve,invoke,builtin,Sem.run_bind,Sem.run_pure,Result.andThen_ok,List.map_toArray,List.map_cons,List.map_nil,hs,hx]
 rw [show ([.int .i64 y]:List Value).length=1 from rfl] at hr
 rw [hr]
 have hal:∀ row,w.grownBy (w.alloc (.cells #[.int .i64 y] 3)) row:=fun row=>World.grownBy_alloc w _ row
 have ho':OwnI B w' v' (xs++[y]):=OwnV.toI (by simpa using h2)
 rcases h3 with ⟨hroom,hg⟩ | ⟨hk,hg⟩
 ·have hg2:=(hal v.ownBlock).trans hg
  exact hK _ _ (h v' w' ho' ((Below.refl _ _).grown hg2 hB (fun k hk=>(hown.lt k hk).1)) (.inl ⟨hroom,hg2⟩))
 ·have hg2:=(hal none).trans hg
  exact hK _ _ (h v' w' ho' ((Below.refl _ _).grown hg2 hB (by intro k hk; cases hk)) (.inr ⟨_,hk,by simp,hg2⟩))
theorem oneLists:OneCell 178 30 (.slice none 0 0) 24:=⟨by kernel_rfl,by kernel_rfl,rfl,by decide,fun _=>by kernel_rfl⟩
theorem wpl_makeV {T E:TypeId} {z:Value} {b:Nat} (oc:OneCell T E z b) {w:World} {ops:Array Oper} {rest:List Oper} {o:Oper} {a:Act} {Q:Exit→Act→World→Prop}
 (hg:o.guard=none) (l c:Operand) (hop:o.op=Op.makeSlice T l c) (C:Int) (hl:a.eval l=.int .i64 C) (hc:a.eval c=.int .i64 C)
 (h0:0≤C) (hC:C≤4398046511104)
 (hK:∀ v w',OwnV E w.heap.size w' v (List.replicate C.toNat z)→w.grownBy w' none→wpList Tryz.prog ops Q rest (a.put o.dst v) w') :
 wpList Tryz.prog ops Q (o::rest) a w:=by
 obtain ⟨i,hi,hz0,hz1,hz2⟩:=info_parts oc.hi
 obtain ⟨n,rfl⟩:=Int.eq_ofNat_of_zero_le h0
 have hb:=oc.hb
 refine wpList_make_full w hg l c T hop w.heap.size E i z 1 oc.ht hi hz0 hz1 .i64 .i64 n n n hl hc rfl rfl (by
  rw [hz2]
  calc b*n≤32*4398046511104:=Nat.mul_le_mul hb (by omega)
   _≤_:=by decide) (by unfold maxLen; omega) (Nat.le_refl _) ?_
 intro w' hown hgrow
 refine hK _ _ ?_ hgrow
 rw [oc.hz,toList_madeCells_one] at hown
 simpa [OwnV] using hown
set_option maxRecDepth 100000
set_option maxHeartbeats 8000000
theorem oneStrs:OneCell 29 9 (.string ⟨#[]⟩) 16:=⟨by kernel_rfl,by kernel_rfl,rfl,by decide,fun _=>by kernel_rfl⟩
def EAt (w:World) (t:PErr) (v:Value):Prop :=
 match t with
 | none=>v=.agg #[.int .i64 0,.slice none 0 0,.slice none 0 0]
 | some (n,l)=>∃ a1 n1 c1 a2 n2 c2,v=.agg #[.int .i64 n,.slice a1 n1 c1,.slice a2 n2 c2]∧ValsAt w (.slice a1 n1 c1) (l.map fun x=>Value.string x.1)∧IntsAt w (.slice a2 n2 c2) (l.map (·.2))
theorem EAt.below {w w':World} {t:PErr} {v:Value} (h:EAt w t v) (hb:Below w.heap.size w w'):EAt w' t v:=by
 match t,h with
 | none,h=>exact h
 | some (n,l),⟨a1,n1,c1,a2,n2,c2,e,h1,h2⟩=>exact ⟨a1,n1,c1,a2,n2,c2,e,h1.below hb,h2.below hb⟩
def EOwn (B:Nat) (w:World) (t:PErr) (v:Value):Prop :=
 match t with
 | none=>v=.agg #[.int .i64 0,.slice none 0 0,.slice none 0 0]
 | some (n,l)=>∃ a1 n1 c1 a2 n2 c2,v=.agg #[.int .i64 n,.slice a1 n1 c1,.slice a2 n2 c2]∧OwnV 9 B w (.slice a1 n1 c1) (l.map fun x=>Value.string x.1)∧OwnV 3 B w (.slice a2 n2 c2) ((l.map (·.2)).map (Value.int .i64))
theorem OwnV.setBelowBase {E:TypeId} {B:Nat} {w:World} {v:Value} {vs:List Value} (h:OwnV E B w v vs) {a:Addr} (ha:a.block<B) (u:Value):OwnV E B (w.setCell a u) v vs:=ownsRow_setCell_below h ha u
theorem EOwn.at {B:Nat} {w:World} {t:PErr} {v:Value} (h:EOwn B w t v):EAt w t v:=by
 match t,h with
 | none,h=>exact h
 | some (n,l),⟨a1,n1,c1,a2,n2,c2,e,h1,h2⟩=>exact ⟨a1,n1,c1,a2,n2,c2,e,h1.at,OwnI.at (OwnV.toI h2)⟩
theorem EOwn.mono {B B':Nat} {w:World} {t:PErr} {v:Value} (h:EOwn B w t v) (hB:B'≤B):EOwn B' w t v:=by
 match t,h with
 | none,h=>exact h
 | some (n,l),⟨a1,n1,c1,a2,n2,c2,e,h1,h2⟩=>exact ⟨a1,n1,c1,a2,n2,c2,e,h1.mono hB,h2.mono hB⟩
theorem EOwn.below {B:Nat} {w w':World} {t:PErr} {v:Value} (h:EOwn B w t v) (hb:Below w.heap.size w w'):EOwn B w' t v:=by
 match t,h with
 | none,h=>exact h
 | some (n,l),⟨a1,n1,c1,a2,n2,c2,e,h1,h2⟩=>exact ⟨a1,n1,c1,a2,n2,c2,e,h1.below hb,h2.below hb⟩
theorem EOwn.set {B:Nat} {w:World} {t:PErr} {v:Value} (h:EOwn B w t v) {a:Addr} (ha:a.block<B) (u:Value):EOwn B (w.setCell a u) t v:=by
 match t,h with
 | none,h=>exact h
 | some (n,l),⟨a1,n1,c1,a2,n2,c2,e,h1,h2⟩=>exact ⟨a1,n1,c1,a2,n2,c2,e,h1.setBelowBase ha u,h2.setBelowBase ha u⟩
theorem EOwn.set3 {B b:Nat} {w:World} {t:PErr} {v:Value} (h:EOwn B w t v) (hb:b<B) (x y z:Value):EOwn B (((w.setCell ⟨b,0,none⟩ x).setCell ⟨b,1,none⟩ y).setCell ⟨b,2,none⟩ z) t v :=
 ((h.set (a:=⟨b,0,none⟩) hb x).set (a:=⟨b,1,none⟩) hb y).set (a:=⟨b,2,none⟩) hb z
theorem Below.set3 {B b:Nat} {w0 w:World} (h:Below B w0 w) (hb:B≤b) (x y z:Value):Below B w0 (((w.setCell ⟨b,0,none⟩ x).setCell ⟨b,1,none⟩ y).setCell ⟨b,2,none⟩ z) :=
 ((h.setCell (p:=⟨b,0,none⟩) hb x).setCell (p:=⟨b,1,none⟩) hb y).setCell (p:=⟨b,2,none⟩) hb z
theorem OwnV.lit {E:TypeId} (B:Nat) (w:World) (hB:B≤w.heap.size) (x:Value):OwnV E B (w.alloc (.cells #[x] E)) (.slice (some ⟨w.heap.size,0,none⟩) 1 1) [x] :=
 World.ownsRow_lit (base:=B) (e:=E) (size:=1) w #[x] 1 hB (by unfold maxLen; omega) rfl
theorem EAt.shape {w:World} {t:PErr} {v:Value} (h:EAt w t v):∃ n a1 n1 c1 a2 n2 c2,v=.agg #[.int .i64 n,.slice a1 n1 c1,.slice a2 n2 c2]:=by
 match t,h with
 | none,h=>exact ⟨0,none,0,0,none,0,0,h⟩
 | some (n,l),⟨a1,n1,c1,a2,n2,c2,e,_⟩=>exact ⟨n,a1,n1,c1,a2,n2,c2,e⟩
abbrev zErr:Value:=.agg #[.int .i64 0,.slice none 0 0,.slice none 0 0]
theorem EAt.none (w:World):EAt w none zErr:=rfl
theorem raw_root (r:Nat→Addr) (n:Int) (w:World) (hg:Glob r w) (h1:1≤n) (h2:n≤11) :
 Calls Tryz.prog 14 #[.int .i64 n] w fun e w'=>e=.returned (rootV r n)∧w=w':=by
 obtain ⟨c1,c2,c3,c4,c5,c6,c7,c8,c9,c10,c11,_,_,_,_⟩:=hg
 have hn:n=1∨n=2∨n=3∨n=4∨n=5∨n=6∨n=7∨n=8∨n=9∨n=10∨n=11:=by omega
 rcases hn with rfl | rfl | rfl | rfl | rfl | rfl | rfl | rfl | rfl | rfl | rfl <;>
 (clear h1 h2
  go_enter Tryz.func14,Tryz.ntmps14
  go_wp2
  go_ret
  exact ⟨rfl,rfl⟩)
theorem raw_new (op:ByteArray) (at_ n:Int) (w:World) :
 Calls Tryz.prog 7 #[.string op,.int .i64 at_,.int .i64 n] w (Ret1 (fun x w'=>EOwn w.heap.size w' (fresh op at_ n) x) w):=by
 go_enter Tryz.func7,Tryz.ntmps7
 go_wp2
 refine bodyPost_ret (v:=.agg #[.int .i64 n,.slice (some ⟨w.heap.size+1,0,none⟩) 1 1,.slice (some ⟨w.heap.size+1+1,0,none⟩) 1 1]) (by simp [results,Tryz.results7,go_sem]) rfl ⟨_,rfl,?_,?_⟩
 ·exact (((Below.refl _ _).alloc (Nat.le_refl _) _).alloc (by simp) _).alloc (by simp; omega) _
 ·have h1:=(OwnV.lit (E:=9) w.heap.size (w.alloc (.cells #[.int .i64 n,.slice (some ⟨w.heap.size+1,0,none⟩) 1 1,.slice (some ⟨w.heap.size+1+1,0,none⟩) 1 1] 32)) (by simp) (.string op)).alloc (.cells #[.int .i64 at_] 3)
  have h2:=OwnV.lit (E:=3) w.heap.size ((w.alloc (.cells #[.int .i64 n,.slice (some ⟨w.heap.size+1,0,none⟩) 1 1,.slice (some ⟨w.heap.size+1+1,0,none⟩) 1 1] 32)).alloc (.cells #[.string op] 9)) (by simp; omega) (.int .i64 at_)
  simp only [World.size_alloc] at h1 h2
  exact ⟨_,_,_,_,_,_,rfl,h1,h2⟩
theorem ValsAt.alloc {w:World} {v:Value} {vs:List Value} (h:ValsAt w v vs) (o:Obj):ValsAt (w.alloc o) v vs:=h.below ((Below.refl _ _).alloc (Nat.le_refl _) _)
theorem ValsAt.drew {w:World} {v:Value} {vs:List Value} (h:ValsAt w v vs):ValsAt w.drew v vs:=h
theorem ValsAt.split {w:World} {v:Value} {vs:List Value} (h:ValsAt w v vs):(v=.slice none 0 0∧vs=[])∨∃ p cap,v=.slice (some p) vs.length cap∧∀ j u,vs[j]?=some u→w.cell? (p.add j)=some u:=by
 obtain ⟨a,cap,rfl,h1,h2,h3,h4⟩:=h
 cases a with
 | none =>
  obtain rfl:=h3 rfl
  obtain rfl:=List.length_eq_zero_iff.1 (show vs.length=0 by omega)
  exact .inl ⟨rfl,rfl⟩
 | some p =>
  refine .inr ⟨p,cap,rfl,fun j u hj=>?_⟩
  have hjl:j<vs.length:=(List.getElem?_eq_some_iff.1 hj).1
  have:=h4 j hjl
  simp only [valAt] at this
  rw [this,← hj]; simp [hjl]
theorem IntsAt.alloc {w:World} {v:Value} {xs:List Int} (h:IntsAt w v xs) (o:Obj):IntsAt (w.alloc o) v xs:=h.below ((Below.refl _ _).alloc (Nat.le_refl _) _)
end Go.Proofs.YtindfaehjoileaaGreatDoor
namespace Go.Proofs.YtindfaehjoileaaGreatDoor
open Go.RowKit
set_option maxRecDepth 100000
theorem ValsAt.shape {w:World} {v:Value} {vs:List Value} (h:ValsAt w v vs):∃ a n c,v=.slice a n c:=by
 obtain ⟨a,cap,e,_⟩:=h; exact ⟨_,_,_,e⟩
theorem cell_keep {w w':World} {b i:Nat} {x:Value} (hb:Below w.heap.size w w') (h:w.cell? ⟨b,i,none⟩=some x):w'.cell? ⟨b,i,none⟩=some x :=
 (hb.cell (p:=⟨b,i,none⟩) (World.block_lt_of_cell? _ _ h)).trans h
def Box3 (w:World) (b:Nat) (x0 x1 x2:Value):Prop:=(w.cell? ⟨b,0,none⟩=some x0∧w.cell? ⟨b,1,none⟩=some x1∧w.cell? ⟨b,2,none⟩=some x2)∧w.frozen? ⟨b,0,none⟩=false∧w.frozen? ⟨b,1,none⟩=false∧w.frozen? ⟨b,2,none⟩=false
theorem Box3.below {w w':World} {b:Nat} {x0 x1 x2:Value} (h:Box3 w b x0 x1 x2) (hb:Below w.heap.size w w'):Box3 w' b x0 x1 x2:=by
 obtain ⟨⟨h0,h1,h2⟩,f0,f1,f2⟩:=h
 have hlt:=World.block_lt_of_cell? _ _ h0
 exact ⟨⟨cell_keep hb h0,cell_keep hb h1,cell_keep hb h2⟩,(hb.frozen (p:=⟨b,0,none⟩) hlt).trans f0,(hb.frozen (p:=⟨b,1,none⟩) hlt).trans f1,(hb.frozen (p:=⟨b,2,none⟩) hlt).trans f2⟩
theorem Box3.alloc {w:World} {b:Nat} {x0 x1 x2:Value} (h:Box3 w b x0 x1 x2) (o:Obj):Box3 (w.alloc o) b x0 x1 x2:=h.below ((Below.refl _ _).alloc (Nat.le_refl _) _)
theorem Box3.drew {w:World} {b:Nat} {x0 x1 x2:Value} (h:Box3 w b x0 x1 x2):Box3 w.drew b x0 x1 x2:=h
theorem OwnV.drew {E:TypeId} {B:Nat} {w:World} {v:Value} {vs:List Value} (h:OwnV E B w v vs):OwnV E B w.drew v vs:=h
theorem Below.stepL {w1 w2 w3:World} (h:Below w1.heap.size w1 w2) (k:Below w2.heap.size w2 w3):Below w1.heap.size w1 w3:=h.trans (k.mono h.size)
theorem belowAlloc' (w:World) (o:Obj):Below w.heap.size w (w.alloc o):=(Below.refl _ _).alloc (Nat.le_refl _) _
end Go.Proofs.YtindfaehjoileaaGreatDoor
namespace Go.Proofs.YtindfaehjoileaaGreatDoor
open Go.RowKit
theorem indexFunc_any (v b:Value) (F:Nat) (xs:List Int) (p:Int→Bool) (w:World) (h:IntsAt w v xs)
 (eg:∀ args w,(callFunc F args).run Tryz.prog w=.ok (.enter F args) w)
 (hF:∀ x:Int,x∈xs→Calls Tryz.prog F #[.int .i64 x,b] w fun e w'=>e=.returned (.bool (p x))∧w=w') :
 Calls Tryz.prog 293 #[v,.func (.func F) #[] #[b]] w fun e w'=>e=.returned (.int .i64 (idxOf p xs))∧w=w':=by
 have hlen:=h.len
 have hm:=h.len_le
 go_enter Tryz.func293,Tryz.ntmps293
 go_wp2
 go_loop [8] (fun i=>∃ k:Nat,k≤xs.length∧i=.int .i64 k∧∀ j (hj:j<xs.length),j<k→p xs[j]=false) (fun i=>xs.length-(intOf i).toNat)
 case atStart=>exact ⟨0,by omega,rfl,by omega⟩
 case round =>
  obtain ⟨k,hk,rfl,hp⟩:=hrel
  replace hp:=Hd hp
  by_cases hlt:k<xs.length
  ·have hi:=h.idx k hlt
   have hc:=h.cell k hlt
   have hf:=Hd (hF xs[k] (by simp))
   clear hF
   go_wp2_with fail
   refine hf.out.mono ?_
   rintro e w' ⟨rfl,rfl⟩
   cases hpk:p xs[k]
   ·have HP:=Hd hpk
    go_wp2
    go_round
    case rel =>
     refine ⟨k+1,by omega,by go_num,?_⟩
     intro j hj hjk
     by_cases e:j=k
     ·subst e; exact HP.out
     ·exact hp.out j hj (by omega)
    case measure=>simp [intOf]; omega
   ·have HP:=Hd hpk
    go_wp2
    go_ret
    exact ⟨ret_int (idxOf_at k hlt HP.out fun j hj h=>hp.out j hj h).symm,rfl⟩
  ·go_wp2
   go_ret
   refine ⟨ret_int (idxOf_neg fun x hx=>?_).symm,rfl⟩
   obtain ⟨j,hj,rfl⟩:=List.mem_iff_getElem.1 hx
   exact hp.out j hj (by omega)
theorem rule_wrong (r:Nat→Addr) (at_ n:Int) (w:World) (hg:Glob r w) (h1:1≤n) (h2:n≤11) :
 Calls Tryz.prog 143 #[.int .i64 at_,.int .i64 n] w (Ret1 (fun v w'=>ErrIs r w' (fresh sRule at_ n) v) w):=by
 go_enter Tryz.func143,Tryz.ntmps143
 go_wp2_with fail
 refine (new_any r _ at_ n w hg h1 h2).mono ?_
 rintro e w' ⟨v,rfl,hb,he⟩
 go_wp2
 go_ret
 exact ⟨_,rfl,hb,he⟩
theorem rule_odd1 (x k:Int) (b:Addr) (w:World) (hb:w.cell? b=some (.int .i64 k)) :
 Calls Tryz.prog 297 #[.int .i64 x,.pointer (some b)] w fun e w'=>e=.returned (.bool (odd1 k x))∧w=w':=by
 by_cases h:x<0
 ·have e:odd1 k x=true:=by simp [odd1,h]
  rw [e]
  go_enter Tryz.func297,Tryz.ntmps297
  go_wp2
  go_ret
  exact ⟨rfl,rfl⟩
 ·have e:odd1 k x=decide (k≤x):=by simp [odd1,h]
  rw [e]
  go_enter Tryz.func297,Tryz.ntmps297
  go_wp2
  go_ret
  exact ⟨ret_bool (by simp),rfl⟩
theorem eg_rule_odd1 (args:Array Value) (w:World):(callFunc 297 args).run Tryz.prog w=.ok (.enter 297 args) w:=by kernel_rfl
theorem rule_odd (k:Int) (v:Value) (xs:List Int) (w:World) (h:IntsAt w v xs) :
 Calls Tryz.prog 200 #[.int .i64 k,v] w (Ret1 (fun x _=>x=.int .i64 (idxOf (odd1 k) xs)) w):=by
 have h':=Hd h
 clear h
 go_enter Tryz.func200,Tryz.ntmps200
 go_wp2_with fail
 refine (indexFunc_any v _ 297 xs (odd1 k) _ (h'.out.below ((Below.refl _ _).alloc (Nat.le_refl _) _)) eg_rule_odd1 (fun x _=>rule_odd1 x k _ _ (by simp))).mono ?_
 rintro e w' ⟨rfl,rfl⟩
 go_wp2
 go_ret
 exact ⟨_,rfl,(Below.refl _ _).alloc (Nat.le_refl _) _,rfl⟩
theorem size_ok (K R:Nat) (w:World) (h1:1≤K) (h4:K≤4) (h3:R≤3) :
 Calls Tryz.prog 145 #[.int .i64 K,.int .i64 R] w fun e w'=>e=.returned (.tuple #[.int .i64 (pw K (2*R+1)),.nilIface])∧w=w':=by
 go_enter Tryz.func145,Tryz.ntmps145
 go_wp2
 go_loop [6,25] (fun n i=>∃ k:Nat,k≤2*R∧i=.int .i64 k∧n=.int .i64 (pw K (k+1))) (fun _ i=>2*R-(intOf i).toNat)
 case atStart=>exact ⟨0,by omega,rfl,by rw [pw_one]⟩
 case round =>
  obtain ⟨k,hk,rfl,rfl⟩:=hrel
  by_cases hlt:k<2*R
  ·have hb:=pw_le (i:=k+1+1) h1 h4 (by omega)
   have hs:((pw K (k+1+1):Nat):Int)=(pw K (k+1):Int)*(K:Int):=by rw [pw_succ]; simp
   have hb1:0≤(pw K (k+1):Int)*(K:Int):=by rw [← hs]; omega
   have hb2:(pw K (k+1):Int)*(K:Int)≤16384:=by rw [← hs]; omega
   replace hs:=Hd hs
   go_wp2
   go_round
   case rel=>exact ⟨k+1,by omega,by go_num,by rw [hs.out]⟩
   case measure=>simp [intOf]; omega
  ·obtain rfl:k=2*R:=by omega
   go_wp2
   go_ret2
   exact ⟨rfl,rfl⟩
theorem size_bad (r:Nat→Addr) (k R:Int) (w:World) (hg:Glob r w) (h:k<1∨4<k∨R<0∨3<R) :
 Calls Tryz.prog 145 #[.int .i64 k,.int .i64 R] w (Ret2 (fun x y w'=>x=.int .i64 0∧ErrIs r w' (fresh sRule 0 3) y) w):=by
 have hg':=Hd hg
 clear hg
 by_cases h1:k<1
 ·clear h
  go_enter Tryz.func145,Tryz.ntmps145
  go_wp2_with fail
  refine (rule_wrong r _ _ w hg'.out (by decide) (by decide)).mono ?_
  rintro e w' ⟨v,rfl,hb,he⟩
  go_wp2
  go_ret2
  exact ⟨_,_,rfl,hb,rfl,he⟩
 by_cases h2:4<k
 ·clear h
  go_enter Tryz.func145,Tryz.ntmps145
  go_wp2_with fail
  refine (rule_wrong r _ _ w hg'.out (by decide) (by decide)).mono ?_
  rintro e w' ⟨v,rfl,hb,he⟩
  go_wp2
  go_ret2
  exact ⟨_,_,rfl,hb,rfl,he⟩
 by_cases h3:R<0
 ·clear h
  go_enter Tryz.func145,Tryz.ntmps145
  go_wp2_with fail
  refine (rule_wrong r _ _ w hg'.out (by decide) (by decide)).mono ?_
  rintro e w' ⟨v,rfl,hb,he⟩
  go_wp2
  go_ret2
  exact ⟨_,_,rfl,hb,rfl,he⟩
 have h4:3<R:=by omega
 clear h
 go_enter Tryz.func145,Tryz.ntmps145
 go_wp2_with fail
 refine (rule_wrong r _ _ w hg'.out (by decide) (by decide)).mono ?_
 rintro e w' ⟨v,rfl,hb,he⟩
 go_wp2
 go_ret2
 exact ⟨_,_,rfl,hb,rfl,he⟩
set_option maxRecDepth 100000
def RetB (b:Bool) (w:World) (e:Ending) (w':World):Prop:=∃ n:Nat,e=.returned (.bool b)∧w'=w.drewN n
theorem RetB.below {b:Bool} {w w':World} {e:Ending} (h:RetB b w e w'):e=.returned (.bool b)∧Below w.heap.size w w':=by
 obtain ⟨n,he,rfl⟩:=h
 exact ⟨he,below_drewN (Below.refl _ _) n⟩
theorem IntsAt.split {w:World} {v:Value} {xs:List Int} (h:IntsAt w v xs):(v=.slice none 0 0∧xs=[])∨∃ p cap,v=.slice (some p) xs.length cap:=by
 obtain ⟨a,cap,rfl,h1,h2,h3,h4⟩:=h
 cases a with
 | none =>
  obtain rfl:=h3 rfl
  obtain rfl:=List.length_eq_zero_iff.1 (show xs.length=0 by omega)
  exact .inl ⟨rfl,rfl⟩
 | some p=>exact .inr ⟨p,cap,rfl⟩
theorem clone_any (v:Value) (xs:List Int) (w:World) (h:IntsAt w v xs) (hl:xs.length≤17592186044416) :
 Calls Tryz.prog 180 #[v] w (Ret1 (fun x w'=>OwnI w.heap.size w' x xs) w):=by
 rcases h.split with ⟨rfl,rfl⟩ | ⟨p,cap,rfl⟩
 ·have hn:=fun w'=>Lib.run_eql_slice_nil (P:=Tryz.prog) w' _ _ none 0 0 0 0 uInts
  clear h
  go_enter Tryz.func180,Tryz.ntmps180
  go_wp2
  go_ret
  exact ⟨_,rfl,Below.refl _ _,OwnI.nil _ _⟩
 ·have hn:=fun w'=>Lib.run_eql_slice_nil (P:=Tryz.prog) w' _ _ (some p) xs.length cap 0 0 uInts
  have h':=Hd h
  clear h
  go_enter Tryz.func180,Tryz.ntmps180
  go_wp2_with (at_builtin; refine wpl_append rfl _ _ rfl w.heap.size _ _ [] xs (OwnI.lit _ _ (Nat.le_refl _) [] (by decide) #[] rfl 0 rfl) (h'.out.below ((Below.refl _ _).alloc (Nat.le_refl _) _)) rfl rfl (by simpa using hl) (by simp) ?_)
  intro v' w' ho hb _ _
  go_wp2
  go_ret
  exact ⟨_,rfl,((Below.refl _ _).alloc (Nat.le_refl _) _).trans hb,by simpa using ho⟩
theorem sizeInt1:(Tryz.prog.info? 3).map (·.size)=some 1:=by kernel_rfl
theorem splice_take {α:Type} (C ys:List α) (off n:Nat) (h:off+ys.length≤n) (hn:n≤C.length) :
 (C.take off++ys++C.drop (off+ys.length)).take n=(C.take n).take off++ys++(C.take n).drop (off+ys.length):=by
 have hl:(C.take off++ys).length=off+ys.length:=by simp; omega
 rw [List.take_append,List.take_of_length_le (by omega),hl,List.drop_take,List.take_take,Nat.min_eq_left (by omega)]
def preV (v:Value) (h:Nat):Value:=match v with | .slice a _ c=>.slice a h c | v=>v
theorem preV_at (v:Value) (h i:Nat):valAt (preV v h) i=valAt v i:=by
 cases v with
 | slice a n c=>cases a<;>rfl
 | _=>rfl
theorem IntsAt.pre {w:World} {v:Value} {xs:List Int} (h:IntsAt w v xs) (k:Nat) (hk:k≤xs.length):IntsAt w (preV v k) (xs.take k):=by
 obtain ⟨a,cap,rfl,h1,h2,h3,h4⟩:=h
 have hl:(xs.take k).length=k:=by simp; omega
 refine ⟨a,cap,by rw [hl]; rfl,by omega,h2,h3,fun i hi=>?_⟩
 rw [preV_at,h4 i (by omega)]
 simp
def LentI (B:Nat) (w:World) (m:Value) (xs:List Int):Prop:=∃ v,m=preV v xs.length∧OwnI B w v (xs++[7001,7002])
theorem LentI.at {B:Nat} {w:World} {m:Value} {xs:List Int} (h:LentI B w m xs):IntsAt w m xs:=by
 obtain ⟨v,rfl,ho⟩:=h
 have:=ho.at.pre xs.length (by simp)
 rwa [List.take_left'] at this
 rfl
theorem LentI.below {B:Nat} {w w':World} {m:Value} {xs:List Int} (h:LentI B w m xs) (hb:Below w.heap.size w w'):LentI B w' m xs:=by
 obtain ⟨v,e,ho⟩:=h
 exact ⟨v,e,ho.below hb⟩
theorem OwnI.belowB {B B':Nat} {w w':World} {v:Value} {xs:List Int} (h:OwnI B w v xs) (hb:Below B' w w') (hlt:∀ k,v.ownBlock=some k→k<B'):OwnI B w' v xs:=by
 refine ⟨h.1,?_⟩
 rcases h.2 with h2 | ⟨g,cap,cur,rfl,hB,hg,r⟩
 ·exact .inl h2
 ·exact .inr ⟨g,cap,cur,rfl,hB,by rw [hb.block g (hlt g rfl)]; exact hg,r⟩
theorem LentI.belowB {B B':Nat} {w0 w w':World} {m:Value} {xs:List Int} (h:LentI B w m xs) (h0:LentI B w0 m xs) (hs:w0.heap.size≤B') (hb:Below B' w w'):LentI B w' m xs:=by
 obtain ⟨v,rfl,ho⟩:=h
 obtain ⟨v0,e0,ho0⟩:=h0
 refine ⟨v,rfl,ho.belowB hb fun k hk=>?_⟩
 have hbk:v0.ownBlock=v.ownBlock:=by
  obtain ⟨a,n,c,rfl⟩:=ho.at.shape
  obtain ⟨a',n',c',rfl⟩:=ho0.at.shape
  simp [preV] at e0
  obtain ⟨rfl,rfl⟩:=e0
  cases a<;>rfl
 have:=(ho0.lt k (hbk.trans hk)).2
 omega
end Go.Proofs.YtindfaehjoileaaGreatDoor
namespace Go.Proofs.YtindfaehjoileaaGreatDoor
theorem take_snoc (l:List Int) (k:Nat) (h:k<l.length):l.take (k+1)=l.take k++[l[k]]:=by rw [List.take_succ_eq_append_getElem h]
def numP (k:Int) (f:List Int) (from_:Int):PErr:=if idxOf (odd1 k) f=-1 then none else fresh sAdditive (from_+idxOf (odd1 k) f) 2
theorem Syms.num {k:Int} {f:List Int} (h:Syms k f) (a:Int):numP k f a=none:=by rw [numP,if_pos h.odd]
def cnt (p:Int) (f:List Int):Nat:=f.countP fun x=>x%p != 0
theorem Syms.getD {K:Int} {xs:List Int} (hK:0<K) (h:Syms K xs) (i:Nat):0≤xs.getD i 0∧xs.getD i 0<K:=by
 by_cases c:i<xs.length
 ·simp only [List.getD,List.getElem?_eq_getElem c,Option.getD_some]
  exact h _ (by simp)
 ·simp only [List.getD,List.getElem?_eq_none (Nat.le_of_not_lt c),Option.getD_none]
  omega
def fitP (T:List Int) (rest W:Nat) (image:Int):Nat→Nat→Nat
 | 0,_=>0
 | n+1,s=>if T.getD (rest+s*W) 0=image then s else fitP T rest W image n (s+1)
def fit (K:Nat) (T:List Int) (rest W:Nat) (image:Int):Nat:=fitP T rest W image K 0
def numW (K:Nat) (xs:List Int):Nat:=xs.foldl (fun n x=>n*K+x.toNat) 0
theorem numW_snoc (K:Nat) (xs:List Int) (x:Int):numW K (xs++[x])=numW K xs*K+x.toNat:=by simp [numW]
theorem numW_lt {K:Nat} (xs:List Int) (h:Syms K xs):numW K xs<pw K xs.length:=by
 suffices H:∀ ys zs,xs=ys++zs→numW K ys<pw K ys.length from H xs [] (by simp)
 intro ys
 induction hn:ys.length generalizing ys with
 | zero=>intro zs _; have:=List.eq_nil_of_length_eq_zero hn; subst this; simp [numW,pw]
 | succ n ih =>
  intro zs e
  have hne:ys≠[]:=by intro e; subst e; simp at hn
  obtain ⟨b,x,rfl⟩:∃ b x,ys=b++[x]:=⟨ys.dropLast,ys.getLast hne,(List.dropLast_concat_getLast hne).symm⟩
  have hb:b.length=n:=by simpa using hn
  have h1:=ih b hb ([x]++zs) (by rw [e]; simp)
  have hx:=h x (by rw [e]; simp)
  rw [numW_snoc,pw_succ]
  have:(numW K b+1)*K≤pw K n*K:=Nat.mul_le_mul_right _ (by omega)
  rw [Nat.succ_mul] at this
  omega
theorem RuleOk.half {K R:Nat} {xs:List Int} (h:RuleOk K R xs):xs.length/K=pw K (2*R)∧xs.length=pw K (2*R)*K:=by
 have e:=h.len
 rw [pw_succ] at e
 have:=h.k1
 exact ⟨by rw [e,Nat.mul_div_cancel _ (by omega)],e⟩
def digs (K:Nat):Nat→Nat→List Int
 | 0,_=>[]
 | n+1,x=>digs K n (x/K)++[((x%K:Nat):Int)]
theorem digs_length (K n x:Nat):(digs K n x).length=n:=by
 induction n generalizing x with
 | zero=>rfl
 | succ n ih=>simp [digs,ih]
theorem digs_syms {K:Nat} (hK:1≤K) (n x:Nat):Syms K (digs K n x):=by
 induction n generalizing x with
 | zero=>intro y hy; simp [digs] at hy
 | succ n ih =>
  intro y hy
  rw [digs,List.mem_append,List.mem_singleton] at hy
  rcases hy with hy | rfl
  ·exact ih _ y hy
  ·have:=Nat.mod_lt x (show 0<K by omega); omega
theorem numW_digs {K:Nat} (hK:1≤K) (n x:Nat) (hx:x<pw K n):numW K (digs K n x)=x:=by
 induction n generalizing x with
 | zero=>simp [pw] at hx; subst hx; rfl
 | succ n ih =>
  rw [digs,numW_snoc,ih _ (by rw [Nat.div_lt_iff_lt_mul (by omega),← pw_succ]; exact hx),Int.toNat_natCast]
  exact Nat.div_add_mod' x K
def imgP (K R:Nat) (T:List Int) (w:List Int):List Int:=(List.range (w.length-2*R)).map fun i=>T.getD (numW K ((w.drop i).take (2*R+1))) 0
theorem imgP_length (K R:Nat) (T w:List Int):(imgP K R T w).length=w.length-2*R:=by simp [imgP]
theorem imgP_getD (K R:Nat) (T w:List Int) (i:Nat) (hi:i<w.length-2*R):(imgP K R T w).getD i 0=T.getD (numW K ((w.drop i).take (2*R+1))) 0:=by
 simp [imgP,List.getD,hi]
theorem numW_append (K:Nat) (u v:List Int):numW K (u++v)=numW K u*pw K v.length+numW K v:=by
 induction hn:v.length generalizing v with
 | zero =>
  obtain rfl:=List.eq_nil_of_length_eq_zero hn
  simp [numW,pw]
 | succ n ih =>
  have hne:v≠[]:=by intro e; subst e; simp at hn
  obtain ⟨b,x,rfl⟩:∃ b x,v=b++[x]:=⟨v.dropLast,v.getLast hne,(List.dropLast_concat_getLast hne).symm⟩
  have hb:b.length=n:=by simpa using hn
  rw [← List.append_assoc,numW_snoc,numW_snoc,ih b hb,pw_succ,Nat.add_mul,Nat.mul_assoc]
  omega
theorem numW_mod {K:Nat} {u v:List Int} (h:Syms K v):numW K (u++v)%pw K v.length=numW K v:=by
 rw [numW_append,Nat.mul_comm,Nat.mul_add_mod,Nat.mod_eq_of_lt (numW_lt v h)]
theorem digs_getD (K n x j:Nat) (hj:j<n):(digs K n x).getD (n-1-j) 0=((x/pw K j%K:Nat):Int):=by
 induction n generalizing x j with
 | zero=>omega
 | succ n ih =>
  rw [digs]
  cases j with
  | zero =>
   rw [pw_zero,Nat.div_one,show n+1-1-0=(digs K n (x/K)).length by rw [digs_length]; omega]
   simp [List.getD]
  | succ j =>
   have h:=ih (x/K) j (by omega)
   have hl:n+1-1-(j+1)<(digs K n (x/K)).length:=by rw [digs_length]; omega
   simp only [List.getD,List.getElem?_append_left hl] at h ⊢
   rw [show n+1-1-(j+1)=n-1-j by omega,h,pw_succ,Nat.div_div_eq_div_mul,Nat.mul_comm]
theorem digs_fill (K n x j:Nat) (hj:j<n) (p:List Int) (hp:p.length=n) :
 (p.take (n-j)++(digs K n x).drop (n-j)).set (n-1-j) ((x/pw K j%K:Nat):Int)=p.take (n-(j+1))++(digs K n x).drop (n-(j+1)):=by
 have hd:=digs_getD K n x j hj
 have hdl:=digs_length K n x
 rw [show n-(j+1)=n-1-j by omega,show n-j=n-1-j+1 by omega]
 have hm:n-1-j<n:=by omega
 generalize n-1-j=m at hd hm
 rw [← hd,take_snoc p m (by omega),List.drop_eq_getElem_cons (show m<(digs K n x).length by omega),List.append_assoc,List.set_append_right _ _ (by simp; omega)]
 have e:m-(p.take m).length=0:=by simp; omega
 rw [e]
 simp [List.getD,show m<(digs K n x).length by omega]
open Go.RowKit
set_option maxRecDepth 100000
def mkA (t:Nat):Int:=-2*(t:Int)-1
def mkB (t:Nat):Int:=-2*(t:Int)-2
def vAt (vs:List Value) (t:Nat):Value:=vs.getD t undef
theorem ValsAt.cellV {w:World} {v:Value} {vs:List Value} (h:ValsAt w v vs) (i:Nat) (hi:i<vs.length):w.cell? (valAt v i)=some (vAt vs i):=by
 rw [h.cell i hi]; simp [vAt,List.getD,hi]
structure Parted (lv:Value) (vs:List Value):Prop where
 two:∀ s t,s<vs.length→t<vs.length→s≠t→(vAt vs s).ownBlock=none∨(vAt vs s).ownBlock≠(vAt vs t).ownBlock
 top:∀ i t,i<vs.length→t<vs.length→(vAt vs t).ownBlock≠some (valAt lv i).block
theorem ValsAt.grown {w w':World} {row:Option Nat} {v:Value} {vs:List Value} (h:ValsAt w v vs) (hg:w.grownBy w' row) (hne:∀ i,i<vs.length→row≠some (valAt v i).block):ValsAt w' v vs :=
 h.cells_eq fun i hi=>World.cell?_of_block (hg.block _ (h.blk i hi) (fun e=>hne i hi e.symm))
def rA (X:Nat→List Int) (t:Nat):List Int:=List.replicate (X t).length (mkA t)
def rB (X:Nat→List Int) (t:Nat) (j:Nat):List Int:=rA X t++List.replicate j (mkB t)
theorem rB_zero (X:Nat→List Int) (t:Nat):rB X t 0=rA X t:=by simp [rB]
theorem rB_succ (X:Nat→List Int) (t j:Nat):rB X t (j+1)=rB X t j++[mkB t]:=by simp [rB,List.replicate_succ']
theorem grownBy_trans' {a b c:World} {row row':Option Nat} (h:a.grownBy b row) (k:b.grownBy c row') (hr:∀ i,row'=some i→a.heap.size≤i):a.grownBy c row :=
 ⟨k.os.trans h.os,k.tape.trans h.tape,k.output.trans h.output,Nat.le_trans h.size k.size,fun i hi hne=>(k.block i (Nat.lt_of_lt_of_le hi h.size) (fun e=>by have:=hr i e.symm; omega)).trans (h.block i hi hne)⟩
theorem OwnI.front {B:Nat} {w w':World} {v v':Value} {xs ys:List Int} (h:OwnI B w v xs) (h':OwnI B w' v' (xs++ys)) (hb:roomOf v'=roomOf v):OwnI B w' v xs :=
 OwnV.toI (OwnV.front h.toV (by simpa using h'.toV) hb)
theorem ownBlock_eq {B B':Nat} {w w':World} {v v':Value} {xs ys:List Int} (h:OwnI B w v xs) (h':OwnI B' w' v' ys) (hr:roomOf v'=roomOf v):v'.ownBlock=v.ownBlock:=by
 obtain ⟨a,n,c,e⟩:=h.at.shape
 obtain ⟨a',n',c',e'⟩:=h'.at.shape
 exact ownBlock_of_room e e' hr
structure Grows (B:Nat) (X:Nat→List Int) (k:Nat) (v:Value) (wi:World) (q:Nat) (g:Value) (wr:World):Prop where
 own:OwnI B wr g (rB X k q)
 old:OwnI B wr v (rA X k)
 step:wi.grownBy wr v.ownBlock
 lt:∀ b,v.ownBlock=some b→b<wi.heap.size
 at_:(roomOf g=roomOf v)∨∃ b,g.ownBlock=some b∧wi.heap.size≤b
theorem Grows.start {B:Nat} {X:Nat→List Int} {k:Nat} {v:Value} {wi:World} (h:OwnI B wi v (rA X k)):Grows B X k v wi 0 v wi :=
 ⟨by rw [rB_zero]; exact h,h,World.grownBy.refl _ _,fun b hb=>(h.lt b hb).2,.inl rfl⟩
theorem Grows.next {B:Nat} {X:Nat→List Int} {k:Nat} {v:Value} {wi:World} {q:Nat} {g:Value} {wr:World} (h:Grows B X k v wi q g wr) {g':Value} {w':World}
 (ho:OwnI B w' g' (rB X k q++[mkB k])) (ha:(roomOf g'=roomOf g∧wr.grownBy w' g.ownBlock)∨(∃ b,g'.ownBlock=some b∧wr.heap.size≤b∧wr.grownBy w' none)):Grows B X k v wi (q+1) g' w':=by
 rw [← rB_succ] at ho
 have hsz:=h.step.size
 rcases ha with ⟨hr,hg⟩ | ⟨b,hb,hlt,hg⟩
 ·rcases h.at_ with hat | ⟨b0,hb0,hlt0⟩
  ·have e:=ownBlock_eq h.old h.own hat
   rw [e] at hg
   exact ⟨ho,OwnI.front h.old (ys:=List.replicate (q+1) (mkB k)) ho (hr.trans hat),h.step.trans hg,h.lt,.inl (hr.trans hat)⟩
  ·have e:=ownBlock_eq h.own ho hr
   have hne:v.ownBlock=none∨v.ownBlock≠g.ownBlock:=by
    cases hv:v.ownBlock with
    | none=>exact .inl rfl
    | some kv =>
     right
     rw [hb0]
     intro e2
     simp at e2
     have:=h.lt kv hv
     omega
   exact ⟨ho,h.old.kept hg hne,grownBy_trans' h.step hg (fun i hi=>by rw [hb0] at hi; simp at hi; omega),h.lt,.inr ⟨b0,by rw [e]; exact hb0,hlt0⟩⟩
 ·exact ⟨ho,h.old.kept hg (by cases hv:v.ownBlock<;>simp),grownBy_trans' h.step hg (by intro i hi; cases hi),h.lt,.inr ⟨b,hb,by omega⟩⟩
structure Grown (B:Nat) (X:Nat→List Int) (vs:List Value) (gv:Value) (k:Nat) (gl:List Value) (wr:World):Prop where
 own:∀ t,t<k→OwnI B wr (vAt gl t) (rB X t 40)
 far:∀ t s,t<k→s<vs.length→s≠t→(vAt vs s).ownBlock=none∨(vAt gl t).ownBlock≠(vAt vs s).ownBlock
 top:∀ t,t<k→(vAt gl t).ownBlock≠gv.ownBlock
end Go.Proofs.YtindfaehjoileaaGreatDoor
namespace Go.Proofs.YtindfaehjoileaaGreatDoor
open Go.RowKit
theorem Below.step {w1 w2 w3:World} (h:Below w1.heap.size w1 w2) (k:Below w2.heap.size w2 w3):Below w1.heap.size w1 w3:=h.trans (k.mono h.size)
theorem belowAlloc (w:World) (o:Obj):Below w.heap.size w (w.alloc o):=(Below.refl _ _).alloc (Nat.le_refl _) _
def Owns (w:World):Nat→List Value→List (List Int)→Prop
 | lo,[],[]=>lo≤w.heap.size
 | lo,v::vs,x::xs=>∃ hi,lo≤hi∧OwnI lo w v x∧(∀ k,v.ownBlock=some k→k<hi)∧Owns w hi vs xs
 | _,_,_=>False
theorem Owns.get {w:World}:∀ {vs:List Value} {xs:List (List Int)} {lo:Nat},Owns w lo vs xs→vs.length=xs.length∧∀ t,t<vs.length→OwnI lo w (vAt vs t) (xs.getD t [])
 | [],[],_,_=>⟨rfl,by intro t h; simp at h⟩
 | v::vs,x::xs,lo,⟨hi,hle,ho,_,hr⟩=>by
  obtain ⟨hl,hg⟩:=Owns.get hr
  refine ⟨by simp [hl],fun t ht=>?_⟩
  cases t with
  | zero=>exact ho
  | succ t=>exact (hg t (by simpa using ht)).mono hle
 | [],_::_,_,h=>h.elim
 | _::_,[],_,h=>h.elim
theorem Owns.two {w:World}:∀ {vs:List Value} {xs:List (List Int)} {lo:Nat},Owns w lo vs xs→∀ s t,s<vs.length→t<vs.length→s≠t→(vAt vs s).ownBlock=none∨(vAt vs s).ownBlock≠(vAt vs t).ownBlock
 | [],[],_,_,s,t,hs,_,_=>by simp at hs
 | v::vs,x::xs,lo,⟨hi,hle,ho,hlt,hr⟩,s,t,hs,ht,hne=>by
  have hg:=(Owns.get hr).2
  have key:∀ t,t<vs.length→∀ k,v.ownBlock=some k→(vAt vs t).ownBlock≠some k:=fun t ht k hk e=>by
   have h1:=hlt k hk
   have h2:=((hg t ht).lt k e).1
   omega
  match s,t,hs,ht,hne with
  | 0,0,_,_,hne=>exact absurd rfl hne
  | 0,t+1,_,ht,_ =>
   show v.ownBlock=none∨v.ownBlock≠(vAt vs t).ownBlock
   cases hk:v.ownBlock with
   | none=>exact .inl rfl
   | some k=>exact .inr fun e=>key t (by simpa using ht) k hk e.symm
  | s+1,0,hs,_,_ =>
   show (vAt vs s).ownBlock=none∨(vAt vs s).ownBlock≠v.ownBlock
   cases hk:v.ownBlock with
   | none=>cases (vAt vs s).ownBlock<;>simp
   | some k=>exact .inr (key s (by simpa using hs) k hk)
  | s+1,t+1,hs,ht,hne=>exact Owns.two hr s t (by simpa using hs) (by simpa using ht) (by omega)
 | [],_::_,_,h,_,_,_,_,_=>h.elim
 | _::_,[],_,h,_,_,_,_,_=>h.elim
theorem Owns.alloc {w:World} (o:Obj):∀ {vs:List Value} {xs:List (List Int)} {lo:Nat},Owns w lo vs xs→Owns (w.alloc o) lo vs xs
 | [],[],lo,h=>by show lo≤(w.alloc o).heap.size; have:lo≤w.heap.size:=h; simp; omega
 | v::vs,x::xs,lo,⟨hi,hle,ho,hlt,hr⟩=>⟨hi,hle,ho.alloc o,hlt,Owns.alloc o hr⟩
 | [],_::_,_,h=>h.elim
 | _::_,[],_,h=>h.elim
set_option maxRecDepth 100000
theorem EOwn.shape {B:Nat} {w:World} {t:PErr} {v:Value} (h:EOwn B w t v):∃ n a1 n1 c1 a2 n2 c2,v=.agg #[.int .i64 n,.slice a1 n1 c1,.slice a2 n2 c2]:=h.at.shape
theorem below_set3 {B b:Nat} {w0 w:World} (h:Below B w0 w) (hb:B≤b) (x y z:Value):Below B w0 (((w.setCell ⟨b,0,none⟩ x).setCell ⟨b,1,none⟩ y).setCell ⟨b,2,none⟩ z) :=
 ((h.setCell (p:=⟨b,0,none⟩) hb x).setCell (p:=⟨b,1,none⟩) hb y).setCell (p:=⟨b,2,none⟩) hb z
end Go.Proofs.YtindfaehjoileaaGreatDoor
namespace Go.Proofs.YtindfaehjoileaaGreatDoor
open Go.RowKit
theorem check_k (r:Nat→Addr) (k R:Int) (v:Value) (w:World) (hg:Glob r w) (h:k<1∨4<k) :
 Calls Tryz.prog 166 #[.agg #[.int .i64 k,.int .i64 R,v]] w (Ret1 (fun x w'=>ErrIs r w' (fresh sRule 0 1) x) w):=by
 have hg':=Hd (hg.below ((Below.refl _ _).alloc (Nat.le_refl _) (.cells #[.int .i64 k,.int .i64 R,v] 124)))
 clear hg
 rcases h with h | h <;>
 (go_enter Tryz.func166,Tryz.ntmps166
  go_wp2_with fail
  refine (rule_wrong r _ _ _ hg'.out (by decide) (by decide)).mono ?_
  rintro e w' ⟨x,rfl,hb,he⟩
  go_wp2
  go_ret
  exact ⟨_,rfl,((Below.refl _ _).alloc (Nat.le_refl _) _).trans (hb.mono (by simp)),he⟩)
theorem check_r (r:Nat→Addr) (k R:Int) (v:Value) (w:World) (hg:Glob r w) (h1:1≤k) (h4:k≤4) (h:R<0∨3<R) :
 Calls Tryz.prog 166 #[.agg #[.int .i64 k,.int .i64 R,v]] w (Ret1 (fun x w'=>ErrIs r w' (fresh sRule 1 1) x) w):=by
 have hg':=Hd (hg.below ((Below.refl _ _).alloc (Nat.le_refl _) (.cells #[.int .i64 k,.int .i64 R,v] 124)))
 clear hg
 go_enter Tryz.func166,Tryz.ntmps166
 go_wp2_with fail
 refine (size_bad r _ _ _ hg'.out (by omega)).mono ?_
 rintro e w1 ⟨x,y,rfl,hb,rfl,he⟩
 obtain ⟨T,a,rfl⟩:=he.some_shape
 clear he
 go_wp2_with fail
 refine (rule_wrong r _ _ _ (hg'.out.below hb) (by decide) (by decide)).mono ?_
 rintro e w' ⟨x,rfl,hb',he⟩
 go_wp2
 go_ret
 exact ⟨_,rfl,(((Below.refl _ _).alloc (Nat.le_refl _) _).trans (hb.mono (by simp))).trans (hb'.mono (by have:=hb.size; simp at this; omega)),he⟩
theorem check_len (r:Nat→Addr) (K R:Nat) (v:Value) (xs:List Int) (w:World) (hg:Glob r w) (h:IntsAt w v xs) (h1:1≤K) (h4:K≤4) (h3:R≤3) (hl:xs.length≠pw K (2*R+1)) :
 Calls Tryz.prog 166 #[.agg #[.int .i64 K,.int .i64 R,v]] w (Ret1 (fun x w'=>ErrIs r w' (fresh sRule 2 1) x) w):=by
 have hg':=Hd (hg.below ((Below.refl _ _).alloc (Nat.le_refl _) (.cells #[.int .i64 K,.int .i64 R,v] 124)))
 clear hg
 have hlen:=h.len
 clear h
 have hne:((xs.length:Int) != (pw K (2*R+1):Int))=true:=by simp; omega
 clear hl
 go_enter Tryz.func166,Tryz.ntmps166
 go_wp2_with fail
 refine (size_ok K R _ h1 h4 h3).mono ?_
 rintro e w1 ⟨rfl,rfl⟩
 go_wp2_with fail
 refine (rule_wrong r _ _ _ hg'.out (by decide) (by decide)).mono ?_
 rintro e w' ⟨x,rfl,hb',he⟩
 go_wp2
 go_ret
 exact ⟨_,rfl,((Below.refl _ _).alloc (Nat.le_refl _) _).trans (hb'.mono (by simp)),he⟩
theorem check_odd (r:Nat→Addr) (K R:Nat) (v:Value) (xs:List Int) (i:Nat) (w:World) (hg:Glob r w) (h:IntsAt w v xs) (h1:1≤K) (h4:K≤4) (h3:R≤3) (hl:xs.length=pw K (2*R+1)) (hi:idxOf (odd1 K) xs=i) (hi':i<xs.length) :
 Calls Tryz.prog 166 #[.agg #[.int .i64 K,.int .i64 R,v]] w (Ret1 (fun x w'=>ErrIs r w' (fresh sRule (3+i) 1) x) w):=by
 have hg':=Hd (hg.below ((Below.refl _ _).alloc (Nat.le_refl _) (.cells #[.int .i64 K,.int .i64 R,v] 124)))
 clear hg
 have hm:=h.len_le
 have h':=Hd (h.below ((Below.refl _ _).alloc (Nat.le_refl _) (.cells #[.int .i64 K,.int .i64 R,v] 124)))
 have hlen:=h.len
 clear h
 have hne:((xs.length:Int) != (pw K (2*R+1):Int))=false:=by simp; omega
 clear hl
 replace hi:=Hd hi
 go_enter Tryz.func166,Tryz.ntmps166
 go_wp2_with fail
 refine (size_ok K R _ h1 h4 h3).mono ?_
 rintro e w1 ⟨rfl,rfl⟩
 go_wp2_with fail
 refine (rule_odd K v xs _ h'.out).mono ?_
 rintro e w1 ⟨x,rfl,hb,rfl⟩
 rw [hi.out]
 have hlt:i<9223372036854775807:=by omega
 have hb3:(3+(i:Int))≤9223372036854775807:=by
  have:=pw_le (i:=2*R+1) h1 h4 (by omega)
  have:¬ ((xs.length:Int) != (pw K (2*R+1):Int))=true:=by rw [hne]; simp
  simp at this
  omega
 go_wp2_with fail
 refine (rule_wrong r _ _ _ (hg'.out.below hb) (by decide) (by decide)).mono ?_
 rintro e w' ⟨x,rfl,hb',he⟩
 go_wp2
 go_ret
 exact ⟨_,rfl,(((Below.refl _ _).alloc (Nat.le_refl _) _).trans (hb.mono (by simp))).trans (hb'.mono (by have:=hb.size; simp at this; omega)),he⟩
theorem check_ok (K R:Nat) (v:Value) (xs:List Int) (w:World) (h:IntsAt w v xs) (hr:RuleOk K R xs) :
 Calls Tryz.prog 166 #[.agg #[.int .i64 K,.int .i64 R,v]] w (Ret1 (fun x _=>x=.nilIface) w):=by
 obtain ⟨h1,h4,h3,hl,hs⟩:=hr
 have h':=Hd (h.below ((Below.refl _ _).alloc (Nat.le_refl _) (.cells #[.int .i64 K,.int .i64 R,v] 124)))
 have hlen:=h.len
 clear h
 have hne:((xs.length:Int) != (pw K (2*R+1):Int))=false:=by simp; omega
 clear hl
 replace hs:=Hd hs
 go_enter Tryz.func166,Tryz.ntmps166
 go_wp2_with fail
 refine (size_ok K R _ h1 h4 h3).mono ?_
 rintro e w1 ⟨rfl,rfl⟩
 go_wp2_with fail
 refine (rule_odd K v xs _ h'.out).mono ?_
 rintro e w1 ⟨x,rfl,hb,rfl⟩
 rw [hs.out.odd]
 go_wp2
 go_ret
 exact ⟨_,rfl,(((Below.refl _ _).alloc (Nat.le_refl _) _).trans (hb.mono (by simp))),rfl⟩
theorem check_any (r:Nat→Addr) (k R:Int) (v:Value) (xs:List Int) (w:World) (hg:Glob r w) (h:IntsAt w v xs) :
 Calls Tryz.prog 166 #[.agg #[.int .i64 k,.int .i64 R,v]] w (Ret1 (fun x w'=>ErrIs r w' (checkP k R xs) x) w):=by
 by_cases hk:k<1∨4<k
 ·rw [checkP,if_pos hk]; exact check_k r k R v w hg hk
 by_cases hr:R<0∨3<R
 ·rw [checkP,if_neg hk,if_pos hr]; exact check_r r k R v w hg (by omega) (by omega) hr
 obtain ⟨K,rfl⟩:=Int.eq_ofNat_of_zero_le (show 0≤k by omega)
 obtain ⟨R,rfl⟩:=Int.eq_ofNat_of_zero_le (show 0≤R by omega)
 by_cases hl:xs.length=pw K (2*R+1)
 ·rcases syms_or K xs with hs | ⟨i,hi,hlt⟩
  ·have hok:RuleOk K R xs:=⟨by omega,by omega,by omega,hl,hs⟩
   rw [hok.check]; exact check_ok K R v xs w h hok
  ·have:checkP K R xs=fresh sRule (3+i) 1:=by
    rw [checkP,if_neg hk,if_neg hr,if_neg (by simp [hl]),if_neg (by omega),hi]
   rw [this]
   exact check_odd r K R v xs i w hg h (by omega) (by omega) (by omega) hl hi hlt
 ·have:checkP K R xs=fresh sRule 2 1:=by
   rw [checkP,if_neg hk,if_neg hr,if_pos (by simpa using hl)]
  rw [this]
  exact check_len r K R v xs w hg h (by omega) (by omega) (by omega) hl
set_option maxRecDepth 100000
end Go.Proofs.YtindfaehjoileaaGreatDoor
namespace Go.Proofs.YtindfaehjoileaaGreatDoor
open Go.RowKit Go.Extern.Stop Go.Stop Go.Extern
set_option maxRecDepth 100000
set_option maxHeartbeats 8000000
namespace Errs
theorem typeOfE (v:Value) (w:World):(ReflectliteType.typeOf #[.iface 417 v]).run Tryz.prog w=.ok (.iface 105 (.agg #[.pointer (some ⟨22,417,none⟩)])) w:=by kernel_rfl
theorem comparableE (w : World) : ((ReflectliteType.method fun t => do Rtype.noPackHeld "Comparable" t; (fun a => Value.bool a.comparable) <$> typeInfo t) #[.agg #[.pointer (some ⟨22, 417, none⟩)]]).run Tryz.prog w = .ok (.bool true) w := by kernel_rfl
theorem methodComparable (v : Value) (w : World) : (Go.method 592 105 v "Comparable").run Tryz.prog w = .ok (437, v) w := by kernel_rfl
theorem compE:(Tryz.prog.info? 417).map (·.comparable)=some true:=by kernel_rfl
theorem sizeE:(Tryz.prog.info? 419).map (·.size)=some 1:=by kernel_rfl
theorem uErr : Tryz.prog.underlying 25 = some (.interface #[("Error", 62)]) := by kernel_rfl
theorem uES:Tryz.prog.underlying 417=some (.pointer 419):=by kernel_rfl
theorem uIs : Tryz.prog.underlying 107 = some (.interface #[("Is", 109)]) := by kernel_rfl
theorem uUnw : Tryz.prog.underlying 110 = some (.interface #[("Unwrap", 111)]) := by kernel_rfl
theorem noIsF (v:Value) (xT:TypeId) (w:World):(Instr.typeAssert (.iface 47 v) xT 107 true).run Tryz.prog w=.ok (.tuple #[.nilIface,.bool false]) w:=run_typeAssert_lacksB uIs (by kernel_rfl) (by kernel_rfl) v xT w
theorem hasUnwrapF (v:Value) (xT:TypeId) (w:World):(Instr.typeAssert (.iface 47 v) xT 110 true).run Tryz.prog w=.ok (.tuple #[.iface 47 v,.bool true]) w:=run_typeAssert_hasB uUnw (by kernel_rfl) v xT w
theorem methodUnwrap (v : Value) (w : World) : (Go.method 592 47 v "Unwrap").run Tryz.prog w = .ok (430, v) w := by kernel_rfl
theorem unwrap_any (p:Nat) (u:Value) (w:World) (h:w.cell? ⟨p,2,none⟩=some u) :
 Calls Tryz.prog 430 #[.pointer (some ⟨p,0,none⟩)] w fun e w'=>e=.returned u∧w=w':=by
 go_enter Tryz.func430,Tryz.ntmps430
 go_wp2
 go_ret
 exact ⟨rfl,rfl⟩
theorem is_loop (r:Nat→Addr) (n:Int) (l:List (ByteArray×Int)) (v:Value) (w:World) (h:ErrAt r w n l v) :
 Calls Tryz.prog 27 #[v,rootV r n,.bool true] w fun e w'=>e=.returned (.bool true)∧w=w':=by
 obtain ⟨i,hi,hcmp⟩:=Option.map_eq_some_iff.1 compE
 obtain ⟨j,hj,hjs⟩:=Option.map_eq_some_iff.1 sizeE
 have heq:=run_eql_iface_ptr_same (P:=Tryz.prog) w (r n.toNat) uErr uES hi hcmp hj
 have nF:=noIsF
 have uF:=hasUnwrapF
 have mU:=methodUnwrap
 clear hi hcmp hj hjs
 replace h:=Hd h
 go_enter Tryz.func27,Tryz.ntmps27
 go_wp2
 go_loopg [0] l.length (fun k u wr=>wr=w∧∃ l',l'.length=k∧ErrAt r w n l' u)
 case atStart=>exact ⟨rfl,l,rfl,h.out⟩
 case round =>
  obtain ⟨rfl,l',hl',hu⟩:=hrel
  match l',hl',hu with
  | [],hl',hu =>
   obtain rfl:_=rootV r n:=hu
   clear hl'
   go_wp2
   go_ret
   exact ⟨rfl,rfl⟩
  | (op,at_)::rest,hl',hu =>
   obtain ⟨p,u',rfl,c0,c1,c2,hrest⟩:=hu
   obtain ⟨T,a,rfl⟩:=hrest.shape
   have hty:=run_eql_iface_types (P:=Tryz.prog) 47 417 (.pointer (some ⟨p,0,none⟩)) (.pointer (some (r n.toNat))) uErr (by decide) wr
   replace hrest:=Hd hrest
   replace hl':=Hd hl'
   go_wp2_with (go_at_call 430; refine (unwrap_any p _ _ c2).mono ?_; rintro e w' ⟨rfl,rfl⟩)
   go_roundg rest.length
   case measure=>have:=hl'.out; simp at this; omega
   case rel=>exact ⟨rfl,rest,rfl,hrest.out⟩
theorem is_any (r:Nat→Addr) (n:Int) (l:List (ByteArray×Int)) (v:Value) (w:World) (h:ErrAt r w n l v) :
 Calls Tryz.prog 13 #[v,rootV r n] w fun e w'=>e=.returned (.bool true)∧w=w':=by
 have h8:=@run_callFunc_extern Tryz.prog 26 _ Extern.ReflectliteType.typeOf Tryz.func26 (by kernel_rfl) (by kernel_rfl) (by kernel_rfl) (by kernel_rfl)
 have h32 := @run_callFunc_extern Tryz.prog 437 _ (Extern.ReflectliteType.method fun t => do Extern.Rtype.noPackHeld "Comparable" t; pure (.bool (← typeInfo t).comparable)) Tryz.func437 (by kernel_rfl) (by kernel_rfl) (by kernel_rfl) (by kernel_rfl)
 have tT:=typeOfE
 have cT:=comparableE
 have mR:=methodComparable
 obtain ⟨T,a,rfl⟩:=h.shape
 replace h:=Hd h
 go_enter Tryz.func13,Tryz.ntmps13
 go_wp2_with fail
 refine (is_loop r n l _ _ h.out).mono ?_
 rintro e w' ⟨rfl,rfl⟩
 go_wp2
 go_ret
 exact ⟨rfl,rfl⟩
end Errs
end Go.Proofs.YtindfaehjoileaaGreatDoor
namespace Go.Proofs.YtindfaehjoileaaGreatDoor
open Go.RowKit Go.Extern.Stop Go.Stop Go.Extern
set_option maxRecDepth 100000
namespace Errs
theorem uF:Tryz.prog.underlying 47=some (.pointer 51):=by kernel_rfl
theorem valueOfFF (t:Addr) (w:World):(ReflectliteValue.unpack (.iface 49 (.pointer (some t)))).run Tryz.prog w
 = .ok (.agg #[.pointer (some ⟨22,49,none⟩),.pointer (some ⟨w.heap.size,0,none⟩),.int .u64 150]) (w.alloc (.cells #[.pointer (some t)] 49)):=by kernel_rfl
theorem typeFF (a : Addr) (w : World) : (ReflectliteValue.methodAny (ReflectliteValue.valueError "reflectlite.Value.Type" 0) (fun t _ _ _ => ReflectliteType.toType t) #[.agg #[.pointer (some ⟨22, 49, none⟩), .pointer (some a), .int .u64 150]]).run Tryz.prog w
 = .ok (.iface 105 (.agg #[.pointer (some ⟨22,49,none⟩)])) w:=by kernel_rfl
theorem methodKind (h : Value) (w : World) : (Go.method 592 105 (.agg #[h]) "Kind").run Tryz.prog w = .ok (425, h) w := by kernel_rfl
theorem kindFF (w:World):((ReflectliteType.abiMethod fun t=>(fun a:Nat=>Value.int IntKind.u8 (a:Int)) <$> Rtype.kind t) #[.pointer (some ⟨22,49,none⟩)]).run Tryz.prog w=.ok (.int .u8 22) w:=by kernel_rfl
theorem kindF (w:World):((ReflectliteType.abiMethod fun t=>(fun a:Nat=>Value.int IntKind.u8 (a:Int)) <$> Rtype.kind t) #[.pointer (some ⟨22,47,none⟩)]).run Tryz.prog w=.ok (.int .u8 22) w:=by kernel_rfl
theorem rlm (z:Sem Value) (f:TypeId→Addr→Nat→Nat→Sem Value) (v:Value) :
 ReflectliteValue.method z f #[v]=(do match ← ReflectliteValue.parts v with | none=>z | some (t,a,fl)=>f t a fl (fl%32)):=rfl
theorem partsFF (a:Addr) (w:World):(ReflectliteValue.parts (.agg #[.pointer (some ⟨22,49,none⟩),.pointer (some a),.int .u64 150])).run Tryz.prog w=.ok (some (49,a,150)) w:=by kernel_rfl
theorem isNilFF (a p:Addr) (W:World) (ha:W.cell? a=some (.pointer (some p))) :
 (ReflectliteValue.method (ReflectliteValue.valueError "reflectlite.Value.IsNil" 0) ReflectliteValue.isNil #[.agg #[.pointer (some ⟨22, 49, none⟩), .pointer (some a), .int .u64 150]]).run Tryz.prog W = .ok (.bool false) W := by
 rw [rlm]
 simp only [Sem.run_bind,partsFF,Result.andThen]
 simp [ReflectliteValue.isNil,loadVar,isAgg,underlying,ha,Result.andThen]
theorem methodElem (h : Value) (w : World) : (Go.method 592 105 (.agg #[h]) "Elem").run Tryz.prog w = .ok (438, .agg #[h]) w := by kernel_rfl
theorem methodImplements (h : Value) (w : World) : (Go.method 592 105 (.agg #[h]) "Implements").run Tryz.prog w = .ok (439, .agg #[h]) w := by kernel_rfl
theorem methodAssignableTo (h : Value) (w : World) : (Go.method 592 105 (.agg #[h]) "AssignableTo").run Tryz.prog w = .ok (436, .agg #[h]) w := by kernel_rfl
theorem elemFF (w:World):(ReflectliteType.method ReflectliteType.elem #[.agg #[.pointer (some ⟨22,49,none⟩)]]).run Tryz.prog w=.ok (.iface 105 (.agg #[.pointer (some ⟨22,47,none⟩)])) w:=by kernel_rfl
theorem implementsF (w : World) : (ReflectliteType.relation "Implements" ReflectliteType.implements_ #[.agg #[.pointer (some ⟨22, 47, none⟩)], .iface 105 (.agg #[.pointer (some ⟨22, 25, none⟩)])]).run Tryz.prog w = .ok (.bool true) w := by kernel_rfl
theorem typeOfF (v:Value) (w:World):(ReflectliteType.typeOf #[.iface 47 v]).run Tryz.prog w=.ok (.iface 105 (.agg #[.pointer (some ⟨22,47,none⟩)])) w:=by kernel_rfl
theorem assignableF (w : World) : (ReflectliteType.relation "AssignableTo" ReflectliteType.assignableTo #[.agg #[.pointer (some ⟨22, 47, none⟩)], .iface 105 (.agg #[.pointer (some ⟨22, 47, none⟩)])]).run Tryz.prog w = .ok (.bool true) w := by kernel_rfl
theorem valueOfF (e:Addr) (w:World):(ReflectliteValue.unpack (.iface 47 (.pointer (some e)))).run Tryz.prog w
 = .ok (.agg #[.pointer (some ⟨22,47,none⟩),.pointer (some ⟨w.heap.size,0,none⟩),.int .u64 150]) (w.alloc (.cells #[.pointer (some e)] 47)):=by kernel_rfl
theorem elemOfFF (w:World):(Rtype.elem? 49).run Tryz.prog w=.ok (some 47) w:=by kernel_rfl
theorem mkF (p:Addr) (w:World):(ReflectliteValue.mk 47 p ReflectliteValue.flagAddr).run Tryz.prog w=.ok (.agg #[.pointer (some ⟨22,47,none⟩),.pointer (some p),.int .u64 406]) w:=by kernel_rfl
theorem elemVFF (a p:Addr) (W:World) (ha:W.cell? a=some (.pointer (some p))) :
 (ReflectliteValue.method (ReflectliteValue.valueError "reflectlite.Value.Elem" 0) ReflectliteValue.elem #[.agg #[.pointer (some ⟨22, 49, none⟩), .pointer (some a), .int .u64 150]]).run Tryz.prog W
   = .ok (.agg #[.pointer (some ⟨22,47,none⟩),.pointer (some p),.int .u64 406]) W:=by
 rw [rlm]
 simp only [Sem.run_bind,partsFF,Result.andThen]
 simp [ReflectliteValue.elem,loadVar,isAgg,underlying,ha,Result.andThen,elemOfFF,mkF]
theorem rls (v x:Value):ReflectliteValue.set #[v,x]=(do
 let (some (dst,a,fl),some (src,b,_)):=(← ReflectliteValue.parts v,← ReflectliteValue.parts x)
  | unsupported (.noEntry "extern/(internal/reflectlite.Value).Set.zeroValue")
 if fl / ReflectliteValue.flagAddr % 2 == 0 then unsupported (.noEntry "extern/(internal/reflectlite.Value).Set.unaddressable")
 let val ← loadVar src b
 if ← Rtype.directlyAssignable dst src then storeVar dst a val
 else if ← Rtype.implements dst src then
  if (← Rtype.kind src)==20 then
   match val with
   | .nilIface => unsupported (.noEntry "extern/reflectlite: a nil value of one interface type handed on as a value of another")
   | _=>storeVar dst a val
  else storeVar dst a (.iface src val)
 else panicString ("reflectlite.Set: value of type " ++ (← Rtype.spelt src) ++ " is not assignable to type " ++ (← Rtype.spelt dst))
 pure (.tuple #[])):=rfl
theorem partsFa (a:Addr) (w:World):(ReflectliteValue.parts (.agg #[.pointer (some ⟨22,47,none⟩),.pointer (some a),.int .u64 406])).run Tryz.prog w=.ok (some (47,a,406)) w:=by kernel_rfl
theorem partsF (a:Addr) (w:World):(ReflectliteValue.parts (.agg #[.pointer (some ⟨22,47,none⟩),.pointer (some a),.int .u64 150])).run Tryz.prog w=.ok (some (47,a,150)) w:=by kernel_rfl
theorem directF (w:World):(Rtype.directlyAssignable 47 47).run Tryz.prog w=.ok true w:=by kernel_rfl
theorem setF (ta b e:Addr) (old:Value) (W:World) (hb:W.cell? b=some (.pointer (some e))) (ht:W.cell? ta=some old) (hf:W.frozen? ta=false) :
 (ReflectliteValue.set #[.agg #[.pointer (some ⟨22,47,none⟩),.pointer (some ta),.int .u64 406],.agg #[.pointer (some ⟨22,47,none⟩),.pointer (some b),.int .u64 150]]).run Tryz.prog W
   = .ok (.tuple #[]) (W.setCell ta (.pointer (some e))):=by
 rw [rls]
 simp only [Sem.run_bind,partsFa,partsF,Result.andThen]
 simp [ReflectliteValue.flagAddr,loadVar,isAgg,underlying,hb,Result.andThen,directF,storeVar,Value.cells,storeCells,Addr.add]
 rw [run_store Tryz.prog W ta _ _ (by rfl)]
 simp [ht,hf]
end Errs
set_option maxHeartbeats 8000000
namespace Errs
theorem as_hit (e t:Addr) (old:Value) (w:World) (hg:w.cell? ⟨12,0,none⟩=some (.iface 105 (.agg #[.pointer (some ⟨22,25,none⟩)]))) (ht0:w.cell? t=some old) (hf0:w.frozen? t=false) :
 Calls Tryz.prog 15 #[.iface 47 (.pointer (some e)),.iface 49 (.pointer (some t))] w fun ev w'=>ev=.returned (.bool true)∧w'=((((w.alloc (.cells #[.pointer (some t)] 49)).alloc (.cells #[.pointer (some ⟨22,49,none⟩),.pointer (some ⟨w.heap.size,0,none⟩),.int .u64 150] 81)).alloc (.cells #[.pointer (some ⟨22,49,none⟩),.pointer (some ⟨w.heap.size,0,none⟩),.int .u64 150] 81)).alloc (.cells #[.pointer (some e)] 47)).setCell t (.pointer (some e)):=by
 have h6:=@run_callFunc_extern Tryz.prog 28 _ (fun args=>ReflectliteValue.unpack (args.getD 0 (.tuple #[]))) Tryz.func28 (by kernel_rfl) (by kernel_rfl) (by kernel_rfl) (by kernel_rfl)
 have h7 := @run_callFunc_extern Tryz.prog 29 _ (ReflectliteValue.methodAny (ReflectliteValue.valueError "reflectlite.Value.Type" 0) (fun t _ _ _ => ReflectliteType.toType t)) Tryz.func29 (by kernel_rfl) (by kernel_rfl) (by kernel_rfl) (by kernel_rfl)
 have h8 := @run_callFunc_extern Tryz.prog 30 _ (ReflectliteValue.method (ReflectliteValue.valueError "reflectlite.Value.IsNil" 0) ReflectliteValue.isNil) Tryz.func30 (by kernel_rfl) (by kernel_rfl) (by kernel_rfl) (by kernel_rfl)
 have h27:=@run_callFunc_extern Tryz.prog 425 _ (ReflectliteType.abiMethod fun t=>do pure (.int .u8 (← Rtype.kind t))) Tryz.func425 (by kernel_rfl) (by kernel_rfl) (by kernel_rfl) (by kernel_rfl)
 have h37:=@run_callFunc_extern Tryz.prog 438 _ (ReflectliteType.method ReflectliteType.elem) Tryz.func438 (by kernel_rfl) (by kernel_rfl) (by kernel_rfl) (by kernel_rfl)
 have h38 := @run_callFunc_extern Tryz.prog 439 _ (ReflectliteType.relation "Implements" ReflectliteType.implements_) Tryz.func439 (by kernel_rfl) (by kernel_rfl) (by kernel_rfl) (by kernel_rfl)
 have h10:=@run_callFunc_extern Tryz.prog 26 _ ReflectliteType.typeOf Tryz.func26 (by kernel_rfl) (by kernel_rfl) (by kernel_rfl) (by kernel_rfl)
 have h35 := @run_callFunc_extern Tryz.prog 436 _ (ReflectliteType.relation "AssignableTo" ReflectliteType.assignableTo) Tryz.func436 (by kernel_rfl) (by kernel_rfl) (by kernel_rfl) (by kernel_rfl)
 have h11 := @run_callFunc_extern Tryz.prog 45 _ (ReflectliteValue.method (ReflectliteValue.valueError "reflectlite.Value.Elem" 0) ReflectliteValue.elem) Tryz.func45 (by kernel_rfl) (by kernel_rfl) (by kernel_rfl) (by kernel_rfl)
 have h12:=@run_callFunc_extern Tryz.prog 46 _ ReflectliteValue.set Tryz.func46 (by kernel_rfl) (by kernel_rfl) (by kernel_rfl) (by kernel_rfl)
 have tO:=typeOfF
 have mA:=methodAssignableTo
 have aF:=assignableF
 have vF:=valueOfF
 have f6:=valueOfFF
 have f7:=typeFF
 have mK:=methodKind
 have mE:=methodElem
 have mI:=methodImplements
 have kFF:=kindFF
 have kF:=kindF
 have eFF:=elemFF
 have iF:=implementsF
 have n8:=isNilFF ⟨w.heap.size,0,none⟩ t ((w.alloc (.cells #[.pointer (some t)] 49)).alloc (.cells #[.pointer (some ⟨22,49,none⟩),.pointer (some ⟨w.heap.size,0,none⟩),.int .u64 150] 81)) (by simp)
 have hlt:12<w.heap.size:=World.block_lt_of_cell? _ _ hg
 have hg2:((w.alloc (.cells #[.pointer (some t)] 49)).alloc (.cells #[.pointer (some ⟨22,49,none⟩),.pointer (some ⟨w.heap.size,0,none⟩),.int .u64 150] 81)).cell? ⟨12,0,none⟩=some (.iface 105 (.agg #[.pointer (some ⟨22,25,none⟩)])):=by
  rw [World.cell?_alloc_lt _ _ ⟨12,0,none⟩ (by simp; omega),World.cell?_alloc_lt _ _ ⟨12,0,none⟩ hlt]; exact hg
 have htl:t.block<w.heap.size:=World.block_lt_of_cell? _ _ ht0
 have el:=elemVFF ⟨w.heap.size,0,none⟩ t (((w.alloc (.cells #[.pointer (some t)] 49)).alloc (.cells #[.pointer (some ⟨22,49,none⟩),.pointer (some ⟨w.heap.size,0,none⟩),.int .u64 150] 81)).alloc (.cells #[.pointer (some ⟨22,49,none⟩),.pointer (some ⟨w.heap.size,0,none⟩),.int .u64 150] 81)) (by rw [World.cell?_alloc_lt _ _ ⟨w.heap.size,0,none⟩ (by simp; omega)]; simp)
 have st:=setF t ⟨w.heap.size+1+1+1,0,none⟩ e old ((((w.alloc (.cells #[.pointer (some t)] 49)).alloc (.cells #[.pointer (some ⟨22,49,none⟩),.pointer (some ⟨w.heap.size,0,none⟩),.int .u64 150] 81)).alloc (.cells #[.pointer (some ⟨22,49,none⟩),.pointer (some ⟨w.heap.size,0,none⟩),.int .u64 150] 81)).alloc (.cells #[.pointer (some e)] 47))
  (by rw [World.cell?_alloc_at _ _ _ _ (by simp)]; rfl)
  (by rw [World.cell?_alloc_lt _ _ t (by simp; omega),World.cell?_alloc_lt _ _ t (by simp; omega),World.cell?_alloc_lt _ _ t (by simp; omega),World.cell?_alloc_lt _ _ t htl]; exact ht0)
  (by rw [World.frozen?_alloc_old _ _ t (by simp; omega),World.frozen?_alloc_old _ _ t (by simp; omega),World.frozen?_alloc_old _ _ t (by simp; omega),World.frozen?_alloc_old _ _ t (Nat.ne_of_lt htl)]; exact hf0)
 go_enter Tryz.func15,Tryz.ntmps15
 go_wp2
 refine wp_loop_rounds 1 ?_
 rw [rounds_succ]
 go_wp2
 go_ret
 exact ⟨rfl,rfl⟩
theorem as_any (e t:Addr) (old:Value) (w:World) (hg:w.cell? ⟨12,0,none⟩=some (.iface 105 (.agg #[.pointer (some ⟨22,25,none⟩)]))) (ht0:w.cell? t=some old) (hf0:w.frozen? t=false) :
 Calls Tryz.prog 15 #[.iface 47 (.pointer (some e)),.iface 49 (.pointer (some t))] w fun ev w'=>ev=.returned (.bool true)∧∃ w1,Below w.heap.size w w1∧w'=w1.setCell t (.pointer (some e)) :=
 (as_hit e t old w hg ht0 hf0).mono fun _ _ ⟨h1,h2⟩=>⟨h1,_,((((Below.refl _ _).alloc (Nat.le_refl _) _).alloc (by simp) _).alloc (by simp; omega) _).alloc (by simp; omega) _,h2⟩
end Errs
end Go.Proofs.YtindfaehjoileaaGreatDoor
namespace Go.Proofs.YtindfaehjoileaaGreatDoor
open Go.RowKit
set_option maxRecDepth 100000
set_option maxHeartbeats 8000000
def GlobE (w:World):Prop:=w.cell? ⟨12,0,none⟩=some (.iface 105 (.agg #[.pointer (some ⟨22,25,none⟩)]))
theorem GlobE.below {w w':World} (h:GlobE w) (hb:Below w.heap.size w w'):GlobE w':=cell_keep hb h
def PErr.Fine (t:PErr):Prop:=match t with | none=>True | some (n,l)=>1≤n∧n≤11∧l.length≤1000
theorem takeD {P:Program} {ops:Array Oper} {Q:Exit→Act→World→Prop} {md:Region.Mode} {S:World→Prop} {i:Nat} {oi:Oper} {v:Value} {fuel:Nat} {listed:Array Bool} {a:Act} {w:World} (d:Option Tmp) (hi:ops[i]?=some oi) (hd:oi.dst=d)
 (hs:Region.noSelect ops=true) (hf:Region.free md ops listed i=true) (hr:(Region.ready md ops listed).contains i=true)
 (hQ:∀ c a w,Q (.panic c) (a.put d v) w→Q (.panic c) a w) (hy:YieldsIf P ops S oi v a) (hS:S w)
 (h:wpAnyH P md ops Q S fuel (listed.setIfInBounds i true) (a.put d v) w):wpAnyH P md ops Q S (fuel+1) listed a w:=by
 subst hd
 exact wpAnyH_take hi hs hf hr hQ hy hS h
theorem takeA {P:Program} {ops:Array Oper} {Q:Exit→Act→World→Prop} {md:Region.Mode} {i:Nat} {oi:Oper} {v:Value} {fuel:Nat} {listed:Array Bool} {a:Act} {w:World} (d:Option Tmp) (hi:ops[i]?=some oi) (hd:oi.dst=d)
 (hs:Region.noSelect ops=true) (hf:Region.free md ops listed i=true) (hr:(Region.ready md ops listed).contains i=true)
 (hQ:∀ c a w,Q (.panic c) (a.put d v) w→Q (.panic c) a w) (hy:Yields P ops oi v a)
 (h:wpAny P md ops Q fuel (listed.setIfInBounds i true) (a.put d v) w):wpAny P md ops Q (fuel+1) listed a w:=by
 subst hd
 exact wpAny_take hi hs hf hr hQ hy h
theorem pqD {P:Program} {ops:Array Oper} {Q:Exit→Act→World→Prop} {md:Region.Mode} {S:World→Prop} {oi:Oper} {v:Value} {fuel:Nat} {listed:Array Bool} {a a':Act} {w:World} (i:Nat) (d:Tmp) (hS:S w)
 (h:wpAnyH P md ops (NoPanic Q) S fuel (listed.setIfInBounds i true) a' w) (hi:ops[i]?=some oi:=by exact rfl) (hd:oi.dst=some d:=by exact rfl)
 (hs:Region.noSelect ops=true:=by kernel_rfl) (hf:Region.free md ops listed i=true:=by kernel_rfl) (hr:(Region.ready md ops listed).contains i=true:=by kernel_rfl)
 (hw:Region.wanted oi (yielded ops a.tmps)=true:=by rfl) (hy:∀ W,S W→(execOp a.eval oi).run P W=.ok (.value v) W:=by intro W' hs; (try subst hs); go_simp; (try with_reducible rfl)) (ha:a.put (some d) v=a':=by simp only [pq]; exact rfl) :
 wpAnyH P md ops (NoPanic Q) S (fuel+1) listed a w:=by
 subst ha; exact takeD (some d) hi hd hs hf hr (fun _ _ _ h=>h) (.inl ⟨hw,hy⟩) hS h
theorem pqA {P:Program} {ops:Array Oper} {Q:Exit→Act→World→Prop} {md:Region.Mode} {oi:Oper} {v:Value} {fuel:Nat} {listed:Array Bool} {a a':Act} {w:World} (i:Nat) (d:Tmp)
 (h:wpAny P md ops (NoPanic Q) fuel (listed.setIfInBounds i true) a' w) (hi:ops[i]?=some oi:=by exact rfl) (hd:oi.dst=some d:=by exact rfl)
 (hs:Region.noSelect ops=true:=by kernel_rfl) (hf:Region.free md ops listed i=true:=by kernel_rfl) (hr:(Region.ready md ops listed).contains i=true:=by kernel_rfl)
 (hw:Region.wanted oi (yielded ops a.tmps)=true:=by rfl) (hy:∀ W,(execOp a.eval oi).run P W=.ok (.value v) W:=by intro W'; go_simp; (try with_reducible rfl)) (ha:a.put (some d) v=a':=by simp only [pq]; exact rfl) :
 wpAny P md ops (NoPanic Q) (fuel+1) listed a w:=by
 subst ha; exact takeA (some d) hi hd hs hf hr (fun _ _ _ h=>h) (.inl ⟨hw,hy⟩) h
theorem as_keep (q:Addr) (wo wv w:World) (bv:Below wo.heap.size wo wv) (hw:w=wv.drew) (hG:GlobE wv) (zt:wv.cell? ⟨wo.heap.size,0,none⟩=some (.pointer none)) (ft:wv.frozen? ⟨wo.heap.size,0,none⟩=false) :
 Calls Tryz.prog 15 #[.iface 47 (.pointer (some q)),.iface 49 (.pointer (some ⟨wo.heap.size,0,none⟩))] w fun e w'=>e=.returned (.bool true)∧w'.cell? ⟨wo.heap.size,0,none⟩=some (.pointer (some q))∧Below wo.heap.size wo w':=by
 subst hw
 refine (Errs.as_any q ⟨wo.heap.size,0,none⟩ (.pointer none) wv.drew hG zt ft).mono ?_
 rintro e w6 ⟨rfl,w5,hb5,rfl⟩
 have h5:Below wv.heap.size wv w5:=((Below.refl wv.heap.size wv).drew).trans hb5
 refine ⟨rfl,World.cell?_setCell_same _ _ _ (cell_keep h5 zt),(Below.stepL bv h5).setCell (p:=⟨wo.heap.size,0,none⟩) (Nat.le_refl _) _⟩
theorem raw_is_none (w:World) :
 Calls Tryz.prog 6 #[.nilIface,zErr] w (Ret1 (fun x _=>x=.bool true) w):=by
 go_enter Tryz.func6,Tryz.ntmps6
 go_wp2
 go_ret
 exact ⟨_,rfl,belowAlloc' _ _,rfl⟩
theorem raw_is_some (r:Nat→Addr) (n:Int) (l:List (ByteArray×Int)) (v e:Value) (w:World) (hg:Glob r w) (hG:GlobE w) (hv:ErrAt r w n l v) (he:EAt w (some (n,l)) e) (h1:1≤n) (h11:n≤11) (hl:l.length≤1000) :
 Calls Tryz.prog 6 #[v,e] w (Ret1 (fun x _=>x=.bool true) w):=by
 obtain ⟨a1,n1,c1,a2,n2,c2,rfl,hs,hi⟩:=he
 have b0:=belowAlloc' w (.cells #[.int .i64 n,.slice a1 n1 c1,.slice a2 n2 c2] 32)
 have hn0:(n==0)=false:=by rw [beq_eq_false_iff_ne]; omega
 obtain ⟨T,p,rfl⟩:=hv.shape
 replace hv:=Hd (hv.below b0)
 have hg0:=Hd hg
 replace hg:=Hd (hg.below b0)
 replace hG:=Hd (hG.below b0)
 have hsl:=hs.len oneStrs
 rw [List.length_map] at hsl
 replace hs:=Hd (hs.below b0)
 replace hi:=Hd (hi.below b0)
 go_enter Tryz.func6,Tryz.ntmps6
 go_wp2_with fail
 refine (raw_root r n _ hg.out h1 h11).mono ?_
 rintro e w1 ⟨rfl,rfl⟩
 go_wp2_with fail
 refine (Errs.is_any r n l _ _ hv.out).mono ?_
 rintro e w1 ⟨rfl,rfl⟩
 have z:(w.alloc (.cells #[.int .i64 n,.slice a1 n1 c1,.slice a2 n2 c2] 32)).cell? ⟨w.heap.size,0,none⟩=some (.int .i64 n)∧(w.alloc (.cells #[.int .i64 n,.slice a1 n1 c1,.slice a2 n2 c2] 32)).cell? ⟨w.heap.size,1,none⟩=some (.slice a1 n1 c1)∧(w.alloc (.cells #[.int .i64 n,.slice a1 n1 c1,.slice a2 n2 c2] 32)).cell? ⟨w.heap.size,2,none⟩=some (.slice a2 n2 c2):=by simp
 obtain ⟨W,hW⟩:∃ W:World,W=w.alloc (.cells #[.int .i64 n,.slice a1 n1 c1,.slice a2 n2 c2] 32):=⟨_,rfl⟩
 rw [← hW] at hv hg hG hs hi z b0 ⊢
 clear hW
 replace z:=Hd z
 go_wp2
 go_loopw [0,5] (fun u i wr=>∃ k:Nat,k≤l.length∧i=.int .i64 k∧ErrAt r wr n (l.drop k) u∧Below W.heap.size W wr) (fun _ i _=>l.length-(intOf i).toNat)
 case atStart=>exact ⟨0,by omega,rfl,hv.out,Below.refl _ _⟩
 case round =>
  obtain ⟨k,hk,rfl,hu,hB⟩:=hrel
  obtain ⟨wo,rfl⟩:∃ wo:World,wo=wr:=⟨_,rfl⟩
  obtain ⟨z0,z1,z2⟩:=keep3 hB z.out
  by_cases hkl:k<l.length
  ·have hd:l.drop k=l[k]::l.drop (k+1):=List.drop_eq_getElem_cons hkl
   rw [hd] at hu
   generalize hlk:l[k]=x at hu
   obtain ⟨op,at_⟩:=x
   obtain ⟨q,u',rfl,d0,d1,d2,hrest⟩:=hu
   have hs':=hs.out.below hB
   have hi':=hi.out.below hB
   have i1:=hs'.idx oneStrs k (by simpa using hkl)
   have e1:=hs'.cell k (by simpa using hkl)
   have i2:=hi'.idx k (by simpa using hkl)
   have e2:=hi'.cell k (by simpa using hkl)
   simp only [List.getElem_map,hlk] at e1 e2
   replace hd:=Hd hd
   replace hlk:=Hd hlk
   replace hrest:=Hd hrest
   clear hs' hi'
   have gE:=Hd (hG.out.below hB)
   generalize valAt (.slice a1 n1 c1) k=A1 at i1 e1
   generalize valAt (.slice a2 n2 c2) k=A2 at i2 e2
   have bv:=belowAlloc' wo (.cells #[.pointer none] 47)
   have y1:=cell_keep bv z1
   have y2:=cell_keep bv z2
   have g0:=cell_keep bv d0
   have g1:=cell_keep bv d1
   have s1:=(bv.cell (World.block_lt_of_cell? _ _ e1)).trans e1
   have s2:=(bv.cell (World.block_lt_of_cell? _ _ e2)).trans e2
   have zt:(wo.alloc (.cells #[.pointer none] 47)).cell? ⟨wo.heap.size,0,none⟩=some (.pointer none):=by simp
   have ft:(wo.alloc (.cells #[.pointer none] 47)).frozen? ⟨wo.heap.size,0,none⟩=false:=by simp
   have gv:=Hd (gE.out.below bv)
   go_wp2
   obtain ⟨wv,hwv⟩:∃ W:World,W=wo.alloc (.cells #[.pointer none] 47):=⟨_,rfl⟩
   rw [← hwv] at bv y1 y2 g0 g1 s1 s2 zt ft gv ⊢
   clear hwv
   replace z0:=Hd z0
   replace z1:=Hd z1
   replace z2:=Hd z2
   replace d0:=Hd d0
   replace d1:=Hd d1
   replace d2:=Hd d2
   replace e1:=Hd e1
   replace e2:=Hd e2
   refine wp_region_noPanic ?_
   refine wp_region_any (by kernel_rfl) ?_
   change wpAny _ _ _ _ _ _ _ (World.drew _)
   refine pqA 0 29 ?_
   refine pqA 1 30 ?_
   refine wpAny_ready (rs:=[2]) (by kernel_rfl) (by simp) (AllReady.cons rfl (fun K hK=>?_) AllReady.nil)
   go_simp
   go_at_call 15
   refine (as_keep ⟨q,0,none⟩ wo wv _ bv rfl gv.out zt ft).mono ?_
   rintro e w6 ⟨rfl,p0,b6⟩
   refine hK _ _ ?_
   clear hK K y1 y2 g0 g1 s1 s2
   have p1:=cell_keep b6 z1.out
   have p2:=cell_keep b6 z2.out
   have p3:=cell_keep b6 d0.out
   have p4:=cell_keep b6 d1.out
   have p5:=(b6.cell (World.block_lt_of_cell? _ _ e1.out)).trans e1.out
   have p6:=(b6.cell (World.block_lt_of_cell? _ _ e2.out)).trans e2.out
   have p7:=cell_keep b6 d2.out
   refine wpAny_of_held (S:=fun w'=>w'=w6) _ _ _ _ ?_
   refine pqD 3 32 rfl ?_
   refine pqD 4 33 rfl ?_
   refine pqD 5 34 rfl ?_
   refine pqD 6 35 rfl ?_
   refine pqD 7 36 rfl ?_
   refine pqD 8 37 rfl ?_
   refine pqD 9 38 rfl ?_
   refine pqD 10 39 rfl ?_
   refine pqD 11 40 rfl ?_
   refine pqD 12 41 rfl ?_
   refine pqD 13 42 rfl ?_
   refine pqD 14 43 rfl ?_
   refine pqD 15 44 rfl ?_
   refine pqD 16 45 rfl ?_
   refine pqD 17 46 rfl ?_
   refine pqD 18 47 rfl ?_
   refine pqD 19 48 rfl ?_
   refine pqD 20 49 rfl ?_
   refine pqD 21 50 rfl ?_
   refine pqD 22 51 rfl ?_
   refine pqD 23 52 rfl ?_
   refine pqD 24 53 rfl ?_
   refine pqD 25 54 rfl ?_
   refine pqD 26 55 rfl ?_
   refine pqD 27 56 rfl ?_
   refine pqD 28 57 rfl ?_
   refine pqD 29 58 rfl ?_
   refine pqD 30 59 rfl ?_
   refine pqD 31 60 rfl ?_
   refine wpAnyH_done (by kernel_rfl) ?_ _
   refine NoPanic.normal ?_
   have hr6:=Hd (hrest.out.below b6)
   have hB6:=Hd (Below.stepL hB b6)
   clear p1 p2 p3 p4 p5 p6
   go_wp2
   go_roundw
   case rel=>exact ⟨k+1,by omega,by go_num,hr6.out,hB6.out⟩
   case measure=>simp [intOf]; omega
  ·obtain rfl:k=l.length:=by omega
   rw [List.drop_length] at hu
   obtain rfl:_=rootV r n:=hu
   obtain ⟨i,hi,hcmp⟩:=Option.map_eq_some_iff.1 Errs.compE
   obtain ⟨j,hj,hjs⟩:=Option.map_eq_some_iff.1 Errs.sizeE
   have heq:=run_eql_iface_ptr_same (P:=Tryz.prog) wo (r n.toNat) Errs.uErr Errs.uES hi hcmp hj
   clear hi hcmp hj hjs
   have hgo:=Hd (hg.out.below hB)
   have hBf:=Hd (Below.stepL b0 hB)
   go_wp2_with fail
   refine (raw_root r n _ hgo.out h1 h11).mono ?_
   rintro e w1 ⟨rfl,rfl⟩
   go_wp2
   go_ret
   exact ⟨_,rfl,hBf.out,rfl⟩
theorem raw_is (r:Nat→Addr) (t:PErr) (v e:Value) (w:World) (hg:Glob r w) (hG:GlobE w) (hv:ErrIs r w t v) (he:EAt w t e) (ht:t.Fine) :
 Calls Tryz.prog 6 #[v,e] w (Ret1 (fun x _=>x=.bool true) w):=by
 match t,hv,he,ht with
 | none,hv,he,_ =>
  obtain rfl:=ErrIs.none_eq hv
  obtain rfl:e=zErr:=he
  exact raw_is_none w
 | some (n,l),hv,he,⟨h1,h11,hl⟩=>exact raw_is_some r n l v e w hg hG hv he h1 h11 hl
end Go.Proofs.YtindfaehjoileaaGreatDoor
namespace Go.Proofs.YtindfaehjoileaaGreatDoor
open Go.RowKit
set_option maxRecDepth 100000
theorem Box3.belowB {B:Nat} {w w':World} {b:Nat} {x0 x1 x2:Value} (h:Box3 w b x0 x1 x2) (hb:Below B w w') (hlt:b<B):Box3 w' b x0 x1 x2:=by
 obtain ⟨⟨h0,h1,h2⟩,f0,f1,f2⟩:=h
 exact ⟨⟨(hb.cell (p:=⟨b,0,none⟩) hlt).trans h0,(hb.cell (p:=⟨b,1,none⟩) hlt).trans h1,(hb.cell (p:=⟨b,2,none⟩) hlt).trans h2⟩,(hb.frozen (p:=⟨b,0,none⟩) hlt).trans f0,(hb.frozen (p:=⟨b,1,none⟩) hlt).trans f1,(hb.frozen (p:=⟨b,2,none⟩) hlt).trans f2⟩
theorem Box3.far {w:World} {b b':Nat} {x0 x1 x2:Value} (h:Box3 w b x0 x1 x2) (hne:b'≠b) (i:Nat) (u:Value):Box3 (w.setCell ⟨b',i,none⟩ u) b x0 x1 x2:=by
 obtain ⟨⟨h0,h1,h2⟩,f0,f1,f2⟩:=h
 refine ⟨⟨?_,?_,?_⟩,?_,?_,?_⟩
 ·rw [World.cell?_setCell_far _ _ _ _ hne]; exact h0
 ·rw [World.cell?_setCell_far _ _ _ _ hne]; exact h1
 ·rw [World.cell?_setCell_far _ _ _ _ hne]; exact h2
 ·simpa using f0
 ·simpa using f1
 ·simpa using f2
theorem LentI.setBelow {B:Nat} {w:World} {m:Value} {xs:List Int} (h:LentI B w m xs) {a:Addr} (ha:a.block<B) (u:Value):LentI B (w.setCell a u) m xs:=by
 obtain ⟨v,e,ho⟩:=h
 exact ⟨v,e,ho.setBelowBase ha u⟩
theorem LentI.mono {B B':Nat} {w:World} {m:Value} {xs:List Int} (h:LentI B w m xs) (hB:B'≤B):LentI B' w m xs:=by
 obtain ⟨v,e,ho⟩:=h
 exact ⟨v,e,ho.mono hB⟩
abbrev st3 (w:World) (b:Nat) (x y z:Value):World:=((w.setCell ⟨b,0,none⟩ x).setCell ⟨b,1,none⟩ y).setCell ⟨b,2,none⟩ z
theorem cell_far {w:World} {b i:Nat} {a:Addr} (h:a.block≠b) (u:Value):(w.setCell ⟨b,i,none⟩ u).cell? a=w.cell? a :=
 World.cell?_setCell_other _ _ _ _ (by intro e; rw [← e] at h; exact h rfl)
theorem ErrAt.set {r:Nat→Addr} {w:World} {n:Int} {b i:Nat} (hs:∀ s,w.cell? ⟨b,0,none⟩≠some (.string s)) (u:Value) :
 ∀ {l:List (ByteArray×Int)} {v:Value},ErrAt r w n l v→ErrAt r (w.setCell ⟨b,i,none⟩ u) n l v
 | [],_,h=>h
 | (op,at_)::rest,v,⟨p,u',e,c0,c1,c2,h⟩=>by
  have hp:p≠b:=by rintro rfl; exact hs _ c0
  exact ⟨p,u',e,by rw [cell_far hp]; exact c0,by rw [cell_far hp]; exact c1,by rw [cell_far hp]; exact c2,ErrAt.set hs u h⟩
theorem ErrIs.set {r:Nat→Addr} {w:World} {t:PErr} {v:Value} {b i:Nat} (h:ErrIs r w t v) (hs:∀ s,w.cell? ⟨b,0,none⟩≠some (.string s)) (u:Value):ErrIs r (w.setCell ⟨b,i,none⟩ u) t v:=by
 match t,h with
 | none,h=>exact h
 | some (n,l),h=>exact ErrAt.set hs u h
theorem Box3.st3 {w:World} {b:Nat} {x0 x1 x2:Value} (h:Box3 w b x0 x1 x2) (x y z:Value):Box3 (st3 w b x y z) b x y z:=by
 obtain ⟨⟨h0,h1,h2⟩,f0,f1,f2⟩:=h
 have e0:(w.cell? ⟨b,0,none⟩).isSome=true:=by rw [h0]; rfl
 have e1:(w.cell? ⟨b,1,none⟩).isSome=true:=by rw [h1]; rfl
 have e2:(w.cell? ⟨b,2,none⟩).isSome=true:=by rw [h2]; rfl
 have n10:(⟨b,1,none⟩:Addr)≠⟨b,0,none⟩:=by simp
 have n20:(⟨b,2,none⟩:Addr)≠⟨b,0,none⟩:=by simp
 have n21:(⟨b,2,none⟩:Addr)≠⟨b,1,none⟩:=by simp
 refine ⟨⟨?_,?_,?_⟩,?_,?_,?_⟩
 ·rw [World.cell?_setCell_other _ _ _ _ n20,World.cell?_setCell_other _ _ _ _ n10,World.cell?_setCell_same' _ _ _ e0]
 ·rw [World.cell?_setCell_other _ _ _ _ n21]
  exact World.cell?_setCell_same' _ _ _ (by rw [World.cell?_setCell_other _ _ _ _ n10.symm]; exact e1)
 ·exact World.cell?_setCell_same' _ _ _ (by rw [World.cell?_setCell_other _ _ _ _ n21.symm,World.cell?_setCell_other _ _ _ _ n20.symm]; exact e2)
 all_goals simpa [Go.Proofs.YtindfaehjoileaaGreatDoor.st3,go_sem]
theorem Box3.st3_far {w:World} {b b':Nat} {x0 x1 x2:Value} (h:Box3 w b x0 x1 x2) (hne:b'≠b) (x y z:Value):Box3 (Go.Proofs.YtindfaehjoileaaGreatDoor.st3 w b' x y z) b x0 x1 x2 :=
 ((h.far hne 0 x).far hne 1 y).far hne 2 z
theorem ErrIs.st3 {r:Nat→Addr} {w:World} {t:PErr} {v:Value} {b:Nat} {x0 x1 x2:Value} (h:ErrIs r w t v) (hb:Box3 w b x0 x1 x2) (h0:∀ s,x0≠.string s) (x y z:Value) (hx:∀ s,x≠.string s):ErrIs r (Go.Proofs.YtindfaehjoileaaGreatDoor.st3 w b x y z) t v:=by
 obtain ⟨⟨k0,k1,k2⟩,-,-,-⟩:=hb
 have a1:∀ s,(w.setCell ⟨b,0,none⟩ x).cell? ⟨b,0,none⟩≠some (.string s):=fun s e=>by
  rw [World.cell?_setCell_same' _ _ _ (by rw [k0]; rfl)] at e
  exact hx s (Option.some.inj e)
 have a2:∀ s,((w.setCell ⟨b,0,none⟩ x).setCell ⟨b,1,none⟩ y).cell? ⟨b,0,none⟩≠some (.string s):=fun s e=>by
  rw [World.cell?_setCell_other _ _ _ _ (by simp)] at e
  exact a1 s e
 exact ((h.set (i:=0) (fun s e=>h0 s (Option.some.inj (k0.symm.trans e))) x).set (i:=1) a1 y).set (i:=2) a2 z
theorem below_st3 {B b:Nat} {w0 w:World} (h:Below B w0 w) (hb:B≤b) (x y z:Value):Below B w0 (Go.Proofs.YtindfaehjoileaaGreatDoor.st3 w b x y z):=below_set3 h hb x y z
theorem Glob.st3 {r:Nat→Addr} {w0 w:World} (h:Glob r w0) (hb:Below w0.heap.size w0 w) {b:Nat} (hB:w0.heap.size≤b) (x y z:Value):Glob r (Go.Proofs.YtindfaehjoileaaGreatDoor.st3 w b x y z):=h.below (below_st3 hb hB x y z)
set_option maxHeartbeats 8000000
def cmd0:Value:=.agg #[.string ⟨#[]⟩,.string ⟨#[]⟩,.nilFunc]
def cmdEca:Value:=.agg #[.string ⟨#[110]⟩,.string ⟨#[]⟩,.func (.func 53) #[] #[]]
theorem makers_eca (w:World):Calls Tryz.prog 35 #[.string ⟨#[101,99,97]⟩] w (Ret2 (fun x y _=>x=cmdEca∧y=.bool true) w):=by
 go_enter Tryz.func35,Tryz.ntmps35
 go_wp2_with fail
 exact bodyPost_ret (v:=.tuple #[cmdEca,.bool true]) (by simp [results,Tryz.results35,go_sem,cmdEca]) rfl ⟨_,_,rfl,Below.step (belowAlloc _ _) (belowAlloc _ _),rfl,rfl⟩
theorem makers_no (s:ByteArray) (h:s=⟨#[116,101,120,116]⟩∨s=⟨#[111,110,116,111]⟩∨s=⟨#[111,110,101]⟩∨s=⟨#[116,119,105,110,115]⟩∨s=⟨#[99,111,117,110,116]⟩) (w:World):Calls Tryz.prog 35 #[.string s] w (Ret2 (fun x y _=>x=cmd0∧y=.bool false) w):=by
 rcases h with rfl | rfl | rfl | rfl | rfl <;>
 (go_enter Tryz.func35,Tryz.ntmps35
  go_wp2_with fail
  exact bodyPost_ret (v:=.tuple #[cmd0,.bool false]) (by simp [results,Tryz.results35,go_sem,cmd0]) rfl ⟨_,_,rfl,Below.step (belowAlloc _ _) (belowAlloc _ _),rfl,rfl⟩)
def cmdAsk (c:Nat):Value:=.agg #[.string ⟨#[]⟩,.string ⟨#[114]⟩,.func (.func 62) #[] #[.pointer (some ⟨c,0,none⟩)]]
theorem ask_any (g:Nat) (w:World):Calls Tryz.prog 61 #[.func (.func g) #[] #[]] w (Ret2 (fun x y w'=>∃ c,w.heap.size≤c∧x=cmdAsk c∧w'.cell? ⟨c,0,none⟩=some (.func (.func g) #[] #[])∧y=.bool true) w):=by
 have hmf:∀ (fn:Fn) (first cap:Array Value) (w:World),(Instr.makeFunc fn first cap).run Tryz.prog w=.ok (.func fn first cap) w:=fun _ _ _ _=>rfl
 go_enter Tryz.func61,Tryz.ntmps61
 go_wp2_with fail
 refine bodyPost_ret (v:=.tuple #[cmdAsk w.heap.size,.bool true]) (by simp [results,Tryz.results61,go_sem,cmdAsk]) rfl ⟨_,_,rfl,Below.step (belowAlloc _ _) (belowAlloc _ _),_,Nat.le_refl _,rfl,?_,rfl⟩
 simp [go_sem]
def AskOf (s:ByteArray) (g:Nat):Prop:=(s=⟨#[116,101,120,116]⟩∧g=63)∨(s=⟨#[111,110,116,111]⟩∧g=64)∨(s=⟨#[111,110,101]⟩∧g=68)∨(s=⟨#[116,119,105,110,115]⟩∧g=71)
theorem deciders_yes (s:ByteArray) (g:Nat) (h:AskOf s g) (w:World) :
 Calls Tryz.prog 36 #[.string s] w (Ret2 (fun x y w'=>∃ c,w.heap.size≤c∧x=cmdAsk c∧w'.cell? ⟨c,0,none⟩=some (.func (.func g) #[] #[])∧y=.bool true) w):=by
 have q:Box3 (w.alloc (.cells #[.string ⟨#[]⟩,.string ⟨#[]⟩,.nilFunc] 68)) w.heap.size (.string ⟨#[]⟩) (.string ⟨#[]⟩) .nilFunc:=by simp [Box3,go_sem]
 rcases h with ⟨rfl,rfl⟩ | ⟨rfl,rfl⟩ | ⟨rfl,rfl⟩ | ⟨rfl,rfl⟩ <;>
 (go_enter Tryz.func36,Tryz.ntmps36
  go_wp2_with fail
  refine (ask_any _ _).mono ?_
  rintro e w1 ⟨x,y,rfl,b1,c,hc,hx,hcell,rfl⟩
  obtain ⟨⟨z0,z1,z2⟩,f0,f1,f2⟩:=q.below b1
  unfold cmdAsk at hx
  subst hx
  replace hcell:=Hd hcell
  go_wp2_with fail
  have hc1:w.heap.size+1≤c:=by simpa using hc
  have hne:c≠w.heap.size:=by omega
  refine bodyPost_ret (v:=.tuple #[cmdAsk c,.bool true]) (by simp [results,Tryz.results36,go_sem,cmdAsk,z0,z1,z2]) rfl ⟨_,_,rfl,below_set3 (Below.step (belowAlloc _ _) b1) (Nat.le_refl _) _ _ _,c,by omega,rfl,?_,rfl⟩
  simpa [go_sem,hne.symm,hne] using hcell.out)
theorem deciders_no (w:World):Calls Tryz.prog 36 #[.string ⟨#[99,111,117,110,116]⟩] w (Ret2 (fun x y _=>x=cmd0∧y=.bool false) w):=by
 go_enter Tryz.func36,Tryz.ntmps36
 go_wp2_with fail
 exact bodyPost_ret (v:=.tuple #[cmd0,.bool false]) (by simp [results,Tryz.results36,go_sem,cmd0]) rfl ⟨_,_,rfl,belowAlloc _ _,rfl,rfl⟩
theorem changers_no (w:World):Calls Tryz.prog 37 #[.string ⟨#[99,111,117,110,116]⟩] w (Ret2 (fun x y _=>x=cmd0∧y=.bool false) w):=by
 go_enter Tryz.func37,Tryz.ntmps37
 go_wp2_with fail
 exact bodyPost_ret (v:=.tuple #[cmd0,.bool false]) (by simp [results,Tryz.results37,go_sem,cmd0]) rfl ⟨_,_,rfl,belowAlloc _ _,rfl,rfl⟩
end Go.Proofs.YtindfaehjoileaaGreatDoor
namespace Go.Proofs.YtindfaehjoileaaGreatDoor
open Go.RowKit
set_option maxRecDepth 100000
def wordedV (c:Nat):Value:=.func (.func 188) #[] #[.pointer (some ⟨c,0,none⟩)]
theorem worded_any (fn:Fn) (a b:Array Value) (w:World):Calls Tryz.prog 90 #[.func fn a b] w (Ret1 (fun x w'=>x=wordedV w.heap.size∧w'.cell? ⟨w.heap.size,0,none⟩=some (.func fn a b)) w):=by
 have hmf:∀ (fn:Fn) (first cap:Array Value) (w:World),(Instr.makeFunc fn first cap).run Tryz.prog w=.ok (.func fn first cap) w:=fun _ _ _ _=>rfl
 go_enter Tryz.func90,Tryz.ntmps90
 go_wp2_with fail
 refine bodyPost_ret (v:=wordedV w.heap.size) (by simp [results,Tryz.results90,go_sem,wordedV]) rfl ⟨_,rfl,belowAlloc _ _,rfl,?_⟩
 simp [go_sem]
theorem textw_any (g:Nat) (w:World):Calls Tryz.prog 97 #[.func (.func g) #[] #[]] w (Ret1 (fun x w'=>∃ c,w.heap.size≤c∧x=wordedV c∧w'.cell? ⟨c,0,none⟩=some (.func (.func 98) #[] #[.pointer (some ⟨w.heap.size,0,none⟩)])∧w'.cell? ⟨w.heap.size,0,none⟩=some (.func (.func g) #[] #[])) w):=by
 have hmf:∀ (fn:Fn) (first cap:Array Value) (w:World),(Instr.makeFunc fn first cap).run Tryz.prog w=.ok (.func fn first cap) w:=fun _ _ _ _=>rfl
 have q:∀ T:TypeId,(w.alloc (.cells #[.func (.func g) #[] #[]] T)).cell? ⟨w.heap.size,0,none⟩=some (.func (.func g) #[] #[]):=by intro T; simp [go_sem]
 go_enter Tryz.func97,Tryz.ntmps97
 go_wp2_with fail
 refine (worded_any _ _ _ _).mono ?_
 rintro e w1 ⟨x,rfl,b1,rfl,hc⟩
 replace hc:=Hd hc
 go_wp2_with fail
 have hs:∀ (x:Value) (T:TypeId),(w.alloc (.cells #[x] T)).heap.size=w.heap.size+1:=by intro x T; simp
 refine bodyPost_ret (v:=wordedV (w.heap.size+1)) (by simp [results,Tryz.results97,go_sem,wordedV]) rfl ⟨_,rfl,Below.step (belowAlloc _ _) b1,w.heap.size+1,by omega,rfl,?_,(b1.cell (by simp)).trans (q _)⟩
 have h:=hc.out
 rw [hs] at h
 exact h
def cmdCnt (c:Nat):Value:=.agg #[.string ⟨#[116]⟩,.string ⟨#[114]⟩,wordedV c]
theorem counters_yes (w:World) :
 Calls Tryz.prog 38 #[.string ⟨#[99,111,117,110,116]⟩] w (Ret2 (fun x y w'=>∃ c d,w.heap.size≤c∧w.heap.size≤d∧x=cmdCnt c∧w'.cell? ⟨c,0,none⟩=some (.func (.func 98) #[] #[.pointer (some ⟨d,0,none⟩)])∧w'.cell? ⟨d,0,none⟩=some (.func (.func 99) #[] #[])∧y=.bool true) w):=by
 have q:Box3 (w.alloc (.cells #[.string ⟨#[]⟩,.string ⟨#[]⟩,.nilFunc] 68)) w.heap.size (.string ⟨#[]⟩) (.string ⟨#[]⟩) .nilFunc:=by simp [Box3,go_sem]
 go_enter Tryz.func38,Tryz.ntmps38
 go_wp2_with fail
 refine (textw_any _ _).mono ?_
 rintro e w1 ⟨x,rfl,b1,c,hc,hx,hcell,hcell2⟩
 obtain ⟨⟨z0,z1,z2⟩,f0,f1,f2⟩:=q.below b1
 unfold wordedV at hx
 subst hx
 replace hcell:=Hd hcell
 replace hcell2:=Hd hcell2
 go_wp2_with fail
 have hs:∀ (x:Obj),(w.alloc x).heap.size=w.heap.size+1:=by intro x; simp
 have hc1:w.heap.size+1≤c:=by simpa using hc
 have hne:c≠w.heap.size:=by omega
 have h1:=hcell.out
 have h2:=hcell2.out
 rw [hs] at h1 h2
 refine bodyPost_ret (v:=.tuple #[cmdCnt c,.bool true]) (by simp [results,Tryz.results38,go_sem,cmdCnt,wordedV,z0,z1,z2]) rfl ⟨_,_,rfl,below_set3 (Below.step (belowAlloc _ _) b1) (Nat.le_refl _) _ _ _,c,w.heap.size+1,by omega,by omega,rfl,?_,?_,rfl⟩
 ·simpa [go_sem,hne.symm,hne] using h1
 ·simpa [go_sem] using h2
set_option maxHeartbeats 8000000
def CmdIs (P:ByteArray→ByteArray→Fn→Array Value→Array Value→List (Addr×Value)→Prop) (B:Nat) (x:Value) (w:World):Prop :=
 ∃ fo wa fn a b L,x=.agg #[.string fo,.string wa,.func fn a b]∧P fo wa fn a b L∧∀ p∈L,B≤p.1.block∧w.cell? p.1=some p.2
theorem CmdIs.mono {P:ByteArray→ByteArray→Fn→Array Value→Array Value→List (Addr×Value)→Prop} {B B':Nat} {x:Value} {w w':World} (h:CmdIs P B x w) (hB:B'≤B) (hw:∀ p:Addr,B≤p.block→∀ v,w.cell? p=some v→w'.cell? p=some v):CmdIs P B' x w':=by
 obtain ⟨fo,wa,fn,a,b,L,rfl,hP,hL⟩:=h
 exact ⟨fo,wa,fn,a,b,L,rfl,hP,fun p hp=>⟨Nat.le_trans hB (hL p hp).1,hw _ (hL p hp).1 _ (hL p hp).2⟩⟩
def finder:Nat→Nat
 | 0=>35
 | 1=>36
 | 2=>37
 | _=>38
theorem far_cell3 {w:World} {p:Addr} {b:Nat} {x y z:Value} (h:b≠p.block):(((w.setCell ⟨b,0,none⟩ x).setCell ⟨b,1,none⟩ y).setCell ⟨b,2,none⟩ z).cell? p=w.cell? p:=by
 have h1:∀ i,(⟨b,i,none⟩:Addr)≠p:=fun i e=>h (by rw [← e])
 simp [World.cell?_setCell_other,h1]
theorem find_at (P:ByteArray→ByteArray→Fn→Array Value→Array Value→List (Addr×Value)→Prop) (s:ByteArray) (k:Nat) (hk:k≤3)
 (hno:∀ j,j<k→∀ w',Calls Tryz.prog (finder j) #[.string s] w' (Ret2 (fun x y _=>x=cmd0∧y=.bool false) w'))
 (hyes:∀ w',Calls Tryz.prog (finder k) #[.string s] w' (Ret2 (fun x y w''=>CmdIs P w'.heap.size x w''∧y=.bool true) w')) (w:World) :
 Calls Tryz.prog 22 #[.string s] w (Ret2 (fun x y w'=>CmdIs P w.heap.size x w'∧y=.bool true) w):=by
 obtain ⟨w2,hw2⟩:∃ W:World,(w.alloc (.cells #[.string ⟨#[]⟩,.string ⟨#[]⟩,.nilFunc] 68)).alloc (.cells #[.func (.func 35) #[] #[],.func (.func 36) #[] #[],.func (.func 37) #[] #[],.func (.func 38) #[] #[],.func (.func 39) #[] #[]] 70)=W:=⟨_,rfl⟩
 have b0:Below w.heap.size w w2:=by rw [← hw2]; exact Below.step (belowAlloc w _) (belowAlloc _ _)
 have hs2:w2.heap.size=w.heap.size+2:=by rw [← hw2]; simp
 have q:Box3 w2 w.heap.size (.string ⟨#[]⟩) (.string ⟨#[]⟩) .nilFunc:=by rw [← hw2]; simp [Box3,go_sem]
 have hcs:∀ j,j≤3→w2.cell? ⟨w.heap.size+1,j,none⟩=some (.func (.func (finder j)) #[] #[]):=by
  intro j hj
  obtain rfl | rfl | rfl | rfl:j=0∨j=1∨j=2∨j=3:=by omega
  all_goals (rw [← hw2]; simp [go_sem,finder])
 replace hno:=Hd hno
 replace hyes:=Hd hyes
 replace hcs:=Hd hcs
 replace hs2:=Hd hs2
 replace hw2:=Hd hw2
 go_enter Tryz.func22,Tryz.ntmps22
 go_wp2_with fail
 rw [hw2.out]
 go_loopw [10] (fun iv wr=>∃ i:Nat,i≤k∧iv=.int .i64 i∧Below w2.heap.size w2 wr) (fun iv _=>k+1-(intOf iv).toNat)
 case atStart=>exact ⟨0,Nat.zero_le _,rfl,Below.refl _ _⟩
 case round =>
  obtain ⟨i,hi,rfl,hB⟩:=hrel
  obtain ⟨wo,rfl⟩:∃ wo:World,wo=wr:=⟨_,rfl⟩
  have hc:wo.cell? ⟨w.heap.size+1,i,none⟩=some (.func (.func (finder i)) #[] #[]):=(hB.cell (by rw [hs2.out]; exact Nat.lt_succ_self _)).trans (hcs.out i (by omega))
  have d5:decide ((i:Int)<5)=true:=decide_eq_true (by omega)
  have i3:(i:Int).toNat<5:=by omega
  have h4:i=0∨i=1∨i=2∨i=3:=by omega
  by_cases hik:i=k
  ·subst hik
   have hy:=hyes.out
   rcases h4 with rfl | rfl | rfl | rfl
   all_goals
    simp only [finder] at hc hy
    go_wp2_with fail
    refine (hy _).mono ?_
    rintro e w3 ⟨x,y,rfl,b3,⟨fo,wa,fn,a,b,L,rfl,hP,hL⟩,rfl⟩
    replace hP:=Hd hP
    replace hL:=Hd hL
    have qa:=(q.below hB).below b3
    have lt:w.heap.size<w3.heap.size:=World.block_lt_of_cell? _ _ qa.1.1
    have ne:w.heap.size≠w3.heap.size:=by omega
    obtain ⟨⟨z0,z1,z2⟩,f0,f1,f2⟩:=id qa
    have bw:Below w.heap.size w w3:=Below.step (Below.step b0 hB) b3
    clear hc d5 i3
    replace qa:=Hd qa
    go_wp2_with fail
    have qf:=(qa.out.st3 (.string fo) (.string wa) (.func fn a b)).alloc (.cells #[.string fo,.string wa,.func fn a b] 68)
    unfold st3 at qf
    obtain ⟨⟨y0,y1,y2⟩,-,-,-⟩:=qf
    refine bodyPost_ret (v:=.tuple #[.agg #[.string fo,.string wa,.func fn a b],.bool true]) (by simp [results,Tryz.results22,go_sem,y0,y1,y2]) rfl ⟨_,_,rfl,Below.step (below_set3 bw (Nat.le_refl _) _ _ _) (belowAlloc _ _),⟨fo,wa,fn,a,b,L,rfl,hP.out,fun p hp=>?_⟩,rfl⟩
    obtain ⟨hp1,hp2⟩:=hL.out p hp
    have hs:=hB.size
    have h2:=hs2.out
    refine ⟨by omega,?_⟩
    have hX:=(far_cell3 (x:=.string fo) (y:=.string wa) (z:=.func fn a b) (b:=w.heap.size) (by omega)).trans hp2
    exact ((belowAlloc _ _).cell (World.block_lt_of_cell? _ _ hX)).trans hX
  ·have hik2:i<k:=by omega
   have hn:=hno.out i hik2
   obtain rfl | rfl | rfl:i=0∨i=1∨i=2:=by omega
   all_goals
    simp only [finder] at hc hn
    go_wp2_with fail
    refine (hn _).mono ?_
    rintro e w3 ⟨x,y,rfl,b3,hx,rfl⟩
    unfold cmd0 at hx
    subst hx
    have bw:=hB.trans (b3.mono hB.size)
    clear hc d5 i3
    go_wp2_with fail
    go_roundw
    case measure=>simp only [intOf,Int.toNat]; omega
    case rel=>exact ⟨_,hik2,by go_num,Below.step bw (belowAlloc _ _)⟩
end Go.Proofs.YtindfaehjoileaaGreatDoor
namespace Go.Proofs.YtindfaehjoileaaGreatDoor
open Go.RowKit
set_option maxRecDepth 100000
def PEca (fo wa:ByteArray) (fn:Fn) (a b:Array Value) (L:List (Addr×Value)):Prop:=fo=⟨#[110]⟩∧wa=⟨#[]⟩∧fn=.func 53∧a=#[]∧b=#[]∧L=[]
def PAsk (g:Nat) (fo wa:ByteArray) (fn:Fn) (a b:Array Value) (L:List (Addr×Value)):Prop:=fo=⟨#[]⟩∧wa=⟨#[114]⟩∧fn=.func 62∧a=#[]∧∃ c,b=#[.pointer (some ⟨c,0,none⟩)]∧L=[(⟨c,0,none⟩,.func (.func g) #[] #[])]
def PCnt (fo wa:ByteArray) (fn:Fn) (a b:Array Value) (L:List (Addr×Value)):Prop:=fo=⟨#[116]⟩∧wa=⟨#[114]⟩∧fn=.func 188∧a=#[]∧∃ c d,b=#[.pointer (some ⟨c,0,none⟩)]∧L=[(⟨c,0,none⟩,.func (.func 98) #[] #[.pointer (some ⟨d,0,none⟩)]),(⟨d,0,none⟩,.func (.func 99) #[] #[])]
inductive Named:ByteArray→(ByteArray→ByteArray→Fn→Array Value→Array Value→List (Addr×Value)→Prop)→Prop
 | eca:Named ⟨#[101,99,97]⟩ PEca
 | ask (s:ByteArray) (g:Nat) (h:AskOf s g):Named s (PAsk g)
 | cnt:Named ⟨#[99,111,117,110,116]⟩ PCnt
theorem AskOf.any {s:ByteArray} {g:Nat} (h:AskOf s g):s=⟨#[116,101,120,116]⟩∨s=⟨#[111,110,116,111]⟩∨s=⟨#[111,110,101]⟩∨s=⟨#[116,119,105,110,115]⟩∨s=⟨#[99,111,117,110,116]⟩:=by
 rcases h with h | h | h | h
 ·exact .inl h.1
 ·exact .inr (.inl h.1)
 ·exact .inr (.inr (.inl h.1))
 ·exact .inr (.inr (.inr (.inl h.1)))
theorem find_any {s:ByteArray} {P:ByteArray→ByteArray→Fn→Array Value→Array Value→List (Addr×Value)→Prop} (h:Named s P) (w:World) :
 Calls Tryz.prog 22 #[.string s] w (Ret2 (fun x y w'=>CmdIs P w.heap.size x w'∧y=.bool true) w):=by
 cases h with
 | eca =>
  refine find_at _ _ 0 (by omega) (fun j hj=>by omega) (fun w'=>(makers_eca w').mono ?_) w
  rintro e w'' ⟨x,y,he,b,rfl,rfl⟩
  exact ⟨_,_,he,b,⟨_,_,_,_,_,[],rfl,⟨rfl,rfl,rfl,rfl,rfl,rfl⟩,fun p hp=>by cases hp⟩,rfl⟩
 | ask _ g h =>
  refine find_at _ _ 1 (by omega) (fun j hj w'=>?_) (fun w'=>(deciders_yes s g h w').mono ?_) w
  ·obtain rfl:j=0:=by omega
   exact makers_no s h.any w'
  ·rintro e w'' ⟨x,y,he,b,c,hc,rfl,hcell,rfl⟩
   exact ⟨_,_,he,b,⟨_,_,_,_,_,[(⟨c,0,none⟩,.func (.func g) #[] #[])],rfl,⟨rfl,rfl,rfl,rfl,c,rfl,rfl⟩,fun p hp=>by rw [List.mem_singleton.1 hp]; exact ⟨hc,hcell⟩⟩,rfl⟩
 | cnt =>
  refine find_at _ _ 3 (by omega) (fun j hj w'=>?_) (fun w'=>(counters_yes w').mono ?_) w
  ·obtain rfl | rfl | rfl:j=0∨j=1∨j=2:=by omega
   ·exact makers_no _ (.inr (.inr (.inr (.inr rfl)))) w'
   ·exact deciders_no w'
   ·exact changers_no w'
  ·rintro e w'' ⟨x,y,he,b,c,d,hc,hd,rfl,h1,h2,rfl⟩
   refine ⟨_,_,he,b,⟨_,_,_,_,_,[(⟨c,0,none⟩,.func (.func 98) #[] #[.pointer (some ⟨d,0,none⟩)]),(⟨d,0,none⟩,.func (.func 99) #[] #[])],rfl,⟨rfl,rfl,rfl,rfl,c,d,rfl,rfl⟩,fun p hp=>?_⟩,rfl⟩
   rcases List.mem_cons.1 hp with rfl | hp
   ·exact ⟨hc,h1⟩
   ·rw [List.mem_singleton.1 hp]; exact ⟨hd,h2⟩
end Go.Proofs.YtindfaehjoileaaGreatDoor
namespace Go.Proofs.YtindfaehjoileaaGreatDoor
open Go.Lib
def spaceB (n:Nat):ByteArray:=⟨Array.replicate n 32⟩
theorem spaceB_size (n:Nat):(spaceB n).size=n:=by simp [spaceB,ByteArray.size]
theorem spaceB_list (n:Nat):(spaceB n).data.toList=List.replicate n 32:=by simp [spaceB]
def isSp (x:Nat):Bool:=decide (x=32)
theorem space_decode {n i:Nat} (h:i<n):Utf8.decode (spaceB n) i=(32,1):=by
 have e:(spaceB n).get! i=32:=by
  show (Array.replicate n (32:UInt8))[i]! = 32
  rw [getElem!_pos _ i (by simpa using h)]; simp
 unfold Utf8.decode
 simp only [Nat.add_zero,e]
 rfl
theorem spans_space {n:Nat}:∀ f pos:Nat,spansFromP isSp (spaceB n) f pos none []=([],none)
 | 0,_=>rfl
 | f+1,pos=>by
  unfold spansFromP
  split
  ·rename_i h
   rw [spaceB_size] at h
   rw [space_decode h]
   exact spans_space f _
  ·rfl
theorem fields_space (n:Nat):goFieldsP isSp (spaceB n)=[]:=by
 unfold goFieldsP spansOfP
 rw [spans_space]; rfl
def nlB:ByteArray:=⟨#[10]⟩
theorem count_space (n:Nat):countB (spaceB n) nlB=0:=by
 show count (spaceB n).data.toList [10]=0
 rw [count_one,spaceB_list]
 induction n with
 | zero=>rfl
 | succ n ih=>rw [List.replicate_succ,List.count_cons,ih]; rfl
theorem split_space (n:Nat):splitB nlB 0 (countB (spaceB n) nlB) (spaceB n)=[spaceB n]:=by
 rw [count_space]; rfl
def awB:ByteArray:=⟨#[101,99,97,32,50,51,50,10,116,101,120,116,10,111,110,116,111,10,111,110,101,10,116,119,105,110,115,10,99,111,117,110,116,32,48,49,48,48,49]⟩
def l0B:ByteArray:=⟨#[101,99,97,32,50,51,50]⟩
def l1B:ByteArray:=⟨#[116,101,120,116]⟩
def l2B:ByteArray:=⟨#[111,110,116,111]⟩
def l3B:ByteArray:=⟨#[111,110,101]⟩
def l4B:ByteArray:=⟨#[116,119,105,110,115]⟩
def l5B:ByteArray:=⟨#[99,111,117,110,116,32,48,49,48,48,49]⟩
theorem count_aw:countB awB nlB=5:=by decide +kernel
theorem split_aw:splitB nlB 0 5 awB=[l0B,l1B,l2B,l3B,l4B,l5B]:=by decide +kernel
def w0B:ByteArray:=⟨#[101,99,97]⟩
def n0B:ByteArray:=⟨#[50,51,50]⟩
def w5B:ByteArray:=⟨#[99,111,117,110,116]⟩
def n5B:ByteArray:=⟨#[48,49,48,48,49]⟩
theorem fields0:goFieldsP isSp l0B=[w0B,n0B]:=by decide +kernel
theorem fields1:goFieldsP isSp l1B=[l1B]:=by decide +kernel
theorem fields2:goFieldsP isSp l2B=[l2B]:=by decide +kernel
theorem fields3:goFieldsP isSp l3B=[l3B]:=by decide +kernel
theorem fields4:goFieldsP isSp l4B=[l4B]:=by decide +kernel
theorem fields5:goFieldsP isSp l5B=[w5B,n5B]:=by decide +kernel
end Go.Proofs.YtindfaehjoileaaGreatDoor
namespace Go.Proofs.YtindfaehjoileaaGreatDoor
open Go.RowKit Go.Shelf
set_option maxRecDepth 100000
def Tryz.laysFf_ren:Go.Shelf.Ren:=⟨fun | 229=>20 | n=>n,fun | 9=>9 | 40=>65 | 31=>29 | 152=>91 | 3=>3 | 0=>0 | 4=>4 | 21=>21 | 154=>93 | n=>n,fun | n=>n⟩
theorem Tryz.laysFf:Go.Proofs.Lays.n229 Tryz.prog Tryz.laysFf_ren:={
 mixed:=by kernel_rfl
 f229:=Tryz.func20.trans (congrArg some (by kernel_rfl))
 t0:=Tryz.underlying0
 a0:=Tryz.isAgg0
 z0:=Tryz.sizeOf0
 v0:=Tryz.zeroValue0
 t3:=Tryz.underlying3
 a3:=Tryz.isAgg3
 z3:=Tryz.sizeOf3
 v3:=Tryz.zeroValue3
 t4:=Tryz.underlying4
 a4:=Tryz.isAgg4
 z4:=Tryz.sizeOf4
 v4:=Tryz.zeroValue4
 t9:=Tryz.underlying9
 a9:=Tryz.isAgg9
 z9:=Tryz.sizeOf9
 v9:=Tryz.zeroValue9
 t21:=Tryz.underlying21
 a21:=Tryz.isAgg21
 z21:=Tryz.sizeOf21
 v21:=Tryz.zeroValue21
 t31:=Tryz.underlying29
 a31:=Tryz.isAgg29
 z31:=Tryz.sizeOf29
 v31:=Tryz.zeroValue29
 t40:=Tryz.underlying65
 a40:=Tryz.isAgg65
 z40:=Tryz.sizeOf65
 v40:=Tryz.zeroValue65
 t152:=Tryz.underlying91
 a152:=Tryz.isAgg91
 z152:=Tryz.sizeOf91
 v152:=Tryz.zeroValue91
 t154:=Tryz.underlying93
 a154:=Tryz.isAgg93
 z154:=Tryz.sizeOf93
 v154:=Tryz.zeroValue93 }
theorem isSp_any (w:World):PredAt Tryz.prog 21 #[] encR isSp w:=by
 intro W x _
 go_enter Tryz.func21,Tryz.ntmps21
 unfold encR
 go_wp2
 have e:((x:Int)==32)=isSp x:=by
  unfold isSp
  rw [Bool.eq_iff_iff]; simp; omega
 rw [e]
 go_ret
 exact ⟨rfl,0,rfl⟩
theorem fields_any (s:ByteArray) (w:World) (hs:s.size≤4294967296) :
 Calls Tryz.prog 20 #[.string s,.func (.func 21) #[] #[]] w fun e w'=>∃ A,e=.returned (.slice (some ⟨A,0,none⟩) (Lib.goFieldsP isSp s).length (Lib.goFieldsP isSp s).length)∧w.heap.size≤A ∧
  (∀ j x,(Lib.goFieldsP isSp s)[j]?=some x→w'.cell? ⟨A,j,none⟩=some (.string x))∧Below w.heap.size w w':=by
 refine (Any.strings_FieldsFunc Tryz.laysFf 21 #[] (enters_of Tryz.func21 (by kernel_rfl) rfl) isSp s w hs (isSp_any w) (by kernel_rfl) (by kernel_rfl)).mono ?_
 rintro e w' ⟨A,rfl,hA,ho,hb⟩
 refine ⟨A,rfl,hA,fun j x hx=>?_,hb⟩
 obtain ⟨hj,-⟩:=List.getElem?_eq_some_iff.1 hx
 rw [World.ownsRow.cellAt ho j (by omega),List.getElem?_map,hx]
 rfl
end Go.Proofs.YtindfaehjoileaaGreatDoor
