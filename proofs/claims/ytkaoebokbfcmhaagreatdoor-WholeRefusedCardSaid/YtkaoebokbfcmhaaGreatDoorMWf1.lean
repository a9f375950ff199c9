/-
  Texts that the proof leans on.
-/
import Derived.Calls
import Derived.Lib.Hide
import Derived.Test.YtkaoebokbfcmhaaGreatDoorProg
import Derived.KernelRfl
import Derived.WalkKit
import Derived.WalkSpells
import Derived.WalkLawsBesides
import Derived.Maps.AppendAt
import Derived.BigQuiet
import Derived.Deep.QuietTactic
import Derived.Laws.CopyOwn
import Derived.Deep.RegionHeld3
import Derived.Lib.AppendZeros
import Derived.RegionTactic
namespace Go.Proofs.YtkaoebokbfcmhaaGreatDoor
theorem Hd {p:Prop} (h:p):RowKit.Hid p:=h
theorem pq:(∀ (a:Act) (v:Value),a.put none v=a)∧(∀ (a:Act) (k:Tmp) (v:Value),a.put (some k) v={ a with tmps:=a.tmps.setIfInBounds k v })∧(∀ (l:List Value) (i:Nat) (v:Value),l.toArray.setIfInBounds i v=(l.set i v).toArray)∧(∀ (x v:Value) (l:List Value),(x::l).set 0 v=v::l)∧(∀ (x v:Value) (l:List Value) (n:Nat),(x::l).set (n+1) v=x::l.set n v) :=
 ⟨fun _ _=>rfl,fun _ _ _=>rfl,fun _ _ _=>by simp,fun _ _ _=>rfl,fun _ _ _ _=>rfl⟩
open Go.RowKit
def valAt (v:Value) (i:Nat):Addr:=match v with | .slice (some p) _ _=>p.add i | _=>default
def IntsAt (w:World) (v:Value) (xs:List Int):Prop :=
 ∃ a cap,v=.slice a xs.length cap∧xs.length≤cap∧cap≤maxLen∧(a=none→cap=0)∧∀ i (h:i<xs.length),w.cell? (valAt v i)=some (.int .i64 xs[i])
theorem IntsAt.len_le {w:World} {v:Value} {xs:List Int} (h:IntsAt w v xs):xs.length≤9223372036854775807:=by
 obtain ⟨a,cap,rfl,h1,h2,_⟩:=h
 unfold maxLen at h2; omega
theorem uInts:Tryz.prog.underlying 22=some (.slice 3):=by kernel_rfl
theorem iInt:(Tryz.prog.info? 3).map (fun i=>(i.zero,i.size,i.bytes))=some (some (.int .i64 0),1,8):=by kernel_rfl
theorem eInts:Tryz.prog.elem 22=3:=by kernel_rfl
theorem uIntsE:Tryz.prog.underlying 22=some (.slice (Tryz.prog.elem 22)):=by rw [eInts]; exact uInts
theorem sInt (w:World):(sizeOf 3).run Tryz.prog w=.ok 1 w:=by kernel_rfl
theorem IntsAt.len {w:World} {v:Value} {xs:List Int} (h:IntsAt w v xs) (w':World) :
 (Builtin.len_ #[22] 3 #[v]).run Tryz.prog w'=.ok (.int .i64 xs.length) w':=by
 obtain ⟨a,cap,rfl,h1,h2,h3,h4⟩:=h
 rw [run_len_slice _ _ _ _ _ _ uIntsE]
 rfl
theorem IntsAt.idx {w:World} {v:Value} {xs:List Int} (h:IntsAt w v xs) (i:Nat) (hi:i<xs.length) (w':World) :
 (Instr.indexAt 22 v (.int .i64 i)).run Tryz.prog w'=.ok (.pointer (some (valAt v i))) w':=by
 obtain ⟨a,cap,rfl,h1,h2,h3,h4⟩:=h
 cases a with
 | none=>have:=h3 rfl; omega
 | some p =>
  rw [run_indexAt_slice _ _ _ _ _ _ _ uIntsE,if_pos (by omega),eInts,sInt]
  simp [valAt]
theorem IntsAt.idxI {w:World} {v:Value} {xs:List Int} (h:IntsAt w v xs) (i:Int) (h0:0≤i) (hi:i<xs.length) (w':World) :
 (Instr.indexAt 22 v (.int .i64 i)).run Tryz.prog w'=.ok (.pointer (some (valAt v i.toNat))) w':=by
 have:=h.idx i.toNat (by omega) w'
 rwa [Int.toNat_of_nonneg h0] at this
theorem IntsAt.cell {w:World} {v:Value} {xs:List Int} (h:IntsAt w v xs) (i:Nat) (hi:i<xs.length) :
 w.cell? (valAt v i)=some (.int .i64 xs[i]):=by
 obtain ⟨a,cap,rfl,h1,h2,h3,h4⟩:=h
 exact h4 i hi
theorem IntsAt.cellD {w:World} {v:Value} {xs:List Int} (h:IntsAt w v xs) (i:Nat) (hi:i<xs.length) :
 w.cell? (valAt v i)=some (.int .i64 (xs.getD i 0)):=by
 rw [h.cell i hi]; simp [List.getD,hi]
theorem IntsAt.blk {w:World} {v:Value} {xs:List Int} (h:IntsAt w v xs) (i:Nat) (hi:i<xs.length):(valAt v i).block<w.heap.size :=
 World.block_lt_of_cell? _ _ (h.cell i hi)
theorem IntsAt.below {w w':World} {v:Value} {xs:List Int} (h:IntsAt w v xs) (hb:Below w.heap.size w w'):IntsAt w' v xs:=by
 have hk:=h.blk
 obtain ⟨a,cap,e,h1,h2,h3,h4⟩:=h
 exact ⟨a,cap,e,h1,h2,h3,fun i hi=>by rw [hb.cell (hk i hi)]; exact h4 i hi⟩
theorem IntsAt.cells_eq {w w':World} {v:Value} {xs:List Int} (h:IntsAt w v xs) (hc:∀ i,i<xs.length→w'.cell? (valAt v i)=w.cell? (valAt v i)):IntsAt w' v xs:=by
 obtain ⟨a,cap,e,h1,h2,h3,h4⟩:=h
 exact ⟨a,cap,e,h1,h2,h3,fun i hi=>by rw [hc i hi]; exact h4 i hi⟩
def OwnI (B:Nat) (w:World) (v:Value) (xs:List Int):Prop:=w.ownsRow B 3 1 v xs.length (xs.map (Value.int .i64))
theorem OwnI.nil (B:Nat) (w:World):OwnI B w (.slice none 0 0) []:=World.ownsRow_nil w B _ 1
theorem OwnI.at {B:Nat} {w:World} {v:Value} {xs:List Int} (h:OwnI B w v xs):IntsAt w v xs:=by
 rcases h.2 with ⟨rfl,hn⟩ | ⟨g,cap,cur,rfl,hb,hg,hn,hm,hs,ht⟩
 ·obtain rfl:=List.length_eq_zero_iff.1 hn
  exact ⟨none,0,rfl,by simp,by simp,fun _=>rfl,by simp⟩
 ·refine ⟨some ⟨g,0,none⟩,cap,rfl,hn,hm,(by intro e; cases e),fun i hi=>?_⟩
  exact World.ownsRow.cells h (g:=g) rfl i _ (by simp [hi])
theorem OwnI.mono {B B':Nat} {w:World} {v:Value} {xs:List Int} (h:OwnI B w v xs) (hB:B'≤B):OwnI B' w v xs:=by
 refine ⟨h.1,?_⟩
 rcases h.2 with h2 | ⟨g,cap,cur,e,hb,r⟩
 ·exact .inl h2
 ·exact .inr ⟨g,cap,cur,e,Nat.le_trans hB hb,r⟩
theorem OwnI.lt {B:Nat} {w:World} {v:Value} {xs:List Int} (h:OwnI B w v xs):∀ k,v.ownBlock=some k→B≤k∧k<w.heap.size:=World.ownsRow.lt h
theorem valAt_row (g i n cap:Nat):valAt (.slice (some ⟨g,0,none⟩) n cap) i=⟨g,i,none⟩:=by
 show (⟨g,0,none⟩:Addr).add i=_
 unfold Addr.add; split<;>simp_all
theorem OwnI.frz {B:Nat} {w:World} {v:Value} {xs:List Int} (h:OwnI B w v xs) (i:Nat) (hi:i<xs.length):w.frozen? (valAt v i)=false:=by
 rcases h.2 with ⟨rfl,hn⟩ | ⟨g,cap,cur,rfl,hb,hg,hn,hm,hs,ht⟩
 ·omega
 ·rw [valAt_row]
  exact frozen_of_row w g i cur _ hg
theorem OwnI.blkB {B:Nat} {w:World} {v:Value} {xs:List Int} (h:OwnI B w v xs) (i:Nat) (hi:i<xs.length):B≤(valAt v i).block:=by
 rcases h.2 with ⟨rfl,hn⟩ | ⟨g,cap,cur,rfl,hb,hg,hn,hm,hs,ht⟩
 ·omega
 ·rw [valAt_row]; exact hb
theorem OwnI.set {B:Nat} {w:World} {v:Value} {xs:List Int} (h:OwnI B w v xs) (i:Nat) (hi:i<xs.length) (y:Int) :
 OwnI B (w.setCell (valAt v i) (.int .i64 y)) v (xs.set i y):=by
 rcases h.2 with ⟨rfl,hn⟩ | ⟨g,cap,cur,rfl,hb,hg,hn,hm,hs,ht⟩
 ·omega
 ·rw [valAt_row]
  have:=(World.ownsRow.stored h i (.int .i64 y)).1
  unfold OwnI
  rw [List.map_set,List.length_set]
  exact this
theorem OwnI.setBelow {B:Nat} {w0 w:World} {v:Value} {xs:List Int} (h:OwnI B w v xs) (hb:Below B w0 w) (i:Nat) (hi:i<xs.length) (y:Value) :
 Below B w0 (w.setCell (valAt v i) y):=hb.setCell (h.blkB i hi) y
theorem OwnI.below {B:Nat} {w w':World} {v:Value} {xs:List Int} (h:OwnI B w v xs) (hb:Below w.heap.size w w'):OwnI B w' v xs:=by
 refine ⟨h.1,?_⟩
 rcases h.2 with h2 | ⟨g,cap,cur,e,hB,hg,r⟩
 ·exact .inl h2
 ·refine .inr ⟨g,cap,cur,e,hB,?_,r⟩
  rw [hb.block g (Array.getElem?_eq_some_iff.1 hg).1]; exact hg
theorem OwnI.alloc {B:Nat} {w:World} {v:Value} {xs:List Int} (h:OwnI B w v xs) (o:Obj):OwnI B (w.alloc o) v xs:=World.ownsRow.alloc h o
theorem OwnI.drew {B:Nat} {w:World} {v:Value} {xs:List Int} (h:OwnI B w v xs):OwnI B w.drew v xs:=h
theorem OwnI.drewN {B:Nat} {w:World} {v:Value} {xs:List Int} (h:OwnI B w v xs) (n:Nat):OwnI B (w.drewN n) v xs:=h
theorem IntsAt.drew {w:World} {v:Value} {xs:List Int} (h:IntsAt w v xs):IntsAt w.drew v xs:=h
theorem IntsAt.drewN {w:World} {v:Value} {xs:List Int} (h:IntsAt w v xs) (n:Nat):IntsAt (w.drewN n) v xs:=h
theorem OwnI.kept {B:Nat} {w w':World} {row:Option Nat} {v:Value} {xs:List Int} (h:OwnI B w v xs) (hg:w.grownBy w' row) (hne:v.ownBlock=none∨v.ownBlock≠row):OwnI B w' v xs:=World.ownsRow.kept h hg hne
theorem OwnI.setOther {B B':Nat} {w:World} {v u:Value} {xs ys:List Int} (h:OwnI B w v xs) (k:OwnI B' w u ys) (hne:v.ownBlock≠u.ownBlock) (i:Nat) (hi:i<ys.length) (y:Value) :
 OwnI B (w.setCell (valAt u i) y) v xs:=by
 rcases k.2 with ⟨rfl,hn⟩ | ⟨g,cap,cur,rfl,hb,hg,hn,hm,hs,ht⟩
 ·omega
 ·rw [valAt_row]
  exact h.kept (row:=some g) ⟨rfl,rfl,rfl,by simp [World.setCell],fun j _ hj=>Below.heap_setCell _ _ _ _ (by simp at hj; omega)⟩ (.inr (by simpa [Value.ownBlock] using hne))
theorem OwnI.lit (B:Nat) (w:World) (hB:B≤w.heap.size) (xs:List Int) (hm:xs.length≤maxLen) (cs:Array Value) (hc:cs.toList=xs.map (Value.int .i64)) (n:Nat) (hn:n=xs.length) :
 OwnI B (w.alloc (.cells cs 3)) (.slice (some ⟨w.heap.size,0,none⟩) n n) xs:=by
 subst hn
 have hs:cs.size=xs.length*1:=by rw [← Array.length_toList,hc]; simp
 have:=World.ownsRow_lit (base:=B) (e:=3) (size:=1) w cs xs.length hB hm hs
 unfold OwnI
 rw [← hc]; exact this
theorem wpl_make0 {w:World} {ops:Array Oper} {rest:List Oper} {o:Oper} {a:Act} {Q:Exit→Act→World→Prop}
 (hg:o.guard=none) (l c:Operand) (hop:o.op=Op.makeSlice 22 l c) (C:Int) (hl:a.eval l=.int .i64 0) (hc:a.eval c=.int .i64 C)
 (h0:0≤C) (hC:C≤17592186044416)
 (hK:∀ v w',OwnI w.heap.size w' v []→Below w.heap.size w w'→wpList Tryz.prog ops Q rest (a.put o.dst v) w') :
 wpList Tryz.prog ops Q (o::rest) a w:=by
 obtain ⟨i,hi,hz0,hz1,hz2⟩:=info_parts iInt
 obtain ⟨n,rfl⟩:=Int.eq_ofNat_of_zero_le h0
 refine wpList_make_own w hg l c 22 hop w.heap.size 3 i (.int .i64 0) 1 uInts hi hz0 hz1 .i64 .i64 n n hl hc rfl (by rw [hz2]; omega) (by unfold maxLen; omega) (Nat.le_refl _) ?_
 intro w' hown hgrow
 exact hK _ _ hown ((Below.refl _ _).grown hgrow (Nat.le_refl _) (by intro k hk; cases hk))
theorem wpl_make {w:World} {ops:Array Oper} {rest:List Oper} {o:Oper} {a:Act} {Q:Exit→Act→World→Prop}
 (hg:o.guard=none) (l c:Operand) (hop:o.op=Op.makeSlice 22 l c) (C:Int) (hl:a.eval l=.int .i64 C) (hc:a.eval c=.int .i64 C)
 (h0:0≤C) (hC:C≤17592186044416)
 (hK:∀ v w',OwnI w.heap.size w' v (List.replicate C.toNat 0)→Below w.heap.size w w'→wpList Tryz.prog ops Q rest (a.put o.dst v) w') :
 wpList Tryz.prog ops Q (o::rest) a w:=by
 obtain ⟨i,hi,hz0,hz1,hz2⟩:=info_parts iInt
 obtain ⟨n,rfl⟩:=Int.eq_ofNat_of_zero_le h0
 refine wpList_make_full w hg l c 22 hop w.heap.size 3 i (.int .i64 0) 1 uInts hi hz0 hz1 .i64 .i64 n n n hl hc rfl rfl (by rw [hz2]; omega) (by unfold maxLen; omega) (Nat.le_refl _) ?_
 intro w' hown hgrow
 refine hK _ _ ?_ ((Below.refl _ _).grown hgrow (Nat.le_refl _) (by intro k hk; cases hk))
 have e:(madeCells (Value.cells (.int .i64 0)) (n*1)).toList=(List.replicate n (0:Int)).map (Value.int .i64):=by
  rw [show Value.cells (.int .i64 0)=#[.int .i64 0] from rfl,toList_madeCells_one]; simp
 rw [e] at hown
 simpa [OwnI] using hown
theorem wpl_append1 {w:World} {ops:Array Oper} {rest:List Oper} {o:Oper} {a:Act} {Q:Exit→Act→World→Prop} (hgd:o.guard=none) (s x:Operand)
 (ho:o.op=.call { callee:=.builtin .append,args:=#[s,x],argTypes:=#[22,22] })
 (B:Nat) (v:Value) (xs:List Int) (y:Int) (hown:OwnI B w v xs) (hs:a.eval s=v) (hx:a.eval x=.slice (some ⟨w.heap.size,0,none⟩) 1 1)
 (hlen:xs.length<17592186044415) (hB:B≤w.heap.size)
 (h:∀ v' w',OwnI B w' v' (xs++[y])→Below B w w'→w.grownBy w' v.ownBlock→(v'.ownBlock=v.ownBlock∨∃ k,v'.ownBlock=some k∧w.heap.size≤k)→wpList Tryz.prog ops Q rest (a.put o.dst v') w') :
 wpList Tryz.prog ops Q (o::rest) a (w.alloc (.cells #[.int .i64 y] 3)):=by
 obtain ⟨i,hi,hz0,hz1,hz2⟩:=info_parts iInt
 have hown':=hown.alloc (.cells #[.int .i64 y] 3)
 refine wpList_append_own_at _ hgd s x 22 ho B 3 i (.int .i64 0) 1 8 uInts hi hz0 hz1 hz2 rfl (by decide) v xs.length _ hs hown' _ 1 1 [.int .i64 y] hx rfl (cell_one_new _ _ _) (by simp [Value.oneCell']) (by unfold maxLen; omega) (by omega) (by simp; omega) ?_
 intro v' w' ho' hgr _ hat
 have hg2:w.grownBy w' v.ownBlock:=(World.grownBy_alloc w _ _).trans hgr
 refine h v' w' (by simpa [OwnI] using ho') ((Below.refl _ _).grown hg2 hB (fun k hk=>(hown.lt k hk).1)) hg2 ?_
 rcases hat with hat | hat
 ·exact .inl hat
 ·exact .inr ⟨_,hat,by simp⟩
theorem wpl_append {w:World} {ops:Array Oper} {rest:List Oper} {o:Oper} {a:Act} {Q:Exit→Act→World→Prop} (hgd:o.guard=none) (s x:Operand)
 (ho:o.op=.call { callee:=.builtin .append,args:=#[s,x],argTypes:=#[22,22] })
 (B:Nat) (v u:Value) (xs ys:List Int) (hown:OwnI B w v xs) (hu:IntsAt w u ys) (hs:a.eval s=v) (hx:a.eval x=u)
 (hlen:xs.length+ys.length≤17592186044416) (hB:B≤w.heap.size)
 (h:∀ v' w',OwnI B w' v' (xs++ys)→Below B w w'→w.grownBy w' v.ownBlock→(v'.ownBlock=v.ownBlock∨∃ k,v'.ownBlock=some k∧w.heap.size≤k)→wpList Tryz.prog ops Q rest (a.put o.dst v') w') :
 wpList Tryz.prog ops Q (o::rest) a w:=by
 obtain ⟨i,hi,hz0,hz1,hz2⟩:=info_parts iInt
 have hu':=hu
 obtain ⟨ao,cap,rfl,h1,h2,h3,h4⟩:=hu
 cases ao with
 | none =>
  obtain rfl:=h3 rfl
  have hy:ys=[]:=List.length_eq_zero_iff.1 (by omega)
  subst hy
  refine wpList_plain hgd fun K hK=>?_
  have hrun:=run_append_owned_none (P:=Tryz.prog) w B 22 o.type 3 i 1 uInts hi v xs.length _ hown
  unfold Oper.wp execOp
  simp only [ho,resolve,invoke,builtin,Sem.run_bind,Sem.run_pure,Result.andThen_ok,List.map_toArray,List.map_cons,List.map_nil,hs,hx]
  rw [show (Value.slice none ([]:List Int).length 0)=.slice none 0 0 from rfl,hrun]
  exact hK _ _ (h v w (by simpa using hown) (Below.refl _ _) (World.grownBy.refl _ _) (.inl rfl))
 | some p =>
  refine wpList_append_own_at _ hgd s x 22 ho B 3 i (.int .i64 0) 1 8 uInts hi hz0 hz1 hz2 rfl (by decide) v xs.length _ hs hown p ys.length cap (ys.map (.int .i64)) hx (by simp) ?_ (ints_oneCell _ _) (by unfold maxLen; omega) (by omega) hB ?_
  ·intro j u hj
   have hjl:j<ys.length:=by have:=(List.getElem?_eq_some_iff.1 hj).1; simpa using this
   have:=h4 j hjl
   simp only [valAt] at this
   rw [this,← hj]; simp [hjl]
  ·intro v' w' ho' hgr _ hat
   refine h v' w' (by simpa [OwnI] using ho') ((Below.refl _ _).grown hgr hB (fun k hk=>(hown.lt k hk).1)) hgr ?_
   rcases hat with hat | hat
   ·exact .inl hat
   ·exact .inr ⟨_,hat,Nat.le_refl _⟩
theorem IntsAt.shape {w:World} {v:Value} {xs:List Int} (h:IntsAt w v xs):∃ a n c,v=.slice a n c:=by
 obtain ⟨a,cap,e,_⟩:=h; exact ⟨_,_,_,e⟩
theorem OwnI.setBelowBase {B:Nat} {w:World} {v:Value} {xs:List Int} (h:OwnI B w v xs) {a:Addr} (ha:a.block<B) (u:Value):OwnI B (w.setCell a u) v xs:=ownsRow_setCell_below h ha u
theorem cells3 {w w':World} {a b c:Value} {T:TypeId} (hb:Below (w.alloc (.cells #[a,b,c] T)).heap.size (w.alloc (.cells #[a,b,c] T)) w') :
 w'.cell? ⟨w.heap.size,0,none⟩=some a∧w'.cell? ⟨w.heap.size,1,none⟩=some b∧w'.cell? ⟨w.heap.size,2,none⟩=some c ∧
 w'.frozen? ⟨w.heap.size,0,none⟩=false∧w'.frozen? ⟨w.heap.size,1,none⟩=false∧w'.frozen? ⟨w.heap.size,2,none⟩=false:=by
 refine ⟨?_,?_,?_,?_,?_,?_⟩
 ·rw [hb.cell (by simp)]; simp
 ·rw [hb.cell (by simp)]; simp
 ·rw [hb.cell (by simp)]; simp
 ·rw [hb.frozen (by simp)]; simp
 ·rw [hb.frozen (by simp)]; simp
 ·rw [hb.frozen (by simp)]; simp
theorem setCell_self {w:World} {a:Addr} {u:Value} (h:w.cell? a=some u):w.setCell a u=w:=by
 have hh:(w.setCell a u).heap=w.heap:=by
  simp only [World.setCell]
  apply Array.ext_getElem?
  intro i
  rw [Array.getElem?_modify]
  split
  ·rename_i e
   subst e
   unfold World.cell? at h
   cases hx:w.heap[a.block]? with
   | none=>rfl
   | some o =>
    rw [hx] at h
    cases o with
    | cells c el fz =>
     simp only at h
     split at h
     ·cases h
     ·rename_i hs
      simp only [Option.map_some,hs]
      congr 2
      apply Array.ext_getElem?
      intro j
      simp only [Bool.false_eq_true,if_false]
      rw [Array.getElem?_setIfInBounds]
      split
      ·rename_i e; subst e
       obtain ⟨hl,he⟩:=Array.getElem?_eq_some_iff.1 h
       rw [if_pos hl,h]
      ·rfl
    | _=>rfl
  ·rfl
 have e:w.setCell a u={ w with heap:=(w.setCell a u).heap }:=rfl
 rw [e,hh]
theorem setCell_self3 {w:World} {b:Nat} {x y z:Value} (h0:w.cell? ⟨b,0,none⟩=some x) (h1:w.cell? ⟨b,1,none⟩=some y) (h2:w.cell? ⟨b,2,none⟩=some z) :
 ((w.setCell ⟨b,0,none⟩ x).setCell ⟨b,1,none⟩ y).setCell ⟨b,2,none⟩ z=w:=by
 rw [setCell_self h0,setCell_self h1,setCell_self h2]
theorem keep3 {w w':World} {n:Nat} {a b c:Value} (hb:Below w.heap.size w w') (h:w.cell? ⟨n,0,none⟩=some a∧w.cell? ⟨n,1,none⟩=some b∧w.cell? ⟨n,2,none⟩=some c) :
 w'.cell? ⟨n,0,none⟩=some a∧w'.cell? ⟨n,1,none⟩=some b∧w'.cell? ⟨n,2,none⟩=some c:=by
 obtain ⟨h0,h1,h2⟩:=h
 have hn:=World.block_lt_of_cell? _ _ h0
 exact ⟨(hb.cell (p:=⟨n,0,none⟩) hn).trans h0,(hb.cell (p:=⟨n,1,none⟩) hn).trans h1,(hb.cell (p:=⟨n,2,none⟩) hn).trans h2⟩
theorem field_T (k R:Int) (a:Option Addr) (n c:Nat) (w:World):(Instr.field 24 (.agg #[.int .i64 k,.int .i64 R,.slice a n c]) 2).run Tryz.prog w=.ok (.slice a n c) w:=by kernel_rfl
theorem wrap64_id {x:Int} (h1:-9223372036854775808≤x) (h2:x<9223372036854775808):wrap64 x=x:=by unfold wrap64; omega
theorem wrapK {x:Int} (h1:-9223372036854775808≤x) (h2:x<9223372036854775808):IntKind.i64.wrap x=x:=by simp [IntKind.wrap_i64]; omega
def I64 (x:Int):Prop:=-9223372036854775808≤x∧x<9223372036854775808
theorem ret_int {a b:Int} (h:a=b):Ending.returned (.int .i64 a)=.returned (.int .i64 b):=by rw [h]
theorem ret_bool {a b:Bool} (h:a=b):Ending.returned (.bool a)=.returned (.bool b):=by rw [h]
end Go.Proofs.YtkaoebokbfcmhaaGreatDoor
namespace Go.Proofs.YtkaoebokbfcmhaaGreatDoor
abbrev PErr:=Option (Int×List (ByteArray×Int))
def under (op:ByteArray) (at_:Int) (t:PErr):PErr:=t.map fun x=>(x.1,(op,at_)::x.2)
def fresh (op:ByteArray) (at_:Int) (n:Int):PErr:=some (n,[(op,at_)])
def sRule:ByteArray:=⟨#[114,117,108,101]⟩
def pw (K i:Nat):Nat:=K ^ i
theorem pw_zero (K:Nat):pw K 0=1:=rfl
theorem pw_succ (K i:Nat):pw K (i+1)=pw K i*K:=Nat.pow_succ ..
theorem pw_one (K:Nat):pw K 1=K:=by simp [pw]
theorem pw_pos {K:Nat} (i:Nat) (h:1≤K):1≤pw K i:=Nat.one_le_pow _ _ h
theorem pw_le {K i:Nat} (_h1:1≤K) (h4:K≤4) (hi:i≤7):pw K i≤16384 :=
 Nat.le_trans (Nat.pow_le_pow_left h4 i) (Nat.le_trans (Nat.pow_le_pow_right (by omega) hi) (by decide))
theorem pw_lt {K i j:Nat} (h1:1<K) (h:i<j):pw K i<pw K j:=Nat.pow_lt_pow_right h1 h
def idxOf (p:Int→Bool) (xs:List Int):Int:=match xs.findIdx? p with | some i=>i | none=>-1
theorem idxOf_neg {p:Int→Bool} {xs:List Int} (h:∀ x∈xs,p x=false):idxOf p xs=-1:=by
 have:xs.findIdx? p=none:=List.findIdx?_eq_none_iff.2 h
 simp [idxOf,this]
theorem idxOf_at {p:Int→Bool} {xs:List Int} (k:Nat) (hk:k<xs.length) (hp:p xs[k]=true) (hj:∀ j (h:j<xs.length),j<k→p xs[j]=false):idxOf p xs=k:=by
 have:xs.findIdx? p=some k:=by
  rw [List.findIdx?_eq_some_iff_getElem]
  exact ⟨hk,hp,fun j hjk=>by simp [hj j (by omega) hjk]⟩
 simp [idxOf,this]
theorem idxOf_cases (p:Int→Bool) (xs:List Int):(idxOf p xs=-1∧∀ x∈xs,p x=false)∨(∃ k:Nat,idxOf p xs=k∧∃ h:k<xs.length,p xs[k]=true∧∀ j (h:j<xs.length),j<k→p xs[j]=false):=by
 cases h:xs.findIdx? p with
 | none=>exact .inl ⟨by simp [idxOf,h],List.findIdx?_eq_none_iff.1 h⟩
 | some k =>
  obtain ⟨hk,hp,hj⟩:=List.findIdx?_eq_some_iff_getElem.1 h
  exact .inr ⟨k,by simp [idxOf,h],hk,hp,fun j hj' hjk=>by simpa using hj j hjk⟩
def odd1 (k:Int) (x:Int):Bool:=decide (x<0)||decide (k≤x)
theorem odd1_false {k x:Int}:odd1 k x=false↔0≤x∧x<k:=by simp [odd1]
def Syms (k:Int) (xs:List Int):Prop:=∀ x∈xs,0≤x∧x<k
theorem Syms.odd {k:Int} {xs:List Int} (h:Syms k xs):idxOf (odd1 k) xs=-1:=idxOf_neg fun x hx=>odd1_false.2 (h x hx)
theorem syms_or (k:Int) (xs:List Int):Syms k xs∨∃ i:Nat,idxOf (odd1 k) xs=i∧i<xs.length:=by
 rcases idxOf_cases (odd1 k) xs with ⟨_,h⟩ | ⟨i,h,hi,_⟩
 ·exact .inl fun x hx=>odd1_false.1 (h x hx)
 ·exact .inr ⟨i,h,hi⟩
structure RuleOk (K R:Nat) (xs:List Int):Prop where
 k1:1≤K
 k4:K≤4
 r3:R≤3
 len:xs.length=pw K (2*R+1)
 syms:Syms K xs
theorem RuleOk.len_le {K R:Nat} {xs:List Int} (h:RuleOk K R xs):xs.length≤16384:=by
 rw [h.len]; exact pw_le h.k1 h.k4 (by have:=h.r3; omega)
def checkP (k r:Int) (xs:List Int):PErr :=
 if k<1∨4<k then fresh sRule 0 1
 else if r<0∨3<r then fresh sRule 1 1
 else if xs.length≠pw k.toNat (2*r.toNat+1) then fresh sRule 2 1
 else if idxOf (odd1 k) xs=-1 then none
 else fresh sRule (3+idxOf (odd1 k) xs) 1
theorem checkP_none {k r:Int} {xs:List Int} (h:checkP k r xs=none):∃ K R:Nat,k=K∧r=R∧RuleOk K R xs:=by
 unfold checkP at h
 by_cases h1:k<1∨4<k
 ·rw [if_pos h1] at h; cases h
 rw [if_neg h1] at h
 by_cases h2:r<0∨3<r
 ·rw [if_pos h2] at h; cases h
 rw [if_neg h2] at h
 by_cases h3:xs.length≠pw k.toNat (2*r.toNat+1)
 ·rw [if_pos h3] at h; cases h
 rw [if_neg h3] at h
 by_cases h4:idxOf (odd1 k) xs=-1
 ·refine ⟨k.toNat,r.toNat,by omega,by omega,by omega,by omega,by omega,by omega,?_⟩
  rw [show ((k.toNat:Nat):Int)=k by omega]
  rcases syms_or k xs with h5 | ⟨i,h5,_⟩
  ·exact h5
  ·omega
 ·rw [if_neg h4] at h; cases h
theorem RuleOk.check {K R:Nat} {xs:List Int} (h:RuleOk K R xs):checkP K R xs=none:=by
 have:=h.k1; have:=h.k4; have:=h.r3
 unfold checkP
 rw [if_neg (by omega),if_neg (by omega),if_neg (by simp [h.len]),if_pos h.syms.odd]
set_option maxHeartbeats 8000000
open Go.RowKit
def Ret1 (Φ:Value→World→Prop) (w:World) (e:Ending) (w':World):Prop:=∃ x,e=.returned x∧Below w.heap.size w w'∧Φ x w'
def Ret2 (Φ:Value→Value→World→Prop) (w:World) (e:Ending) (w':World):Prop:=∃ x y,e=.returned (.tuple #[x,y])∧Below w.heap.size w w'∧Φ x y w'
def Ret3 (Φ:Value→Value→Value→World→Prop) (w:World) (e:Ending) (w':World):Prop:=∃ x y z,e=.returned (.tuple #[x,y,z])∧Below w.heap.size w w'∧Φ x y z w'
abbrev rootV (r:Nat→Addr) (n:Int):Value:=.iface 287 (.pointer (some (r n.toNat)))
structure Glob (r:Nat→Addr) (w:World):Prop where
 c1:w.cell? ⟨0,0,none⟩=some (rootV r 1)
 c2:w.cell? ⟨4,0,none⟩=some (rootV r 2)
 c3:w.cell? ⟨5,0,none⟩=some (rootV r 3)
 c4:w.cell? ⟨1,0,none⟩=some (rootV r 4)
 c5:w.cell? ⟨6,0,none⟩=some (rootV r 5)
 c6:w.cell? ⟨7,0,none⟩=some (rootV r 6)
 c7:w.cell? ⟨8,0,none⟩=some (rootV r 7)
 c8:w.cell? ⟨9,0,none⟩=some (rootV r 8)
 c9:w.cell? ⟨2,0,none⟩=some (rootV r 9)
 c10:w.cell? ⟨10,0,none⟩=some (rootV r 10)
 c11:w.cell? ⟨11,0,none⟩=some (rootV r 11)
 c12:w.cell? ⟨12,0,none⟩=some (rootV r 99)
 str:∀ n:Nat,(1≤n∧n≤11)∨n=99→∃ s,w.cell? (r n)=some (.string s)
 apart:∀ m n:Int,1≤m→m≤11→1≤n→n≤11→r m.toNat=r n.toNat→m=n
 flat:∀ n:Nat,(1≤n∧n≤11)∨n=99→∃ c t,w.heap[(r n).block]?=some (.cells c t (0,0))
theorem Glob.below {r:Nat→Addr} {w w':World} (h:Glob r w) (hb:Below w.heap.size w w'):Glob r w':=by
 have k:∀ {i v},w.cell? ⟨i,0,none⟩=some v→w'.cell? ⟨i,0,none⟩=some v:=fun {i v} hc=>by
  rw [hb.cell (World.block_lt_of_cell? _ _ hc)]; exact hc
 exact ⟨k h.c1,k h.c2,k h.c3,k h.c4,k h.c5,k h.c6,k h.c7,k h.c8,k h.c9,k h.c10,k h.c11,k h.c12,(fun n hn=>by
  obtain ⟨s,hs⟩:=h.str n hn
  exact ⟨s,by rw [hb.cell (World.block_lt_of_cell? _ _ hs)]; exact hs⟩),h.apart,fun n hn=>by
  obtain ⟨s,hs⟩:=h.str n hn
  obtain ⟨c,t,e⟩:=h.flat n hn
  exact ⟨c,t,by rw [hb.block _ (World.block_lt_of_cell? _ _ hs)]; exact e⟩⟩
def ErrAt (r:Nat→Addr) (w:World) (n:Int):List (ByteArray×Int)→Value→Prop
 | [],v=>v=rootV r n
 | (op,at_)::rest,v=>∃ p u,v=.iface 75 (.pointer (some ⟨p,0,none⟩))∧w.cell? ⟨p,0,none⟩=some (.string op)∧w.cell? ⟨p,1,none⟩=some (.int .i64 at_) ∧
     w.cell? ⟨p,2,none⟩=some u∧ErrAt r w n rest u
def ErrIs (r:Nat→Addr) (w:World) (t:PErr) (v:Value):Prop :=
 match t with
 | none=>v=.nilIface
 | some (n,l)=>ErrAt r w n l v
theorem ErrAt.below {r:Nat→Addr} {w w':World} {n:Int} (hb:Below w.heap.size w w'):∀ {l:List (ByteArray×Int)} {v:Value},ErrAt r w n l v→ErrAt r w' n l v
 | [],_,h=>h
 | (op,at_)::rest,v,⟨p,u,e,c0,c1,c2,h⟩=>by
  have k:∀ {i x},w.cell? ⟨p,i,none⟩=some x→w'.cell? ⟨p,i,none⟩=some x:=fun {i x} hc=>by
   rw [hb.cell (World.block_lt_of_cell? _ _ hc)]; exact hc
  exact ⟨p,u,e,k c0,k c1,k c2,ErrAt.below hb h⟩
theorem ErrIs.below {r:Nat→Addr} {w w':World} {t:PErr} {v:Value} (h:ErrIs r w t v) (hb:Below w.heap.size w w'):ErrIs r w' t v:=by
 match t,h with
 | none,h=>exact h
 | some (n,l),h=>exact ErrAt.below hb h
theorem ErrAt.shape {r:Nat→Addr} {w:World} {n:Int} {l:List (ByteArray×Int)} {v:Value} (h:ErrAt r w n l v):∃ T a,v=.iface T (.pointer (some a)):=by
 match l,h with
 | [],h=>exact ⟨_,_,h⟩
 | _::_,⟨p,u,e,_⟩=>exact ⟨_,_,e⟩
theorem ErrIs.none_eq {r:Nat→Addr} {w:World} {v:Value} (h:ErrIs r w none v):v=.nilIface:=h
theorem ErrIs.some_shape {r:Nat→Addr} {w:World} {t:Int×List (ByteArray×Int)} {v:Value} (h:ErrIs r w (some t) v):∃ T a,v=.iface T (.pointer (some a)):=ErrAt.shape h
theorem root_any (r:Nat→Addr) (n:Int) (w:World) (hg:Glob r w) (h1:1≤n) (h2:n≤11) :
 Calls Tryz.prog 73 #[.int .i64 n] w fun e w'=>e=.returned (rootV r n)∧w=w':=by
 obtain ⟨c1,c2,c3,c4,c5,c6,c7,c8,c9,c10,c11,_,_,_,_⟩:=hg
 have hn:n=1∨n=2∨n=3∨n=4∨n=5∨n=6∨n=7∨n=8∨n=9∨n=10∨n=11:=by omega
 rcases hn with rfl | rfl | rfl | rfl | rfl | rfl | rfl | rfl | rfl | rfl | rfl <;>
 (clear h1 h2
  go_enter Tryz.func73,Tryz.ntmps73
  go_wp2
  go_ret
  exact ⟨rfl,rfl⟩)
theorem new_any (r:Nat→Addr) (op:ByteArray) (at_ n:Int) (w:World) (hg:Glob r w) (h1:1≤n) (h2:n≤11) :
 Calls Tryz.prog 83 #[.string op,.int .i64 at_,.int .i64 n] w (Ret1 (fun v w'=>ErrIs r w' (fresh op at_ n) v) w):=by
 have hn:(n==0)=false:=by simp; omega
 go_enter Tryz.func83,Tryz.ntmps83
 go_wp2_with fail
 refine (root_any r n w hg h1 h2).mono ?_
 rintro e w' ⟨rfl,rfl⟩
 go_wp2
 go_ret
 refine ⟨_,rfl,(Below.refl _ _).alloc (Nat.le_refl _) _,w.heap.size,rootV r n,rfl,?_,?_,?_,rfl⟩<;>simp
theorem under_nil (op:ByteArray) (at_:Int) (w:World) :
 Calls Tryz.prog 52 #[.string op,.int .i64 at_,.nilIface] w fun e w'=>e=.returned .nilIface∧w=w':=by
 go_enter Tryz.func52,Tryz.ntmps52
 go_wp2
 go_ret
 exact ⟨rfl,rfl⟩
theorem under_any (r:Nat→Addr) (op:ByteArray) (at_:Int) (t:PErr) (v:Value) (w:World) (h:ErrIs r w t v) :
 Calls Tryz.prog 52 #[.string op,.int .i64 at_,v] w (Ret1 (fun u w'=>ErrIs r w' (under op at_ t) u) w):=by
 match t,h with
 | none,h =>
  obtain rfl:=h.none_eq
  exact (under_nil op at_ w).mono fun e w' ⟨he,hw⟩=>by subst hw; exact ⟨_,he,Below.refl _ _,rfl⟩
 | some t,h =>
  obtain ⟨T,a,rfl⟩:=h.some_shape
  have h':=Hd h
  clear h
  go_enter Tryz.func52,Tryz.ntmps52
  go_wp2
  go_ret
  refine ⟨_,rfl,(Below.refl _ _).alloc (Nat.le_refl _) _,w.heap.size,.iface T (.pointer (some a)),rfl,?_,?_,?_,ErrAt.below ((Below.refl _ _).alloc (Nat.le_refl _) _) h'.out⟩<;>simp
end Go.Proofs.YtkaoebokbfcmhaaGreatDoor
namespace Go.Proofs.YtkaoebokbfcmhaaGreatDoor
open Go.RowKit
theorem indexFunc_any (v b:Value) (F:Nat) (xs:List Int) (p:Int→Bool) (w:World) (h:IntsAt w v xs)
 (eg:∀ args w,(callFunc F args).run Tryz.prog w=.ok (.enter F args) w)
 (hF:∀ x:Int,x∈xs→Calls Tryz.prog F #[.int .i64 x,b] w fun e w'=>e=.returned (.bool (p x))∧w=w') :
 Calls Tryz.prog 91 #[v,.func (.func F) #[] #[b]] w fun e w'=>e=.returned (.int .i64 (idxOf p xs))∧w=w':=by
 have hlen:=h.len
 have hm:=h.len_le
 go_enter Tryz.func91,Tryz.ntmps91
 go_wp2
 go_loop [8] (fun i=>∃ k:Nat,k≤xs.length∧i=.int .i64 k∧∀ j (hj:j<xs.length),j<k→p xs[j]=false) (fun i=>xs.length-(intOf i).toNat)
 case atStart=>exact ⟨0,by omega,rfl,by omega⟩
 case round =>
  obtain ⟨k,hk,rfl,hp⟩:=hrel
  replace hp:=Hd hp
  by_cases hlt:k<xs.length
  ·have hi:=h.idx k hlt
   have hc:=h.cell k hlt
   have hf:=Hd (hF xs[k] (by simp))
   clear hF
   go_wp2_with fail
   refine hf.out.mono ?_
   rintro e w' ⟨rfl,rfl⟩
   cases hpk:p xs[k]
   ·have HP:=Hd hpk
    go_wp2
    go_round
    case rel =>
     refine ⟨k+1,by omega,by go_num,?_⟩
     intro j hj hjk
     by_cases e:j=k
     ·subst e; exact HP.out
     ·exact hp.out j hj (by omega)
    case measure=>simp [intOf]; omega
   ·have HP:=Hd hpk
    go_wp2
    go_ret
    exact ⟨ret_int (idxOf_at k hlt HP.out fun j hj h=>hp.out j hj h).symm,rfl⟩
  ·go_wp2
   go_ret
   refine ⟨ret_int (idxOf_neg fun x hx=>?_).symm,rfl⟩
   obtain ⟨j,hj,rfl⟩:=List.mem_iff_getElem.1 hx
   exact hp.out j hj (by omega)
theorem rule_wrong (r:Nat→Addr) (at_ n:Int) (w:World) (hg:Glob r w) (h1:1≤n) (h2:n≤11) :
 Calls Tryz.prog 38 #[.int .i64 at_,.int .i64 n] w (Ret1 (fun v w'=>ErrIs r w' (fresh sRule at_ n) v) w):=by
 go_enter Tryz.func38,Tryz.ntmps38
 go_wp2_with fail
 refine (new_any r _ at_ n w hg h1 h2).mono ?_
 rintro e w' ⟨v,rfl,hb,he⟩
 go_wp2
 go_ret
 exact ⟨_,rfl,hb,he⟩
theorem rule_odd1 (x k:Int) (b:Addr) (w:World) (hb:w.cell? b=some (.int .i64 k)) :
 Calls Tryz.prog 127 #[.int .i64 x,.pointer (some b)] w fun e w'=>e=.returned (.bool (odd1 k x))∧w=w':=by
 by_cases h:x<0
 ·have e:odd1 k x=true:=by simp [odd1,h]
  rw [e]
  go_enter Tryz.func127,Tryz.ntmps127
  go_wp2
  go_ret
  exact ⟨rfl,rfl⟩
 ·have e:odd1 k x=decide (k≤x):=by simp [odd1,h]
  rw [e]
  go_enter Tryz.func127,Tryz.ntmps127
  go_wp2
  go_ret
  exact ⟨ret_bool (by simp),rfl⟩
theorem eg_rule_odd1 (args:Array Value) (w:World):(callFunc 127 args).run Tryz.prog w=.ok (.enter 127 args) w:=by kernel_rfl
theorem rule_odd (k:Int) (v:Value) (xs:List Int) (w:World) (h:IntsAt w v xs) :
 Calls Tryz.prog 89 #[.int .i64 k,v] w (Ret1 (fun x _=>x=.int .i64 (idxOf (odd1 k) xs)) w):=by
 have h':=Hd h
 clear h
 go_enter Tryz.func89,Tryz.ntmps89
 go_wp2_with fail
 refine (indexFunc_any v _ 127 xs (odd1 k) _ (h'.out.below ((Below.refl _ _).alloc (Nat.le_refl _) _)) eg_rule_odd1 (fun x _=>rule_odd1 x k _ _ (by simp))).mono ?_
 rintro e w' ⟨rfl,rfl⟩
 go_wp2
 go_ret
 exact ⟨_,rfl,(Below.refl _ _).alloc (Nat.le_refl _) _,rfl⟩
theorem size_ok (K R:Nat) (w:World) (h1:1≤K) (h4:K≤4) (h3:R≤3) :
 Calls Tryz.prog 88 #[.int .i64 K,.int .i64 R] w fun e w'=>e=.returned (.tuple #[.int .i64 (pw K (2*R+1)),.nilIface])∧w=w':=by
 go_enter Tryz.func88,Tryz.ntmps88
 go_wp2
 go_loop [6,25] (fun n i=>∃ k:Nat,k≤2*R∧i=.int .i64 k∧n=.int .i64 (pw K (k+1))) (fun _ i=>2*R-(intOf i).toNat)
 case atStart=>exact ⟨0,by omega,rfl,by rw [pw_one]⟩
 case round =>
  obtain ⟨k,hk,rfl,rfl⟩:=hrel
  by_cases hlt:k<2*R
  ·have hb:=pw_le (i:=k+1+1) h1 h4 (by omega)
   have hs:((pw K (k+1+1):Nat):Int)=(pw K (k+1):Int)*(K:Int):=by rw [pw_succ]; simp
   have hb1:0≤(pw K (k+1):Int)*(K:Int):=by rw [← hs]; omega
   have hb2:(pw K (k+1):Int)*(K:Int)≤16384:=by rw [← hs]; omega
   replace hs:=Hd hs
   go_wp2
   go_round
   case rel=>exact ⟨k+1,by omega,by go_num,by rw [hs.out]⟩
   case measure=>simp [intOf]; omega
  ·obtain rfl:k=2*R:=by omega
   go_wp2
   go_ret2
   exact ⟨rfl,rfl⟩
theorem size_bad (r:Nat→Addr) (k R:Int) (w:World) (hg:Glob r w) (h:k<1∨4<k∨R<0∨3<R) :
 Calls Tryz.prog 88 #[.int .i64 k,.int .i64 R] w (Ret2 (fun x y w'=>x=.int .i64 0∧ErrIs r w' (fresh sRule 0 3) y) w):=by
 have hg':=Hd hg
 clear hg
 by_cases h1:k<1
 ·clear h
  go_enter Tryz.func88,Tryz.ntmps88
  go_wp2_with fail
  refine (rule_wrong r _ _ w hg'.out (by decide) (by decide)).mono ?_
  rintro e w' ⟨v,rfl,hb,he⟩
  go_wp2
  go_ret2
  exact ⟨_,_,rfl,hb,rfl,he⟩
 by_cases h2:4<k
 ·clear h
  go_enter Tryz.func88,Tryz.ntmps88
  go_wp2_with fail
  refine (rule_wrong r _ _ w hg'.out (by decide) (by decide)).mono ?_
  rintro e w' ⟨v,rfl,hb,he⟩
  go_wp2
  go_ret2
  exact ⟨_,_,rfl,hb,rfl,he⟩
 by_cases h3:R<0
 ·clear h
  go_enter Tryz.func88,Tryz.ntmps88
  go_wp2_with fail
  refine (rule_wrong r _ _ w hg'.out (by decide) (by decide)).mono ?_
  rintro e w' ⟨v,rfl,hb,he⟩
  go_wp2
  go_ret2
  exact ⟨_,_,rfl,hb,rfl,he⟩
 have h4:3<R:=by omega
 clear h
 go_enter Tryz.func88,Tryz.ntmps88
 go_wp2_with fail
 refine (rule_wrong r _ _ w hg'.out (by decide) (by decide)).mono ?_
 rintro e w' ⟨v,rfl,hb,he⟩
 go_wp2
 go_ret2
 exact ⟨_,_,rfl,hb,rfl,he⟩
set_option maxRecDepth 100000
def RetB (b:Bool) (w:World) (e:Ending) (w':World):Prop:=∃ n:Nat,e=.returned (.bool b)∧w'=w.drewN n
theorem RetB.below {b:Bool} {w w':World} {e:Ending} (h:RetB b w e w'):e=.returned (.bool b)∧Below w.heap.size w w':=by
 obtain ⟨n,he,rfl⟩:=h
 exact ⟨he,below_drewN (Below.refl _ _) n⟩
theorem equal_len (v u:Value) (xs ys:List Int) (w:World) (h:IntsAt w v xs) (k:IntsAt w u ys) (hne:xs.length≠ys.length) :
 Calls Tryz.prog 121 #[v,u] w (RetB false w):=by
 have h1:=h.len
 have h2:=k.len
 have hd:((xs.length:Int) != (ys.length:Int))=true:=by simp; omega
 clear h k hne
 go_enter Tryz.func121,Tryz.ntmps121
 go_wp2
 go_ret
 exact ⟨0,rfl,rfl⟩
theorem equal_any (v u:Value) (xs ys:List Int) (w:World) (h:IntsAt w v xs) (k:IntsAt w u ys) :
 Calls Tryz.prog 121 #[v,u] w (RetB (decide (xs=ys)) w):=by
 by_cases hl:xs.length=ys.length
 case neg =>
  rw [show decide (xs=ys)=false by simp; intro e; exact hl (by rw [e])]
  exact equal_len v u xs ys w h k hl
 have h1:=h.len
 have h2:=k.len
 have hm:=h.len_le
 have hd:((xs.length:Int) != (ys.length:Int))=false:=by simp; omega
 have hl':=Hd hl
 have hlt':xs.length≤ys.length:=by omega
 clear hl
 go_enter Tryz.func121,Tryz.ntmps121
 go_wp2
 go_loopw [13] (fun i wr=>(∃ j:Nat,j≤xs.length∧i=.int .i64 j∧∀ t (h1:t<xs.length) (h2:t<ys.length),t<j→xs[t]=ys[t])∧∃ n,wr=w.drewN n) (fun i _=>xs.length-(intOf i).toNat)
 case atStart=>exact ⟨⟨0,by omega,rfl,by intro t _ _ h; omega⟩,0,rfl⟩
 case round =>
  obtain ⟨⟨j,hj,rfl,hp⟩,n,rfl⟩:=hrel
  replace hp:=Hd hp
  by_cases hlt:j<xs.length
  ·have i1:=h.idx j hlt
   have i2:=k.idx j (by omega)
   have c1:w.cell? (valAt v j)=some (.int .i64 xs[j]):=h.cell j hlt
   have c2:w.cell? (valAt u j)=some (.int .i64 ys[j]):=k.cell j (by omega)
   clear h k
   by_cases he:xs[j]=ys[j]
   ·have hq:(xs[j] != ys[j])=false:=by simp [he]
    have hE:=Hd he
    clear he
    generalize hx:xs[j]=x at c1 hq
    generalize hy:ys[j]=y at c2 hq
    clear hx hy
    go_wp2
    go_quiet (fail)
    go_wp2
    go_roundw
    case rel =>
     refine ⟨⟨j+1,by omega,by go_num,?_⟩,_,rfl⟩
     intro t h1 h2 ht
     by_cases e:t=j
     ·subst e; exact hE.out
     ·exact hp.out t h1 h2 (by omega)
    case measure=>simp [intOf]; omega
   ·have hq:(xs[j] != ys[j])=true:=by simp [he]
    have hE:=Hd he
    clear he
    generalize hx:xs[j]=x at c1 hq
    generalize hy:ys[j]=y at c2 hq
    clear hx hy
    go_wp2
    go_quiet (fail)
    go_wp2
    go_ret
    refine ⟨_,ret_bool ?_,World.drewN_drewN ..⟩
    symm
    rw [decide_eq_false_iff_not]
    intro e
    exact hE.out (by subst e; rfl)
  ·go_wp2
   go_ret
   refine ⟨_,ret_bool ?_,rfl⟩
   symm
   rw [decide_eq_true_iff]
   exact List.ext_getElem hl'.out fun t h1 h2=>hp.out t h1 h2 (by omega)
theorem IntsAt.split {w:World} {v:Value} {xs:List Int} (h:IntsAt w v xs):(v=.slice none 0 0∧xs=[])∨∃ p cap,v=.slice (some p) xs.length cap:=by
 obtain ⟨a,cap,rfl,h1,h2,h3,h4⟩:=h
 cases a with
 | none =>
  obtain rfl:=h3 rfl
  obtain rfl:=List.length_eq_zero_iff.1 (show xs.length=0 by omega)
  exact .inl ⟨rfl,rfl⟩
 | some p=>exact .inr ⟨p,cap,rfl⟩
theorem clone_any (v:Value) (xs:List Int) (w:World) (h:IntsAt w v xs) (hl:xs.length≤17592186044416) :
 Calls Tryz.prog 62 #[v] w (Ret1 (fun x w'=>OwnI w.heap.size w' x xs) w):=by
 rcases h.split with ⟨rfl,rfl⟩ | ⟨p,cap,rfl⟩
 ·have hn:=fun w'=>Lib.run_eql_slice_nil (P:=Tryz.prog) w' _ _ none 0 0 0 0 uInts
  clear h
  go_enter Tryz.func62,Tryz.ntmps62
  go_wp2
  go_ret
  exact ⟨_,rfl,Below.refl _ _,OwnI.nil _ _⟩
 ·have hn:=fun w'=>Lib.run_eql_slice_nil (P:=Tryz.prog) w' _ _ (some p) xs.length cap 0 0 uInts
  have h':=Hd h
  clear h
  go_enter Tryz.func62,Tryz.ntmps62
  go_wp2_with (at_builtin; refine wpl_append rfl _ _ rfl w.heap.size _ _ [] xs (OwnI.lit _ _ (Nat.le_refl _) [] (by decide) #[] rfl 0 rfl) (h'.out.below ((Below.refl _ _).alloc (Nat.le_refl _) _)) rfl rfl (by simpa using hl) (by simp) ?_)
  intro v' w' ho hb _ _
  go_wp2
  go_ret
  exact ⟨_,rfl,((Below.refl _ _).alloc (Nat.le_refl _) _).trans hb,by simpa using ho⟩
end Go.Proofs.YtkaoebokbfcmhaaGreatDoor
namespace Go.Proofs.YtkaoebokbfcmhaaGreatDoor
open Go.RowKit
def ValsAt (w:World) (v:Value) (vs:List Value):Prop :=
 ∃ a cap,v=.slice a vs.length cap∧vs.length≤cap∧cap≤maxLen∧(a=none→cap=0)∧∀ i (h:i<vs.length),w.cell? (valAt v i)=some vs[i]
theorem IntsAt.vals {w:World} {v:Value} {xs:List Int} (h:IntsAt w v xs):ValsAt w v (xs.map (Value.int .i64)):=by
 obtain ⟨a,cap,e,h1,h2,h3,h4⟩:=h
 exact ⟨a,cap,by simpa using e,by simpa using h1,h2,h3,fun i hi=>by rw [h4 i (by simpa using hi)]; simp⟩
theorem ValsAt.cell {w:World} {v:Value} {vs:List Value} (h:ValsAt w v vs) (i:Nat) (hi:i<vs.length):w.cell? (valAt v i)=some vs[i]:=by
 obtain ⟨a,cap,e,h1,h2,h3,h4⟩:=h
 exact h4 i hi
theorem ValsAt.len_le {w:World} {v:Value} {vs:List Value} (h:ValsAt w v vs):vs.length≤9223372036854775807:=by
 obtain ⟨a,cap,rfl,h1,h2,_⟩:=h
 unfold maxLen at h2; omega
theorem ValsAt.blk {w:World} {v:Value} {vs:List Value} (h:ValsAt w v vs) (i:Nat) (hi:i<vs.length):(valAt v i).block<w.heap.size :=
 World.block_lt_of_cell? _ _ (h.cell i hi)
theorem ValsAt.below {w w':World} {v:Value} {vs:List Value} (h:ValsAt w v vs) (hb:Below w.heap.size w w'):ValsAt w' v vs:=by
 have hk:=h.blk
 obtain ⟨a,cap,e,h1,h2,h3,h4⟩:=h
 exact ⟨a,cap,e,h1,h2,h3,fun i hi=>by rw [hb.cell (hk i hi)]; exact h4 i hi⟩
theorem ValsAt.cells_eq {w w':World} {v:Value} {vs:List Value} (h:ValsAt w v vs) (hc:∀ i,i<vs.length→w'.cell? (valAt v i)=w.cell? (valAt v i)):ValsAt w' v vs:=by
 obtain ⟨a,cap,e,h1,h2,h3,h4⟩:=h
 exact ⟨a,cap,e,h1,h2,h3,fun i hi=>by rw [hc i hi]; exact h4 i hi⟩
structure OneCell (T E:TypeId) (z:Value) (bytes:Nat):Prop where
 ht:Tryz.prog.underlying T=some (.slice E)
 hi:(Tryz.prog.info? E).map (fun i=>(i.zero,i.size,i.bytes))=some (some z,1,bytes)
 hz:z.cells=#[z]
 hb:bytes≤32
 hs:∀ w,(sizeOf E).run Tryz.prog w=.ok 1 w
theorem oneInts:OneCell 22 3 (.int .i64 0) 8:=⟨uInts,iInt,rfl,by decide,sInt⟩
theorem ValsAt.len {T E:TypeId} {z:Value} {b:Nat} (o:OneCell T E z b) {w:World} {v:Value} {vs:List Value} (h:ValsAt w v vs) (ty:TypeId) (w':World) :
 (Builtin.len_ #[T] ty #[v]).run Tryz.prog w'=.ok (.int .i64 vs.length) w':=by
 obtain ⟨a,cap,rfl,h1,h2,h3,h4⟩:=h
 have e:Tryz.prog.elem T=E:=by simp [Program.elem,o.ht]
 rw [run_len_slice _ _ _ _ _ _ (by rw [e]; exact o.ht)]
 rfl
theorem ValsAt.idx {T E:TypeId} {z:Value} {b:Nat} (o:OneCell T E z b) {w:World} {v:Value} {vs:List Value} (h:ValsAt w v vs) (i:Nat) (hi:i<vs.length) (w':World) :
 (Instr.indexAt T v (.int .i64 i)).run Tryz.prog w'=.ok (.pointer (some (valAt v i))) w':=by
 obtain ⟨a,cap,rfl,h1,h2,h3,h4⟩:=h
 have e:Tryz.prog.elem T=E:=by simp [Program.elem,o.ht]
 cases a with
 | none=>have:=h3 rfl; omega
 | some p =>
  rw [run_indexAt_slice _ _ _ _ _ _ _ (by rw [e]; exact o.ht),if_pos (by omega),e,o.hs]
  simp [valAt]
def OwnV (E:TypeId) (B:Nat) (w:World) (v:Value) (vs:List Value):Prop:=w.ownsRow B E 1 v vs.length vs
theorem OwnI.toV {B:Nat} {w:World} {v:Value} {xs:List Int} (h:OwnI B w v xs):OwnV 3 B w v (xs.map (Value.int .i64)):=by
 unfold OwnV; simpa [OwnI] using h
theorem OwnV.toI {B:Nat} {w:World} {v:Value} {xs:List Int} (h:OwnV 3 B w v (xs.map (Value.int .i64))):OwnI B w v xs:=by
 unfold OwnV at h; simpa [OwnI] using h
theorem OwnV.nil (E:TypeId) (B:Nat) (w:World):OwnV E B w (.slice none 0 0) []:=World.ownsRow_nil w B _ 1
theorem OwnV.at {E:TypeId} {B:Nat} {w:World} {v:Value} {vs:List Value} (h:OwnV E B w v vs):ValsAt w v vs:=by
 rcases h.2 with ⟨rfl,hn⟩ | ⟨g,cap,cur,rfl,hb,hg,hn,hm,hs,ht⟩
 ·obtain rfl:=List.length_eq_zero_iff.1 hn
  exact ⟨none,0,rfl,by simp,by simp,fun _=>rfl,by simp⟩
 ·refine ⟨some ⟨g,0,none⟩,cap,rfl,hn,hm,(by intro e; cases e),fun i hi=>?_⟩
  exact World.ownsRow.cells h (g:=g) rfl i _ (by simp [hi])
theorem OwnV.mono {E:TypeId} {B B':Nat} {w:World} {v:Value} {vs:List Value} (h:OwnV E B w v vs) (hB:B'≤B):OwnV E B' w v vs:=by
 refine ⟨h.1,?_⟩
 rcases h.2 with h2 | ⟨g,cap,cur,e,hb,r⟩
 ·exact .inl h2
 ·exact .inr ⟨g,cap,cur,e,Nat.le_trans hB hb,r⟩
theorem OwnV.lt {E:TypeId} {B:Nat} {w:World} {v:Value} {vs:List Value} (h:OwnV E B w v vs):∀ k,v.ownBlock=some k→B≤k∧k<w.heap.size:=World.ownsRow.lt h
theorem OwnV.frz {E:TypeId} {B:Nat} {w:World} {v:Value} {vs:List Value} (h:OwnV E B w v vs) (i:Nat) (hi:i<vs.length):w.frozen? (valAt v i)=false:=by
 rcases h.2 with ⟨rfl,hn⟩ | ⟨g,cap,cur,rfl,hb,hg,hn,hm,hs,ht⟩
 ·omega
 ·rw [valAt_row]; exact frozen_of_row w g i cur _ hg
theorem OwnV.blkB {E:TypeId} {B:Nat} {w:World} {v:Value} {vs:List Value} (h:OwnV E B w v vs) (i:Nat) (hi:i<vs.length):v.ownBlock=some (valAt v i).block∧B≤(valAt v i).block:=by
 rcases h.2 with ⟨rfl,hn⟩ | ⟨g,cap,cur,rfl,hb,hg,hn,hm,hs,ht⟩
 ·omega
 ·rw [valAt_row]; exact ⟨rfl,hb⟩
theorem OwnV.set {E:TypeId} {B:Nat} {w:World} {v:Value} {vs:List Value} (h:OwnV E B w v vs) (i:Nat) (hi:i<vs.length) (y:Value) :
 OwnV E B (w.setCell (valAt v i) y) v (vs.set i y):=by
 rcases h.2 with ⟨rfl,hn⟩ | ⟨g,cap,cur,rfl,hb,hg,hn,hm,hs,ht⟩
 ·omega
 ·rw [valAt_row]
  have:=(World.ownsRow.stored h i y).1
  unfold OwnV
  rw [List.length_set]
  exact this
theorem OwnV.setGrown {E:TypeId} {B:Nat} {w:World} {v:Value} {vs:List Value} (h:OwnV E B w v vs) (i:Nat) (hi:i<vs.length) (y:Value) :
 w.grownBy (w.setCell (valAt v i) y) v.ownBlock:=by
 have hb:=(h.blkB i hi).1
 exact ⟨rfl,rfl,rfl,by simp [World.setCell],fun k _ hk=>Below.heap_setCell _ _ _ _ (by rw [hb] at hk; simp at hk; omega)⟩
theorem OwnV.below {E:TypeId} {B:Nat} {w w':World} {v:Value} {vs:List Value} (h:OwnV E B w v vs) (hb:Below w.heap.size w w'):OwnV E B w' v vs:=by
 refine ⟨h.1,?_⟩
 rcases h.2 with h2 | ⟨g,cap,cur,e,hB,hg,r⟩
 ·exact .inl h2
 ·refine .inr ⟨g,cap,cur,e,hB,?_,r⟩
  rw [hb.block g (Array.getElem?_eq_some_iff.1 hg).1]; exact hg
theorem OwnV.kept {E:TypeId} {B:Nat} {w w':World} {row:Option Nat} {v:Value} {vs:List Value} (h:OwnV E B w v vs) (hg:w.grownBy w' row) (hne:v.ownBlock=none∨v.ownBlock≠row):OwnV E B w' v vs:=World.ownsRow.kept h hg hne
theorem OwnV.alloc {E:TypeId} {B:Nat} {w:World} {v:Value} {vs:List Value} (h:OwnV E B w v vs) (o:Obj):OwnV E B (w.alloc o) v vs:=World.ownsRow.alloc h o
theorem OwnV.shape {E:TypeId} {B:Nat} {w:World} {v:Value} {vs:List Value} (h:OwnV E B w v vs):∃ a n c,v=.slice a n c:=by
 obtain ⟨a,cap,e,_⟩:=h.at; exact ⟨_,_,_,e⟩
def roomOf (v:Value):Option Addr×Nat:=match v with | .slice a _ c=>(a,c) | _=>(none,0)
theorem OwnV.front {E:TypeId} {B:Nat} {w w':World} {v v':Value} {xs ys:List Value} (h:OwnV E B w v xs) (h':OwnV E B w' v' (xs++ys)) (hb:roomOf v'=roomOf v):OwnV E B w' v xs:=by
 rcases h.2 with ⟨rfl,hn⟩ | ⟨g,cap,cur,rfl,hB,hg,hn,hm,hs,ht⟩
 ·obtain rfl:=List.length_eq_zero_iff.1 hn
  exact OwnV.nil E B w'
 ·rcases h'.2 with ⟨rfl,_⟩ | ⟨g',cap',cur',rfl,hB',hg',hn',hm',hs',ht'⟩
  ·simp [roomOf] at hb
  ·simp [roomOf] at hb
   obtain ⟨rfl,rfl⟩:=hb
   refine ⟨by simp,.inr ⟨g',cap',cur',rfl,hB',hg',hn,hm',hs',?_⟩⟩
   have:=congrArg (List.take xs.length) ht'
   rw [List.take_take,List.take_left'] at this
   ·rw [Nat.mul_one] at this ⊢
    rwa [Nat.min_eq_left (by simp)] at this
   ·rfl
theorem ownBlock_of_room {v v':Value} {a n c a' n' c'} (hv:v=.slice a n c) (hv':v'=.slice a' n' c') (h:roomOf v'=roomOf v):v'.ownBlock=v.ownBlock:=by
 subst hv hv'
 simp [roomOf] at h
 obtain ⟨rfl,rfl⟩:=h
 cases a'<;>rfl
theorem run_app {T E:TypeId} {z:Value} {b:Nat} (o:OneCell T E z b) (w:World) (B:Nat) (ty:TypeId) (v:Value) (xs:List Value) (hown:OwnV E B w v xs)
 (a:Addr) (c:Nat) (ys:List Value) (h0:0<ys.length) (hys:∀ j u,ys[j]?=some u→w.cell? (a.add j)=some u) (h1:∀ u∈ys,u.oneCell'=true)
 (hlen:xs.length+ys.length≤4398046511104) (hB:B≤w.heap.size) :
 ∃ v' w',(Builtin.append_ #[T,T] ty #[v,.slice (some a) ys.length c]).run Tryz.prog w=.ok v' w'∧OwnV E B w' v' (xs++ys) ∧
  ((roomOf v'=roomOf v∧w.grownBy w' v.ownBlock)∨(v'.ownBlock=some w.heap.size∧w.grownBy w' none)):=by
 obtain ⟨i,hi,hz0,hz1,hz2⟩:=info_parts o.hi
 have hb:=o.hb
 have hl1:(xs++ys).length=(xs.length+ys.length)*1:=by simp
 have big:∀ (old:Nat),old<xs.length+ys.length →
  OwnV E B (w.drew.alloc (.cells (xs.toArray++ys.toArray++Builtin.zeroCells z.cells (grownCap w (xs.length+ys.length) old E-(xs.length+ys.length))) E)) (.slice (some ⟨w.heap.size,0,none⟩) (xs.length+ys.length) (grownCap w (xs.length+ys.length) old E)) (xs++ys):=by
  intro old ho
  have hge:=grownCap_ge w (xs.length+ys.length) old E
  have hcm:grownCap w (xs.length+ys.length) old E≤maxLen:=grownCap_le_maxLen w _ old E (by unfold maxLen; omega)
  refine ⟨by simp,.inr ⟨w.heap.size,_,_,by simp,hB,heap_alloc_new w.drew _,by simpa using hge,hcm,?_,?_⟩⟩
  ·simp only [Array.size_append,List.size_toArray,size_zeroCells,o.hz]
   simp
   omega
  ·simp only [Array.toList_append,Nat.mul_one,List.length_append]
   exact List.take_left' (by simp)
 have grw:∀ (oo:Obj),w.grownBy (w.drew.alloc oo) none:=fun oo=>⟨rfl,rfl,rfl,by simp,fun k hk _=>Below.heap_alloc w.drew oo k hk⟩
 rcases hown.2 with ⟨rfl,hn⟩ | ⟨g,cap,cur,rfl,hbg,hg,hnc,hcm,hcs,htake⟩
 ·obtain rfl:=List.length_eq_zero_iff.1 hn
  have hr:=run_append_nil (P:=Tryz.prog) w T ty E i z o.ht hi hz0 a ys.length c ys (by rw [hz1]; simp) hys h0 (by simp at hlen; omega) (by
   rw [hz2]
   simp only [List.length_nil,Nat.zero_add] at hlen
   calc ys.length*b≤4398046511104*32:=Nat.mul_le_mul hlen hb
    _≤_:=by decide)
  have hbg:=big 0 (by simpa using h0)
  simp only [List.length_nil,Nat.zero_add,List.nil_append,Array.empty_append] at hbg
  exact ⟨_,_,hr,by simpa using hbg,.inr ⟨rfl,grw _⟩⟩
 ·by_cases hroom:xs.length+ys.length≤cap
  ·have hr:=run_append_room (P:=Tryz.prog) w T ty E i o.ht hi g xs.length cap cur hg a ys.length c ys (by rw [hz1]; simp) hys h1 hroom (by rw [hz1,hcs]; omega)
   refine ⟨_,_,hr,⟨by simp,.inr ⟨g,cap,_,by simp,hbg,setRow_heap w g cur _ E _ hg,by simpa using hroom,hcm,?_,?_⟩⟩,.inl ⟨rfl,⟨rfl,rfl,rfl,by simp,fun k _ hk=>setRow_other w g k _ (fun e=>hk (by simp [Value.ownBlock,e]))⟩⟩⟩
   ·simp only [List.size_toArray,List.length_append,List.length_take,List.length_drop,Array.length_toList,hz1]
    omega
   ·rw [hz1,htake]
    simp only [Nat.mul_one,List.length_append]
    exact List.take_left' (by simp)
  ·have holds:∀ j u,xs[j]?=some u→w.cell? ((⟨g,0,none⟩:Addr).add j)=some u:=World.ownsRow.cells hown (g:=g) rfl
   have hr:=run_append_grow (P:=Tryz.prog) w T ty E i z o.ht hi hz0 ⟨g,0,none⟩ xs.length cap xs (by rw [hz1]; simp) holds a ys.length c ys (by rw [hz1]; simp) hys (by omega) (by omega) (by
    rw [hz2]
    exact growslice_fits (by omega) (by
     calc (xs.length+ys.length)*b≤4398046511104*32:=Nat.mul_le_mul hlen hb
      _≤_:=by decide))
   exact ⟨_,_,hr,big cap (by omega),.inr ⟨rfl,grw _⟩⟩
theorem wpl_app1 {w:World} {ops:Array Oper} {rest:List Oper} {o:Oper} {a:Act} {Q:Exit→Act→World→Prop} (hgd:o.guard=none) (s x:Operand)
 (ho:o.op=.call { callee:=.builtin .append,args:=#[s,x],argTypes:=#[22,22] })
 (B:Nat) (v:Value) (xs:List Int) (y:Int) (hown:OwnI B w v xs) (hs:a.eval s=v) (hx:a.eval x=.slice (some ⟨w.heap.size,0,none⟩) 1 1)
 (hlen:xs.length<4398046511104) (hB:B≤w.heap.size)
 (h:∀ v' w',OwnI B w' v' (xs++[y])→Below B w w'→((roomOf v'=roomOf v∧w.grownBy w' v.ownBlock)∨(∃ k,v'.ownBlock=some k∧w.heap.size≤k∧w.grownBy w' none))→wpList Tryz.prog ops Q rest (a.put o.dst v') w') :
 wpList Tryz.prog ops Q (o::rest) a (w.alloc (.cells #[.int .i64 y] 3)):=by
 refine wpList_plain hgd fun K hK=>?_
 obtain ⟨v',w',hr,h2,h3⟩:=run_app oneInts (w.alloc (.cells #[.int .i64 y] 3)) B o.type v _ (hown.alloc _).toV ⟨w.heap.size,0,none⟩ 1 [.int .i64 y] (by simp) (cell_one_new _ _ _) (by simp [Value.oneCell']) (by simp; omega) (by simp; omega)
 unfold Oper.wp execOp
 simp only [ho,resolve,invoke,builtin,Sem.run_bind,Sem.run_pure,Result.andThen_ok,List.map_toArray,List.map_cons,List.map_nil,hs,hx]
 rw [show ([.int .i64 y]:List Value).length=1 from rfl] at hr
 rw [hr]
 have hal:∀ row,w.grownBy (w.alloc (.cells #[.int .i64 y] 3)) row:=fun row=>World.grownBy_alloc w _ row
 have ho':OwnI B w' v' (xs++[y]):=OwnV.toI (by simpa using h2)
 rcases h3 with ⟨hroom,hg⟩ | ⟨hk,hg⟩
 ·have hg2:=(hal v.ownBlock).trans hg
  exact hK _ _ (h v' w' ho' ((Below.refl _ _).grown hg2 hB (fun k hk=>(hown.lt k hk).1)) (.inl ⟨hroom,hg2⟩))
 ·have hg2:=(hal none).trans hg
  exact hK _ _ (h v' w' ho' ((Below.refl _ _).grown hg2 hB (by intro k hk; cases hk)) (.inr ⟨_,hk,by simp,hg2⟩))
theorem oneLists:OneCell 31 22 (.slice none 0 0) 24:=⟨by kernel_rfl,by kernel_rfl,rfl,by decide,fun _=>by kernel_rfl⟩
theorem wpl_makeV {T E:TypeId} {z:Value} {b:Nat} (oc:OneCell T E z b) {w:World} {ops:Array Oper} {rest:List Oper} {o:Oper} {a:Act} {Q:Exit→Act→World→Prop}
 (hg:o.guard=none) (l c:Operand) (hop:o.op=Op.makeSlice T l c) (C:Int) (hl:a.eval l=.int .i64 C) (hc:a.eval c=.int .i64 C)
 (h0:0≤C) (hC:C≤4398046511104)
 (hK:∀ v w',OwnV E w.heap.size w' v (List.replicate C.toNat z)→w.grownBy w' none→wpList Tryz.prog ops Q rest (a.put o.dst v) w') :
 wpList Tryz.prog ops Q (o::rest) a w:=by
 obtain ⟨i,hi,hz0,hz1,hz2⟩:=info_parts oc.hi
 obtain ⟨n,rfl⟩:=Int.eq_ofNat_of_zero_le h0
 have hb:=oc.hb
 refine wpList_make_full w hg l c T hop w.heap.size E i z 1 oc.ht hi hz0 hz1 .i64 .i64 n n n hl hc rfl rfl (by
  rw [hz2]
  calc b*n≤32*4398046511104:=Nat.mul_le_mul hb (by omega)
   _≤_:=by decide) (by unfold maxLen; omega) (Nat.le_refl _) ?_
 intro w' hown hgrow
 refine hK _ _ ?_ hgrow
 rw [oc.hz,toList_madeCells_one] at hown
 simpa [OwnV] using hown
set_option maxRecDepth 100000
def mkA (t:Nat):Int:=-2*(t:Int)-1
def mkB (t:Nat):Int:=-2*(t:Int)-2
def vAt (vs:List Value) (t:Nat):Value:=vs.getD t undef
theorem ValsAt.cellV {w:World} {v:Value} {vs:List Value} (h:ValsAt w v vs) (i:Nat) (hi:i<vs.length):w.cell? (valAt v i)=some (vAt vs i):=by
 rw [h.cell i hi]; simp [vAt,List.getD,hi]
structure Parted (lv:Value) (vs:List Value):Prop where
 two:∀ s t,s<vs.length→t<vs.length→s≠t→(vAt vs s).ownBlock=none∨(vAt vs s).ownBlock≠(vAt vs t).ownBlock
 top:∀ i t,i<vs.length→t<vs.length→(vAt vs t).ownBlock≠some (valAt lv i).block
theorem ValsAt.grown {w w':World} {row:Option Nat} {v:Value} {vs:List Value} (h:ValsAt w v vs) (hg:w.grownBy w' row) (hne:∀ i,i<vs.length→row≠some (valAt v i).block):ValsAt w' v vs :=
 h.cells_eq fun i hi=>World.cell?_of_block (hg.block _ (h.blk i hi) (fun e=>hne i hi e.symm))
def rA (X:Nat→List Int) (t:Nat):List Int:=List.replicate (X t).length (mkA t)
def rB (X:Nat→List Int) (t:Nat) (j:Nat):List Int:=rA X t++List.replicate j (mkB t)
theorem rB_zero (X:Nat→List Int) (t:Nat):rB X t 0=rA X t:=by simp [rB]
theorem rB_succ (X:Nat→List Int) (t j:Nat):rB X t (j+1)=rB X t j++[mkB t]:=by simp [rB,List.replicate_succ']
theorem grownBy_trans' {a b c:World} {row row':Option Nat} (h:a.grownBy b row) (k:b.grownBy c row') (hr:∀ i,row'=some i→a.heap.size≤i):a.grownBy c row :=
 ⟨k.os.trans h.os,k.tape.trans h.tape,k.output.trans h.output,Nat.le_trans h.size k.size,fun i hi hne=>(k.block i (Nat.lt_of_lt_of_le hi h.size) (fun e=>by have:=hr i e.symm; omega)).trans (h.block i hi hne)⟩
theorem OwnI.front {B:Nat} {w w':World} {v v':Value} {xs ys:List Int} (h:OwnI B w v xs) (h':OwnI B w' v' (xs++ys)) (hb:roomOf v'=roomOf v):OwnI B w' v xs :=
 OwnV.toI (OwnV.front h.toV (by simpa using h'.toV) hb)
theorem ownBlock_eq {B B':Nat} {w w':World} {v v':Value} {xs ys:List Int} (h:OwnI B w v xs) (h':OwnI B' w' v' ys) (hr:roomOf v'=roomOf v):v'.ownBlock=v.ownBlock:=by
 obtain ⟨a,n,c,e⟩:=h.at.shape
 obtain ⟨a',n',c',e'⟩:=h'.at.shape
 exact ownBlock_of_room e e' hr
structure Grows (B:Nat) (X:Nat→List Int) (k:Nat) (v:Value) (wi:World) (q:Nat) (g:Value) (wr:World):Prop where
 own:OwnI B wr g (rB X k q)
 old:OwnI B wr v (rA X k)
 step:wi.grownBy wr v.ownBlock
 lt:∀ b,v.ownBlock=some b→b<wi.heap.size
 at_:(roomOf g=roomOf v)∨∃ b,g.ownBlock=some b∧wi.heap.size≤b
theorem Grows.start {B:Nat} {X:Nat→List Int} {k:Nat} {v:Value} {wi:World} (h:OwnI B wi v (rA X k)):Grows B X k v wi 0 v wi :=
 ⟨by rw [rB_zero]; exact h,h,World.grownBy.refl _ _,fun b hb=>(h.lt b hb).2,.inl rfl⟩
theorem Grows.next {B:Nat} {X:Nat→List Int} {k:Nat} {v:Value} {wi:World} {q:Nat} {g:Value} {wr:World} (h:Grows B X k v wi q g wr) {g':Value} {w':World}
 (ho:OwnI B w' g' (rB X k q++[mkB k])) (ha:(roomOf g'=roomOf g∧wr.grownBy w' g.ownBlock)∨(∃ b,g'.ownBlock=some b∧wr.heap.size≤b∧wr.grownBy w' none)):Grows B X k v wi (q+1) g' w':=by
 rw [← rB_succ] at ho
 have hsz:=h.step.size
 rcases ha with ⟨hr,hg⟩ | ⟨b,hb,hlt,hg⟩
 ·rcases h.at_ with hat | ⟨b0,hb0,hlt0⟩
  ·have e:=ownBlock_eq h.old h.own hat
   rw [e] at hg
   exact ⟨ho,OwnI.front h.old (ys:=List.replicate (q+1) (mkB k)) ho (hr.trans hat),h.step.trans hg,h.lt,.inl (hr.trans hat)⟩
  ·have e:=ownBlock_eq h.own ho hr
   have hne:v.ownBlock=none∨v.ownBlock≠g.ownBlock:=by
    cases hv:v.ownBlock with
    | none=>exact .inl rfl
    | some kv =>
     right
     rw [hb0]
     intro e2
     simp at e2
     have:=h.lt kv hv
     omega
   exact ⟨ho,h.old.kept hg hne,grownBy_trans' h.step hg (fun i hi=>by rw [hb0] at hi; simp at hi; omega),h.lt,.inr ⟨b0,by rw [e]; exact hb0,hlt0⟩⟩
 ·exact ⟨ho,h.old.kept hg (by cases hv:v.ownBlock<;>simp),grownBy_trans' h.step hg (by intro i hi; cases hi),h.lt,.inr ⟨b,hb,by omega⟩⟩
structure Grown (B:Nat) (X:Nat→List Int) (vs:List Value) (gv:Value) (k:Nat) (gl:List Value) (wr:World):Prop where
 own:∀ t,t<k→OwnI B wr (vAt gl t) (rB X t 40)
 far:∀ t s,t<k→s<vs.length→s≠t→(vAt vs s).ownBlock=none∨(vAt gl t).ownBlock≠(vAt vs s).ownBlock
 top:∀ t,t<k→(vAt gl t).ownBlock≠gv.ownBlock
end Go.Proofs.YtkaoebokbfcmhaaGreatDoor
namespace Go.Proofs.YtkaoebokbfcmhaaGreatDoor
open Go.RowKit
theorem Below.step {w1 w2 w3:World} (h:Below w1.heap.size w1 w2) (k:Below w2.heap.size w2 w3):Below w1.heap.size w1 w3:=h.trans (k.mono h.size)
theorem belowAlloc (w:World) (o:Obj):Below w.heap.size w (w.alloc o):=(Below.refl _ _).alloc (Nat.le_refl _) _
def Owns (w:World):Nat→List Value→List (List Int)→Prop
 | lo,[],[]=>lo≤w.heap.size
 | lo,v::vs,x::xs=>∃ hi,lo≤hi∧OwnI lo w v x∧(∀ k,v.ownBlock=some k→k<hi)∧Owns w hi vs xs
 | _,_,_=>False
theorem Owns.get {w:World}:∀ {vs:List Value} {xs:List (List Int)} {lo:Nat},Owns w lo vs xs→vs.length=xs.length∧∀ t,t<vs.length→OwnI lo w (vAt vs t) (xs.getD t [])
 | [],[],_,_=>⟨rfl,by intro t h; simp at h⟩
 | v::vs,x::xs,lo,⟨hi,hle,ho,_,hr⟩=>by
  obtain ⟨hl,hg⟩:=Owns.get hr
  refine ⟨by simp [hl],fun t ht=>?_⟩
  cases t with
  | zero=>exact ho
  | succ t=>exact (hg t (by simpa using ht)).mono hle
 | [],_::_,_,h=>h.elim
 | _::_,[],_,h=>h.elim
theorem Owns.two {w:World}:∀ {vs:List Value} {xs:List (List Int)} {lo:Nat},Owns w lo vs xs→∀ s t,s<vs.length→t<vs.length→s≠t→(vAt vs s).ownBlock=none∨(vAt vs s).ownBlock≠(vAt vs t).ownBlock
 | [],[],_,_,s,t,hs,_,_=>by simp at hs
 | v::vs,x::xs,lo,⟨hi,hle,ho,hlt,hr⟩,s,t,hs,ht,hne=>by
  have hg:=(Owns.get hr).2
  have key:∀ t,t<vs.length→∀ k,v.ownBlock=some k→(vAt vs t).ownBlock≠some k:=fun t ht k hk e=>by
   have h1:=hlt k hk
   have h2:=((hg t ht).lt k e).1
   omega
  match s,t,hs,ht,hne with
  | 0,0,_,_,hne=>exact absurd rfl hne
  | 0,t+1,_,ht,_ =>
   show v.ownBlock=none∨v.ownBlock≠(vAt vs t).ownBlock
   cases hk:v.ownBlock with
   | none=>exact .inl rfl
   | some k=>exact .inr fun e=>key t (by simpa using ht) k hk e.symm
  | s+1,0,hs,_,_ =>
   show (vAt vs s).ownBlock=none∨(vAt vs s).ownBlock≠v.ownBlock
   cases hk:v.ownBlock with
   | none=>cases (vAt vs s).ownBlock<;>simp
   | some k=>exact .inr (key s (by simpa using hs) k hk)
  | s+1,t+1,hs,ht,hne=>exact Owns.two hr s t (by simpa using hs) (by simpa using ht) (by omega)
 | [],_::_,_,h,_,_,_,_,_=>h.elim
 | _::_,[],_,h,_,_,_,_,_=>h.elim
theorem Owns.alloc {w:World} (o:Obj):∀ {vs:List Value} {xs:List (List Int)} {lo:Nat},Owns w lo vs xs→Owns (w.alloc o) lo vs xs
 | [],[],lo,h=>by show lo≤(w.alloc o).heap.size; have:lo≤w.heap.size:=h; simp; omega
 | v::vs,x::xs,lo,⟨hi,hle,ho,hlt,hr⟩=>⟨hi,hle,ho.alloc o,hlt,Owns.alloc o hr⟩
 | [],_::_,_,h=>h.elim
 | _::_,[],_,h=>h.elim
set_option maxRecDepth 100000
theorem sizeInt1:(Tryz.prog.info? 3).map (·.size)=some 1:=by kernel_rfl
theorem splice_take {α:Type} (C ys:List α) (off n:Nat) (h:off+ys.length≤n) (hn:n≤C.length) :
 (C.take off++ys++C.drop (off+ys.length)).take n=(C.take n).take off++ys++(C.take n).drop (off+ys.length):=by
 have hl:(C.take off++ys).length=off+ys.length:=by simp; omega
 rw [List.take_append,List.take_of_length_le (by omega),hl,List.drop_take,List.take_take,Nat.min_eq_left (by omega)]
def preV (v:Value) (h:Nat):Value:=match v with | .slice a _ c=>.slice a h c | v=>v
theorem preV_at (v:Value) (h i:Nat):valAt (preV v h) i=valAt v i:=by
 cases v with
 | slice a n c=>cases a<;>rfl
 | _=>rfl
theorem IntsAt.pre {w:World} {v:Value} {xs:List Int} (h:IntsAt w v xs) (k:Nat) (hk:k≤xs.length):IntsAt w (preV v k) (xs.take k):=by
 obtain ⟨a,cap,rfl,h1,h2,h3,h4⟩:=h
 have hl:(xs.take k).length=k:=by simp; omega
 refine ⟨a,cap,by rw [hl]; rfl,by omega,h2,h3,fun i hi=>?_⟩
 rw [preV_at,h4 i (by omega)]
 simp
def LentI (B:Nat) (w:World) (m:Value) (xs:List Int):Prop:=∃ v,m=preV v xs.length∧OwnI B w v (xs++[7001,7002])
theorem LentI.at {B:Nat} {w:World} {m:Value} {xs:List Int} (h:LentI B w m xs):IntsAt w m xs:=by
 obtain ⟨v,rfl,ho⟩:=h
 have:=ho.at.pre xs.length (by simp)
 rwa [List.take_left'] at this
 rfl
theorem LentI.below {B:Nat} {w w':World} {m:Value} {xs:List Int} (h:LentI B w m xs) (hb:Below w.heap.size w w'):LentI B w' m xs:=by
 obtain ⟨v,e,ho⟩:=h
 exact ⟨v,e,ho.below hb⟩
theorem OwnI.belowB {B B':Nat} {w w':World} {v:Value} {xs:List Int} (h:OwnI B w v xs) (hb:Below B' w w') (hlt:∀ k,v.ownBlock=some k→k<B'):OwnI B w' v xs:=by
 refine ⟨h.1,?_⟩
 rcases h.2 with h2 | ⟨g,cap,cur,rfl,hB,hg,r⟩
 ·exact .inl h2
 ·exact .inr ⟨g,cap,cur,rfl,hB,by rw [hb.block g (hlt g rfl)]; exact hg,r⟩
theorem LentI.belowB {B B':Nat} {w0 w w':World} {m:Value} {xs:List Int} (h:LentI B w m xs) (h0:LentI B w0 m xs) (hs:w0.heap.size≤B') (hb:Below B' w w'):LentI B w' m xs:=by
 obtain ⟨v,rfl,ho⟩:=h
 obtain ⟨v0,e0,ho0⟩:=h0
 refine ⟨v,rfl,ho.belowB hb fun k hk=>?_⟩
 have hbk:v0.ownBlock=v.ownBlock:=by
  obtain ⟨a,n,c,rfl⟩:=ho.at.shape
  obtain ⟨a',n',c',rfl⟩:=ho0.at.shape
  simp [preV] at e0
  obtain ⟨rfl,rfl⟩:=e0
  cases a<;>rfl
 have:=(ho0.lt k (hbk.trans hk)).2
 omega
end Go.Proofs.YtkaoebokbfcmhaaGreatDoor
namespace Go.Proofs.YtkaoebokbfcmhaaGreatDoor
open Go.RowKit
theorem check_k (r:Nat→Addr) (k R:Int) (v:Value) (w:World) (hg:Glob r w) (h:k<1∨4<k) :
 Calls Tryz.prog 37 #[.agg #[.int .i64 k,.int .i64 R,v]] w (Ret1 (fun x w'=>ErrIs r w' (fresh sRule 0 1) x) w):=by
 have hg':=Hd (hg.below ((Below.refl _ _).alloc (Nat.le_refl _) (.cells #[.int .i64 k,.int .i64 R,v] 24)))
 clear hg
 rcases h with h | h <;>
 (go_enter Tryz.func37,Tryz.ntmps37
  go_wp2_with fail
  refine (rule_wrong r _ _ _ hg'.out (by decide) (by decide)).mono ?_
  rintro e w' ⟨x,rfl,hb,he⟩
  go_wp2
  go_ret
  exact ⟨_,rfl,((Below.refl _ _).alloc (Nat.le_refl _) _).trans (hb.mono (by simp)),he⟩)
theorem check_r (r:Nat→Addr) (k R:Int) (v:Value) (w:World) (hg:Glob r w) (h1:1≤k) (h4:k≤4) (h:R<0∨3<R) :
 Calls Tryz.prog 37 #[.agg #[.int .i64 k,.int .i64 R,v]] w (Ret1 (fun x w'=>ErrIs r w' (fresh sRule 1 1) x) w):=by
 have hg':=Hd (hg.below ((Below.refl _ _).alloc (Nat.le_refl _) (.cells #[.int .i64 k,.int .i64 R,v] 24)))
 clear hg
 go_enter Tryz.func37,Tryz.ntmps37
 go_wp2_with fail
 refine (size_bad r _ _ _ hg'.out (by omega)).mono ?_
 rintro e w1 ⟨x,y,rfl,hb,rfl,he⟩
 obtain ⟨T,a,rfl⟩:=he.some_shape
 clear he
 go_wp2_with fail
 refine (rule_wrong r _ _ _ (hg'.out.below hb) (by decide) (by decide)).mono ?_
 rintro e w' ⟨x,rfl,hb',he⟩
 go_wp2
 go_ret
 exact ⟨_,rfl,(((Below.refl _ _).alloc (Nat.le_refl _) _).trans (hb.mono (by simp))).trans (hb'.mono (by have:=hb.size; simp at this; omega)),he⟩
theorem check_len (r:Nat→Addr) (K R:Nat) (v:Value) (xs:List Int) (w:World) (hg:Glob r w) (h:IntsAt w v xs) (h1:1≤K) (h4:K≤4) (h3:R≤3) (hl:xs.length≠pw K (2*R+1)) :
 Calls Tryz.prog 37 #[.agg #[.int .i64 K,.int .i64 R,v]] w (Ret1 (fun x w'=>ErrIs r w' (fresh sRule 2 1) x) w):=by
 have hg':=Hd (hg.below ((Below.refl _ _).alloc (Nat.le_refl _) (.cells #[.int .i64 K,.int .i64 R,v] 24)))
 clear hg
 have hlen:=h.len
 clear h
 have hne:((xs.length:Int) != (pw K (2*R+1):Int))=true:=by simp; omega
 clear hl
 go_enter Tryz.func37,Tryz.ntmps37
 go_wp2_with fail
 refine (size_ok K R _ h1 h4 h3).mono ?_
 rintro e w1 ⟨rfl,rfl⟩
 go_wp2_with fail
 refine (rule_wrong r _ _ _ hg'.out (by decide) (by decide)).mono ?_
 rintro e w' ⟨x,rfl,hb',he⟩
 go_wp2
 go_ret
 exact ⟨_,rfl,((Below.refl _ _).alloc (Nat.le_refl _) _).trans (hb'.mono (by simp)),he⟩
theorem check_odd (r:Nat→Addr) (K R:Nat) (v:Value) (xs:List Int) (i:Nat) (w:World) (hg:Glob r w) (h:IntsAt w v xs) (h1:1≤K) (h4:K≤4) (h3:R≤3) (hl:xs.length=pw K (2*R+1)) (hi:idxOf (odd1 K) xs=i) (hi':i<xs.length) :
 Calls Tryz.prog 37 #[.agg #[.int .i64 K,.int .i64 R,v]] w (Ret1 (fun x w'=>ErrIs r w' (fresh sRule (3+i) 1) x) w):=by
 have hg':=Hd (hg.below ((Below.refl _ _).alloc (Nat.le_refl _) (.cells #[.int .i64 K,.int .i64 R,v] 24)))
 clear hg
 have hm:=h.len_le
 have h':=Hd (h.below ((Below.refl _ _).alloc (Nat.le_refl _) (.cells #[.int .i64 K,.int .i64 R,v] 24)))
 have hlen:=h.len
 clear h
 have hne:((xs.length:Int) != (pw K (2*R+1):Int))=false:=by simp; omega
 clear hl
 replace hi:=Hd hi
 go_enter Tryz.func37,Tryz.ntmps37
 go_wp2_with fail
 refine (size_ok K R _ h1 h4 h3).mono ?_
 rintro e w1 ⟨rfl,rfl⟩
 go_wp2_with fail
 refine (rule_odd K v xs _ h'.out).mono ?_
 rintro e w1 ⟨x,rfl,hb,rfl⟩
 rw [hi.out]
 have hlt:i<9223372036854775807:=by omega
 have hb3:(3+(i:Int))≤9223372036854775807:=by
  have:=pw_le (i:=2*R+1) h1 h4 (by omega)
  have:¬ ((xs.length:Int) != (pw K (2*R+1):Int))=true:=by rw [hne]; simp
  simp at this
  omega
 go_wp2_with fail
 refine (rule_wrong r _ _ _ (hg'.out.below hb) (by decide) (by decide)).mono ?_
 rintro e w' ⟨x,rfl,hb',he⟩
 go_wp2
 go_ret
 exact ⟨_,rfl,(((Below.refl _ _).alloc (Nat.le_refl _) _).trans (hb.mono (by simp))).trans (hb'.mono (by have:=hb.size; simp at this; omega)),he⟩
theorem check_ok (K R:Nat) (v:Value) (xs:List Int) (w:World) (h:IntsAt w v xs) (hr:RuleOk K R xs) :
 Calls Tryz.prog 37 #[.agg #[.int .i64 K,.int .i64 R,v]] w (Ret1 (fun x _=>x=.nilIface) w):=by
 obtain ⟨h1,h4,h3,hl,hs⟩:=hr
 have h':=Hd (h.below ((Below.refl _ _).alloc (Nat.le_refl _) (.cells #[.int .i64 K,.int .i64 R,v] 24)))
 have hlen:=h.len
 clear h
 have hne:((xs.length:Int) != (pw K (2*R+1):Int))=false:=by simp; omega
 clear hl
 replace hs:=Hd hs
 go_enter Tryz.func37,Tryz.ntmps37
 go_wp2_with fail
 refine (size_ok K R _ h1 h4 h3).mono ?_
 rintro e w1 ⟨rfl,rfl⟩
 go_wp2_with fail
 refine (rule_odd K v xs _ h'.out).mono ?_
 rintro e w1 ⟨x,rfl,hb,rfl⟩
 rw [hs.out.odd]
 go_wp2
 go_ret
 exact ⟨_,rfl,(((Below.refl _ _).alloc (Nat.le_refl _) _).trans (hb.mono (by simp))),rfl⟩
theorem check_any (r:Nat→Addr) (k R:Int) (v:Value) (xs:List Int) (w:World) (hg:Glob r w) (h:IntsAt w v xs) :
 Calls Tryz.prog 37 #[.agg #[.int .i64 k,.int .i64 R,v]] w (Ret1 (fun x w'=>ErrIs r w' (checkP k R xs) x) w):=by
 by_cases hk:k<1∨4<k
 ·rw [checkP,if_pos hk]; exact check_k r k R v w hg hk
 by_cases hr:R<0∨3<R
 ·rw [checkP,if_neg hk,if_pos hr]; exact check_r r k R v w hg (by omega) (by omega) hr
 obtain ⟨K,rfl⟩:=Int.eq_ofNat_of_zero_le (show 0≤k by omega)
 obtain ⟨R,rfl⟩:=Int.eq_ofNat_of_zero_le (show 0≤R by omega)
 by_cases hl:xs.length=pw K (2*R+1)
 ·rcases syms_or K xs with hs | ⟨i,hi,hlt⟩
  ·have hok:RuleOk K R xs:=⟨by omega,by omega,by omega,hl,hs⟩
   rw [hok.check]; exact check_ok K R v xs w h hok
  ·have:checkP K R xs=fresh sRule (3+i) 1:=by
    rw [checkP,if_neg hk,if_neg hr,if_neg (by simp [hl]),if_neg (by omega),hi]
   rw [this]
   exact check_odd r K R v xs i w hg h (by omega) (by omega) (by omega) hl hi hlt
 ·have:checkP K R xs=fresh sRule 2 1:=by
   rw [checkP,if_neg hk,if_neg hr,if_pos (by simpa using hl)]
  rw [this]
  exact check_len r K R v xs w hg h (by omega) (by omega) (by omega) hl
end Go.Proofs.YtkaoebokbfcmhaaGreatDoor
namespace Go.Proofs.YtkaoebokbfcmhaaGreatDoor
def sumRow (K:Nat) (x y:Int) (s:Nat):List Int:=(List.range s).map fun (t:Nat)=>(y+x*t)%K
def sumStep (K:Nat) (x:Int) (T:List Int):List Int:=T.flatMap fun y=>sumRow K x y K
def sumTable (K:Nat):List Int→List Int→List Int
 | T,[]=>T
 | T,x::f=>sumTable K (sumStep K x T) f
def sumT (K:Nat) (f:List Int):List Int:=sumTable K [0] f
theorem sumRow_length (K:Nat) (x y:Int) (s:Nat):(sumRow K x y s).length=s:=by simp [sumRow]
theorem sumRow_succ (K:Nat) (x y:Int) (s:Nat):sumRow K x y (s+1)=sumRow K x y s++[(y+x*s)%K]:=by simp [sumRow,List.range_succ]
theorem sumStep_length (K:Nat) (x:Int) (T:List Int):(sumStep K x T).length=T.length*K:=by
 induction T with
 | nil=>simp [sumStep]
 | cons y T ih=>simp only [sumStep,List.flatMap_cons,List.length_append,sumRow_length,List.length_cons] at *; rw [ih,Nat.succ_mul]; omega
theorem sumStep_snoc (K:Nat) (x y:Int) (T:List Int):sumStep K x (T++[y])=sumStep K x T++sumRow K x y K:=by simp [sumStep]
theorem sumStep_nil (K:Nat) (x:Int):sumStep K x []=[]:=rfl
theorem sumTable_snoc (K:Nat) (T f:List Int) (x:Int):sumTable K T (f++[x])=sumStep K x (sumTable K T f):=by
 induction f generalizing T with
 | nil=>rfl
 | cons y f ih=>exact ih _
theorem sumTable_length (K:Nat) (T f:List Int):(sumTable K T f).length=T.length*pw K f.length:=by
 induction f generalizing T with
 | nil=>simp [sumTable,pw]
 | cons y f ih=>rw [sumTable,ih,sumStep_length,List.length_cons,pw_succ,Nat.mul_assoc,Nat.mul_comm K]
theorem sumT_length (K:Nat) (f:List Int):(sumT K f).length=pw K f.length:=by rw [sumT,sumTable_length]; simp
theorem sumRow_syms {K:Nat} (hK:1≤K) (x y:Int) (s:Nat):Syms K (sumRow K x y s):=by
 intro z hz
 obtain ⟨t,_,rfl⟩:=List.mem_map.1 hz
 exact ⟨Int.emod_nonneg _ (by omega),Int.emod_lt_of_pos _ (by omega)⟩
theorem sumStep_syms {K:Nat} (hK:1≤K) (x:Int) (T:List Int):Syms K (sumStep K x T):=by
 intro z hz
 obtain ⟨y,_,h⟩:=List.mem_flatMap.1 hz
 exact sumRow_syms hK x y K z h
theorem sumTable_syms {K:Nat} (hK:1≤K) (T f:List Int) (hT:Syms K T):Syms K (sumTable K T f):=by
 induction f generalizing T with
 | nil=>exact hT
 | cons y f ih=>exact ih _ (sumStep_syms hK y T)
theorem sumT_syms {K:Nat} (hK:1≤K) (f:List Int):Syms K (sumT K f):=sumTable_syms hK _ _ (by intro x hx; simp at hx; omega)
theorem take_snoc (l:List Int) (k:Nat) (h:k<l.length):l.take (k+1)=l.take k++[l[k]]:=by rw [List.take_succ_eq_append_getElem h]
def facL (K n:Nat) (xs:List Int) (i:Nat):List Int:=(List.range n).map fun j=>if n≤i+j then xs.getD (pw K (n-1-j)) 0 else 0
theorem facL_length (K n:Nat) (xs:List Int) (i:Nat):(facL K n xs i).length=n:=by simp [facL]
theorem facL_zero (K n:Nat) (xs:List Int):facL K n xs 0=List.replicate n 0:=by
 refine List.ext_getElem (by simp [facL]) fun j h1 h2=>?_
 simp [facL] at h1 ⊢
 omega
theorem facL_succ (K n:Nat) (xs:List Int) (i:Nat) (hi:i<n) (hx:pw K i<xs.length):(facL K n xs i).set (n-1-i) xs[pw K i]=facL K n xs (i+1):=by
 refine List.ext_getElem (by simp [facL]) fun j h1 h2=>?_
 simp only [facL,List.length_set,List.length_map,List.length_range] at h1
 rw [List.getElem_set]
 by_cases e:n-1-i=j
 ·rw [if_pos e]
  simp only [facL,List.getElem_map,List.getElem_range]
  rw [if_pos (by omega),show n-1-j=i by omega]
  simp [List.getD,hx]
 ·rw [if_neg e]
  simp only [facL,List.getElem_map,List.getElem_range]
  by_cases c:n≤i+j
  ·rw [if_pos c,if_pos (by omega)]
  ·rw [if_neg c,if_neg (by omega)]
def facI (K n:Nat) (xs:List Int) (i:Nat):List Int:=if 1<K then facL K n xs i else List.replicate n 0
def wI (K i:Nat):Nat:=if 1<K then pw K i else 1
theorem facI_length (K n:Nat) (xs:List Int) (i:Nat):(facI K n xs i).length=n:=by
 unfold facI; split
 ·exact facL_length ..
 ·simp
theorem facI_zero (K n:Nat) (xs:List Int):facI K n xs 0=List.replicate n 0:=by
 unfold facI; split
 ·exact facL_zero ..
 ·rfl
def facs (K R:Nat) (xs:List Int):List Int:=facI K (2*R+1) xs (2*R+1)
theorem facs_length (K R:Nat) (xs:List Int):(facs K R xs).length=2*R+1:=facI_length ..
theorem facs_syms {K R:Nat} {xs:List Int} (h:RuleOk K R xs):Syms K (facs K R xs):=by
 have hk:=h.k1
 intro x hx
 unfold facs facI at hx
 split at hx
 ·obtain ⟨j,_,rfl⟩:=List.mem_map.1 hx
  split
  ·by_cases hp:pw K (2*R+1-1-j)<xs.length
   ·simp only [List.getD,List.getElem?_eq_getElem hp,Option.getD_some]
    exact h.syms _ (by simp)
   ·simp only [List.getD,List.getElem?_eq_none (Nat.le_of_not_lt hp),Option.getD_none]
    omega
  ·omega
 ·have:=List.eq_of_mem_replicate hx; omega
def isSum (K R:Nat) (xs:List Int):Bool:=decide (sumT K (facs K R xs)=xs)
def cnt (p:Int) (f:List Int):Nat:=f.countP fun x=>x%p != 0
theorem Syms.getD {K:Int} {xs:List Int} (hK:0<K) (h:Syms K xs) (i:Nat):0≤xs.getD i 0∧xs.getD i 0<K:=by
 by_cases c:i<xs.length
 ·simp only [List.getD,List.getElem?_eq_getElem c,Option.getD_some]
  exact h _ (by simp)
 ·simp only [List.getD,List.getElem?_eq_none (Nat.le_of_not_lt c),Option.getD_none]
  omega
def seenP (T:List Int) (W i:Nat):Nat→Nat
 | 0=>0
 | s+1=>seenP T W i s ||| 2 ^ (T.getD (i+s*W) 0).toNat
theorem seenP_lt {K:Nat} (hK:1≤K) {T:List Int} (h:Syms K T) (W i s:Nat):seenP T W i s<2 ^ K:=by
 induction s with
 | zero=>exact Nat.two_pow_pos K
 | succ s ih =>
  have:=h.getD (by omega) (i+s*W)
  exact Nat.or_lt_two_pow ih (Nat.pow_lt_pow_right (by decide) (by omega))
theorem two_pow_K {K:Nat} (h:K≤4):2 ^ K≤16:=by
 have:K=0∨K=1∨K=2∨K=3∨K=4:=by omega
 rcases this with rfl | rfl | rfl | rfl | rfl<;>decide
def fullP (K:Nat) (T:List Int) (W i:Nat):Bool:=seenP T W i K==2 ^ K-1
def unlikeP (K:Nat) (T:List Int) (W:Nat):Bool:=(List.range T.length).all fun i=>i/W%K != 0||fullP K T W i
theorem unlikeP_true {K:Nat} {T:List Int} {W:Nat} (h:∀ i,i<T.length→i/W%K=0→fullP K T W i=true):unlikeP K T W=true:=by
 rw [unlikeP,List.all_eq_true]
 intro i hi
 have hi':=List.mem_range.1 hi
 by_cases c:i/W%K=0
 ·simp [h i hi' c]
 ·simp [c]
theorem unlikeP_false {K:Nat} {T:List Int} {W:Nat} (i:Nat) (hi:i<T.length) (hm:i/W%K=0) (h:fullP K T W i=false):unlikeP K T W=false:=by
 rw [unlikeP,List.all_eq_false]
 exact ⟨i,List.mem_range.2 hi,by simp [hm,h]⟩
def fitP (T:List Int) (rest W:Nat) (image:Int):Nat→Nat→Nat
 | 0,_=>0
 | n+1,s=>if T.getD (rest+s*W) 0=image then s else fitP T rest W image n (s+1)
def fit (K:Nat) (T:List Int) (rest W:Nat) (image:Int):Nat:=fitP T rest W image K 0
def numW (K:Nat) (xs:List Int):Nat:=xs.foldl (fun n x=>n*K+x.toNat) 0
theorem numW_snoc (K:Nat) (xs:List Int) (x:Int):numW K (xs++[x])=numW K xs*K+x.toNat:=by simp [numW]
theorem numW_lt {K:Nat} (xs:List Int) (h:Syms K xs):numW K xs<pw K xs.length:=by
 suffices H:∀ ys zs,xs=ys++zs→numW K ys<pw K ys.length from H xs [] (by simp)
 intro ys
 induction hn:ys.length generalizing ys with
 | zero=>intro zs _; have:=List.eq_nil_of_length_eq_zero hn; subst this; simp [numW,pw]
 | succ n ih =>
  intro zs e
  have hne:ys≠[]:=by intro e; subst e; simp at hn
  obtain ⟨b,x,rfl⟩:∃ b x,ys=b++[x]:=⟨ys.dropLast,ys.getLast hne,(List.dropLast_concat_getLast hne).symm⟩
  have hb:b.length=n:=by simpa using hn
  have h1:=ih b hb ([x]++zs) (by rw [e]; simp)
  have hx:=h x (by rw [e]; simp)
  rw [numW_snoc,pw_succ]
  have:(numW K b+1)*K≤pw K n*K:=Nat.mul_le_mul_right _ (by omega)
  rw [Nat.succ_mul] at this
  omega
theorem group_lt {K W q j s n:Nat} (hW:1≤W) (hn:n=q*(W*K)) (hj:j<n) (hm:j/W%K=0) (hs:s<K):j+s*W<n:=by
 have h1:=Nat.div_add_mod j W
 have h2:=Nat.div_add_mod (j/W) K
 have h3:=Nat.mod_lt j hW
 rw [hm,Nat.add_zero] at h2
 have e:j=W*K*(j/W/K)+j%W:=by
  rw [Nat.mul_assoc,h2]; omega
 have hc:j/W/K<q:=by
  rw [Nat.div_div_eq_div_mul]
  exact Nat.div_lt_of_lt_mul (by rw [Nat.mul_comm]; omega)
 have h4:W*K*(j/W/K+1)≤W*K*q:=Nat.mul_le_mul_left _ hc
 rw [Nat.mul_add,Nat.mul_one] at h4
 have h5:(s+1)*W≤K*W:=Nat.mul_le_mul_right _ hs
 rw [Nat.succ_mul,Nat.mul_comm K W] at h5
 rw [hn,Nat.mul_comm q]
 omega
theorem RuleOk.half {K R:Nat} {xs:List Int} (h:RuleOk K R xs):xs.length/K=pw K (2*R)∧xs.length=pw K (2*R)*K:=by
 have e:=h.len
 rw [pw_succ] at e
 have:=h.k1
 exact ⟨by rw [e,Nat.mul_div_cancel _ (by omega)],e⟩
open Go.RowKit
set_option maxRecDepth 100000
set_option maxHeartbeats 8000000
theorem wrap64_nat (n:Nat) (h:n<1048576):wrap64 (n:Int)=n:=wrap64_id (by omega) (by omega)
theorem wrap64_nat1 (n:Nat) (h1:1≤n) (h:n<1048576):wrap64 ((n:Int)-1)=((n-1:Nat):Int):=by
 rw [wrap64_id (by omega) (by omega)]; omega
theorem bits_or_nat (a b:Nat) (ha:a<1024) (hb:b<1024):bits .or .i64 (a:Int) (b:Int)=((a ||| b:Nat):Int):=by
 have hx:a ||| b<2 ^ 10:=Nat.or_lt_two_pow (by omega) (by omega)
 have h1:(BitVec.ofInt 64 (a:Int)).toNat=a:=by
  rw [BitVec.ofInt_natCast,BitVec.toNat_ofNat]; exact Nat.mod_eq_of_lt (by omega)
 have h2:(BitVec.ofInt 64 (b:Int)).toNat=b:=by
  rw [BitVec.ofInt_natCast,BitVec.toNat_ofNat]; exact Nat.mod_eq_of_lt (by omega)
 show IntKind.i64.wrap ((BitVec.ofInt 64 (a:Int) ||| BitVec.ofInt 64 (b:Int)).toNat:Int)=_
 rw [BitVec.toNat_or,h1,h2]
 exact wrapK (by omega) (by omega)
theorem unlike_any (K R:Nat) (va:Option Addr) (vn vc:Nat) (xs:List Int) (W:Nat) (w:World) (h:IntsAt w (.slice va vn vc) xs) (hr:RuleOk K R xs) (hW:1≤W) (q:Nat) (hdiv:xs.length=q*(W*K)) :
 Calls Tryz.prog 123 #[.agg #[.int .i64 K,.int .i64 R,.slice va vn vc],.int .i64 W] w (Ret1 (fun x _=>x=.bool (unlikeP K xs W)) w):=by
 have hb0:=belowAlloc w (.cells #[.int .i64 K,.int .i64 R,.slice va vn vc] 24)
 have h0:=Hd h
 have hl:=h.len
 have hk1:=hr.k1
 have hk4:=hr.k4
 have hlen:=hr.len_le
 clear h
 replace hdiv:=Hd hdiv
 replace hr:=Hd hr
 go_enter Tryz.func123,Tryz.ntmps123
 go_wp2_with fail
 go_loopw [11] (fun i wr=>(∃ j:Nat,j≤xs.length∧i=.int .i64 j∧∀ t,t<j→t/W%K=0→fullP K xs W t=true)∧∃ n,wr=(w.alloc (.cells #[.int .i64 K,.int .i64 R,.slice va vn vc] 24)).drewN n) (fun i _=>xs.length-(intOf i).toNat)
 case atStart=>exact ⟨⟨0,by omega,rfl,by intro t ht; omega⟩,0,rfl⟩
 case round =>
  obtain ⟨⟨j,hj,rfl,hp⟩,n,rfl⟩:=hrel
  replace hp:=Hd hp
  by_cases hlt:j<xs.length
  ·by_cases hm:j/W%K=0
   ·have hqd:0≤(j:Int)/(W:Int):=Int.ediv_nonneg (by omega) (by omega)
    have hqu:(j:Int)/(W:Int)≤16384:=by
     have:j/W≤j:=Nat.div_le_self _ _
     have:j/W≤16384:=by omega
     exact_mod_cast this
    have hq:((j:Int)/(W:Int)%(K:Int) != 0)=false:=by
     rw [bne_eq_false_iff_eq]
     exact_mod_cast hm
    replace hm:=Hd hm
    go_wp2
    go_quiet (fail)
    go_wp2
    go_loop [6,23] (fun n i=>∃ s:Nat,s≤K∧i=.int .i64 s∧n=.int .i64 (seenP xs W j s)) (fun _ i=>K-(intOf i).toNat)
    case atStart=>exact ⟨0,by omega,rfl,rfl⟩
    case round =>
     obtain ⟨s,hs,rfl,rfl⟩:=hrel
     by_cases hsl:s<K
     ·have hx:=hr.out.syms.getD (by omega) (j+s*W)
      have hin:j+s*W<xs.length:=group_lt hW hdiv.out hlt hm.out hsl
      have h1:=h0.out.below hb0
      have i1:∀ w',(Instr.indexAt 22 (.slice va vn vc) (.int .i64 ((j:Int)+(s:Int)*(W:Int)))).run Tryz.prog w'=.ok (.pointer (some (valAt (.slice va vn vc) (j+s*W)))) w':=by
       intro w'
       have:=h1.idx (j+s*W) hin w'
       rwa [Int.natCast_add,Int.natCast_mul] at this
      have c1:=h1.cellD (j+s*W) hin
      have hsw0:0≤(s:Int)*(W:Int):=Int.mul_nonneg (by omega) (by omega)
      have hsw1:(s:Int)*(W:Int)≤16384:=by
       have:s*W≤16384:=by omega
       exact_mod_cast this
      have hst:Hid (seenP xs W j (s+1)=seenP xs W j s ||| 2 ^ (xs.getD (j+s*W) 0).toNat):=rfl
      have hsl2:=seenP_lt hk1 hr.out.syms W j s
      have h16:=two_pow_K hk4
      generalize xs.getD (j+s*W) 0=x at hx c1 hst
      have hbx:2 ^ x.toNat<1024:=Nat.lt_of_lt_of_le (Nat.pow_lt_pow_right (by decide) (show x.toNat<4 by omega)) (by decide)
      have hbit:Hid (bits BinOp.or IntKind.i64 ((seenP xs W j s:Nat):Int) (wrap64 (2 ^ x.toNat))=((seenP xs W j (s+1):Nat):Int)):=by
       show _=_
       have e:(2:Int) ^ x.toNat=((2 ^ x.toNat:Nat):Int):=by simp
       rw [e,wrap64_nat _ (by omega),bits_or_nat _ _ (by omega) hbx,hst.out]
      go_wp2
      go_round
      case rel=>exact ⟨s+1,by omega,by go_num,by rw [hbit.out]⟩
      case measure=>simp [intOf]; omega
     ·obtain rfl:K=s:=by omega
      have h16:=two_pow_K hk4
      have h1K:1≤2 ^ K:=Nat.two_pow_pos K
      have e:(2:Int) ^ K=((2 ^ K:Nat):Int):=by simp
      have e2:wrap64 (wrap64 ((2:Int) ^ K)-1)=((2 ^ K-1:Nat):Int):=by
       rw [e,wrap64_nat _ (by omega),wrap64_nat1 _ h1K (by omega)]
      have hT:Hid (((seenP xs W j K:Nat):Int) != wrap64 (wrap64 ((2:Int) ^ K)-1))=Hid (fullP K xs W j=false):=by
       show ((((seenP xs W j K:Nat):Int) != wrap64 (wrap64 ((2:Int) ^ K)-1))=true)=(fullP K xs W j=false)
       rw [e2]
       apply propext
       rw [bne_iff_ne,fullP,beq_eq_false_iff_ne]
       omega
      cases hf:fullP K xs W j
      ·have ht:(((seenP xs W j K:Nat):Int) != wrap64 (wrap64 ((2:Int) ^ K)-1))=true:=by
        have:=Eq.mpr hT hf; exact this
       have hu:=Hd (unlikeP_false (K:=K) j hlt hm.out hf)
       clear hT e e2 hf
       go_wp2
       go_ret
       exact ⟨_,rfl,below_drewN hb0 _,(by rw [hu.out]; rfl)⟩
      ·have ht:(((seenP xs W j K:Nat):Int) != wrap64 (wrap64 ((2:Int) ^ K)-1))=false:=by
        rw [Bool.eq_false_iff]
        intro c
        have:=Eq.mp hT c
        rw [hf] at this
        cases this
       replace hf:=Hd hf
       clear hT e e2
       go_wp2
       go_roundw
       case rel =>
        refine ⟨⟨j+1,by omega,by go_num,?_⟩,_,rfl⟩
        intro t ht' htm
        by_cases e:t=j
        ·subst e; exact hf.out
        ·exact hp.out t (by omega) htm
       case measure=>simp [intOf]; omega
   ·have hqd:0≤(j:Int)/(W:Int):=Int.ediv_nonneg (by omega) (by omega)
    have hqu:(j:Int)/(W:Int)≤16384:=by
     have:j/W≤j:=Nat.div_le_self _ _
     have:j/W≤16384:=by omega
     exact_mod_cast this
    have hq:((j:Int)/(W:Int)%(K:Int) != 0)=true:=by
     rw [bne_iff_ne]
     intro e
     apply hm
     exact_mod_cast e
    replace hm:=Hd hm
    go_wp2
    go_quiet (fail)
    go_wp2
    go_roundw
    case rel =>
     refine ⟨⟨j+1,by omega,by go_num,?_⟩,_,rfl⟩
     intro t ht htm
     by_cases e:t=j
     ·subst e; exact absurd htm hm.out
     ·exact hp.out t (by omega) htm
    case measure=>simp [intOf]; omega
  ·have hu:unlikeP K xs W=true:=unlikeP_true fun i hi hm=>hp.out i (by omega) hm
   replace hu:=Hd hu
   go_wp2
   go_ret
   exact ⟨_,rfl,below_drewN hb0 n,(by rw [hu.out]; rfl)⟩
theorem unlikeI (K R:Nat) (va:Option Addr) (vn vc:Nat) (xs:List Int) (Wi:Int) (w:World) (hW:1≤Wi) (hdiv:∃ q,xs.length=q*(Wi.toNat*K)) (h:IntsAt w (.slice va vn vc) xs) (hr:RuleOk K R xs) :
 Calls Tryz.prog 123 #[.agg #[.int .i64 K,.int .i64 R,.slice va vn vc],.int .i64 Wi] w (Ret1 (fun x _=>x=.bool (unlikeP K xs Wi.toNat)) w):=by
 obtain ⟨W,rfl⟩:=Int.eq_ofNat_of_zero_le (show 0≤Wi by omega)
 obtain ⟨q,hq⟩:=hdiv
 rw [Int.toNat_natCast] at hq ⊢
 exact unlike_any K R va vn vc xs W w h hr (by omega) q hq
theorem sides_ok (K R:Nat) (va:Option Addr) (vn vc:Nat) (xs:List Int) (w:World) (h:IntsAt w (.slice va vn vc) xs) (hr:RuleOk K R xs) :
 Calls Tryz.prog 70 #[.agg #[.int .i64 K,.int .i64 R,.slice va vn vc]] w (Ret3 (fun x y z _=>x=.bool (unlikeP K xs (xs.length/K))∧y=.bool (unlikeP K xs 1)∧z=.nilIface) w):=by
 have hb0:=belowAlloc w (.cells #[.int .i64 K,.int .i64 R,.slice va vn vc] 24)
 have hl:=h.len
 have hk1:=hr.k1
 have hlen:=hr.len_le
 have hhf:=hr.half
 have hp1:=pw_pos (2*R) hk1
 replace h:=Hd (h.below hb0)
 replace hr:=Hd hr
 replace hhf:=Hd hhf
 have hq0:0≤(xs.length:Int)/(K:Int):=Int.ediv_nonneg (by omega) (by omega)
 have hq1:(xs.length:Int)/(K:Int)≤16384:=by
  have:xs.length/K≤16384:=Nat.le_trans (Nat.div_le_self _ _) hlen
  exact_mod_cast this
 have hqw:IntKind.i64.wrap ((xs.length:Int)/(K:Int))=(xs.length:Int)/(K:Int):=wrapK (by omega) (by omega)
 have hdc:Hid ((xs.length:Int)/(K:Int)=((xs.length/K:Nat):Int)):=by show _=_; simp
 go_enter Tryz.func70,Tryz.ntmps70
 go_wp2_with fail
 refine (check_ok K R _ xs _ h.out hr.out).mono ?_
 rintro e w1 ⟨x,rfl,hb,rfl⟩
 obtain ⟨z0,z1,z2,f0,f1,f2⟩:=cells3 hb
 have hx:=h.out.below hb
 have hsz:w.heap.size<w1.heap.size:=World.block_lt_of_cell? _ _ z0
 replace hx:=Hd hx
 have hK0:((K:Int)==0)=false:=by rw [beq_eq_false_iff_ne]; omega
 have hK1:¬ (K:Int)=0:=by omega
 have hK2:(0:Int)<K:=by omega
 have hK3:¬ K=0:=by omega
 have hdc2:Hid (((xs.length:Int)/(K:Int)).toNat=xs.length/K):=by show _=_; rw [hdc.out,Int.toNat_natCast]
 have hW1:1≤(xs.length:Int)/(K:Int):=by
  rw [hdc.out,hhf.out.1]; omega
 have hd1:Hid (∃ q,xs.length=q*(((xs.length:Int)/(K:Int)).toNat*K)):=⟨1,by rw [hdc.out,Int.toNat_natCast,hhf.out.1,Nat.one_mul]; exact hhf.out.2⟩
 have hd2:Hid (∃ q,xs.length=q*((1:Int).toNat*K)):=⟨pw K (2*R),by simpa using hhf.out.2⟩
 go_wp2
 go_region_held3 (fun w'=>w'.cell? ⟨w.heap.size,0,none⟩=some (.int .i64 K)∧w'.cell? ⟨w.heap.size,1,none⟩=some (.int .i64 R)∧w'.cell? ⟨w.heap.size,2,none⟩=some (.slice va vn vc)) (go_keep)
  (first | (go_at_call 123; refine (unlikeI K R va vn vc xs _ _ (by first | exact hW1 | decide) (by first | exact hd1.out | exact hd2.out) (by first | exact hx.out.drew | exact hx.out.drew.below hb') hr.out).mono ?_; rintro e w2 ⟨x2,rfl,hb',rfl⟩; have S:=keep3 hb' (by first | exact S | exact ⟨z0,z1,z2⟩); have y0:=S.1; have y1:=S.2.1; have y2:=S.2.2; have bb:Below w1.heap.size w1 w2:=(by first | exact bb.trans (hb'.mono bb.size) | exact ((Below.refl _ _).drew).trans hb')))
 go_wp2
 go_ret3
 exact ⟨_,_,_,rfl,Below.step hb0 (Below.step hb bb),(by rw [← hdc2.out]; rfl),rfl,rfl⟩
end Go.Proofs.YtkaoebokbfcmhaaGreatDoor
namespace Go.Proofs.YtkaoebokbfcmhaaGreatDoor
open Go.RowKit
set_option maxRecDepth 100000
theorem run_makeI (C:Int) (n:Nat) (w:World) (hC:C=n) (hn:n≤17592186044416) :
 ∃ v w',(Instr.makeSlice 22 (.int .i64 C) (.int .i64 C)).run Tryz.prog w=.ok v w'∧OwnI w.heap.size w' v (List.replicate n 0)∧Below w.heap.size w w':=by
 subst hC
 obtain ⟨i,hi,hz0,hz1,hz2⟩:=info_parts iInt
 obtain ⟨w',hrun,r1,r2⟩:=run_make_full (P:=Tryz.prog) w w.heap.size 22 3 i (.int .i64 0) 1 uInts hi hz0 hz1 .i64 .i64 n (by rw [hz2]; omega) (by unfold maxLen; omega) (Nat.le_refl _)
 refine ⟨_,w',hrun,?_,(Below.refl _ _).grown r2 (Nat.le_refl _) (by intro k hk; cases hk)⟩
 have e:(madeCells (Value.cells (.int .i64 0)) (n*1)).toList=(List.replicate n (0:Int)).map (Value.int .i64):=by
  rw [show Value.cells (.int .i64 0)=#[.int .i64 0] from rfl,toList_madeCells_one]; simp
 rw [e] at r1
 simpa [OwnI] using r1
theorem OwnI.post {B:Nat} {w:World} {v:Value} {xs:List Int} (h:OwnI B w v xs) (off:Nat) (ho:off≤xs.length) :
 ∃ dp dLen dCap,(∀ w',(Instr.slice 22 v (some (.int .i64 off)) none none).run Tryz.prog w'=.ok (.slice dp dLen dCap) w')∧dLen=xs.length-off∧(0<xs.length-off→dp=some (valAt v off)):=by
 rcases h.2 with ⟨rfl,hn⟩ | ⟨g,cap,cur,rfl,hB,hg,hn,hm,hs,ht⟩
 ·have hr:∀ w',(Instr.slice 22 (.slice none 0 0) (some (.int .i64 off)) none none).run Tryz.prog w'=.ok (sliced none off 0 0 1) w':=by
   intro w'
   rw [run_slice_l w' 22 none 0 0 uIntsE .i64 off (by omega) (by omega),eInts,sInt]
   rfl
  exact ⟨_,_,_,hr,by omega,by intro hh; omega⟩
 ·have hr:∀ w',(Instr.slice 22 (.slice (some ⟨g,0,none⟩) xs.length cap) (some (.int .i64 off)) none none).run Tryz.prog w'=.ok (sliced (some ⟨g,0,none⟩) off xs.length cap 1) w':=by
   intro w'
   rw [run_slice_l w' 22 (some ⟨g,0,none⟩) xs.length cap uIntsE .i64 off (by omega) (by omega),eInts,sInt]
   rfl
  refine ⟨_,_,_,hr,rfl,fun hh=>?_⟩
  rw [if_neg (by omega),valAt_row]
  simp [Addr.add]
  intro e; exact e.symm
end Go.Proofs.YtkaoebokbfcmhaaGreatDoor
namespace Go.Proofs.YtkaoebokbfcmhaaGreatDoor
def digs (K:Nat):Nat→Nat→List Int
 | 0,_=>[]
 | n+1,x=>digs K n (x/K)++[((x%K:Nat):Int)]
theorem digs_length (K n x:Nat):(digs K n x).length=n:=by
 induction n generalizing x with
 | zero=>rfl
 | succ n ih=>simp [digs,ih]
theorem digs_syms {K:Nat} (hK:1≤K) (n x:Nat):Syms K (digs K n x):=by
 induction n generalizing x with
 | zero=>intro y hy; simp [digs] at hy
 | succ n ih =>
  intro y hy
  rw [digs,List.mem_append,List.mem_singleton] at hy
  rcases hy with hy | rfl
  ·exact ih _ y hy
  ·have:=Nat.mod_lt x (show 0<K by omega); omega
theorem numW_digs {K:Nat} (hK:1≤K) (n x:Nat) (hx:x<pw K n):numW K (digs K n x)=x:=by
 induction n generalizing x with
 | zero=>simp [pw] at hx; subst hx; rfl
 | succ n ih =>
  rw [digs,numW_snoc,ih _ (by rw [Nat.div_lt_iff_lt_mul (by omega),← pw_succ]; exact hx),Int.toNat_natCast]
  exact Nat.div_add_mod' x K
def imgP (K R:Nat) (T:List Int) (w:List Int):List Int:=(List.range (w.length-2*R)).map fun i=>T.getD (numW K ((w.drop i).take (2*R+1))) 0
theorem imgP_length (K R:Nat) (T w:List Int):(imgP K R T w).length=w.length-2*R:=by simp [imgP]
theorem imgP_getD (K R:Nat) (T w:List Int) (i:Nat) (hi:i<w.length-2*R):(imgP K R T w).getD i 0=T.getD (numW K ((w.drop i).take (2*R+1))) 0:=by
 simp [imgP,List.getD,hi]
theorem numW_append (K:Nat) (u v:List Int):numW K (u++v)=numW K u*pw K v.length+numW K v:=by
 induction hn:v.length generalizing v with
 | zero =>
  obtain rfl:=List.eq_nil_of_length_eq_zero hn
  simp [numW,pw]
 | succ n ih =>
  have hne:v≠[]:=by intro e; subst e; simp at hn
  obtain ⟨b,x,rfl⟩:∃ b x,v=b++[x]:=⟨v.dropLast,v.getLast hne,(List.dropLast_concat_getLast hne).symm⟩
  have hb:b.length=n:=by simpa using hn
  rw [← List.append_assoc,numW_snoc,numW_snoc,ih b hb,pw_succ,Nat.add_mul,Nat.mul_assoc]
  omega
theorem numW_mod {K:Nat} {u v:List Int} (h:Syms K v):numW K (u++v)%pw K v.length=numW K v:=by
 rw [numW_append,Nat.mul_comm,Nat.mul_add_mod,Nat.mod_eq_of_lt (numW_lt v h)]
theorem digs_getD (K n x j:Nat) (hj:j<n):(digs K n x).getD (n-1-j) 0=((x/pw K j%K:Nat):Int):=by
 induction n generalizing x j with
 | zero=>omega
 | succ n ih =>
  rw [digs]
  cases j with
  | zero =>
   rw [pw_zero,Nat.div_one,show n+1-1-0=(digs K n (x/K)).length by rw [digs_length]; omega]
   simp [List.getD]
  | succ j =>
   have h:=ih (x/K) j (by omega)
   have hl:n+1-1-(j+1)<(digs K n (x/K)).length:=by rw [digs_length]; omega
   simp only [List.getD,List.getElem?_append_left hl] at h ⊢
   rw [show n+1-1-(j+1)=n-1-j by omega,h,pw_succ,Nat.div_div_eq_div_mul,Nat.mul_comm]
theorem digs_fill (K n x j:Nat) (hj:j<n) (p:List Int) (hp:p.length=n) :
 (p.take (n-j)++(digs K n x).drop (n-j)).set (n-1-j) ((x/pw K j%K:Nat):Int)=p.take (n-(j+1))++(digs K n x).drop (n-(j+1)):=by
 have hd:=digs_getD K n x j hj
 have hdl:=digs_length K n x
 rw [show n-(j+1)=n-1-j by omega,show n-j=n-1-j+1 by omega]
 have hm:n-1-j<n:=by omega
 generalize n-1-j=m at hd hm
 rw [← hd,take_snoc p m (by omega),List.drop_eq_getElem_cons (show m<(digs K n x).length by omega),List.append_assoc,List.set_append_right _ _ (by simp; omega)]
 have e:m-(p.take m).length=0:=by simp; omega
 rw [e]
 simp [List.getD,show m<(digs K n x).length by omega]
theorem digs_numW {K:Nat} (hK:1≤K) (w:List Int) (h:Syms K w):digs K w.length (numW K w)=w:=by
 induction hn:w.length generalizing w with
 | zero=>obtain rfl:=List.eq_nil_of_length_eq_zero hn; rfl
 | succ n ih =>
  have hne:w≠[]:=by intro e; subst e; simp at hn
  obtain ⟨b,x,rfl⟩:∃ b x,w=b++[x]:=⟨w.dropLast,w.getLast hne,(List.dropLast_concat_getLast hne).symm⟩
  have hb:b.length=n:=by simpa using hn
  have hx:=h x (by simp)
  have hxn:x.toNat<K:=by omega
  have:=ih b (fun y hy=>h y (by simp [hy])) hb
  rw [digs,numW_snoc]
  rw [show (numW K b*K+x.toNat)/K=numW K b by rw [Nat.mul_comm,Nat.mul_add_div (by omega),Nat.div_eq_of_lt hxn,Nat.add_zero],this,
   show (numW K b*K+x.toNat)%K=x.toNat by rw [Nat.mul_comm,Nat.mul_add_mod,Nat.mod_eq_of_lt hxn]]
  congr 2
  omega
theorem mul_add_lt {K q s m:Nat} (hs:s<K) (hq:q<m):q*K+s<m*K:=by
 have:=Nat.mul_le_mul_right K (show q+1≤m from hq)
 rw [Nat.succ_mul] at this
 omega
theorem div_mk {K q s:Nat} (hs:s<K):(q*K+s)/K=q:=by
 rw [Nat.mul_comm,Nat.mul_add_div (by omega),Nat.div_eq_of_lt hs,Nat.add_zero]
theorem mod_mk {K q s:Nat} (hs:s<K):(q*K+s)%K=s:=by
 rw [Nat.mul_comm,Nat.mul_add_mod,Nat.mod_eq_of_lt hs]
theorem num_shift {K:Nat} {u:List Int} {s:Int} (h:Syms K (u++[s])):numW K ((u++[s]).drop 1)=numW K (u++[s])%pw K u.length:=by
 have hl:((u++[s]).drop 1).length=u.length:=by simp
 have:=numW_mod (K:=K) (u:=(u++[s]).take 1) (v:=(u++[s]).drop 1) (fun y hy=>h y (List.mem_of_mem_drop hy))
 rw [List.take_append_drop,hl] at this
 exact this.symm
def begins (n:Nat) (ends l:List Int):Bool:=decide (n≤l.length)&&decide (l.take n=ends)
open Go.RowKit
set_option maxRecDepth 100000
end Go.Proofs.YtkaoebokbfcmhaaGreatDoor
namespace Go.Proofs.YtkaoebokbfcmhaaGreatDoor
inductive Goes (adj:Nat→List Nat):Nat→Nat→Prop
 | refl (x:Nat):Goes adj x x
 | step {x y z:Nat} (h:Goes adj x y) (hz:z∈adj y):Goes adj x z
theorem Goes.one {adj:Nat→List Nat} {x y:Nat} (h:y∈adj x):Goes adj x y:=.step (.refl x) h
theorem Goes.trans {adj:Nat→List Nat} {x y z:Nat} (h:Goes adj x y) (h2:Goes adj y z):Goes adj x z:=by
 induction h2 with
 | refl=>exact h
 | step _ hz ih=>exact .step ih hz
theorem Goes.closed {adj:Nat→List Nat} {P:Nat→Prop} (hP:∀ x,P x→∀ t∈adj x,P t) {x y:Nat} (h:Goes adj x y) (hx:P x):P y:=by
 induction h with
 | refl=>exact hx
 | step _ hz ih=>exact hP _ ih _ hz
def updN {α:Type} (f:Nat→α) (v:Nat) (a:α):Nat→α:=fun x=>if x=v then a else f x
theorem updN_same {α:Type} (f:Nat→α) (v:Nat) (a:α):updN f v a v=a:=by simp [updN]
theorem updN_other {α:Type} (f:Nat→α) (v:Nat) (a:α) {x:Nat} (h:x≠v):updN f v a x=f x:=by simp [updN,h]
theorem updN_self {α:Type} (f:Nat→α) (v:Nat):updN f v (f v)=f:=by funext x; by_cases h:x=v<;>simp [updN,h]
structure TS where
 time:Nat
 low:Nat→Nat
 found:Nat→Nat
 idx:Nat→Nat
 opn:List Nat
 part:Nat→Int
 calls:List Nat
def enterS (S:TS) (v:Nat):TS:={ S with time:=S.time+1,low:=updN S.low v (S.time+1),found:=updN S.found v (S.time+1),idx:=updN S.idx v 0,opn:=v::S.opn,calls:=v::S.calls }
def closeS (v:Nat):List Nat→(Nat→Int)→List Nat×(Nat→Int)
 | [],p=>([],p)
 | t::r,p=>if t=v then (r,updN p t v) else closeS v r (updN p t v)
def lowS (low:Nat→Nat) (v:Nat):List Nat→Nat→Nat
 | []=>low
 | u::_=>updN low u (min (low u) (low v))
def leaveS (S:TS) (v:Nat) (r:List Nat):TS :=
 if lowS S.low v r v=S.found v then { S with low:=lowS S.low v r,calls:=r,opn:=(closeS v S.opn S.part).1,part:=(closeS v S.opn S.part).2 }
 else { S with low:=lowS S.low v r,calls:=r }
def stepS (adj:Nat→List Nat) (S:TS):TS :=
 match S.calls with
 | []=>S
 | v::r =>
  if S.idx v=(adj v).length then leaveS S v r
  else
   let t:=(adj v).getD (S.idx v) 0
   let S1:={ S with idx:=updN S.idx v (S.idx v+1) }
   if S.found t=0 then enterS S1 t
   else if S.part t<0 then { S1 with low:=updN S.low v (min (S.low v) (S.found t)) }
   else S1
theorem stepS_nil {adj:Nat→List Nat} {S:TS} (hc:S.calls=[]):stepS adj S=S:=by
 cases S; simp only at hc; subst hc; rfl
theorem stepS_cons {adj:Nat→List Nat} {S:TS} {v:Nat} {r:List Nat} (hc:S.calls=v::r):stepS adj S =
 if S.idx v=(adj v).length then leaveS S v r
 else if S.found ((adj v).getD (S.idx v) 0)=0 then enterS { S with idx:=updN S.idx v (S.idx v+1) } ((adj v).getD (S.idx v) 0)
 else if S.part ((adj v).getD (S.idx v) 0)<0 then { S with idx:=updN S.idx v (S.idx v+1),low:=updN S.low v (min (S.low v) (S.found ((adj v).getD (S.idx v) 0))) }
 else { S with idx:=updN S.idx v (S.idx v+1) }:=by
 cases S; simp only at hc; subst hc; rfl
def wsum (c found:Nat→Nat):Nat→Nat
 | 0=>0
 | n+1=>wsum c found n+if found n=0 then c n else 0
theorem wsum_upd (c found:Nat→Nat) (t a:Nat) (ha:a≠0) (ht:found t=0) (n:Nat) :
 wsum c (updN found t a) n+(if t<n then c t else 0)=wsum c found n:=by
 induction n with
 | zero=>simp [wsum]
 | succ n ih =>
  simp only [wsum]
  by_cases e:n=t
  ·subst e
   rw [if_neg (Nat.lt_irrefl n)] at ih
   rw [updN_same,if_neg ha,if_pos ht,if_pos (by omega)]; omega
  ·rw [updN_other _ _ _ e]
   by_cases h:t<n
   ·rw [if_pos h] at ih; rw [if_pos (show t<n+1 by omega)]; omega
   ·rw [if_neg h] at ih; rw [if_neg (show ¬ t<n+1 by omega)]; omega
structure TInv (n:Nat) (adj:Nat→List Nat) (S:TS):Prop where
 adjLt:∀ v,v<n→∀ t∈adj v,t<n
 seenLt:∀ v,S.found v≠0→v<n
 leTime:∀ v,S.found v≤S.time
 count:S.time+wsum (fun _=>1) S.found n=n
 inj:∀ x y,S.found x=S.found y→S.found x≠0→x=y
 opnIff:∀ v,v∈S.opn↔S.found v≠0∧S.part v<0
 opnSorted:S.opn.Pairwise (fun a b=>S.found b<S.found a)
 callsSorted:S.calls.Pairwise (fun a b=>S.found b<S.found a)
 callsOpen:∀ c∈S.calls,c∈S.opn
 idxLe:∀ v,v∈S.opn→S.idx v≤(adj v).length
 idxDone:∀ v,v∈S.opn→v∉S.calls→S.idx v=(adj v).length
 partSeen:∀ v,0≤S.part v→S.found v≠0
 partLow:∀ v,-1≤S.part v
 A:∀ c∈S.calls,∀ x∈S.opn,S.found c≤S.found x→Goes adj c x
 B:∀ x∈S.opn,∃ c∈S.calls,S.found c≤S.found x∧Goes adj x c
 C:∀ x,0≤S.part x→∀ t∈adj x,0≤S.part t
 D:∀ x∈S.opn,∀ j<S.idx x,∀ t,(adj x)[j]?=some t→S.found t≠0
 E:∀ x∈S.opn,∀ j<S.idx x,∀ t∈S.opn,(adj x)[j]?=some t→∀ c∈S.calls,S.found c≤S.found x →
  (∀ d∈S.calls,S.found d≤S.found x→S.found d≤S.found c)→S.low c≤S.found t
 F:∀ c∈S.calls,S.low c≤S.found c
 G:∀ c∈S.calls,∃ z∈S.opn,S.found z=S.low c∧Goes adj c z
 P1:∀ x,0≤S.part x→∃ p:Nat,S.part x=p∧0≤S.part p∧Goes adj x p∧Goes adj p x
 P2:∀ x y,0≤S.part x→0≤S.part y→Goes adj x y→Goes adj y x→S.part x=S.part y
variable {n:Nat} {adj:Nat→List Nat} {S:TS}
theorem TInv.callsSeen (h:TInv n adj S) {c:Nat} (hc:c∈S.calls):S.found c≠0∧S.part c<0:=(h.opnIff c).1 (h.callsOpen c hc)
theorem TInv.opn_nil (h:TInv n adj S) (hc:S.calls=[]):S.opn=[]:=by
 cases e:S.opn with
 | nil=>rfl
 | cons x l =>
  obtain ⟨c,hm,_⟩:=h.B x (by rw [e]; exact List.mem_cons_self)
  rw [hc] at hm; cases hm
theorem TInv.enterRoot (h:TInv n adj S) (hc:S.calls=[]) {v:Nat} (hv:v<n) (hw:S.found v=0):TInv n adj (enterS S v):=by
 have ho:=h.opn_nil hc
 have hp:S.part v<0:=by
  by_cases hp:S.part v<0
  ·exact hp
  ·exact absurd hw (h.partSeen v (by omega))
 have hcnt:=wsum_upd (fun _=>1) S.found v (S.time+1) (by omega) hw n
 rw [if_pos hv] at hcnt
 have hcl:∀ x,0≤S.part x→x≠v:=fun x hx e=>by subst e; omega
 constructor
 case adjLt=>exact h.adjLt
 case seenLt =>
  intro x hx
  by_cases e:x=v
  ·omega
  ·simp only [enterS,updN_other _ _ _ e] at hx; exact h.seenLt x hx
 case leTime =>
  intro x
  simp only [enterS]
  by_cases e:x=v
  ·subst e; rw [updN_same]; omega
  ·rw [updN_other _ _ _ e]; have:=h.leTime x; omega
 case count=>simp only [enterS]; have:=h.count; omega
 case inj =>
  intro x y hxy hx
  simp only [enterS] at hxy hx
  by_cases ex:x=v<;>by_cases ey:y=v
  ·omega
  ·subst ex; rw [updN_same,updN_other _ _ _ ey] at hxy; have:=h.leTime y; omega
  ·subst ey; rw [updN_same,updN_other _ _ _ ex] at hxy; have:=h.leTime x; omega
  ·rw [updN_other _ _ _ ex,updN_other _ _ _ ey] at hxy; rw [updN_other _ _ _ ex] at hx; exact h.inj x y hxy hx
 case opnIff =>
  intro x
  simp only [enterS,ho,List.mem_singleton]
  by_cases e:x=v
  ·subst e; rw [updN_same]; exact ⟨fun _=>⟨by omega,hp⟩,fun _=>rfl⟩
  ·rw [updN_other _ _ _ e]
   refine ⟨fun h1=>absurd h1 e,fun h1=>?_⟩
   have:=(h.opnIff x).2 h1; rw [ho] at this; cases this
 case opnSorted=>simp only [enterS,ho]; exact List.pairwise_singleton _ _
 case callsSorted=>simp only [enterS,hc]; exact List.pairwise_singleton _ _
 case callsOpen=>intro c hc2; simp only [enterS,hc,ho] at hc2 ⊢; exact hc2
 case idxLe =>
  intro x hx; simp only [enterS,ho,List.mem_singleton] at hx ⊢; subst hx; rw [updN_same]; omega
 case idxDone=>intro x hx hx2; simp only [enterS,hc,ho] at hx hx2; exact absurd hx hx2
 case partSeen =>
  intro x hx; simp only [enterS] at hx ⊢; rw [updN_other _ _ _ (hcl x hx)]; exact h.partSeen x hx
 case partLow=>exact h.partLow
 case A =>
  intro c hc2 x hx _
  simp only [enterS,hc,ho,List.mem_singleton] at hc2 hx
  subst hc2; subst hx; exact .refl _
 case B =>
  intro x hx
  simp only [enterS,ho,List.mem_singleton] at hx
  subst hx; exact ⟨x,by simp [enterS],Nat.le_refl _,.refl _⟩
 case C=>exact h.C
 case D =>
  intro x hx j hj; simp only [enterS,ho,List.mem_singleton] at hx hj; subst hx; rw [updN_same] at hj; omega
 case E =>
  intro x hx j hj; simp only [enterS,ho,List.mem_singleton] at hx hj; subst hx; rw [updN_same] at hj; omega
 case F =>
  intro c hc2; simp only [enterS,hc,List.mem_singleton] at hc2 ⊢; subst hc2; rw [updN_same,updN_same]; exact Nat.le_refl _
 case G =>
  intro c hc2; simp only [enterS,hc,List.mem_singleton] at hc2 ⊢; subst hc2; exact ⟨c,List.mem_cons_self,by rw [updN_same,updN_same],.refl _⟩
 case P1=>exact h.P1
 case P2=>exact h.P2
theorem TInv.enterEdge (h:TInv n adj S) {v:Nat} {r:List Nat} (hc:S.calls=v::r) {t:Nat} (ht:(adj v)[S.idx v]?=some t) (hw:S.found t=0) :
 TInv n adj (enterS { S with idx:=updN S.idx v (S.idx v+1) } t):=by
 have hvc:v∈S.calls:=by rw [hc]; exact List.mem_cons_self
 have hvo:=h.callsOpen v hvc
 have hvs:=h.callsSeen hvc
 have hvn:=h.seenLt v hvs.1
 have htm:t∈adj v:=List.mem_of_getElem? ht
 have htn:=h.adjLt v hvn t htm
 have hil:S.idx v<(adj v).length:=by
  by_cases q:S.idx v<(adj v).length
  ·exact q
  ·rw [List.getElem?_eq_none (by omega)] at ht; cases ht
 have hp:S.part t<0:=by
  by_cases hp:S.part t<0
  ·exact hp
  ·exact absurd hw (h.partSeen t (by omega))
 have hcnt:=wsum_upd (fun _=>1) S.found t (S.time+1) (by omega) hw n
 rw [if_pos htn] at hcnt
 have hcl:∀ x,0≤S.part x→x≠t:=fun x hx e=>by subst e; omega
 have hop:∀ x,x∈S.opn→x≠t:=fun x hx e=>by subst e; exact ((h.opnIff x).1 hx).1 hw
 have hca:∀ x,x∈S.calls→x≠t:=fun x hx=>hop x (h.callsOpen x hx)
 have fo:∀ x,x∈S.opn→updN S.found t (S.time+1) x=S.found x:=fun x hx=>updN_other _ _ _ (hop x hx)
 have fc:∀ x,x∈S.calls→updN S.found t (S.time+1) x=S.found x:=fun x hx=>updN_other _ _ _ (hca x hx)
 have lc:∀ x,x∈S.calls→updN S.low t (S.time+1) x=S.low x:=fun x hx=>updN_other _ _ _ (hca x hx)
 have ft:updN S.found t (S.time+1) t=S.time+1:=updN_same _ _ _
 have lt:updN S.low t (S.time+1) t=S.time+1:=updN_same _ _ _
 have hgt:∀ c∈S.calls,Goes adj c t:=fun c hcm=>by
  refine .step (h.A c hcm v hvo ?_) htm
  have:=h.callsSorted
  rw [hc] at this hcm
  rcases List.mem_cons.1 hcm with e | e
  ·rw [e]; exact Nat.le_refl _
  ·exact Nat.le_of_lt ((List.pairwise_cons.1 this).1 c e)
 have ix:∀ x,x∈S.opn→∀ j,j<updN (updN S.idx v (S.idx v+1)) t 0 x→j<S.idx x∨(x=v∧j=S.idx v):=fun x hx j hj=>by
  rw [updN_other _ _ _ (hop x hx)] at hj
  by_cases e:x=v
  ·subst e; rw [updN_same] at hj; omega
  ·rw [updN_other _ _ _ e] at hj; exact .inl hj
 have mono:∀ x,S.found x≠0→updN S.found t (S.time+1) x≠0:=fun x hx=>by
  by_cases e:x=t
  ·subst e; exact absurd hw hx
  ·rw [updN_other _ _ _ e]; exact hx
 constructor
 case adjLt=>exact h.adjLt
 case seenLt =>
  intro x hx
  by_cases e:x=t
  ·omega
  ·simp only [enterS,updN_other _ _ _ e] at hx; exact h.seenLt x hx
 case leTime =>
  intro x
  simp only [enterS]
  by_cases e:x=t
  ·subst e; rw [updN_same]; omega
  ·rw [updN_other _ _ _ e]; have:=h.leTime x; omega
 case count=>simp only [enterS]; have:=h.count; omega
 case inj =>
  intro x y hxy hx
  simp only [enterS] at hxy hx
  by_cases ex:x=t<;>by_cases ey:y=t
  ·omega
  ·subst ex; rw [updN_same,updN_other _ _ _ ey] at hxy; have:=h.leTime y; omega
  ·subst ey; rw [updN_same,updN_other _ _ _ ex] at hxy; have:=h.leTime x; omega
  ·rw [updN_other _ _ _ ex,updN_other _ _ _ ey] at hxy; rw [updN_other _ _ _ ex] at hx; exact h.inj x y hxy hx
 case opnIff =>
  intro x
  simp only [enterS,List.mem_cons]
  by_cases e:x=t
  ·subst e; rw [updN_same]; exact ⟨fun _=>⟨by omega,hp⟩,fun _=>.inl rfl⟩
  ·rw [updN_other _ _ _ e,← h.opnIff x]
   exact ⟨fun h1=>h1.resolve_left e,.inr⟩
 case opnSorted =>
  simp only [enterS]
  refine List.pairwise_cons.2 ⟨fun x hx=>?_,h.opnSorted.imp_of_mem fun ha hb hab=>?_⟩
  ·rw [fo x hx,ft]; have:=h.leTime x; omega
  ·rw [fo _ ha,fo _ hb]; exact hab
 case callsSorted =>
  simp only [enterS]
  refine List.pairwise_cons.2 ⟨fun x hx=>?_,h.callsSorted.imp_of_mem fun ha hb hab=>?_⟩
  ·rw [fc x hx,ft]; have:=h.leTime x; omega
  ·rw [fc _ ha,fc _ hb]; exact hab
 case callsOpen =>
  intro c hc2; simp only [enterS,List.mem_cons] at hc2 ⊢; exact hc2.imp id (h.callsOpen c)
 case idxLe =>
  intro x hx; simp only [enterS,List.mem_cons] at hx ⊢
  rcases hx with rfl | hx
  ·rw [updN_same]; omega
  ·rw [updN_other _ _ _ (hop x hx)]
   by_cases e:x=v
   ·subst e; rw [updN_same]; omega
   ·rw [updN_other _ _ _ e]; exact h.idxLe x hx
 case idxDone =>
  intro x hx hx2; simp only [enterS,List.mem_cons,not_or] at hx hx2 ⊢
  have hx3:=hx.resolve_left hx2.1
  rw [updN_other _ _ _ hx2.1,updN_other _ _ _ (fun e=>hx2.2 (by rw [e]; exact hvc))]
  exact h.idxDone x hx3 hx2.2
 case partSeen =>
  intro x hx; simp only [enterS] at hx ⊢; rw [updN_other _ _ _ (hcl x hx)]; exact h.partSeen x hx
 case partLow=>exact h.partLow
 case A =>
  intro c hc2 x hx hle
  simp only [enterS,List.mem_cons] at hc2 hx hle
  rcases hc2 with rfl | hc2
  ·rcases hx with rfl | hx
   ·exact .refl _
   ·rw [ft,fo x hx] at hle; have:=h.leTime x; omega
  ·rcases hx with rfl | hx
   ·exact hgt c hc2
   ·rw [fo x hx,fc c hc2] at hle; exact h.A c hc2 x hx hle
 case B =>
  intro x hx
  simp only [enterS,List.mem_cons] at hx
  rcases hx with rfl | hx
  ·exact ⟨x,by simp [enterS],Nat.le_refl _,.refl _⟩
  ·obtain ⟨c,h1,h2,h3⟩:=h.B x hx
   refine ⟨c,by simp only [enterS,List.mem_cons]; exact .inr h1,?_,h3⟩
   simp only [enterS]; rw [fo x hx,fc c h1]; exact h2
 case C=>exact h.C
 case D =>
  intro x hx j hj t' ht'
  simp only [enterS,List.mem_cons] at hx hj ⊢
  rcases hx with rfl | hx
  ·rw [updN_same] at hj; omega
  ·rcases ix x hx j hj with hj | ⟨rfl,rfl⟩
   ·exact mono _ (h.D x hx j hj t' ht')
   ·rw [ht] at ht'; cases ht'; rw [ft]; omega
 case E =>
  intro x hx j hj t' hto ht' c hc2 hle htop
  simp only [enterS,List.mem_cons] at hx hj hto hc2 hle htop ⊢
  rcases hx with rfl | hx
  ·rw [updN_same] at hj; omega
  ·rcases hc2 with rfl | hc2
   ·rw [ft,fo x hx] at hle; have:=h.leTime x; omega
   ·rw [fc c hc2,fo x hx] at hle
    rw [lc c hc2]
    rcases hto with rfl | hto
    ·rw [ft]; have:=h.F c hc2; have:=h.leTime c; omega
    ·rw [fo _ hto]
     rcases ix x hx j hj with hj | ⟨rfl,rfl⟩
     ·refine h.E x hx j hj t' hto ht' c hc2 hle fun d hd hd2=>?_
      have:=htop d (.inr hd) (by rw [fc d hd,fo x hx]; exact hd2)
      rwa [fc d hd,fc c hc2] at this
     ·rw [ht] at ht'; cases ht'; exact absurd rfl (hop _ hto)
 case F =>
  intro c hc2; simp only [enterS,List.mem_cons] at hc2 ⊢
  rcases hc2 with rfl | hc2
  ·rw [updN_same,updN_same]; exact Nat.le_refl _
  ·rw [lc c hc2,fc c hc2]; exact h.F c hc2
 case G =>
  intro c hc2; simp only [enterS,List.mem_cons] at hc2 ⊢
  rcases hc2 with rfl | hc2
  ·exact ⟨c,.inl rfl,by rw [updN_same,updN_same],.refl _⟩
  ·obtain ⟨z,h1,h2,h3⟩:=h.G c hc2
   exact ⟨z,.inr h1,by rw [lc c hc2,fo z h1]; exact h2,h3⟩
 case P1=>exact h.P1
 case P2=>exact h.P2
theorem TInv.edge (h:TInv n adj S) {v:Nat} {r:List Nat} (hc:S.calls=v::r) {t:Nat} (ht:(adj v)[S.idx v]?=some t) (hw:S.found t≠0) (lo:Nat→Nat)
 (hlo:∀ c,c≠v→lo c=S.low c) (hle:lo v≤S.low v) (hlt:S.part t<0→lo v≤S.found t) (hlg:lo v=S.low v∨(S.part t<0∧lo v=S.found t)) :
 TInv n adj { S with idx:=updN S.idx v (S.idx v+1),low:=lo }:=by
 have hvc:v∈S.calls:=by rw [hc]; exact List.mem_cons_self
 have hvo:=h.callsOpen v hvc
 have htm:t∈adj v:=List.mem_of_getElem? ht
 have hil:S.idx v<(adj v).length:=by
  by_cases q:S.idx v<(adj v).length
  ·exact q
  ·rw [List.getElem?_eq_none (by omega)] at ht; cases ht
 have lol:∀ c,lo c≤S.low c:=fun c=>by
  by_cases e:c=v
  ·rw [e]; exact hle
  ·rw [hlo c e]; exact Nat.le_refl _
 have ix:∀ x,∀ j,j<updN S.idx v (S.idx v+1) x→j<S.idx x∨(x=v∧j=S.idx v):=fun x j hj=>by
  by_cases e:x=v
  ·subst e; rw [updN_same] at hj; omega
  ·rw [updN_other _ _ _ e] at hj; exact .inl hj
 constructor
 case adjLt=>exact h.adjLt
 case seenLt=>exact h.seenLt
 case leTime=>exact h.leTime
 case count=>exact h.count
 case inj=>exact h.inj
 case opnIff=>exact h.opnIff
 case opnSorted=>exact h.opnSorted
 case callsSorted=>exact h.callsSorted
 case callsOpen=>exact h.callsOpen
 case idxLe =>
  intro x hx
  show updN S.idx v (S.idx v+1) x≤_
  by_cases e:x=v
  ·subst e; rw [updN_same]; omega
  ·rw [updN_other _ _ _ e]; exact h.idxLe x hx
 case idxDone =>
  intro x hx hx2
  show updN S.idx v (S.idx v+1) x=_
  rw [updN_other _ _ _ (fun e=>hx2 (by rw [e]; exact hvc))]
  exact h.idxDone x hx hx2
 case partSeen=>exact h.partSeen
 case partLow=>exact h.partLow
 case A=>exact h.A
 case B=>exact h.B
 case C=>exact h.C
 case D =>
  intro x hx j hj t' ht'
  rcases ix x j hj with hj | ⟨rfl,rfl⟩
  ·exact h.D x hx j hj t' ht'
  ·rw [ht] at ht'; cases ht'; exact hw
 case E =>
  intro x hx j hj t' hto ht' c hc2 hcx htop
  show lo c≤_
  rcases ix x j hj with hj | ⟨rfl,rfl⟩
  ·exact Nat.le_trans (lol c) (h.E x hx j hj t' hto ht' c hc2 hcx htop)
  ·rw [ht] at ht'; cases ht'
   have e:c=x:=by
    have h1:=htop x hvc (Nat.le_refl _)
    exact h.inj c x (by have h2:S.found c≤S.found x:=hcx; have h3:S.found x≤S.found c:=h1; omega) (h.callsSeen hc2).1
   subst e
   exact hlt ((h.opnIff t).1 hto).2
 case F=>intro c hc2; exact Nat.le_trans (lol c) (h.F c hc2)
 case G =>
  intro c hc2
  show ∃ z∈S.opn,S.found z=lo c∧_
  by_cases e:c=v
  ·subst e
   rcases hlg with e | ⟨e1,e2⟩
   ·rw [e]; exact h.G c hc2
   ·exact ⟨t,(h.opnIff t).2 ⟨hw,e1⟩,e2.symm,.one htm⟩
  ·rw [hlo c e]; exact h.G c hc2
 case P1=>exact h.P1
 case P2=>exact h.P2
theorem TInv.low_eq (h:TInv n adj S) {v:Nat} {r:List Nat} (hc:S.calls=v::r):lowS S.low v r v=S.low v:=by
 cases r with
 | nil=>rfl
 | cons u r =>
  have:=h.callsSorted
  rw [hc] at this
  have h1:=(List.pairwise_cons.1 this).1 u List.mem_cons_self
  exact updN_other _ _ _ (fun e=>by subst e; omega)
theorem TInv.leaveN (h:TInv n adj S) {v:Nat} {r:List Nat} (hc:S.calls=v::r) (hi:S.idx v=(adj v).length) (hl:S.low v≠S.found v) :
 TInv n adj { S with low:=lowS S.low v r,calls:=r }:=by
 have hvc:v∈S.calls:=by rw [hc]; exact List.mem_cons_self
 have hvo:=h.callsOpen v hvc
 have hsrt:=h.callsSorted
 rw [hc] at hsrt
 have hrl:∀ c∈r,S.found c<S.found v:=(List.pairwise_cons.1 hsrt).1
 have hsub:∀ c∈r,c∈S.calls:=fun c hm=>by rw [hc]; exact List.mem_cons_of_mem _ hm
 have hcs:∀ c∈S.calls,c=v∨c∈r:=fun c hm=>by rw [hc] at hm; exact List.mem_cons.1 hm
 have hF:=h.F v hvc
 obtain ⟨z,hz1,hz2,hz3⟩:=h.G v hvc
 obtain ⟨g,hg1,hg2,hg3⟩:=h.B z hz1
 have hgr:g∈r:=(hcs g hg1).resolve_left (fun e=>by subst e; omega)
 obtain ⟨u,r',rfl⟩:∃ u r',r=u::r':=by cases r with
  | nil=>cases hgr
  | cons u r'=>exact ⟨u,r',rfl⟩
 have hur:u∈u::r':=List.mem_cons_self
 have huc:=hsub u hur
 have hru:∀ c∈u::r',S.found c≤S.found u:=fun c hm=>by
  rcases List.mem_cons.1 hm with e | e
  ·rw [e]; exact Nat.le_refl _
  ·exact Nat.le_of_lt ((List.pairwise_cons.1 (List.pairwise_cons.1 hsrt).2).1 c e)
 have lol:∀ c,lowS S.low v (u::r') c≤S.low c:=fun c=>by
  show updN S.low u _ c≤_
  by_cases e:c=u
  ·subst e; rw [updN_same]; omega
  ·rw [updN_other _ _ _ e]; exact Nat.le_refl _
 have lou:lowS S.low v (u::r') u=min (S.low u) (S.low v):=updN_same _ _ _
 have loc:∀ c,c≠u→lowS S.low v (u::r') c=S.low c:=fun c e=>updN_other _ _ _ e
 constructor
 case adjLt=>exact h.adjLt
 case seenLt=>exact h.seenLt
 case leTime=>exact h.leTime
 case count=>exact h.count
 case inj=>exact h.inj
 case opnIff=>exact h.opnIff
 case opnSorted=>exact h.opnSorted
 case callsSorted=>exact (List.pairwise_cons.1 hsrt).2
 case callsOpen=>exact fun c hm=>h.callsOpen c (hsub c hm)
 case idxLe=>exact h.idxLe
 case idxDone =>
  intro x hx hx2
  show S.idx x=_
  by_cases e:x=v
  ·rw [e]; exact hi
  ·exact h.idxDone x hx (fun hm=>(hcs x hm).elim e hx2)
 case partSeen=>exact h.partSeen
 case partLow=>exact h.partLow
 case A=>exact fun c hm=>h.A c (hsub c hm)
 case B =>
  intro x hx
  obtain ⟨c,h1,h2,h3⟩:=h.B x hx
  rcases hcs c h1 with rfl | hcr
  ·refine ⟨g,hgr,?_,h3.trans (hz3.trans hg3)⟩
   show S.found g≤S.found x
   omega
  ·exact ⟨c,hcr,h2,h3⟩
 case C=>exact h.C
 case D=>exact h.D
 case E =>
  intro x hx j hj t hto ht c hc2 hcx htop
  have hcx:S.found c≤S.found x:=hcx
  have htop:∀ d∈u::r',S.found d≤S.found x→S.found d≤S.found c:=htop
  show lowS S.low v (u::r') c≤S.found t
  by_cases hvx:S.found v≤S.found x
  ·have hux:=htop u hur (by have:=hrl u hur; omega)
   have hcu:=hru c hc2
   have e:c=u:=h.inj c u (by omega) (h.callsSeen (hsub c hc2)).1
   rw [e,lou]
   have:=h.E x hx j hj t hto ht v hvc hvx (fun d hd _=>by
    rcases hcs d hd with e | e
    ·rw [e]; exact Nat.le_refl _
    ·exact Nat.le_of_lt (hrl d e))
   omega
  ·refine Nat.le_trans (lol c) (h.E x hx j hj t hto ht c (hsub c hc2) hcx fun d hd hdx=>?_)
   rcases hcs d hd with e | e
   ·rw [e] at hdx; exact absurd hdx hvx
   ·exact htop d e hdx
 case F=>exact fun c hm=>Nat.le_trans (lol c) (h.F c (hsub c hm))
 case G =>
  intro c hc2
  show ∃ z∈S.opn,S.found z=lowS S.low v (u::r') c∧_
  by_cases e:c=u
  ·subst e
   rw [lou]
   by_cases q:S.low v≤S.low c
   ·rw [Nat.min_eq_right q]
    exact ⟨z,hz1,hz2,(h.A c huc v hvo (Nat.le_of_lt (hrl c hur))).trans hz3⟩
   ·rw [Nat.min_eq_left (by omega)]; exact h.G c huc
  ·rw [loc c e]; exact h.G c (hsub c hc2)
 case P1=>exact h.P1
 case P2=>exact h.P2
theorem closeS_spec (found:Nat→Nat) (v:Nat):∀ (l:List Nat) (p:Nat→Int),l.Pairwise (fun a b=>found b<found a)→v∈l →
 (closeS v l p).1.Sublist l∧(∀ x,x∈(closeS v l p).1↔x∈l∧found x<found v) ∧
 (∀ x,(x∈l∧found v≤found x)→(closeS v l p).2 x=(v:Int))∧(∀ x,¬ (x∈l∧found v≤found x)→(closeS v l p).2 x=p x):=by
 intro l
 induction l with
 | nil=>intro p _ h; cases h
 | cons t r ih =>
  intro p hs hv
  have ⟨h1,h2⟩:=List.pairwise_cons.1 hs
  unfold closeS
  by_cases e:t=v
  ·subst e
   rw [if_pos rfl]
   refine ⟨List.sublist_cons_self _ _,fun x=>?_,fun x ⟨hx,hf⟩=>?_,fun x hx=>?_⟩
   ·refine ⟨fun hx=>⟨List.mem_cons_of_mem _ hx,h1 x hx⟩,fun ⟨hx,hf⟩=>?_⟩
    rcases List.mem_cons.1 hx with e | e
    ·subst e; omega
    ·exact e
   ·rcases List.mem_cons.1 hx with e | e
    ·subst e; exact updN_same _ _ _
    ·have:=h1 x e; omega
   ·exact updN_other _ _ _ (fun e=>hx (by rw [e]; exact ⟨List.mem_cons_self,Nat.le_refl _⟩))
  ·rw [if_neg e]
   have hvr:v∈r:=(List.mem_cons.1 hv).resolve_left (fun q=>e q.symm)
   obtain ⟨i1,i2,i3,i4⟩:=ih (updN p t v) h2 hvr
   have htv:=h1 v hvr
   refine ⟨i1.trans (List.sublist_cons_self _ _),fun x=>?_,fun x ⟨hx,hf⟩=>?_,fun x hx=>?_⟩
   ·rw [i2 x]
    refine ⟨fun ⟨a,b⟩=>⟨List.mem_cons_of_mem _ a,b⟩,fun ⟨a,b⟩=>⟨?_,b⟩⟩
    rcases List.mem_cons.1 a with e | e
    ·subst e; omega
    ·exact e
   ·by_cases hxr:x∈r
    ·exact i3 x ⟨hxr,hf⟩
    ·rw [i4 x (fun q=>hxr q.1)]
     rcases List.mem_cons.1 hx with e | e
     ·subst e; exact updN_same _ _ _
     ·exact absurd e hxr
   ·rw [i4 x (fun q=>hx ⟨List.mem_cons_of_mem _ q.1,q.2⟩)]
    exact updN_other _ _ _ (fun e=>hx (by rw [e]; exact ⟨List.mem_cons_self,Nat.le_of_lt htv⟩))
theorem TInv.leaveC (h:TInv n adj S) {v:Nat} {r:List Nat} (hc:S.calls=v::r) (hi:S.idx v=(adj v).length) (hl:S.low v=S.found v) :
 TInv n adj { S with low:=lowS S.low v r,calls:=r,opn:=(closeS v S.opn S.part).1,part:=(closeS v S.opn S.part).2 }:=by
 have hvc:v∈S.calls:=by rw [hc]; exact List.mem_cons_self
 have hvo:=h.callsOpen v hvc
 have hsrt:=h.callsSorted
 rw [hc] at hsrt
 have hrl:∀ c∈r,S.found c<S.found v:=(List.pairwise_cons.1 hsrt).1
 have hsub:∀ c∈r,c∈S.calls:=fun c hm=>by rw [hc]; exact List.mem_cons_of_mem _ hm
 have hcs:∀ c∈S.calls,c=v∨c∈r:=fun c hm=>by rw [hc] at hm; exact List.mem_cons.1 hm
 have hlow:lowS S.low v r=S.low:=by
  cases r with
  | nil=>rfl
  | cons u r' =>
   have h1:=hrl u List.mem_cons_self
   have h2:=h.F u (hsub u List.mem_cons_self)
   show updN S.low u _=_
   rw [Nat.min_eq_left (by omega),updN_self]
 rw [hlow]
 obtain ⟨k1,k2,k3,k4⟩:=closeS_spec S.found v S.opn S.part h.opnSorted hvo
 generalize (closeS v S.opn S.part).1=O at *
 generalize (closeS v S.opn S.part).2=P at *
 have seg:∀ x,x∈S.opn→S.found v≤S.found x→Goes adj v x∧Goes adj x v:=fun x hx hf=>by
  refine ⟨h.A v hvc x hx hf,?_⟩
  obtain ⟨c,h1,h2,h3⟩:=h.B x hx
  rcases hcs c h1 with e | e
  ·rw [← e]; exact h3
  ·exact h3.trans (h.A c h1 v hvo (Nat.le_of_lt (hrl c e)))
 have old:∀ x,0≤S.part x→P x=S.part x:=fun x hx=>k4 x (fun q=>by have:=((h.opnIff x).1 q.1).2; omega)
 have new:∀ x,0≤P x→0≤S.part x∨(x∈S.opn∧S.found v≤S.found x):=fun x hx=>by
  by_cases q:x∈S.opn∧S.found v≤S.found x
  ·exact .inr q
  ·rw [k4 x q] at hx; exact .inl hx
 have C2:∀ x,0≤P x→∀ t∈adj x,0≤P t:=fun x hx t ht=>by
  rcases new x hx with hx | ⟨hxo,hxf⟩
  ·have:=h.C x hx t ht; rw [old t this]; exact this
  ·obtain ⟨j,hj⟩:=List.mem_iff_getElem?.1 ht
   have hjl:j<(adj x).length:=by
    by_cases q:j<(adj x).length
    ·exact q
    ·rw [List.getElem?_eq_none (by omega)] at hj; cases hj
   have hix:S.idx x=(adj x).length:=by
    by_cases e:x=v
    ·rw [e]; exact hi
    ·refine h.idxDone x hxo (fun hm=>?_)
     rcases hcs x hm with q | q
     ·exact e q
     ·have:=hrl x q; omega
   have hft:=h.D x hxo j (by omega) t hj
   by_cases hp:0≤S.part t
   ·rw [old t hp]; exact hp
   ·have hto:=(h.opnIff t).2 ⟨hft,by omega⟩
    have:=h.E x hxo j (by omega) t hto hj v hvc hxf (fun d hd _=>by
     rcases hcs d hd with e | e
     ·rw [e]; exact Nat.le_refl _
     ·exact Nat.le_of_lt (hrl d e))
    rw [k3 t ⟨hto,by omega⟩]; omega
 constructor
 case adjLt=>exact h.adjLt
 case seenLt=>exact h.seenLt
 case leTime=>exact h.leTime
 case count=>exact h.count
 case inj=>exact h.inj
 case opnIff =>
  intro x
  show x∈O↔S.found x≠0∧P x<0
  rw [k2 x]
  constructor
  ·rintro ⟨a,b⟩
   have:=(h.opnIff x).1 a
   rw [k4 x (fun q=>by omega)]; exact this
  ·rintro ⟨a,b⟩
   by_cases q:x∈S.opn∧S.found v≤S.found x
   ·rw [k3 x q] at b; omega
   ·rw [k4 x q] at b
    have:=(h.opnIff x).2 ⟨a,b⟩
    exact ⟨this,by have:¬ S.found v≤S.found x:=fun w=>q ⟨this,w⟩; omega⟩
 case opnSorted=>exact h.opnSorted.sublist k1
 case callsSorted=>exact (List.pairwise_cons.1 hsrt).2
 case callsOpen=>exact fun c hm=>(k2 c).2 ⟨h.callsOpen c (hsub c hm),hrl c hm⟩
 case idxLe=>exact fun x hx=>h.idxLe x ((k2 x).1 hx).1
 case idxDone =>
  intro x hx hx2
  refine h.idxDone x ((k2 x).1 hx).1 (fun hm=>?_)
  rcases hcs x hm with e | e
  ·have:=((k2 x).1 hx).2; subst e; omega
  ·exact hx2 e
 case partSeen =>
  intro x hx
  rcases new x hx with q | q
  ·exact h.partSeen x q
  ·exact ((h.opnIff x).1 q.1).1
 case partLow =>
  intro x
  show -1≤P x
  by_cases q:x∈S.opn∧S.found v≤S.found x
  ·rw [k3 x q]; omega
  ·rw [k4 x q]; exact h.partLow x
 case A=>exact fun c hm x hx hf=>h.A c (hsub c hm) x ((k2 x).1 hx).1 hf
 case B =>
  intro x hx
  have ⟨hx1,hx2⟩:=(k2 x).1 hx
  obtain ⟨c,h1,h2,h3⟩:=h.B x hx1
  rcases hcs c h1 with e | e
  ·subst e; omega
  ·exact ⟨c,e,h2,h3⟩
 case C=>exact C2
 case D=>exact fun x hx=>h.D x ((k2 x).1 hx).1
 case E =>
  intro x hx j hj t hto ht c hc2 hcx htop
  have ⟨hx1,hx2⟩:=(k2 x).1 hx
  refine h.E x hx1 j hj t ((k2 t).1 hto).1 ht c (hsub c hc2) hcx fun d hd hdx=>?_
  rcases hcs d hd with e | e
  ·subst e; omega
  ·exact htop d e hdx
 case F=>exact fun c hm=>h.F c (hsub c hm)
 case G =>
  intro c hm
  obtain ⟨z,h1,h2,h3⟩:=h.G c (hsub c hm)
  have:=h.F c (hsub c hm)
  have:=hrl c hm
  exact ⟨z,(k2 z).2 ⟨h1,by omega⟩,h2,h3⟩
 case P1 =>
  intro x hx
  rcases new x hx with q | q
  ·obtain ⟨p,a,b,c,d⟩:=h.P1 x q
   exact ⟨p,by show P x=_; rw [old x q]; exact a,by show 0≤P p; rw [old _ b]; exact b,c,d⟩
  ·have:=seg x q.1 q.2
   exact ⟨v,k3 x q,by show 0≤P v; rw [k3 v ⟨hvo,Nat.le_refl _⟩]; omega,this.2,this.1⟩
 case P2 =>
  intro x y hx hy hxy hyx
  show P x=P y
  rcases new x hx with q | q<;>rcases new y hy with q' | q'
  ·rw [old x q,old y q']; exact h.P2 x y q q' hxy hyx
  ·have:=Goes.closed (P:=fun z=>0≤S.part z) h.C hxy q
   have:=((h.opnIff y).1 q'.1).2; omega
  ·have:=Goes.closed (P:=fun z=>0≤S.part z) h.C hyx q'
   have:=((h.opnIff x).1 q.1).2; omega
  ·rw [k3 x q,k3 y q']
theorem TInv.leave (h:TInv n adj S) {v:Nat} {r:List Nat} (hc:S.calls=v::r) (hi:S.idx v=(adj v).length):TInv n adj (leaveS S v r):=by
 unfold leaveS
 rw [h.low_eq hc]
 split
 ·next q=>exact h.leaveC hc hi q
 ·next q=>exact h.leaveN hc hi q
theorem TInv.idx_get (h:TInv n adj S) {v:Nat} {r:List Nat} (hc:S.calls=v::r) (hi:S.idx v≠(adj v).length) :
 S.idx v<(adj v).length∧(adj v)[S.idx v]?=some ((adj v).getD (S.idx v) 0)∧(adj v).getD (S.idx v) 0<n:=by
 have hvc:v∈S.calls:=by rw [hc]; exact List.mem_cons_self
 have hvo:=h.callsOpen v hvc
 have h1:S.idx v<(adj v).length:=by have:=h.idxLe v hvo; omega
 have h2:(adj v)[S.idx v]?=some ((adj v).getD (S.idx v) 0):=by simp [List.getD,List.getElem?_eq_getElem h1]
 exact ⟨h1,h2,h.adjLt v (h.seenLt v (h.callsSeen hvc).1) _ (List.mem_of_getElem? h2)⟩
theorem TInv.step (h:TInv n adj S):TInv n adj (stepS adj S):=by
 cases hc:S.calls with
 | nil=>rw [stepS_nil hc]; exact h
 | cons v r =>
  rw [stepS_cons hc]
  by_cases hi:S.idx v=(adj v).length
  ·rw [if_pos hi]; exact h.leave hc hi
  ·rw [if_neg hi]
   obtain ⟨_,h2,_⟩:=h.idx_get hc hi
   by_cases hf:S.found ((adj v).getD (S.idx v) 0)=0
   ·rw [if_pos hf]; exact h.enterEdge hc h2 hf
   ·rw [if_neg hf]
    by_cases hp:S.part ((adj v).getD (S.idx v) 0)<0
    ·rw [if_pos hp]
     refine h.edge hc h2 hf (updN S.low v (min (S.low v) (S.found ((adj v).getD (S.idx v) 0)))) (fun c (hcv:c≠v)=>updN_other S.low v _ hcv) ?_ (fun _=>?_) ?_
     ·rw [updN_same]; omega
     ·rw [updN_same]; omega
     ·rw [updN_same]
      by_cases q:S.low v≤S.found ((adj v).getD (S.idx v) 0)
      ·exact .inl (Nat.min_eq_left q)
      ·exact .inr ⟨hp,Nat.min_eq_right (by omega)⟩
    ·rw [if_neg hp]
     exact h.edge hc h2 hf S.low (fun _ _=>rfl) (Nat.le_refl _) (fun q=>absurd q hp) (.inl rfl)
theorem sorted_len (found:Nat→Nat):∀ (l:List Nat) (b:Nat),l.Pairwise (fun a b=>found b<found a)→(∀ x∈l,found x≠0∧found x≤b)→l.length≤b
 | [],b,_,_=>Nat.zero_le b
 | a::l,b,hs,hb=>by
  have ⟨h1,h2⟩:=List.pairwise_cons.1 hs
  have ha:=hb a List.mem_cons_self
  have:=sorted_len found l (found a-1) h2 (fun x hx=>⟨(hb x (List.mem_cons_of_mem _ hx)).1,by have:=h1 x hx; omega⟩)
  simp only [List.length_cons]; omega
theorem TInv.time_le (h:TInv n adj S):S.time≤n:=by have:=h.count; omega
theorem TInv.calls_len (h:TInv n adj S):S.calls.length≤n :=
 Nat.le_trans (sorted_len S.found S.calls S.time h.callsSorted (fun x hx=>⟨(h.callsSeen hx).1,h.leTime x⟩)) h.time_le
theorem TInv.opn_len (h:TInv n adj S):S.opn.length≤n :=
 Nat.le_trans (sorted_len S.found S.opn S.time h.opnSorted (fun x hx=>⟨((h.opnIff x).1 hx).1,h.leTime x⟩)) h.time_le
def phi (n:Nat) (adj:Nat→List Nat) (S:TS):Nat :=
 (S.calls.map fun v=>1+((adj v).length-S.idx v)).sum+wsum (fun v=>2+(adj v).length) S.found n
theorem phi_calls (adj:Nat→List Nat) (l:List Nat) (f g:Nat→Nat) (h:∀ v∈l,f v=g v) :
 (l.map fun v=>1+((adj v).length-f v)).sum=(l.map fun v=>1+((adj v).length-g v)).sum:=by
 congr 1
 exact List.map_congr_left fun v hv=>by rw [h v hv]
theorem TInv.phi_step (h:TInv n adj S) {v:Nat} {r:List Nat} (hc:S.calls=v::r):phi n adj (stepS adj S)<phi n adj S:=by
 have hsrt:=h.callsSorted
 rw [hc] at hsrt
 have hnd:∀ c∈r,c≠v:=fun c hm e=>by have:=(List.pairwise_cons.1 hsrt).1 c hm; subst e; omega
 have hbase:phi n adj S=(1+((adj v).length-S.idx v))+(r.map fun v=>1+((adj v).length-S.idx v)).sum+wsum (fun v=>2+(adj v).length) S.found n:=by
  unfold phi; rw [hc]; simp
 have hbump:∀ lo,phi n adj { S with idx:=updN S.idx v (S.idx v+1),low:=lo }=(1+((adj v).length-(S.idx v+1)))+(r.map fun v=>1+((adj v).length-S.idx v)).sum+wsum (fun v=>2+(adj v).length) S.found n:=fun lo=>by
  unfold phi; rw [hc]; simp only [List.map_cons,List.sum_cons,updN_same]
  rw [phi_calls adj r _ S.idx (fun c hm=>updN_other _ _ _ (hnd c hm))]
 rw [stepS_cons hc]
 by_cases hi:S.idx v=(adj v).length
 ·rw [if_pos hi,hbase]
  unfold leaveS
  split<;>· unfold phi; dsimp only; omega
 ·rw [if_neg hi]
  obtain ⟨h1,h2,h3⟩:=h.idx_get hc hi
  by_cases hf:S.found ((adj v).getD (S.idx v) 0)=0
  ·rw [if_pos hf,hbase]
   generalize (adj v).getD (S.idx v) 0=t at *
   have hw:=wsum_upd (fun v=>2+(adj v).length) S.found t (S.time+1) (by omega) hf n
   rw [if_pos h3] at hw
   have htc:∀ c∈S.calls,c≠t:=fun c hm e=>by have:=(h.callsSeen hm).1; rw [e] at this; exact this hf
   unfold phi enterS
   dsimp only
   rw [hc]
   simp only [List.map_cons,List.sum_cons,updN_same]
   rw [phi_calls adj r _ S.idx (fun c hm=>by rw [updN_other _ _ _ (htc c (by rw [hc]; exact List.mem_cons_of_mem _ hm)),updN_other _ _ _ (hnd c hm)]),
    updN_other _ _ _ (htc v (by rw [hc]; exact List.mem_cons_self)),updN_same]
   omega
  ·rw [if_neg hf]
   by_cases hp:S.part ((adj v).getD (S.idx v) 0)<0
   ·rw [if_pos hp,hbase]; have:=hbump (updN S.low v (min (S.low v) (S.found ((adj v).getD (S.idx v) 0)))); omega
   ·rw [if_neg hp,hbase]; have:=hbump S.low; have e:({ S with idx:=updN S.idx v (S.idx v+1),low:=S.low }:TS)={ S with idx:=updN S.idx v (S.idx v+1) }:=rfl
    rw [e] at this; omega
def initS:TS:=⟨0,fun _=>0,fun _=>0,fun _=>0,[],fun _=>-1,[]⟩
theorem wsum_white (n:Nat):wsum (fun _=>1) (fun _=>0) n=n:=by
 induction n with
 | zero=>rfl
 | succ n ih=>simp [wsum,ih]
theorem TInv.init (n:Nat) (adj:Nat→List Nat) (ha:∀ v,v<n→∀ t∈adj v,t<n):TInv n adj initS:=by
 constructor
 case adjLt=>exact ha
 case count=>simp [initS,wsum_white]
 case C=>intro x hx; simp [initS] at hx
 case P1=>intro x hx; simp [initS] at hx
 case P2=>intro x y hx; simp [initS] at hx
 all_goals simp [initS]
theorem keepsS (adj:Nat→List Nat) (S:TS) {x:Nat} (hx:S.found x≠0):(stepS adj S).found x=S.found x:=by
 cases hc:S.calls with
 | nil=>rw [stepS_nil hc]
 | cons v r =>
  rw [stepS_cons hc]
  split
  ·unfold leaveS; split<;>rfl
  ·split
   ·next hf=>exact updN_other _ _ _ (fun e=>by rw [e] at hx; exact hx hf)
   ·split<;>rfl
theorem TInv.done (h:TInv n adj S) (hc:S.calls=[]) (hall:∀ v,v<n→S.found v≠0) :
 (∀ v,v<n→0≤S.part v)∧∀ x y,x<n→y<n→(S.part x=S.part y↔Goes adj x y∧Goes adj y x):=by
 have hp:∀ v,v<n→0≤S.part v:=fun v hv=>by
  by_cases q:S.part v<0
  ·have:=(h.opnIff v).2 ⟨hall v hv,q⟩; rw [h.opn_nil hc] at this; cases this
  ·omega
 refine ⟨hp,fun x y hx hy=>⟨fun e=>?_,fun ⟨a,b⟩=>h.P2 x y (hp x hx) (hp y hy) a b⟩⟩
 obtain ⟨p,p1,_,p2,p3⟩:=h.P1 x (hp x hx)
 obtain ⟨q,q1,_,q2,q3⟩:=h.P1 y (hp y hy)
 have:p=q:=by omega
 subst this
 exact ⟨p2.trans q3,q2.trans p3⟩
end Go.Proofs.YtkaoebokbfcmhaaGreatDoor
