/-
  Texts that the proof leans on.
-/
import Derived.Test.YtkaoebokbfcmhaaGreatDoorMWl3
import Derived.Laws.Bits64b
import Derived.Deep.RegionHeld3
import Derived.Deep.DeepCutAuto
import Derived.BigQuiet
namespace Go.Proofs.YtkaoebokbfcmhaaGreatDoor
open Go.RowKit
set_option maxRecDepth 100000
set_option maxHeartbeats 8000000
def natI (xs:List Nat):List Int:=xs.map fun n:Nat=>(n:Int)
theorem natI_len (xs:List Nat):(natI xs).length=xs.length:=by simp [natI]
theorem natI_at {xs:List Nat} {i:Nat} (h:i<xs.length):(natI xs).getD i 0=((xs[i]:Nat):Int):=by simp [natI,List.getD,h]
theorem wordsV_set (ws:List Nat) (k x:Nat):(wordsV ws).set k (.int .u64 (x:Int))=wordsV (ws.set k x):=by simp [wordsV,List.map_set]
theorem wordsV_zero (n:Nat):wordsV (List.replicate n 0)=List.replicate n (.int .u64 0):=by simp [wordsV]
theorem or_bit {m j:Nat} (hm:m<2 ^ 64) (hj:j<64):bits BinOp.or IntKind.u64 (m:Int) (IntKind.u64.wrap (2 ^ j))=((m ||| 2 ^ j:Nat):Int):=by
 have hp:2 ^ j<2 ^ 64:=Nat.pow_lt_pow_right (by decide) hj
 have e:IntKind.u64.wrap (2 ^ j)=((2 ^ j:Nat):Int):=by
  have e1:((2:Int) ^ j)=((2 ^ j:Nat):Int):=by norm_cast
  rw [e1]
  simp only [IntKind.wrap,IntKind.signed,IntKind.bits]
  generalize 2 ^ j=a at hp
  simp; omega
 rw [e]
 exact bits_or_u64_nat m (2 ^ j) hm hp
theorem bag_bits (n g:Nat) (v:Value) (xs:List Nat) (w:World) (c0:w.cell? ⟨g,0,none⟩=some (.int .i64 n)) (h:IntsAt w v (natI xs)) (hx:∀ x∈xs,x<n) (hxl:xs.length≤100000) (h1:1≤n) (hn:n≤4096) :
 Calls Tryz.prog 177 #[.pointer (some ⟨g,0,none⟩),v] w (Ret2 (fun x y w'=>y=.nilIface∧OwnV 50 w.heap.size w' x (wordsV (wordsB (setOf n xs)))) w):=by
 have l1:=h.len
 rw [natI_len] at l1
 obtain ⟨va,vn,vc,rfl⟩:=h.shape
 have hg:=World.block_lt_of_cell? _ _ c0
 replace h:=Hd h
 replace hx:=Hd hx
 obtain ⟨q,hq⟩:∃ q,(n+63)/64=q:=⟨_,rfl⟩
 have eq0:((n:Int)+63)/64=(q:Int):=by omega
 have hq64:q≤64:=by omega
 replace hq:=Hd hq
 go_enter Tryz.func177,Tryz.ntmps177
 go_wp2_with (at_make; refine wpl_makeV oneWords rfl _ _ rfl (((n:Int)+63)/64) rfl rfl (by omega) (by omega) ?_)
 intro sv w1 ho1 g1
 have b1:Below w.heap.size w w1:=(Below.refl _ _).grown g1 (Nat.le_refl _) (by intro k hk; cases hk)
 rw [← wordsV_zero,← hq.out,← wordsB_zero] at ho1
 obtain ⟨sa,sn,sc,rfl⟩:=ho1.shape
 replace ho1:=Hd ho1
 go_wp2_with fail
 go_loopw [21] (fun iv wr=>∃ i:Nat,iv=.int .i64 i∧i≤xs.length∧OwnV 50 w.heap.size wr (.slice sa sn sc) (wordsV (wordsB (setOf n (xs.take i))))∧Below w.heap.size w wr) (fun iv _=>xs.length-(intOf iv).toNat)
 case atStart=>exact ⟨0,rfl,Nat.zero_le _,by simpa [setOf] using ho1.out,b1⟩
 case round =>
  obtain ⟨i,rfl,hi,hO,hB⟩:=hrel
  obtain ⟨wo,rfl⟩:∃ wo:World,wo=wr:=⟨_,rfl⟩
  have hgB:=hB.size
  have e0:wo.cell? ⟨g,0,none⟩=some (.int .i64 n):=by rw [hB.cell hg]; exact c0
  by_cases hil:i<xs.length
  ·have di:decide ((i:Int)<(xs.length:Int))=true:=decide_eq_true (by omega)
   have hv:=h.out.below hB
   have iX:=fun w'=>hv.idx i (by rw [natI_len]; exact hil) w'
   have cX:=hv.cellD i (by rw [natI_len]; exact hil)
   rw [natI_at hil] at cX
   have hxn:=hx.out xs[i] (List.getElem_mem hil)
   have htk:setOf n (xs.take (i+1))=(setOf n (xs.take i)).set xs[i] true:=by rw [take_snocN xs i hil,setOf_snoc]
   obtain ⟨x,hxx⟩:∃ x,xs[i]=x:=⟨_,rfl⟩
   rw [hxx] at cX hxn htk
   obtain ⟨xa,hxa⟩:∃ xa,valAt (.slice va vn vc) i=xa:=⟨_,rfl⟩
   rw [hxa] at iX cX
   obtain ⟨l,hl⟩:∃ l,setOf n (xs.take i)=l:=⟨_,rfl⟩
   have hll:l.length=n:=by rw [← hl,setOf_len]
   rw [hl] at htk hO
   have hxll:x<l.length:=by omega
   have hws:wordsV (wordsB (l.set x true))=(wordsV (wordsB l)).set (x/64) (.int .u64 ((wordB l (x/64) ||| 2 ^ (x%64):Nat):Int)):=by rw [wordsB_set hxll,wordsV_set]
   have hk:x/64<(wordsV (wordsB l)).length:=by rw [wordsV_len,wordsB_len]; omega
   have iS:∀ w',(Instr.indexAt 257 (.slice sa sn sc) (.int .i64 ((x:Int)/64))).run Tryz.prog w'=.ok (.pointer (some (valAt (.slice sa sn sc) (x/64)))) w':=by
    intro w'
    have:=hO.at.idx oneWords (x/64) hk w'
    rwa [show ((x/64:Nat):Int)=(x:Int)/64 by omega] at this
   have cS:=hO.at.cell (x/64) hk
   have eS:(wordsV (wordsB l))[x/64]=.int .u64 ((wordB l (x/64):Nat):Int):=by simp [wordsV,wordsB]
   rw [eS] at cS
   have fS:=hO.frz (x/64) hk
   have hO2:=hO.set (x/64) hk (.int .u64 ((wordB l (x/64) ||| 2 ^ (x%64):Nat):Int))
   rw [← hws,← htk] at hO2
   have hB2:=hB.setCell (hO.blkB (x/64) hk).2 (.int .u64 ((wordB l (x/64) ||| 2 ^ (x%64):Nat):Int))
   have dl:decide ((x:Int)<0)=false:=decide_eq_false (by omega)
   have dh:decide ((x:Int)≥(n:Int))=false:=decide_eq_false (by omega)
   have m0:(0:Int)≤(x:Int)%64:=by omega
   have m1:(x:Int)%64≤64:=by omega
   have hwl:=wordB_lt l (x/64)
   obtain ⟨m,hm⟩:∃ m,wordB l (x/64)=m:=⟨_,rfl⟩
   rw [hm] at cS hO2 hB2 hwl
   obtain ⟨aS,haS⟩:∃ aS,valAt (.slice sa sn sc) (x/64)=aS:=⟨_,rfl⟩
   rw [haS] at iS cS fS hO2 hB2
   replace hxx:=Hd hxx
   replace hxa:=Hd hxa
   replace hv:=Hd hv
   replace htk:=Hd htk
   replace hl:=Hd hl
   replace hws:=Hd hws
   replace hm:=Hd hm
   replace haS:=Hd haS
   replace hO2:=Hd hO2
   replace hB2:=Hd hB2
   replace hB:=Hd hB
   clear hO eS hk
   go_wp2
   go_region
   all_goals
    go_wp2
    go_roundw
    case measure=>simp [intOf]; omega
    case rel =>
     have eb:bits BinOp.or IntKind.u64 (m:Int) (IntKind.u64.wrap (2 ^ (x%64)))=((m ||| 2 ^ (x%64):Nat):Int):=or_bit hwl (Nat.mod_lt _ (by decide))
     rw [eb]
     exact ⟨i+1,by go_num,by omega,hO2.out.drew,hB2.out.drew⟩
  ·have di:decide ((i:Int)<(xs.length:Int))=false:=decide_eq_false (by omega)
   obtain rfl:i=xs.length:=by omega
   rw [List.take_length] at hO
   replace hO:=Hd hO
   go_wp2
   go_ret2
   exact ⟨_,_,rfl,hB,rfl,hO.out⟩
theorem oneSets:OneCell 254 257 (.slice none 0 0) 24:=⟨by kernel_rfl,by kernel_rfl,rfl,by decide,fun _=>by kernel_rfl⟩
theorem bag_set (g id:Nat) (at_:Int) (sv:Value) (svs:List Value) (w:World) (c1:w.cell? ⟨g,1,none⟩=some sv) (h:ValsAt w sv svs) (hid:id<svs.length) :
 Calls Tryz.prog 192 #[.pointer (some ⟨g,0,none⟩),.int .i64 id,.int .i64 at_] w (Ret2 (fun x y w'=>x=svs[id]∧y=.nilIface∧w'=w) w):=by
 have l1:=h.len oneSets
 have iX:=fun w'=>h.idx oneSets id hid w'
 have cX:=h.cell id hid
 obtain ⟨va,vn,vc,rfl⟩:∃ a n c,sv=.slice a n c:=(by obtain ⟨a,c,e,_⟩:=h; exact ⟨a,_,c,e⟩)
 obtain ⟨y,hy⟩:∃ y,svs[id]=y:=⟨_,rfl⟩
 rw [hy] at cX ⊢
 have d1:decide ((id:Int)<0)=false:=decide_eq_false (by omega)
 have d2:decide ((id:Int)≥(svs.length:Int))=false:=decide_eq_false (by omega)
 replace h:=Hd h
 replace hy:=Hd hy
 go_enter Tryz.func192,Tryz.ntmps192
 go_wp2
 go_ret2
 exact ⟨_,_,rfl,Below.refl _ _,rfl,rfl,rfl⟩
theorem natI_snoc (xs:List Nat) (x:Nat):natI (xs++[x])=natI xs++[(x:Int)]:=by simp [natI]
theorem and_bit {m j:Nat} (hm:m<2 ^ 64):bits BinOp.and IntKind.u64 ((m:Int)/2 ^ j) 1=((m/2 ^ j &&& 1:Nat):Int):=by
 have e:((m:Int)/2 ^ j)=((m/2 ^ j:Nat):Int):=by norm_cast
 rw [e]
 exact bits_and_u64_nat (m/2 ^ j) 1 (Nat.lt_of_le_of_lt (Nat.div_le_self _ _) hm) (by decide)
theorem bag_Get (n g id:Nat) (sv:Value) (svs:List Value) (l:List Bool) (w:World) (c0:w.cell? ⟨g,0,none⟩=some (.int .i64 n)) (c1:w.cell? ⟨g,1,none⟩=some sv) (h:ValsAt w sv svs) (hid:id<svs.length) (hs:ValsAt w svs[id] (wordsV (wordsB l))) (hl:l.length=n) (hn:n≤4096) :
 Calls Tryz.prog 179 #[.pointer (some ⟨g,0,none⟩),.int .i64 id] w (Ret2 (fun x y w'=>y=.nilIface∧OwnI w.heap.size w' x (natI (memB l n))) w):=by
 obtain ⟨va,vn,vc,hsv⟩:∃ a n c,svs[id]=.slice a n c:=(by obtain ⟨a,c,e,_⟩:=hs; exact ⟨a,_,c,e⟩)
 have hset:=bag_set g id 0 sv svs w c1 h hid
 rw [hsv] at hset hs
 have hg:=World.block_lt_of_cell? _ _ c0
 replace h:=Hd h
 replace hs:=Hd hs
 replace hsv:=Hd hsv
 go_enter Tryz.func179,Tryz.ntmps179
 go_wp2_with fail
 refine hset.mono ?_
 rintro e w1 ⟨_,_,rfl,b1,rfl,rfl,rfl⟩
 go_wp2
 go_loopw [8,23] (fun ov iv wr=>∃ (i:Nat) (ow:Value),ow=ov∧iv=.int .i64 i∧i≤n∧OwnI w1.heap.size wr ow (natI (memB l i))∧Below w1.heap.size w1 wr) (fun _ iv _=>n-(intOf iv).toNat)
 case atStart=>exact ⟨0,_,rfl,rfl,Nat.zero_le _,OwnI.nil _ _,Below.refl _ _⟩
 case round =>
  obtain ⟨i,ow,rfl,rfl,hi,hO,hB⟩:=hrel
  obtain ⟨wo,rfl⟩:∃ wo:World,wo=wr:=⟨_,rfl⟩
  by_cases hil:i<n
  ·have di:decide ((i:Int)<(n:Int))=true:=decide_eq_true (by omega)
   have hv:=hs.out.below hB
   have hk:i/64<(wordsV (wordsB l)).length:=by rw [wordsV_len,wordsB_len]; omega
   have iS:∀ w',(Instr.indexAt 257 (.slice va vn vc) (.int .i64 ((i:Int)/64))).run Tryz.prog w'=.ok (.pointer (some (valAt (.slice va vn vc) (i/64)))) w':=by
    intro w'
    have:=hv.idx oneWords (i/64) hk w'
    rwa [show ((i/64:Nat):Int)=(i:Int)/64 by omega] at this
   have cS:=hv.cell (i/64) hk
   have eS:(wordsV (wordsB l))[i/64]=.int .u64 ((wordB l (i/64):Nat):Int):=by simp [wordsV,wordsB]
   rw [eS] at cS
   have m0:(0:Int)≤(i:Int)%64:=by omega
   have m1:(i:Int)%64≤64:=by omega
   have hwl:=wordB_lt l (i/64)
   have hbit:=bit_at l i
   have hsn:=memB_succ l i
   have hBs:=hB.size
   have hml:(natI (memB l i)).length≤4096:=by
    rw [natI_len]
    exact Nat.le_trans (List.length_filter_le _ _) (by rw [List.length_range]; omega)
   obtain ⟨m,hm⟩:∃ m,wordB l (i/64)=m:=⟨_,rfl⟩
   rw [hm] at cS hwl hbit
   have hab:=and_bit (m:=m) (j:=i%64) hwl
   rw [hbit] at hab
   obtain ⟨aS,haS⟩:∃ aS,valAt (.slice va vn vc) (i/64)=aS:=⟨_,rfl⟩
   rw [haS] at iS cS
   replace hv:=Hd hv
   replace hm:=Hd hm
   replace haS:=Hd haS
   replace hbit:=Hd hbit
   clear hk eS
   cases hb:l.getD i false with
   | true =>
    have ha1:bits BinOp.and IntKind.u64 ((m:Int)/2 ^ (i%64)) 1=1:=by rw [hab,hb]; rfl
    have hn1:natI (memB l (i+1))=natI (memB l i)++[(i:Int)]:=by rw [hsn,hb,if_pos rfl,natI_snoc]
    obtain ⟨M,hM⟩:∃ M,natI (memB l i)=M:=⟨_,rfl⟩
    rw [hM] at hn1 hO hml
    clear hab hsn hb
    replace hM:=Hd hM
    replace hn1:=Hd hn1
    go_wp2_with (at_builtin; refine wpl_append1 rfl _ _ rfl w1.heap.size _ M (i:Int) hO rfl rfl (by omega) hBs ?_)
    intro v' w3 hO3 b3 _ _
    rw [← hn1.out] at hO3
    replace hO3:=Hd hO3
    clear hO
    go_wp2
    go_roundw
    case measure=>simp [intOf]; omega
    case rel=>exact ⟨i+1,_,rfl,by go_num,by omega,hO3.out,hB.trans b3⟩
   | false =>
    have ha1:bits BinOp.and IntKind.u64 ((m:Int)/2 ^ (i%64)) 1=0:=by rw [hab,hb]; rfl
    have hn1:memB l (i+1)=memB l i:=by rw [hsn,hb,if_neg (by decide),List.append_nil]
    rw [← hn1] at hO
    clear hab hsn hb hn1
    replace hO:=Hd hO
    go_wp2
    go_roundw
    case measure=>simp [intOf]; omega
    case rel=>exact ⟨i+1,_,rfl,by go_num,by omega,hO.out,hB⟩
  ·have di:decide ((i:Int)<(n:Int))=false:=decide_eq_false (by omega)
   obtain rfl:i=n:=by omega
   replace hO:=Hd hO
   go_wp2
   go_ret2
   exact ⟨_,_,rfl,hB,rfl,hO.out⟩
end Go.Proofs.YtkaoebokbfcmhaaGreatDoor
namespace Go.Proofs.YtkaoebokbfcmhaaGreatDoor
open Go.RowKit
set_option maxRecDepth 100000
theorem LentI.setBelow {B:Nat} {w:World} {m:Value} {xs:List Int} (h:LentI B w m xs) {a:Addr} (ha:a.block<B) (u:Value):LentI B (w.setCell a u) m xs:=by
 obtain ⟨v,e,ho⟩:=h
 exact ⟨v,e,ho.setBelowBase ha u⟩
theorem LentI.mono {B B':Nat} {w:World} {m:Value} {xs:List Int} (h:LentI B w m xs) (hB:B'≤B):LentI B' w m xs:=by
 obtain ⟨v,e,ho⟩:=h
 exact ⟨v,e,ho.mono hB⟩
theorem cell_far {w:World} {b i:Nat} {a:Addr} (h:a.block≠b) (u:Value):(w.setCell ⟨b,i,none⟩ u).cell? a=w.cell? a :=
 World.cell?_setCell_other _ _ _ _ (by intro e; rw [← e] at h; exact h rfl)
theorem ErrAt.set {r:Nat→Addr} {w:World} {n:Int} {b i:Nat} (hs:∀ s,w.cell? ⟨b,0,none⟩≠some (.string s)) (u:Value) :
 ∀ {l:List (ByteArray×Int)} {v:Value},ErrAt r w n l v→ErrAt r (w.setCell ⟨b,i,none⟩ u) n l v
 | [],_,h=>h
 | (op,at_)::rest,v,⟨p,u',e,c0,c1,c2,h⟩=>by
  have hp:p≠b:=by rintro rfl; exact hs _ c0
  exact ⟨p,u',e,by rw [cell_far hp]; exact c0,by rw [cell_far hp]; exact c1,by rw [cell_far hp]; exact c2,ErrAt.set hs u h⟩
theorem ErrIs.set {r:Nat→Addr} {w:World} {t:PErr} {v:Value} {b i:Nat} (h:ErrIs r w t v) (hs:∀ s,w.cell? ⟨b,0,none⟩≠some (.string s)) (u:Value):ErrIs r (w.setCell ⟨b,i,none⟩ u) t v:=by
 match t,h with
 | none,h=>exact h
 | some (n,l),h=>exact ErrAt.set hs u h
theorem Rows.addE {B:Nat} {w w':World} {f:Names} (i:Nat×Nat) {r':Row} (h:Rows B w f) (hb:Below w.heap.size w w') (ho:r'.own B w') (hn:∀ k,r'.v.ownBlock=some k→w.heap.size≤k) :
 ∃ f',Rows B w' f'∧f' i=some r'∧∀ j,j≠i→f' j=f j :=
 ⟨_,h.add (i:=i) hb ho hn,upd_same _ _ _,fun _ e=>upd_ne _ _ e⟩
structure Cells4 (w:World) (g:Nat) (a b c d:Value):Prop where
 c0:w.cell? ⟨g,0,none⟩=some a
 c1:w.cell? ⟨g,1,none⟩=some b
 c2:w.cell? ⟨g,2,none⟩=some c
 c3:w.cell? ⟨g,3,none⟩=some d
theorem Cells4.below {w w':World} {g:Nat} {a b c d:Value} (h:Cells4 w g a b c d) (hb:Below w.heap.size w w'):Cells4 w' g a b c d:=by
 have k:∀ {i x},w.cell? ⟨g,i,none⟩=some x→w'.cell? ⟨g,i,none⟩=some x:=fun {i x} hc=>by
  rw [hb.cell (World.block_lt_of_cell? _ _ hc)]; exact hc
 exact ⟨k h.c0,k h.c1,k h.c2,k h.c3⟩
theorem Cells4.belowB {B:Nat} {w w':World} {g:Nat} {a b c d:Value} (h:Cells4 w g a b c d) (hb:Below B w w') (hg:g<B):Cells4 w' g a b c d:=by
 have k:∀ {i x},w.cell? ⟨g,i,none⟩=some x→w'.cell? ⟨g,i,none⟩=some x:=fun {i x} hc=>by
  rw [hb.cell hg]; exact hc
 exact ⟨k h.c0,k h.c1,k h.c2,k h.c3⟩
theorem Cells4.alloc (w:World) (T:TypeId) (a b c d:Value):Cells4 (w.alloc (.cells #[a,b,c,d] T)) w.heap.size a b c d:=by
 refine ⟨?_,?_,?_,?_⟩<;>simp [go_sem]
def GrewIn (v:Value) (w w':World):Prop:=∃ row,w.grownBy w' row∧∀ k,row=some k→v.ownBlock=some k
def ElseSame (f f':Names) (i:Nat×Nat):Prop:=∀ j,j≠i→f' j=f j
theorem wpl_appR {T E:TypeId} {z:Value} {b:Nat} (oc:OneCell T E z b) {w:World} {ops:Array Oper} {rest:List Oper} {o:Oper} {a:Act} {Q:Exit→Act→World→Prop} (hgd:o.guard=none) (s x:Operand)
 (ho:o.op=.call { callee:=.builtin .append,args:=#[s,x],argTypes:=#[T,T] })
 {B:Nat} {f:Names} (hR:Rows B w f) (i:Nat×Nat) (v:Value) (xs:List Value) (hi:f i=some (rowV E v xs)) (y:Value) (hy:y.oneCell'=true) (hs:a.eval s=v) (hx:a.eval x=.slice (some ⟨w.heap.size,0,none⟩) 1 1)
 (hlen:xs.length<4398046511104) (hB:B≤w.heap.size)
 (h:∀ v' w' f',Rows B w' f'→f' i=some (rowV E v' (xs++[y]))→ElseSame f f' i→Below B w w'→GrewIn v w w'→wpList Tryz.prog ops Q rest (a.put o.dst v') w') :
 wpList Tryz.prog ops Q (o::rest) a (w.alloc (.cells #[y] E)):=by
 have hown:=hR.ownV hi
 refine wpList_plain hgd fun K hK=>?_
 have hA:Rows B (w.alloc (.cells #[y] E)) f:=hR.below (belowAlloc w _)
 obtain ⟨v',w',hr,h2,h3⟩:=run_app oc (w.alloc (.cells #[y] E)) B o.type v _ (hown.alloc _) ⟨w.heap.size,0,none⟩ 1 [y] (by simp) (cell_one_new _ _ _) (by simp [hy]) (by simp; omega) (by simp; omega)
 unfold Oper.wp execOp
 simp only [ho,resolve,invoke,builtin,Sem.run_bind,Sem.run_pure,Result.andThen_ok,List.map_toArray,List.map_cons,List.map_nil,hs,hx]
 rw [show ([y]:List Value).length=1 from rfl] at hr
 rw [hr]
 have hal:∀ row,w.grownBy (w.alloc (.cells #[y] E)) row:=fun row=>World.grownBy_alloc w _ row
 obtain ⟨a1,n1,q1,e1⟩:=h2.shape
 obtain ⟨a2,n2,q2,e2⟩:=hown.shape
 rcases h3 with ⟨hroom,hg⟩ | ⟨hk,hg⟩
 ·have hob:=ownBlock_of_room e2 e1 hroom
  have hR':=hA.grown (r':=rowV E v' (xs++[y])) hi hg h2 (.inl hob)
  exact hK _ _ (h v' w' _ hR' (upd_same _ _ _) (fun j e=>upd_ne _ _ e) ((Below.refl _ _).grown ((hal v.ownBlock).trans hg) hB (fun k hk=>(hown.lt k hk).1)) ⟨v.ownBlock,(hal _).trans hg,fun _ hk=>hk⟩)
 ·have hR':=hA.grown (r':=rowV E v' (xs++[y])) hi (grown_any hg _) h2 (.inr ⟨_,hk,Nat.le_refl _⟩)
  exact hK _ _ (h v' w' _ hR' (upd_same _ _ _) (fun j e=>upd_ne _ _ e) ((Below.refl _ _).grown ((hal none).trans hg) hB (by intro k hk; cases hk)) ⟨none,(hal none).trans hg,fun k hk=>by cases hk⟩)
abbrev box3 (T:TypeId) (g:Nat) (cs:List Value):Row:=⟨T,3,.slice (some ⟨g,0,none⟩) 1 1,1,cs⟩
structure BagAt (B:Nat) (w:World) (f:Names) (g b n:Nat) (sets:List (List Bool)) (sv:Value) (svs:List Value):Prop where
 box:f (20,0)=some (box3 256 g [.int .i64 n,sv,.map (some b)])
 out:f (21,0)=some (rowV 257 sv svs)
 len:svs.length=sets.length
 each:∀ i,i<sets.length→f (22,i)=some (rowV 50 (svs.getD i .nilIface) (wordsV (wordsB (sets.getD i []))))
 all:∀ x∈sets,x.length=n
 map:BagMap w b n sets
 blk:B≤b
section
variable {B:Nat} {w:World} {f:Names} {g b n:Nat} {sets:List (List Bool)} {sv:Value} {svs:List Value}
theorem BagAt.cells (h:BagAt B w f g b n sets sv svs) (hR:Rows B w f):w.cell? ⟨g,0,none⟩=some (.int .i64 n)∧w.cell? ⟨g,1,none⟩=some sv∧w.cell? ⟨g,2,none⟩=some (.map (some b)) :=
 ⟨hR.cell h.box (g:=g) (cap:=1) rfl 0 (show 0<1*3 by decide),hR.cell h.box (g:=g) (cap:=1) rfl 1 (show 1<1*3 by decide),hR.cell h.box (g:=g) (cap:=1) rfl 2 (show 2<1*3 by decide)⟩
theorem BagAt.frz (h:BagAt B w f g b n sets sv svs) (hR:Rows B w f) (k:Nat):w.frozen? ⟨g,k,none⟩=false:=hR.frozen h.box (g:=g) (cap:=1) rfl k
theorem BagAt.low (h:BagAt B w f g b n sets sv svs) (hR:Rows B w f):B≤g∧g<w.heap.size:=hR.lt h.box g rfl
theorem BagAt.outer (h:BagAt B w f g b n sets sv svs) (hR:Rows B w f):ValsAt w sv svs:=(hR.ownV h.out).at
theorem BagAt.set (h:BagAt B w f g b n sets sv svs) (hR:Rows B w f) {i:Nat} (hi:i<sets.length):ValsAt w (svs.getD i .nilIface) (wordsV (wordsB (sets.getD i []))):=(hR.ownV (h.each i hi)).at
theorem BagAt.below {w':World} (h:BagAt B w f g b n sets sv svs) (hb:Below w.heap.size w w'):BagAt B w' f g b n sets sv svs :=
 ⟨h.box,h.out,h.len,h.each,h.all,h.map.below hb,h.blk⟩
theorem BagAt.congr {f':Names} (h:BagAt B w f g b n sets sv svs) (e:∀ i,(i.1=20∨i.1=21∨i.1=22)→f' i=f i):BagAt B w f' g b n sets sv svs :=
 ⟨(e _ (.inl rfl)).trans h.box,(e _ (.inr (.inl rfl))).trans h.out,h.len,fun i hi=>(e _ (.inr (.inr rfl))).trans (h.each i hi),h.all,h.map,h.blk⟩
end
set_option maxHeartbeats 8000000
def sBag:ByteArray:=⟨#[98,97,103]⟩
theorem bag_wrong (r:Nat→Addr) (at_ n:Int) (w:World) (hg:Glob r w) (h1:1≤n) (h2:n≤11) :
 Calls Tryz.prog 176 #[.int .i64 at_,.int .i64 n] w (Ret1 (fun v w'=>ErrIs r w' (fresh sBag at_ n) v) w):=by
 go_enter Tryz.func176,Tryz.ntmps176
 go_wp2_with fail
 refine (new_any r _ at_ n w hg h1 h2).mono ?_
 rintro e w' ⟨v,rfl,hb,he⟩
 go_wp2
 go_ret
 exact ⟨_,rfl,hb,he⟩
theorem wordsB_small {y:List Bool} {n:Nat} (hy:y.length=n) (h1:1≤n) (hn:n≤4096):1≤(wordsB y).length∧(wordsB y).length≤64:=by
 rw [wordsB_len]; omega
theorem put_old {B:Nat} {f:Names} {g b n:Nat} {sets:List (List Bool)} {sv:Value} {svs:List Value} {w:World} (hR:Rows B w f) (hb:BagAt B w f g b n sets sv svs) (v:Value) (y:List Bool) (hv:ValsAt w v (wordsV (wordsB y))) (hy:y.length=n) (hm:y∈sets) (h1:1≤n) (hn:n≤4096) :
 Calls Tryz.prog 178 #[.pointer (some ⟨g,0,none⟩),v] w (Ret3 (fun x d e _=>x=.int .i64 (sets.idxOf y:Nat)∧d=.bool false∧e=.nilIface) w):=by
 obtain ⟨z0,z1,z2⟩:=hb.cells hR
 obtain ⟨k1,k2⟩:=wordsB_small hy h1 hn
 have key:=bag_key v (wordsB y) w hv k1 k2 (wordsB_lt y)
 have hgl:=(hb.low hR).2
 have hmap:=hb.map
 replace hb:=Hd hb
 replace hR:=Hd hR
 replace hv:=Hd hv
 go_enter Tryz.func178,Tryz.ntmps178
 go_wp2_with fail
 refine key.mono ?_
 rintro e w1 ⟨_,rfl,b1,rfl⟩
 have y2:w1.cell? ⟨g,2,none⟩=some (.map (some b)):=by rw [b1.cell hgl]; exact z2
 have hit:=(hmap.below b1).hit hm hy hn
 go_wp2
 go_ret3
 exact ⟨_,_,_,rfl,b1,rfl,rfl,rfl⟩
theorem put_big (r:Nat→Addr) {B:Nat} {f:Names} {g b n:Nat} {sets:List (List Bool)} {sv:Value} {svs:List Value} {w:World} (hg:Glob r w) (hR:Rows B w f) (hb:BagAt B w f g b n sets sv svs) (v:Value) (y:List Bool) (hv:ValsAt w v (wordsV (wordsB y))) (hy:y.length=n) (hm:y∉sets) (h1:1≤n) (hn:n≤4096) (h4:sets.length=4096) :
 Calls Tryz.prog 178 #[.pointer (some ⟨g,0,none⟩),v] w (Ret3 (fun x d e w'=>x=.int .i64 0∧d=.bool false∧ErrIs r w' (fresh sBag 0 4) e) w):=by
 obtain ⟨z0,z1,z2⟩:=hb.cells hR
 obtain ⟨k1,k2⟩:=wordsB_small hy h1 hn
 have key:=bag_key v (wordsB y) w hv k1 k2 (wordsB_lt y)
 have hgl:=(hb.low hR).2
 have hmap:=hb.map
 have ho:=hb.outer hR
 have l1:=ho.len oneSets
 have hl4:svs.length=4096:=by rw [hb.len,h4]
 rw [hl4] at l1
 obtain ⟨va,vn,vc,rfl⟩:∃ a n c,sv=.slice a n c:=(by obtain ⟨a,c,e,_⟩:=ho; exact ⟨a,_,c,e⟩)
 replace ho:=Hd ho
 replace hb:=Hd hb
 replace hR:=Hd hR
 replace hv:=Hd hv
 replace hg:=Hd hg
 go_enter Tryz.func178,Tryz.ntmps178
 go_wp2_with fail
 refine key.mono ?_
 rintro e w1 ⟨_,rfl,b1,rfl⟩
 have y1:w1.cell? ⟨g,1,none⟩=some (.slice va vn vc):=by rw [b1.cell hgl]; exact z1
 have y2:w1.cell? ⟨g,2,none⟩=some (.map (some b)):=by rw [b1.cell hgl]; exact z2
 obtain ⟨u,miss⟩:=(hmap.below b1).miss hm hy hn
 have hg1:=Hd (hg.out.below b1)
 go_wp2_with fail
 refine (bag_wrong r 0 4 _ hg1.out (by decide) (by decide)).mono ?_
 rintro e w2 ⟨x,rfl,b2,he⟩
 have b12:=Below.step b1 b2
 obtain ⟨T,a,rfl⟩:=ErrIs.some_shape he
 replace he:=Hd he
 go_wp2
 go_ret3
 exact ⟨_,_,_,rfl,b12,rfl,rfl,he.out⟩
theorem Rows.not_map {B:Nat} {w:World} {f:Names} {i:Nat×Nat} {r:Row} {b:Nat} {es:Array MapEntry} {c:Nat} (h:Rows B w f) (hi:f i=some r) (hb:w.heap[b]?=some (.map es c)):r.v.ownBlock≠some b:=by
 have ho:=h.1 i r hi
 rcases ho.2 with ⟨e,_⟩ | ⟨g,cap,cur,e,_,hh,_⟩
 ·rw [e]; intro q; cases q
 ·rw [e]; intro q
  have:g=b:=by injection q
  subst this; rw [hh] at hb; cases hb
theorem BagAt.more {B:Nat} {w w':World} {f f3:Names} {g b n:Nat} {sets:List (List Bool)} {sv sv' v:Value} {svs:List Value} {y:List Bool} (h:BagAt B w f g b n sets sv svs) (hR:Rows B w' f3) (e20:f3 (20,0)=some (box3 256 g [.int .i64 n,sv',.map (some b)])) (e21:f3 (21,0)=some (rowV 257 sv' (svs++[v])))
 (e22:∀ i,f3 (22,i)=f (22,i)) (e23:f3 (23,0)=some (rowV 50 v (wordsV (wordsB y)))) (hy:y.length=n) (hm:BagMap w' b n (sets++[y])) :
 ∃ f',Rows B w' f'∧BagAt B w' f' g b n (sets++[y]) sv' (svs++[v])∧∀ j:Nat×Nat,j.1≠22→j.1≠23→f' j=f3 j:=by
 have hown:=hR.1 _ _ e23
 have hmv:=hR.move (j:=(22,sets.length)) e23 hown rfl
 have ll:=h.len
 refine ⟨_,hmv,⟨?_,?_,by simp [ll],fun i hi=>?_,fun x hx=>?_,hm,h.blk⟩,fun j h1 h2=>?_⟩
 ·rw [upd_ne _ _ (by intro e; cases e),upd_ne _ _ (by intro e; cases e)]; exact e20
 ·rw [upd_ne _ _ (by intro e; cases e),upd_ne _ _ (by intro e; cases e)]; exact e21
 ·rw [List.length_append,List.length_singleton] at hi
  by_cases c:i=sets.length
  ·subst c
   have a1:(svs++[v]).getD sets.length .nilIface=v:=by rw [← ll]; simp [List.getD]
   have a2:(sets++[y]).getD sets.length []=y:=by simp [List.getD]
   rw [upd_same,a1,a2]
  ·have hi2:i<sets.length:=by omega
   have a1:(svs++[v]).getD i .nilIface=svs.getD i .nilIface:=by simp [List.getD,List.getElem?_append_left (show i<svs.length by omega)]
   have a2:(sets++[y]).getD i []=sets.getD i []:=by simp [List.getD,List.getElem?_append_left hi2]
   rw [upd_ne _ _ (by intro e; injection e with _ e; exact c e),upd_ne _ _ (by intro e; cases e),a1,a2,e22]
   exact h.each i hi2
 ·rcases List.mem_append.1 hx with hx | hx
  ·exact h.all x hx
  ·rw [List.mem_singleton] at hx; rw [hx]; exact hy
 ·rw [upd_ne _ _ (by intro e; exact h1 (by rw [e])),upd_ne _ _ (by intro e; exact h2 (by rw [e]))]
def PutPost (B:Nat) (f:Names) (g b n:Nat) (sets:List (List Bool)) (svs:List Value) (v:Value) (y:List Bool) (m:Nat) (w:World) (e:Ending) (w':World):Prop :=
 e=.returned (.tuple #[.int .i64 (m:Nat),.bool true,.nilIface])∧Below B w w'∧∃ f' sv',Rows B w' f'∧BagAt B w' f' g b n (sets++[y]) sv' (svs++[v])∧∀ j:Nat×Nat,j.1≠20→j.1≠21→j.1≠22→j.1≠23→f' j=f j
theorem put_new {B:Nat} {f:Names} {g b n:Nat} {sets:List (List Bool)} {sv:Value} {svs:List Value} {w:World} (hR:Rows B w f) (hb:BagAt B w f g b n sets sv svs) (v:Value) (y:List Bool) (hi:f (23,0)=some (rowV 50 v (wordsV (wordsB y)))) (hy:y.length=n) (hm:y∉sets) (h1:1≤n) (hn:n≤4096) (h4:sets.length<4096) :
 Calls Tryz.prog 178 #[.pointer (some ⟨g,0,none⟩),v] w (PutPost B f g b n sets svs v y sets.length w):=by
 obtain ⟨z0,z1,z2⟩:=hb.cells hR
 obtain ⟨k1,k2⟩:=wordsB_small hy h1 hn
 have hv:=(hR.ownV hi).at
 obtain ⟨ua,un,uc,rfl⟩:=(hR.ownV hi).shape
 have key:=bag_key _ (wordsB y) w hv k1 k2 (wordsB_lt y)
 obtain ⟨hgB,hgl⟩:=hb.low hR
 have hmap:=hb.map
 have ho:=hb.outer hR
 have hlen:=hb.len
 have l1:=ho.len oneSets
 obtain ⟨va,vn,vc,rfl⟩:=(hR.ownV hb.out).shape
 replace ho:=Hd ho
 replace hb:=Hd hb
 replace hR:=Hd hR
 replace hv:=Hd hv
 obtain ⟨m,hm0⟩:∃ m,sets.length=m:=⟨_,rfl⟩
 rw [hm0] at hlen h4 ⊢
 rw [hlen] at l1
 have d4:decide ((m:Int)=4096)=false:=decide_eq_false (by omega)
 go_enter Tryz.func178,Tryz.ntmps178
 go_wp2_with fail
 refine key.mono ?_
 rintro e w1 ⟨_,rfl,b1,rfl⟩
 have y1:w1.cell? ⟨g,1,none⟩=some (.slice va vn vc):=by rw [b1.cell hgl]; exact z1
 have y2:w1.cell? ⟨g,2,none⟩=some (.map (some b)):=by rw [b1.cell hgl]; exact z2
 have hmap1:=hmap.below b1
 obtain ⟨u,miss⟩:=hmap1.miss hm hy hn
 have hR1:=hR.out.below b1
 obtain ⟨w2,hst,hmap2,g2⟩:=hmap1.store hm hy hn hb.out.all (by omega)
 rw [hm0] at hst
 obtain ⟨es,cl,hblk⟩:=hmap1.blk
 have hR2:=hR1.mapB hblk g2
 have B2:Below B w1 w2:=(Below.refl _ _).grown g2 (Nat.le_trans (Nat.le_of_lt (Nat.lt_of_le_of_lt hgB hgl)) b1.size) (by intro k hk; injection hk with hk; subst hk; exact hb.out.blk)
 have x0:w2.cell? ⟨g,0,none⟩=some (.int .i64 n):=hR2.cell hb.out.box (g:=g) (cap:=1) rfl 0 (show 0<1*3 by decide)
 have x1:w2.cell? ⟨g,1,none⟩=some (.slice va vn vc):=hR2.cell hb.out.box (g:=g) (cap:=1) rfl 1 (show 1<1*3 by decide)
 have x2:w2.cell? ⟨g,2,none⟩=some (.map (some b)):=hR2.cell hb.out.box (g:=g) (cap:=1) rfl 2 (show 2<1*3 by decide)
 have hB2s:B≤w2.heap.size:=Nat.le_trans (Nat.le_of_lt (Nat.lt_of_le_of_lt hgB hgl)) (Nat.le_trans b1.size B2.size)
 obtain ⟨es2,cl2,hblk2⟩:=hmap2.blk
 have hsl:svs.length<4398046511104:=by omega
 have b12:Below B w w2:=(b1.mono (Nat.le_of_lt (Nat.lt_of_le_of_lt hgB hgl))).trans B2
 replace hmap2:=Hd hmap2
 replace hblk2:=Hd hblk2
 replace hblk:=Hd hblk
 replace b12:=Hd b12
 replace hi:=Hd hi
 clear hmap hmap1 hR1 B2 key
 go_wp2_with (at_builtin; go_loud (refine wpl_appR oneSets rfl _ _ rfl hR2 (21,0) (.slice va vn vc) svs hb.out.out (.slice ua un uc) rfl rfl rfl hsl hB2s ?_))
 intro v' w3 f3 hR3 i3 o3 B3 hgr
 obtain ⟨row,g3,hrow⟩:=hgr
 obtain ⟨xa,xn,xc,rfl⟩:=(hR3.ownV i3).shape
 have hmap3:=hmap2.out.kept g3 (fun e=>hR2.not_map hb.out.out hblk2.out (hrow b e.symm))
 have e20:f3 (20,0)=some (box3 256 g [.int .i64 n,.slice va vn vc,.map (some b)]):=(o3 _ (by intro e; cases e)).trans hb.out.box
 have t1:w3.cell? ⟨g,1,none⟩=some (.slice va vn vc):=hR3.cell e20 (g:=g) (cap:=1) rfl 1 (show 1<1*3 by decide)
 have t2:=hR3.frozen e20 (g:=g) (cap:=1) rfl 1
 obtain ⟨es3,cl3,hblk3⟩:=hmap3.blk
 have hR4:=hR3.set e20 (g:=g) (cap:=1) rfl 1 (.slice xa xn xc)
 have g4:w3.grownBy (w3.setCell ⟨g,1,none⟩ (.slice xa xn xc)) (some g):=(World.ownsRow.stored (hR3.1 _ _ e20) 1 (.slice xa xn xc)).2
 have hmap4:=hmap3.kept g4 (fun e=>hR3.not_map e20 hblk3 (by injection e with e; rw [e]; rfl))
 have hfin:=hb.out.more hR4 (sv':=.slice xa xn xc) (v:=.slice ua un uc) (y:=y) (by rw [upd_same]; rfl) (by rw [upd_ne _ _ (by intro e; cases e)]; exact i3) (fun i=>by rw [upd_ne _ _ (by intro e; cases e)]; exact o3 _ (by intro e; cases e)) (by rw [upd_ne _ _ (by intro e; cases e),o3 _ (by intro e; cases e)]; exact hi.out) hy hmap4
 have bfin:=b12.out.trans (B3.setCell (show B≤(⟨g,1,none⟩:Addr).block from hgB) (.slice xa xn xc))
 obtain ⟨f5,hR5,hb5,o5⟩:=hfin
 have o6:∀ j:Nat×Nat,j.1≠20→j.1≠21→j.1≠22→j.1≠23→f5 j=f j:=fun j h20 h21 h22 h23=>by
  rw [o5 j h22 h23,upd_ne _ _ (by intro e; exact h20 (by rw [e])),o3 j (by intro e; exact h21 (by rw [e]))]
 replace hb5:=Hd hb5
 replace hR5:=Hd hR5
 replace bfin:=Hd bfin
 clear hR4 hmap3 hmap4 hblk3 hR3 hR2 B3 g3 g4 i3 o3
 go_wp2
 go_ret3
 exact ⟨rfl,bfin.out,f5,_,hR5.out,hb5.out,o6⟩
theorem bag_Put_old {B:Nat} {f:Names} {g b n:Nat} {sets:List (List Bool)} {sv:Value} {svs:List Value} {w:World} (hR:Rows B w f) (hb:BagAt B w f g b n sets sv svs) (v:Value) (xs:List Nat) (h:IntsAt w v (natI xs)) (hx:∀ x∈xs,x<n) (hxl:xs.length≤100000) (hm:setOf n xs∈sets) (h1:1≤n) (hn:n≤4096) :
 Calls Tryz.prog 145 #[.pointer (some ⟨g,0,none⟩),v] w (Ret3 (fun x d e _=>x=.int .i64 (sets.idxOf (setOf n xs):Nat)∧d=.bool false∧e=.nilIface) w):=by
 obtain ⟨z0,z1,z2⟩:=hb.cells hR
 have hbits:=bag_bits n g v xs w z0 h hx hxl h1 hn
 obtain ⟨va,vn,vc,rfl⟩:=h.shape
 replace hb:=Hd hb
 replace hR:=Hd hR
 replace h:=Hd h
 go_enter Tryz.func145,Tryz.ntmps145
 go_wp2_with fail
 refine hbits.mono ?_
 rintro e w1 ⟨x,_,rfl,b1,rfl,ho⟩
 have hput:=put_old (hR.out.below b1) (hb.out.below b1) x (setOf n xs) ho.at (setOf_len _ _) hm h1 hn
 obtain ⟨xa,xn,xc,rfl⟩:=ho.shape
 replace ho:=Hd ho
 go_wp2_with fail
 refine hput.mono ?_
 rintro e w2 ⟨_,_,_,rfl,b2,rfl,rfl,rfl⟩
 have b12:=Below.step b1 b2
 go_wp2
 go_ret3
 exact ⟨_,_,_,rfl,b12,rfl,rfl,rfl⟩
theorem bag_Put_big (r:Nat→Addr) {B:Nat} {f:Names} {g b n:Nat} {sets:List (List Bool)} {sv:Value} {svs:List Value} {w:World} (hg:Glob r w) (hR:Rows B w f) (hb:BagAt B w f g b n sets sv svs) (v:Value) (xs:List Nat) (h:IntsAt w v (natI xs)) (hx:∀ x∈xs,x<n) (hxl:xs.length≤100000) (hm:setOf n xs∉sets) (h1:1≤n) (hn:n≤4096) (h4:sets.length=4096) :
 Calls Tryz.prog 145 #[.pointer (some ⟨g,0,none⟩),v] w (Ret3 (fun x d e w'=>x=.int .i64 0∧d=.bool false∧ErrIs r w' (fresh sBag 0 4) e) w):=by
 obtain ⟨z0,z1,z2⟩:=hb.cells hR
 have hbits:=bag_bits n g v xs w z0 h hx hxl h1 hn
 obtain ⟨va,vn,vc,rfl⟩:=h.shape
 replace hb:=Hd hb
 replace hR:=Hd hR
 replace h:=Hd h
 replace hg:=Hd hg
 go_enter Tryz.func145,Tryz.ntmps145
 go_wp2_with fail
 refine hbits.mono ?_
 rintro e w1 ⟨x,_,rfl,b1,rfl,ho⟩
 have hput:=put_big r (hg.out.below b1) (hR.out.below b1) (hb.out.below b1) x (setOf n xs) ho.at (setOf_len _ _) hm h1 hn h4
 obtain ⟨xa,xn,xc,rfl⟩:=ho.shape
 replace ho:=Hd ho
 go_wp2_with fail
 refine hput.mono ?_
 rintro e w2 ⟨_,_,_,rfl,b2,rfl,rfl,he⟩
 have b12:=Below.step b1 b2
 obtain ⟨T,a,rfl⟩:=ErrIs.some_shape he
 replace he:=Hd he
 go_wp2
 go_ret3
 exact ⟨_,_,_,rfl,b12,rfl,rfl,he.out⟩
theorem bag_Put_new {B:Nat} {f:Names} {g b n:Nat} {sets:List (List Bool)} {sv:Value} {svs:List Value} {w:World} (hR:Rows B w f) (hb:BagAt B w f g b n sets sv svs) (v:Value) (xs:List Nat) (h:IntsAt w v (natI xs)) (hx:∀ x∈xs,x<n) (hxl:xs.length≤100000) (hm:setOf n xs∉sets) (h1:1≤n) (hn:n≤4096) (h4:sets.length<4096) :
 Calls Tryz.prog 145 #[.pointer (some ⟨g,0,none⟩),v] w (fun e w'=>∃ u,PutPost B f g b n sets svs u (setOf n xs) sets.length w e w'):=by
 obtain ⟨z0,z1,z2⟩:=hb.cells hR
 have hgB:=(hb.low hR)
 have hbits:=bag_bits n g v xs w z0 h hx hxl h1 hn
 obtain ⟨va,vn,vc,rfl⟩:=h.shape
 replace hb:=Hd hb
 replace hR:=Hd hR
 replace h:=Hd h
 go_enter Tryz.func145,Tryz.ntmps145
 go_wp2_with fail
 refine hbits.mono ?_
 rintro e w1 ⟨x,_,rfl,b1,rfl,ho⟩
 have hBw:B≤w.heap.size:=by omega
 have hR1:=hR.out.add (i:=(23,0)) (r':=rowV 50 x (wordsV (wordsB (setOf n xs)))) b1 (ho.mono hBw) (fun k hk=>(ho.lt k hk).1)
 have hb1:=(hb.out.below b1).congr (f':=upd f (23,0) (some (rowV 50 x (wordsV (wordsB (setOf n xs)))))) (fun i hi=>upd_ne _ _ (by intro e; subst e; rcases hi with q | q | q<;>cases q))
 have hput:=put_new hR1 hb1 x (setOf n xs) (upd_same _ _ _) (setOf_len _ _) hm h1 hn h4
 obtain ⟨xa,xn,xc,rfl⟩:=ho.shape
 replace ho:=Hd ho
 replace hR1:=Hd hR1
 replace hb1:=Hd hb1
 go_wp2_with fail
 refine hput.mono ?_
 rintro e w2 ⟨rfl,b2,f2,sv2,hR2,hb2,o2⟩
 have hfin:PutPost B f g b n sets svs (.slice xa xn xc) (setOf n xs) sets.length w (.returned (.tuple #[.int .i64 (sets.length:Nat),.bool true,.nilIface])) w2 :=
  ⟨rfl,(b1.mono hBw).trans b2,f2,sv2,hR2,hb2,fun j a1 a2 a3 a4=>by rw [o2 j a1 a2 a3 a4,upd_ne _ _ (by intro e; exact a4 (by rw [e]))]⟩
 replace hfin:=Hd hfin
 clear hR2 hb2 o2
 go_wp2
 go_ret3
 exact ⟨_,hfin.out⟩
end Go.Proofs.YtkaoebokbfcmhaaGreatDoor
namespace Go.Proofs.YtkaoebokbfcmhaaGreatDoor
open Go.RowKit
set_option maxRecDepth 100000
theorem bag_Len (g:Nat) (sv:Value) (svs:List Value) (w:World) (c1:w.cell? ⟨g,1,none⟩=some sv) (h:ValsAt w sv svs) :
 Calls Tryz.prog 146 #[.pointer (some ⟨g,0,none⟩)] w fun e w'=>e=.returned (.int .i64 (svs.length:Nat))∧w=w':=by
 have l1:=h.len oneSets
 obtain ⟨va,vn,vc,rfl⟩:∃ a n c,sv=.slice a n c:=(by obtain ⟨a,c,e,_⟩:=h; exact ⟨a,_,c,e⟩)
 replace h:=Hd h
 go_enter Tryz.func146,Tryz.ntmps146
 go_wp2
 go_ret
 exact ⟨rfl,rfl⟩
def NewPost (B:Nat) (f:Names) (n:Nat) (w:World) (e:Ending) (w':World):Prop :=
 ∃ g,e=.returned (.tuple #[.pointer (some ⟨g,0,none⟩),.nilIface])∧Below w.heap.size w w'∧w.heap.size≤g∧∃ b f',Rows B w' f'∧BagAt B w' f' g b n [] (.slice none 0 0) []∧∀ j:Nat×Nat,j.1≠20→j.1≠21→f' j=f j
theorem bag_New (B:Nat) (f:Names) (n:Nat) (w:World) (hR:Rows B w f) (hB:B≤w.heap.size) (hn:n≤8192) :
 Calls Tryz.prog 144 #[.int .i64 n] w (NewPost B f n w):=by
 have d1:decide ((n:Int)<0)=false:=decide_eq_false (by omega)
 have d2:decide ((n:Int)>8192)=false:=decide_eq_false (by omega)
 have hR1:=hR.below (belowAlloc w (.map #[] 0))
 have hR2:=hR1.add (i:=(20,0)) (r':=box3 256 (w.heap.size+1) [.int .i64 n,.slice none 0 0,.map (some w.heap.size)]) (belowAlloc _ (.cells #[.int .i64 n,.slice none 0 0,.map (some w.heap.size)] 256))
  (by
    have:=World.ownsRow_lit (base:=B) (e:=256) (size:=3) (w.alloc (.map #[] 0)) #[.int .i64 n,.slice none 0 0,.map (some w.heap.size)] 1 (by simp; omega) (by decide) rfl
    unfold Row.own
    simpa using this) (fun k hk=>by cases hk; simp)
 have hR3:=hR2.add (i:=(21,0)) (r':=rowV 257 (.slice none 0 0) []) (Below.refl _ _) (OwnV.nil _ _ _) (fun k hk=>by cases hk)
 have hm:=(BagMap.made w n).below (belowAlloc _ (.cells #[.int .i64 n,.slice none 0 0,.map (some w.heap.size)] 256))
 have hfin:NewPost B f n w (.returned (.tuple #[.pointer (some ⟨w.heap.size+1,0,none⟩),.nilIface])) ((w.alloc (.map #[] 0)).alloc (.cells #[.int .i64 n,.slice none 0 0,.map (some w.heap.size)] 256)):=by
  refine ⟨_,rfl,Below.step (belowAlloc w _) (belowAlloc _ _),Nat.le_succ _,w.heap.size,_,hR3,⟨?_,upd_same _ _ _,rfl,fun i hi=>absurd hi (Nat.not_lt_zero _),fun x hx=>(by cases hx),hm,hB⟩,fun j h1 h2=>?_⟩
  ·rw [upd_ne _ _ (by intro e; cases e),upd_same]
  ·rw [upd_ne _ _ (by intro e; exact h2 (by rw [e])),upd_ne _ _ (by intro e; exact h1 (by rw [e]))]
 have mkm:(Instr.makeMap 253 none).run Tryz.prog w=.ok (.map (some w.heap.size)) (w.alloc (.map #[] 0)):=rfl
 replace hfin:=Hd hfin
 clear hR1 hR2 hR3 hm
 go_enter Tryz.func144,Tryz.ntmps144
 go_wp2
 go_ret2
 exact hfin.out
end Go.Proofs.YtkaoebokbfcmhaaGreatDoor
namespace Go.Proofs.YtkaoebokbfcmhaaGreatDoor
def behU (K N:Nat) (T:List Int) (u:Nat) (s:Int) (t:Nat):List Nat:=((List.range t).filter fun c=>decide (T.getD (u*K+c) 0=s)).map fun c=>(u*K+c)%N
theorem behU_zero (K N:Nat) (T:List Int) (u:Nat) (s:Int):behU K N T u s 0=[]:=rfl
theorem behU_succ (K N:Nat) (T:List Int) (u:Nat) (s:Int) (t:Nat):behU K N T u s (t+1)=behU K N T u s t++if T.getD (u*K+t) 0=s then [(u*K+t)%N] else []:=by
 unfold behU
 rw [List.range_succ,List.filter_append,List.map_append]
 congr 1
 by_cases h:T.getD (u*K+t) 0=s
 ·rw [if_pos h,List.filter_cons,if_pos (decide_eq_true h)]; rfl
 ·rw [if_neg h,List.filter_cons,if_neg (by rw [decide_eq_false h]; decide)]; rfl
def behM (K N:Nat) (T:List Int) (us:List Nat) (s:Int):List Nat:=us.flatMap fun u=>behU K N T u s K
theorem behM_snoc (K N:Nat) (T:List Int) (us:List Nat) (u:Nat) (s:Int):behM K N T (us++[u]) s=behM K N T us s++behU K N T u s K:=by simp [behM]
theorem mem_behM {K N:Nat} {T:List Int} {us:List Nat} {s:Int} {v:Nat}:v∈behM K N T us s↔∃ u∈us,∃ c,c<K∧(u*K+c)%N=v∧T.getD (u*K+c) 0=s:=by
 unfold behM behU
 simp only [List.mem_flatMap,List.mem_map,List.mem_filter,List.mem_range,decide_eq_true_eq]
 constructor
 ·rintro ⟨u,hu,c,⟨hc,h2⟩,h3⟩; exact ⟨u,hu,c,hc,h3,h2⟩
 ·rintro ⟨u,hu,c,hc,h3,h2⟩; exact ⟨u,hu,c,⟨hc,h2⟩,h3⟩
theorem mem_memB {l:List Bool} {n u:Nat}:u∈memB l n↔u<n∧l.getD u false=true:=by
 unfold memB
 rw [List.mem_filter,List.mem_range]
theorem behM_lt {K N:Nat} {T:List Int} {us:List Nat} {s:Int} (hN:0<N):∀ v∈behM K N T us s,v<N:=fun v hv=>by
 obtain ⟨u,_,c,_,e,_⟩:=mem_behM.1 hv
 rw [← e]; exact Nat.mod_lt _ hN
theorem setOf_beh {K N:Nat} {T:List Int} {l:List Bool} {s:Int}:setOf N (behM K N T (memB l N) s)=behB K N T l s:=by
 refine List.ext_getElem (by rw [setOf_len,behB_len]) fun v h1 h2=>?_
 have h3:v<N:=by rw [setOf_len] at h1; exact h1
 have e1:=setOf_get (n:=N) (xs:=behM K N T (memB l N) s) h3
 rw [List.getD_eq_getElem?_getD,List.getElem?_eq_getElem h1,Option.getD_some] at e1
 rw [e1]
 have hi:=behB_iff (K:=K) (T:=T) (l:=l) (s:=s) h3
 rw [List.getD_eq_getElem?_getD,List.getElem?_eq_getElem h2,Option.getD_some] at hi
 have hm:v∈behM K N T (memB l N) s↔(behB K N T l s)[v]=true:=by
  rw [hi,mem_behM]
  constructor
  ·rintro ⟨u,hu,c,hc,a,b⟩
   obtain ⟨p,q⟩:=mem_memB.1 hu
   exact ⟨u,p,q,c,hc,a,b⟩
  ·rintro ⟨u,p,q,c,hc,a,b⟩
   exact ⟨u,mem_memB.2 ⟨p,q⟩,c,hc,a,b⟩
 by_cases hv:v∈behM K N T (memB l N) s
 ·rw [decide_eq_true hv]; exact (hm.1 hv).symm
 ·rw [decide_eq_false hv]
  cases hb:(behB K N T l s)[v] with
  | false=>rfl
  | true=>exact absurd (hm.2 hb) hv
theorem beh_nil {K N:Nat} {T:List Int} {l:List Bool} {s:Int} (hN:0<N):behM K N T (memB l N) s=[]↔(behB K N T l s).any id=false:=by
 constructor
 ·intro h
  have e:=setOf_beh (K:=K) (N:=N) (T:=T) (l:=l) (s:=s)
  rw [h] at e
  rw [← e]
  show (List.replicate N false).any id=false
  rw [List.any_eq_false]
  intro x hx
  rw [List.eq_of_mem_replicate hx]; decide
 ·intro h
  apply List.eq_nil_iff_forall_not_mem.2
  intro v hv
  have hlt:=behM_lt hN v hv
  have e1:=setOf_get (n:=N) (xs:=behM K N T (memB l N) s) hlt
  rw [setOf_beh,decide_eq_true hv] at e1
  have:=(any_iff (behB_len K N T l s)).2 ⟨v,hlt,e1⟩
  rw [h] at this; cases this
open Go.RowKit
set_option maxRecDepth 100000
abbrev box7 (T:TypeId) (g:Nat) (cs:List Value):Row:=⟨T,7,.slice (some ⟨g,0,none⟩) 1 1,1,cs⟩
structure ListsIn (f:Names) (p:Nat) (v:Value) (vs:List Value) (xs:List (List Int)):Prop where
 out:f (p,0)=some (rowV 22 v vs)
 len:vs.length=xs.length
 each:∀ i,i<xs.length→f (p+1,i)=some (rowI (vs.getD i .nilIface) (xs.getD i []))
theorem ListsIn.congr {f f':Names} {p:Nat} {v:Value} {vs:List Value} {xs:List (List Int)} (h:ListsIn f p v vs xs) (e:∀ i:Nat×Nat,(i.1=p∨i.1=p+1)→f' i=f i):ListsIn f' p v vs xs :=
 ⟨(e _ (.inl rfl)).trans h.out,h.len,fun i hi=>(e _ (.inr rfl)).trans (h.each i hi)⟩
structure WalkAt (B:Nat) (w:World) (f:Names) (g gb b K R n:Nat) (tv:Value) (stop:Bool) (sets:List (List Bool)) (words next:List (List Int)) (sv:Value) (svs:List Value) (wv:Value) (wvs:List Value) (nv:Value) (nvs:List Value):Prop where
 box:f (30,0)=some (box7 178 g [.int .i64 K,.int .i64 R,tv,.pointer (some ⟨gb,0,none⟩),nv,wv,.bool stop])
 bag:BagAt B w f gb b n sets sv svs
 words:ListsIn f 31 wv wvs words
 next:ListsIn f 33 nv nvs next
section
variable {B:Nat} {w:World} {f:Names} {g gb b K R n:Nat} {tv:Value} {stop:Bool} {sets:List (List Bool)} {words next:List (List Int)} {sv:Value} {svs:List Value} {wv:Value} {wvs:List Value} {nv:Value} {nvs:List Value}
theorem WalkAt.cell (h:WalkAt B w f g gb b K R n tv stop sets words next sv svs wv wvs nv nvs) (hR:Rows B w f) (k:Nat) (hk:k<7):w.cell? ⟨g,k,none⟩=[Value.int .i64 K,.int .i64 R,tv,.pointer (some ⟨gb,0,none⟩),nv,wv,.bool stop][k]? :=
 hR.cell h.box (g:=g) (cap:=1) rfl k (show k<1*7 by omega)
theorem WalkAt.frz (h:WalkAt B w f g gb b K R n tv stop sets words next sv svs wv wvs nv nvs) (hR:Rows B w f) (k:Nat):w.frozen? ⟨g,k,none⟩=false:=hR.frozen h.box (g:=g) (cap:=1) rfl k
theorem WalkAt.low (h:WalkAt B w f g gb b K R n tv stop sets words next sv svs wv wvs nv nvs) (hR:Rows B w f):B≤g∧g<w.heap.size:=hR.lt h.box g rfl
theorem WalkAt.below {w':World} (h:WalkAt B w f g gb b K R n tv stop sets words next sv svs wv wvs nv nvs) (hb:Below w.heap.size w w'):WalkAt B w' f g gb b K R n tv stop sets words next sv svs wv wvs nv nvs :=
 ⟨h.box,h.bag.below hb,h.words,h.next⟩
end
set_option maxHeartbeats 8000000
theorem smallP_small {K R:Nat} {T:List Int} (h:RuleOk K R T) (hl:T.length≤256):smallP K R T=none:=by rw [smallP_ok h,if_neg (by omega)]
theorem over_Nodes (r:Nat→Addr) (K R:Nat) (va:Option Addr) (vn vc:Nat) (T:List Int) (w:World) (hg:Glob r w) (h:IntsAt w (.slice va vn vc) T) (hok:RuleOk K R T) (hl:T.length≤256) :
 Calls Tryz.prog 76 #[.agg #[.int .i64 K,.int .i64 R,.slice va vn vc]] w (Ret2 (fun x y _=>x=.int .i64 ((T.length/K:Nat):Int)∧y=.nilIface) w):=by
 have b0:=belowAlloc w (.cells #[.int .i64 K,.int .i64 R,.slice va vn vc] 24)
 have q:Box3 (w.alloc (.cells #[.int .i64 K,.int .i64 R,.slice va vn vc] 24)) w.heap.size (.int .i64 K) (.int .i64 R) (.slice va vn vc):=by simp [Box3,go_sem]
 have hs:=smallP_small hok hl
 have hk1:=hok.k1
 generalize hN:T.length/K=N
 replace hN:=Hd hN
 replace hs:=Hd hs
 replace hg:=Hd (hg.below b0)
 replace h:=Hd (h.below b0)
 go_enter Tryz.func76,Tryz.ntmps76
 go_wp2_with fail
 refine (over_small r K R va vn vc T _ hg.out h.out).mono ?_
 rintro e w1 ⟨x,rfl,b1,he⟩
 rw [hs.out] at he
 obtain rfl:=ErrIs.none_eq he
 obtain ⟨⟨z0,z1,z2⟩,-,-,-⟩:=q.below b1
 go_wp2_with fail
 refine (over_nodes K R va vn vc T _ (h.out.below b1) hk1 (by omega)).mono ?_
 rintro e w2 ⟨rfl,rfl⟩
 rw [hN.out]
 go_wp2
 go_ret2
 exact ⟨_,_,rfl,Below.step b0 (Below.step b1 (belowAlloc _ _)),rfl,rfl⟩
theorem over_Edge (r:Nat→Addr) (K R:Nat) (va:Option Addr) (vn vc:Nat) (T:List Int) (u s:Nat) (w:World) (hg:Glob r w) (h:IntsAt w (.slice va vn vc) T) (hok:RuleOk K R T) (hl:T.length≤256) (hu:u<T.length/K) (hs:s<K) :
 Calls Tryz.prog 129 #[.agg #[.int .i64 K,.int .i64 R,.slice va vn vc],.int .i64 u,.int .i64 s] w (Ret3 (fun x y z _=>x=.int .i64 (toN K (T.length/K) u s)∧y=.int .i64 (labN K T u s)∧z=.nilIface) w):=by
 have b0:=belowAlloc w (.cells #[.int .i64 K,.int .i64 R,.slice va vn vc] 24)
 have q:Box3 (w.alloc (.cells #[.int .i64 K,.int .i64 R,.slice va vn vc] 24)) w.heap.size (.int .i64 K) (.int .i64 R) (.slice va vn vc):=by simp [Box3,go_sem]
 have hsm:=smallP_small hok hl
 have hk1:=hok.k1
 have hk4:=hok.k4
 have hul:u*K+s<T.length:=by
  have:=Nat.div_mul_le_self T.length K
  have:=mul_add_lt (q:=u) (m:=T.length/K) hs hu
  omega
 have hN0:T.length/K≤256:=Nat.le_trans (Nat.div_le_self _ _) hl
 have huK:u*K≤256:=by omega
 obtain ⟨p,hp⟩:∃ n,u*K=n:=⟨_,rfl⟩
 have hM:(u:Int)*(K:Int)=(p:Int):=by rw [← hp]; simp
 obtain ⟨at_,hat⟩:∃ n,u*K+s=n:=⟨_,rfl⟩
 have hA:(p:Int)+(s:Int)=(at_:Int):=by rw [← hat,hp]; simp
 have i1:=fun w'=>h.idx at_ (by omega) w'
 have c1:=h.cellD at_ (by omega)
 generalize valAt (.slice va vn vc) at_=ta at *
 have hb1:=h.below b0
 have e1:labN K T u s=T.getD at_ 0:=by unfold labN; rw [hat]
 have e2:toN K (T.length/K) u s=at_%(T.length/K):=by unfold toN; rw [hat]
 rw [e1,e2]
 generalize T.getD at_ 0=y at *
 obtain ⟨N,hN⟩:∃ N,T.length/K=N:=⟨_,rfl⟩
 rw [hN] at hu hN0 ⊢
 have hN1:¬ (N:Int)=0:=by omega
 have hN2:((N:Int)==0)=false:=by rw [beq_eq_false_iff_ne]; omega
 have hN3:(0:Int)<N:=by omega
 have hN4:¬ N=0:=by omega
 have hrem:(at_:Int).tmod (N:Int)=((at_%N:Nat):Int):=by rw [Int.tmod_eq_emod_of_nonneg (by omega)]; simp
 have hat1:at_≤256:=by omega
 rw [hat] at hul
 rw [hp] at huK hat
 have hps:(p:Int)+(s:Int)≤256:=by omega
 clear hat hp
 have c1':=(b0.cell (World.block_lt_of_cell? _ _ c1)).trans c1
 replace hN:=Hd hN
 replace hsm:=Hd hsm
 replace hg:=Hd (hg.below b0)
 replace h:=Hd hb1
 clear c1 e1 e2 hb1
 go_enter Tryz.func129,Tryz.ntmps129
 go_wp2_with fail
 refine (over_small r K R va vn vc T _ hg.out h.out).mono ?_
 rintro e w1 ⟨x,rfl,b1,he⟩
 rw [hsm.out] at he
 obtain rfl:=ErrIs.none_eq he
 have q1:=q.below b1
 obtain ⟨⟨z0,z1,z2⟩,-,-,-⟩:=q1
 have q1:=Hd (q.below b1)
 go_wp2_with fail
 refine (over_nodes K R va vn vc T _ (h.out.below b1) hk1 (by omega)).mono ?_
 rintro e w2 ⟨rfl,rfl⟩
 rw [hN.out]
 have b2:=Below.step b1 (belowAlloc w1 (.cells #[.int .i64 K,.int .i64 R,.slice va vn vc] 24))
 obtain ⟨W2,hW2⟩:∃ W2:World,W2=w1.alloc (.cells #[.int .i64 K,.int .i64 R,.slice va vn vc] 24):=⟨_,rfl⟩
 rw [← hW2] at b2 ⊢
 have q2:=q.below b2
 have hT2:=h.out.below b2
 have cT2:=(b2.cell (World.block_lt_of_cell? _ _ c1')).trans c1'
 clear hW2 z0 z1 z2 c1'
 obtain ⟨⟨z0,z1,z2⟩,-,-,-⟩:=q2
 replace hT2:=Hd hT2
 go_upto_region 9 with fail
 refine wp_region_plan (fun w'=>w'.cell? ⟨w.heap.size,0,none⟩=some (.int .i64 K)∧w'.cell? ⟨w.heap.size,1,none⟩=some (.int .i64 R)∧w'.cell? ⟨w.heap.size,2,none⟩=some (.slice va vn vc)∧w'.cell? ta=some (.int .i64 y)) 11 [(0,true),(1,true),(4,true),(5,true),(6,true),(7,true),(8,true),(2,false),(3,true),(9,true),(10,true)] (by kernel_rfl) (by kernel_rfl) ?_
 have hS:W2.drew.cell? ⟨w.heap.size,0,none⟩=some (.int .i64 K)∧W2.drew.cell? ⟨w.heap.size,1,none⟩=some (.int .i64 R)∧W2.drew.cell? ⟨w.heap.size,2,none⟩=some (.slice va vn vc)∧W2.drew.cell? ta=some (.int .i64 y):=⟨z0,z1,z2,cT2⟩
 refine pqY 42 hS ?_
 refine pqY 43 hS ?_
 refine pqY 46 hS ?_
 refine pqY 47 hS ?_
 refine pqY 48 hS ?_
 refine pqY 49 hS ?_
 refine pqY 50 hS ?_
 refine headC rfl (fun KK hK=>?_)
 go_simp
 refine (over_nodes K R va vn vc T _ hT2.out.drew hk1 (by omega)).mono ?_
 rintro e W3 ⟨rfl,rfl⟩
 rw [hN.out]
 have b3:=belowAlloc W2.drew (.cells #[.int .i64 K,.int .i64 R,.slice va vn vc] 24)
 have hS3:=(⟨cell_keep b3 hS.1,cell_keep b3 hS.2.1,cell_keep b3 hS.2.2.1,(b3.cell (World.block_lt_of_cell? _ _ hS.2.2.2)).trans hS.2.2.2⟩:(W2.drew.alloc (.cells #[.int .i64 K,.int .i64 R,.slice va vn vc] 24)).cell? ⟨w.heap.size,0,none⟩=some (.int .i64 K)∧(W2.drew.alloc (.cells #[.int .i64 K,.int .i64 R,.slice va vn vc] 24)).cell? ⟨w.heap.size,1,none⟩=some (.int .i64 R)∧(W2.drew.alloc (.cells #[.int .i64 K,.int .i64 R,.slice va vn vc] 24)).cell? ⟨w.heap.size,2,none⟩=some (.slice va vn vc)∧(W2.drew.alloc (.cells #[.int .i64 K,.int .i64 R,.slice va vn vc] 24)).cell? ta=some (.int .i64 y))
 refine hK _ _ hS3 ?_
 clear hK KK
 refine pqY 45 hS3 ?_
 refine pqY 6 hS3 ?_
 refine pqY 7 hS3 ?_
 refine head0 ?_
 simp only [List.drop_succ_cons,List.drop_zero]
 clear hS hS3
 go_wp2
 refine NoPanic.normal ?_
 go_wp2
 go_ret3
 exact ⟨_,_,_,rfl,Below.step b0 (Below.step b2 ((Below.refl _ _).drew.alloc (Nat.le_refl _) _)),rfl,rfl,rfl⟩
end Go.Proofs.YtkaoebokbfcmhaaGreatDoor
namespace Go.Proofs.YtkaoebokbfcmhaaGreatDoor
inductive PT where
 | nil
 | take (k:Nat) (t:PT)
 | one (k:Nat) (t:PT)
 | two (k:Nat) (t:PT) (j:Nat) (s:PT)
def PT.takes:List Nat→PT→PT
 | [],t=>t
 | k::l,t=>.take k (PT.takes l t)
section
variable {P:Program} {ops:Array Oper} {Q:Exit→Act→World→Prop} {md:Region.Mode} {S:World→Prop}
def wpTree (P:Program) (ops:Array Oper) (Q:Exit→Act→World→Prop) (S:World→Prop) (K:Act→World→Prop):PT→Act→World→Prop
 | .nil,a,w=>K a w
 | .take k t,a,w=>∃ o v,ops[k]?=some o∧YieldsIf P ops S o v a∧S w∧wpTree P ops Q S K t (a.put o.dst v) w
 | .one k t,a,w=>wpOp P ops Q k (fun a' w'=>S w'∧wpTree P ops Q S K t a' w') a w
 | .two k t j s,a,w=>wpOp P ops Q k (fun a' w'=>S w'∧wpTree P ops Q S K t a' w') a w∧wpOp P ops Q j (fun a' w'=>S w'∧wpTree P ops Q S K s a' w') a w
def PT.okB (md:Region.Mode) (ops:Array Oper) (n:Nat):PT→Nat→Array Bool→Bool
 | .nil,m,listed=>decide (m=0)&&(List.range n).all (fun j=>listed.getD j true)&&Region.seqB md ops (ops.size-n) n listed
 | .take k t,m,listed=>decide (0<m)&&decide (k<n)&&(Region.ready md ops listed).contains k&&Region.free md ops listed k&&PT.okB md ops n t (m-1) (listed.setIfInBounds k true)
 | .one k t,m,listed=>decide (0<m)&&decide (k<n)&&decide (Region.ready md ops listed=[k])&&PT.okB md ops n t (m-1) (listed.setIfInBounds k true)
 | .two k t j s,m,listed=>decide (0<m)&&decide (k<n)&&decide (j<n)&&decide (Region.ready md ops listed=[k,j])&&PT.okB md ops n t (m-1) (listed.setIfInBounds k true)&&PT.okB md ops n s (m-1) (listed.setIfInBounds j true)
theorem wpAnyT_tree {n:Nat} {ol:List Oper} (hol:ops=ol.toArray) (hsel:Region.noSelect ops=true) (hs:Region.sinkB md ops n=true) (hc:Region.chainB md ops n=true) (hn:n<ops.size)
 (hQ:∀ c a w,Q (.panic c) a w→False) :
 ∀ (l:PT) (m:Nat) (listed:Array Bool) (a:Act) (w:World),HeadInv md ops n listed→l.okB md ops n m listed=true →
  wpTree P ops Q S (fun a' w'=>wpList P ops Q (ol.drop n) a' w') l a w→wpAnyT P md ops Q S n (m+(ops.size-n)) listed a w
 | .nil,m,listed,a,w,inv,hB,h=>by
  simp only [PT.okB,Bool.and_eq_true,decide_eq_true_eq] at hB
  obtain ⟨⟨rfl,hB1⟩,hB2⟩:=hB
  have hl:∀ j,j<n→listed.getD j true=true:=fun j hj=>List.all_eq_true.1 hB1 j (List.mem_range.2 hj)
  rw [Nat.zero_add]
  refine wpAnyT_of _ _ _ _ hl ?_
  have hdl:(ol.drop n).length=ops.size-n:=by subst hol; simp
  rw [← hdl]
  refine wpAny_of_seq (ol.drop n) n listed a w (fun j=>by subst hol; simp) ?_ h
  rw [hdl]; exact hB2
 | .take k t,m,listed,a,w,inv,hB,h=>by
  simp only [PT.okB,Bool.and_eq_true,decide_eq_true_eq] at hB
  obtain ⟨⟨⟨⟨hm,hkn⟩,hr⟩,hf⟩,hB'⟩:=hB
  obtain ⟨o,v,ho,hy,hS,h'⟩:=h
  have hr':k∈Region.ready md ops listed:=by simpa using hr
  rw [show m+(ops.size-n)=(m-1+(ops.size-n))+1 by omega]
  exact wpAnyT_first ho (Region.noSelect_spec hsel) hs hc hn hkn (fun c a w h=>(hQ c _ w h).elim) _ listed a w inv (Region.free_spec ho hf) hr' hy hS
   (wpAnyT_tree hol hsel hs hc hn hQ t (m-1) _ _ _ (inv.set hr' hkn) hB' h')
 | .one k t,m,listed,a,w,inv,hB,h=>by
  simp only [PT.okB,Bool.and_eq_true,decide_eq_true_eq] at hB
  obtain ⟨⟨⟨hm,hkn⟩,hr⟩,hB'⟩:=hB
  rw [show m+(ops.size-n)=(m-1+(ops.size-n))+1 by omega]
  refine ⟨fun h0=>(by rw [h0] at hr; cases hr),fun i hi=>?_⟩
  have hi':=hi
  rw [hr] at hi'
  obtain rfl:i=k:=by simpa using hi'
  exact wpOp_mono (fun a' w' h3=>⟨fun _=>h3.1,wpAnyT_tree hol hsel hs hc hn hQ t (m-1) _ a' w' (inv.set hi hkn) hB' h3.2⟩) h
 | .two k t j s,m,listed,a,w,inv,hB,h=>by
  simp only [PT.okB,Bool.and_eq_true,decide_eq_true_eq] at hB
  obtain ⟨⟨⟨⟨⟨hm,hkn⟩,hjn⟩,hr⟩,hB1⟩,hB2⟩:=hB
  rw [show m+(ops.size-n)=(m-1+(ops.size-n))+1 by omega]
  refine ⟨fun h0=>(by rw [h0] at hr; cases hr),fun i hi=>?_⟩
  have hi':=hi
  rw [hr] at hi'
  rcases (by simpa using hi':i=k∨i=j) with rfl | rfl
  ·exact wpOp_mono (fun a' w' h3=>⟨fun _=>h3.1,wpAnyT_tree hol hsel hs hc hn hQ t (m-1) _ a' w' (inv.set hi hkn) hB1 h3.2⟩) h.1
  ·exact wpOp_mono (fun a' w' h3=>⟨fun _=>h3.1,wpAnyT_tree hol hsel hs hc hn hQ s (m-1) _ a' w' (inv.set hi hjn) hB2 h3.2⟩) h.2
def treeB (md:Region.Mode) (ops:Array Oper) (n:Nat) (t:PT):Bool :=
 Region.noSelect ops&&decide (n<ops.size)&&Region.sinkB md ops n&&Region.chainB md ops n&&t.okB md ops n n (Array.replicate ops.size false)
theorem wp_region_tree {id:Nat} {a:Act} {w:World} {l:List Oper} (S:World→Prop) (n:Nat) (t:PT) (hm:P.follows .mixedOrders=true) (hB:treeB .any l.toArray n t=true)
 (h:wpTree P l.toArray (NoPanic Q) S (fun a' w'=>wpList P l.toArray (NoPanic Q) (l.drop n) a' w') t a w.drew):(Code.region id l.toArray true).wp P Q a w:=by
 simp only [treeB,Bool.and_eq_true,decide_eq_true_eq] at hB
 obtain ⟨⟨⟨⟨hsel,hn⟩,hs⟩,hc⟩,hp⟩:=hB
 refine wp_region_noPanic ?_
 refine wp_region_any hm ?_
 have inv0:HeadInv .any l.toArray n (Array.replicate l.toArray.size false) :=
  ⟨by simp,fun j oj _ hl=>(by rw [getD_replicate_false] at hl; cases hl),fun t _ ht=>getD_in (by simpa using ht) (getD_replicate_false _ _)⟩
 have:=wpAnyT_tree (md:=.any) (Q:=NoPanic Q) (S:=S) rfl hsel hs hc hn (fun _ _ _ h=>h) t n _ a _ inv0 hp h
 rw [show n+(l.toArray.size-n)=l.toArray.size by omega] at this
 exact wpAny_of_T _ _ _ _ this
end
section
variable {P:Program} {ops:Array Oper} {Q:Exit→Act→World→Prop} {S:World→Prop}
theorem trY {K:Act→World→Prop} {k:Nat} {o:Oper} {v:Value} {l:PT} {a a':Act} {w:World} (d:Tmp) (hS:S w) (h:wpTree P ops Q S K l a' w) (ho:ops[k]?=some o:=by exact rfl) (hd:o.dst=some d:=by exact rfl)
 (hw:Region.wanted o (yielded ops a.tmps)=true:=by rfl) (hy:∀ W,S W→(execOp a.eval o).run P W=.ok (.value v) W:=by intro W' hs; (try subst hs); go_simp; (try with_reducible rfl)) (ha:a.put (some d) v=a':=by simp only [pq]; exact rfl) :
 wpTree P ops Q S K (.take k l) a w:=by
 subst ha; refine ⟨o,v,ho,.inl ⟨hw,hy⟩,hS,?_⟩; rw [hd]; exact h
theorem trOp {K:Act→World→Prop} {k:Nat} {o:Oper} {l:PT} {a:Act} {w:World} (ho:ops[k]?=some o)
 (h:∀ K':Act→World→Prop,(∀ a w,S w→wpTree P ops Q S K l a w→K' a w)→if Region.wanted o (yielded ops a.tmps)=true then Oper.wp P o a w K' Q else K' (a.put o.dst undef) w) :
 wpOp P ops Q k (fun a' w'=>S w'∧wpTree P ops Q S K l a' w') a w:=by
 unfold wpOp
 simp only [ho]
 have:=h (fun a' w'=>S w'∧wpTree P ops Q S K l a' w') (fun a w h1 h2=>⟨h1,h2⟩)
 split
 ·rename_i hw; rw [if_pos hw] at this; exact .inl this
 ·rename_i hw; rw [if_neg hw] at this; exact this
theorem trC {K:Act→World→Prop} {k:Nat} {o:Oper} {l:PT} {a:Act} {w:World} (ho:ops[k]?=some o)
 (h:∀ K':Act→World→Prop,(∀ a w,S w→wpTree P ops Q S K l a w→K' a w)→if Region.wanted o (yielded ops a.tmps)=true then Oper.wp P o a w K' Q else K' (a.put o.dst undef) w) :
 wpTree P ops Q S K (.one k l) a w:=trOp ho h
theorem tr2 {K:Act→World→Prop} {k j:Nat} {l s:PT} {a:Act} {w:World} (h1:wpOp P ops Q k (fun a' w'=>S w'∧wpTree P ops Q S K l a' w') a w) (h2:wpOp P ops Q j (fun a' w'=>S w'∧wpTree P ops Q S K s a' w') a w) :
 wpTree P ops Q S K (.two k l j s) a w:=⟨h1,h2⟩
theorem tr0 {K:Act→World→Prop} {a:Act} {w:World} (h:K a w):wpTree P ops Q S K .nil a w:=h
end
def nextA (X:List (List Int)) (i s:Nat):Int:=(X.getD i []).getD s 0
def stepA (X:List (List Int)) (q s:Int):Int:=if q<0 then -1 else nextA X q.toNat s.toNat
def runA (X:List (List Int)) (w:List Int):Int:=w.foldl (stepA X) 0
theorem runA_nil (X:List (List Int)):runA X []=0:=rfl
theorem runA_snoc (X:List (List Int)) (w:List Int) (s:Int):runA X (w++[s])=stepA X (runA X w) s:=by simp [runA]
structure AutoOk (K N:Nat) (X:List (List Int)):Prop where
 n1:0<N
 len:X.length=N
 row:∀ i,i<N→(X.getD i []).length=K
 lo:∀ i s,i<N→s<K→-1≤nextA X i s
 hi:∀ i s,i<N→s<K→nextA X i s<N
theorem AutoOk.run {K N:Nat} {X:List (List Int)} (h:AutoOk K N X) (w:List Int):Syms K w→-1≤runA X w∧runA X w<N:=by
 have n1:=h.n1
 refine snoc_indI (P:=fun w=>Syms K w→-1≤runA X w∧runA X w<N) (fun _=>by rw [runA_nil]; omega) (fun y s ih sy=>?_) w
 obtain ⟨sy,s0,s1⟩:=syms_snocI.1 sy
 rw [runA_snoc]
 unfold stepA
 split
 ·omega
 ·have:=ih sy
  exact ⟨h.lo _ _ (by omega) (by omega),h.hi _ _ (by omega) (by omega)⟩
def keyG (X:List (List Int)) (g:List Int) (i:Nat):List Int:=g.getD i 0::(X.getD i []).map fun t=>if t<0 then -1 else g.getD t.toNat 0
structure Groups (N:Nat) (g:List Int) (n:Nat):Prop where
 len:g.length=N
 bd:∀ i,i<N→0≤g.getD i 0∧g.getD i 0<n
 on:∀ v,v<n→∃ i,i<N∧g.getD i 0=(v:Nat)
def GParted (N:Nat) (X:List (List Int)) (g h:List Int):Prop:=∀ i j,i<N→j<N→(h.getD i 0=h.getD j 0↔keyG X g i=keyG X g j)
theorem key_group {X:List (List Int)} {g:List Int} {i j:Nat} (h:keyG X g i=keyG X g j):g.getD i 0=g.getD j 0:=by
 injection h
theorem parted_more {N n m:Nat} {X:List (List Int)} {g h:List Int} (hg:Groups N g n) (hh:Groups N h m) (p:GParted N X g h) :
 n≤m∧(n=m→∀ i j,i<N→j<N→g.getD i 0=g.getD j 0→h.getD i 0=h.getD j 0):=by
 have rep:∀ v,∃ i,v<n→i<N∧g.getD i 0=(v:Nat):=fun v=>by
  by_cases hv:v<n
  ·obtain ⟨i,a,b⟩:=hg.on v hv; exact ⟨i,fun _=>⟨a,b⟩⟩
  ·exact ⟨0,fun q=>absurd q hv⟩
 obtain ⟨f,hf⟩:=Classical.axiomOfChoice rep
 have hnd:((List.range n).map fun v=>(h.getD (f v) 0).toNat).Nodup:=by
  refine List.pairwise_map.2 ((List.nodup_range (n:=n)).imp_of_mem fun {a b} ha hb hne e=>hne ?_)
  obtain ⟨a1,a2⟩:=hf a (List.mem_range.1 ha)
  obtain ⟨b1,b2⟩:=hf b (List.mem_range.1 hb)
  have c1:=hh.bd _ a1
  have c2:=hh.bd _ b1
  have e2:h.getD (f a) 0=h.getD (f b) 0:=by omega
  have:=key_group ((p _ _ a1 b1).1 e2)
  omega
 have hsub:((List.range n).map fun v=>(h.getD (f v) 0).toNat) ⊆ List.range m:=fun x hx=>by
  obtain ⟨v,hv,rfl⟩:=List.mem_map.1 hx
  have:=hh.bd _ (hf v (List.mem_range.1 hv)).1
  exact List.mem_range.2 (by omega)
 have hle:=nodup_sub hnd hsub
 rw [List.length_map,List.length_range,List.length_range] at hle
 refine ⟨hle,fun e=>?_⟩
 have all:∀ i,i<N→∃ v,v<n∧h.getD i 0=h.getD (f v) 0:=fun i hi=>by
  have hb:=hh.bd _ hi
  refine Classical.byContradiction fun q=>?_
  have hn:(h.getD i 0).toNat∉(List.range n).map fun v=>(h.getD (f v) 0).toNat:=fun hm=>by
   obtain ⟨v,hv,ev⟩:=List.mem_map.1 hm
   have:=hh.bd _ (hf v (List.mem_range.1 hv)).1
   exact q ⟨v,List.mem_range.1 hv,by omega⟩
  have:=nodup_sub (List.nodup_cons.2 ⟨hn,hnd⟩) (m:=List.range m) fun x hx=>by
   rcases List.mem_cons.1 hx with rfl | hx
   ·exact List.mem_range.2 (by omega)
   ·exact hsub hx
  rw [List.length_cons,List.length_map,List.length_range,List.length_range] at this
  omega
 have same:∀ i,i<N→h.getD i 0=h.getD (f (g.getD i 0).toNat) 0:=fun i hi=>by
  obtain ⟨v,hv,ev⟩:=all i hi
  obtain ⟨v1,v2⟩:=hf v hv
  have:=key_group ((p _ _ hi v1).1 ev)
  rw [this,v2,Int.toNat_natCast]; exact ev
 intro i j hi hj eij
 rw [same i hi,same j hj,eij]
structure Stable (K N:Nat) (X:List (List Int)) (g:List Int):Prop where
 len:g.length=N
 die:∀ i j s,i<N→j<N→s<K→g.getD i 0=g.getD j 0→nextA X i s<0→nextA X j s<0
 go:∀ i j s,i<N→j<N→s<K→g.getD i 0=g.getD j 0→0≤nextA X i s→0≤nextA X j s∧g.getD (nextA X i s).toNat 0=g.getD (nextA X j s).toNat 0
theorem key_at {K N:Nat} {X:List (List Int)} (ok:AutoOk K N X) {g:List Int} {i j s:Nat} (hi:i<N) (hj:j<N) (hs:s<K) (h:keyG X g i=keyG X g j) :
 (if nextA X i s<0 then (-1:Int) else g.getD (nextA X i s).toNat 0)=if nextA X j s<0 then -1 else g.getD (nextA X j s).toNat 0:=by
 injection h with _ h
 have e:=congrArg (fun l:List Int=>l.getD s 0) h
 have ri:=ok.row i hi
 have rj:=ok.row j hj
 have m:∀ l:List Int,l.length=K→(l.map fun t=>if t<0 then (-1:Int) else g.getD t.toNat 0).getD s 0=if l.getD s 0<0 then (-1:Int) else g.getD (l.getD s 0).toNat 0:=fun l hl=>by
  simp [List.getD,hl,hs]
 simp only [m _ ri,m _ rj] at e
 exact e
theorem parted_stable {K N n:Nat} {X:List (List Int)} {g h:List Int} (ok:AutoOk K N X) (hg:Groups N g n) (hh:Groups N h n) (p:GParted N X g h):Stable K N X h:=by
 have back:=(parted_more hg hh p).2 rfl
 refine ⟨hh.len,fun i j s hi hj hs e hd=>?_,fun i j s hi hj hs e hd=>?_⟩
 ·have k:=key_at ok hi hj hs ((p i j hi hj).1 e)
  rw [if_pos hd] at k
  split at k
  ·assumption
  ·have:=hg.bd (nextA X j s).toNat (by have:=ok.hi j s hj hs; omega)
   omega
 ·have k:=key_at ok hi hj hs ((p i j hi hj).1 e)
  have hil:(nextA X i s).toNat<N:=by have:=ok.hi i s hi hs; omega
  rw [if_neg (by omega)] at k
  split at k
  ·have:=hg.bd _ hil
   omega
  ·exact ⟨by omega,back _ _ hil (by have:=ok.hi j s hj hs; omega) k⟩
structure LeastOf (K N:Nat) (X:List (List Int)) (g:List Int) (st:List Nat) (Y:List (List Int)):Prop where
 z1:0<st.length
 z:st.getD 0 0=0
 len:Y.length=st.length
 row:∀ j,j<st.length→(Y.getD j []).length=K
 low:∀ j,j<st.length→st.getD j 0<N
 die:∀ j s,j<st.length→s<K→nextA X (st.getD j 0) s<0→nextA Y j s=-1
 go:∀ j s,j<st.length→s<K→0≤nextA X (st.getD j 0) s→∃ k,k<st.length∧nextA Y j s=(k:Nat)∧g.getD (st.getD k 0) 0=g.getD (nextA X (st.getD j 0) s).toNat 0
theorem least_run {K N:Nat} {X Y:List (List Int)} {g:List Int} {st:List Nat} (ok:AutoOk K N X) (sb:Stable K N X g) (l:LeastOf K N X g st Y) (w:List Int):Syms K w →
 (runA X w<0∧runA Y w=-1)∨(0≤runA X w∧∃ k,k<st.length∧runA Y w=(k:Nat)∧g.getD (st.getD k 0) 0=g.getD (runA X w).toNat 0):=by
 refine snoc_indI (P:=fun w=>Syms K w→(runA X w<0∧runA Y w=-1)∨(0≤runA X w∧∃ k,k<st.length∧runA Y w=(k:Nat)∧g.getD (st.getD k 0) 0=g.getD (runA X w).toNat 0)) (fun _=>Or.inr ⟨by rw [runA_nil]; omega,0,l.z1,rfl,by rw [l.z]; rfl⟩) (fun y s ih sy=>?_) w
 obtain ⟨sy,s0,s1⟩:=syms_snocI.1 sy
 rw [runA_snoc,runA_snoc]
 have hb:=ok.run y sy
 rcases ih sy with ⟨a,b⟩ | ⟨a,k,hk,b,c⟩
 ·left
  unfold stepA
  rw [if_pos a,b,if_pos (by decide)]
  exact ⟨by decide,rfl⟩
 ·have ex:stepA X (runA X y) s=nextA X (runA X y).toNat s.toNat:=by unfold stepA; rw [if_neg (by omega)]
  have ey:stepA Y (runA Y y) s=nextA Y k s.toNat:=by unfold stepA; rw [b,if_neg (by omega),Int.toNat_natCast]
  rw [ex,ey]
  have hq:(runA X y).toNat<N:=by omega
  have hsK:s.toNat<K:=by omega
  have hkN:=l.low k hk
  by_cases hd:nextA X (st.getD k 0) s.toNat<0
  ·left
   exact ⟨sb.die _ _ _ hkN hq hsK c hd,l.die k _ hk hsK hd⟩
  ·right
   obtain ⟨h1,h2⟩:=sb.go _ _ _ hkN hq hsK c (by omega)
   obtain ⟨k',hk',e1,e2⟩:=l.go k _ hk hsK (by omega)
   exact ⟨h1,k',hk',e1,by rw [e2,h2]⟩
structure SubAuto (K N:Nat) (T:List Int) (sets:List (List Bool)) (X:List (List Int)):Prop where
 z1:0<sets.length
 z:sets.getD 0 []=List.replicate N true
 len:X.length=sets.length
 row:∀ j,j<sets.length→(X.getD j []).length=K
 die:∀ j s,j<sets.length→s<K→(behB K N T (sets.getD j []) (s:Nat)).any id=false→nextA X j s=-1
 go:∀ j s,j<sets.length→s<K→(behB K N T (sets.getD j []) (s:Nat)).any id=true→∃ k,k<sets.length∧nextA X j s=(k:Nat)∧sets.getD k []=behB K N T (sets.getD j []) (s:Nat)
theorem SubAuto.ok {K N:Nat} {T:List Int} {sets:List (List Bool)} {X:List (List Int)} (h:SubAuto K N T sets X):AutoOk K sets.length X:=by
 refine ⟨h.z1,h.len,h.row,fun j s hj hs=>?_,fun j s hj hs=>?_⟩
 all_goals
  cases hb:(behB K N T (sets.getD j []) (s:Nat)).any id with
  | false=>rw [h.die j s hj hs hb]; have:=h.z1; omega
  | true=>obtain ⟨k,hk,e,_⟩:=h.go j s hj hs hb; rw [e]; omega
theorem beh_empty {K N:Nat} {T:List Int} {l:List Bool} {s:Int} (hl:l.length=N) (h:l.any id=false):(behB K N T l s).any id=false:=by
 cases hb:(behB K N T l s).any id with
 | false=>rfl
 | true =>
  obtain ⟨v,hv,e⟩:=(any_iff (behB_len _ _ _ _ _)).1 hb
  obtain ⟨u,hu,e2,_⟩:=(behB_iff hv).1 e
  have:=(any_iff hl).2 ⟨u,hu,e2⟩
  rw [h] at this; cases this
theorem sub_run {K N:Nat} {T:List Int} {sets:List (List Bool)} {X:List (List Int)} (h:SubAuto K N T sets X) (hN:0<N) (w:List Int):Syms K w →
 (runA X w<0∧(reachB K N T w).any id=false)∨(0≤runA X w∧runA X w<sets.length∧(reachB K N T w).any id=true∧sets.getD (runA X w).toNat []=reachB K N T w):=by
 refine snoc_indI (P:=fun w=>Syms K w→(runA X w<0∧(reachB K N T w).any id=false)∨(0≤runA X w∧runA X w<sets.length∧(reachB K N T w).any id=true∧sets.getD (runA X w).toNat []=reachB K N T w)) (fun _=>Or.inr ⟨by rw [runA_nil]; omega,by rw [runA_nil]; have:=h.z1; omega,(any_iff (reachB_len _ _ _ _)).2 ⟨0,hN,by rw [reachB_nil]; simp [List.getD,hN]⟩,h.z⟩) (fun y s ih sy=>?_) w
 obtain ⟨sy,s0,s1⟩:=syms_snocI.1 sy
 rw [runA_snoc,reachB_snoc]
 rcases ih sy with ⟨a,b⟩ | ⟨a,a2,b,c⟩
 ·left
  exact ⟨by unfold stepA; rw [if_pos a]; decide,beh_empty (reachB_len _ _ _ _) b⟩
 ·have hj:(runA X y).toNat<sets.length:=by omega
  have hs:s.toNat<K:=by omega
  have es:((s.toNat:Nat):Int)=s:=by omega
  have ex:stepA X (runA X y) s=nextA X (runA X y).toNat s.toNat:=by unfold stepA; rw [if_neg (by omega)]
  rw [ex,← c]
  cases hb:(behB K N T (sets.getD (runA X y).toNat []) s).any id with
  | false =>
   left
   exact ⟨by rw [h.die _ _ hj hs (by rw [es]; exact hb)]; decide,rfl⟩
  | true =>
   right
   obtain ⟨k,hk,e1,e2⟩:=h.go _ _ hj hs (by rw [es]; exact hb)
   rw [e1]
   exact ⟨by omega,by omega,rfl,by rw [Int.toNat_natCast,e2,es]⟩
theorem runA_pre {K R:Nat} {T:List Int} (hr:RuleOk K R T) {sets:List (List Bool)} {X:List (List Int)} (h:SubAuto K (pw K (2*R)) T sets X) {w:List Int} (sw:Syms K w):0≤runA X w↔HasPre K R T w:=by
 rw [← reach_anyS hr]
 rcases sub_run h (pw_pos _ hr.k1) w sw with ⟨a,b⟩ | ⟨a,_,b,_⟩
 ·exact ⟨fun q=>by omega,fun q=>by rw [b] at q; cases q⟩
 ·exact ⟨fun _=>b,fun _=>a⟩
theorem least_pre {K R:Nat} {T:List Int} (hr:RuleOk K R T) {sets:List (List Bool)} {X Y:List (List Int)} {g:List Int} {st:List Nat} (h:SubAuto K (pw K (2*R)) T sets X) (sb:Stable K sets.length X g) (l:LeastOf K sets.length X g st Y) {w:List Int} (sw:Syms K w):0≤runA Y w↔HasPre K R T w:=by
 rw [← runA_pre hr h sw]
 rcases least_run h.ok sb l w sw with ⟨a,b⟩ | ⟨a,k,_,b,_⟩<;>omega
inductive WkR (α:Type) where
 | on (sets:List (List Bool)) (words:List (List Int)) (a:α)
 | orphan (w:List Int)
 | big
def wkStep (stop:Bool) (K N:Nat) (T:List Int) (i t:Nat) (sets:List (List Bool)) (words:List (List Int)):WkR Int :=
 if (behB K N T (sets.getD i []) t).any id=false then (if stop=true then .orphan (words.getD i []++[(t:Int)]) else .on sets words (-1))
 else if behB K N T (sets.getD i []) t∈sets then .on sets words (sets.idxOf (behB K N T (sets.getD i []) t):Nat)
 else if sets.length=4096 then .big
 else .on (sets++[behB K N T (sets.getD i []) t]) (words++[words.getD i []++[(t:Int)]]) (sets.length:Nat)
def wkRow (stop:Bool) (K N:Nat) (T:List Int) (i:Nat):Nat→Nat→List (List Bool)→List (List Int)→List Int→WkR (List Int)
 | 0,_,sets,words,row=>.on sets words row
 | m+1,t,sets,words,row=>match wkStep stop K N T i t sets words with
  | .on a b id=>wkRow stop K N T i m (t+1) a b (row++[id])
  | .orphan w=>.orphan w
  | .big=>.big
def wkGo (stop:Bool) (K N:Nat) (T:List Int):Nat→Nat→List (List Bool)→List (List Int)→List (List Int)→WkR (List (List Int))
 | 0,_,sets,words,next=>.on sets words next
 | f+1,i,sets,words,next=>if i<sets.length then match wkRow stop K N T i K 0 sets words [] with
  | .on a b row=>wkGo stop K N T f (i+1) a b (next++[row])
  | .orphan w=>.orphan w
  | .big=>.big
  else .on sets words next
def wkAll (stop:Bool) (K N:Nat) (T:List Int):WkR (List (List Int)):=wkGo stop K N T 4097 0 [List.replicate N true] [[]] []
def WkR.sub {α:Type}:WkR α→SubR
 | .on a b _=>.on a b
 | .orphan w=>.orphan w
 | .big=>.big
theorem wkStep_sub (K N:Nat) (T:List Int) (i t:Nat) (sets:List (List Bool)) (words:List (List Int)):(wkStep true K N T i t sets words).sub=subStep K N T i t sets words:=by
 unfold wkStep subStep
 split
 ·rfl
 ·split
  ·rfl
  ·split<;>rfl
theorem wkRow_sub {K N:Nat} {T:List Int} {i:Nat}:∀ m t sets words row,(wkRow true K N T i m t sets words row).sub=subRow K N T i m t sets words
 | 0,_,_,_,_=>rfl
 | m+1,t,sets,words,row=>by
  have h:=wkStep_sub K N T i t sets words
  unfold wkRow subRow
  rw [← h]
  cases wkStep true K N T i t sets words with
  | on a b id=>exact wkRow_sub m (t+1) a b _
  | orphan w=>rfl
  | big=>rfl
theorem wkGo_sub {K N:Nat} {T:List Int}:∀ f i sets words next,(wkGo true K N T f i sets words next).sub=subGo K N T f i sets words
 | 0,_,_,_,_=>rfl
 | f+1,i,sets,words,next=>by
  have h:=wkRow_sub (K:=K) (N:=N) (T:=T) (i:=i) K 0 sets words []
  unfold wkGo subGo
  rw [← h]
  split
  ·cases wkRow true K N T i K 0 sets words [] with
   | on a b row=>exact wkGo_sub f (i+1) a b _
   | orphan w=>rfl
   | big=>rfl
  ·rfl
theorem wk_sub (K N:Nat) (T:List Int):(wkAll true K N T).sub=subR K N T:=wkGo_sub _ _ _ _ _
structure WkRow (K N:Nat) (T:List Int) (sets:List (List Bool)) (l:List Bool) (row:List Int) (t:Nat):Prop where
 len:row.length=t
 die:∀ s,s<t→(behB K N T l (s:Nat)).any id=false→row.getD s 0=-1
 go:∀ s,s<t→(behB K N T l (s:Nat)).any id=true→∃ k,k<sets.length∧row.getD s 0=(k:Nat)∧sets.getD k []=behB K N T l (s:Nat)
theorem WkRow.more {K N t:Nat} {T:List Int} {sets a:List (List Bool)} {l:List Bool} {row:List Int} (h:WkRow K N T sets l row t) (hl:sets.length≤a.length) (hg:∀ j,j<sets.length→a.getD j []=sets.getD j []):WkRow K N T a l row t :=
 ⟨h.len,h.die,fun s hs hb=>by
   obtain ⟨k,hk,e1,e2⟩:=h.go s hs hb
   exact ⟨k,by omega,e1,by rw [hg k hk]; exact e2⟩⟩
theorem getD_sn {row:List Int} {x:Int} {s:Nat} (h:s<row.length):(row++[x]).getD s 0=row.getD s 0:=by simp [List.getD,List.getElem?_append_left h]
theorem wkStep_row {K N i t:Nat} {T:List Int} {sets a:List (List Bool)} {words b:List (List Int)} {row:List Int} {id:Int} (hi:i<sets.length) (h:WkRow K N T sets (sets.getD i []) row t) (hs4:sets.length≤4096) (e:wkStep false K N T i t sets words=.on a b id) :
 WkRow K N T a (a.getD i []) (row++[id]) (t+1)∧sets.length≤a.length∧a.length≤4096∧∀ j,j<sets.length→a.getD j []=sets.getD j []:=by
 have lr:=h.len
 have last:(row++[id]).getD t 0=id:=by rw [← lr]; simp [List.getD]
 have glue:∀ (q:List (List Bool)),WkRow K N T q (sets.getD i []) row t→((behB K N T (sets.getD i []) (t:Nat)).any (fun q=>q)=false→id=-1)→((behB K N T (sets.getD i []) (t:Nat)).any (fun q=>q)=true→∃ k,k<q.length∧id=(k:Nat)∧q.getD k []=behB K N T (sets.getD i []) (t:Nat))→WkRow K N T q (sets.getD i []) (row++[id]) (t+1):=by
  intro q hq d g
  refine ⟨by simp [lr],fun s hs hb=>?_,fun s hs hb=>?_⟩
  ·by_cases c:s=t
   ·subst c; rw [last]; exact d hb
   ·rw [getD_sn (by omega)]; exact hq.die s (by omega) hb
  ·by_cases c:s=t
   ·subst c; rw [last]; exact g hb
   ·rw [getD_sn (by omega)]; exact hq.go s (by omega) hb
 unfold wkStep at e
 split at e
 ·rename_i hd
  rw [if_neg (by decide)] at e
  injection e with e1 e2 e3
  subst e1; subst e3
  exact ⟨glue _ h (fun _=>rfl) (fun q=>absurd (hd.symm.trans q) (by decide)),Nat.le_refl _,hs4,fun _ _=>rfl⟩
 ·rename_i hd
  split at e
  ·rename_i hm
   injection e with e1 e2 e3
   subst e1; subst e3
   refine ⟨glue _ h (fun q=>absurd q hd) (fun _=>⟨_,List.idxOf_lt_length_of_mem hm,rfl,?_⟩),Nat.le_refl _,hs4,fun _ _=>rfl⟩
   have hk:=List.idxOf_lt_length_of_mem hm
   rw [List.getD_eq_getElem?_getD,List.getElem?_eq_getElem hk,Option.getD_some]
   exact List.getElem_idxOf hk
  ·split at e
   ·cases e
   ·rename_i h4
    injection e with e1 e2 e3
    subst e1; subst e3
    have keep:∀ j,j<sets.length→(sets++[behB K N T (sets.getD i []) (t:Nat)]).getD j []=sets.getD j []:=fun j hj=>getD_leftS hj
    have hl:sets.length≤(sets++[behB K N T (sets.getD i []) (t:Nat)]).length:=by simp
    refine ⟨?_,hl,by rw [List.length_append,List.length_singleton]; omega,keep⟩
    rw [keep i hi]
    exact glue _ (h.more hl keep) (fun q=>absurd q hd) (fun _=>⟨sets.length,by simp,rfl,getD_end⟩)
theorem wkRow_row {K N i:Nat} {T:List Int}:∀ (m t:Nat) (sets:List (List Bool)) (words:List (List Int)) (row:List Int) (a:List (List Bool)) (b:List (List Int)) (r:List Int),i<sets.length→WkRow K N T sets (sets.getD i []) row t→sets.length≤4096→t+m=K→wkRow false K N T i m t sets words row=.on a b r →
 WkRow K N T a (a.getD i []) r K∧sets.length≤a.length∧a.length≤4096∧∀ j,j<sets.length→a.getD j []=sets.getD j []
 | 0,t,sets,words,row,a,b,r,hi,h,h4,et,e=>by
  unfold wkRow at e
  injection e with e1 e2 e3
  subst e1; subst e3
  obtain rfl:t=K:=by omega
  exact ⟨h,Nat.le_refl _,h4,fun _ _=>rfl⟩
 | m+1,t,sets,words,row,a,b,r,hi,h,h4,et,e=>by
  unfold wkRow at e
  split at e
  ·rename_i a1 b1 id1 hs
   obtain ⟨g1,g2,g3,g4⟩:=wkStep_row hi h h4 hs
   obtain ⟨f1,f2,f3,f4⟩:=wkRow_row m (t+1) a1 b1 _ a b r (by omega) g1 g3 (by omega) e
   exact ⟨f1,by omega,f3,fun j hj=>by rw [f4 j (by omega),g4 j hj]⟩
  ·cases e
  ·cases e
theorem wkGo_auto {K N:Nat} {T:List Int}:∀ (f i:Nat) (sets:List (List Bool)) (words next:List (List Int)) (a:List (List Bool)) (b x:List (List Int)),0<sets.length→sets.getD 0 []=List.replicate N true→sets.length≤4096→next.length=i→i≤sets.length→(∀ j,j<i→WkRow K N T sets (sets.getD j []) (next.getD j []) K)→i+f=4097→wkGo false K N T f i sets words next=.on a b x→SubAuto K N T a x∧a.length≤4096
 | 0,i,sets,words,next,a,b,x,h1,hz,h4,hn,hi,hr,ef,e=>by omega
 | f+1,i,sets,words,next,a,b,x,h1,hz,h4,hn,hi,hr,ef,e=>by
  unfold wkGo at e
  split at e
  ·rename_i hl
   split at e
   ·rename_i a1 b1 r1 hs
    obtain ⟨g1,g2,g3,g4⟩:=wkRow_row K 0 sets words [] a1 b1 r1 hl ⟨rfl,fun s hs=>absurd hs (Nat.not_lt_zero _),fun s hs=>absurd hs (Nat.not_lt_zero _)⟩ h4 (by omega) hs
    refine wkGo_auto f (i+1) a1 b1 (next++[r1]) a b x (by omega) (by rw [g4 0 h1]; exact hz) g3 (by simp [hn]) (by omega) (fun j hj=>?_) (by omega) e
    by_cases c:j=i
    ·subst c
     have e2:(next++[r1]).getD j []=r1:=by rw [← hn]; exact getD_end
     rw [e2]; exact g1
    ·rw [getD_leftS (by omega),g4 j (by omega)]
     exact (hr j (by omega)).more g2 g4
   ·cases e
   ·cases e
  ·injection e with e1 e2 e3
   subst e1; subst e3
   have:i=sets.length:=by omega
   exact ⟨⟨h1,hz,by omega,fun j hj=>(hr j (by omega)).len,fun j s hj hs hb=>(hr j (by omega)).die s hs hb,fun j s hj hs hb=>(hr j (by omega)).go s hs hb⟩,h4⟩
theorem wk_auto {K N:Nat} {T:List Int} {a:List (List Bool)} {b x:List (List Int)} (h:wkAll false K N T=.on a b x):SubAuto K N T a x∧a.length≤4096 :=
 wkGo_auto 4097 0 _ _ _ a b x (by simp) rfl (by simp) rfl (Nat.zero_le _) (fun j hj=>absurd hj (Nat.not_lt_zero _)) rfl h
theorem wkRow_no {K N i:Nat} {T:List Int} {w:List Int}:∀ m t sets words row,wkRow false K N T i m t sets words row≠.orphan w
 | 0,_,_,_,_=>fun e=>by cases e
 | m+1,t,sets,words,row=>fun e=>by
  unfold wkRow at e
  split at e
  ·exact wkRow_no m _ _ _ _ e
  ·rename_i v hs
   unfold wkStep at hs
   split at hs
   ·rw [if_neg (by decide)] at hs; cases hs
   ·split at hs
    ·cases hs
    ·split at hs<;>cases hs
  ·cases e
theorem wkGo_no {K N:Nat} {T:List Int} {w:List Int}:∀ f i sets words next,wkGo false K N T f i sets words next≠.orphan w
 | 0,_,_,_,_=>fun e=>by cases e
 | f+1,i,sets,words,next=>fun e=>by
  unfold wkGo at e
  split at e
  ·split at e
   ·exact wkGo_no f _ _ _ _ e
   ·rename_i v hs
    exact wkRow_no _ _ _ _ _ hs
   ·cases e
  ·cases e
open Go.RowKit
set_option maxRecDepth 100000
set_option maxHeartbeats 8000000
theorem behU_le (K N:Nat) (T:List Int) (u:Nat) (s:Int) (t:Nat):(behU K N T u s t).length≤t:=by
 unfold behU
 rw [List.length_map]
 exact Nat.le_trans (List.length_filter_le _ _) (by rw [List.length_range]; exact Nat.le_refl _)
theorem behM_le (K N:Nat) (T:List Int) (s:Int):∀ us:List Nat,(behM K N T us s).length≤us.length*K
 | []=>by simp [behM]
 | u::us=>by
  have:=behM_le K N T s us
  have h2:=behU_le K N T u s K
  have e:behM K N T (u::us) s=behU K N T u s K++behM K N T us s:=rfl
  rw [e,List.length_append,List.length_cons,Nat.succ_mul]
  omega
def FoundAt (B:Nat) (w:World) (wd:List Int) (y:Value):Prop:=∃ p a n c,y=.iface 180 (.pointer (some ⟨p,0,none⟩))∧w.cell? ⟨p,0,none⟩=some (.slice a n c)∧OwnI B w (.slice a n c) wd∧B≤p
theorem step_appV {T E:TypeId} {z:Value} {b:Nat} (oc:OneCell T E z b) {ops:Array Oper} {o:Oper} {a:Act} {w:World} {K:Act→World→Prop} {Q:Exit→Act→World→Prop} {Ep:Prop} (hgd:o.guard=none) (s x:Operand)
 (ho:o.op=.call { callee:=.builtin .append,args:=#[s,x],argTypes:=#[T,T] })
 {B:Nat} {f:Names} (hR:Rows B w f) (i:Nat×Nat) (v:Value) (xs:List Value) (hi:f i=some (rowV E v xs)) (y:Value) (hy:y.oneCell'=true) (hs:a.eval s=v) (hx:a.eval x=.slice (some ⟨w.heap.size,0,none⟩) 1 1)
 (hlen:xs.length<4398046511104) (hB:B≤w.heap.size)
 (h:∀ v' w' f',Rows B w' f'→f' i=some (rowV E v' (xs++[y]))→ElseSame f f' i→Below B w w'→GrewIn v w w'→ValsAt w' v xs→K (a.put o.dst v') w') :
 if Region.wanted o (yielded ops a.tmps)=true then Oper.wp Tryz.prog o a (w.alloc (.cells #[y] E)) K Q else Ep:=by
 have hw:Region.wanted o (yielded ops a.tmps)=true:=by simp [Region.wanted,hgd]
 rw [if_pos hw]
 have hown:=hR.ownV hi
 have hA:Rows B (w.alloc (.cells #[y] E)) f:=hR.below (belowAlloc w _)
 obtain ⟨v',w',hr,h2,h3⟩:=run_app oc (w.alloc (.cells #[y] E)) B o.type v _ (hown.alloc _) ⟨w.heap.size,0,none⟩ 1 [y] (by simp) (cell_one_new _ _ _) (by simp [hy]) (by simp; omega) (by simp; omega)
 unfold Oper.wp execOp
 simp only [ho,resolve,invoke,builtin,Sem.run_bind,Sem.run_pure,Result.andThen_ok,List.map_toArray,List.map_cons,List.map_nil,hs,hx]
 rw [show ([y]:List Value).length=1 from rfl] at hr
 rw [hr]
 have hal:∀ row,w.grownBy (w.alloc (.cells #[y] E)) row:=fun row=>World.grownBy_alloc w _ row
 obtain ⟨a1,n1,q1,e1⟩:=h2.shape
 obtain ⟨a2,n2,q2,e2⟩:=hown.shape
 rcases h3 with ⟨hroom,hg⟩ | ⟨hk,hg⟩
 ·have hob:=ownBlock_of_room e2 e1 hroom
  have hR':=hA.grown (r':=rowV E v' (xs++[y])) hi hg h2 (.inl hob)
  exact h v' w' _ hR' (upd_same _ _ _) (fun j e=>upd_ne _ _ e) ((Below.refl _ _).grown ((hal v.ownBlock).trans hg) hB (fun k hk=>(hown.lt k hk).1)) ⟨v.ownBlock,(hal _).trans hg,fun _ hk=>hk⟩ (hown.front h2 hroom).at
 ·have hR':=hA.grown (r':=rowV E v' (xs++[y])) hi (grown_any hg _) h2 (.inr ⟨_,hk,Nat.le_refl _⟩)
  exact h v' w' _ hR' (upd_same _ _ _) (fun j e=>upd_ne _ _ e) ((Below.refl _ _).grown ((hal none).trans hg) hB (by intro k hk; cases hk)) ⟨none,(hal none).trans hg,fun k hk=>by cases hk⟩ ((hown.alloc (.cells #[y] E)).kept hg (by
   cases hv:v.ownBlock with
   | none=>exact .inl rfl
   | some k=>exact .inr (by intro e; cases e))).at
theorem ListsIn.more {f f':Names} {p:Nat} {v v' u:Value} {vs:List Value} {xs:List (List Int)} {ys:List Int} (h:ListsIn f p v vs xs) (e0:f' (p,0)=some (rowV 22 v' (vs++[u]))) (e1:f' (p+1,xs.length)=some (rowI u ys)) (e:∀ i,i<xs.length→f' (p+1,i)=f (p+1,i)):ListsIn f' p v' (vs++[u]) (xs++[ys]):=by
 refine ⟨e0,by simp [h.len],fun i hi=>?_⟩
 rw [List.length_append,List.length_singleton] at hi
 by_cases c:i=xs.length
 ·subst c
  have a1:(vs++[u]).getD xs.length .nilIface=u:=by rw [← h.len]; simp [List.getD]
  have a2:(xs++[ys]).getD xs.length []=ys:=by simp [List.getD]
  rw [a1,a2]; exact e1
 ·have hi2:i<xs.length:=by omega
  have a1:(vs++[u]).getD i .nilIface=vs.getD i .nilIface:=by simp [List.getD,List.getElem?_append_left (show i<vs.length by rw [h.len]; omega)]
  have a2:(xs++[ys]).getD i []=xs.getD i []:=by simp [List.getD,List.getElem?_append_left hi2]
  rw [a1,a2,e i hi2]; exact h.each i hi2
theorem WalkAt.more {B:Nat} {w w':World} {f f2 f4:Names} {g gb b K R n:Nat} {tv:Value} {stop:Bool} {sets:List (List Bool)} {words next:List (List Int)} {sv:Value} {svs:List Value} {wv:Value} {wvs:List Value} {nv:Value} {nvs:List Value} (h:WalkAt B w f g gb b K R n tv stop sets words next sv svs wv wvs nv nvs)
 {w2:World} {y:List Bool} {sv2:Value} {svs2:List Value} (hb2:BagAt B w2 f2 gb b n (sets++[y]) sv2 svs2) (o2:∀ j:Nat×Nat,j.1≠20→j.1≠21→j.1≠22→j.1≠23→f2 j=f j)
 {v' u:Value} {wd:List Int} (hm:BagMap w' b n (sets++[y])) (o4:∀ j:Nat×Nat,j≠(30,0)→j≠(31,0)→j≠(32,words.length)→f4 j=f2 j)
 (e30:f4 (30,0)=some (box7 178 g [.int .i64 K,.int .i64 R,tv,.pointer (some ⟨gb,0,none⟩),nv,v',.bool stop])) (e31:f4 (31,0)=some (rowV 22 v' (wvs++[u]))) (e32:f4 (32,words.length)=some (rowI u wd)) :
 WalkAt B w' f4 g gb b K R n tv stop (sets++[y]) (words++[wd]) next sv2 svs2 v' (wvs++[u]) nv nvs:=by
 have k2:∀ j:Nat×Nat,j.1≠20→j.1≠21→j.1≠22→j.1≠23→j≠(30,0)→j≠(31,0)→j≠(32,words.length)→f4 j=f j:=fun j a1 a2 a3 a4 a5 a6 a7=>(o4 j a5 a6 a7).trans (o2 j a1 a2 a3 a4)
 refine ⟨e30,?_,?_,?_⟩
 ·have hc:=hb2.congr (f':=f4) (fun i hi=>o4 i (by intro e; subst e; rcases hi with q | q | q<;>cases q) (by intro e; subst e; rcases hi with q | q | q<;>cases q) (by intro e; subst e; rcases hi with q | q | q<;>cases q))
  exact ⟨hc.box,hc.out,hc.len,hc.each,hc.all,hm,hc.blk⟩
 ·exact h.words.more e31 e32 (fun i hi=>k2 _ (by simp) (by simp) (by simp) (by simp) (by simp) (by simp) (by intro e; injection e with _ e; omega))
 ·exact h.next.congr fun j hj=>k2 j (by rcases hj with q | q<;>rw [q]<;>decide) (by rcases hj with q | q<;>rw [q]<;>decide) (by rcases hj with q | q<;>rw [q]<;>decide) (by rcases hj with q | q<;>rw [q]<;>decide) (by intro e; subst e; rcases hj with q | q<;>cases q) (by intro e; subst e; rcases hj with q | q<;>cases q) (by intro e; subst e; rcases hj with q | q<;>cases q)
structure WkOk (sets:List (List Bool)) (words:List (List Int)):Prop where
 ll:words.length=sets.length
 short:∀ j,(words.getD j []).length≤j
 small:sets.length≤4096
theorem WkOk.init (n:Nat):WkOk [List.replicate n true] [[]]:=⟨rfl,fun j=>(by cases j<;>simp),by simp⟩
theorem wkStep_ok {stop:Bool} {K N i t:Nat} {T:List Int} {sets a:List (List Bool)} {words b:List (List Int)} {id:Int} (h:WkOk sets words) (hi:i<sets.length) (e:wkStep stop K N T i t sets words=.on a b id):WkOk a b∧sets.length≤a.length:=by
 unfold wkStep at e
 split at e
 ·split at e
  ·cases e
  ·injection e with e1 e2; subst e1; subst e2; exact ⟨h,Nat.le_refl _⟩
 ·split at e
  ·injection e with e1 e2; subst e1; subst e2; exact ⟨h,Nat.le_refl _⟩
  ·split at e
   ·cases e
   ·rename_i h4
    injection e with e1 e2; subst e1; subst e2
    have hsm:=h.small
    refine ⟨⟨by simp [h.ll],fun j=>?_,by rw [List.length_append,List.length_singleton]; omega⟩,by simp⟩
    by_cases c:j<words.length
    ·rw [getD_leftS c]; exact h.short j
    ·by_cases c2:j=words.length
     ·subst c2
      rw [getD_end,List.length_append,List.length_singleton]
      have:=h.short i
      have hll:=h.ll
      omega
     ·have:(words++[words.getD i []++[(t:Int)]]).getD j []=[]:=by
       rw [List.getD_eq_getElem?_getD,List.getElem?_eq_none (by rw [List.length_append,List.length_singleton]; omega)]; rfl
      rw [this]; exact Nat.zero_le _
def NotWk (j:Nat×Nat):Prop:=j.1≠20∧j.1≠21∧j.1≠22∧j.1≠23∧j.1≠30∧j.1≠31∧j.1≠32
def StepPost (r:Nat→Addr) (B:Nat) (f:Names) (g gb b K R n:Nat) (tv:Value) (stop:Bool) (next:List (List Int)) (nv:Value) (nvs:List Value) (w:World):WkR Int→Ending→World→Prop
 | .on a ws id,e,w'=>e=.returned (.tuple #[.int .i64 id,.nilIface])∧Below B w w'∧∃ f' sv svs wv wvs,Rows B w' f'∧WalkAt B w' f' g gb b K R n tv stop a ws next sv svs wv wvs nv nvs∧∀ j:Nat×Nat,NotWk j→f' j=f j
 | .orphan wd,e,w'=>∃ p,e=.returned (.tuple #[.int .i64 0,.iface 180 (.pointer (some p))])∧Below w.heap.size w w'∧FoundAt w.heap.size w' wd (.iface 180 (.pointer (some p)))
 | .big,e,w'=>∃ p,e=.returned (.tuple #[.int .i64 0,.iface 75 (.pointer (some p))])∧Below w.heap.size w w'∧ErrIs r w' (fresh sBag 0 4) (.iface 75 (.pointer (some p)))
section
variable {stop:Bool} {K n i t:Nat} {T:List Int} {sets:List (List Bool)} {words:List (List Int)} {L:List Nat}
theorem wkStep_nil (h1:1≤n) (he:behM K n T (memB (sets.getD i []) n) (t:Nat)=L) (hL:L=[]):wkStep stop K n T i t sets words=if stop=true then .orphan (words.getD i []++[(t:Int)]) else .on sets words (-1):=by
 unfold wkStep; rw [if_pos ((beh_nil h1).1 (he.trans hL))]
theorem wkStep_old (h1:1≤n) (he:behM K n T (memB (sets.getD i []) n) (t:Nat)=L) (hL:L≠[]) (hm:setOf n L∈sets):wkStep stop K n T i t sets words=.on sets words (sets.idxOf (setOf n L):Nat):=by
 unfold wkStep; rw [if_neg (fun q=>hL (he.symm.trans ((beh_nil h1).2 q))),← setOf_beh,he,if_pos hm]
theorem wkStep_big (h1:1≤n) (he:behM K n T (memB (sets.getD i []) n) (t:Nat)=L) (hL:L≠[]) (hm:setOf n L∉sets) (h4:sets.length=4096):wkStep stop K n T i t sets words=.big:=by
 unfold wkStep; rw [if_neg (fun q=>hL (he.symm.trans ((beh_nil h1).2 q))),← setOf_beh,he,if_neg hm,if_pos h4]
theorem wkStep_new (h1:1≤n) (he:behM K n T (memB (sets.getD i []) n) (t:Nat)=L) (hL:L≠[]) (hm:setOf n L∉sets) (h4:sets.length≠4096):wkStep stop K n T i t sets words=.on (sets++[setOf n L]) (words++[words.getD i []++[(t:Int)]]) (sets.length:Nat):=by
 unfold wkStep; rw [if_neg (fun q=>hL (he.symm.trans ((beh_nil h1).2 q))),← setOf_beh,he,if_neg hm,if_neg h4]
end
theorem step_any (r:Nat→Addr) {B:Nat} {f:Names} {g gb b K R n:Nat} {va:Option Addr} {vn vc:Nat} {T:List Int} {sets:List (List Bool)} {words next:List (List Int)} {sv:Value} {svs:List Value} {wv:Value} {wvs:List Value} {nv:Value} {nvs:List Value} {stop:Bool} {w:World} (hg:Glob r w) (hR:Rows B w f)
 (hW:WalkAt B w f g gb b K R n (.slice va vn vc) stop sets words next sv svs wv wvs nv nvs) (hT:IntsAt w (.slice va vn vc) T) (hok:RuleOk K R T) (hl:T.length≤256) (hn:T.length/K=n) (h1:1≤n) (hn4:n≤256) (i t:Nat) (hi:i<sets.length) (hk:WkOk sets words) :
 Calls Tryz.prog 147 #[.pointer (some ⟨g,0,none⟩),.int .i64 i,.int .i64 t] w (StepPost r B f g gb b K R n (.slice va vn vc) stop next nv nvs w (wkStep stop K n T i t sets words)):=by
 obtain ⟨L,he⟩:∃ L,behM K n T (memB (sets.getD i []) n) (t:Nat)=L:=⟨_,rfl⟩
 have hws:=hk.ll
 have hsm:=hk.small
 have hwi:i<words.length:=by omega
 have hwl:(words.getD i []).length≤4096:=by have:=hk.short i; omega
 have kN:=fun q:L=[]=>wkStep_nil (stop:=stop) (words:=words) h1 he q
 have kO:=fun (q:L≠[]) m=>wkStep_old (stop:=stop) (words:=words) h1 he q m
 have kB:=fun (q:L≠[]) m z=>wkStep_big (stop:=stop) (words:=words) h1 he q m z
 have kW:=fun (q:L≠[]) m z=>wkStep_new (stop:=stop) (words:=words) h1 he q m z
 obtain ⟨ws,hwe⟩:∃ ws,words.getD i []=ws:=⟨_,rfl⟩
 rw [hwe] at hwl kN kW
 obtain ⟨RES,hRES⟩:∃ X,wkStep stop K n T i t sets words=X:=⟨_,rfl⟩
 rw [hRES] at kN kO kB kW ⊢
 clear hRES
 replace hwe:=Hd hwe
 replace kN:=Hd kN
 replace kO:=Hd kO
 replace kB:=Hd kB
 replace kW:=Hd kW
 have x0:w.cell? ⟨g,0,none⟩=some (.int .i64 K):=hW.cell hR 0 (by decide)
 have x1:w.cell? ⟨g,1,none⟩=some (.int .i64 R):=hW.cell hR 1 (by decide)
 have x2:w.cell? ⟨g,2,none⟩=some (.slice va vn vc):=hW.cell hR 2 (by decide)
 have x3:w.cell? ⟨g,3,none⟩=some (.pointer (some ⟨gb,0,none⟩)):=hW.cell hR 3 (by decide)
 have hgB:=(hW.low hR).1
 have x5:w.cell? ⟨g,5,none⟩=some wv:=hW.cell hR 5 (by decide)
 have x6:w.cell? ⟨g,6,none⟩=some (.bool stop):=hW.cell hR 6 (by decide)
 have hgl:=(hW.low hR).2
 obtain ⟨z0,z1,z2⟩:=hW.bag.cells hR
 have hset:=hW.bag.set hR hi
 have hin:svs.getD i .nilIface=svs[i]'(by rw [hW.bag.len]; exact hi):=by
  have:i<svs.length:=by rw [hW.bag.len]; exact hi
  simp [List.getD,this]
 rw [hin] at hset
 have hlen:(sets.getD i []).length=n:=hW.bag.all _ (by
  have:sets.getD i []=sets[i]:=by simp [List.getD,hi]
  rw [this]; exact List.getElem_mem hi)
 have hget:=bag_Get n gb i sv svs (sets.getD i []) w z0 z1 (hW.bag.outer hR) (by rw [hW.bag.len]; exact hi) hset hlen (by omega)
 have hk1:=hok.k1
 have hk4:=hok.k4
 obtain ⟨M,hM⟩:∃ M,memB (sets.getD i []) n=M:=⟨_,rfl⟩
 rw [hM] at hget he
 have hlow:∀ u∈M,u<n:=fun u hu=>by rw [← hM] at hu; exact (mem_memB.1 hu).1
 have hml:M.length≤n:=by
  rw [← hM]; exact Nat.le_trans (List.length_filter_le _ _) (by rw [List.length_range]; exact Nat.le_refl _)
 have hLl:L.length≤100000:=by
  rw [← he]
  refine Nat.le_trans (behM_le K n T (t:Nat) M) ?_
  exact Nat.le_trans (Nat.mul_le_mul (show M.length≤256 by omega) hk4) (by decide)
 have hLn:∀ x∈L,x<n:=by rw [← he]; exact behM_lt h1
 replace hLn:=Hd hLn
 replace hM:=Hd hM
 replace hlow:=Hd hlow
 replace hg:=Hd hg
 replace hT:=Hd hT
 replace hR:=Hd hR
 replace hW:=Hd hW
 replace hset:=Hd hset
 replace hin:=Hd hin
 replace he:=Hd he
 replace hn:=Hd hn
 replace hok:=Hd hok
 go_enter Tryz.func147,Tryz.ntmps147
 go_wp2_with fail
 refine hget.mono ?_
 rintro e w1 ⟨mv,_,rfl,b1,rfl,hMo⟩
 have l1:=hMo.at.len
 rw [natI_len] at l1
 obtain ⟨ma,mn,mc,rfl⟩:=hMo.at.shape
 replace hMo:=Hd hMo
 go_wp2
 go_loopw [10,33] (fun ov iv wr=>∃ (k:Nat) (ow:Value),ow=ov∧iv=.int .i64 k∧k≤M.length∧OwnI w1.heap.size wr ow (natI (behM K n T (M.take k) (t:Nat)))∧Below w1.heap.size w1 wr) (fun _ iv _=>M.length-(intOf iv).toNat)
 case atStart=>exact ⟨0,_,rfl,rfl,Nat.zero_le _,OwnI.nil _ _,Below.refl _ _⟩
 case round =>
  obtain ⟨k,ow,rfl,rfl,hk,hO,hB⟩:=hrel
  obtain ⟨wo,rfl⟩:∃ wo:World,wo=wr:=⟨_,rfl⟩
  by_cases hkl:k<M.length
  ·have dk:decide ((k:Int)<(M.length:Int))=true:=decide_eq_true (by omega)
   have hB1:=hB.size
   have hMk:=hMo.out.at.below hB
   have iX:=fun w'=>hMk.idx k (by rw [natI_len]; exact hkl) w'
   have cX:=hMk.cellD k (by rw [natI_len]; exact hkl)
   rw [natI_at hkl] at cX
   have hun:=hlow.out M[k] (List.getElem_mem hkl)
   have hsn:=behM_snoc K n T (M.take k) M[k] (t:Nat)
   rw [← take_snocN M k hkl] at hsn
   obtain ⟨u,hu⟩:∃ u,M[k]=u:=⟨_,rfl⟩
   rw [hu] at cX hun hsn
   obtain ⟨P,hP⟩:∃ P,behM K n T (M.take k) (t:Nat)=P:=⟨_,rfl⟩
   have hPl:Hid (P.length≤1024):=by
    show P.length≤1024
    rw [← hP]
    refine Nat.le_trans (behM_le K n T (t:Nat) (M.take k)) ?_
    rw [List.length_take]
    exact Nat.le_trans (Nat.mul_le_mul (show min k M.length≤256 by omega) hk4) (by decide)
   rw [hP] at hsn hO
   obtain ⟨xa,hxa⟩:∃ xa,valAt (.slice ma mn mc) k=xa:=⟨_,rfl⟩
   rw [hxa] at iX cX
   have b2:=Below.step b1 hB
   have y0:wo.cell? ⟨g,0,none⟩=some (.int .i64 K):=by rw [b2.cell hgl]; exact x0
   replace hMk:=Hd hMk
   replace hsn:=Hd hsn
   replace hP:=Hd hP
   replace hu:=Hd hu
   replace hxa:=Hd hxa
   replace hO:=Hd hO
   go_wp2
   go_loopw [10,42] (fun ov jv wr=>∃ (j:Nat) (ow:Value),ow=ov∧jv=.int .i64 j∧j≤K∧OwnI w1.heap.size wr ow (natI (P++behU K n T u (t:Nat) j))∧Below w1.heap.size w1 wr) (fun _ jv _=>K-(intOf jv).toNat)
   case atStart=>exact ⟨0,_,rfl,rfl,Nat.zero_le _,by rw [behU_zero,List.append_nil]; exact hO.out,hB⟩
   case round =>
    obtain ⟨j,pw,rfl,rfl,hj,hQ,hBj⟩:=hrel
    obtain ⟨wj,rfl⟩:∃ wj:World,wj=wr:=⟨_,rfl⟩
    by_cases hjl:j<K
    ·have dj:decide ((j:Int)<(K:Int))=true:=decide_eq_true (by omega)
     have b3:=Below.step b1 hBj
     have q0:wj.cell? ⟨g,0,none⟩=some (.int .i64 K):=by rw [b3.cell hgl]; exact x0
     have q1:wj.cell? ⟨g,1,none⟩=some (.int .i64 R):=by rw [b3.cell hgl]; exact x1
     have q2:wj.cell? ⟨g,2,none⟩=some (.slice va vn vc):=by rw [b3.cell hgl]; exact x2
     have edge:=over_Edge r K R va vn vc T u j wj (hg.out.below b3) (hT.out.below b3) hok.out hl (by rw [hn.out]; exact hun) hjl
     rw [hn.out] at edge
     have hbs:=behU_succ K n T u (t:Nat) j
     have hql:(P++behU K n T u (t:Nat) j).length≤100000:=by
      have a1:=behU_le K n T u (t:Nat) j
      have a2:=hPl.out
      rw [List.length_append]; omega
     obtain ⟨lb,hlb⟩:∃ lb,labN K T u j=lb:=⟨_,rfl⟩
     obtain ⟨tv,hto⟩:∃ tv,toN K n u j=tv:=⟨_,rfl⟩
     rw [hlb,hto] at edge
     have hlb2:T.getD (u*K+j) 0=lb:=hlb
     have hto2:(u*K+j)%n=tv:=hto
     rw [hlb2,hto2] at hbs
     replace hlb:=Hd hlb
     replace hto:=Hd hto
     replace hlb2:=Hd hlb2
     replace hto2:=Hd hto2
     have hBs:=hBj.size
     by_cases hc:lb=(t:Int)
     ·subst hc
      rw [if_pos rfl] at hbs
      have hn2:natI (P++behU K n T u (t:Nat) (j+1))=natI (P++behU K n T u (t:Nat) j)++[(tv:Int)]:=by rw [hbs,← List.append_assoc,natI_snoc]
      obtain ⟨Q,hQn⟩:∃ Q,natI (P++behU K n T u (t:Nat) j)=Q:=⟨_,rfl⟩
      have hQl:Q.length≤100000:=by rw [← hQn,natI_len]; exact hql
      rw [hQn] at hn2 hQ
      clear hbs hql
      replace hn2:=Hd hn2
      replace hQn:=Hd hQn
      replace hQ:=Hd hQ
      go_wp2_with fail
      refine edge.mono ?_
      rintro e w2 ⟨_,_,_,rfl,b4,rfl,rfl,rfl⟩
      have hQ2:=hQ.out.below b4
      have hB2:=hBj.trans (b4.mono hBs)
      have hB2s:=hB2.size
      go_wp2_with (at_builtin; refine wpl_append1 rfl _ _ rfl w1.heap.size _ Q (tv:Int) hQ2 rfl rfl (by omega) hB2s ?_)
      intro v' w3 hO3 b5 _ _
      rw [← hn2.out] at hO3
      replace hO3:=Hd hO3
      clear hQ2
      go_wp2
      go_roundw
      case measure=>simp [intOf]; omega
      case rel=>exact ⟨j+1,_,rfl,by go_num,by omega,hO3.out,hB2.trans b5⟩
     ·rw [if_neg hc,List.append_nil] at hbs
      have dc:decide (lb=(t:Int))=false:=decide_eq_false hc
      rw [← hbs] at hQ
      clear hbs hql
      replace hQ:=Hd hQ
      go_wp2_with fail
      refine edge.mono ?_
      rintro e w2 ⟨_,_,_,rfl,b4,rfl,rfl,rfl⟩
      have hB2:=hBj.trans (b4.mono hBs)
      have hQ2:=Hd (hQ.out.below b4)
      go_wp2
      go_roundw
      case measure=>simp [intOf]; omega
      case rel=>exact ⟨j+1,_,rfl,by go_num,by omega,hQ2.out,hB2⟩
    ·obtain rfl:K=j:=by omega
     have dj:decide ((K:Int)<(K:Int))=false:=decide_eq_false (by omega)
     have e2:behM K n T (M.take (k+1)) (t:Nat)=P++behU K n T u (t:Nat) K:=hsn.out
     rw [← e2] at hQ
     replace hQ:=Hd hQ
     clear e2
     go_wp2
     go_roundw
     case measure=>simp [intOf]; omega
     case rel=>exact ⟨k+1,_,rfl,by go_num,by omega,hQ.out,hBj⟩
  ·have dk:decide ((k:Int)<(M.length:Int))=false:=decide_eq_false (by omega)
   obtain rfl:k=M.length:=by omega
   rw [List.take_length,he.out] at hO
   have l2:=hO.at.len
   rw [natI_len] at l2
   have b2:=Below.step b1 hB
   have hBw:B≤w.heap.size:=Nat.le_trans hgB (Nat.le_of_lt hgl)
   by_cases c1:L=[]
   ·have hL0:L.length=0:=by rw [c1]; rfl
    rw [hL0] at l2
    obtain ⟨oa,on,oc,rfl⟩:=hO.at.shape
    have kN2:=kN.out c1
    have y6:wo.cell? ⟨g,6,none⟩=some (.bool stop):=by rw [b2.cell hgl]; exact x6
    replace hO:=Hd hO
    replace c1:=Hd c1
    cases stop with
    | false =>
     obtain rfl:RES=.on sets words (-1):=kN2
     have hfin:StepPost r B f g gb b K R n (.slice va vn vc) false next nv nvs w (.on sets words (-1)) (.returned (.tuple #[.int .i64 (-1),.nilIface])) wo:=⟨rfl,b2.mono hBw,f,_,_,_,_,hR.out.below b2,hW.out.below b2,fun _ _=>rfl⟩
     replace hfin:=Hd hfin
     go_wp2
     go_ret2
     exact hfin.out
    | true =>
     obtain rfl:RES=.orphan (ws++[(t:Int)]):=kN2
     have hRo:=hR.out.below b2
     obtain ⟨wa,wn,wc,hwv⟩:=(hRo.ownV hW.out.words.out).shape
     have y5:wo.cell? ⟨g,5,none⟩=some (.slice wa wn wc):=by rw [b2.cell hgl,← hwv]; exact x5
     have hov:=(hRo.ownV hW.out.words.out).at
     have hwi2:i<wvs.length:=by rw [hW.out.words.len]; exact hwi
     have hxo:=hRo.ownI (hW.out.words.each i hwi)
     obtain ⟨ea,en,ec,hee⟩:=hxo.at.shape
     have hee2:wvs[i]=.slice ea en ec:=by rw [← hee]; simp [List.getD,hwi2]
     rw [hee] at hxo
     have iW:=fun w'=>hov.idx oneLists i hwi2 w'
     have cW:=hov.cell i hwi2
     rw [hee2] at cW
     rw [hwv] at iW cW
     rw [hwe.out] at hxo
     obtain ⟨xa,hxa⟩:∃ xa,valAt (.slice wa wn wc) i=xa:=⟨_,rfl⟩
     rw [hxa] at iW cW
     have clone:=clone_any _ _ wo hxo.at (by omega)
     replace hRo:=Hd hRo
     replace hxo:=Hd hxo
     replace hee:=Hd hee
     replace hee2:=Hd hee2
     replace hwv:=Hd hwv
     replace hxa:=Hd hxa
     replace hov:=Hd hov
     go_wp2_with fail
     refine clone.mono ?_
     rintro e w2 ⟨cv,rfl,b3,hC⟩
     have b3s:=b3.size
     go_wp2_with (at_builtin; refine wpl_append1 rfl _ _ rfl wo.heap.size _ ws (t:Int) hC rfl rfl (by omega) b3s ?_)
     intro v' w3 hO3 b5 _ _
     obtain ⟨qa,qn,qc,rfl⟩:=hO3.at.shape
     have b4:=b3.trans b5
     have b24:=Below.step b2 (b4.trans ((belowAlloc w3 (.cells #[.slice qa qn qc] 183)).mono b4.size))
     have hfin:FoundAt w.heap.size (w3.alloc (.cells #[.slice qa qn qc] 183)) (ws++[(t:Int)]) (.iface 180 (.pointer (some ⟨w3.heap.size,0,none⟩))) :=
      ⟨w3.heap.size,qa,qn,qc,rfl,by simp [go_sem],(hO3.mono b2.size).alloc _,Nat.le_trans b2.size b4.size⟩
     replace hO3:=Hd hO3
     replace hfin:=Hd hfin
     replace hC:=Hd hC
     go_wp2
     go_ret2
     exact ⟨_,rfl,b24,hfin.out⟩
   ·have hL:1≤L.length:=by
     cases hL':L with
     | nil=>exact absurd hL' c1
     | cons _ _=>simp
    have y3:wo.cell? ⟨g,3,none⟩=some (.pointer (some ⟨gb,0,none⟩)):=by rw [b2.cell hgl]; exact x3
    have dz:decide ((L.length:Int)=0)=false:=decide_eq_false (by omega)
    by_cases c2:setOf n L∈sets
    ·obtain rfl:=kO.out c1 c2
     have put:=bag_Put_old (hR.out.below b2) (hW.out.bag.below b2) ow L hO.at hLn.out hLl c2 h1 (by omega)
     obtain ⟨oa,on,oc,rfl⟩:=hO.at.shape
     replace hO:=Hd hO
     replace c1:=Hd c1
     replace c2:=Hd c2
     go_wp2_with fail
     refine put.mono ?_
     rintro e w2 ⟨_,_,_,rfl,b3,rfl,rfl,rfl⟩
     have b23:=Below.step b2 b3
     have hfin:StepPost r B f g gb b K R n (.slice va vn vc) stop next nv nvs w (.on sets words (sets.idxOf (setOf n L):Nat)) (.returned (.tuple #[.int .i64 (sets.idxOf (setOf n L):Nat),.nilIface])) w2:=⟨rfl,b23.mono hBw,f,_,_,_,_,hR.out.below b23,hW.out.below b23,fun _ _=>rfl⟩
     replace hfin:=Hd hfin
     go_wp2
     go_ret2
     exact hfin.out
    ·by_cases c3:sets.length=4096
     ·obtain rfl:=kB.out c1 c2 c3
      have put:=bag_Put_big r (hg.out.below b2) (hR.out.below b2) (hW.out.bag.below b2) ow L hO.at hLn.out hLl c2 h1 (by omega) c3
      obtain ⟨oa,on,oc,rfl⟩:=hO.at.shape
      replace hO:=Hd hO
      replace c1:=Hd c1
      replace c2:=Hd c2
      go_wp2_with fail
      refine put.mono ?_
      rintro e w2 ⟨_,_,_,rfl,b3,rfl,rfl,he2⟩
      have b23:=Below.step b2 b3
      have he3:=he2
      obtain ⟨pp,uu,rfl,-⟩:=he3
      replace he2:=Hd he2
      go_wp2
      go_ret2
      exact ⟨_,rfl,b23,he2.out⟩
     ·obtain rfl:=kW.out c1 c2 c3
      have h4096:sets.length<4096:=by omega
      have put:=bag_Put_new (hR.out.below b2) (hW.out.bag.below b2) ow L hO.at hLn.out hLl c2 h1 (by omega) h4096
      obtain ⟨oa,on,oc,rfl⟩:=hO.at.shape
      replace c1:=Hd c1
      replace c2:=Hd c2
      replace kN:=Hd kN
      replace hO:=Hd hO
      go_wp2_with fail
      refine put.mono ?_
      rintro e w2 ⟨u,rfl,b3,f2,sv2,hR2,hb2,o2⟩
      have b23:=(b2.mono hBw).trans b3
      have hs2:B≤w2.heap.size:=Nat.le_trans hBw b23.size
      have hW31:ListsIn f2 31 wv wvs words:=hW.out.words.congr fun j hj=>o2 j (by rcases hj with q | q<;>rw [q]<;>decide) (by rcases hj with q | q<;>rw [q]<;>decide) (by rcases hj with q | q<;>rw [q]<;>decide) (by rcases hj with q | q<;>rw [q]<;>decide)
      have e30:f2 (30,0)=some (box7 178 g [.int .i64 K,.int .i64 R,.slice va vn vc,.pointer (some ⟨gb,0,none⟩),nv,wv,.bool stop]):=(o2 _ (by decide) (by decide) (by decide) (by decide)).trans hW.out.box
      have hov:=(hR2.ownV hW31.out).at
      have hwi2:i<wvs.length:=by rw [hW31.len]; exact hwi
      have hwn:wvs.length<4398046511104:=by rw [hW31.len]; omega
      have hxo:=hR2.ownI (hW31.each i hwi)
      obtain ⟨ea,en,ec,hee⟩:=hxo.at.shape
      have hee2:wvs[i]=.slice ea en ec:=by rw [← hee]; simp [List.getD,hwi2]
      rw [hee] at hxo
      have iW:=fun w'=>hov.idx oneLists i hwi2 w'
      have cW:=hov.cell i hwi2
      rw [hee2] at cW
      have hgi:(wvs[i]?:Option Value)=some (.slice ea en ec):=by rw [List.getElem?_eq_getElem hwi2,hee2]
      obtain ⟨wa,wn,wc,hwv⟩:=(hR2.ownV hW31.out).shape
      subst hwv
      have c5:w2.cell? ⟨g,5,none⟩=some (.slice wa wn wc):=hR2.cell e30 (g:=g) (cap:=1) rfl 5 (show 5<1*7 by decide)
      rw [hwe.out] at hxo
      obtain ⟨xa,hxa⟩:∃ xa,valAt (.slice wa wn wc) i=xa:=⟨_,rfl⟩
      rw [hxa] at iW cW
      have hglt:g<w2.heap.size:=(hR2.lt e30 g rfl).2
      have hxl:xa.block<w2.heap.size:=World.block_lt_of_cell? _ _ cW
      obtain ⟨cl,hcl⟩:∃ n,ws.length=n:=⟨_,rfl⟩
      replace hee2:=Hd hee2
      replace hee:=Hd hee
      replace hov:=Hd hov
      replace hgi:=Hd hgi
      replace hR2:=Hd hR2
      replace hb2:=Hd hb2
      replace o2:=Hd o2
      replace hW31:=Hd hW31
      replace e30:=Hd e30
      replace hxa:=Hd hxa
      replace hxo:=Hd hxo
      replace b23:=Hd b23
      clear z0 z1 z2
      go_upto_region 24 with fail
      obtain ⟨W0,hW0⟩:∃ W:World,w2.drew=W:=⟨_,rfl⟩
      have hR0:=hR2.out.drew
      have hx0:=hxo.out.drew
      have hb0:Below w2.heap.size w2 W0:=by rw [← hW0]; exact (Below.refl _ _).drew
      rw [hW0] at hR0 hx0
      have hS0:W0.cell? ⟨g,5,none⟩=some (.slice wa wn wc)∧W0.cell? xa=some (.slice ea en ec):=by rw [← hW0]; exact ⟨c5,cW⟩
      have hs0:Hid (W0.heap.size=w2.heap.size):=by rw [← hW0]; rfl
      refine wp_region_tree (fun w'=>w'.cell? ⟨g,5,none⟩=some (.slice wa wn wc)∧w'.cell? xa=some (.slice ea en ec)) 18 (PT.takes [0,1,2,3,4,5,6,7,8,9,10,11,13] (.two 12 (.one 14 (.one 15 (.one 16 (.one 17 .nil)))) 14 (.one 12 (.one 15 (.one 16 (.one 17 .nil)))))) (by kernel_rfl) (by kernel_rfl) ?_
      rw [hW0]
      replace hW0:=Hd hW0
      simp only [PT.takes]
      refine trY 100 hS0 ?_
      refine trY 101 hS0 ?_
      refine trY 102 hS0 ?_
      refine trY 103 hS0 ?_
      refine trY 104 hS0 ?_
      refine trY 105 hS0 ?_
      refine trY 106 hS0 ?_
      refine trY 107 hS0 ?_
      refine trY 108 hS0 ?_
      refine trY 109 hS0 ?_
      refine trY 110 hS0 ?_
      refine trY 111 hS0 ?_
      refine trY 113 hS0 ?_
      refine tr2 (trOp rfl fun KK hK=>?_) (trOp rfl fun KK hK=>?_)
      ·go_simp
       refine (clone_any _ _ W0 hx0.at (by omega)).mono ?_
       rintro e W1 ⟨cv,rfl,bc,hC⟩
       have bW1:=Below.step hb0 bc
       replace hC:=hC.mono (Nat.le_of_eq hs0.out.symm)
       obtain ⟨ca,cn,cc,rfl⟩:=hC.at.shape
       have hS1:W1.cell? ⟨g,5,none⟩=some (.slice wa wn wc)∧W1.cell? xa=some (.slice ea en ec):=⟨by rw [bW1.cell hglt]; exact c5,by rw [bW1.cell hxl]; exact cW⟩
       refine hK _ _ hS1 ?_
       clear hK KK
       refine trC rfl fun KK hK=>?_
       go_simp
       have bl:=belowAlloc W1 (.cells #[.int .i64 t] 3)
       have hlit:=(OwnI.lit 0 W1 (Nat.zero_le _) [(t:Int)] (by simp [maxLen]) #[.int .i64 t] rfl 1 rfl).at
       have bW:=Below.step bW1 bl
       replace hC:=hC.below bl
       obtain ⟨lb,hlb⟩:∃ lb,W1.heap.size=lb:=⟨_,rfl⟩
       obtain ⟨W2,hW2⟩:∃ W2:World,W1.alloc (.cells #[.int .i64 t] 3)=W2:=⟨_,rfl⟩
       rw [hlb] at hlit
       rw [hW2] at hlit bW hC
       rw [hW2,hlb]
       have hS2:W2.cell? ⟨g,5,none⟩=some (.slice wa wn wc)∧W2.cell? xa=some (.slice ea en ec):=⟨by rw [bW.cell hglt]; exact c5,by rw [bW.cell hxl]; exact cW⟩
       refine hK _ _ hS2 ?_
       clear hK KK bl bW1 hS1
       replace hW2:=Hd hW2
       replace hlb:=Hd hlb
       refine trC rfl fun KK hK=>?_
       refine step_appI rfl _ _ rfl w2.heap.size (.slice ca cn cc) (.slice (some ⟨lb,0,none⟩) 1 1) ws [(t:Int)] rfl rfl hC hlit (by simp only [List.length_cons,List.length_nil]; omega) bW.size ?_
       intro v3 W3 hO3 bx
       have bW3:=bW.trans bx
       obtain ⟨qa,qn,qc,rfl⟩:=hO3.at.shape
       have hS3:W3.cell? ⟨g,5,none⟩=some (.slice wa wn wc)∧W3.cell? xa=some (.slice ea en ec):=⟨by rw [bW3.cell hglt]; exact c5,by rw [bW3.cell hxl]; exact cW⟩
       refine hK _ _ hS3 ?_
       clear hK KK bx hlit hC hS2 hS3
       have R3:=hR2.out.add (i:=(32,words.length)) (r':=rowI (.slice qa qn qc) (ws++[(t:Int)])) bW3 (hO3.mono hs2) (fun k hk=>(hO3.lt k hk).1)
       have hb3:=hb2.out.below bW3
       refine trC rfl fun KK hK=>?_
       go_simp
       have bl:=belowAlloc W3 (.cells #[.slice qa qn qc] 22)
       have bW4:=Below.step bW3 bl
       have hS4:(W3.alloc (.cells #[.slice qa qn qc] 22)).cell? ⟨g,5,none⟩=some (.slice wa wn wc)∧(W3.alloc (.cells #[.slice qa qn qc] 22)).cell? xa=some (.slice ea en ec):=⟨by rw [bW4.cell hglt]; exact c5,by rw [bW4.cell hxl]; exact cW⟩
       refine hK _ _ hS4 ?_
       clear hK KK hS4
       have h31:upd f2 (32,words.length) (some (rowI (.slice qa qn qc) (ws++[(t:Int)]))) (31,0)=some (rowV 22 (.slice wa wn wc) wvs):=(upd_ne _ _ (by intro e; cases e)).trans hW31.out.out
       refine trC rfl fun KK hK=>?_
       refine step_appV oneLists rfl _ _ rfl R3 (31,0) (.slice wa wn wc) wvs h31 (.slice qa qn qc) rfl rfl rfl hwn (Nat.le_trans hs2 bW3.size) ?_
       intro v5 W5 f5 R5 i5 o5 B5 hgr hold
       obtain ⟨row,g5,hrow⟩:=hgr
       obtain ⟨pa,pn,pc,rfl⟩:=(R5.ownV i5).shape
       have e30':f5 (30,0)=some (box7 178 g [.int .i64 K,.int .i64 R,.slice va vn vc,.pointer (some ⟨gb,0,none⟩),nv,.slice wa wn wc,.bool stop]):=(o5 _ (by intro e; cases e)).trans ((upd_ne _ _ (by intro e; cases e)).trans e30.out)
       have c5':W5.cell? ⟨g,5,none⟩=some (.slice wa wn wc):=R5.cell e30' (g:=g) (cap:=1) rfl 5 (show 5<1*7 by decide)
       have f5':=R5.frozen e30' (g:=g) (cap:=1) rfl 5
       have cW':=hold.cell i hwi2
       rw [hee2.out,hxa.out] at cW'
       refine hK _ _ ⟨c5',cW'⟩ ?_
       clear hK KK
       refine tr0 ?_
       simp only [List.drop_succ_cons,List.drop_zero]
       obtain ⟨es,cl2,hblk⟩:=hb3.map.blk
       have hm5:=hb3.map.kept g5 (fun e=>R3.not_map h31 hblk (hrow b e.symm))
       obtain ⟨es3,cl3,hblk3⟩:=hm5.blk
       have R6:=R5.set e30' (g:=g) (cap:=1) rfl 5 (.slice pa pn pc)
       have g6:W5.grownBy (W5.setCell ⟨g,5,none⟩ (.slice pa pn pc)) (some g):=(World.ownsRow.stored (R5.1 _ _ e30') 5 (.slice pa pn pc)).2
       have hm6:=hm5.kept g6 (fun e=>R5.not_map e30' hblk3 (by injection e with e; rw [e]; rfl))
       obtain ⟨F6,hF6⟩:∃ F6,upd f5 (30,0) (some { (box7 178 g [.int .i64 K,.int .i64 R,.slice va vn vc,.pointer (some ⟨gb,0,none⟩),nv,.slice wa wn wc,.bool stop]) with xs:=[Value.int .i64 K,.int .i64 R,.slice va vn vc,.pointer (some ⟨gb,0,none⟩),nv,.slice wa wn wc,.bool stop].set 5 (.slice pa pn pc) })=F6:=⟨_,rfl⟩
       rw [hF6] at R6
       have hfin:=hW.out.more hb2.out o2.out (f4:=F6) (v':=.slice pa pn pc) (u:=.slice qa qn qc) (wd:=ws++[(t:Int)]) hm6 (fun j a1 a2 a3=>by rw [← hF6,upd_ne _ _ a1,o5 j a2,upd_ne _ _ a3]) (by rw [← hF6,upd_same]; rfl) (by rw [← hF6,upd_ne _ _ (by intro e; cases e)]; exact i5) (by rw [← hF6,upd_ne _ _ (by intro e; cases e),o5 _ (by intro e; cases e),upd_same])
       have bfin:=b23.out.trans ((bW3.mono hs2).trans (B5.setCell (show B≤(⟨g,5,none⟩:Addr).block from hgB) (.slice pa pn pc)))
       have o6:∀ j:Nat×Nat,j.1≠20→j.1≠21→j.1≠22→j.1≠23→j.1≠30→j.1≠31→j.1≠32→F6 j=f j:=fun j a1 a2 a3 a4 a5 a6 a7=>by
        rw [← hF6,upd_ne _ _ (by intro e; exact a5 (by rw [e])),o5 j (by intro e; exact a6 (by rw [e])),upd_ne _ _ (by intro e; exact a7 (by rw [e]))]; exact o2.out j a1 a2 a3 a4
       replace hF6:=Hd hF6
       have hfin2:StepPost r B f g gb b K R n (.slice va vn vc) stop next nv nvs w (.on (sets++[setOf n L]) (words++[ws++[(t:Int)]]) (sets.length:Nat)) (.returned (.tuple #[.int .i64 (sets.length:Nat),.nilIface])) (W5.setCell ⟨g,5,none⟩ (.slice pa pn pc)):=⟨rfl,bfin,_,_,_,_,_,R6,hfin,fun j hj=>o6 j hj.1 hj.2.1 hj.2.2.1 hj.2.2.2.1 hj.2.2.2.2.1 hj.2.2.2.2.2.1 hj.2.2.2.2.2.2⟩
       replace hfin2:=Hd hfin2
       clear hfin bfin o6 R6 g6 hm6 hm5 hblk3 hblk i5 o5 B5 hold R3 hb3 g5 hrow h31 bl bW4 bW3 hO3
       go_wp2
       refine NoPanic.normal ?_
       go_wp2
       go_ret2
       exact hfin2.out
      ·go_simp
       have bl:=belowAlloc W0 (.cells #[.int .i64 t] 3)
       have hlit:=(OwnI.lit 0 W0 (Nat.zero_le _) [(t:Int)] (by simp [maxLen]) #[.int .i64 t] rfl 1 rfl).at
       have bW1:=Below.step hb0 bl
       have hx1:=hx0.below bl
       obtain ⟨lb,hlb⟩:∃ lb,W0.heap.size=lb:=⟨_,rfl⟩
       obtain ⟨W1,hW1⟩:∃ W2:World,W0.alloc (.cells #[.int .i64 t] 3)=W2:=⟨_,rfl⟩
       rw [hlb] at hlit
       rw [hW1] at hlit bW1 hx1
       rw [hW1,hlb]
       have hS1:W1.cell? ⟨g,5,none⟩=some (.slice wa wn wc)∧W1.cell? xa=some (.slice ea en ec):=⟨by rw [bW1.cell hglt]; exact c5,by rw [bW1.cell hxl]; exact cW⟩
       refine hK _ _ hS1 ?_
       clear hK KK bl
       replace hW1:=Hd hW1
       replace hlb:=Hd hlb
       refine trC rfl fun KK hK=>?_
       go_simp
       refine (clone_any _ _ W1 hx1.at (by omega)).mono ?_
       rintro e W2 ⟨cv,rfl,bc,hC⟩
       have bW:=Below.step bW1 bc
       replace hC:=hC.mono bW1.size
       replace hlit:=hlit.below bc
       obtain ⟨ca,cn,cc,rfl⟩:=hC.at.shape
       have hS2:W2.cell? ⟨g,5,none⟩=some (.slice wa wn wc)∧W2.cell? xa=some (.slice ea en ec):=⟨by rw [bW.cell hglt]; exact c5,by rw [bW.cell hxl]; exact cW⟩
       refine hK _ _ hS2 ?_
       clear hK KK bW1 hS1 hx1
       refine trC rfl fun KK hK=>?_
       refine step_appI rfl _ _ rfl w2.heap.size (.slice ca cn cc) (.slice (some ⟨lb,0,none⟩) 1 1) ws [(t:Int)] rfl rfl hC hlit (by simp only [List.length_cons,List.length_nil]; omega) bW.size ?_
       intro v3 W3 hO3 bx
       have bW3:=bW.trans bx
       obtain ⟨qa,qn,qc,rfl⟩:=hO3.at.shape
       have hS3:W3.cell? ⟨g,5,none⟩=some (.slice wa wn wc)∧W3.cell? xa=some (.slice ea en ec):=⟨by rw [bW3.cell hglt]; exact c5,by rw [bW3.cell hxl]; exact cW⟩
       refine hK _ _ hS3 ?_
       clear hK KK bx hlit hC hS2 hS3
       have R3:=hR2.out.add (i:=(32,words.length)) (r':=rowI (.slice qa qn qc) (ws++[(t:Int)])) bW3 (hO3.mono hs2) (fun k hk=>(hO3.lt k hk).1)
       have hb3:=hb2.out.below bW3
       refine trC rfl fun KK hK=>?_
       go_simp
       have bl:=belowAlloc W3 (.cells #[.slice qa qn qc] 22)
       have bW4:=Below.step bW3 bl
       have hS4:(W3.alloc (.cells #[.slice qa qn qc] 22)).cell? ⟨g,5,none⟩=some (.slice wa wn wc)∧(W3.alloc (.cells #[.slice qa qn qc] 22)).cell? xa=some (.slice ea en ec):=⟨by rw [bW4.cell hglt]; exact c5,by rw [bW4.cell hxl]; exact cW⟩
       refine hK _ _ hS4 ?_
       clear hK KK hS4
       have h31:upd f2 (32,words.length) (some (rowI (.slice qa qn qc) (ws++[(t:Int)]))) (31,0)=some (rowV 22 (.slice wa wn wc) wvs):=(upd_ne _ _ (by intro e; cases e)).trans hW31.out.out
       refine trC rfl fun KK hK=>?_
       refine step_appV oneLists rfl _ _ rfl R3 (31,0) (.slice wa wn wc) wvs h31 (.slice qa qn qc) rfl rfl rfl hwn (Nat.le_trans hs2 bW3.size) ?_
       intro v5 W5 f5 R5 i5 o5 B5 hgr hold
       obtain ⟨row,g5,hrow⟩:=hgr
       obtain ⟨pa,pn,pc,rfl⟩:=(R5.ownV i5).shape
       have e30':f5 (30,0)=some (box7 178 g [.int .i64 K,.int .i64 R,.slice va vn vc,.pointer (some ⟨gb,0,none⟩),nv,.slice wa wn wc,.bool stop]):=(o5 _ (by intro e; cases e)).trans ((upd_ne _ _ (by intro e; cases e)).trans e30.out)
       have c5':W5.cell? ⟨g,5,none⟩=some (.slice wa wn wc):=R5.cell e30' (g:=g) (cap:=1) rfl 5 (show 5<1*7 by decide)
       have f5':=R5.frozen e30' (g:=g) (cap:=1) rfl 5
       have cW':=hold.cell i hwi2
       rw [hee2.out,hxa.out] at cW'
       refine hK _ _ ⟨c5',cW'⟩ ?_
       clear hK KK
       refine tr0 ?_
       simp only [List.drop_succ_cons,List.drop_zero]
       obtain ⟨es,cl2,hblk⟩:=hb3.map.blk
       have hm5:=hb3.map.kept g5 (fun e=>R3.not_map h31 hblk (hrow b e.symm))
       obtain ⟨es3,cl3,hblk3⟩:=hm5.blk
       have R6:=R5.set e30' (g:=g) (cap:=1) rfl 5 (.slice pa pn pc)
       have g6:W5.grownBy (W5.setCell ⟨g,5,none⟩ (.slice pa pn pc)) (some g):=(World.ownsRow.stored (R5.1 _ _ e30') 5 (.slice pa pn pc)).2
       have hm6:=hm5.kept g6 (fun e=>R5.not_map e30' hblk3 (by injection e with e; rw [e]; rfl))
       obtain ⟨F6,hF6⟩:∃ F6,upd f5 (30,0) (some { (box7 178 g [.int .i64 K,.int .i64 R,.slice va vn vc,.pointer (some ⟨gb,0,none⟩),nv,.slice wa wn wc,.bool stop]) with xs:=[Value.int .i64 K,.int .i64 R,.slice va vn vc,.pointer (some ⟨gb,0,none⟩),nv,.slice wa wn wc,.bool stop].set 5 (.slice pa pn pc) })=F6:=⟨_,rfl⟩
       rw [hF6] at R6
       have hfin:=hW.out.more hb2.out o2.out (f4:=F6) (v':=.slice pa pn pc) (u:=.slice qa qn qc) (wd:=ws++[(t:Int)]) hm6 (fun j a1 a2 a3=>by rw [← hF6,upd_ne _ _ a1,o5 j a2,upd_ne _ _ a3]) (by rw [← hF6,upd_same]; rfl) (by rw [← hF6,upd_ne _ _ (by intro e; cases e)]; exact i5) (by rw [← hF6,upd_ne _ _ (by intro e; cases e),o5 _ (by intro e; cases e),upd_same])
       have bfin:=b23.out.trans ((bW3.mono hs2).trans (B5.setCell (show B≤(⟨g,5,none⟩:Addr).block from hgB) (.slice pa pn pc)))
       have o6:∀ j:Nat×Nat,j.1≠20→j.1≠21→j.1≠22→j.1≠23→j.1≠30→j.1≠31→j.1≠32→F6 j=f j:=fun j a1 a2 a3 a4 a5 a6 a7=>by
        rw [← hF6,upd_ne _ _ (by intro e; exact a5 (by rw [e])),o5 j (by intro e; exact a6 (by rw [e])),upd_ne _ _ (by intro e; exact a7 (by rw [e]))]; exact o2.out j a1 a2 a3 a4
       replace hF6:=Hd hF6
       have hfin2:StepPost r B f g gb b K R n (.slice va vn vc) stop next nv nvs w (.on (sets++[setOf n L]) (words++[ws++[(t:Int)]]) (sets.length:Nat)) (.returned (.tuple #[.int .i64 (sets.length:Nat),.nilIface])) (W5.setCell ⟨g,5,none⟩ (.slice pa pn pc)):=⟨rfl,bfin,_,_,_,_,_,R6,hfin,fun j hj=>o6 j hj.1 hj.2.1 hj.2.2.1 hj.2.2.2.1 hj.2.2.2.2.1 hj.2.2.2.2.2.1 hj.2.2.2.2.2.2⟩
       replace hfin2:=Hd hfin2
       clear hfin bfin o6 R6 g6 hm6 hm5 hblk3 hblk i5 o5 B5 hold R3 hb3 g5 hrow h31 bl bW4 bW3 hO3
       go_wp2
       refine NoPanic.normal ?_
       go_wp2
       go_ret2
       exact hfin2.out
end Go.Proofs.YtkaoebokbfcmhaaGreatDoor
namespace Go.Proofs.YtkaoebokbfcmhaaGreatDoor
open Go.RowKit
set_option maxRecDepth 100000
theorem BagAt.kept {B:Nat} {w w':World} {f f':Names} {gb b n:Nat} {sets:List (List Bool)} {sv:Value} {svs:List Value} {i:Nat×Nat} {r:Row} (h:BagAt B w f gb b n sets sv svs) (hR:Rows B w f) (hi:f i=some r) (hi1:i.1≠20∧i.1≠21∧i.1≠22) (he:ElseSame f f' i) {row:Option Nat} (hg:w.grownBy w' row) (hrow:∀ k,row=some k→r.v.ownBlock=some k):BagAt B w' f' gb b n sets sv svs:=by
 have hc:=h.congr (f':=f') (fun j hj=>he j (by intro e; subst e; rcases hj with q | q | q<;>omega))
 obtain ⟨es,cl,hblk⟩:=h.map.blk
 exact ⟨hc.box,hc.out,hc.len,hc.each,hc.all,h.map.kept hg (fun e=>hR.not_map hi hblk (hrow b e.symm)),hc.blk⟩
theorem WalkAt.kept {B:Nat} {w w':World} {f f':Names} {g gb b K R n:Nat} {tv:Value} {stop:Bool} {sets:List (List Bool)} {words next:List (List Int)} {sv:Value} {svs:List Value} {wv:Value} {wvs:List Value} {nv:Value} {nvs:List Value} {i:Nat×Nat} {r:Row} (h:WalkAt B w f g gb b K R n tv stop sets words next sv svs wv wvs nv nvs) (hR:Rows B w f) (hi:f i=some r) (hi1:i.1=35) (he:ElseSame f f' i) {row:Option Nat} (hg:w.grownBy w' row) (hrow:∀ k,row=some k→r.v.ownBlock=some k) :
 WalkAt B w' f' g gb b K R n tv stop sets words next sv svs wv wvs nv nvs :=
 ⟨(he _ (by intro e; rw [← e] at hi1; cases hi1)).trans h.box,h.bag.kept hR hi ⟨by omega,by omega,by omega⟩ he hg hrow,
   h.words.congr fun j hj=>he j (by intro e; subst e; rcases hj with q | q<;>omega),h.next.congr fun j hj=>he j (by intro e; subst e; rcases hj with q | q<;>omega)⟩
def idN (n i:Nat):List Int:=(List.range n).map fun j=>if j<i then (j:Int) else 0
theorem idN_len (n i:Nat):(idN n i).length=n:=by simp [idN]
theorem idN_zero (n:Nat):idN n 0=List.replicate n 0:=by
 refine List.ext_getElem (by simp [idN]) fun j h1 h2=>?_
 simp [idN]
theorem idN_set {n i:Nat}:(idN n i).set i (i:Int)=idN n (i+1):=by
 refine List.ext_getElem (by simp [idN]) fun j h1 h2=>?_
 have hj:j<n:=by simpa [idN] using h2
 rw [List.getElem_set]
 by_cases e:i=j
 ·subst e; simp [idN]
 ·rw [if_neg e]
  simp only [idN,List.getElem_map,List.getElem_range]
  by_cases c:j<i
  ·rw [if_pos c,if_pos (by omega)]
  ·rw [if_neg c,if_neg (by omega)]
theorem idN_full (n:Nat):idN n n=natI (List.range n):=by
 refine List.ext_getElem (by simp [idN,natI]) fun j h1 h2=>?_
 have hj:j<n:=by simpa [idN] using h1
 simp [idN,natI,hj]
end Go.Proofs.YtkaoebokbfcmhaaGreatDoor
