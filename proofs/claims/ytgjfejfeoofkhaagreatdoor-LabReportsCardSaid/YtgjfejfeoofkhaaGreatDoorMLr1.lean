/-
  Texts that the proof leans on.
-/
import Derived.Calls
import Derived.Lib.Hide
import Derived.Test.YtgjfejfeoofkhaaGreatDoorProg
import Derived.KernelRfl
import Derived.WalkKit
import Derived.WalkSpells
import Derived.WalkLawsBesides
import Derived.Maps.AppendAt
import Derived.BigQuiet
import Derived.Deep.QuietTactic
import Derived.Laws.CopyOwn
import Derived.Deep.RegionHeld3
import Derived.Lib.AppendZeros
import Derived.RegionTactic
set_option maxHeartbeats 8000000
set_option maxRecDepth 100000
namespace Go.Proofs.YtgjfejfeoofkhaaGreatDoor
theorem Hd{p:Prop}(h:p):RowKit.Hid p:=h
theorem bD{p0 p1:Prop}(h0:p0)(h1:p1):RowKit.Hid p0/\RowKit.Hid p1:=⟨h0,h1⟩
theorem dO{p0 p1 p2:Prop}(h0:p0)(h1:p1)(h2:p2):RowKit.Hid p0/\RowKit.Hid p1/\RowKit.Hid p2:=⟨h0,h1,h2⟩
theorem gF{p0 p1 p2 p3:Prop}(h0:p0)(h1:p1)(h2:p2)(h3:p3):RowKit.Hid p0/\RowKit.Hid p1/\RowKit.Hid p2/\RowKit.Hid p3:=⟨h0,h1,h2,h3⟩
theorem mV{p0 p1 p2 p3 p4:Prop}(h0:p0)(h1:p1)(h2:p2)(h3:p3)(h4:p4):RowKit.Hid p0/\RowKit.Hid p1/\RowKit.Hid p2/\RowKit.Hid p3/\RowKit.Hid p4:=⟨h0,h1,h2,h3,h4⟩
theorem rr{p0 p1 p2 p3 p4 p5:Prop}(h0:p0)(h1:p1)(h2:p2)(h3:p3)(h4:p4)(h5:p5):RowKit.Hid p0/\RowKit.Hid p1/\RowKit.Hid p2/\RowKit.Hid p3/\RowKit.Hid p4/\RowKit.Hid p5:=⟨h0,h1,h2,h3,h4,h5⟩
theorem zb{p0 p1 p2 p3 p4 p5 p6:Prop}(h0:p0)(h1:p1)(h2:p2)(h3:p3)(h4:p4)(h5:p5)(h6:p6):RowKit.Hid p0/\RowKit.Hid p1/\RowKit.Hid p2/\RowKit.Hid p3/\RowKit.Hid p4/\RowKit.Hid p5/\RowKit.Hid p6:=⟨h0,h1,h2,h3,h4,h5,h6⟩
theorem gp{p0 p1 p2 p3 p4 p5 p6 p7:Prop}(h0:p0)(h1:p1)(h2:p2)(h3:p3)(h4:p4)(h5:p5)(h6:p6)(h7:p7):RowKit.Hid p0/\RowKit.Hid p1/\RowKit.Hid p2/\RowKit.Hid p3/\RowKit.Hid p4/\RowKit.Hid p5/\RowKit.Hid p6/\RowKit.Hid p7:=⟨h0,h1,h2,h3,h4,h5,h6,h7⟩
theorem Ex{α:Type}(a:α):∃x,a=x:=⟨_,rfl⟩
theorem Ey{α:Type}(a:α):∃x,x=a:=⟨_,rfl⟩
theorem pq:(∀(a:Act) (v:Value),a.put none v=a)/\(∀(a:Act) (k:Tmp) (v:Value),a.put (some k) v={ a with tmps:=a.tmps.setIfInBounds k v })/\(∀(l:List Value) (i:Nat) (v:Value),l.toArray.setIfInBounds i v=(l.set i v).toArray)/\(∀(x v:Value) (l:List Value),(x::l).set 0 v=v::l)/\(∀(x v:Value) (l:List Value) (n:Nat),(x::l).set (n+1) v=x::l.set n v) :=
 ⟨λ_ _=>rfl,λ_ _ _=>rfl,λ_ _ _=>by simp,λ_ _ _=>rfl,λ_ _ _ _=>rfl⟩
open Go.RowKit
def af(v:Value)(i:Nat):Addr:=match v with | .slice (some p) _ _=>p.add i | _=>default
def ae(w:World)(v:Value)(xs:List Int):Prop :=
 ∃a cap,v=.slice a xs.length cap/\xs.length<=cap/\cap<=maxLen/\(a=none->cap=0)/\∀i (h:i<xs.length),w.cell? (af v i)=some (.int .i64 xs[i])
theorem ae.gN{w:World}{v:Value}{xs:List Int}(h:ae w v xs):xs.length<=9223372036854775807:=by
 obtain⟨a,cap,rfl,h1,h2,_⟩:=h;unfold maxLen at h2;omega
theorem ki:Tryz.prog.underlying 22=some (.slice 3):=by kernel_rfl
theorem Fu:(Tryz.prog.info? 3).map (λi=>(i.zero,i.size,i.bytes))=some (some (.int .i64 0),1,8):=by kernel_rfl
theorem Bt:Tryz.prog.elem 22=3:=by kernel_rfl
theorem we:Tryz.prog.underlying 22=some (.slice (Tryz.prog.elem 22)):=by rw[Bt];exact ki
theorem LF(w:World):(sizeOf 3).run Tryz.prog w=.ok 1 w:=by kernel_rfl
theorem ae.len{w:World}{v:Value}{xs:List Int}(h:ae w v xs)(w':World):
 (Builtin.len_ #[22] 3 #[v]).run Tryz.prog w'=.ok (.int .i64 xs.length) w':=by
 obtain⟨a,cap,rfl,h1,h2,h3,h4⟩:=h;rw[run_len_slice _ _ _ _ _ _ we];rfl
theorem ae.idx{w:World}{v:Value}{xs:List Int}(h:ae w v xs)(i:Nat)(hi:i<xs.length)(w':World):
 (Instr.indexAt 22 v (.int .i64 i)).run Tryz.prog w'=.ok (.pointer (some (af v i))) w':=by
 obtain⟨a,cap,rfl,h1,h2,h3,h4⟩:=h;cases a with
 | none=>have:=h3 rfl;omega
 | some p =>
  rw[run_indexAt_slice _ _ _ _ _ _ _ we,if_pos (by omega),Bt,LF];simp[af]
theorem ae.Mi{w:World}{v:Value}{xs:List Int}(h:ae w v xs)(i:Int)(h0:0<=i)(hi:i<xs.length)(w':World):
 (Instr.indexAt 22 v (.int .i64 i)).run Tryz.prog w'=.ok (.pointer (some (af v i.toNat))) w':=by
 have:=h.idx i.toNat (by omega) w';rwa [Int.toNat_of_nonneg h0] at this
theorem ae.cell{w:World}{v:Value}{xs:List Int}(h:ae w v xs)(i:Nat)(hi:i<xs.length):
 w.cell? (af v i)=some (.int .i64 xs[i]):=by
 obtain⟨a,cap,rfl,h1,h2,h3,h4⟩:=h;exact h4 i hi
theorem ae.aH{w:World}{v:Value}{xs:List Int}(h:ae w v xs)(i:Nat)(hi:i<xs.length):
 w.cell? (af v i)=some (.int .i64 (xs.getD i 0)):=by
 rw[h.cell i hi];simp[List.getD,hi]
theorem ae.vq{w:World}{v:Value}{xs:List Int}(h:ae w v xs)(i:Nat)(hi:i<xs.length):(af v i).block<w.heap.size :=
 World.block_lt_of_cell? _ _ (h.cell i hi)
theorem ae.below{w w':World}{v:Value}{xs:List Int}(h:ae w v xs)(hb:Below w.heap.size w w'):ae w' v xs:=by
 have hk:=h.vq;obtain⟨a,cap,e,h1,h2,h3,h4⟩:=h;exact⟨a,cap,e,h1,h2,h3,λi hi=>by rw[hb.cell (hk i hi)];exact h4 i hi⟩
theorem ae.TE{w w':World}{v:Value}{xs:List Int}(h:ae w v xs)(hc:∀i,i<xs.length->w'.cell? (af v i)=w.cell? (af v i)):ae w' v xs:=by
 obtain⟨a,cap,e,h1,h2,h3,h4⟩:=h;exact⟨a,cap,e,h1,h2,h3,λi hi=>by rw[hc i hi];exact h4 i hi⟩
def aj(B:Nat)(w:World)(v:Value)(xs:List Int):Prop:=w.ownsRow B 3 1 v xs.length (xs.map (Value.int .i64))
theorem aj.nil(B:Nat)(w:World):aj B w (.slice none 0 0) []:=World.ownsRow_nil w B _ 1
theorem aj.at{B:Nat}{w:World}{v:Value}{xs:List Int}(h:aj B w v xs):ae w v xs:=by
 rcases h.2 with ⟨rfl,hn⟩ | ⟨g,cap,cur,rfl,hb,hg,hn,hm,hs,ht⟩;.obtain rfl:=List.length_eq_zero_iff.1 hn;exact⟨none,0,rfl,by simp,by simp,λ_=>rfl,by simp⟩
 .refine⟨some ⟨g,0,none⟩,cap,rfl,hn,hm,(by intro e;cases e),λi hi=>?_⟩;exact World.ownsRow.cells h (g:=g) rfl i _ (by simp[hi])
theorem aj.mono{B B':Nat}{w:World}{v:Value}{xs:List Int}(h:aj B w v xs)(hB:B'<=B):aj B' w v xs:=by
 refine⟨h.1,?_⟩;rcases h.2 with h2 | ⟨g,cap,cur,e,hb,r⟩;.exact .inl h2
 .exact .inr ⟨g,cap,cur,e,Nat.le_trans hB hb,r⟩
theorem aj.lt{B:Nat}{w:World}{v:Value}{xs:List Int}(h:aj B w v xs):∀k,v.ownBlock=some k->B<=k/\k<w.heap.size:=World.ownsRow.lt h
theorem cj(g i n cap:Nat):af (.slice (some ⟨g,0,none⟩) n cap) i=⟨g,i,none⟩:=by
 show(⟨g,0,none⟩:Addr).add i=_;unfold Addr.add;split<;>simp_all
theorem aj.mQ{B:Nat}{w:World}{v:Value}{xs:List Int}(h:aj B w v xs)(i:Nat)(hi:i<xs.length):w.frozen? (af v i)=false:=by
 rcases h.2 with ⟨rfl,hn⟩ | ⟨g,cap,cur,rfl,hb,hg,hn,hm,hs,ht⟩;.omega
 .rw[cj];exact frozen_of_row w g i cur _ hg
theorem aj.jP{B:Nat}{w:World}{v:Value}{xs:List Int}(h:aj B w v xs)(i:Nat)(hi:i<xs.length):B<=(af v i).block:=by
 rcases h.2 with ⟨rfl,hn⟩ | ⟨g,cap,cur,rfl,hb,hg,hn,hm,hs,ht⟩;.omega
 .rw[cj];exact hb
theorem aj.set{B:Nat}{w:World}{v:Value}{xs:List Int}(h:aj B w v xs)(i:Nat)(hi:i<xs.length)(y:Int):
 aj B (w.setCell (af v i) (.int .i64 y)) v (xs.set i y):=by
 rcases h.2 with ⟨rfl,hn⟩ | ⟨g,cap,cur,rfl,hb,hg,hn,hm,hs,ht⟩;.omega
 .rw[cj];have:=(World.ownsRow.stored h i (.int .i64 y)).1;unfold aj;rw[List.map_set,List.length_set];exact this
theorem aj.dB{B:Nat}{w0 w:World}{v:Value}{xs:List Int}(h:aj B w v xs)(hb:Below B w0 w)(i:Nat)(hi:i<xs.length)(y:Value):
 Below B w0 (w.setCell (af v i) y):=hb.setCell (h.jP i hi) y
theorem aj.below{B:Nat}{w w':World}{v:Value}{xs:List Int}(h:aj B w v xs)(hb:Below w.heap.size w w'):aj B w' v xs:=by
 refine⟨h.1,?_⟩;rcases h.2 with h2 | ⟨g,cap,cur,e,hB,hg,r⟩;.exact .inl h2
 .refine .inr ⟨g,cap,cur,e,hB,?_,r⟩;rw[hb.block g (Array.getElem?_eq_some_iff.1 hg).1];exact hg
theorem aj.alloc{B:Nat}{w:World}{v:Value}{xs:List Int}(h:aj B w v xs)(o:Obj):aj B (w.alloc o) v xs:=World.ownsRow.alloc h o
theorem aj.drew{B:Nat}{w:World}{v:Value}{xs:List Int}(h:aj B w v xs):aj B w.drew v xs:=h
theorem aj.drewN{B:Nat}{w:World}{v:Value}{xs:List Int}(h:aj B w v xs)(n:Nat):aj B (w.drewN n) v xs:=h
theorem ae.drew{w:World}{v:Value}{xs:List Int}(h:ae w v xs):ae w.drew v xs:=h
theorem ae.drewN{w:World}{v:Value}{xs:List Int}(h:ae w v xs)(n:Nat):ae (w.drewN n) v xs:=h
theorem aj.kept{B:Nat}{w w':World}{row:Option Nat}{v:Value}{xs:List Int}(h:aj B w v xs)(hg:w.grownBy w' row)(bM:v.ownBlock=none\/v.ownBlock≠row):aj B w' v xs:=World.ownsRow.kept h hg bM
theorem aj.x7{B B':Nat}{w:World}{v u:Value}{xs ys:List Int}(h:aj B w v xs)(k:aj B' w u ys)(bM:v.ownBlock≠u.ownBlock)(i:Nat)(hi:i<ys.length)(y:Value):
 aj B (w.setCell (af u i) y) v xs:=by
 rcases k.2 with ⟨rfl,hn⟩ | ⟨g,cap,cur,rfl,hb,hg,hn,hm,hs,ht⟩;.omega
 .rw[cj];exact h.kept (row:=some g) ⟨rfl,rfl,rfl,by simp[World.setCell],λj _ hj=>Below.heap_setCell _ _ _ _ (by simp at hj;omega)⟩ (.inr (by simpa [Value.ownBlock] using bM))
theorem aj.lit(B:Nat)(w:World)(hB:B<=w.heap.size)(xs:List Int)(hm:xs.length<=maxLen)(cs:Array Value)(hc:cs.toList=xs.map (Value.int .i64))(n:Nat)(hn:n=xs.length):
 aj B (w.alloc (.cells cs 3)) (.slice (some ⟨w.heap.size,0,none⟩) n n) xs:=by
 subst hn;have hs:cs.size=xs.length*1:=by rw[<-Array.length_toList,hc];simp
 have:=World.ownsRow_lit (base:=B) (e:=3) (size:=1) w cs xs.length hB hm hs;unfold aj;rw[<-hc];exact this
theorem PJ{w:World}{ops:Array Oper}{rest:List Oper}{o:Oper}{a:Act}{Q:Exit->Act->World->Prop}(hg:o.guard=none)(l c:Operand)(LM:o.op=Op.makeSlice 22 l c)(C:Int)(hl:a.eval l=.int .i64 0)(hc:a.eval c=.int .i64 C)(h0:0<=C)(hC:C<=17592186044416)(hK:∀v w',aj w.heap.size w' v []->Below w.heap.size w w'->wpList Tryz.prog ops Q rest (a.put o.dst v) w'):
 wpList Tryz.prog ops Q (o::rest) a w:=by
 obtain⟨i,hi,qq,kS,oU⟩:=info_parts Fu;obtain⟨n,rfl⟩:=Int.eq_ofNat_of_zero_le h0;refine wpList_make_own w hg l c 22 LM w.heap.size 3 i (.int .i64 0) 1 ki hi qq kS .i64 .i64 n n hl hc rfl (by rw[oU];omega) (by unfold maxLen;omega) (Nat.le_refl _) ?_;intro w' aO mY;exact hK _ _ aO ((Below.refl _ _).grown mY (Nat.le_refl _) (by intro k hk;cases hk))
theorem me{w:World}{ops:Array Oper}{rest:List Oper}{o:Oper}{a:Act}{Q:Exit->Act->World->Prop}(hg:o.guard=none)(l c:Operand)(LM:o.op=Op.makeSlice 22 l c)(C:Int)(hl:a.eval l=.int .i64 C)(hc:a.eval c=.int .i64 C)(h0:0<=C)(hC:C<=17592186044416)(hK:∀v w',aj w.heap.size w' v (List.replicate C.toNat 0)->Below w.heap.size w w'->wpList Tryz.prog ops Q rest (a.put o.dst v) w'):
 wpList Tryz.prog ops Q (o::rest) a w:=by
 obtain⟨i,hi,qq,kS,oU⟩:=info_parts Fu;obtain⟨n,rfl⟩:=Int.eq_ofNat_of_zero_le h0;refine wpList_make_full w hg l c 22 LM w.heap.size 3 i (.int .i64 0) 1 ki hi qq kS .i64 .i64 n n n hl hc rfl rfl (by rw[oU];omega) (by unfold maxLen;omega) (Nat.le_refl _) ?_;intro w' aO mY;refine hK _ _ ?_ ((Below.refl _ _).grown mY (Nat.le_refl _) (by intro k hk;cases hk));have e:(madeCells (Value.cells (.int .i64 0)) (n*1)).toList=(List.replicate n (0:Int)).map (Value.int .i64):=by
  rw[show Value.cells (.int .i64 0)=#[.int .i64 0] from rfl,toList_madeCells_one];simp
 rw[e] at aO;simpa [aj] using aO
theorem gi{w:World}{ops:Array Oper}{rest:List Oper}{o:Oper}{a:Act}{Q:Exit->Act->World->Prop}(jZ:o.guard=none)(s x:Operand)(ho:o.op=.call { callee:=.builtin .append,args:=#[s,x],argTypes:=#[22,22] })(B:Nat)(v:Value)(xs:List Int)(y:Int)(aO:aj B w v xs)(hs:a.eval s=v)(hx:a.eval x=.slice (some ⟨w.heap.size,0,none⟩) 1 1)(hlen:xs.length<17592186044415)(hB:B<=w.heap.size)(h:∀v' w',aj B w' v' (xs++[y])->Below B w w'->w.grownBy w' v.ownBlock->(v'.ownBlock=v.ownBlock\/∃k,v'.ownBlock=some k/\w.heap.size<=k)->wpList Tryz.prog ops Q rest (a.put o.dst v') w'):
 wpList Tryz.prog ops Q (o::rest) a (w.alloc (.cells #[.int .i64 y] 3)):=by
 obtain⟨i,hi,qq,kS,oU⟩:=info_parts Fu;have M6:=aO.alloc (.cells #[.int .i64 y] 3);refine wpList_append_own_at _ jZ s x 22 ho B 3 i (.int .i64 0) 1 8 ki hi qq kS oU rfl (by decide) v xs.length _ hs M6 _ 1 1 [.int .i64 y] hx rfl (cell_one_new _ _ _) (by simp[Value.oneCell']) (by unfold maxLen;omega) (by omega) (by simp;omega) ?_;intro v' w' nD qJ _ AV;have yT:w.grownBy w' v.ownBlock:=(World.grownBy_alloc w _ _).trans qJ;refine h v' w' (by simpa [aj] using nD) ((Below.refl _ _).grown yT hB (λk hk=>(aO.lt k hk).1)) yT ?_;rcases AV with AV | AV;.exact .inl AV
 .exact .inr ⟨_,AV,by simp⟩
theorem BM{w:World}{ops:Array Oper}{rest:List Oper}{o:Oper}{a:Act}{Q:Exit->Act->World->Prop}(jZ:o.guard=none)(s x:Operand)(ho:o.op=.call { callee:=.builtin .append,args:=#[s,x],argTypes:=#[22,22] })(B:Nat)(v u:Value)(xs ys:List Int)(aO:aj B w v xs)(hu:ae w u ys)(hs:a.eval s=v)(hx:a.eval x=u)(hlen:xs.length+ys.length<=17592186044416)(hB:B<=w.heap.size)(h:∀v' w',aj B w' v' (xs++ys)->Below B w w'->w.grownBy w' v.ownBlock->(v'.ownBlock=v.ownBlock\/∃k,v'.ownBlock=some k/\w.heap.size<=k)->wpList Tryz.prog ops Q rest (a.put o.dst v') w'):
 wpList Tryz.prog ops Q (o::rest) a w:=by
 obtain⟨i,hi,qq,kS,oU⟩:=info_parts Fu;have NQ:=hu;obtain⟨ao,cap,rfl,h1,h2,h3,h4⟩:=hu;cases ao with
 | none =>
  obtain rfl:=h3 rfl;have hy:ys=[]:=List.length_eq_zero_iff.1 (by omega);subst hy;refine wpList_plain jZ λK hK=>?_;have qL:=run_append_owned_none (P:=Tryz.prog) w B 22 o.type 3 i 1 ki hi v xs.length _ aO;unfold Oper.wp execOp;simp only[ho,resolve,invoke,builtin,Sem.run_bind,Sem.run_pure,Result.andThen_ok,List.map_toArray,List.map_cons,List.map_nil,hs,hx];rw[show(Value.slice none ([]:List Int).length 0)=.slice none 0 0 from rfl,qL];exact hK _ _ (h v w (by simpa using aO) (Below.refl _ _) (World.grownBy.refl _ _) (.inl rfl))
 | some p =>
  refine wpList_append_own_at _ jZ s x 22 ho B 3 i (.int .i64 0) 1 8 ki hi qq kS oU rfl (by decide) v xs.length _ hs aO p ys.length cap (ys.map (.int .i64)) hx (by simp) ?_ (ints_oneCell _ _) (by unfold maxLen;omega) (by omega) hB ?_
  .intro j u hj;have dw:j<ys.length:=by have:=(List.getElem?_eq_some_iff.1 hj).1;simpa using this
   have:=h4 j dw;simp only[af] at this;rw[this,<-hj];simp[dw]
  .intro v' w' nD qJ _ AV;refine h v' w' (by simpa [aj] using nD) ((Below.refl _ _).grown qJ hB (λk hk=>(aO.lt k hk).1)) qJ ?_;rcases AV with AV | AV;.exact .inl AV
   .exact .inr ⟨_,AV,Nat.le_refl _⟩
theorem ae.shape{w:World}{v:Value}{xs:List Int}(h:ae w v xs):∃a n c,v=.slice a n c:=by
 obtain⟨a,cap,e,_⟩:=h;exact⟨_,_,_,e⟩
theorem aj.al{B:Nat}{w:World}{v:Value}{xs:List Int}(h:aj B w v xs){a:Addr}(ha:a.block<B)(u:Value):aj B (w.setCell a u) v xs:=ownsRow_setCell_below h ha u
theorem oD{w w':World}{a b c:Value}{T:TypeId}(hb:Below (w.alloc (.cells #[a,b,c] T)).heap.size (w.alloc (.cells #[a,b,c] T)) w'):
 w'.cell? ⟨w.heap.size,0,none⟩=some a/\w'.cell? ⟨w.heap.size,1,none⟩=some b/\w'.cell? ⟨w.heap.size,2,none⟩=some c /\
 w'.frozen? ⟨w.heap.size,0,none⟩=false/\w'.frozen? ⟨w.heap.size,1,none⟩=false/\w'.frozen? ⟨w.heap.size,2,none⟩=false:=by
 refine⟨?_,?_,?_,?_,?_,?_⟩;.rw[hb.cell (by simp)];simp
 .rw[hb.cell (by simp)];simp
 .rw[hb.cell (by simp)];simp
 .rw[hb.frozen (by simp)];simp
 .rw[hb.frozen (by simp)];simp
 .rw[hb.frozen (by simp)];simp
theorem rR{w:World}{a:Addr}{u:Value}(h:w.cell? a=some u):w.setCell a u=w:=by
 have hh:(w.setCell a u).heap=w.heap:=by
  simp only[World.setCell];apply Array.ext_getElem?;intro i;rw[Array.getElem?_modify];split;.rename_i e;subst e;unfold World.cell? at h;cases hx:w.heap[a.block]? with
   | none=>rfl
   | some o =>
    rw[hx] at h;cases o with
    | cells c el fz =>
     simp only at h;split at h;.cases h
     .rename_i hs;simp only[Option.map_some,hs];congr 2;apply Array.ext_getElem?;intro j;simp only[Bool.false_eq_true,if_false];rw[Array.getElem?_setIfInBounds];split;.rename_i e;subst e;obtain⟨hl,he⟩:=Array.getElem?_eq_some_iff.1 h;rw[if_pos hl,h]
      .rfl
    | _=>rfl
  .rfl
 have e:w.setCell a u={ w with heap:=(w.setCell a u).heap }:=rfl;rw[e,hh]
theorem fh{w:World}{b:Nat}{x y z:Value}(h0:w.cell? ⟨b,0,none⟩=some x)(h1:w.cell? ⟨b,1,none⟩=some y)(h2:w.cell? ⟨b,2,none⟩=some z):
 ((w.setCell ⟨b,0,none⟩ x).setCell ⟨b,1,none⟩ y).setCell ⟨b,2,none⟩ z=w:=by
 rw[rR h0,rR h1,rR h2]
theorem x8{w w':World}{n:Nat}{a b c:Value}(hb:Below w.heap.size w w')(h:w.cell? ⟨n,0,none⟩=some a/\w.cell? ⟨n,1,none⟩=some b/\w.cell? ⟨n,2,none⟩=some c):
 w'.cell? ⟨n,0,none⟩=some a/\w'.cell? ⟨n,1,none⟩=some b/\w'.cell? ⟨n,2,none⟩=some c:=by
 obtain⟨h0,h1,h2⟩:=h;have hn:=World.block_lt_of_cell? _ _ h0;exact⟨(hb.cell (p:=⟨n,0,none⟩) hn).trans h0,(hb.cell (p:=⟨n,1,none⟩) hn).trans h1,(hb.cell (p:=⟨n,2,none⟩) hn).trans h2⟩
theorem XA(k R:Int)(a:Option Addr)(n c:Nat)(w:World):(Instr.field 24 (.agg #[.int .i64 k,.int .i64 R,.slice a n c]) 2).run Tryz.prog w=.ok (.slice a n c) w:=by kernel_rfl
theorem Ew{x:Int}(h1:-9223372036854775808<=x)(h2:x<9223372036854775808):wrap64 x=x:=by unfold wrap64;omega
theorem db{x:Int}(h1:-9223372036854775808<=x)(h2:x<9223372036854775808):IntKind.i64.wrap x=x:=by simp[IntKind.wrap_i64];omega
def I64(x:Int):Prop:=-9223372036854775808<=x/\x<9223372036854775808
theorem nW{a b:Int}(h:a=b):Ending.returned (.int .i64 a)=.returned (.int .i64 b):=by rw[h]
theorem kr{a b:Bool}(h:a=b):Ending.returned (.bool a)=.returned (.bool b):=by rw[h]
abbrev ky:=Option (Int×List (ByteArray×Int))
def under(op:ByteArray)(at_:Int)(t:ky):ky:=t.map λx=>(x.1,(op,at_)::x.2)
def fresh(op:ByteArray)(at_:Int)(n:Int):ky:=some (n,[(op,at_)])
def kh:ByteArray:=⟨#[114,117,108,101]⟩
def pw(K i:Nat):Nat:=K ^ i
theorem Nl(K:Nat):pw K 0=1:=rfl
theorem dW(K i:Nat):pw K (i+1)=pw K i*K:=Nat.pow_succ ..
theorem aaH(K:Nat):pw K 1=K:=by simp[pw]
theorem eN{K:Nat}(i:Nat)(h:1<=K):1<=pw K i:=Nat.one_le_pow _ _ h
theorem nr{K i:Nat}(_h1:1<=K)(h4:K<=4)(hi:i<=7):pw K i<=16384 :=
 Nat.le_trans (Nat.pow_le_pow_left h4 i) (Nat.le_trans (Nat.pow_le_pow_right (by omega) hi) (by decide))
theorem ZG{K i j:Nat}(h1:1<K)(h:i<j):pw K i<pw K j:=Nat.pow_lt_pow_right h1 h
def idxOf(p:Int->Bool)(xs:List Int):Int:=match xs.findIdx? p with | some i=>i | none=>-1
theorem ob{p:Int->Bool}{xs:List Int}(h:∀x∈xs,p x=false):idxOf p xs=-1:=by
 have:xs.findIdx? p=none:=List.findIdx?_eq_none_iff.2 h;simp[idxOf,this]
theorem xR{p:Int->Bool}{xs:List Int}(k:Nat)(hk:k<xs.length)(hp:p xs[k]=true)(hj:∀j (h:j<xs.length),j<k->p xs[j]=false):idxOf p xs=k:=by
 have:xs.findIdx? p=some k:=by
  rw[List.findIdx?_eq_some_iff_getElem];exact⟨hk,hp,λj KF=>by simp[hj j (by omega) KF]⟩
 simp[idxOf,this]
theorem lH(p:Int->Bool)(xs:List Int):(idxOf p xs=-1/\∀x∈xs,p x=false)\/(∃k:Nat,idxOf p xs=k/\∃h:k<xs.length,p xs[k]=true/\∀j (h:j<xs.length),j<k->p xs[j]=false):=by
 cases h:xs.findIdx? p with
 | none=>exact .inl ⟨by simp[idxOf,h],List.findIdx?_eq_none_iff.1 h⟩
 | some k =>
  obtain⟨hk,hp,hj⟩:=List.findIdx?_eq_some_iff_getElem.1 h;exact .inr ⟨k,by simp[idxOf,h],hk,hp,λj hj' KF=>by simpa using hj j KF⟩
def lR(k:Int)(x:Int):Bool:=decide (x<0)||decide (k<=x)
theorem rG{k x:Int}:lR k x=false↔0<=x/\x<k:=by simp[lR]
def bj(k:Int)(xs:List Int):Prop:=∀x∈xs,0<=x/\x<k
theorem bj.odd{k:Int}{xs:List Int}(h:bj k xs):idxOf (lR k) xs=-1:=ob λx hx=>rG.2 (h x hx)
theorem FO(k:Int)(xs:List Int):bj k xs\/∃i:Nat,idxOf (lR k) xs=i/\i<xs.length:=by
 rcases lH (lR k) xs with ⟨_,h⟩ | ⟨i,h,hi,_⟩;.exact .inl λx hx=>rG.1 (h x hx)
 .exact .inr ⟨i,h,hi⟩
structure aG (K R:Nat) (xs:List Int):Prop where
 k1:1<=K
 k4:K<=4
 r3:R<=3
 len:xs.length=pw K (2*R+1)
 syms:bj K xs
theorem aG.gN{K R:Nat}{xs:List Int}(h:aG K R xs):xs.length<=16384:=by
 rw[h.len];exact nr h.k1 h.k4 (by have:=h.r3;omega)
def ep(k r:Int)(xs:List Int):ky :=
 if k<1\/4<k then fresh kh 0 1
 else if r<0\/3<r then fresh kh 1 1
 else if xs.length≠pw k.toNat (2*r.toNat+1) then fresh kh 2 1
 else if idxOf (lR k) xs=-1 then none
 else fresh kh (3+idxOf (lR k) xs) 1
theorem zC{k r:Int}{xs:List Int}(h:ep k r xs=none):∃K R:Nat,k=K/\r=R/\aG K R xs:=by
 unfold ep at h;by_cases h1:k<1\/4<k;.rw[if_pos h1] at h;cases h
 rw[if_neg h1] at h;by_cases h2:r<0\/3<r;.rw[if_pos h2] at h;cases h
 rw[if_neg h2] at h;by_cases h3:xs.length≠pw k.toNat (2*r.toNat+1);.rw[if_pos h3] at h;cases h
 rw[if_neg h3] at h;by_cases h4:idxOf (lR k) xs=-1
 .refine⟨k.toNat,r.toNat,by omega,by omega,by omega,by omega,by omega,by omega,?_⟩;rw[show((k.toNat:Nat):Int)=k by omega];rcases FO k xs with h5 | ⟨i,h5,_⟩;.exact h5
  .omega
 .rw[if_neg h4] at h;cases h
theorem aG.check{K R:Nat}{xs:List Int}(h:aG K R xs):ep K R xs=none:=by
 have:=h.k1;have:=h.k4;have:=h.r3;unfold ep;rw[if_neg (by omega),if_neg (by omega),if_neg (by simp[h.len]),if_pos h.syms.odd]
def cz(Φ:Value->World->Prop)(w:World)(e:Ending)(w':World):Prop:=∃x,e=.returned x/\Below w.heap.size w w'/\Φ x w'
def jf(Φ:Value->Value->World->Prop)(w:World)(e:Ending)(w':World):Prop:=∃x y,e=.returned (.tuple #[x,y])/\Below w.heap.size w w'/\Φ x y w'
def vf(Φ:Value->Value->Value->World->Prop)(w:World)(e:Ending)(w':World):Prop:=∃x y z,e=.returned (.tuple #[x,y,z])/\Below w.heap.size w w'/\Φ x y z w'
abbrev iZ(r:Nat->Addr)(n:Int):Value:=.iface 273 (.pointer (some (r n.toNat)))
structure ck (r:Nat->Addr) (w:World):Prop where
 c1:w.cell? ⟨2,0,none⟩=some (iZ r 1)
 c2:w.cell? ⟨3,0,none⟩=some (iZ r 2)
 c3:w.cell? ⟨4,0,none⟩=some (iZ r 3)
 c4:w.cell? ⟨0,0,none⟩=some (iZ r 4)
 c5:w.cell? ⟨5,0,none⟩=some (iZ r 5)
 c6:w.cell? ⟨6,0,none⟩=some (iZ r 6)
 c7:w.cell? ⟨7,0,none⟩=some (iZ r 7)
 c8:w.cell? ⟨8,0,none⟩=some (iZ r 8)
 c9:w.cell? ⟨1,0,none⟩=some (iZ r 9)
 c10:w.cell? ⟨9,0,none⟩=some (iZ r 10)
 c11:w.cell? ⟨10,0,none⟩=some (iZ r 11)
 c12:w.cell? ⟨11,0,none⟩=some (iZ r 99)
 str:∀n:Nat,(1<=n/\n<=11)\/n=99->∃s,w.cell? (r n)=some (.string s)
 apart:∀m n:Int,1<=m->m<=11->1<=n->n<=11->r m.toNat=r n.toNat->m=n
 flat:∀n:Nat,(1<=n/\n<=11)\/n=99->∃c t,w.heap[(r n).block]?=some (.cells c t (0,0))
theorem ck.below{r:Nat->Addr}{w w':World}(h:ck r w)(hb:Below w.heap.size w w'):ck r w':=by
 have k:∀{i v},w.cell? ⟨i,0,none⟩=some v->w'.cell? ⟨i,0,none⟩=some v:=fun {i v} hc=>by
  rw[hb.cell (World.block_lt_of_cell? _ _ hc)];exact hc
 exact⟨k h.c1,k h.c2,k h.c3,k h.c4,k h.c5,k h.c6,k h.c7,k h.c8,k h.c9,k h.c10,k h.c11,k h.c12,(λn hn=>by
  obtain⟨s,hs⟩:=h.str n hn;exact⟨s,by rw[hb.cell (World.block_lt_of_cell? _ _ hs)];exact hs⟩),h.apart,λn hn=>by
  obtain⟨s,hs⟩:=h.str n hn;obtain⟨c,t,e⟩:=h.flat n hn;exact⟨c,t,by rw[hb.block _ (World.block_lt_of_cell? _ _ hs)];exact e⟩⟩
def iw(r:Nat->Addr)(w:World)(n:Int):List (ByteArray×Int)->Value->Prop
 | [],v=>v=iZ r n
 | (op,at_)::rest,v=>∃p u,v=.iface 77 (.pointer (some ⟨p,0,none⟩))/\w.cell? ⟨p,0,none⟩=some (.string op)/\w.cell? ⟨p,1,none⟩=some (.int .i64 at_) /\
     w.cell? ⟨p,2,none⟩=some u/\iw r w n rest u
def bf(r:Nat->Addr)(w:World)(t:ky)(v:Value):Prop :=
 match t with
 | none=>v=.nilIface
 | some (n,l)=>iw r w n l v
theorem iw.below{r:Nat->Addr}{w w':World}{n:Int}(hb:Below w.heap.size w w'):∀{l:List (ByteArray×Int)} {v:Value},iw r w n l v->iw r w' n l v
 | [],_,h=>h
 | (op,at_)::rest,v,⟨p,u,e,c0,c1,c2,h⟩=>by
  have k:∀{i x},w.cell? ⟨p,i,none⟩=some x->w'.cell? ⟨p,i,none⟩=some x:=fun {i x} hc=>by
   rw[hb.cell (World.block_lt_of_cell? _ _ hc)];exact hc
  exact⟨p,u,e,k c0,k c1,k c2,iw.below hb h⟩
theorem bf.below{r:Nat->Addr}{w w':World}{t:ky}{v:Value}(h:bf r w t v)(hb:Below w.heap.size w w'):bf r w' t v:=by
 match t,h with
 | none,h=>exact h
 | some (n,l),h=>exact iw.below hb h
theorem iw.shape{r:Nat->Addr}{w:World}{n:Int}{l:List (ByteArray×Int)}{v:Value}(h:iw r w n l v):∃T a,v=.iface T (.pointer (some a)):=by
 match l,h with
 | [],h=>exact⟨_,_,h⟩
 | _::_,⟨p,u,e,_⟩=>exact⟨_,_,e⟩
theorem bf.dG{r:Nat->Addr}{w:World}{v:Value}(h:bf r w none v):v=.nilIface:=h
theorem bf.bX{r:Nat->Addr}{w:World}{t:Int×List (ByteArray×Int)}{v:Value}(h:bf r w (some t) v):∃T a,v=.iface T (.pointer (some a)):=iw.shape h
theorem SF(r:Nat->Addr)(n:Int)(w:World)(hg:ck r w)(h1:1<=n)(h2:n<=11):
 Calls Tryz.prog 117 #[.int .i64 n] w λe w'=>e=.returned (iZ r n)/\w=w':=by
 obtain⟨c1,c2,c3,c4,c5,c6,c7,c8,c9,c10,c11,_,_,_,_⟩:=hg;have hn:n=1\/n=2\/n=3\/n=4\/n=5\/n=6\/n=7\/n=8\/n=9\/n=10\/n=11:=by omega
 rcases hn with rfl | rfl | rfl | rfl | rfl | rfl | rfl | rfl | rfl | rfl | rfl <;>
 (clear h1 h2;go_enter Tryz.func117,Tryz.ntmps117;go_wp2;go_ret;exact⟨rfl,rfl⟩)
theorem uy(r:Nat->Addr)(op:ByteArray)(at_ n:Int)(w:World)(hg:ck r w)(h1:1<=n)(h2:n<=11):
 Calls Tryz.prog 71 #[.string op,.int .i64 at_,.int .i64 n] w (cz (λv w'=>bf r w' (fresh op at_ n) v) w):=by
 have hn:(n==0)=false:=by simp;omega
 go_enter Tryz.func71,Tryz.ntmps71;go_wp2_with fail;refine(SF r n w hg h1 h2).mono ?_;rintro e w' ⟨rfl,rfl⟩;go_wp2;go_ret;refine⟨_,rfl,(Below.refl _ _).alloc (Nat.le_refl _) _,w.heap.size,iZ r n,rfl,?_,?_,?_,rfl⟩<;>simp
theorem PR(op:ByteArray)(at_:Int)(w:World):
 Calls Tryz.prog 15 #[.string op,.int .i64 at_,.nilIface] w λe w'=>e=.returned .nilIface/\w=w':=by
 go_enter Tryz.func15,Tryz.ntmps15;go_wp2;go_ret;exact⟨rfl,rfl⟩
theorem om(r:Nat->Addr)(op:ByteArray)(at_:Int)(t:ky)(v:Value)(w:World)(h:bf r w t v):
 Calls Tryz.prog 15 #[.string op,.int .i64 at_,v] w (cz (λu w'=>bf r w' (under op at_ t) u) w):=by
 match t,h with
 | none,h =>
  obtain rfl:=h.dG;exact(PR op at_ w).mono fun e w' ⟨he,hw⟩=>by subst hw;exact⟨_,he,Below.refl _ _,rfl⟩
 | some t,h =>
  obtain⟨T,a,rfl⟩:=h.bX;have h':=Hd h;clear h;go_enter Tryz.func15,Tryz.ntmps15;go_wp2;go_ret;refine⟨_,rfl,(Below.refl _ _).alloc (Nat.le_refl _) _,w.heap.size,.iface T (.pointer (some a)),rfl,?_,?_,?_,iw.below ((Below.refl _ _).alloc (Nat.le_refl _) _) h'.out⟩<;>simp
theorem vr(v b:Value)(F:Nat)(xs:List Int)(p:Int->Bool)(w:World)(h:ae w v xs)(eg:∀args w,(callFunc F args).run Tryz.prog w=.ok (.enter F args) w)(hF:∀x:Int,x∈xs->Calls Tryz.prog F #[.int .i64 x,b] w λe w'=>e=.returned (.bool (p x))/\w=w'):
 Calls Tryz.prog 115 #[v,.func (.func F) #[] #[b]] w λe w'=>e=.returned (.int .i64 (idxOf p xs))/\w=w':=by
 have hlen:=h.len;have hm:=h.gN;go_enter Tryz.func115,Tryz.ntmps115;go_wp2;go_loop [8] (λi=>∃k:Nat,k<=xs.length/\i=.int .i64 k/\∀j (hj:j<xs.length),j<k->p xs[j]=false) (λi=>xs.length-(intOf i).toNat);case atStart=>exact⟨0,by omega,rfl,by omega⟩
 case round =>
  obtain⟨k,hk,rfl,hp⟩:=hrel;replace hp:=Hd hp;by_cases aT:k<xs.length
  .have hi:=h.idx k aT;have hc:=h.cell k aT;have hf:=Hd (hF xs[k] (by simp));clear hF;go_wp2_with fail;refine hf.out.mono ?_;rintro e w' ⟨rfl,rfl⟩;cases KD:p xs[k]
   .have HP:=Hd KD;go_wp2;go_round;case rel =>
     refine⟨k+1,by omega,by go_num,?_⟩;intro j hj KF;by_cases e:j=k;.subst e;exact HP.out
     .exact hp.out j hj (by omega)
    case measure=>simp[intOf];omega
   .have HP:=Hd KD;go_wp2;go_ret;exact⟨nW (xR k aT HP.out λj hj h=>hp.out j hj h).symm,rfl⟩
  .go_wp2;go_ret;refine⟨nW (ob λx hx=>?_).symm,rfl⟩;obtain⟨j,hj,rfl⟩:=List.mem_iff_getElem.1 hx;exact hp.out j hj (by omega)
theorem je(r:Nat->Addr)(at_ n:Int)(w:World)(hg:ck r w)(h1:1<=n)(h2:n<=11):
 Calls Tryz.prog 36 #[.int .i64 at_,.int .i64 n] w (cz (λv w'=>bf r w' (fresh kh at_ n) v) w):=by
 go_enter Tryz.func36,Tryz.ntmps36;go_wp2_with fail;refine(uy r _ at_ n w hg h1 h2).mono ?_;rintro e w' ⟨v,rfl,hb,he⟩;go_wp2;go_ret;exact⟨_,rfl,hb,he⟩
theorem Rg(x k:Int)(b:Addr)(w:World)(hb:w.cell? b=some (.int .i64 k)):
 Calls Tryz.prog 116 #[.int .i64 x,.pointer (some b)] w λe w'=>e=.returned (.bool (lR k x))/\w=w':=by
 by_cases h:x<0
 .have e:lR k x=true:=by simp[lR,h]
  rw[e];go_enter Tryz.func116,Tryz.ntmps116;go_wp2;go_ret;exact⟨rfl,rfl⟩
 .have e:lR k x=decide (k<=x):=by simp[lR,h]
  rw[e];go_enter Tryz.func116,Tryz.ntmps116;go_wp2;go_ret;exact⟨kr (by simp),rfl⟩
theorem FI(args:Array Value)(w:World):(callFunc 116 args).run Tryz.prog w=.ok (.enter 116 args) w:=by kernel_rfl
theorem Jr(k:Int)(v:Value)(xs:List Int)(w:World)(h:ae w v xs):
 Calls Tryz.prog 70 #[.int .i64 k,v] w (cz (λx _=>x=.int .i64 (idxOf (lR k) xs)) w):=by
 have h':=Hd h;clear h;go_enter Tryz.func70,Tryz.ntmps70;go_wp2_with fail;refine(vr v _ 116 xs (lR k) _ (h'.out.below ((Below.refl _ _).alloc (Nat.le_refl _) _)) FI (λx _=>Rg x k _ _ (by simp))).mono ?_;rintro e w' ⟨rfl,rfl⟩;go_wp2;go_ret;exact⟨_,rfl,(Below.refl _ _).alloc (Nat.le_refl _) _,rfl⟩
theorem yd(K R:Nat)(w:World)(h1:1<=K)(h4:K<=4)(h3:R<=3):
 Calls Tryz.prog 69 #[.int .i64 K,.int .i64 R] w λe w'=>e=.returned (.tuple #[.int .i64 (pw K (2*R+1)),.nilIface])/\w=w':=by
 go_enter Tryz.func69,Tryz.ntmps69;go_wp2;go_loop [6,25] (λn i=>∃k:Nat,k<=2*R/\i=.int .i64 k/\n=.int .i64 (pw K (k+1))) (λ_ i=>2*R-(intOf i).toNat);case atStart=>exact⟨0,by omega,rfl,by rw[aaH]⟩
 case round =>
  obtain⟨k,hk,rfl,rfl⟩:=hrel;by_cases aT:k<2*R
  .have hb:=nr (i:=k+1+1) h1 h4 (by omega);have hs:((pw K (k+1+1):Nat):Int)=(pw K (k+1):Int)*(K:Int):=by rw[dW];simp
   have kZ:0<=(pw K (k+1):Int)*(K:Int):=by rw[<-hs];omega
   have ij:(pw K (k+1):Int)*(K:Int)<=16384:=by rw[<-hs];omega
   replace hs:=Hd hs;go_wp2;go_round;case rel=>exact⟨k+1,by omega,by go_num,by rw[hs.out]⟩
   case measure=>simp[intOf];omega
  .obtain rfl:k=2*R:=by omega
   go_wp2;go_ret2;exact⟨rfl,rfl⟩
theorem Sy(r:Nat->Addr)(k R:Int)(w:World)(hg:ck r w)(h:k<1\/4<k\/R<0\/3<R):
 Calls Tryz.prog 69 #[.int .i64 k,.int .i64 R] w (jf (λx y w'=>x=.int .i64 0/\bf r w' (fresh kh 0 3) y) w):=by
 have sM:=Hd hg;clear hg;by_cases h1:k<1;.clear h;go_enter Tryz.func69,Tryz.ntmps69;go_wp2_with fail;refine(je r _ _ w sM.out (by decide) (by decide)).mono ?_;rintro e w' ⟨v,rfl,hb,he⟩;go_wp2;go_ret2;exact⟨_,_,rfl,hb,rfl,he⟩
 by_cases h2:4<k;.clear h;go_enter Tryz.func69,Tryz.ntmps69;go_wp2_with fail;refine(je r _ _ w sM.out (by decide) (by decide)).mono ?_;rintro e w' ⟨v,rfl,hb,he⟩;go_wp2;go_ret2;exact⟨_,_,rfl,hb,rfl,he⟩
 by_cases h3:R<0;.clear h;go_enter Tryz.func69,Tryz.ntmps69;go_wp2_with fail;refine(je r _ _ w sM.out (by decide) (by decide)).mono ?_;rintro e w' ⟨v,rfl,hb,he⟩;go_wp2;go_ret2;exact⟨_,_,rfl,hb,rfl,he⟩
 have h4:3<R:=by omega
 clear h;go_enter Tryz.func69,Tryz.ntmps69;go_wp2_with fail;refine(je r _ _ w sM.out (by decide) (by decide)).mono ?_;rintro e w' ⟨v,rfl,hb,he⟩;go_wp2;go_ret2;exact⟨_,_,rfl,hb,rfl,he⟩
def zk(b:Bool)(w:World)(e:Ending)(w':World):Prop:=∃n:Nat,e=.returned (.bool b)/\w'=w.drewN n
theorem zk.below{b:Bool}{w w':World}{e:Ending}(h:zk b w e w'):e=.returned (.bool b)/\Below w.heap.size w w':=by
 obtain⟨n,he,rfl⟩:=h;exact⟨he,below_drewN (Below.refl _ _) n⟩
theorem PA(v u:Value)(xs ys:List Int)(w:World)(h:ae w v xs)(k:ae w u ys)(bM:xs.length≠ys.length):
 Calls Tryz.prog 48 #[v,u] w (zk false w):=by
 have h1:=h.len;have h2:=k.len;have hd:((xs.length:Int) != (ys.length:Int))=true:=by simp;omega
 clear h k bM;go_enter Tryz.func48,Tryz.ntmps48;go_wp2;go_ret;exact⟨0,rfl,rfl⟩
theorem Rh(v u:Value)(xs ys:List Int)(w:World)(h:ae w v xs)(k:ae w u ys):
 Calls Tryz.prog 48 #[v,u] w (zk (decide (xs=ys)) w):=by
 by_cases hl:xs.length=ys.length;case neg =>
  rw[show decide (xs=ys)=false by simp;intro e;exact hl (by rw[e])];exact PA v u xs ys w h k hl
 have h1:=h.len;have h2:=k.len;have hm:=h.gN;have hd:((xs.length:Int) != (ys.length:Int))=false:=by simp;omega
 have yg:=Hd hl;have hlt':xs.length<=ys.length:=by omega
 clear hl;go_enter Tryz.func48,Tryz.ntmps48;go_wp2;go_loopw [13] (λi wr=>(∃j:Nat,j<=xs.length/\i=.int .i64 j/\∀t (h1:t<xs.length) (h2:t<ys.length),t<j->xs[t]=ys[t])/\∃n,wr=w.drewN n) (λi _=>xs.length-(intOf i).toNat);case atStart=>exact⟨⟨0,by omega,rfl,by intro t _ _ h;omega⟩,0,rfl⟩
 case round =>
  obtain⟨⟨j,hj,rfl,hp⟩,n,rfl⟩:=hrel;replace hp:=Hd hp;by_cases aT:j<xs.length
  .have i1:=h.idx j aT;have i2:=k.idx j (by omega);have c1:w.cell? (af v j)=some (.int .i64 xs[j]):=h.cell j aT;have c2:w.cell? (af u j)=some (.int .i64 ys[j]):=k.cell j (by omega);clear h k;by_cases he:xs[j]=ys[j]
   .have hq:(xs[j] != ys[j])=false:=by simp[he]
    have hE:=Hd he;clear he;generalize hx:xs[j]=x at c1 hq;generalize hy:ys[j]=y at c2 hq;clear hx hy;go_wp2;go_quiet (fail);go_wp2;go_roundw;case rel =>
     refine⟨⟨j+1,by omega,by go_num,?_⟩,_,rfl⟩;intro t h1 h2 ht;by_cases e:t=j;.subst e;exact hE.out
     .exact hp.out t h1 h2 (by omega)
    case measure=>simp[intOf];omega
   .have hq:(xs[j] != ys[j])=true:=by simp[he]
    have hE:=Hd he;clear he;generalize hx:xs[j]=x at c1 hq;generalize hy:ys[j]=y at c2 hq;clear hx hy;go_wp2;go_quiet (fail);go_wp2;go_ret;refine⟨_,kr ?_,World.drewN_drewN ..⟩;symm;rw[decide_eq_false_iff_not];intro e;exact hE.out (by subst e;rfl)
  .go_wp2;go_ret;refine⟨_,kr ?_,rfl⟩;symm;rw[decide_eq_true_iff];exact List.ext_getElem yg.out λt h1 h2=>hp.out t h1 h2 (by omega)
theorem ae.split{w:World}{v:Value}{xs:List Int}(h:ae w v xs):(v=.slice none 0 0/\xs=[])\/∃p cap,v=.slice (some p) xs.length cap:=by
 obtain⟨a,cap,rfl,h1,h2,h3,h4⟩:=h;cases a with
 | none =>
  obtain rfl:=h3 rfl;obtain rfl:=List.length_eq_zero_iff.1 (show xs.length=0 by omega);exact .inl ⟨rfl,rfl⟩
 | some p=>exact .inr ⟨p,cap,rfl⟩
theorem uI(v:Value)(xs:List Int)(w:World)(h:ae w v xs)(hl:xs.length<=17592186044416):
 Calls Tryz.prog 124 #[v] w (cz (λx w'=>aj w.heap.size w' x xs) w):=by
 rcases h.split with ⟨rfl,rfl⟩ | ⟨p,cap,rfl⟩;.have hn:=λw'=>Lib.run_eql_slice_nil (P:=Tryz.prog) w' _ _ none 0 0 0 0 ki;clear h;go_enter Tryz.func124,Tryz.ntmps124;go_wp2;go_ret;exact⟨_,rfl,Below.refl _ _,aj.nil _ _⟩
 .have hn:=λw'=>Lib.run_eql_slice_nil (P:=Tryz.prog) w' _ _ (some p) xs.length cap 0 0 ki;have h':=Hd h;clear h;go_enter Tryz.func124,Tryz.ntmps124;go_wp2_with (at_builtin;refine BM rfl _ _ rfl w.heap.size _ _ [] xs (aj.lit _ _ (Nat.le_refl _) [] (by decide) #[] rfl 0 rfl) (h'.out.below ((Below.refl _ _).alloc (Nat.le_refl _) _)) rfl rfl (by simpa using hl) (by simp) ?_);intro v' w' ho hb _ _;go_wp2;go_ret;exact⟨_,rfl,((Below.refl _ _).alloc (Nat.le_refl _) _).trans hb,by simpa using ho⟩
def aY(w:World)(v:Value)(vs:List Value):Prop :=
 ∃a cap,v=.slice a vs.length cap/\vs.length<=cap/\cap<=maxLen/\(a=none->cap=0)/\∀i (h:i<vs.length),w.cell? (af v i)=some vs[i]
theorem ae.br{w:World}{v:Value}{xs:List Int}(h:ae w v xs):aY w v (xs.map (Value.int .i64)):=by
 obtain⟨a,cap,e,h1,h2,h3,h4⟩:=h;exact⟨a,cap,by simpa using e,by simpa using h1,h2,h3,λi hi=>by rw[h4 i (by simpa using hi)];simp⟩
theorem aY.cell{w:World}{v:Value}{vs:List Value}(h:aY w v vs)(i:Nat)(hi:i<vs.length):w.cell? (af v i)=some vs[i]:=by
 obtain⟨a,cap,e,h1,h2,h3,h4⟩:=h;exact h4 i hi
theorem aY.gN{w:World}{v:Value}{vs:List Value}(h:aY w v vs):vs.length<=9223372036854775807:=by
 obtain⟨a,cap,rfl,h1,h2,_⟩:=h;unfold maxLen at h2;omega
theorem aY.vq{w:World}{v:Value}{vs:List Value}(h:aY w v vs)(i:Nat)(hi:i<vs.length):(af v i).block<w.heap.size :=
 World.block_lt_of_cell? _ _ (h.cell i hi)
theorem aY.below{w w':World}{v:Value}{vs:List Value}(h:aY w v vs)(hb:Below w.heap.size w w'):aY w' v vs:=by
 have hk:=h.vq;obtain⟨a,cap,e,h1,h2,h3,h4⟩:=h;exact⟨a,cap,e,h1,h2,h3,λi hi=>by rw[hb.cell (hk i hi)];exact h4 i hi⟩
structure OneCell (T E:TypeId) (z:Value) (bytes:Nat):Prop where
 ht:Tryz.prog.underlying T=some (.slice E)
 hi:(Tryz.prog.info? E).map (λi=>(i.zero,i.size,i.bytes))=some (some z,1,bytes)
 hz:z.cells=#[z]
 hb:bytes<=32
 hs:∀w,(sizeOf E).run Tryz.prog w=.ok 1 w
theorem uP:OneCell 22 3 (.int .i64 0) 8:=⟨ki,Fu,rfl,by decide,LF⟩
theorem aY.len{T E:TypeId}{z:Value}{b:Nat}(o:OneCell T E z b){w:World}{v:Value}{vs:List Value}(h:aY w v vs)(ty:TypeId)(w':World):
 (Builtin.len_ #[T] ty #[v]).run Tryz.prog w'=.ok (.int .i64 vs.length) w':=by
 obtain⟨a,cap,rfl,h1,h2,h3,h4⟩:=h;have e:Tryz.prog.elem T=E:=by simp[Program.elem,o.ht]
 rw[run_len_slice _ _ _ _ _ _ (by rw[e];exact o.ht)];rfl
theorem aY.idx{T E:TypeId}{z:Value}{b:Nat}(o:OneCell T E z b){w:World}{v:Value}{vs:List Value}(h:aY w v vs)(i:Nat)(hi:i<vs.length)(w':World):
 (Instr.indexAt T v (.int .i64 i)).run Tryz.prog w'=.ok (.pointer (some (af v i))) w':=by
 obtain⟨a,cap,rfl,h1,h2,h3,h4⟩:=h;have e:Tryz.prog.elem T=E:=by simp[Program.elem,o.ht]
 cases a with
 | none=>have:=h3 rfl;omega
 | some p =>
  rw[run_indexAt_slice _ _ _ _ _ _ _ (by rw[e];exact o.ht),if_pos (by omega),e,o.hs];simp[af]
def aZ(E:TypeId)(B:Nat)(w:World)(v:Value)(vs:List Value):Prop:=w.ownsRow B E 1 v vs.length vs
theorem aj.yB{B:Nat}{w:World}{v:Value}{xs:List Int}(h:aj B w v xs):aZ 3 B w v (xs.map (Value.int .i64)):=by
 unfold aZ;simpa [aj] using h
theorem aZ.YW{B:Nat}{w:World}{v:Value}{xs:List Int}(h:aZ 3 B w v (xs.map (Value.int .i64))):aj B w v xs:=by
 unfold aZ at h;simpa [aj] using h
theorem aZ.nil(E:TypeId)(B:Nat)(w:World):aZ E B w (.slice none 0 0) []:=World.ownsRow_nil w B _ 1
theorem aZ.at{E:TypeId}{B:Nat}{w:World}{v:Value}{vs:List Value}(h:aZ E B w v vs):aY w v vs:=by
 rcases h.2 with ⟨rfl,hn⟩ | ⟨g,cap,cur,rfl,hb,hg,hn,hm,hs,ht⟩;.obtain rfl:=List.length_eq_zero_iff.1 hn;exact⟨none,0,rfl,by simp,by simp,λ_=>rfl,by simp⟩
 .refine⟨some ⟨g,0,none⟩,cap,rfl,hn,hm,(by intro e;cases e),λi hi=>?_⟩;exact World.ownsRow.cells h (g:=g) rfl i _ (by simp[hi])
theorem aZ.mono{E:TypeId}{B B':Nat}{w:World}{v:Value}{vs:List Value}(h:aZ E B w v vs)(hB:B'<=B):aZ E B' w v vs:=by
 refine⟨h.1,?_⟩;rcases h.2 with h2 | ⟨g,cap,cur,e,hb,r⟩;.exact .inl h2
 .exact .inr ⟨g,cap,cur,e,Nat.le_trans hB hb,r⟩
theorem aZ.lt{E:TypeId}{B:Nat}{w:World}{v:Value}{vs:List Value}(h:aZ E B w v vs):∀k,v.ownBlock=some k->B<=k/\k<w.heap.size:=World.ownsRow.lt h
theorem aZ.mQ{E:TypeId}{B:Nat}{w:World}{v:Value}{vs:List Value}(h:aZ E B w v vs)(i:Nat)(hi:i<vs.length):w.frozen? (af v i)=false:=by
 rcases h.2 with ⟨rfl,hn⟩ | ⟨g,cap,cur,rfl,hb,hg,hn,hm,hs,ht⟩;.omega
 .rw[cj];exact frozen_of_row w g i cur _ hg
theorem aZ.jP{E:TypeId}{B:Nat}{w:World}{v:Value}{vs:List Value}(h:aZ E B w v vs)(i:Nat)(hi:i<vs.length):v.ownBlock=some (af v i).block/\B<=(af v i).block:=by
 rcases h.2 with ⟨rfl,hn⟩ | ⟨g,cap,cur,rfl,hb,hg,hn,hm,hs,ht⟩;.omega
 .rw[cj];exact⟨rfl,hb⟩
theorem aZ.set{E:TypeId}{B:Nat}{w:World}{v:Value}{vs:List Value}(h:aZ E B w v vs)(i:Nat)(hi:i<vs.length)(y:Value):
 aZ E B (w.setCell (af v i) y) v (vs.set i y):=by
 rcases h.2 with ⟨rfl,hn⟩ | ⟨g,cap,cur,rfl,hb,hg,hn,hm,hs,ht⟩;.omega
 .rw[cj];have:=(World.ownsRow.stored h i y).1;unfold aZ;rw[List.length_set];exact this
theorem aZ.oE{E:TypeId}{B:Nat}{w:World}{v:Value}{vs:List Value}(h:aZ E B w v vs)(i:Nat)(hi:i<vs.length)(y:Value):
 w.grownBy (w.setCell (af v i) y) v.ownBlock:=by
 have hb:=(h.jP i hi).1;exact⟨rfl,rfl,rfl,by simp[World.setCell],λk _ hk=>Below.heap_setCell _ _ _ _ (by rw[hb] at hk;simp at hk;omega)⟩
theorem aZ.below{E:TypeId}{B:Nat}{w w':World}{v:Value}{vs:List Value}(h:aZ E B w v vs)(hb:Below w.heap.size w w'):aZ E B w' v vs:=by
 refine⟨h.1,?_⟩;rcases h.2 with h2 | ⟨g,cap,cur,e,hB,hg,r⟩;.exact .inl h2
 .refine .inr ⟨g,cap,cur,e,hB,?_,r⟩;rw[hb.block g (Array.getElem?_eq_some_iff.1 hg).1];exact hg
theorem aZ.kept{E:TypeId}{B:Nat}{w w':World}{row:Option Nat}{v:Value}{vs:List Value}(h:aZ E B w v vs)(hg:w.grownBy w' row)(bM:v.ownBlock=none\/v.ownBlock≠row):aZ E B w' v vs:=World.ownsRow.kept h hg bM
theorem aZ.alloc{E:TypeId}{B:Nat}{w:World}{v:Value}{vs:List Value}(h:aZ E B w v vs)(o:Obj):aZ E B (w.alloc o) v vs:=World.ownsRow.alloc h o
theorem aZ.shape{E:TypeId}{B:Nat}{w:World}{v:Value}{vs:List Value}(h:aZ E B w v vs):∃a n c,v=.slice a n c:=by
 obtain⟨a,cap,e,_⟩:=h.at;exact⟨_,_,_,e⟩
def dJ(v:Value):Option Addr×Nat:=match v with | .slice a _ c=>(a,c) | _=>(none,0)
theorem aZ.front{E:TypeId}{B:Nat}{w w':World}{v v':Value}{xs ys:List Value}(h:aZ E B w v xs)(h':aZ E B w' v' (xs++ys))(hb:dJ v'=dJ v):aZ E B w' v xs:=by
 rcases h.2 with ⟨rfl,hn⟩ | ⟨g,cap,cur,rfl,hB,hg,hn,hm,hs,ht⟩;.obtain rfl:=List.length_eq_zero_iff.1 hn;exact aZ.nil E B w'
 .rcases h'.2 with ⟨rfl,_⟩ | ⟨g',Rj,cur',rfl,A6,sM,hn',hm',hs',yi⟩;.simp[dJ] at hb
  .simp[dJ] at hb;obtain⟨rfl,rfl⟩:=hb;refine⟨by simp,.inr ⟨g',Rj,cur',rfl,A6,sM,hn,hm',hs',?_⟩⟩;have:=congrArg (List.take xs.length) yi;rw[List.take_take,List.take_left'] at this;.rw[Nat.mul_one] at this ⊢;rwa [Nat.min_eq_left (by simp)] at this
   .rfl
theorem cM{v v':Value}{a n c a' n' c'}(hv:v=.slice a n c)(hv':v'=.slice a' n' c')(h:dJ v'=dJ v):v'.ownBlock=v.ownBlock:=by
 subst hv hv';simp[dJ] at h;obtain⟨rfl,rfl⟩:=h;cases a'<;>rfl
theorem xQ{T E:TypeId}{z:Value}{b:Nat}(o:OneCell T E z b)(w:World)(B:Nat)(ty:TypeId)(v:Value)(xs:List Value)(aO:aZ E B w v xs)(a:Addr)(c:Nat)(ys:List Value)(h0:0<ys.length)(Pv:∀j u,ys[j]?=some u->w.cell? (a.add j)=some u)(h1:∀u∈ys,u.oneCell'=true)(hlen:xs.length+ys.length<=4398046511104)(hB:B<=w.heap.size):
 ∃v' w',(Builtin.append_ #[T,T] ty #[v,.slice (some a) ys.length c]).run Tryz.prog w=.ok v' w'/\aZ E B w' v' (xs++ys) /\
  ((dJ v'=dJ v/\w.grownBy w' v.ownBlock)\/(v'.ownBlock=some w.heap.size/\w.grownBy w' none)):=by
 obtain⟨i,hi,qq,kS,oU⟩:=info_parts o.hi;have hb:=o.hb;have hl1:(xs++ys).length=(xs.length+ys.length)*1:=by simp
 have nO:∀(lW:Nat),lW<xs.length+ys.length ->
  aZ E B (w.drew.alloc (.cells (xs.toArray++ys.toArray++Builtin.zeroCells z.cells (grownCap w (xs.length+ys.length) lW E-(xs.length+ys.length))) E)) (.slice (some ⟨w.heap.size,0,none⟩) (xs.length+ys.length) (grownCap w (xs.length+ys.length) lW E)) (xs++ys):=by
  intro lW ho;have Dw:=grownCap_ge w (xs.length+ys.length) lW E;have C1:grownCap w (xs.length+ys.length) lW E<=maxLen:=grownCap_le_maxLen w _ lW E (by unfold maxLen;omega);refine⟨by simp,.inr ⟨w.heap.size,_,_,by simp,hB,heap_alloc_new w.drew _,by simpa using Dw,C1,?_,?_⟩⟩;.simp only[Array.size_append,List.size_toArray,size_zeroCells,o.hz];simp;omega
  .simp only[Array.toList_append,Nat.mul_one,List.length_append];exact List.take_left' (by simp)
 have Z6:∀(oo:Obj),w.grownBy (w.drew.alloc oo) none:=λoo=>⟨rfl,rfl,rfl,by simp,λk hk _=>Below.heap_alloc w.drew oo k hk⟩;rcases aO.2 with ⟨rfl,hn⟩ | ⟨g,cap,cur,rfl,NP,hg,WV,C1,uV,HH⟩
 .obtain rfl:=List.length_eq_zero_iff.1 hn;have hr:=run_append_nil (P:=Tryz.prog) w T ty E i z o.ht hi qq a ys.length c ys (by rw[kS];simp) Pv h0 (by simp at hlen;omega) (by
   rw[oU];simp only[List.length_nil,Nat.zero_add] at hlen;calc ys.length*b<=4398046511104*32:=Nat.mul_le_mul hlen hb
    _<=_:=by decide);have NP:=nO 0 (by simpa using h0);simp only[List.length_nil,Nat.zero_add,List.nil_append,Array.empty_append] at NP;exact⟨_,_,hr,by simpa using NP,.inr ⟨rfl,Z6 _⟩⟩
 .by_cases ni:xs.length+ys.length<=cap
  .have hr:=run_append_room (P:=Tryz.prog) w T ty E i o.ht hi g xs.length cap cur hg a ys.length c ys (by rw[kS];simp) Pv h1 ni (by rw[kS,uV];omega);refine⟨_,_,hr,⟨by simp,.inr ⟨g,cap,_,by simp,NP,setRow_heap w g cur _ E _ hg,by simpa using ni,C1,?_,?_⟩⟩,.inl ⟨rfl,⟨rfl,rfl,rfl,by simp,λk _ hk=>setRow_other w g k _ (λe=>hk (by simp[Value.ownBlock,e]))⟩⟩⟩;.simp only[List.size_toArray,List.length_append,List.length_take,List.length_drop,Array.length_toList,kS];omega
   .rw[kS,HH];simp only[Nat.mul_one,List.length_append];exact List.take_left' (by simp)
  .have holds:∀j u,xs[j]?=some u->w.cell? ((⟨g,0,none⟩:Addr).add j)=some u:=World.ownsRow.cells aO (g:=g) rfl;have hr:=run_append_grow (P:=Tryz.prog) w T ty E i z o.ht hi qq ⟨g,0,none⟩ xs.length cap xs (by rw[kS];simp) holds a ys.length c ys (by rw[kS];simp) Pv (by omega) (by omega) (by
    rw[oU];exact growslice_fits (by omega) (by
     calc (xs.length+ys.length)*b<=4398046511104*32:=Nat.mul_le_mul hlen hb
      _<=_:=by decide));exact⟨_,_,hr,nO cap (by omega),.inr ⟨rfl,Z6 _⟩⟩
theorem dD{w:World}{ops:Array Oper}{rest:List Oper}{o:Oper}{a:Act}{Q:Exit->Act->World->Prop}(jZ:o.guard=none)(s x:Operand)(ho:o.op=.call { callee:=.builtin .append,args:=#[s,x],argTypes:=#[22,22] })(B:Nat)(v:Value)(xs:List Int)(y:Int)(aO:aj B w v xs)(hs:a.eval s=v)(hx:a.eval x=.slice (some ⟨w.heap.size,0,none⟩) 1 1)(hlen:xs.length<4398046511104)(hB:B<=w.heap.size)(h:∀v' w',aj B w' v' (xs++[y])->Below B w w'->((dJ v'=dJ v/\w.grownBy w' v.ownBlock)\/(∃k,v'.ownBlock=some k/\w.heap.size<=k/\w.grownBy w' none))->wpList Tryz.prog ops Q rest (a.put o.dst v') w'):
 wpList Tryz.prog ops Q (o::rest) a (w.alloc (.cells #[.int .i64 y] 3)):=by
 refine wpList_plain jZ λK hK=>?_;obtain⟨v',w',hr,h2,h3⟩:=xQ uP (w.alloc (.cells #[.int .i64 y] 3)) B o.type v _ (aO.alloc _).yB ⟨w.heap.size,0,none⟩ 1 [.int .i64 y] (by simp) (cell_one_new _ _ _) (by simp[Value.oneCell']) (by simp;omega) (by simp;omega);unfold Oper.wp execOp;simp only[ho,resolve,invoke,builtin,Sem.run_bind,Sem.run_pure,Result.andThen_ok,List.map_toArray,List.map_cons,List.map_nil,hs,hx];rw[show([.int .i64 y]:List Value).length=1 from rfl] at hr;rw[hr];have hJ:∀row,w.grownBy (w.alloc (.cells #[.int .i64 y] 3)) row:=λrow=>World.grownBy_alloc w _ row;have nD:aj B w' v' (xs++[y]):=aZ.YW (by simpa using h2);rcases h3 with ⟨ni,hg⟩ | ⟨hk,hg⟩;.have yT:=(hJ v.ownBlock).trans hg;exact hK _ _ (h v' w' nD ((Below.refl _ _).grown yT hB (λk hk=>(aO.lt k hk).1)) (.inl ⟨ni,yT⟩))
 .have yT:=(hJ none).trans hg;exact hK _ _ (h v' w' nD ((Below.refl _ _).grown yT hB (by intro k hk;cases hk)) (.inr ⟨_,hk,by simp,yT⟩))
theorem dL:OneCell 86 22 (.slice none 0 0) 24:=⟨by kernel_rfl,by kernel_rfl,rfl,by decide,λ_=>by kernel_rfl⟩
theorem uK{T E:TypeId}{z:Value}{b:Nat}(oc:OneCell T E z b){w:World}{ops:Array Oper}{rest:List Oper}{o:Oper}{a:Act}{Q:Exit->Act->World->Prop}(hg:o.guard=none)(l c:Operand)(LM:o.op=Op.makeSlice T l c)(C:Int)(hl:a.eval l=.int .i64 C)(hc:a.eval c=.int .i64 C)(h0:0<=C)(hC:C<=4398046511104)(hK:∀v w',aZ E w.heap.size w' v (List.replicate C.toNat z)->w.grownBy w' none->wpList Tryz.prog ops Q rest (a.put o.dst v) w'):
 wpList Tryz.prog ops Q (o::rest) a w:=by
 obtain⟨i,hi,qq,kS,oU⟩:=info_parts oc.hi;obtain⟨n,rfl⟩:=Int.eq_ofNat_of_zero_le h0;have hb:=oc.hb;refine wpList_make_full w hg l c T LM w.heap.size E i z 1 oc.ht hi qq kS .i64 .i64 n n n hl hc rfl rfl (by
  rw[oU];calc b*n<=32*4398046511104:=Nat.mul_le_mul hb (by omega)
   _<=_:=by decide) (by unfold maxLen;omega) (Nat.le_refl _) ?_;intro w' aO mY;refine hK _ _ ?_ mY;rw[oc.hz,toList_madeCells_one] at aO;simpa [aZ] using aO
theorem VC(v u:Value)(xs ys:List Int)(w:World)(h:ae w v xs)(k:ae w u ys)(bM:xs.length≠ys.length):
 Calls Tryz.prog 31 #[v,u] w (zk false w):=by
 have h1:=h.len;have h2:=k.len;have hd:((xs.length:Int) != (ys.length:Int))=true:=by simp;omega
 clear h k bM;go_enter Tryz.func31,Tryz.ntmps31;go_wp2;go_ret;exact⟨0,rfl,rfl⟩
theorem xw(v u:Value)(xs ys:List Int)(w:World)(h:ae w v xs)(k:ae w u ys):
 Calls Tryz.prog 31 #[v,u] w (zk (decide (xs=ys)) w):=by
 by_cases hl:xs.length=ys.length;case neg =>
  rw[show decide (xs=ys)=false by simp;intro e;exact hl (by rw[e])];exact VC v u xs ys w h k hl
 have h1:=h.len;have h2:=k.len;have hm:=h.gN;have hd:((xs.length:Int) != (ys.length:Int))=false:=by simp;omega
 have yg:=Hd hl;have hlt':xs.length<=ys.length:=by omega
 clear hl;go_enter Tryz.func31,Tryz.ntmps31;go_wp2;go_loopw [5] (λi wr=>(∃j:Nat,j<=xs.length/\i=.int .i64 j/\∀t (h1:t<xs.length) (h2:t<ys.length),t<j->xs[t]=ys[t])/\∃n,wr=w.drewN n) (λi _=>xs.length-(intOf i).toNat);case atStart=>exact⟨⟨0,by omega,rfl,by intro t _ _ h;omega⟩,0,rfl⟩
 case round =>
  obtain⟨⟨j,hj,rfl,hp⟩,n,rfl⟩:=hrel;replace hp:=Hd hp;by_cases aT:j<xs.length
  .have i1:=h.idx j aT;have i2:=k.idx j (by omega);have c1:w.cell? (af v j)=some (.int .i64 xs[j]):=h.cell j aT;have c2:w.cell? (af u j)=some (.int .i64 ys[j]):=k.cell j (by omega);clear h k;by_cases he:xs[j]=ys[j]
   .have hq:(xs[j] != ys[j])=false:=by simp[he]
    have hE:=Hd he;clear he;generalize hx:xs[j]=x at c1 hq;generalize hy:ys[j]=y at c2 hq;clear hx hy;go_wp2;go_quiet (fail);go_wp2;go_roundw;case rel =>
     refine⟨⟨j+1,by omega,by go_num,?_⟩,_,rfl⟩;intro t h1 h2 ht;by_cases e:t=j;.subst e;exact hE.out
     .exact hp.out t h1 h2 (by omega)
    case measure=>simp[intOf];omega
   .have hq:(xs[j] != ys[j])=true:=by simp[he]
    have hE:=Hd he;clear he;generalize hx:xs[j]=x at c1 hq;generalize hy:ys[j]=y at c2 hq;clear hx hy;go_wp2;go_quiet (fail);go_wp2;go_ret;refine⟨_,kr ?_,World.drewN_drewN ..⟩;symm;rw[decide_eq_false_iff_not];intro e;exact hE.out (by subst e;rfl)
  .go_wp2;go_ret;refine⟨_,kr ?_,rfl⟩;symm;rw[decide_eq_true_iff];exact List.ext_getElem yg.out λt h1 h2=>hp.out t h1 h2 (by omega)
def mkA(t:Nat):Int:=-2*(t:Int)-1
def mkB(t:Nat):Int:=-2*(t:Int)-2
def oZ(vs:List Value)(t:Nat):Value:=vs.getD t undef
theorem aY.lp{w:World}{v:Value}{vs:List Value}(h:aY w v vs)(i:Nat)(hi:i<vs.length):w.cell? (af v i)=some (oZ vs i):=by
 rw[h.cell i hi];simp[oZ,List.getD,hi]
structure Parted (lv:Value) (vs:List Value):Prop where
 two:∀s t,s<vs.length->t<vs.length->s≠t->(oZ vs s).ownBlock=none\/(oZ vs s).ownBlock≠(oZ vs t).ownBlock
 top:∀i t,i<vs.length->t<vs.length->(oZ vs t).ownBlock≠some (af lv i).block
def rA(X:Nat->List Int)(t:Nat):List Int:=List.replicate (X t).length (mkA t)
def rB(X:Nat->List Int)(t:Nat)(j:Nat):List Int:=rA X t++List.replicate j (mkB t)
theorem aj.front{B:Nat}{w w':World}{v v':Value}{xs ys:List Int}(h:aj B w v xs)(h':aj B w' v' (xs++ys))(hb:dJ v'=dJ v):aj B w' v xs :=
 aZ.YW (aZ.front h.yB (by simpa using h'.yB) hb)
theorem IZ{B B':Nat}{w w':World}{v v':Value}{xs ys:List Int}(h:aj B w v xs)(h':aj B' w' v' ys)(hr:dJ v'=dJ v):v'.ownBlock=v.ownBlock:=by
 obtain⟨a,n,c,e⟩:=h.at.shape;obtain⟨a',n',c',e'⟩:=h'.at.shape;exact cM e e' hr
structure Grows (B:Nat) (X:Nat->List Int) (k:Nat) (v:Value) (wi:World) (q:Nat) (g:Value) (wr:World):Prop where
 own:aj B wr g (rB X k q)
 lW:aj B wr v (rA X k)
 step:wi.grownBy wr v.ownBlock
 lt:∀b,v.ownBlock=some b->b<wi.heap.size
 at_:(dJ g=dJ v)\/∃b,g.ownBlock=some b/\wi.heap.size<=b
structure Grown (B:Nat) (X:Nat->List Int) (vs:List Value) (gv:Value) (k:Nat) (gl:List Value) (wr:World):Prop where
 own:∀t,t<k->aj B wr (oZ gl t) (rB X t 40)
 vy:∀t s,t<k->s<vs.length->s≠t->(oZ vs s).ownBlock=none\/(oZ gl t).ownBlock≠(oZ vs s).ownBlock
 top:∀t,t<k->(oZ gl t).ownBlock≠gv.ownBlock
theorem Below.step{w1 w2 w3:World}(h:Below w1.heap.size w1 w2)(k:Below w2.heap.size w2 w3):Below w1.heap.size w1 w3:=h.trans (k.mono h.size)
theorem ab(w:World)(o:Obj):Below w.heap.size w (w.alloc o):=(Below.refl _ _).alloc (Nat.le_refl _) _
theorem xk:(Tryz.prog.info? 3).map (·.size)=some 1:=by kernel_rfl
theorem zN{α:Type}(C ys:List α)(off n:Nat)(h:off+ys.length<=n)(hn:n<=C.length):
 (C.take off++ys++C.drop (off+ys.length)).take n=(C.take n).take off++ys++(C.take n).drop (off+ys.length):=by
 have hl:(C.take off++ys).length=off+ys.length:=by simp;omega
 rw[List.take_append,List.take_of_length_le (by omega),hl,List.drop_take,List.take_take,Nat.min_eq_left (by omega)]
theorem P8{w:World}{B:Nat}{v u d:Value}{xs ys:List Int}(off:Nat)(ty:TypeId)(dp:Option Addr)(wJ O8:Nat)(aO:aj B w v xs)(hu:ae w u ys)(hd:d=.slice dp wJ O8)(oQ:ys.length<=wJ)(wE:off+ys.length<=xs.length)(hdp:0<ys.length->dp=some (af v off)):
 ∃w',(Builtin.copy_ #[22,22] ty #[d,u]).run Tryz.prog w=.ok (.int .i64 ys.length) w'/\aj B w' v (xs.take off++ys++xs.drop (off+ys.length))/\Below B w w'/\w.grownBy w' v.ownBlock:=by
 subst hd;obtain⟨sp,Wl,rfl,h1,h2,h3,h4⟩:=hu;by_cases h0:ys.length=0;.obtain rfl:ys=[]:=List.eq_nil_of_length_eq_zero h0;have hr:=run_copy_none (P:=Tryz.prog) w 22 22 ty 3 dp sp wJ O8 0 Wl ki xk (by simp);exact⟨w,hr,by simpa using aO,Below.refl _ _,World.grownBy.refl _ _⟩
 .obtain rfl:=hdp (by omega);cases sp with
  | none=>have:=h3 rfl;omega
  | some p =>
   rcases aO.2 with ⟨rfl,hn⟩ | ⟨g,cap,cur,rfl,hb,hg,hn,hm,uV,ht⟩;.omega
   .rw[cj];have hsrc:∀j u,(ys.map (Value.int .i64))[j]?=some u->w.cell? (p.add j)=some u:=by
     intro j u hj;have dw:j<ys.length:=by have:=(List.getElem?_eq_some_iff.1 hj).1;simpa using this
     have:=h4 j dw;simp only[af] at this;rw[this,<-hj];simp[dw]
    have ur:cur.toList.length=cap:=by rw[Array.length_toList,uV];omega
    have hr:=run_copy_row (P:=Tryz.prog) w 22 22 ty 3 g off wJ O8 p ys.length Wl cur 3 (ys.map (.int .i64)) ki xk hg (by simp;exact(Nat.min_eq_left oQ).symm) hsrc (by rw[uV];simp;omega) (ints_oneCell _ _);rw[show goInt (ys.map (Value.int .i64)).length=.int .i64 ys.length by rw[List.length_map];rfl] at hr;have mT:w.grownBy (w.setRow g (cur.toList.take off++ys.map (Value.int .i64)++cur.toList.drop (off+(ys.map (Value.int .i64)).length)).toArray) (some g) :=
     ⟨rfl,rfl,rfl,by simp,λk _ hk=>setRow_other w g k _ (λe=>hk (by simp[e]))⟩;refine⟨_,hr,?_,(Below.refl _ _).grown mT (by have:=(Array.getElem?_eq_some_iff.1 hg).1;omega) (by intro k hk;simp at hk;omega),mT⟩;have hlen:(xs.take off++ys++xs.drop (off+ys.length)).length=xs.length:=by simp;omega
    refine⟨by simp,.inr ⟨g,cap,_,by rw[hlen],hb,setRow_heap w g cur _ _ _ hg,by rw[hlen];exact hn,hm,?_,?_⟩⟩;.simp only[List.size_toArray,List.length_append,List.length_take,List.length_drop,List.length_map,ur];omega
    .rw[hlen];have e:=zN cur.toList (ys.map (Value.int .i64)) off xs.length (by simpa using wE) (by omega);rw[Nat.mul_one] at ht ⊢;rw[e,ht];simp[List.map_take,List.map_drop]
theorem QV{w:World}{B:Nat}{v u:Value}{xs ys:List Int}(ty:TypeId)(aO:aj B w v xs)(hu:ae w u ys)(wE:ys.length<=xs.length):
 ∃w',(Builtin.copy_ #[22,22] ty #[v,u]).run Tryz.prog w=.ok (.int .i64 ys.length) w'/\aj B w' v (ys++xs.drop ys.length)/\Below B w w'/\w.grownBy w' v.ownBlock:=by
 obtain⟨a,cap,e,_⟩:=aO.at;have:=P8 0 ty a xs.length cap aO hu e wE (by omega) (by
  intro h0;rcases aO.2 with ⟨rfl,hn⟩ | ⟨g,Rj,cur,rfl,_⟩;.omega
  .simp at e;obtain⟨rfl,-⟩:=e;rw[cj]);simpa using this
def QF(v:Value)(h:Nat):Value:=match v with | .slice a _ c=>.slice a h c | v=>v
theorem Wh(v:Value)(h i:Nat):af (QF v h) i=af v i:=by
 cases v with
 | slice a n c=>cases a<;>rfl
 | _=>rfl
theorem Nn{a:Option Addr}{n c:Nat}(h:Nat)(hh:h<=c)(w:World):
 (Instr.slice 22 (.slice a n c) none (some (.int .i64 h)) none).run Tryz.prog w=.ok (QF (.slice a n c) h) w:=by
 rw[run_slice_h w 22 a n c we .i64 h (by omega) (by omega),Bt,LF];simp only[Result.andThen,sliced,QF];rw[Int.toNat_natCast];have e:Option.map (λx=>x.add 0) a=a:=by cases a<;>simp[Addr.add]
 simp[e]
theorem ae.pre{w:World}{v:Value}{xs:List Int}(h:ae w v xs)(k:Nat)(hk:k<=xs.length):ae w (QF v k) (xs.take k):=by
 obtain⟨a,cap,rfl,h1,h2,h3,h4⟩:=h;have hl:(xs.take k).length=k:=by simp;omega
 refine⟨a,cap,by rw[hl];rfl,by omega,h2,h3,λi hi=>?_⟩;rw[Wh,h4 i (by omega)];simp
theorem aj.acm{B:Nat}{w:World}{v:Value}{xs:List Int}(h:aj B w v xs)(k:Nat)(hk:k<=xs.length)(w':World):
 (Instr.slice 22 v none (some (.int .i64 k)) none).run Tryz.prog w'=.ok (QF v k) w':=by
 obtain⟨a,cap,rfl,h1,_⟩:=h.at;exact Nn k (by omega) w'
def nf(B:Nat)(w:World)(m:Value)(xs:List Int):Prop:=∃v,m=QF v xs.length/\aj B w v (xs++[7001,7002])
theorem nf.at{B:Nat}{w:World}{m:Value}{xs:List Int}(h:nf B w m xs):ae w m xs:=by
 obtain⟨v,rfl,ho⟩:=h;have:=ho.at.pre xs.length (by simp);rwa [List.take_left'] at this;rfl
theorem nf.below{B:Nat}{w w':World}{m:Value}{xs:List Int}(h:nf B w m xs)(hb:Below w.heap.size w w'):nf B w' m xs:=by
 obtain⟨v,e,ho⟩:=h;exact⟨v,e,ho.below hb⟩
theorem aj.kY{B B':Nat}{w w':World}{v:Value}{xs:List Int}(h:aj B w v xs)(hb:Below B' w w')(aT:∀k,v.ownBlock=some k->k<B'):aj B w' v xs:=by
 refine⟨h.1,?_⟩;rcases h.2 with h2 | ⟨g,cap,cur,rfl,hB,hg,r⟩;.exact .inl h2
 .exact .inr ⟨g,cap,cur,rfl,hB,by rw[hb.block g (aT g rfl)];exact hg,r⟩
theorem TK(v:Value)(xs:List Int)(w:World)(h:ae w v xs)(hl:xs.length<=17592186044414):
 Calls Tryz.prog 14 #[v] w (cz (λx w'=>nf w.heap.size w' x xs) w):=by
 have hlen:=h.len;replace h:=Hd h;go_enter Tryz.func14,Tryz.ntmps14;go_wp2_with (at_make;refine me rfl _ _ rfl _ rfl rfl (by omega) (by omega) ?_);intro m w1 ho hb;have hn:((xs.length:Int)+2).toNat=xs.length+2:=by omega
 rw[hn] at ho;clear hn;obtain⟨w2,hcp,jK,ij,_⟩:=QV 3 ho (h.out.below hb) (by simp);have e1:xs++(List.replicate (xs.length+2) (0:Int)).drop xs.length=xs++[0,0]:=by rw[List.drop_replicate,Nat.add_sub_cancel_left];rfl
 rw[e1] at jK;clear e1;have i1:=jK.at.idx xs.length (by simp);have c1:=jK.at.cell xs.length (by simp);have f1:=jK.mQ xs.length (by simp);have wR:=jK.set xs.length (by simp) 7001;have vh:=jK.dB (hb.trans ij) xs.length (by simp) (.int .i64 7001);have e2:(xs++[0,0]).set xs.length 7001=xs++[7001,0]:=by simp
 rw[e2] at wR;have i2:∀w',(Instr.indexAt 22 m (.int .i64 ((xs.length:Int)+1))).run Tryz.prog w'=.ok (.pointer (some (af m (xs.length+1)))) w':=by
  intro w';exact wR.at.idx (xs.length+1) (by simp) w'
 have c2:=wR.at.cell (xs.length+1) (by simp);have f2:=wR.mQ (xs.length+1) (by simp);have xE:=wR.set (xs.length+1) (by simp) 7002;have C4:=Hd (wR.dB vh (xs.length+1) (by simp) (.int .i64 7002));have e3:(xs++[7001,0]).set (xs.length+1) 7002=xs++[7001,7002]:=by simp
 rw[e3] at xE;have hre:=xE.acm xs.length (by simp);replace xE:=Hd xE;clear e2 e3 jK wR ho hb ij vh;go_wp2;go_ret;exact⟨_,rfl,C4.out,m,rfl,xE.out⟩
theorem nf.full{B:Nat}{w:World}{m:Value}{xs:List Int}(h:nf B w m xs):
 ∃v,aj B w v (xs++[7001,7002])/\∀w',(Instr.slice 22 m none (some (.int .i64 ((xs.length:Int)+2))) none).run Tryz.prog w'=.ok v w':=by
 obtain⟨v,rfl,ho⟩:=h;refine⟨v,ho,λw'=>?_⟩;obtain⟨a,cap,rfl,h1,_⟩:=ho.at;have:=Nn (a:=a) (n:=xs.length) (c:=cap) (xs.length+2) (by simpa using h1) w';have e:(xs++[7001,7002]).length=xs.length+2:=by simp
 rw[e];exact this
theorem TA(B:Nat)(m l:Value)(xs:List Int)(w:World)(h:nf B w m xs)(k:ae w l xs)(hl:xs.length<=17592186044414):
 Calls Tryz.prog 34 #[m,l] w (zk true w):=by
 have hlen:=k.len;obtain⟨v,ho,aaw⟩:=h.full;have i1:=ho.at.idx xs.length (by simp);have c1:=ho.at.cell xs.length (by simp);have i2:∀w',(Instr.indexAt 22 v (.int .i64 ((xs.length:Int)+1))).run Tryz.prog w'=.ok (.pointer (some (af v (xs.length+1)))) w':=by
  intro w';exact ho.at.idx (xs.length+1) (by simp) w'
 have c2:=ho.at.cell (xs.length+1) (by simp);have e1:(xs++[7001,7002])[xs.length]'(by simp)=7001:=by simp
 have e2:(xs++[7001,7002])[xs.length+1]'(by simp)=7002:=by simp
 rw[e1] at c1;rw[e2] at c2;clear ho e1 e2;have hm:=Hd h.at;replace k:=Hd k;clear h;go_enter Tryz.func34,Tryz.ntmps34;go_wp2_with fail;refine(xw m l xs xs _ hm.out k.out).mono ?_;rintro e w' ⟨n,rfl,rfl⟩;rw[show decide (xs=xs)=true by simp];go_wp2;go_ret;exact⟨n,rfl,rfl⟩
theorem D3(k R k' R':Int)(a:Option Addr)(n c:Nat)(a':Option Addr)(n' c':Nat)(xs ys:List Int)(w:World)(h:ae w (.slice a n c) xs)(h':ae w (.slice a' n' c') ys):
 Calls Tryz.prog 61 #[.agg #[.int .i64 k,.int .i64 R,.slice a n c],.agg #[.int .i64 k',.int .i64 R',.slice a' n' c']] w
  (cz (λx _=>x=.bool (k==k'&&(R==R'&&decide (xs=ys)))) w):=by
 have sl:=(Below.refl w.heap.size w).alloc (Nat.le_refl _) (.cells #[.int .i64 k,.int .i64 R,.slice a n c] 24);have kZ:=sl.alloc (by simp) (.cells #[.int .i64 k',.int .i64 R',.slice a' n' c'] 24);have g:=Hd (h.below kZ);have g':=Hd (h'.below kZ);clear h h';cases e1:(k==k');.go_enter Tryz.func61,Tryz.ntmps61;go_wp2;go_ret;exact⟨_,rfl,kZ,rfl⟩
 .cases e2:(R==R');.go_enter Tryz.func61,Tryz.ntmps61;go_wp2;go_ret;exact⟨_,rfl,kZ,rfl⟩
  .go_enter Tryz.func61,Tryz.ntmps61;go_wp2_with fail;refine(xw _ _ xs ys _ g.out g'.out).mono ?_;rintro e w' ⟨q,rfl,rfl⟩;generalize hd:decide (xs=ys)=d;replace hd:=Hd hd;go_wp2;go_ret;exact⟨_,rfl,below_drewN kZ q,(by rw[hd.out];rfl)⟩
theorem XM(r:Nat->Addr)(k R:Int)(v:Value)(w:World)(hg:ck r w)(h:k<1\/4<k):
 Calls Tryz.prog 35 #[.agg #[.int .i64 k,.int .i64 R,v]] w (cz (λx w'=>bf r w' (fresh kh 0 1) x) w):=by
 have sM:=Hd (hg.below ((Below.refl _ _).alloc (Nat.le_refl _) (.cells #[.int .i64 k,.int .i64 R,v] 24)));clear hg;rcases h with h | h <;>
 (go_enter Tryz.func35,Tryz.ntmps35;go_wp2_with fail;refine(je r _ _ _ sM.out (by decide) (by decide)).mono ?_;rintro e w' ⟨x,rfl,hb,he⟩;go_wp2;go_ret;exact⟨_,rfl,((Below.refl _ _).alloc (Nat.le_refl _) _).trans (hb.mono (by simp)),he⟩)
theorem Xb(r:Nat->Addr)(k R:Int)(v:Value)(w:World)(hg:ck r w)(h1:1<=k)(h4:k<=4)(h:R<0\/3<R):
 Calls Tryz.prog 35 #[.agg #[.int .i64 k,.int .i64 R,v]] w (cz (λx w'=>bf r w' (fresh kh 1 1) x) w):=by
 have sM:=Hd (hg.below ((Below.refl _ _).alloc (Nat.le_refl _) (.cells #[.int .i64 k,.int .i64 R,v] 24)));clear hg;go_enter Tryz.func35,Tryz.ntmps35;go_wp2_with fail;refine(Sy r _ _ _ sM.out (by omega)).mono ?_;rintro e w1 ⟨x,y,rfl,hb,rfl,he⟩;obtain⟨T,a,rfl⟩:=he.bX;clear he;go_wp2_with fail;refine(je r _ _ _ (sM.out.below hb) (by decide) (by decide)).mono ?_;rintro e w' ⟨x,rfl,nh,he⟩;go_wp2;go_ret;exact⟨_,rfl,(((Below.refl _ _).alloc (Nat.le_refl _) _).trans (hb.mono (by simp))).trans (nh.mono (by have:=hb.size;simp at this;omega)),he⟩
theorem QA(r:Nat->Addr)(K R:Nat)(v:Value)(xs:List Int)(w:World)(hg:ck r w)(h:ae w v xs)(h1:1<=K)(h4:K<=4)(h3:R<=3)(hl:xs.length≠pw K (2*R+1)):
 Calls Tryz.prog 35 #[.agg #[.int .i64 K,.int .i64 R,v]] w (cz (λx w'=>bf r w' (fresh kh 2 1) x) w):=by
 have sM:=Hd (hg.below ((Below.refl _ _).alloc (Nat.le_refl _) (.cells #[.int .i64 K,.int .i64 R,v] 24)));clear hg;have hlen:=h.len;clear h;have bM:((xs.length:Int) != (pw K (2*R+1):Int))=true:=by simp;omega
 clear hl;go_enter Tryz.func35,Tryz.ntmps35;go_wp2_with fail;refine(yd K R _ h1 h4 h3).mono ?_;rintro e w1 ⟨rfl,rfl⟩;go_wp2_with fail;refine(je r _ _ _ sM.out (by decide) (by decide)).mono ?_;rintro e w' ⟨x,rfl,nh,he⟩;go_wp2;go_ret;exact⟨_,rfl,((Below.refl _ _).alloc (Nat.le_refl _) _).trans (nh.mono (by simp)),he⟩
theorem Rf(r:Nat->Addr)(K R:Nat)(v:Value)(xs:List Int)(i:Nat)(w:World)(hg:ck r w)(h:ae w v xs)(h1:1<=K)(h4:K<=4)(h3:R<=3)(hl:xs.length=pw K (2*R+1))(hi:idxOf (lR K) xs=i)(C5:i<xs.length):
 Calls Tryz.prog 35 #[.agg #[.int .i64 K,.int .i64 R,v]] w (cz (λx w'=>bf r w' (fresh kh (3+i) 1) x) w):=by
 have sM:=Hd (hg.below ((Below.refl _ _).alloc (Nat.le_refl _) (.cells #[.int .i64 K,.int .i64 R,v] 24)));clear hg;have hm:=h.gN;have h':=Hd (h.below ((Below.refl _ _).alloc (Nat.le_refl _) (.cells #[.int .i64 K,.int .i64 R,v] 24)));have hlen:=h.len;clear h;have bM:((xs.length:Int) != (pw K (2*R+1):Int))=false:=by simp;omega
 clear hl;replace hi:=Hd hi;go_enter Tryz.func35,Tryz.ntmps35;go_wp2_with fail;refine(yd K R _ h1 h4 h3).mono ?_;rintro e w1 ⟨rfl,rfl⟩;go_wp2_with fail;refine(Jr K v xs _ h'.out).mono ?_;rintro e w1 ⟨x,rfl,hb,rfl⟩;rw[hi.out];have aT:i<9223372036854775807:=by omega
 have vh:(3+(i:Int))<=9223372036854775807:=by
  have:=nr (i:=2*R+1) h1 h4 (by omega);have:¬ ((xs.length:Int) != (pw K (2*R+1):Int))=true:=by rw[bM];simp
  simp at this;omega
 go_wp2_with fail;refine(je r _ _ _ (sM.out.below hb) (by decide) (by decide)).mono ?_;rintro e w' ⟨x,rfl,nh,he⟩;go_wp2;go_ret;exact⟨_,rfl,(((Below.refl _ _).alloc (Nat.le_refl _) _).trans (hb.mono (by simp))).trans (nh.mono (by have:=hb.size;simp at this;omega)),he⟩
theorem Cm(K R:Nat)(v:Value)(xs:List Int)(w:World)(h:ae w v xs)(hr:aG K R xs):
 Calls Tryz.prog 35 #[.agg #[.int .i64 K,.int .i64 R,v]] w (cz (λx _=>x=.nilIface) w):=by
 obtain⟨h1,h4,h3,hl,hs⟩:=hr;have h':=Hd (h.below ((Below.refl _ _).alloc (Nat.le_refl _) (.cells #[.int .i64 K,.int .i64 R,v] 24)));have hlen:=h.len;clear h;have bM:((xs.length:Int) != (pw K (2*R+1):Int))=false:=by simp;omega
 clear hl;replace hs:=Hd hs;go_enter Tryz.func35,Tryz.ntmps35;go_wp2_with fail;refine(yd K R _ h1 h4 h3).mono ?_;rintro e w1 ⟨rfl,rfl⟩;go_wp2_with fail;refine(Jr K v xs _ h'.out).mono ?_;rintro e w1 ⟨x,rfl,hb,rfl⟩;rw[hs.out.odd];go_wp2;go_ret;exact⟨_,rfl,(((Below.refl _ _).alloc (Nat.le_refl _) _).trans (hb.mono (by simp))),rfl⟩
theorem ET(r:Nat->Addr)(k R:Int)(v:Value)(xs:List Int)(w:World)(hg:ck r w)(h:ae w v xs):
 Calls Tryz.prog 35 #[.agg #[.int .i64 k,.int .i64 R,v]] w (cz (λx w'=>bf r w' (ep k R xs) x) w):=by
 by_cases hk:k<1\/4<k;.rw[ep,if_pos hk];exact XM r k R v w hg hk
 by_cases hr:R<0\/3<R;.rw[ep,if_neg hk,if_pos hr];exact Xb r k R v w hg (by omega) (by omega) hr
 obtain⟨K,rfl⟩:=Int.eq_ofNat_of_zero_le (show 0<=k by omega);obtain⟨R,rfl⟩:=Int.eq_ofNat_of_zero_le (show 0<=R by omega);by_cases hl:xs.length=pw K (2*R+1)
 .rcases FO K xs with hs | ⟨i,hi,aT⟩;.have bK:aG K R xs:=⟨by omega,by omega,by omega,hl,hs⟩;rw[bK.check];exact Cm K R v xs w h bK
  .have:ep K R xs=fresh kh (3+i) 1:=by
    rw[ep,if_neg hk,if_neg hr,if_neg (by simp[hl]),if_neg (by omega),hi]
   rw[this];exact Rf r K R v xs i w hg h (by omega) (by omega) (by omega) hl hi aT
 .have:ep K R xs=fresh kh 2 1:=by
   rw[ep,if_neg hk,if_neg hr,if_pos (by simpa using hl)]
  rw[this];exact QA r K R v xs w hg h (by omega) (by omega) (by omega) hl
def iz(K:Nat)(x y:Int)(s:Nat):List Int:=(List.range s).map λ(t:Nat)=>(y+x*t)%K
def fJ(K:Nat)(x:Int)(T:List Int):List Int:=T.flatMap λy=>iz K x y K
def jq(K:Nat):List Int->List Int->List Int
 | T,[]=>T
 | T,x::f=>jq K (fJ K x T) f
def mm(K:Nat)(f:List Int):List Int:=jq K [0] f
theorem kz(K:Nat)(x y:Int)(s:Nat):(iz K x y s).length=s:=by simp[iz]
theorem II(K:Nat)(x y:Int)(s:Nat):iz K x y (s+1)=iz K x y s++[(y+x*s)%K]:=by simp[iz,List.range_succ]
theorem sY(K:Nat)(x:Int)(T:List Int):(fJ K x T).length=T.length*K:=by
 induction T with
 | nil=>simp[fJ]
 | cons y T ih=>simp only[fJ,List.flatMap_cons,List.length_append,kz,List.length_cons] at *;rw[ih,Nat.succ_mul];omega
theorem Gu(K:Nat)(x y:Int)(T:List Int):fJ K x (T++[y])=fJ K x T++iz K x y K:=by simp[fJ]
theorem HN(K:Nat)(x:Int):fJ K x []=[]:=rfl
theorem vw(K:Nat)(T f:List Int)(x:Int):jq K T (f++[x])=fJ K x (jq K T f):=by
 induction f generalizing T with
 | nil=>rfl
 | cons y f ih=>exact ih _
theorem Ay(K:Nat)(T f:List Int):(jq K T f).length=T.length*pw K f.length:=by
 induction f generalizing T with
 | nil=>simp[jq,pw]
 | cons y f ih=>rw[jq,ih,sY,List.length_cons,dW,Nat.mul_assoc,Nat.mul_comm K]
theorem pJ(K:Nat)(f:List Int):(mm K f).length=pw K f.length:=by rw[mm,Ay];simp
theorem Iq{K:Nat}(hK:1<=K)(x y:Int)(s:Nat):bj K (iz K x y s):=by
 intro z hz;obtain⟨t,_,rfl⟩:=List.mem_map.1 hz;exact⟨Int.emod_nonneg _ (by omega),Int.emod_lt_of_pos _ (by omega)⟩
theorem GJ{K:Nat}(hK:1<=K)(x:Int)(T:List Int):bj K (fJ K x T):=by
 intro z hz;obtain⟨y,_,h⟩:=List.mem_flatMap.1 hz;exact Iq hK x y K z h
theorem Ds{K:Nat}(hK:1<=K)(T f:List Int)(hT:bj K T):bj K (jq K T f):=by
 induction f generalizing T with
 | nil=>exact hT
 | cons y f ih=>exact ih _ (GJ hK y T)
theorem PU{K:Nat}(hK:1<=K)(f:List Int):bj K (mm K f):=Ds hK _ _ (by intro x hx;simp at hx;omega)
theorem gR(l:List Int)(k:Nat)(h:k<l.length):l.take (k+1)=l.take k++[l[k]]:=by rw[List.take_succ_eq_append_getElem h]
def zj(K n:Nat)(xs:List Int)(i:Nat):List Int:=(List.range n).map λj=>if n<=i+j then xs.getD (pw K (n-1-j)) 0 else 0
theorem JR(K n:Nat)(xs:List Int)(i:Nat):(zj K n xs i).length=n:=by simp[zj]
theorem OD(K n:Nat)(xs:List Int):zj K n xs 0=List.replicate n 0:=by
 refine List.ext_getElem (by simp[zj]) λj h1 h2=>?_;simp[zj] at h1 ⊢;omega
theorem QS(K n:Nat)(xs:List Int)(i:Nat)(hi:i<n)(hx:pw K i<xs.length):(zj K n xs i).set (n-1-i) xs[pw K i]=zj K n xs (i+1):=by
 refine List.ext_getElem (by simp[zj]) λj h1 h2=>?_;simp only[zj,List.length_set,List.length_map,List.length_range] at h1;rw[List.getElem_set];by_cases e:n-1-i=j;.rw[if_pos e];simp only[zj,List.getElem_map,List.getElem_range];rw[if_pos (by omega),show n-1-j=i by omega];simp[List.getD,hx]
 .rw[if_neg e];simp only[zj,List.getElem_map,List.getElem_range];by_cases c:n<=i+j;.rw[if_pos c,if_pos (by omega)]
  .rw[if_neg c,if_neg (by omega)]
def uW(K n:Nat)(xs:List Int)(i:Nat):List Int:=if 1<K then zj K n xs i else List.replicate n 0
def wI(K i:Nat):Nat:=if 1<K then pw K i else 1
theorem jT(K n:Nat)(xs:List Int)(i:Nat):(uW K n xs i).length=n:=by
 unfold uW;split;.exact JR ..
 .simp
theorem Rl(K n:Nat)(xs:List Int):uW K n xs 0=List.replicate n 0:=by
 unfold uW;split;.exact OD ..
 .rfl
def jJ(K R:Nat)(xs:List Int):List Int:=uW K (2*R+1) xs (2*R+1)
theorem mX(K R:Nat)(xs:List Int):(jJ K R xs).length=2*R+1:=jT ..
theorem yM{K R:Nat}{xs:List Int}(h:aG K R xs):bj K (jJ K R xs):=by
 have hk:=h.k1;intro x hx;unfold jJ uW at hx;split at hx
 .obtain⟨j,_,rfl⟩:=List.mem_map.1 hx;split
  .by_cases hp:pw K (2*R+1-1-j)<xs.length;.simp only[List.getD,List.getElem?_eq_getElem hp,Option.getD_some];exact h.syms _ (by simp)
   .simp only[List.getD,List.getElem?_eq_none (Nat.le_of_not_lt hp),Option.getD_none];omega
  .omega
 .have:=List.eq_of_mem_replicate hx;omega
def ir(K R:Nat)(xs:List Int):Bool:=decide (mm K (jJ K R xs)=xs)
def cnt(p:Int)(f:List Int):Nat:=f.countP λx=>x%p != 0
theorem bj.getD{K:Int}{xs:List Int}(hK:0<K)(h:bj K xs)(i:Nat):0<=xs.getD i 0/\xs.getD i 0<K:=by
 by_cases c:i<xs.length;.simp only[List.getD,List.getElem?_eq_getElem c,Option.getD_some];exact h _ (by simp)
 .simp only[List.getD,List.getElem?_eq_none (Nat.le_of_not_lt c),Option.getD_none];omega
def lI(T:List Int)(W i:Nat):Nat->Nat
 | 0=>0
 | s+1=>lI T W i s ||| 2 ^ (T.getD (i+s*W) 0).toNat
theorem U1{K:Nat}(hK:1<=K){T:List Int}(h:bj K T)(W i s:Nat):lI T W i s<2 ^ K:=by
 induction s with
 | zero=>exact Nat.two_pow_pos K
 | succ s ih =>
  have:=h.getD (by omega) (i+s*W);exact Nat.or_lt_two_pow ih (Nat.pow_lt_pow_right (by decide) (by omega))
theorem Eg{K:Nat}(h:K<=4):2 ^ K<=16:=by
 have:K=0\/K=1\/K=2\/K=3\/K=4:=by omega
 rcases this with rfl | rfl | rfl | rfl | rfl<;>decide
def pD(K:Nat)(T:List Int)(W i:Nat):Bool:=lI T W i K==2 ^ K-1
def bq(K:Nat)(T:List Int)(W:Nat):Bool:=(List.range T.length).all λi=>i/W%K != 0||pD K T W i
theorem wX{K:Nat}{T:List Int}{W:Nat}(h:∀i,i<T.length->i/W%K=0->pD K T W i=true):bq K T W=true:=by
 rw[bq,List.all_eq_true];intro i hi;have C5:=List.mem_range.1 hi;by_cases c:i/W%K=0;.simp[h i C5 c]
 .simp[c]
theorem Dk{K:Nat}{T:List Int}{W:Nat}(i:Nat)(hi:i<T.length)(hm:i/W%K=0)(h:pD K T W i=false):bq K T W=false:=by
 rw[bq,List.all_eq_false];exact⟨i,List.mem_range.2 hi,by simp[hm,h]⟩
theorem xH{K:Nat}{T:List Int}{W:Nat}(h:bq K T W=true)(i:Nat)(hi:i<T.length)(hm:i/W%K=0):pD K T W i=true:=by
 rw[bq,List.all_eq_true] at h;have:=h i (List.mem_range.2 hi);simpa [hm] using this
theorem Qa{K:Nat}{T:List Int}(hK:1<=K)(h:bj K T)(W i s y:Nat):(lI T W i s).testBit y=true↔∃t,t<s/\T.getD (i+t*W) 0=y:=by
 induction s with
 | zero=>simp[lI]
 | succ s ih =>
  have hx:=h.getD (by omega) (i+s*W);rw[lI,Nat.testBit_or,Bool.or_eq_true,ih,Nat.testBit_two_pow];constructor
  .rintro(⟨t,ht,e⟩ | e);.exact⟨t,by omega,e⟩
   .rw[decide_eq_true_iff] at e;exact⟨s,by omega,by omega⟩
  .rintro⟨t,ht,e⟩;by_cases c:t=s;.subst c;right;rw[decide_eq_true_iff];omega
   .left;exact⟨t,by omega,e⟩
theorem Pb{K:Nat}{T:List Int}(hK:1<=K)(h:bj K T){W i:Nat}(hf:pD K T W i=true)(y:Nat)(hy:y<K):∃t,t<K/\T.getD (i+t*W) 0=y:=by
 have e:lI T W i K=2 ^ K-1:=by simpa [pD] using hf
 rw[<-Qa hK h,e,Nat.testBit_two_pow_sub_one];simpa using hy
def fitP(T:List Int)(rest W:Nat)(image:Int):Nat->Nat->Nat
 | 0,_=>0
 | n+1,s=>if T.getD (rest+s*W) 0=image then s else fitP T rest W image n (s+1)
def fit(K:Nat)(T:List Int)(rest W:Nat)(image:Int):Nat:=fitP T rest W image K 0
def aI(K:Nat)(xs:List Int):Nat:=xs.foldl (λn x=>n*K+x.toNat) 0
theorem cp(K:Nat)(xs:List Int)(x:Int):aI K (xs++[x])=aI K xs*K+x.toNat:=by simp[aI]
theorem gH{K:Nat}(xs:List Int)(h:bj K xs):aI K xs<pw K xs.length:=by
 suffices H:∀ys zs,xs=ys++zs->aI K ys<pw K ys.length from H xs [] (by simp);intro ys;induction hn:ys.length generalizing ys with
 | zero=>intro zs _;have:=List.eq_nil_of_length_eq_zero hn;subst this;simp[aI,pw]
 | succ n ih =>
  intro zs e;have bM:ys≠[]:=by intro e;subst e;simp at hn
  obtain⟨b,x,rfl⟩:∃b x,ys=b++[x]:=⟨ys.dropLast,ys.getLast bM,(List.dropLast_concat_getLast bM).symm⟩;have hb:b.length=n:=by simpa using hn
  have h1:=ih b hb ([x]++zs) (by rw[e];simp);have hx:=h x (by rw[e];simp);rw[cp,dW];have:(aI K b+1)*K<=pw K n*K:=Nat.mul_le_mul_right _ (by omega);rw[Nat.succ_mul] at this;omega
theorem UR{K W q j s n:Nat}(hW:1<=W)(hn:n=q*(W*K))(hj:j<n)(hm:j/W%K=0)(hs:s<K):j+s*W<n:=by
 have h1:=Nat.div_add_mod j W;have h2:=Nat.div_add_mod (j/W) K;have h3:=Nat.mod_lt j hW;rw[hm,Nat.add_zero] at h2;have e:j=W*K*(j/W/K)+j%W:=by
  rw[Nat.mul_assoc,h2];omega
 have hc:j/W/K<q:=by
  rw[Nat.div_div_eq_div_mul];exact Nat.div_lt_of_lt_mul (by rw[Nat.mul_comm];omega)
 have h4:W*K*(j/W/K+1)<=W*K*q:=Nat.mul_le_mul_left _ hc;rw[Nat.mul_add,Nat.mul_one] at h4;have h5:(s+1)*W<=K*W:=Nat.mul_le_mul_right _ hs;rw[Nat.succ_mul,Nat.mul_comm K W] at h5;rw[hn,Nat.mul_comm q];omega
theorem aG.half{K R:Nat}{xs:List Int}(h:aG K R xs):xs.length/K=pw K (2*R)/\xs.length=pw K (2*R)*K:=by
 have e:=h.len;rw[dW] at e;have:=h.k1;exact⟨by rw[e,Nat.mul_div_cancel _ (by omega)],e⟩
theorem CK(n:Nat)(h:n<1048576):wrap64 (n:Int)=n:=Ew (by omega) (by omega)
theorem IM(n:Nat)(h1:1<=n)(h:n<1048576):wrap64 ((n:Int)-1)=((n-1:Nat):Int):=by
 rw[Ew (by omega) (by omega)];omega
theorem Iy(a b:Nat)(ha:a<1024)(hb:b<1024):bits .or .i64 (a:Int) (b:Int)=((a ||| b:Nat):Int):=by
 have hx:a ||| b<2 ^ 10:=Nat.or_lt_two_pow (by omega) (by omega);have h1:(BitVec.ofInt 64 (a:Int)).toNat=a:=by
  rw[BitVec.ofInt_natCast,BitVec.toNat_ofNat];exact Nat.mod_eq_of_lt (by omega)
 have h2:(BitVec.ofInt 64 (b:Int)).toNat=b:=by
  rw[BitVec.ofInt_natCast,BitVec.toNat_ofNat];exact Nat.mod_eq_of_lt (by omega)
 show IntKind.i64.wrap ((BitVec.ofInt 64 (a:Int) ||| BitVec.ofInt 64 (b:Int)).toNat:Int)=_;rw[BitVec.toNat_or,h1,h2];exact db (by omega) (by omega)
theorem La(K R:Nat)(va:Option Addr)(vn vc:Nat)(xs:List Int)(W:Nat)(w:World)(h:ae w (.slice va vn vc) xs)(hr:aG K R xs)(hW:1<=W)(q:Nat)(hdiv:xs.length=q*(W*K)):
 Calls Tryz.prog 50 #[.agg #[.int .i64 K,.int .i64 R,.slice va vn vc],.int .i64 W] w (cz (λx _=>x=.bool (bq K xs W)) w):=by
 have sl:=ab w (.cells #[.int .i64 K,.int .i64 R,.slice va vn vc] 24);have h0:=Hd h;have hl:=h.len;have dS:=hr.k1;have fs:=hr.k4;have hlen:=hr.gN;clear h;replace⟨hdiv,hr⟩:=bD hdiv hr;go_enter Tryz.func50,Tryz.ntmps50;go_wp2_with fail;go_loopw [11] (λi wr=>(∃j:Nat,j<=xs.length/\i=.int .i64 j/\∀t,t<j->t/W%K=0->pD K xs W t=true)/\∃n,wr=(w.alloc (.cells #[.int .i64 K,.int .i64 R,.slice va vn vc] 24)).drewN n) (λi _=>xs.length-(intOf i).toNat);case atStart=>exact⟨⟨0,by omega,rfl,by intro t ht;omega⟩,0,rfl⟩
 case round =>
  obtain⟨⟨j,hj,rfl,hp⟩,n,rfl⟩:=hrel;replace hp:=Hd hp;by_cases aT:j<xs.length
  .by_cases hm:j/W%K=0
   .have V0:0<=(j:Int)/(W:Int):=Int.ediv_nonneg (by omega) (by omega);have hqu:(j:Int)/(W:Int)<=16384:=by
     have:j/W<=j:=Nat.div_le_self _ _;have:j/W<=16384:=by omega
     exact_mod_cast this
    have hq:((j:Int)/(W:Int)%(K:Int) != 0)=false:=by
     rw[bne_eq_false_iff_eq];exact_mod_cast hm
    replace hm:=Hd hm;go_wp2;go_quiet (fail);go_wp2;go_loop [6,23] (λn i=>∃s:Nat,s<=K/\i=.int .i64 s/\n=.int .i64 (lI xs W j s)) (λ_ i=>K-(intOf i).toNat);case atStart=>exact⟨0,by omega,rfl,rfl⟩
    case round =>
     obtain⟨s,hs,rfl,rfl⟩:=hrel;by_cases sD:s<K
     .have hx:=hr.out.syms.getD (by omega) (j+s*W);have ou:j+s*W<xs.length:=UR hW hdiv.out aT hm.out sD;have h1:=h0.out.below sl;have i1:∀w',(Instr.indexAt 22 (.slice va vn vc) (.int .i64 ((j:Int)+(s:Int)*(W:Int)))).run Tryz.prog w'=.ok (.pointer (some (af (.slice va vn vc) (j+s*W)))) w':=by
       intro w';have:=h1.idx (j+s*W) ou w';rwa [Int.natCast_add,Int.natCast_mul] at this
      have c1:=h1.aH (j+s*W) ou;have hsw0:0<=(s:Int)*(W:Int):=Int.mul_nonneg (by omega) (by omega);have hsw1:(s:Int)*(W:Int)<=16384:=by
       have:s*W<=16384:=by omega
       exact_mod_cast this
      have mT:Hid (lI xs W j (s+1)=lI xs W j s ||| 2 ^ (xs.getD (j+s*W) 0).toNat):=rfl;have hsl2:=U1 dS hr.out.syms W j s;have h16:=Eg fs;generalize xs.getD (j+s*W) 0=x at hx c1 mT;have JV:2 ^ x.toNat<1024:=Nat.lt_of_lt_of_le (Nat.pow_lt_pow_right (by decide) (show x.toNat<4 by omega)) (by decide);have Ox:Hid (bits BinOp.or IntKind.i64 ((lI xs W j s:Nat):Int) (wrap64 (2 ^ x.toNat))=((lI xs W j (s+1):Nat):Int)):=by
       show _=_;have e:(2:Int) ^ x.toNat=((2 ^ x.toNat:Nat):Int):=by simp
       rw[e,CK _ (by omega),Iy _ _ (by omega) JV,mT.out]
      go_wp2;go_round;case rel=>exact⟨s+1,by omega,by go_num,by rw[Ox.out]⟩
      case measure=>simp[intOf];omega
     .obtain rfl:K=s:=by omega
      have h16:=Eg fs;have h1K:1<=2 ^ K:=Nat.two_pow_pos K;have e:(2:Int) ^ K=((2 ^ K:Nat):Int):=by simp
      have e2:wrap64 (wrap64 ((2:Int) ^ K)-1)=((2 ^ K-1:Nat):Int):=by
       rw[e,CK _ (by omega),IM _ h1K (by omega)]
      have hT:Hid (((lI xs W j K:Nat):Int) != wrap64 (wrap64 ((2:Int) ^ K)-1))=Hid (pD K xs W j=false):=by
       show((((lI xs W j K:Nat):Int) != wrap64 (wrap64 ((2:Int) ^ K)-1))=true)=(pD K xs W j=false);rw[e2];apply propext;rw[bne_iff_ne,pD,beq_eq_false_iff_ne];omega
      cases hf:pD K xs W j
      .have ht:(((lI xs W j K:Nat):Int) != wrap64 (wrap64 ((2:Int) ^ K)-1))=true:=by
        have:=Eq.mpr hT hf;exact this
       have hu:=Hd (Dk (K:=K) j aT hm.out hf);clear hT e e2 hf;go_wp2;go_ret;exact⟨_,rfl,below_drewN sl _,(by rw[hu.out];rfl)⟩
      .have ht:(((lI xs W j K:Nat):Int) != wrap64 (wrap64 ((2:Int) ^ K)-1))=false:=by
        rw[Bool.eq_false_iff];intro c;have:=Eq.mp hT c;rw[hf] at this;cases this
       replace hf:=Hd hf;clear hT e e2;go_wp2;go_roundw;case rel =>
        refine⟨⟨j+1,by omega,by go_num,?_⟩,_,rfl⟩;intro t yi C9;by_cases e:t=j;.subst e;exact hf.out
        .exact hp.out t (by omega) C9
       case measure=>simp[intOf];omega
   .have V0:0<=(j:Int)/(W:Int):=Int.ediv_nonneg (by omega) (by omega);have hqu:(j:Int)/(W:Int)<=16384:=by
     have:j/W<=j:=Nat.div_le_self _ _;have:j/W<=16384:=by omega
     exact_mod_cast this
    have hq:((j:Int)/(W:Int)%(K:Int) != 0)=true:=by
     rw[bne_iff_ne];intro e;apply hm;exact_mod_cast e
    replace hm:=Hd hm;go_wp2;go_quiet (fail);go_wp2;go_roundw;case rel =>
     refine⟨⟨j+1,by omega,by go_num,?_⟩,_,rfl⟩;intro t ht C9;by_cases e:t=j;.subst e;exact absurd C9 hm.out
     .exact hp.out t (by omega) C9
    case measure=>simp[intOf];omega
  .have hu:bq K xs W=true:=wX λi hi hm=>hp.out i (by omega) hm;replace hu:=Hd hu;go_wp2;go_ret;exact⟨_,rfl,below_drewN sl n,(by rw[hu.out];rfl)⟩
theorem Xl(K R:Nat)(va:Option Addr)(vn vc:Nat)(xs:List Int)(Wi:Int)(w:World)(hW:1<=Wi)(hdiv:∃q,xs.length=q*(Wi.toNat*K))(h:ae w (.slice va vn vc) xs)(hr:aG K R xs):
 Calls Tryz.prog 50 #[.agg #[.int .i64 K,.int .i64 R,.slice va vn vc],.int .i64 Wi] w (cz (λx _=>x=.bool (bq K xs Wi.toNat)) w):=by
 obtain⟨W,rfl⟩:=Int.eq_ofNat_of_zero_le (show 0<=Wi by omega);obtain⟨q,hq⟩:=hdiv;rw[Int.toNat_natCast] at hq ⊢;exact La K R va vn vc xs W w h hr (by omega) q hq
theorem Tj(K R:Nat)(va:Option Addr)(vn vc:Nat)(xs:List Int)(w:World)(h:ae w (.slice va vn vc) xs)(hr:aG K R xs):
 Calls Tryz.prog 22 #[.agg #[.int .i64 K,.int .i64 R,.slice va vn vc]] w (vf (λx y z _=>x=.bool (bq K xs (xs.length/K))/\y=.bool (bq K xs 1)/\z=.nilIface) w):=by
 have sl:=ab w (.cells #[.int .i64 K,.int .i64 R,.slice va vn vc] 24);have hl:=h.len;have dS:=hr.k1;have hlen:=hr.gN;have hhf:=hr.half;have Hq:=eN (2*R) dS;replace h:=Hd (h.below sl);replace⟨hr,hhf⟩:=bD hr hhf;have hq0:0<=(xs.length:Int)/(K:Int):=Int.ediv_nonneg (by omega) (by omega);have hq1:(xs.length:Int)/(K:Int)<=16384:=by
  have:xs.length/K<=16384:=Nat.le_trans (Nat.div_le_self _ _) hlen;exact_mod_cast this
 have hqw:IntKind.i64.wrap ((xs.length:Int)/(K:Int))=(xs.length:Int)/(K:Int):=db (by omega) (by omega);have hdc:Hid ((xs.length:Int)/(K:Int)=((xs.length/K:Nat):Int)):=by show _=_;simp
 go_enter Tryz.func22,Tryz.ntmps22;go_wp2_with fail;refine(Cm K R _ xs _ h.out hr.out).mono ?_;rintro e w1 ⟨x,rfl,hb,rfl⟩;obtain⟨z0,z1,z2,f0,f1,f2⟩:=oD hb;have hx:=h.out.below hb;have gQ:w.heap.size<w1.heap.size:=World.block_lt_of_cell? _ _ z0;replace hx:=Hd hx;have hK0:((K:Int)==0)=false:=by rw[beq_eq_false_iff_ne];omega
 have Yy:¬ (K:Int)=0:=by omega
 have hK2:(0:Int)<K:=by omega
 have hK3:¬ K=0:=by omega
 have hdc2:Hid (((xs.length:Int)/(K:Int)).toNat=xs.length/K):=by show _=_;rw[hdc.out,Int.toNat_natCast]
 have mq:1<=(xs.length:Int)/(K:Int):=by
  rw[hdc.out,hhf.out.1];omega
 have hd1:Hid (∃q,xs.length=q*(((xs.length:Int)/(K:Int)).toNat*K)):=⟨1,by rw[hdc.out,Int.toNat_natCast,hhf.out.1,Nat.one_mul];exact hhf.out.2⟩;have hd2:Hid (∃q,xs.length=q*((1:Int).toNat*K)):=⟨pw K (2*R),by simpa using hhf.out.2⟩;go_wp2;go_region_held3 (λw'=>w'.cell? ⟨w.heap.size,0,none⟩=some (.int .i64 K)/\w'.cell? ⟨w.heap.size,1,none⟩=some (.int .i64 R)/\w'.cell? ⟨w.heap.size,2,none⟩=some (.slice va vn vc)) (go_keep)
  (first | (go_at_call 50;refine(Xl K R va vn vc xs _ _ (by first | exact mq | decide) (by first | exact hd1.out | exact hd2.out) (by first | exact hx.out.drew | exact hx.out.drew.below nh) hr.out).mono ?_;rintro e w2 ⟨x2,rfl,nh,rfl⟩;have S:=x8 nh (by first | exact S | exact⟨z0,z1,z2⟩);have y0:=S.1;have y1:=S.2.1;have y2:=S.2.2;have bb:Below w1.heap.size w1 w2:=(by first | exact bb.trans (nh.mono bb.size) | exact((Below.refl _ _).drew).trans nh)));go_wp2;go_ret3;exact⟨_,_,_,rfl,Below.step sl (Below.step hb bb),(by rw[<-hdc2.out];rfl),rfl,rfl⟩
theorem GZ{w:World}{ops:Array Oper}{rest:List Oper}{o:Oper}{a:Act}{Q:Exit->Act->World->Prop}(jZ:o.guard=none)(s x:Operand)(ho:o.op=.call { callee:=.builtin .append,args:=#[s,x],argTypes:=#[22,22] })(B:Nat)(v:Value)(xs:List Int)(y:Int)(aO:aj B w v xs)(hs:a.eval s=v)(b:Nat)(hx:a.eval x=.slice (some ⟨b,0,none⟩) 1 1)(hb:b=w.heap.size)(hlen:xs.length<17592186044415)(hB:B<=w.heap.size)(h:∀v' w',aj B w' v' (xs++[y])->Below B w w'->w.grownBy w' v.ownBlock->(v'.ownBlock=v.ownBlock\/∃k,v'.ownBlock=some k/\w.heap.size<=k)->wpList Tryz.prog ops Q rest (a.put o.dst v') w'):
 wpList Tryz.prog ops Q (o::rest) a (w.alloc (.cells #[.int .i64 y] 3)):=by
 subst hb;exact gi jZ s x ho B v xs y aO hs hx hlen hB h
theorem bG(C:Int)(n:Nat)(w:World)(hC:C=n)(hn:n<=17592186044416):
 ∃v w',(Instr.makeSlice 22 (.int .i64 C) (.int .i64 C)).run Tryz.prog w=.ok v w'/\aj w.heap.size w' v (List.replicate n 0)/\Below w.heap.size w w':=by
 subst hC;obtain⟨i,hi,qq,kS,oU⟩:=info_parts Fu;obtain⟨w',qL,r1,r2⟩:=run_make_full (P:=Tryz.prog) w w.heap.size 22 3 i (.int .i64 0) 1 ki hi qq kS .i64 .i64 n (by rw[oU];omega) (by unfold maxLen;omega) (Nat.le_refl _);refine⟨_,w',qL,?_,(Below.refl _ _).grown r2 (Nat.le_refl _) (by intro k hk;cases hk)⟩;have e:(madeCells (Value.cells (.int .i64 0)) (n*1)).toList=(List.replicate n (0:Int)).map (Value.int .i64):=by
  rw[show Value.cells (.int .i64 0)=#[.int .i64 0] from rfl,toList_madeCells_one];simp
 rw[e] at r1;simpa [aj] using r1
def Sm(f:Nat->Int):Nat->Int
 | 0=>0
 | n+1=>Sm f n+f n
theorem Us{f g:Nat->Int}(n:Nat)(h:∀i,i<n->f i=g i):Sm f n=Sm g n:=by
 induction n with
 | zero=>rfl
 | succ n ih=>rw[Sm,Sm,ih λi hi=>h i (by omega),h n (by omega)]
theorem LU(K:Nat)(x:Int)(T:List Int)(n s:Nat)(hn:n<T.length)(hs:s<K):(fJ K x T).getD (n*K+s) 0=(T.getD n 0+x*s)%K:=by
 induction T generalizing n with
 | nil=>simp at hn
 | cons y T ih =>
  have e:fJ K x (y::T)=iz K x y K++fJ K x T:=by simp[fJ]
  rw[e];cases n with
  | zero =>
   have h:s<(iz K x y K).length:=by rw[kz];exact hs
   rw[Nat.zero_mul,Nat.zero_add];simp only[List.getD,List.getElem?_append_left h];simp[iz,hs]
  | succ n =>
   have h:(iz K x y K).length<=(n+1)*K+s:=by rw[kz,Nat.succ_mul];omega
   have e2:(n+1)*K+s-(iz K x y K).length=n*K+s:=by rw[kz,Nat.succ_mul];omega
   have:=ih n (by simpa using hn);simp only[List.getD,List.getElem?_append_right h,e2,List.getElem?_cons_succ] at this ⊢;exact this
theorem Lr{K:Nat}{w:List Int}(h:bj K w){f:List Int}(hl:f.length=w.length):aI K w<(mm K f).length:=by
 rw[pJ,hl];exact gH w h
theorem Wn(K:Nat)(f w:List Int)(hl:f.length=w.length)(hw:bj K w):
 (mm K f).getD (aI K w) 0=Sm (λi=>f.getD i 0*w.getD i 0) f.length%K:=by
 induction hn:f.length generalizing f w with
 | zero =>
  obtain rfl:=List.eq_nil_of_length_eq_zero hn;obtain rfl:=List.eq_nil_of_length_eq_zero (hl.symm.trans hn);simp[mm,jq,aI,Sm]
 | succ n ih =>
  have hf:f≠[]:=by intro e;subst e;simp at hn
  have X6:w≠[]:=by intro e;subst e;simp at hl;exact hf hl
  obtain⟨g,x,rfl⟩:∃g x,f=g++[x]:=⟨f.dropLast,f.getLast hf,(List.dropLast_concat_getLast hf).symm⟩;obtain⟨v,y,rfl⟩:∃v y,w=v++[y]:=⟨w.dropLast,w.getLast X6,(List.dropLast_concat_getLast X6).symm⟩;have hgn:g.length=n:=by simpa using hn
  have SV:g.length=v.length:=by simpa using hl
  have hv:bj K v:=λz hz=>hw z (by simp[hz]);have hy:=hw y (by simp);rw[cp,mm,vw];have:=LU K x (jq K [0] g) (aI K v) y.toNat (Lr hv SV) (by omega);rw[this,show(jq K [0] g).getD (aI K v) 0=(mm K g).getD (aI K v) 0 from rfl,ih g v SV hv hgn,Int.emod_add_emod,Sm];congr 2;.refine Us _ λi hi=>?_;rw[<-hgn] at hi;simp only[List.getD,List.getElem?_append_left hi,List.getElem?_append_left (show i<v.length by omega)]
  .have e1:(g++[x]).getD n 0=x:=by rw[<-hgn];simp[List.getD]
   have e2:(v++[y]).getD n 0=y:=by rw[<-hgn,SV];simp[List.getD]
   rw[e1,e2];rw[show((y.toNat:Nat):Int)=y by omega]
def aV(K:Nat):Nat->Nat->List Int
 | 0,_=>[]
 | n+1,x=>aV K n (x/K)++[((x%K:Nat):Int)]
theorem aK(K n x:Nat):(aV K n x).length=n:=by
 induction n generalizing x with
 | zero=>rfl
 | succ n ih=>simp[aV,ih]
theorem fM{K:Nat}(hK:1<=K)(n x:Nat):bj K (aV K n x):=by
 induction n generalizing x with
 | zero=>intro y hy;simp[aV] at hy
 | succ n ih =>
  intro y hy;rw[aV,List.mem_append,List.mem_singleton] at hy;rcases hy with hy | rfl;.exact ih _ y hy
  .have:=Nat.mod_lt x (show 0<K by omega);omega
theorem j6{K:Nat}(hK:1<=K)(n x:Nat)(hx:x<pw K n):aI K (aV K n x)=x:=by
 induction n generalizing x with
 | zero=>simp[pw] at hx;subst hx;rfl
 | succ n ih =>
  rw[aV,cp,ih _ (by rw[Nat.div_lt_iff_lt_mul (by omega),<-dW];exact hx),Int.toNat_natCast];exact Nat.div_add_mod' x K
def eM(K R:Nat)(T:List Int)(w:List Int):List Int:=(List.range (w.length-2*R)).map λi=>T.getD (aI K ((w.drop i).take (2*R+1))) 0
theorem aM(K R:Nat)(T w:List Int):(eM K R T w).length=w.length-2*R:=by simp[eM]
theorem gj(K R:Nat)(T w:List Int)(i:Nat)(hi:i<w.length-2*R):(eM K R T w).getD i 0=T.getD (aI K ((w.drop i).take (2*R+1))) 0:=by
 simp[eM,List.getD,hi]
theorem Pq{K:Nat}(hK:1<=K){R:Nat}{T w:List Int}(hT:bj K T):bj K (eM K R T w):=by
 intro y hy;obtain⟨i,_,rfl⟩:=List.mem_map.1 hy;exact hT.getD (by omega) _
theorem pK(K:Nat)(u v:List Int):aI K (u++v)=aI K u*pw K v.length+aI K v:=by
 induction hn:v.length generalizing v with
 | zero =>
  obtain rfl:=List.eq_nil_of_length_eq_zero hn;simp[aI,pw]
 | succ n ih =>
  have bM:v≠[]:=by intro e;subst e;simp at hn
  obtain⟨b,x,rfl⟩:∃b x,v=b++[x]:=⟨v.dropLast,v.getLast bM,(List.dropLast_concat_getLast bM).symm⟩;have hb:b.length=n:=by simpa using hn
  rw[<-List.append_assoc,cp,cp,ih b hb,dW,Nat.add_mul,Nat.mul_assoc];omega
theorem JM{K:Nat}{u v:List Int}(h:bj K v):aI K (u++v)%pw K v.length=aI K v:=by
 rw[pK,Nat.mul_comm,Nat.mul_add_mod,Nat.mod_eq_of_lt (gH v h)]
theorem PY{K R:Nat}{T w:List Int}{x:Int}(hT:T.length=pw K (2*R+1))(hw:bj K (w++[x])):
 eM K R T (w++[x])=if 2*R<=w.length then eM K R T w++[T.getD (aI K (w++[x])%T.length) 0] else eM K R T w:=by
 by_cases h:2*R<=w.length
 .rw[if_pos h];unfold eM;rw[show(w++[x]).length-2*R=(w.length-2*R)+1 by simp;omega,List.range_succ,List.map_append];congr 1;.refine List.map_congr_left λi hi=>?_;have C5:=List.mem_range.1 hi;congr 2;rw[List.drop_append_of_le_length (by omega),List.take_append_of_le_length (by simp;omega)]
  .simp only[List.map_cons,List.map_nil];congr 2;have e:((w++[x]).drop (w.length-2*R)).take (2*R+1)=(w++[x]).drop (w.length-2*R):=List.take_of_length_le (by simp;omega);rw[e,hT];have hl:((w++[x]).drop (w.length-2*R)).length=2*R+1:=by simp;omega
   have:=JM (K:=K) (u:=(w++[x]).take (w.length-2*R)) (v:=(w++[x]).drop (w.length-2*R)) (λy hy=>hw y (List.mem_of_mem_drop hy));rw[List.take_append_drop,hl] at this;exact this.symm
 .rw[if_neg h];unfold eM;rw[show(w++[x]).length-2*R=0 by simp;omega,show w.length-2*R=0 by omega];rfl
theorem Pt(K n x j:Nat)(hj:j<n):(aV K n x).getD (n-1-j) 0=((x/pw K j%K:Nat):Int):=by
 induction n generalizing x j with
 | zero=>omega
 | succ n ih =>
  rw[aV];cases j with
  | zero =>
   rw[Nl,Nat.div_one,show n+1-1-0=(aV K n (x/K)).length by rw[aK];omega];simp[List.getD]
  | succ j =>
   have h:=ih (x/K) j (by omega);have hl:n+1-1-(j+1)<(aV K n (x/K)).length:=by rw[aK];omega
   simp only[List.getD,List.getElem?_append_left hl] at h ⊢;rw[show n+1-1-(j+1)=n-1-j by omega,h,dW,Nat.div_div_eq_div_mul,Nat.mul_comm]
theorem yU(K n x j:Nat)(hj:j<n)(p:List Int)(hp:p.length=n):
 (p.take (n-j)++(aV K n x).drop (n-j)).set (n-1-j) ((x/pw K j%K:Nat):Int)=p.take (n-(j+1))++(aV K n x).drop (n-(j+1)):=by
 have hd:=Pt K n x j hj;have oQ:=aK K n x;rw[show n-(j+1)=n-1-j by omega,show n-j=n-1-j+1 by omega];have hm:n-1-j<n:=by omega
 generalize n-1-j=m at hd hm;rw[<-hd,gR p m (by omega),List.drop_eq_getElem_cons (show m<(aV K n x).length by omega),List.append_assoc,List.set_append_right _ _ (by simp;omega)];have e:m-(p.take m).length=0:=by simp;omega
 rw[e];simp[List.getD,show m<(aV K n x).length by omega]
theorem qV(K:Nat)(s:Int)(u:List Int):aI K (s::u)=s.toNat*pw K u.length+aI K u:=by
 have:=pK K [s] u;simpa [aI] using this
theorem iH{K:Nat}(hK:1<=K)(w:List Int)(h:bj K w):aV K w.length (aI K w)=w:=by
 induction hn:w.length generalizing w with
 | zero=>obtain rfl:=List.eq_nil_of_length_eq_zero hn;rfl
 | succ n ih =>
  have bM:w≠[]:=by intro e;subst e;simp at hn
  obtain⟨b,x,rfl⟩:∃b x,w=b++[x]:=⟨w.dropLast,w.getLast bM,(List.dropLast_concat_getLast bM).symm⟩;have hb:b.length=n:=by simpa using hn
  have hx:=h x (by simp);have zB:x.toNat<K:=by omega
  have:=ih b (λy hy=>h y (by simp[hy])) hb;rw[aV,cp];rw[show(aI K b*K+x.toNat)/K=aI K b by rw[Nat.mul_comm,Nat.mul_add_div (by omega),Nat.div_eq_of_lt zB,Nat.add_zero],this,
   show(aI K b*K+x.toNat)%K=x.toNat by rw[Nat.mul_comm,Nat.mul_add_mod,Nat.mod_eq_of_lt zB]];congr 2;omega
def nG(K n:Nat)(T:List Int):List Int:=(List.range T.length).map λi=>T.getD (aI K (aV K n i).reverse) 0
theorem zD(K n:Nat)(T:List Int):(nG K n T).length=T.length:=by simp[nG]
theorem Qw{K:Nat}(hK:1<=K)(n:Nat){T:List Int}(h:bj K T):bj K (nG K n T):=by
 intro y hy;obtain⟨i,_,rfl⟩:=List.mem_map.1 hy;exact h.getD (by omega) _
theorem yh{K n:Nat}(hK:1<=K){T:List Int}(hT:T.length=pw K n)(w:List Int)(hw:bj K w)(hl:w.length=n):(nG K n T).getD (aI K w) 0=T.getD (aI K w.reverse) 0:=by
 have aT:=gH w hw;rw[hl,<-hT] at aT;have:(nG K n T).getD (aI K w) 0=T.getD (aI K (aV K n (aI K w)).reverse) 0:=by simp[nG,List.getD,aT]
 rw[this,<-hl,iH hK w hw]
theorem xA{K R:Nat}{T:List Int}(h:aG K R T):aG K R (nG K (2*R+1) T) :=
 ⟨h.k1,h.k4,h.r3,by rw[zD];exact h.len,Qw h.k1 _ h.syms⟩
def my(K:Nat)(T:List Int):Bool:=decide (∀i,i<T.length->∀j,j<T.length->i<j->j/K=i/K->T.getD i 0≠T.getD j 0)
theorem F2{K:Nat}{T:List Int}(i j:Nat)(hj:j<T.length)(h:i<j)(hq:j/K=i/K)(e:T.getD i 0=T.getD j 0):my K T=false:=by
 rw[my,decide_eq_false_iff_not];intro hh;exact hh i (by omega) j hj h hq e
theorem I4{K:Nat}{T:List Int}(h:∀i,i<T.length->∀j,j<T.length->i<j->j/K=i/K->T.getD i 0≠T.getD j 0):my K T=true:=by
 rw[my,decide_eq_true_iff];exact h
theorem bits2:∀a b:Fin 2,((0 ||| 2 ^ a.val) ||| 2 ^ b.val==2 ^ 2-1)=decide (a≠b):=by decide
theorem bits3:∀a b c:Fin 3,(((0 ||| 2 ^ a.val) ||| 2 ^ b.val) ||| 2 ^ c.val==2 ^ 3-1)=decide (a≠b/\a≠c/\b≠c):=by decide
theorem bits4:∀a b c d:Fin 4,((((0 ||| 2 ^ a.val) ||| 2 ^ b.val) ||| 2 ^ c.val) ||| 2 ^ d.val==2 ^ 4-1)=decide (a≠b/\a≠c/\a≠d/\b≠c/\b≠d/\c≠d):=by decide +kernel
theorem lD{K:Nat}(h1:1<=K)(h4:K<=4){T:List Int}(hT:bj K T)(W i:Nat):
 pD K T W i=true↔∀s t,s<t->t<K->T.getD (i+s*W) 0≠T.getD (i+t*W) 0:=by
 have hx:∀s,∃a:Fin K,T.getD (i+s*W) 0=(a.val:Int):=λs=>by
  have:=hT.getD (by omega) (i+s*W);exact⟨⟨(T.getD (i+s*W) 0).toNat,by omega⟩,by simp only[];omega⟩
 have hk:K=1\/K=2\/K=3\/K=4:=by omega
 unfold pD;rcases hk with rfl | rfl | rfl | rfl
 .obtain⟨a,ha⟩:=hx 0;simp only[lI,ha,Int.toNat_natCast];have:a.val=0:=by omega
  rw[this];exact⟨λ_ s t h h'=>by omega,λ_=>rfl⟩
 .obtain⟨a,ha⟩:=hx 0;obtain⟨b,hb⟩:=hx 1;simp only[lI,ha,hb,Int.toNat_natCast,bits2,decide_eq_true_iff];constructor
  .intro h s t mT ht;obtain rfl:s=0:=by omega
   obtain rfl:t=1:=by omega
   rw[ha,hb];intro e;exact h (Fin.ext (by omega))
  .intro h e;have:=h 0 1 (by omega) (by omega);rw[ha,hb,e] at this;exact this rfl
 .obtain⟨a,ha⟩:=hx 0;obtain⟨b,hb⟩:=hx 1;obtain⟨c,hc⟩:=hx 2;simp only[lI,ha,hb,hc,Int.toNat_natCast,bits3,decide_eq_true_iff];constructor
  .rintro⟨n1,n2,n3⟩ s t mT ht;have:(s=0/\t=1)\/(s=0/\t=2)\/(s=1/\t=2):=by omega
   rcases this with ⟨rfl,rfl⟩ | ⟨rfl,rfl⟩ | ⟨rfl,rfl⟩;.rw[ha,hb];intro e;exact n1 (Fin.ext (by omega))
   .rw[ha,hc];intro e;exact n2 (Fin.ext (by omega))
   .rw[hb,hc];intro e;exact n3 (Fin.ext (by omega))
  .intro h;refine⟨λe=>?_,λe=>?_,λe=>?_⟩;.have:=h 0 1 (by omega) (by omega);rw[ha,hb,e] at this;exact this rfl
   .have:=h 0 2 (by omega) (by omega);rw[ha,hc,e] at this;exact this rfl
   .have:=h 1 2 (by omega) (by omega);rw[hb,hc,e] at this;exact this rfl
 .obtain⟨a,ha⟩:=hx 0;obtain⟨b,hb⟩:=hx 1;obtain⟨c,hc⟩:=hx 2;obtain⟨d,hd⟩:=hx 3;simp only[lI,ha,hb,hc,hd,Int.toNat_natCast,bits4,decide_eq_true_iff];constructor
  .rintro⟨n1,n2,n3,n4,n5,n6⟩ s t mT ht;have:(s=0/\t=1)\/(s=0/\t=2)\/(s=0/\t=3)\/(s=1/\t=2)\/(s=1/\t=3)\/(s=2/\t=3):=by omega
   rcases this with ⟨rfl,rfl⟩ | ⟨rfl,rfl⟩ | ⟨rfl,rfl⟩ | ⟨rfl,rfl⟩ | ⟨rfl,rfl⟩ | ⟨rfl,rfl⟩;.rw[ha,hb];intro e;exact n1 (Fin.ext (by omega))
   .rw[ha,hc];intro e;exact n2 (Fin.ext (by omega))
   .rw[ha,hd];intro e;exact n3 (Fin.ext (by omega))
   .rw[hb,hc];intro e;exact n4 (Fin.ext (by omega))
   .rw[hb,hd];intro e;exact n5 (Fin.ext (by omega))
   .rw[hc,hd];intro e;exact n6 (Fin.ext (by omega))
  .intro h;refine⟨λe=>?_,λe=>?_,λe=>?_,λe=>?_,λe=>?_,λe=>?_⟩;.have:=h 0 1 (by omega) (by omega);rw[ha,hb,e] at this;exact this rfl
   .have:=h 0 2 (by omega) (by omega);rw[ha,hc,e] at this;exact this rfl
   .have:=h 0 3 (by omega) (by omega);rw[ha,hd,e] at this;exact this rfl
   .have:=h 1 2 (by omega) (by omega);rw[hb,hc,e] at this;exact this rfl
   .have:=h 1 3 (by omega) (by omega);rw[hb,hd,e] at this;exact this rfl
   .have:=h 2 3 (by omega) (by omega);rw[hc,hd,e] at this;exact this rfl
theorem pR{K:Nat}{T:List Int}{W:Nat}:bq K T W=true↔∀i,i<T.length->i/W%K=0->pD K T W i=true :=
 ⟨λh i=>xH h i,wX⟩
theorem vW{K q s m:Nat}(hs:s<K)(hq:q<m):q*K+s<m*K:=by
 have:=Nat.mul_le_mul_right K (show q+1<=m from hq);rw[Nat.succ_mul] at this;omega
theorem Cp{K q s:Nat}(hs:s<K):(q*K+s)/K=q:=by
 rw[Nat.mul_comm,Nat.mul_add_div (by omega),Nat.div_eq_of_lt hs,Nat.add_zero]
theorem Sa{K q s:Nat}(hs:s<K):(q*K+s)%K=s:=by
 rw[Nat.mul_comm,Nat.mul_add_mod,Nat.mod_eq_of_lt hs]
theorem Gy{K R:Nat}{T:List Int}(h:aG K R T):bq K T 1=my K T:=by
 have h1:=h.k1;have hl:=h.half.2;rw[Bool.eq_iff_iff,pR,my,decide_eq_true_iff];constructor;.intro hu i hi j hj Nk hq;have e1:=Nat.div_add_mod' i K;have e2:=Nat.div_add_mod' j K;have m1:=Nat.mod_lt i (show K>0 by omega);have m2:=Nat.mod_lt j (show K>0 by omega);rw[hq] at e2;have:=(lD h1 h.k4 h.syms 1 (i/K*K)).1 (hu _ (by omega) (by rw[Nat.div_one,Nat.mul_mod_left])) (i%K) (j%K) (by omega) m2;rwa [Nat.mul_one,Nat.mul_one,e1,e2] at this
 .intro hr i hi hm;rw[Nat.div_one] at hm;obtain⟨q,rfl⟩:∃q,i=q*K:=⟨i/K,by have:=Nat.div_add_mod' i K;omega⟩;have hq:q<pw K (2*R):=Nat.lt_of_mul_lt_mul_right (a:=K) (by rw[<-hl];exact hi);refine(lD h1 h.k4 h.syms 1 _).2 λs t mT ht=>?_;have l2:=vW ht hq;rw[<-hl] at l2;have:=hr (q*K+s) (by omega) (q*K+t) l2 (by omega) (by rw[Cp ht,Cp (by omega)]);rwa [Nat.mul_one,Nat.mul_one]
theorem ID{K R:Nat}{T:List Int}(h:aG K R T):bq K T (T.length/K)=my K (nG K (2*R+1) T):=by
 have h1:=h.k1;obtain⟨hW,hl⟩:=h.half;have hMl:=zD K (2*R+1) T;have hp:=eN (K:=K) (2*R) h1;rw[hW,Bool.eq_iff_iff,pR,my,decide_eq_true_iff,hMl];have key:∀q s,q<pw K (2*R)->s<K->(nG K (2*R+1) T).getD (q*K+s) 0=T.getD (aI K (aV K (2*R) q).reverse+s*pw K (2*R)) 0:=by
  intro q s hq hs;have YX:bj K (aV K (2*R) q++[(s:Int)]):=by
   intro y hy;rcases List.mem_append.1 hy with hy | hy;.exact fM h1 _ _ y hy
   .rw[List.mem_singleton] at hy;subst hy;omega
  have:=yh h1 h.len (aV K (2*R) q++[(s:Int)]) YX (by simp[aK]);rw[cp,j6 h1 _ _ hq,Int.toNat_natCast,List.reverse_append,List.reverse_singleton,List.singleton_append,qV,Int.toNat_natCast,List.length_reverse,aK,Nat.add_comm (s*_)] at this;exact this
 have rsy:∀q,bj K (aV K (2*R) q).reverse:=λq y hy=>fM h1 _ _ y (List.mem_reverse.1 hy);have rlt:∀q,aI K (aV K (2*R) q).reverse<pw K (2*R):=λq=>by
  have:=gH _ (rsy q);rwa [List.length_reverse,aK] at this
 constructor
 .intro hu i hi j hj Nk hq;have e1:=Nat.div_add_mod' i K;have e2:=Nat.div_add_mod' j K;have m1:=Nat.mod_lt i (show K>0 by omega);have m2:=Nat.mod_lt j (show K>0 by omega);rw[hq] at e2;have hqi:i/K<pw K (2*R):=by rw[Nat.div_lt_iff_lt_mul (by omega),<-hl];exact hi
  have a1:=key (i/K) (i%K) hqi m1;have a2:=key (i/K) (j%K) hqi m2;rw[e1] at a1;rw[e2] at a2;rw[a1,a2];have lt:=rlt (i/K);refine(lD h1 h.k4 h.syms (pw K (2*R)) _).1 (hu _ ?_ ?_) (i%K) (j%K) (by omega) m2;.rw[hl];have:=Nat.mul_le_mul_left (pw K (2*R)) h1;omega
  .rw[Nat.div_eq_of_lt lt,Nat.zero_mod]
 .intro hr i hi hm;have hiW:i<pw K (2*R):=by
   have oQ:i/pw K (2*R)<K:=by rw[Nat.div_lt_iff_lt_mul (by omega),Nat.mul_comm,<-hl];exact hi
   rw[Nat.mod_eq_of_lt oQ] at hm;have:=Nat.div_add_mod i (pw K (2*R));have:=Nat.mod_lt i (show pw K (2*R)>0 by omega);rw[hm] at *;omega
  refine(lD h1 h.k4 h.syms (pw K (2*R)) i).2 λs t mT ht=>?_;have hq:=rlt i;have a1:=key _ s hq (by omega);have a2:=key _ t hq ht;have back:aI K (aV K (2*R) (aI K (aV K (2*R) i).reverse)).reverse=i:=by
   have:=iH h1 _ (rsy i);rw[List.length_reverse,aK] at this;rw[this,List.reverse_reverse,j6 h1 _ _ hiW]
  rw[back] at a1 a2;rw[<-a1,<-a2];have l2:=vW ht hq;rw[<-hl] at l2;exact hr _ (by omega) _ l2 (by omega) (by rw[Cp ht,Cp (by omega)])
theorem OA{K:Nat}{u:List Int}{s:Int}(h:bj K (u++[s])):aI K ((u++[s]).drop 1)=aI K (u++[s])%pw K u.length:=by
 have hl:((u++[s]).drop 1).length=u.length:=by simp
 have:=JM (K:=K) (u:=(u++[s]).take 1) (v:=(u++[s]).drop 1) (λy hy=>h y (List.mem_of_mem_drop hy));rw[List.take_append_drop,hl] at this;exact this.symm
theorem DV{K:Nat}{s:Int}{u:List Int}(h0:0<=s)(h1:s<K)(hu:bj K u):bj K (s::u):=by
 intro y hy;rcases List.mem_cons.1 hy with rfl | hy;.exact⟨h0,h1⟩
 .exact hu y hy
theorem uM{K:Nat}{s:Int}{u:List Int}(h0:0<=s)(h1:s<K)(hu:bj K u):bj K (u++[s]):=by
 intro y hy;rcases List.mem_append.1 hy with hy | hy;.exact hu y hy
 .rw[List.mem_singleton] at hy;subst hy;exact⟨h0,h1⟩
theorem iy{K:Nat}{u:List Int}(hu:bj K u):bj K u.reverse:=λy hy=>hu y (List.mem_reverse.1 hy)
def To(K m:Nat)(T:List Int):Prop:=∀u,bj K u->u.length=m->∀s t:Int,0<=s->s<K->0<=t->t<K->s≠t->T.getD (aI K (s::u)) 0≠T.getD (aI K (t::u)) 0
def Lp(K m:Nat)(T:List Int):Prop:=∀u,bj K u->u.length=m->∀s t:Int,0<=s->s<K->0<=t->t<K->s≠t->T.getD (aI K (u++[s])) 0≠T.getD (aI K (u++[t])) 0
theorem xB{K R:Nat}{T:List Int}(h:aG K R T):bq K T (T.length/K)=true↔To K (2*R) T:=by
 have h1:=h.k1;obtain⟨hW,hl⟩:=h.half;have hp:=eN (K:=K) (2*R) h1;rw[hW,pR];constructor
 .intro hu u YX yA s t Ju Hv L0 ht1 bM;have aT:=gH u YX;rw[yA] at aT;have hf:=hu (aI K u) (by rw[hl];have:=Nat.mul_le_mul_left (pw K (2*R)) h1;omega) (by rw[Nat.div_eq_of_lt aT,Nat.zero_mod]);have hf:=(lD h1 h.k4 h.syms (pw K (2*R)) _).1 hf;rw[qV,qV,yA,Nat.add_comm (s.toNat*_),Nat.add_comm (t.toNat*_)];rcases Nat.lt_or_ge s.toNat t.toNat with mT | mT;.exact hf _ _ mT (by omega)
  .exact(hf t.toNat s.toNat (by omega) (by omega)).symm
 .intro hw i hi hm;have hiW:i<pw K (2*R):=by
   have oQ:i/pw K (2*R)<K:=by rw[Nat.div_lt_iff_lt_mul (by omega),Nat.mul_comm,<-hl];exact hi
   rw[Nat.mod_eq_of_lt oQ] at hm;have:=Nat.div_add_mod i (pw K (2*R));have:=Nat.mod_lt i (show pw K (2*R)>0 by omega);rw[hm] at *;omega
  refine(lD h1 h.k4 h.syms (pw K (2*R)) i).2 λs t mT ht=>?_;have:=hw (aV K (2*R) i) (fM h1 _ _) (aK ..) s t (by omega) (by omega) (by omega) (by omega) (by omega);rwa [qV,qV,aK,j6 h1 _ _ hiW,Int.toNat_natCast,Int.toNat_natCast,Nat.add_comm (s*_),Nat.add_comm (t*_)] at this
theorem qd{K R:Nat}{T:List Int}(h:aG K R T):bq K T 1=true↔Lp K (2*R) T:=by
 have h1:=h.k1;obtain⟨hW,hl⟩:=h.half;rw[pR];constructor
 .intro hu u YX yA s t Ju Hv L0 ht1 bM;have aT:=gH u YX;rw[yA] at aT;have hf:=hu (aI K u*K) (by rw[hl];exact Nat.mul_lt_mul_of_pos_right aT (by omega)) (by rw[Nat.div_one,Nat.mul_mod_left]);have hf:=(lD h1 h.k4 h.syms 1 _).1 hf;rw[cp,cp];rcases Nat.lt_or_ge s.toNat t.toNat with mT | mT;.have:=hf _ _ mT (by omega);rwa [Nat.mul_one,Nat.mul_one] at this
  .have:=(hf t.toNat s.toNat (by omega) (by omega)).symm;rwa [Nat.mul_one,Nat.mul_one] at this
 .intro hw i hi hm;rw[Nat.div_one] at hm;obtain⟨q,rfl⟩:∃q,i=q*K:=⟨i/K,by have:=Nat.div_add_mod' i K;omega⟩;have hq:q<pw K (2*R):=Nat.lt_of_mul_lt_mul_right (a:=K) (by rw[<-hl];exact hi);refine(lD h1 h.k4 h.syms 1 _).2 λs t mT ht=>?_;have:=hw (aV K (2*R) q) (fM h1 _ _) (aK ..) s t (by omega) (by omega) (by omega) (by omega) (by omega);rwa [cp,cp,j6 h1 _ _ hq,Int.toNat_natCast,Int.toNat_natCast,<-Nat.mul_one s,<-Nat.mul_one t] at this
theorem On{K R:Nat}{T:List Int}(h:aG K R T):To K (2*R) (nG K (2*R+1) T)↔Lp K (2*R) T:=by
 have e:∀(u:List Int) (s:Int),bj K u->u.length=2*R->0<=s->s<K->(nG K (2*R+1) T).getD (aI K (s::u)) 0=T.getD (aI K (u.reverse++[s])) 0:=λu s hu hl h0 h1=>by
  have:=yh h.k1 h.len (s::u) (DV h0 h1 hu) (by simp[hl]);rwa [List.reverse_cons] at this
 constructor;.intro hw u hu hl s t a b c d bM;have:=hw u.reverse (iy hu) (by simpa using hl) s t a b c d bM;rwa [e _ _ (iy hu) (by simpa using hl) a b,e _ _ (iy hu) (by simpa using hl) c d,List.reverse_reverse] at this
 .intro hw u hu hl s t a b c d bM;rw[e _ _ hu hl a b,e _ _ hu hl c d];exact hw u.reverse (iy hu) (by simpa using hl) s t a b c d bM
theorem MU{K R:Nat}{T:List Int}(h:aG K R T):Lp K (2*R) (nG K (2*R+1) T)↔To K (2*R) T:=by
 have e:∀(u:List Int) (s:Int),bj K u->u.length=2*R->0<=s->s<K->(nG K (2*R+1) T).getD (aI K (u++[s])) 0=T.getD (aI K (s::u.reverse)) 0:=λu s hu hl h0 h1=>by
  have:=yh h.k1 h.len (u++[s]) (uM h0 h1 hu) (by simp[hl]);rwa [List.reverse_append,List.reverse_singleton,List.singleton_append] at this
 constructor;.intro hw u hu hl s t a b c d bM;have:=hw u.reverse (iy hu) (by simpa using hl) s t a b c d bM;rwa [e _ _ (iy hu) (by simpa using hl) a b,e _ _ (iy hu) (by simpa using hl) c d,List.reverse_reverse] at this
 .intro hw u hu hl s t a b c d bM;rw[e _ _ hu hl a b,e _ _ hu hl c d];exact hw u.reverse (iy hu) (by simpa using hl) s t a b c d bM
theorem Eo{K R:Nat}{T:List Int}(h:aG K R T):
 bq K (nG K (2*R+1) T) ((nG K (2*R+1) T).length/K)=bq K T 1/\bq K (nG K (2*R+1) T) 1=bq K T (T.length/K):=by
 constructor;.rw[Bool.eq_iff_iff,xB (xA h),qd h,On h]
 .rw[Bool.eq_iff_iff,qd (xA h),xB h,MU h]
def begins(n:Nat)(ends l:List Int):Bool:=decide (n<=l.length)&&decide (l.take n=ends)
theorem rX{K:Nat}(hK:1<=K)(j:Nat):aI K (List.replicate j ((K:Int)-1))+1=pw K j:=by
 induction j with
 | zero=>rfl
 | succ j ih =>
  rw[List.replicate_succ',cp,dW,<-ih];have:((K:Int)-1).toNat=K-1:=by omega
  rw[this,Nat.add_mul];omega
theorem Di(K j:Nat):aI K (List.replicate j 0)=0:=by
 induction j with
 | zero=>rfl
 | succ j ih=>rw[List.replicate_succ',cp,ih];simp
theorem Qx{K n x:Nat}(hK:1<=K)(hx:x<pw K n)(u:List Int)(a:Int)(j:Nat)(h:aV K n x=u++[a]++List.replicate j ((K:Int)-1))(ha:a<(K:Int)-1):
 aV K n (x+1)=u++[a+1]++List.replicate j 0:=by
 have hs:=fM hK n x;have hl:=congrArg List.length h;have hn:=congrArg (aI K) h;rw[aK] at hl;rw[j6 hK _ _ hx,pK,List.length_replicate,cp] at hn;rw[h] at hs;have hu:bj K u:=λy hy=>hs y (by simp[hy]);have ha0:=hs a (by simp);have hw:bj K (u++[a+1]++List.replicate j 0):=by
  intro y hy;rcases List.mem_append.1 hy with hy | hy;.exact uM (by omega) (by omega) hu y hy
  .have:=List.eq_of_mem_replicate hy;omega
 have e:=iH hK _ hw;have hlen:(u++[a+1]++List.replicate j 0).length=n:=by simp at hl ⊢;omega
 rw[hlen] at e;rw[<-e];congr 1;rw[pK,List.length_replicate,cp,Di,show(a+1).toNat=a.toNat+1 by omega,<-Nat.add_assoc,Nat.add_mul (aI K u*K+a.toNat)];have:=rX hK j;omega
theorem OY{K n x:Nat}(hK:1<=K)(hx:x<pw K n)(h:aV K n x=List.replicate n ((K:Int)-1)):x+1=pw K n:=by
 have hn:=congrArg (aI K) h;rw[j6 hK _ _ hx] at hn;rw[hn,rX hK]
theorem OS(K n:Nat):aV K n 0=List.replicate n 0:=by
 induction n with
 | zero=>rfl
 | succ n ih=>rw[aV,Nat.zero_div,ih,List.replicate_succ'];simp
theorem Ub(u:List Int)(a y:Int)(r:List Int):(u++[a]++r).set u.length y=u++[y]++r:=by
 rw[List.append_assoc,List.set_append_right _ _ (by omega)];simp
end Go.Proofs.YtgjfejfeoofkhaaGreatDoor
