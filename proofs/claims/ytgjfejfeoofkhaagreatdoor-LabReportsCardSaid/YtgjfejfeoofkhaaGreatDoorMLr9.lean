/-
  Texts that the proof leans on.
-/
import Derived.Test.YtgjfejfeoofkhaaGreatDoorMLr8
import Derived.Maps.OwnSet
import Derived.WalkArith
import Derived.Deep.LoopGhost
import Derived.Deep.DeepCutAuto
import Derived.BigQuiet
set_option maxHeartbeats 8000000
set_option maxRecDepth 100000
namespace Go.Proofs.YtgjfejfeoofkhaaGreatDoor
open Go.RowKit Go.Maps
theorem ym:Tryz.prog.underlying 3=some (.int .i64):=by kernel_rfl
theorem Om:Tryz.prog.underlying 246=some (.map 3 3):=by kernel_rfl
theorem CF:Keyed Tryz.prog 3:=int_keyed ym
theorem Z9(w:World):(zeroValue 3).run Tryz.prog w=.ok (.int .i64 0) w:=by kernel_rfl
def gh(w:World)(b n:Nat)(M:Int->Option Int)(s:Nat):Prop :=
 ∃D:DataW Unit,w.ownsMap Tryz.prog 3 (plainElem Tryz.prog 3) b n D/\Maps.size D=s /\
  ∀k,(Lit.int .i64 k).wf=true->Maps.has D (.int .i64 k)=(M k).isSome/\∀x,M k=some x->D.atKey (.int .i64 k) (.lit (.int .i64 0))=.lit (.int .i64 x)
theorem gh.made(w:World):gh (w.alloc (.map #[] 0)) w.heap.size 0 (λ_=>none) 0 :=
 ⟨_,World.ownsMap_made w Tryz.prog 3 _,rfl,λk _=>⟨rfl,λx h=>by cases h⟩⟩
theorem gh.vq{w:World}{b n s:Nat}{M:Int->Option Int}(h:gh w b n M s):∃es c,w.heap[b]?=some (.map es c):=by
 obtain⟨D,⟨es,c,hb,_⟩,_⟩:=h;exact⟨es,c,hb⟩
theorem gh.kept{w w':World}{b n s:Nat}{M:Int->Option Int}{row:Option Nat}(h:gh w b n M s)(hg:w.grownBy w' row)(bM:some b≠row):gh w' b n M s:=by
 obtain⟨D,h1,h2⟩:=h;exact⟨D,h1.kept hg bM,h2⟩
theorem gh.drew{w:World}{b n s:Nat}{M:Int->Option Int}(h:gh w b n M s):gh w.drew b n M s:=h
theorem gh.len{w:World}{b n s:Nat}{M:Int->Option Int}(h:gh w b n M s)(ty:TypeId):(Builtin.len_ #[246] ty #[.map (some b)]).run Tryz.prog w=.ok (.int .i64 s) w:=by
 obtain⟨D,h1,rfl,_⟩:=h;exact h1.len Om ty
theorem gh.U7{w:World}{b n s:Nat}{M:Int->Option Int}(h:gh w b n M s)(k:Int)(hk:(Lit.int .i64 k).wf=true):
 ∃c:Int,(Instr.lookup 246 (.map (some b)) (.int .i64 k) true).run Tryz.prog w=.ok (.tuple #[.int .i64 c,.bool (M k).isSome]) w:=by
 obtain⟨D,h1,_,h3⟩:=h;obtain⟨v,ps,hr,hv⟩:=h1.look_ok CF Om (Z9 w) (plainElem_int ym (by decide)) (keyOf_int_mk ym hk);obtain⟨c,rfl,_,_⟩:=plainElem_int_inv ym hv;exact⟨c,by rw[hr,(h3 k hk).1]⟩
theorem gh.look{w:World}{b n s:Nat}{M:Int->Option Int}(h:gh w b n M s)(k x:Int)(hk:(Lit.int .i64 k).wf=true)(hx:M k=some x):
 (Instr.lookup 246 (.map (some b)) (.int .i64 k) false).run Tryz.prog w=.ok (.int .i64 x) w:=by
 obtain⟨D,h1,_,h3⟩:=h;obtain⟨c,hr,hc,_⟩:=h1.lookup_int CF Om ym (Z9 w) (keyOf_int_mk ym hk);rw[(h3 k hk).2 x hx] at hc;injection hc with hc;injection hc with _ hc;rw[hr,hc]
theorem gh.store{w:World}{b n s:Nat}{M:Int->Option Int}(h:gh w b n M s)(k x:Int)(hk:(Lit.int .i64 k).wf=true)(hx:(Lit.int .i64 x).wf=true)(hM:M k=none)(hn:n<1000000):
 ∃w',(Instr.mapUpdate 246 (.map (some b)) (.int .i64 k) (.int .i64 x)).run Tryz.prog w=.ok () w'/\gh w' b (n+1) (AA M k x) (s+1)/\w.grownBy w' (some b):=by
 obtain⟨D,h1,h2,h3⟩:=h;have hT:=h1.tidy CF;have hI:=h1.isMap;obtain⟨w',hr,ho,hg⟩:=h1.update CF Om (by unfold maxLen;omega) (keyOf_int_mk ym hk) (plainElem_int ym hx);have sr:WideAt.IsKeyLit (Lit.int .i64 k):=CF.key (keyOf_int_mk ym hk);refine⟨w',hr,⟨_,ho,?_,λq hq=>?_⟩,hg⟩;.rw[Maps.size_put hT,(h3 k hk).1,hM,h2];rfl
 .by_cases e:q=k;.subst e;refine⟨by rw[Maps.has_put_same hI sr];simp[AA],λy hy=>?_⟩;simp[AA] at hy;subst hy;exact Maps.atKey_put_same hI sr _ _
  .have bM:(Lit.int .i64 q)≠(Lit.int .i64 k):=λh=>e (by injection h);refine⟨by rw[Maps.has_put_other bM,(h3 q hq).1];simp[AA,e],λy hy=>?_⟩;rw[Maps.atKey_put_other bM];exact(h3 q hq).2 y (by simpa [AA,e] using hy)
theorem Ua{B:Nat}{w w':World}{b:Nat}{es:Array MapEntry}{c:Nat}{v:Value}{xs:List Int}(h:aj B w v xs)(hb:w.heap[b]?=some (.map es c))(hg:w.grownBy w' (some b)):aj B w' v xs:=by
 refine World.ownsRow.kept h hg ?_;rcases h.2 with ⟨e,_⟩ | ⟨g,cap,cur,e,_,hh,_⟩;.left;rw[e];rfl
 .right;rw[e];intro q;have:g=b:=by injection q
  subst this;rw[hh] at hb;cases hb
open Go.RowKit
def eU:Names:=λi=>if i=(3,0) then some (aD (.slice none 0 0) []) else if i=(5,0) then some ⟨268,2,.slice none 0 0,0,[]⟩ else none
theorem rows0(B:Nat)(w:World):Rows B w eU:=by
 refine⟨λi r hi=>?_,λi j r s hi hj bM=>?_⟩
 .unfold eU at hi;split at hi;.injection hi with hi;subst hi;exact aj.nil B w
  .split at hi;.injection hi with hi;subst hi;exact World.ownsRow_nil w B _ 2
   .cases hi
 .left;unfold eU at hi;split at hi;.injection hi with hi;subst hi;rfl
  .split at hi;.injection hi with hi;subst hi;rfl
   .cases hi
theorem IV(n:Nat):dQ n (λ_=>0)=List.replicate n 0:=by
 unfold dQ;apply List.ext_getElem<;>simp
theorem U2(n:Nat):gO n (λ_=>-1)=List.replicate n (-1):=by
 unfold gO;apply List.ext_getElem<;>simp
theorem fQ{B:Nat}{W:World}{f:Names}{na:Option Addr}{gl nc n:Nat}{lv fv pv:Value}(hr:Rows B W f)(hB:B<=W.heap.size)(h1:f (1,0)=some (aD lv (List.replicate n 0)))(h2:f (2,0)=some (aD fv (List.replicate n 0)))(h4:f (4,0)=some (aD pv (List.replicate n (-1))))(h3:f (3,0)=some (aD (.slice none 0 0) []))(h5:f (5,0)=some ⟨268,2,.slice none 0 0,0,[]⟩):
 Rows B (W.alloc (.cells #[.slice na gl nc,lv,fv,.slice none 0 0,pv,.slice none 0 0,.int .i64 0] 244)) (ch f (0,0) (some ⟨244,7,.slice (some ⟨W.heap.size,0,none⟩) 1 1,1,[.slice na gl nc,lv,fv,.slice none 0 0,pv,.slice none 0 0,.int .i64 0]⟩)) /\
  SN (ch f (0,0) (some ⟨244,7,.slice (some ⟨W.heap.size,0,none⟩) 1 1,1,[.slice na gl nc,lv,fv,.slice none 0 0,pv,.slice none 0 0,.int .i64 0]⟩)) W.heap.size (.slice na gl nc) lv fv pv (.slice none 0 0) (.slice none 0 0) n xX:=by
 refine⟨hr.add (ab W _) ⟨rfl,.inr ⟨W.heap.size,1,_,rfl,hB,heap_alloc_new W _,Nat.le_refl _,by unfold maxLen;omega,rfl,rfl⟩⟩ (λk hk=>by cases hk;exact Nat.le_refl _),⟨ah _ _ _,?_,?_,?_,?_,?_⟩⟩;.rw[ad _ _ (by simp),h1];show _=some (aD lv (dQ n λ_=>0));rw[IV]
 .rw[ad _ _ (by simp),h2];show _=some (aD fv (dQ n λ_=>0));rw[IV]
 .rw[ad _ _ (by simp),h3];rfl
 .rw[ad _ _ (by simp),h4];show _=some (aD pv (gO n λ_=>-1));rw[U2]
 .rw[ad _ _ (by simp),h5];rfl
def QQ(r:Nat->Addr)(w:World)(G:List (List Int))(x y:Value)(w':World):Prop :=
 bf r w' (cH G) y/\(cH G=none->∃ps,rY G.length (aq G) ps/\aj w.heap.size w' x ps)/\(cH G≠none->x=.slice none 0 0)
theorem EK(r:Nat->Addr)(na:Option Addr)(nc:Nat)(G:List (List Int))(w:World)(hg:ck r w)(h:bh w (.slice na G.length nc) G)(gQ:∀k,k<G.length->(G.getD k []).length<=17592186044416):
 Calls Tryz.prog 128 #[.slice na G.length nc] w (jf (QQ r w G) w):=by
 have hC:=tJ r na nc G w hg h gQ;cases fK:cH G with
 | some t =>
  rw[fK] at hC;replace⟨fK,h,hg,gQ⟩:=gF fK h hg gQ;go_enter Tryz.func128,Tryz.ntmps128;go_wp2_with fail;refine hC.mono ?_;rintro e w1 ⟨y,rfl,b1,he⟩;obtain⟨T,a,rfl⟩:=he.bX;replace he:=Hd he;go_wp2;go_ret2;exact⟨_,_,rfl,b1,⟨by rw[fK.out];exact he.out,⟨λq=>(by rw[fK.out] at q;cases q),λ_=>rfl⟩⟩⟩
 | none =>
  rw[fK] at hC;obtain⟨hn,sG,bK⟩:=lr fK;replace⟨fK,h,hg,gQ,bK⟩:=mV fK h hg gQ bK;go_enter Tryz.func128,Tryz.ntmps128;go_wp2_with fail;refine hC.mono ?_;rintro e w1 ⟨y,rfl,b1,he⟩;obtain rfl:=he.dG;clear he hC;go_upto_region 5 with fail;go_cut [6] from 14 (λs6 wx=>∃d f lv fv pv,s6=.pointer (some ⟨d,0,none⟩)/\Below w1.heap.size w1 wx/\Rows w1.heap.size wx f/\SN f d (.slice na G.length nc) lv fv pv (.slice none 0 0) (.slice none 0 0) G.length xX);case first =>
   obtain⟨W0,mz⟩:=Ey w1.drew;have b0:Below w1.heap.size w1 W0:=by rw[mz];exact(Below.refl _ _).drew
   have R0:=rows0 w1.heap.size W0;have Cr:=b0.size;refine wp_region_noPanic ?_;refine wp_region_any (by kernel_rfl) ?_;change wpAny _ _ _ _ _ _ _ (World.drew _);rw[<-mz];clear mz;refine oY 0 21 ?_;refine oY 1 22 ?_;refine oY 3 24 ?_;refine oY 6 27 ?_;refine wpAny_ready (rs:=[2,4,5]) (by kernel_rfl) (by simp) (AllReady.cons rfl (λKK hK=>?_) (AllReady.cons rfl (λKK hK=>?_) (AllReady.cons rfl (λKK hK=>?_) (AllReady.nil))))
   .obtain⟨lv,W1,mk,ho,hb⟩:=bG (G.length:Int) G.length W0 rfl (by omega);obtain⟨pT,qi,qf,rfl⟩:=ho.at.shape;go_simp;refine hK _ _ ?_;clear hK KK mk;have R1:=R0.add (i:=(1,0)) (r':=aD (.slice pT qi qf) (List.replicate G.length 0)) hb (ho.mono Cr) (λk hk=>(ho.lt k hk).1);have b1:=b0.trans (hb.mono Cr);have OI:=Nat.le_trans Cr hb.size;clear ho hb R0;refine wpAny_ready (rs:=[4,5]) (by kernel_rfl) (by simp) (AllReady.cons rfl (λKK hK=>?_) (AllReady.cons rfl (λKK hK=>?_) (AllReady.nil)))
    .obtain⟨fv,W2,mk,ho,hb⟩:=bG (G.length:Int) G.length W1 rfl (by omega);obtain⟨ri,qB,rl,rfl⟩:=ho.at.shape;go_simp;refine hK _ _ ?_;clear hK KK mk;have R2:=R1.add (i:=(2,0)) (r':=aD (.slice ri qB rl) (List.replicate G.length 0)) hb (ho.mono OI) (λk hk=>(ho.lt k hk).1);have b2:=b1.trans (hb.mono OI);have mo:=Nat.le_trans OI hb.size;clear ho hb R1;refine wpAny_ready (rs:=[5]) (by kernel_rfl) (by simp) (AllReady.cons rfl (λKK hK=>?_) (AllReady.nil));.go_simp;refine hK _ _ ?_;clear hK KK;have hb:=ab W2 (.cells #[.int .i64 (-1)] 3);have Ba:=(aj.lit W2.heap.size W2 (Nat.le_refl _) [-1] (by simp[maxLen]) #[.int .i64 (-1)] rfl 1 rfl).at;obtain⟨W3,mr⟩:=Ey (W2.alloc (.cells #[.int .i64 (-1)] 3));rw[<-mr];rw[<-mr] at hb Ba;clear mr;have R3:=R2.below hb;have b3:=b2.trans (hb.mono mo);have sS:=Nat.le_trans mo hb.size;clear hb R2;refine wpAny_ready (rs:=[7]) (by kernel_rfl) (by simp) (AllReady.cons rfl (λKK hK=>?_) (AllReady.nil));.go_simp;refine(eR _ (-1) G.length _ Ba (by omega)).mono ?_;rintro e W4 ⟨pv,rfl,hb,ho⟩;obtain⟨pB,py,pz,rfl⟩:=ho.at.shape;refine hK _ _ ?_;clear hK KK;have R4:=R3.add (i:=(4,0)) (r':=aD (.slice pB py pz) (List.replicate G.length (-1))) hb (ho.mono sS) (λk hk=>(ho.lt k hk).1);have b4:=b3.trans (hb.mono sS);have DB:=Nat.le_trans sS hb.size;have hI4:=Ba.below hb;clear ho hb R3 Ba;refine oY 8 29 ?_;have Rb:=fQ (na:=na) (gl:=G.length) (nc:=nc) (n:=G.length) (lv:=.slice pT qi qf) (fv:=.slice ri qB rl) (pv:=.slice pB py pz) R4 DB (by simp[ch]) (by simp[ch]) (by simp[ch]) (by simp[ch,eU]) (by simp[ch,eU]);replace⟨Rb,R4⟩:=bD Rb R4;have bb:=b4.trans ((ab W4 (.cells #[.slice na G.length nc,.slice pT qi qf,.slice ri qB rl,.slice none 0 0,.slice pB py pz,.slice none 0 0,.int .i64 0] 244)).mono DB);refine wpAny_ready (rs:=[9]) (by kernel_rfl) (by simp) (AllReady.cons rfl (λKK hK=>?_) AllReady.nil);go_simp;refine hK _ _ ?_;clear hK KK;refine oY 10 6 ?_;refine wpAny_done (by kernel_rfl) ?_ _;refine NoPanic.normal ?_;go_wp2;go_meet;case rel=>exact⟨_,_,_,_,_,rfl,bb,Rb.out.1,Rb.out.2⟩
    .go_simp;refine hK _ _ ?_;clear hK KK;have hb:=ab W1 (.cells #[.int .i64 (-1)] 3);have hI5:=(aj.lit W1.heap.size W1 (Nat.le_refl _) [-1] (by simp[maxLen]) #[.int .i64 (-1)] rfl 1 rfl).at;obtain⟨W5,pA⟩:=Ey (W1.alloc (.cells #[.int .i64 (-1)] 3));rw[<-pA];rw[<-pA] at hb hI5;clear pA;have R5:=R1.below hb;have b5:=b1.trans (hb.mono OI);have yD:=Nat.le_trans OI hb.size;clear hb R1;refine wpAny_ready (rs:=[4,7]) (by kernel_rfl) (by simp) (AllReady.cons rfl (λKK hK=>?_) (AllReady.cons rfl (λKK hK=>?_) (AllReady.nil)));.obtain⟨fv,W6,mk,ho,hb⟩:=bG (G.length:Int) G.length W5 rfl (by omega);obtain⟨ri,qB,rl,rfl⟩:=ho.at.shape;go_simp;refine hK _ _ ?_;clear hK KK mk;have R6:=R5.add (i:=(2,0)) (r':=aD (.slice ri qB rl) (List.replicate G.length 0)) hb (ho.mono yD) (λk hk=>(ho.lt k hk).1);have b6:=b5.trans (hb.mono yD);have Ky:=Nat.le_trans yD hb.size;have hI6:=hI5.below hb;clear hI5;clear ho hb R5;refine wpAny_ready (rs:=[7]) (by kernel_rfl) (by simp) (AllReady.cons rfl (λKK hK=>?_) (AllReady.nil));.go_simp;refine(eR _ (-1) G.length _ hI6 (by omega)).mono ?_;rintro e W7 ⟨pv,rfl,hb,ho⟩;obtain⟨pB,py,pz,rfl⟩:=ho.at.shape;refine hK _ _ ?_;clear hK KK;have R7:=R6.add (i:=(4,0)) (r':=aD (.slice pB py pz) (List.replicate G.length (-1))) hb (ho.mono Ky) (λk hk=>(ho.lt k hk).1);have b7:=b6.trans (hb.mono Ky);have PC:=Nat.le_trans Ky hb.size;have hI7:=hI6.below hb;clear ho hb R6 hI6;refine oY 8 29 ?_;have Rb:=fQ (na:=na) (gl:=G.length) (nc:=nc) (n:=G.length) (lv:=.slice pT qi qf) (fv:=.slice ri qB rl) (pv:=.slice pB py pz) R7 PC (by simp[ch]) (by simp[ch]) (by simp[ch]) (by simp[ch,eU]) (by simp[ch,eU]);replace⟨Rb,R7⟩:=bD Rb R7;have bb:=b7.trans ((ab W7 (.cells #[.slice na G.length nc,.slice pT qi qf,.slice ri qB rl,.slice none 0 0,.slice pB py pz,.slice none 0 0,.int .i64 0] 244)).mono PC);refine wpAny_ready (rs:=[9]) (by kernel_rfl) (by simp) (AllReady.cons rfl (λKK hK=>?_) AllReady.nil);go_simp;refine hK _ _ ?_;clear hK KK;refine oY 10 6 ?_;refine wpAny_done (by kernel_rfl) ?_ _;refine NoPanic.normal ?_;go_wp2;go_meet;case rel=>exact⟨_,_,_,_,_,rfl,bb,Rb.out.1,Rb.out.2⟩
     .go_simp;refine(eR _ (-1) G.length _ hI5 (by omega)).mono ?_;rintro e W8 ⟨pv,rfl,hb,ho⟩;obtain⟨pB,py,pz,rfl⟩:=ho.at.shape;refine hK _ _ ?_;clear hK KK;have R8:=R5.add (i:=(4,0)) (r':=aD (.slice pB py pz) (List.replicate G.length (-1))) hb (ho.mono yD) (λk hk=>(ho.lt k hk).1);have b8:=b5.trans (hb.mono yD);have Nv:=Nat.le_trans yD hb.size;have hI8:=hI5.below hb;clear ho hb R5 hI5;refine wpAny_ready (rs:=[4]) (by kernel_rfl) (by simp) (AllReady.cons rfl (λKK hK=>?_) (AllReady.nil));.obtain⟨fv,W9,mk,ho,hb⟩:=bG (G.length:Int) G.length W8 rfl (by omega);obtain⟨ri,qB,rl,rfl⟩:=ho.at.shape;go_simp;refine hK _ _ ?_;clear hK KK mk;have R9:=R8.add (i:=(2,0)) (r':=aD (.slice ri qB rl) (List.replicate G.length 0)) hb (ho.mono Nv) (λk hk=>(ho.lt k hk).1);have b9:=b8.trans (hb.mono Nv);have ZT:=Nat.le_trans Nv hb.size;have hI9:=hI8.below hb;clear hI8;clear ho hb R8;refine oY 8 29 ?_;have Rb:=fQ (na:=na) (gl:=G.length) (nc:=nc) (n:=G.length) (lv:=.slice pT qi qf) (fv:=.slice ri qB rl) (pv:=.slice pB py pz) R9 ZT (by simp[ch]) (by simp[ch]) (by simp[ch]) (by simp[ch,eU]) (by simp[ch,eU]);replace⟨Rb,R9⟩:=bD Rb R9;have bb:=b9.trans ((ab W9 (.cells #[.slice na G.length nc,.slice pT qi qf,.slice ri qB rl,.slice none 0 0,.slice pB py pz,.slice none 0 0,.int .i64 0] 244)).mono ZT);refine wpAny_ready (rs:=[9]) (by kernel_rfl) (by simp) (AllReady.cons rfl (λKK hK=>?_) AllReady.nil);go_simp;refine hK _ _ ?_;clear hK KK;refine oY 10 6 ?_;refine wpAny_done (by kernel_rfl) ?_ _;refine NoPanic.normal ?_;go_wp2;go_meet;case rel=>exact⟨_,_,_,_,_,rfl,bb,Rb.out.1,Rb.out.2⟩
   .obtain⟨fv,Qc,mk,ho,hb⟩:=bG (G.length:Int) G.length W0 rfl (by omega);obtain⟨ri,qB,rl,rfl⟩:=ho.at.shape;go_simp;refine hK _ _ ?_;clear hK KK mk;have DO:=R0.add (i:=(2,0)) (r':=aD (.slice ri qB rl) (List.replicate G.length 0)) hb (ho.mono Cr) (λk hk=>(ho.lt k hk).1);have HF:=b0.trans (hb.mono Cr);have Df:=Nat.le_trans Cr hb.size;clear ho hb R0;refine wpAny_ready (rs:=[2,5]) (by kernel_rfl) (by simp) (AllReady.cons rfl (λKK hK=>?_) (AllReady.cons rfl (λKK hK=>?_) (AllReady.nil)))
    .obtain⟨lv,VP,mk,ho,hb⟩:=bG (G.length:Int) G.length Qc rfl (by omega);obtain⟨pT,qi,qf,rfl⟩:=ho.at.shape;go_simp;refine hK _ _ ?_;clear hK KK mk;have Pc:=DO.add (i:=(1,0)) (r':=aD (.slice pT qi qf) (List.replicate G.length 0)) hb (ho.mono Df) (λk hk=>(ho.lt k hk).1);have Du:=HF.trans (hb.mono Df);have WM:=Nat.le_trans Df hb.size;clear ho hb DO;refine wpAny_ready (rs:=[5]) (by kernel_rfl) (by simp) (AllReady.cons rfl (λKK hK=>?_) (AllReady.nil));.go_simp;refine hK _ _ ?_;clear hK KK;have hb:=ab VP (.cells #[.int .i64 (-1)] 3);have YR:=(aj.lit VP.heap.size VP (Nat.le_refl _) [-1] (by simp[maxLen]) #[.int .i64 (-1)] rfl 1 rfl).at;obtain⟨W12,hW12⟩:=Ey (VP.alloc (.cells #[.int .i64 (-1)] 3));rw[<-hW12];rw[<-hW12] at hb YR;clear hW12;have Fx:=Pc.below hb;have mw:=Du.trans (hb.mono WM);have Lc:=Nat.le_trans WM hb.size;clear hb Pc;refine wpAny_ready (rs:=[7]) (by kernel_rfl) (by simp) (AllReady.cons rfl (λKK hK=>?_) (AllReady.nil));.go_simp;refine(eR _ (-1) G.length _ YR (by omega)).mono ?_;rintro e ZK ⟨pv,rfl,hb,ho⟩;obtain⟨pB,py,pz,rfl⟩:=ho.at.shape;refine hK _ _ ?_;clear hK KK;have Pk:=Fx.add (i:=(4,0)) (r':=aD (.slice pB py pz) (List.replicate G.length (-1))) hb (ho.mono Lc) (λk hk=>(ho.lt k hk).1);have AW:=mw.trans (hb.mono Lc);have Y0:=Nat.le_trans Lc hb.size;have hI13:=YR.below hb;clear ho hb Fx YR;refine oY 8 29 ?_;have Rb:=fQ (na:=na) (gl:=G.length) (nc:=nc) (n:=G.length) (lv:=.slice pT qi qf) (fv:=.slice ri qB rl) (pv:=.slice pB py pz) Pk Y0 (by simp[ch]) (by simp[ch]) (by simp[ch]) (by simp[ch,eU]) (by simp[ch,eU]);replace⟨Rb,Pk⟩:=bD Rb Pk;have bb:=AW.trans ((ab ZK (.cells #[.slice na G.length nc,.slice pT qi qf,.slice ri qB rl,.slice none 0 0,.slice pB py pz,.slice none 0 0,.int .i64 0] 244)).mono Y0);refine wpAny_ready (rs:=[9]) (by kernel_rfl) (by simp) (AllReady.cons rfl (λKK hK=>?_) AllReady.nil);go_simp;refine hK _ _ ?_;clear hK KK;refine oY 10 6 ?_;refine wpAny_done (by kernel_rfl) ?_ _;refine NoPanic.normal ?_;go_wp2;go_meet;case rel=>exact⟨_,_,_,_,_,rfl,bb,Rb.out.1,Rb.out.2⟩
    .go_simp;refine hK _ _ ?_;clear hK KK;have hb:=ab Qc (.cells #[.int .i64 (-1)] 3);have PK:=(aj.lit Qc.heap.size Qc (Nat.le_refl _) [-1] (by simp[maxLen]) #[.int .i64 (-1)] rfl 1 rfl).at;obtain⟨W14,hW14⟩:=Ey (Qc.alloc (.cells #[.int .i64 (-1)] 3));rw[<-hW14];rw[<-hW14] at hb PK;clear hW14;have G0:=DO.below hb;have um:=HF.trans (hb.mono Df);have DA:=Nat.le_trans Df hb.size;clear hb DO;refine wpAny_ready (rs:=[2,7]) (by kernel_rfl) (by simp) (AllReady.cons rfl (λKK hK=>?_) (AllReady.cons rfl (λKK hK=>?_) (AllReady.nil)));.obtain⟨lv,W15,mk,ho,hb⟩:=bG (G.length:Int) G.length W14 rfl (by omega);obtain⟨pT,qi,qf,rfl⟩:=ho.at.shape;go_simp;refine hK _ _ ?_;clear hK KK mk;have wF:=G0.add (i:=(1,0)) (r':=aD (.slice pT qi qf) (List.replicate G.length 0)) hb (ho.mono DA) (λk hk=>(ho.lt k hk).1);have MH:=um.trans (hb.mono DA);have Yk:=Nat.le_trans DA hb.size;have hI15:=PK.below hb;clear PK;clear ho hb G0;refine wpAny_ready (rs:=[7]) (by kernel_rfl) (by simp) (AllReady.cons rfl (λKK hK=>?_) (AllReady.nil));.go_simp;refine(eR _ (-1) G.length _ hI15 (by omega)).mono ?_;rintro e W16 ⟨pv,rfl,hb,ho⟩;obtain⟨pB,py,pz,rfl⟩:=ho.at.shape;refine hK _ _ ?_;clear hK KK;have Dd:=wF.add (i:=(4,0)) (r':=aD (.slice pB py pz) (List.replicate G.length (-1))) hb (ho.mono Yk) (λk hk=>(ho.lt k hk).1);have Ma:=MH.trans (hb.mono Yk);have hB16:=Nat.le_trans Yk hb.size;have hI16:=hI15.below hb;clear ho hb wF hI15;refine oY 8 29 ?_;have Rb:=fQ (na:=na) (gl:=G.length) (nc:=nc) (n:=G.length) (lv:=.slice pT qi qf) (fv:=.slice ri qB rl) (pv:=.slice pB py pz) Dd hB16 (by simp[ch]) (by simp[ch]) (by simp[ch]) (by simp[ch,eU]) (by simp[ch,eU]);replace⟨Rb,Dd⟩:=bD Rb Dd;have bb:=Ma.trans ((ab W16 (.cells #[.slice na G.length nc,.slice pT qi qf,.slice ri qB rl,.slice none 0 0,.slice pB py pz,.slice none 0 0,.int .i64 0] 244)).mono hB16);refine wpAny_ready (rs:=[9]) (by kernel_rfl) (by simp) (AllReady.cons rfl (λKK hK=>?_) AllReady.nil);go_simp;refine hK _ _ ?_;clear hK KK;refine oY 10 6 ?_;refine wpAny_done (by kernel_rfl) ?_ _;refine NoPanic.normal ?_;go_wp2;go_meet;case rel=>exact⟨_,_,_,_,_,rfl,bb,Rb.out.1,Rb.out.2⟩
     .go_simp;refine(eR _ (-1) G.length _ PK (by omega)).mono ?_;rintro e W17 ⟨pv,rfl,hb,ho⟩;obtain⟨pB,py,pz,rfl⟩:=ho.at.shape;refine hK _ _ ?_;clear hK KK;have R17:=G0.add (i:=(4,0)) (r':=aD (.slice pB py pz) (List.replicate G.length (-1))) hb (ho.mono DA) (λk hk=>(ho.lt k hk).1);have b17:=um.trans (hb.mono DA);have hB17:=Nat.le_trans DA hb.size;have hI17:=PK.below hb;clear ho hb G0 PK;refine wpAny_ready (rs:=[2]) (by kernel_rfl) (by simp) (AllReady.cons rfl (λKK hK=>?_) (AllReady.nil));.obtain⟨lv,W18,mk,ho,hb⟩:=bG (G.length:Int) G.length W17 rfl (by omega);obtain⟨pT,qi,qf,rfl⟩:=ho.at.shape;go_simp;refine hK _ _ ?_;clear hK KK mk;have R18:=R17.add (i:=(1,0)) (r':=aD (.slice pT qi qf) (List.replicate G.length 0)) hb (ho.mono hB17) (λk hk=>(ho.lt k hk).1);have b18:=b17.trans (hb.mono hB17);have hB18:=Nat.le_trans hB17 hb.size;have hI18:=hI17.below hb;clear hI17;clear ho hb R17;refine oY 8 29 ?_;have Rb:=fQ (na:=na) (gl:=G.length) (nc:=nc) (n:=G.length) (lv:=.slice pT qi qf) (fv:=.slice ri qB rl) (pv:=.slice pB py pz) R18 hB18 (by simp[ch]) (by simp[ch]) (by simp[ch]) (by simp[ch,eU]) (by simp[ch,eU]);replace⟨Rb,R18⟩:=bD Rb R18;have bb:=b18.trans ((ab W18 (.cells #[.slice na G.length nc,.slice pT qi qf,.slice ri qB rl,.slice none 0 0,.slice pB py pz,.slice none 0 0,.int .i64 0] 244)).mono hB18);refine wpAny_ready (rs:=[9]) (by kernel_rfl) (by simp) (AllReady.cons rfl (λKK hK=>?_) AllReady.nil);go_simp;refine hK _ _ ?_;clear hK KK;refine oY 10 6 ?_;refine wpAny_done (by kernel_rfl) ?_ _;refine NoPanic.normal ?_;go_wp2;go_meet;case rel=>exact⟨_,_,_,_,_,rfl,bb,Rb.out.1,Rb.out.2⟩
   .go_simp;refine hK _ _ ?_;clear hK KK;have hb:=ab W0 (.cells #[.int .i64 (-1)] 3);have Ip:=(aj.lit W0.heap.size W0 (Nat.le_refl _) [-1] (by simp[maxLen]) #[.int .i64 (-1)] rfl 1 rfl).at;obtain⟨W19,hW19⟩:=Ey (W0.alloc (.cells #[.int .i64 (-1)] 3));rw[<-hW19];rw[<-hW19] at hb Ip;clear hW19;have R19:=R0.below hb;have b19:=b0.trans (hb.mono Cr);have He:=Nat.le_trans Cr hb.size;clear hb R0;refine wpAny_ready (rs:=[2,4,7]) (by kernel_rfl) (by simp) (AllReady.cons rfl (λKK hK=>?_) (AllReady.cons rfl (λKK hK=>?_) (AllReady.cons rfl (λKK hK=>?_) (AllReady.nil))))
    .obtain⟨lv,W20,mk,ho,hb⟩:=bG (G.length:Int) G.length W19 rfl (by omega);obtain⟨pT,qi,qf,rfl⟩:=ho.at.shape;go_simp;refine hK _ _ ?_;clear hK KK mk;have R20:=R19.add (i:=(1,0)) (r':=aD (.slice pT qi qf) (List.replicate G.length 0)) hb (ho.mono He) (λk hk=>(ho.lt k hk).1);have b20:=b19.trans (hb.mono He);have Oq:=Nat.le_trans He hb.size;have S5:=Ip.below hb;clear Ip;clear ho hb R19;refine wpAny_ready (rs:=[4,7]) (by kernel_rfl) (by simp) (AllReady.cons rfl (λKK hK=>?_) (AllReady.cons rfl (λKK hK=>?_) (AllReady.nil)));.obtain⟨fv,W21,mk,ho,hb⟩:=bG (G.length:Int) G.length W20 rfl (by omega);obtain⟨ri,qB,rl,rfl⟩:=ho.at.shape;go_simp;refine hK _ _ ?_;clear hK KK mk;have R21:=R20.add (i:=(2,0)) (r':=aD (.slice ri qB rl) (List.replicate G.length 0)) hb (ho.mono Oq) (λk hk=>(ho.lt k hk).1);have b21:=b20.trans (hb.mono Oq);have hB21:=Nat.le_trans Oq hb.size;have hI21:=S5.below hb;clear S5;clear ho hb R20;refine wpAny_ready (rs:=[7]) (by kernel_rfl) (by simp) (AllReady.cons rfl (λKK hK=>?_) (AllReady.nil));.go_simp;refine(eR _ (-1) G.length _ hI21 (by omega)).mono ?_;rintro e W22 ⟨pv,rfl,hb,ho⟩;obtain⟨pB,py,pz,rfl⟩:=ho.at.shape;refine hK _ _ ?_;clear hK KK;have R22:=R21.add (i:=(4,0)) (r':=aD (.slice pB py pz) (List.replicate G.length (-1))) hb (ho.mono hB21) (λk hk=>(ho.lt k hk).1);have b22:=b21.trans (hb.mono hB21);have hB22:=Nat.le_trans hB21 hb.size;have hI22:=hI21.below hb;clear ho hb R21 hI21;refine oY 8 29 ?_;have Rb:=fQ (na:=na) (gl:=G.length) (nc:=nc) (n:=G.length) (lv:=.slice pT qi qf) (fv:=.slice ri qB rl) (pv:=.slice pB py pz) R22 hB22 (by simp[ch]) (by simp[ch]) (by simp[ch]) (by simp[ch,eU]) (by simp[ch,eU]);replace⟨Rb,R22⟩:=bD Rb R22;have bb:=b22.trans ((ab W22 (.cells #[.slice na G.length nc,.slice pT qi qf,.slice ri qB rl,.slice none 0 0,.slice pB py pz,.slice none 0 0,.int .i64 0] 244)).mono hB22);refine wpAny_ready (rs:=[9]) (by kernel_rfl) (by simp) (AllReady.cons rfl (λKK hK=>?_) AllReady.nil);go_simp;refine hK _ _ ?_;clear hK KK;refine oY 10 6 ?_;refine wpAny_done (by kernel_rfl) ?_ _;refine NoPanic.normal ?_;go_wp2;go_meet;case rel=>exact⟨_,_,_,_,_,rfl,bb,Rb.out.1,Rb.out.2⟩
     .go_simp;refine(eR _ (-1) G.length _ S5 (by omega)).mono ?_;rintro e W23 ⟨pv,rfl,hb,ho⟩;obtain⟨pB,py,pz,rfl⟩:=ho.at.shape;refine hK _ _ ?_;clear hK KK;have R23:=R20.add (i:=(4,0)) (r':=aD (.slice pB py pz) (List.replicate G.length (-1))) hb (ho.mono Oq) (λk hk=>(ho.lt k hk).1);have MK:=b20.trans (hb.mono Oq);have hB23:=Nat.le_trans Oq hb.size;have hI23:=S5.below hb;clear ho hb R20 S5;refine wpAny_ready (rs:=[4]) (by kernel_rfl) (by simp) (AllReady.cons rfl (λKK hK=>?_) (AllReady.nil));.obtain⟨fv,W24,mk,ho,hb⟩:=bG (G.length:Int) G.length W23 rfl (by omega);obtain⟨ri,qB,rl,rfl⟩:=ho.at.shape;go_simp;refine hK _ _ ?_;clear hK KK mk;have R24:=R23.add (i:=(2,0)) (r':=aD (.slice ri qB rl) (List.replicate G.length 0)) hb (ho.mono hB23) (λk hk=>(ho.lt k hk).1);have Kr:=MK.trans (hb.mono hB23);have hB24:=Nat.le_trans hB23 hb.size;have hI24:=hI23.below hb;clear hI23;clear ho hb R23;refine oY 8 29 ?_;have Rb:=fQ (na:=na) (gl:=G.length) (nc:=nc) (n:=G.length) (lv:=.slice pT qi qf) (fv:=.slice ri qB rl) (pv:=.slice pB py pz) R24 hB24 (by simp[ch]) (by simp[ch]) (by simp[ch]) (by simp[ch,eU]) (by simp[ch,eU]);replace⟨Rb,R24⟩:=bD Rb R24;have bb:=Kr.trans ((ab W24 (.cells #[.slice na G.length nc,.slice pT qi qf,.slice ri qB rl,.slice none 0 0,.slice pB py pz,.slice none 0 0,.int .i64 0] 244)).mono hB24);refine wpAny_ready (rs:=[9]) (by kernel_rfl) (by simp) (AllReady.cons rfl (λKK hK=>?_) AllReady.nil);go_simp;refine hK _ _ ?_;clear hK KK;refine oY 10 6 ?_;refine wpAny_done (by kernel_rfl) ?_ _;refine NoPanic.normal ?_;go_wp2;go_meet;case rel=>exact⟨_,_,_,_,_,rfl,bb,Rb.out.1,Rb.out.2⟩
    .obtain⟨fv,W25,mk,ho,hb⟩:=bG (G.length:Int) G.length W19 rfl (by omega);obtain⟨ri,qB,rl,rfl⟩:=ho.at.shape;go_simp;refine hK _ _ ?_;clear hK KK mk;have R25:=R19.add (i:=(2,0)) (r':=aD (.slice ri qB rl) (List.replicate G.length 0)) hb (ho.mono He) (λk hk=>(ho.lt k hk).1);have b25:=b19.trans (hb.mono He);have Ow:=Nat.le_trans He hb.size;have RU:=Ip.below hb;clear Ip;clear ho hb R19;refine wpAny_ready (rs:=[2,7]) (by kernel_rfl) (by simp) (AllReady.cons rfl (λKK hK=>?_) (AllReady.cons rfl (λKK hK=>?_) (AllReady.nil)));.obtain⟨lv,W26,mk,ho,hb⟩:=bG (G.length:Int) G.length W25 rfl (by omega);obtain⟨pT,qi,qf,rfl⟩:=ho.at.shape;go_simp;refine hK _ _ ?_;clear hK KK mk;have R26:=R25.add (i:=(1,0)) (r':=aD (.slice pT qi qf) (List.replicate G.length 0)) hb (ho.mono Ow) (λk hk=>(ho.lt k hk).1);have Pr:=b25.trans (hb.mono Ow);have hB26:=Nat.le_trans Ow hb.size;have hI26:=RU.below hb;clear RU;clear ho hb R25;refine wpAny_ready (rs:=[7]) (by kernel_rfl) (by simp) (AllReady.cons rfl (λKK hK=>?_) (AllReady.nil));.go_simp;refine(eR _ (-1) G.length _ hI26 (by omega)).mono ?_;rintro e W27 ⟨pv,rfl,hb,ho⟩;obtain⟨pB,py,pz,rfl⟩:=ho.at.shape;refine hK _ _ ?_;clear hK KK;have R27:=R26.add (i:=(4,0)) (r':=aD (.slice pB py pz) (List.replicate G.length (-1))) hb (ho.mono hB26) (λk hk=>(ho.lt k hk).1);have Sd:=Pr.trans (hb.mono hB26);have hB27:=Nat.le_trans hB26 hb.size;have hI27:=hI26.below hb;clear ho hb R26 hI26;refine oY 8 29 ?_;have Rb:=fQ (na:=na) (gl:=G.length) (nc:=nc) (n:=G.length) (lv:=.slice pT qi qf) (fv:=.slice ri qB rl) (pv:=.slice pB py pz) R27 hB27 (by simp[ch]) (by simp[ch]) (by simp[ch]) (by simp[ch,eU]) (by simp[ch,eU]);replace⟨Rb,R27⟩:=bD Rb R27;have bb:=Sd.trans ((ab W27 (.cells #[.slice na G.length nc,.slice pT qi qf,.slice ri qB rl,.slice none 0 0,.slice pB py pz,.slice none 0 0,.int .i64 0] 244)).mono hB27);refine wpAny_ready (rs:=[9]) (by kernel_rfl) (by simp) (AllReady.cons rfl (λKK hK=>?_) AllReady.nil);go_simp;refine hK _ _ ?_;clear hK KK;refine oY 10 6 ?_;refine wpAny_done (by kernel_rfl) ?_ _;refine NoPanic.normal ?_;go_wp2;go_meet;case rel=>exact⟨_,_,_,_,_,rfl,bb,Rb.out.1,Rb.out.2⟩
     .go_simp;refine(eR _ (-1) G.length _ RU (by omega)).mono ?_;rintro e W28 ⟨pv,rfl,hb,ho⟩;obtain⟨pB,py,pz,rfl⟩:=ho.at.shape;refine hK _ _ ?_;clear hK KK;have R28:=R25.add (i:=(4,0)) (r':=aD (.slice pB py pz) (List.replicate G.length (-1))) hb (ho.mono Ow) (λk hk=>(ho.lt k hk).1);have b28:=b25.trans (hb.mono Ow);have hB28:=Nat.le_trans Ow hb.size;have hI28:=RU.below hb;clear ho hb R25 RU;refine wpAny_ready (rs:=[2]) (by kernel_rfl) (by simp) (AllReady.cons rfl (λKK hK=>?_) (AllReady.nil));.obtain⟨lv,W29,mk,ho,hb⟩:=bG (G.length:Int) G.length W28 rfl (by omega);obtain⟨pT,qi,qf,rfl⟩:=ho.at.shape;go_simp;refine hK _ _ ?_;clear hK KK mk;have R29:=R28.add (i:=(1,0)) (r':=aD (.slice pT qi qf) (List.replicate G.length 0)) hb (ho.mono hB28) (λk hk=>(ho.lt k hk).1);have b29:=b28.trans (hb.mono hB28);have hB29:=Nat.le_trans hB28 hb.size;have hI29:=hI28.below hb;clear hI28;clear ho hb R28;refine oY 8 29 ?_;have Rb:=fQ (na:=na) (gl:=G.length) (nc:=nc) (n:=G.length) (lv:=.slice pT qi qf) (fv:=.slice ri qB rl) (pv:=.slice pB py pz) R29 hB29 (by simp[ch]) (by simp[ch]) (by simp[ch]) (by simp[ch,eU]) (by simp[ch,eU]);replace⟨Rb,R29⟩:=bD Rb R29;have bb:=b29.trans ((ab W29 (.cells #[.slice na G.length nc,.slice pT qi qf,.slice ri qB rl,.slice none 0 0,.slice pB py pz,.slice none 0 0,.int .i64 0] 244)).mono hB29);refine wpAny_ready (rs:=[9]) (by kernel_rfl) (by simp) (AllReady.cons rfl (λKK hK=>?_) AllReady.nil);go_simp;refine hK _ _ ?_;clear hK KK;refine oY 10 6 ?_;refine wpAny_done (by kernel_rfl) ?_ _;refine NoPanic.normal ?_;go_wp2;go_meet;case rel=>exact⟨_,_,_,_,_,rfl,bb,Rb.out.1,Rb.out.2⟩
    .go_simp;refine(eR _ (-1) G.length _ Ip (by omega)).mono ?_;rintro e W30 ⟨pv,rfl,hb,ho⟩;obtain⟨pB,py,pz,rfl⟩:=ho.at.shape;refine hK _ _ ?_;clear hK KK;have R30:=R19.add (i:=(4,0)) (r':=aD (.slice pB py pz) (List.replicate G.length (-1))) hb (ho.mono He) (λk hk=>(ho.lt k hk).1);have b30:=b19.trans (hb.mono He);have Pp:=Nat.le_trans He hb.size;have Xt:=Ip.below hb;clear ho hb R19 Ip;refine wpAny_ready (rs:=[2,4]) (by kernel_rfl) (by simp) (AllReady.cons rfl (λKK hK=>?_) (AllReady.cons rfl (λKK hK=>?_) (AllReady.nil)));.obtain⟨lv,W31,mk,ho,hb⟩:=bG (G.length:Int) G.length W30 rfl (by omega);obtain⟨pT,qi,qf,rfl⟩:=ho.at.shape;go_simp;refine hK _ _ ?_;clear hK KK mk;have R31:=R30.add (i:=(1,0)) (r':=aD (.slice pT qi qf) (List.replicate G.length 0)) hb (ho.mono Pp) (λk hk=>(ho.lt k hk).1);have b31:=b30.trans (hb.mono Pp);have hB31:=Nat.le_trans Pp hb.size;have hI31:=Xt.below hb;clear Xt;clear ho hb R30;refine wpAny_ready (rs:=[4]) (by kernel_rfl) (by simp) (AllReady.cons rfl (λKK hK=>?_) (AllReady.nil));.obtain⟨fv,W32,mk,ho,hb⟩:=bG (G.length:Int) G.length W31 rfl (by omega);obtain⟨ri,qB,rl,rfl⟩:=ho.at.shape;go_simp;refine hK _ _ ?_;clear hK KK mk;have R32:=R31.add (i:=(2,0)) (r':=aD (.slice ri qB rl) (List.replicate G.length 0)) hb (ho.mono hB31) (λk hk=>(ho.lt k hk).1);have b32:=b31.trans (hb.mono hB31);have hB32:=Nat.le_trans hB31 hb.size;have hI32:=hI31.below hb;clear hI31;clear ho hb R31;refine oY 8 29 ?_;have Rb:=fQ (na:=na) (gl:=G.length) (nc:=nc) (n:=G.length) (lv:=.slice pT qi qf) (fv:=.slice ri qB rl) (pv:=.slice pB py pz) R32 hB32 (by simp[ch]) (by simp[ch]) (by simp[ch]) (by simp[ch,eU]) (by simp[ch,eU]);replace⟨Rb,R32⟩:=bD Rb R32;have bb:=b32.trans ((ab W32 (.cells #[.slice na G.length nc,.slice pT qi qf,.slice ri qB rl,.slice none 0 0,.slice pB py pz,.slice none 0 0,.int .i64 0] 244)).mono hB32);refine wpAny_ready (rs:=[9]) (by kernel_rfl) (by simp) (AllReady.cons rfl (λKK hK=>?_) AllReady.nil);go_simp;refine hK _ _ ?_;clear hK KK;refine oY 10 6 ?_;refine wpAny_done (by kernel_rfl) ?_ _;refine NoPanic.normal ?_;go_wp2;go_meet;case rel=>exact⟨_,_,_,_,_,rfl,bb,Rb.out.1,Rb.out.2⟩
     .obtain⟨fv,W33,mk,ho,hb⟩:=bG (G.length:Int) G.length W30 rfl (by omega);obtain⟨ri,qB,rl,rfl⟩:=ho.at.shape;go_simp;refine hK _ _ ?_;clear hK KK mk;have R33:=R30.add (i:=(2,0)) (r':=aD (.slice ri qB rl) (List.replicate G.length 0)) hb (ho.mono Pp) (λk hk=>(ho.lt k hk).1);have b33:=b30.trans (hb.mono Pp);have hB33:=Nat.le_trans Pp hb.size;have hI33:=Xt.below hb;clear Xt;clear ho hb R30;refine wpAny_ready (rs:=[2]) (by kernel_rfl) (by simp) (AllReady.cons rfl (λKK hK=>?_) (AllReady.nil));.obtain⟨lv,W34,mk,ho,hb⟩:=bG (G.length:Int) G.length W33 rfl (by omega);obtain⟨pT,qi,qf,rfl⟩:=ho.at.shape;go_simp;refine hK _ _ ?_;clear hK KK mk;have R34:=R33.add (i:=(1,0)) (r':=aD (.slice pT qi qf) (List.replicate G.length 0)) hb (ho.mono hB33) (λk hk=>(ho.lt k hk).1);have Ng:=b33.trans (hb.mono hB33);have hB34:=Nat.le_trans hB33 hb.size;have hI34:=hI33.below hb;clear hI33;clear ho hb R33;refine oY 8 29 ?_;have Rb:=fQ (na:=na) (gl:=G.length) (nc:=nc) (n:=G.length) (lv:=.slice pT qi qf) (fv:=.slice ri qB rl) (pv:=.slice pB py pz) R34 hB34 (by simp[ch]) (by simp[ch]) (by simp[ch]) (by simp[ch,eU]) (by simp[ch,eU]);replace⟨Rb,R34⟩:=bD Rb R34;have bb:=Ng.trans ((ab W34 (.cells #[.slice na G.length nc,.slice pT qi qf,.slice ri qB rl,.slice none 0 0,.slice pB py pz,.slice none 0 0,.int .i64 0] 244)).mono hB34);refine wpAny_ready (rs:=[9]) (by kernel_rfl) (by simp) (AllReady.cons rfl (λKK hK=>?_) AllReady.nil);go_simp;refine hK _ _ ?_;clear hK KK;refine oY 10 6 ?_;refine wpAny_done (by kernel_rfl) ?_ _;refine NoPanic.normal ?_;go_wp2;go_meet;case rel=>exact⟨_,_,_,_,_,rfl,bb,Rb.out.1,Rb.out.2⟩
  case rest =>
   obtain⟨d,f,lv,fv,pv,rfl,b2,dI,h2⟩:=hcut;have hG1:=Hd (h.out.below b1);have hI0:=gm.init G.length (aq G) bK.out.lt;replace⟨dI,hI0⟩:=bD dI hI0;go_wp2_with fail;go_loopw [33] (λiv wr=>∃(k:Nat) (f':Names) (ov cv:Value) (S:TS),k<=G.length/\iv=.int .i64 k/\Rows w1.heap.size wr f'/\Below w1.heap.size w1 wr/\SN f' d (.slice na G.length nc) lv fv pv ov cv G.length S/\gm G.length (aq G) S/\S.calls=[]/\∀x,x<k->S.found x≠0) (λiv _=>G.length-(intOf iv).toNat);case atStart=>exact⟨0,f,_,_,xX,by omega,rfl,dI.out,b2,h2,hI0.out,rfl,λx hx=>by omega⟩
   case round =>
    obtain⟨k,f',ov,cv,S,hk,rfl,dP,b3,h3,Ba,hc3,jB⟩:=hrel;obtain⟨wo,rfl⟩:=Ey wr;by_cases aT:k<G.length
    .have x2:=h3.cell dP 2 (by decide);simp only[List.getElem?_cons_succ,List.getElem?_cons_zero] at x2;have oF:=(dP.aR h3.Oa).at;have iF:=λw'=>oF.idx k (by rw[cy];exact aT) w';have cF:=oF.aH k (by rw[cy];exact aT);rw[rH _ _ _ aT] at cF;clear oF;generalize af fv k=fa at *;by_cases P5:S.found k=0
     .have hF:=U9 w1 wo f' d na nc lv fv pv ov cv G S k hG1.out bK.out hn b3 dP h3 Ba hc3 aT P5;rw[P5] at cF;replace⟨hF,dP,Ba,jB,P5,hc3⟩:=rr hF dP Ba jB P5 hc3;go_wp2_with fail;clear x2 iF cF;refine hF.out.mono ?_;rintro e w4 ⟨rfl,b4,f4,ov4,cv4,T,lV,h4,hI4,hc4,fs⟩;replace⟨lV,hI4,fs,hc4⟩:=gF lV hI4 fs hc4;go_wp2;go_roundw;case measure=>simp[intOf];omega
      case rel =>
       refine⟨k+1,f4,ov4,cv4,T,by omega,by go_num,lV.out,b3.trans b4,h4,hI4.out,hc4.out,λx hx=>fs.out x ?_⟩;by_cases e:x=k;.exact .inr e
       .exact .inl (jB.out x (by omega))
     .have bM:((S.found k:Int)==0)=false:=by rw[beq_eq_false_iff_ne];omega
      replace⟨dP,Ba,jB,P5,hc3⟩:=mV dP Ba jB P5 hc3;go_wp2;go_roundw;case measure=>simp[intOf];omega
      case rel =>
       refine⟨k+1,f',ov,cv,S,by omega,by go_num,dP.out,b3,h3,Ba.out,hc3.out,λx hx=>?_⟩;by_cases e:x=k;.subst e;exact P5.out
       .exact jB.out x (by omega)
    .obtain rfl:k=G.length:=by omega
     have hD:=Ba.done hc3 jB;have x4:=h3.cell dP 4 (by decide);simp only[List.getElem?_cons_succ,List.getElem?_cons_zero] at x4;have oP:=dP.aR h3.part;have hpb:∀x,x<G.length->(Lit.int .i64 (S.part x)).wf=true:=λx hx=>by
      obtain⟨q,hq,FD,_⟩:=Ba.P1 x (hD.1 x hx);have:=Ba.seenLt q (Ba.partSeen q FD);exact WalkArith.wf_i64 (by omega)
     have Ci:rY G.length (aq G) ((List.range G.length).map (rK S.part)):=⟨S.part,hD.2,rfl⟩;have hpv:=oP.at;generalize S.part=p at *;have hM:=gh.made wo;have ZZ:=ab wo (.map #[] 0);obtain⟨W5,pA⟩:=Ey (wo.alloc (.map #[] 0));have hs5:W5.heap.size=wo.heap.size+1:=by rw[pA];simp
     rw[<-pA] at hM ZZ;obtain⟨out,w6,mk6,IP,hb6⟩:=bG (G.length:Int) G.length W5 rfl (by omega);rw[hs5] at IP hb6;have hb56:Below wo.heap.size wo w6:=ZZ.trans (hb6.mono (by omega));have Hu:=hM.kept (World.grownBy.mk hb6.os hb6.tape hb6.output hb6.size (λj hj _=>hb6.block j (by omega)):W5.grownBy w6 none) (by simp);have lP:=hpv.len;rw[aJ] at lP;have x45:=(ZZ.cell (World.block_lt_of_cell? _ _ x4)).trans x4;have x46:=(hb56.cell (World.block_lt_of_cell? _ _ x4)).trans x4;obtain⟨DM,DL,DF,rfl⟩:=IP.at.shape;have hz:gO G.length (λv=>if v<0 then rK p v else 0)=List.replicate G.length 0:=by
      unfold gO;apply List.ext_getElem<;>simp
     replace⟨Ci,hpb,hpv,hD,Ba,dP,jB,Hu⟩:=gp Ci hpb hpv hD Ba dP jB Hu;replace⟨IP,hz⟩:=bD IP hz;clear hM ZZ oP x45;have mkm:(Instr.makeMap 246 none).run Tryz.prog wo=.ok (.map (some wo.heap.size)) W5:=by rw[pA];rfl
     replace pA:=Hd pA;go_wp2_with fail;clear mk6 mkm x46 lP;go_loopw [56] (λiv wr=>∃k nn:Nat,k<=G.length/\nn<=k/\iv=.int .i64 k/\gh wr wo.heap.size nn (iN p k).1 (iN p k).2/\aj (wo.heap.size+1) wr (.slice DM DL DF) (gO G.length (λv=>if v<k then rK p v else 0))/\Below wo.heap.size wo wr) (λiv _=>G.length-(intOf iv).toNat);case atStart=>exact⟨0,0,by omega,by omega,rfl,Hu.out,by rw[hz.out];exact IP.out,hb56⟩
     case round =>
      obtain⟨k,nn,hk,hnn,rfl,hM,hO,hB⟩:=hrel;obtain⟨W,rfl⟩:=Ey wr;by_cases aT:k<G.length
      .have KD:=hpb.out k aT;have XI:=hpv.out.below (hB.mono (by omega):Below wo.heap.size wo W);have iP:=λw'=>XI.idx k (by rw[aJ];exact aT) w';have cP:=XI.aH k (by rw[aJ];exact aT);rw[jR _ _ _ aT] at cP;have aO:=Ke p k;have hsz2:=E7 p k;have CO:(Lit.int .i64 (((iN p k).2:Nat):Int)).wf=true:=WalkArith.wf_i64 (by omega);have jD:gO G.length (aN (λv=>if v<k then rK p v else 0) k (rK p k))=gO G.length (λv=>if v<k+1 then rK p v else 0):=by
        congr 1;funext v;by_cases e:v=k;.subst e;rw[ai,if_pos (by omega)]
        .rw[ag _ _ _ e];by_cases e2:v<k;.rw[if_pos e2,if_pos (by omega)]
         .rw[if_neg e2,if_neg (by omega)]
       obtain⟨pc,Zm⟩:=Ex (p k);obtain⟨px,hpx⟩:=Ex (rK p k);rw[Zm] at cP KD aO;rw[hpx] at aO jD;generalize af pv k=pa at *;have aX:∀W':World,aj (wo.heap.size+1) W' (.slice DM DL DF) (gO G.length (λv=>if v<k then rK p v else 0))->Below wo.heap.size wo W'->∀nn',gh W' wo.heap.size nn' (iN p (k+1)).1 (iN p (k+1)).2 ->
        gh (W'.setCell (af (.slice DM DL DF) k) (.int .i64 px)) wo.heap.size nn' (iN p (k+1)).1 (iN p (k+1)).2/\aj (wo.heap.size+1) (W'.setCell (af (.slice DM DL DF) k) (.int .i64 px)) (.slice DM DL DF) (gO G.length (λv=>if v<k+1 then rK p v else 0))/\Below wo.heap.size wo (W'.setCell (af (.slice DM DL DF) k) (.int .i64 px)):=by
        intro W' L8 A6 nn' hM';have hs:=L8.set k (by rw[aJ];exact aT) px;rw[ue,jD] at hs;have hg:=L8.yB.oE k (by rw[List.length_map,aJ];exact aT) (.int .i64 px);have It:=L8.yB.jP k (by rw[List.length_map,aJ];exact aT);refine⟨hM'.kept hg (λe=>?_),hs,A6.setCell (by have:=It.2;omega) _⟩;have:=(L8.yB.lt wo.heap.size e.symm).1;omega
       replace⟨aX,jD⟩:=bD aX jD;replace Ci:=Hd Ci.out;have iO:∀w',(Instr.indexAt 22 (.slice DM DL DF) (.int .i64 k)).run Tryz.prog w'=.ok (.pointer (some (af (.slice DM DL DF) k))) w':=λw'=>hO.at.idx k (by rw[aJ];exact aT) w';by_cases hs:((iN p k).1 pc).isSome
       .have Oz:iN p (k+1)=iN p k:=by
         show(if _ then _ else _)=_;rw[Zm,if_pos hs]
        rw[Oz] at aO;obtain⟨c,hl1⟩:=hM.U7 pc KD;rw[hs] at hl1;have A3:=hM.look pc px KD aO;have cO:=hO.at.aH k (by rw[aJ];exact aT);have fO:=hO.mQ k (by rw[aJ];exact aT);have hF:=aX.out W hO hB nn (by rw[Oz];exact hM);replace⟨hF,hO,hM,Oz,aO⟩:=mV hF hO hM Oz aO;generalize af (.slice DM DL DF) k=oa at *;generalize (gO G.length λv=>if v<k then rK p v else 0).getD k 0=oc at cO;go_wp2;go_roundw;case measure=>simp[intOf];omega
        case rel=>exact⟨k+1,nn,by omega,by omega,by go_num,hF.out.1,hF.out.2.1,hF.out.2.2⟩
       .have zg:(iN p k).1 pc=none:=by simpa using hs
        have Oz:iN p (k+1)=(AA (iN p k).1 pc ((iN p k).2:Int),(iN p k).2+1):=by
         show(if _ then _ else _)=_;rw[Zm,if_neg hs]
        obtain⟨c,hl1⟩:=hM.U7 pc KD;rw[zg,Option.isSome_none] at hl1;have lM:=hM.len 3;obtain⟨W',mT,hM',sM⟩:=hM.store pc _ KD CO zg (by omega);have hMn:gh W' wo.heap.size (nn+1) (iN p (k+1)).1 (iN p (k+1)).2:=by rw[Oz];exact hM'
        have L8:=Ua hO hM.vq.choose_spec.choose_spec sM;have A6:Below wo.heap.size wo W':=hB.grown sM hB.size (λj hj=>by cases hj;exact Nat.le_refl _);have A3:=hMn.look pc px KD aO;have cO:=L8.at.aH k (by rw[aJ];exact aT);have fO:=L8.mQ k (by rw[aJ];exact aT);have hF:=aX.out W' L8 A6 (nn+1) hMn;replace⟨hF,hO,L8,hM,hM',hMn,Oz,aO⟩:=gp hF hO L8 hM hM' hMn Oz aO;replace zg:=Hd zg;clear hs;generalize af (.slice DM DL DF) k=oa at *;generalize (gO G.length λv=>if v<k then rK p v else 0).getD k 0=oc at cO;generalize (iN p k).2=ms at *;go_wp2;go_roundw;case measure=>simp[intOf];omega
        case rel=>exact⟨k+1,nn+1,by omega,by omega,by go_num,hF.out.1,hF.out.2.1,hF.out.2.2⟩
      .obtain rfl:k=G.length:=by omega
       have iM:gO G.length (λv=>if v<G.length then rK p v else 0)=(List.range G.length).map (rK p):=by
        unfold gO;exact List.map_congr_left λv hv=>if_pos (List.mem_range.1 hv)
       rw[iM] at hO;replace⟨hO,hM,iM⟩:=dO hO hM iM;go_wp2;go_ret2;refine⟨_,_,rfl,b1.trans ((b3.mono b1.size).trans (hB.mono (Nat.le_trans b1.size b3.size))),⟨by rw[fK.out];rfl,⟨λ_=>⟨_,Ci.out,hO.out.mono (Nat.le_trans (Nat.le_trans b1.size b3.size) (Nat.le_succ _))⟩,λq=>absurd fK.out q⟩⟩⟩
theorem et:OneCell 167 4 (.bool false) 1:=⟨by kernel_rfl,by kernel_rfl,rfl,by decide,λ_=>by kernel_rfl⟩
def fY(n:Nat)(m:Nat->Bool):List Value:=(List.range n).map λv=>Value.bool (m v)
theorem aW(n:Nat)(m:Nat->Bool):(fY n m).length=n:=by simp[fY]
theorem kt(n:Nat)(m:Nat->Bool)(v:Nat)(hv:v<n):oZ (fY n m) v=.bool (m v):=by simp[fY,oZ,List.getD,hv]
theorem rm(n:Nat)(m:Nat->Bool)(v:Nat)(b:Bool):(fY n m).set v (.bool b)=fY n (aN m v b):=by
 apply List.ext_getElem;.simp[fY]
 .intro i h1 h2;simp only[fY,List.getElem_set,List.getElem_map,List.getElem_range,aN];by_cases e:v=i;.rw[if_pos e,if_pos e.symm]
  .rw[if_neg e,if_neg (λq=>e q.symm)]
theorem RT(n:Nat)(m:Nat->Bool):∀v∈fY n m,v.oneCell'=true:=by
 intro v hv;obtain⟨x,_,rfl⟩:=List.mem_map.1 hv;rfl
theorem Jw(v:Value)(n:Nat)(m:Nat->Bool)(w:World)(h:aY w v (fY n m))(hl:n<=10000):
 Calls Tryz.prog 159 #[v] w (cz (λx w'=>aZ 4 w.heap.size w' x (fY n m)) w):=by
 obtain⟨ao,cap,rfl,h1,h2,h3,h4⟩:=h;cases ao with
 | none =>
  obtain rfl:=h3 rfl;rw[aW] at h1;obtain rfl:n=0:=by omega
  have hn:=λw'=>Lib.run_eql_slice_nil (P:=Tryz.prog) w' _ _ none 0 0 0 0 et.ht;rw[show(fY 0 m).length=0 from rfl];clear h4;go_enter Tryz.func159,Tryz.ntmps159;go_wp2;go_ret;exact⟨_,rfl,Below.refl _ _,aZ.nil _ _ _⟩
 | some p =>
  have hn:=λw'=>Lib.run_eql_slice_nil (P:=Tryz.prog) w' _ _ (some p) (fY n m).length cap 0 0 et.ht;have b0:Below w.heap.size w (w.alloc (.cells #[] 4)):=(Below.refl _ _).alloc (Nat.le_refl _) _;have ho0:aZ 4 w.heap.size (w.alloc (.cells #[] 4)) (.slice (some ⟨w.heap.size,0,none⟩) 0 0) []:=World.ownsRow_made w #[] 0 (Nat.le_refl _) (by unfold maxLen;omega) rfl;obtain⟨i,hi,qq,kS,oU⟩:=info_parts et.hi;have pS:∀(j:Nat) (u:Value),(fY n m)[j]?=some u->(w.alloc (.cells #[] 4)).cell? (p.add j)=some u:=by
   intro j u hj;have dw:=(List.getElem?_eq_some_iff.1 hj).1;have:=h4 j dw;simp only[af] at this;rw[b0.cell (World.block_lt_of_cell? _ _ this),this,<-hj,List.getElem?_eq_getElem dw]
  have rZ:=RT n m;have ko:=aW n m;generalize fY n m=bs at *;have Kz:bs.length<=10000:=by omega
  replace⟨ko,pS,rZ,ho0⟩:=gF ko pS rZ ho0;clear h4;go_enter Tryz.func159,Tryz.ntmps159;go_wp2_with (at_builtin;refine wpList_append_own_at _ rfl _ _ 167 rfl w.heap.size 4 i (.bool false) 1 1 et.ht hi qq kS oU rfl (by decide) _ 0 [] rfl ho0.out p bs.length cap bs rfl (by simp) pS.out rZ.out (by unfold maxLen;omega) (by omega) (by simp) ?_);intro v' w' nD qJ _ AV;have ij:Below w.heap.size w w':=b0.trans ((Below.refl _ _).grown qJ (by simp) (λk hk=>(ho0.out.lt k hk).1));have jK:=@Hd (aZ 4 w.heap.size w' v' bs) (by simpa [aZ] using nD);clear nD AV qJ;go_wp2;go_ret;exact⟨_,rfl,ij,jK.out⟩
def XY(n:Nat)(m:Nat->Bool):Nat:=yn (λ_=>1) (λx=>if m x then 1 else 0) n
theorem Wz(n:Nat)(m:Nat->Bool)(t:Nat)(ht:t<n)(hm:m t=false):XY n (aN m t true)+1=XY n m:=by
 have h:=xy (λ_=>1) (λx=>if m x then 1 else 0) t 1 (by decide) (by simp[hm]) n;rw[if_pos ht] at h;have e:(λx=>if aN m t true x then 1 else 0)=aN (λx=>if m x then 1 else 0) t 1:=by
  funext x;by_cases q:x=t;.subst q;simp[ai]
  .rw[ag _ _ _ q,ag _ _ _ q]
 unfold XY;rw[e];exact h
theorem Od(f:Nat->Nat):∀n,yn (λ_=>1) f n<=n
 | 0=>Nat.le_refl _
 | n+1=>by
  have:=Od f n;simp only[yn];split<;>omega
theorem TL(n:Nat)(m:Nat->Bool):XY n m<=n:=Od _ n
structure xI (n:Nat) (adj:Nat->List Nat) (ms m:Nat->Bool) (qs:List Nat) (busy:Nat->Prop):Prop where
 start:∀x,x<n->ms x=true->m x=true
 sound:∀x,x<n->m x=true->∃u,u<n/\ms u=true/\bH adj u x
 queue:∀x∈qs,x<n/\m x=true
 closed:∀x,x<n->m x=true->x∉qs->¬ busy x->∀t∈adj x,m t=true
theorem xI.pop{n:Nat}{adj:Nat->List Nat}{ms m:Nat->Bool}{v:Nat}{qs:List Nat}(h:xI n adj ms m (v::qs) (λ_=>False)):xI n adj ms m qs (λx=>x=v) :=
 ⟨h.start,h.sound,λx hx=>h.queue x (List.mem_cons_of_mem _ hx),λx hx hm hq hb=>h.closed x hx hm (λhc=>(List.mem_cons.1 hc).elim hb hq) id⟩
theorem xI.finish{n:Nat}{adj:Nat->List Nat}{ms m:Nat->Bool}{v:Nat}{qs:List Nat}(h:xI n adj ms m qs (λx=>x=v))(hv:∀t∈adj v,m t=true):xI n adj ms m qs (λ_=>False) :=
 ⟨h.start,h.sound,h.queue,λx hx hm hq _=>by
   by_cases e:x=v;.subst e;exact hv
   .exact h.closed x hx hm hq e⟩
theorem xI.mark{n:Nat}{adj:Nat->List Nat}{ms m:Nat->Bool}{v t:Nat}{qs:List Nat}(h:xI n adj ms m qs (λx=>x=v))(hv:v<n)(Hn:m v=true)(ht:t∈adj v)(gY:t<n):xI n adj ms (aN m t true) (t::qs) (λx=>x=v):=by
 have up:∀x,m x=true->aN m t true x=true:=λx hx=>by
  by_cases e:x=t;.subst e;exact ai _ _ _
  .rw[ag _ _ _ e];exact hx
 refine⟨λx hx hs=>up x (h.start x hx hs),λx hx hm=>?_,λx hx=>?_,λx hx hm hq hb t' yi=>?_⟩
 .by_cases e:x=t;.subst e;obtain⟨u,h1,h2,h3⟩:=h.sound v hv Hn;exact⟨u,h1,h2,h3.step ht⟩
  .rw[ag _ _ _ e] at hm;exact h.sound x hx hm
 .rcases List.mem_cons.1 hx with e | e;.subst e;exact⟨gY,ai _ _ _⟩
  .exact⟨(h.queue x e).1,up x (h.queue x e).2⟩
 .have e:x≠t:=λe=>hq (by rw[e];exact List.mem_cons_self);rw[ag _ _ _ e] at hm;exact up t' (h.closed x hx hm (λhc=>hq (List.mem_cons_of_mem _ hc)) hb t' yi)
theorem xI.all{n:Nat}{adj:Nat->List Nat}{ms m:Nat->Bool}(h:xI n adj ms m [] (λ_=>False))(ha:∀v,v<n->∀t∈adj v,t<n):∀x,x<n->(m x=true↔∃u,u<n/\ms u=true/\bH adj u x):=by
 intro x hx;refine⟨h.sound x hx,λ⟨u,hu,hs,hg⟩=>?_⟩;exact(bH.closed (P:=λy=>y<n/\m y=true) (λy hy t ht=>⟨ha y hy.1 t ht,h.closed y hy.1 hy.2 (by simp) id t ht⟩) hg ⟨hu,h.start u hu hs⟩).2
structure RN (f:Names) (ov qv:Value) (n:Nat) (m:Nat->Bool) (qs:List Nat):Prop where
 outs:f (1,0)=some (bY 4 ov (fY n m))
 queue:f (2,0)=some (aD qv (yl qs))
section
variable {B:Nat} {w:World} {f:Names} {ov qv:Value} {n:Nat} {m:Nat->Bool} {qs:List Nat}
theorem RN.mark(h:RN f ov qv n m qs)(hr:Rows B w f)(t:Nat)(ht:t<n):∃f',Rows B (w.setCell (af ov t) (.bool true)) f'/\RN f' ov qv n (aN m t true) qs:=by
 have hs:=hr.L4 h.outs t (by rw[aW];exact ht) (.bool true);rw[rm] at hs;exact⟨_,hs,⟨ah _ _ _,by rw[ad _ _ (by simp)];exact h.queue⟩⟩
theorem RN.push(h:RN f ov qv n m qs)(hr:Rows B w f){w1:World}{mi:Value}(t:Nat)(ho:aj B w1 mi (yl qs++[(t:Int)]))(hJ:(dJ mi=dJ qv/\w.grownBy w1 qv.ownBlock)\/(∃k,mi.ownBlock=some k/\w.heap.size<=k/\w.grownBy w1 none)):∃f',Rows B w1 f'/\RN f' ov mi n m (t::qs):=by
 have hO:=hr.aR h.queue;have hg:w.grownBy w1 qv.ownBlock:=jr (hJ.imp (·.2) (λ⟨_,_,_,q⟩=>q));have uw:mi.ownBlock=qv.ownBlock\/∃k,mi.ownBlock=some k/\w.heap.size<=k:=by
  rcases hJ with ⟨q,_⟩ | ⟨k,h1,h2,_⟩;.obtain⟨a1,n1,c1,e1⟩:=hO.at.shape;obtain⟨a2,n2,c2,e2⟩:=ho.at.shape;exact .inl (cM e1 e2 q)
  .exact .inr ⟨k,h1,h2⟩
 exact⟨_,hr.grown (r':=aD mi (yl qs++[(t:Int)])) h.queue hg ho uw,⟨by rw[ad _ _ (by simp)];exact h.outs,by rw[ah,rk]⟩⟩
theorem RN.pop{v g c:Nat}{r:List Nat}(h:RN f ov (.slice (some ⟨g,0,none⟩) (r.length+1) c) n m (v::r))(hr:Rows B w f):∃f',Rows B w f'/\RN f' ov (.slice (some ⟨g,0,none⟩) r.length c) n m r:=by
 have ho:f (2,0)=some ⟨3,1,.slice (some ⟨g,0,none⟩) (r.length+1) c,r.length+1,(yl (v::r)).map (Value.int .i64)⟩:=by
  rw[h.queue];simp[aD,eH]
 have h1:=hr.shrink ho;have hx:((yl (v::r)).map (Value.int .i64)).take (r.length*1)=(yl r).map (Value.int .i64):=by
  rw[rk,List.map_append,Nat.mul_one];exact List.take_left' (by simp[eH])
 rw[hx] at h1;exact⟨_,h1,⟨by rw[ad _ _ (by simp)];exact h.outs,by rw[ah];simp[eH]⟩⟩
theorem RN.shape{v:Nat}{r:List Nat}(h:RN f ov qv n m (v::r))(hr:Rows B w f):∃g c,qv=.slice (some ⟨g,0,none⟩) (r.length+1) c/\r.length+1<=c:=by
 obtain⟨g,c,e,e2⟩:=qC (hr.1 _ _ h.queue) (by show 0<(yl (v::r)).length;rw[eH];simp);have e:qv=.slice (some ⟨g,0,none⟩) (yl (v::r)).length c:=e;have e2:(yl (v::r)).length<=c:=e2;rw[eH,List.length_cons] at e e2;exact⟨g,c,e,e2⟩
end
theorem SH(t:Nat)(o:List Nat):(yl (t::o)).getD o.length 0=(t:Int):=by
 rw[rk,List.getD_eq_getElem?_getD,List.getElem?_append_right (by rw[eH];exact Nat.le_refl _),eH,Nat.sub_self];rfl
theorem EF(na:Option Addr)(nc:Nat)(G:List (List Int))(mv:Value)(ms:Nat->Bool)(w:World)(h:bh w (.slice na G.length nc) G)(bK:bR G)(hn:G.length<=8200)(hm:aY w mv (fY G.length ms)):
 Calls Tryz.prog 129 #[.slice na G.length nc,mv] w (cz (λx w'=>∃out:Nat->Bool,aZ 4 w.heap.size w' x (fY G.length out)/\∀x,x<G.length->(out x=true↔∃u,u<G.length/\ms u=true/\bH (aq G) u x)) w):=by
 have hC:=Jw mv G.length ms w hm (by omega);replace⟨h,bK,hm⟩:=dO h bK hm;go_enter Tryz.func129,Tryz.ntmps129;go_wp2_with fail;refine hC.mono ?_;rintro e w1 ⟨ov,rfl,b1,ho⟩;clear hC;have R1:=((EY w.heap.size w 0).add (i:=(1,0)) (r':=bY 4 ov (fY G.length ms)) b1 ho (λk hk=>(ho.lt k hk).1)).fresh (i:=(2,0)) (r':=aD (.slice none 0 0) []) (World.grownBy.refl _ _) (aj.nil _ _) (λk hk=>(by cases hk));have h1:RN (ch (ch (MB 0) (1,0) (some (bY 4 ov (fY G.length ms)))) (2,0) (some (aD (.slice none 0 0) []))) ov (.slice none 0 0) G.length ms []:=⟨by rw[ad _ _ (by simp),ah],by rw[ah];rfl⟩;generalize ch (ch (MB 0) (1,0) (some (bY 4 ov (fY G.length ms)))) (2,0) (some (aD (.slice none 0 0) []))=f1 at *;have lO:=λw'=>ho.at.len et 3 w';rw[aW] at lO;replace⟨R1,ho⟩:=bD R1 ho;go_wp2_with fail;clear lO;go_loopw [6,16] (λqv kv wr=>∃(k:Nat) (qs:List Nat) (f:Names) (qw:Value),qw=qv/\kv=.int .i64 k/\k<=G.length/\qs.length<=k/\Rows w.heap.size wr f/\Below w.heap.size w wr/\RN f ov qw G.length ms qs/\∀x,x∈qs↔(x<k/\ms x=true)) (λ_ kv _=>G.length-(intOf kv).toNat);case atStart=>exact⟨0,[],f1,_,rfl,rfl,by omega,by simp,R1.out,b1,h1,λx=>⟨λh=>(by cases h),λh=>by omega⟩⟩
 case round =>
  clear h1 R1 ho;obtain⟨k,qs,f2,qv,rfl,rfl,hk,OQ,dI,b2,h2,RE⟩:=hrel;obtain⟨wo,rfl⟩:=Ey wr;by_cases aT:k<G.length;.have j5:=(dI.ff h2.outs).at;have iK:=λw'=>j5.idx et k (by rw[aW];exact aT) w';have cK:=j5.lp k (by rw[aW];exact aT);rw[kt _ _ _ aT] at cK;generalize af ov k=ka at *;obtain⟨bk,It⟩:=Ex (ms k);rw[It] at cK;replace j5:=Hd j5;cases bk with
   | true =>
    have j7:=dI.aR h2.queue;have mo:w.heap.size<=wo.heap.size:=b2.size;have Mw:∀x,x∈k::qs↔(x<k+1/\ms x=true):=λx=>by
     rw[List.mem_cons,RE x];constructor
     .rintro(rfl | ⟨a,b⟩);.exact⟨by omega,It⟩
      .exact⟨by omega,b⟩
     .rintro⟨a,b⟩;by_cases e:x=k;.exact .inl e
      .exact .inr ⟨by omega,b⟩
    replace⟨Mw,RE,It,dI⟩:=gF Mw RE It dI;go_wp2_with (at_builtin;refine dD rfl _ _ rfl w.heap.size qv (yl qs) k j7 rfl rfl (by rw[eH];omega) mo ?_);intro mi w7 eF b7 gn;obtain⟨f7,pf,h7⟩:=h2.push dI.out k eF gn;replace⟨pf,eF⟩:=bD pf eF;clear gn;go_wp2;go_roundw;case measure=>simp[intOf];omega
    case rel=>exact⟨k+1,k::qs,f7,mi,rfl,by go_num,by omega,by simp only[List.length_cons];omega,pf.out,b2.trans b7,h7,Mw.out⟩
   | false =>
    have Mw:∀x,x∈qs↔(x<k+1/\ms x=true):=λx=>by
     rw[RE x];constructor;.rintro⟨a,b⟩;exact⟨by omega,b⟩
     .rintro⟨a,b⟩;by_cases e:x=k;.subst e;rw[It] at b;cases b
      .exact⟨by omega,b⟩
    replace⟨Mw,RE,It,dI⟩:=gF Mw RE It dI;go_wp2;go_roundw;case measure=>simp[intOf];omega
    case rel=>exact⟨k+1,qs,f2,qv,rfl,by go_num,by omega,by omega,dI.out,b2,h2,Mw.out⟩
  .obtain rfl:k=G.length:=by omega
   have hinv:=@Hd (xI G.length (aq G) ms ms qs (λ_=>False)) (⟨λ_ _ q=>q,λx hx q=>⟨x,hx,q,.refl x⟩,λx hx=>⟨((RE x).1 hx).1,((RE x).1 hx).2⟩,λx hx hmx hq _=>absurd ((RE x).2 ⟨hx,hmx⟩) hq⟩);replace⟨RE,dI⟩:=bD RE dI;go_wp2_with fail;go_loopg [6] (2*XY G.length ms+qs.length) (λk qv wr=>∃(m:Nat->Bool) (qs:List Nat) (f:Names) (qw:Value),qw=qv/\k=2*XY G.length m+qs.length/\k<=3*G.length/\Rows w.heap.size wr f/\Below w.heap.size w wr/\RN f ov qw G.length m qs/\xI G.length (aq G) ms m qs (λ_=>False));case atStart=>exact⟨ms,qs,f2,qv,rfl,rfl,by have:=TL G.length ms;omega,dI.out,b2,h2,hinv.out⟩
   case round =>
    clear hinv RE dI h2 b2 OQ;obtain⟨m,qs,f3,qv,rfl,rfl,Tp,dP,b3,h3,hI⟩:=hrel;obtain⟨wo,rfl⟩:=Ey wr;cases qs with
    | nil =>
     have j7:=dP.aR h3.queue;have lQ:=j7.at.len;rw[eH,List.length_nil] at lQ;have jB:=hI.all bK.out.lt;have iM:=dP.ff h3.outs;replace⟨jB,iM,hI,dP⟩:=gF jB iM hI dP;go_wp2;go_ret;exact⟨_,rfl,b3,m,iM.out,jB.out⟩
    | cons v r =>
     obtain⟨g,c,rfl,Qt⟩:=h3.shape dP;have nH:=TL G.length m;obtain⟨zV,Hn⟩:=hI.queue v List.mem_cons_self;have j7:=(dP.aR h3.queue).at;have iV:=λw'=>j7.idx r.length (by rw[eH];simp) w';have cV:=j7.aH r.length (by rw[eH];simp);rw[SH] at cV;obtain⟨f4,lV,h4⟩:=h3.pop dP;have Wm:=hI.pop;obtain⟨xv,iR,qK,rI⟩:=h.out.row v zV;have cR:=(b3.cell (World.block_lt_of_cell? _ _ qK)).trans qK;have hM:=rI.below b3;have oq:=bK.out v zV;have rM:aq G v=(G.getD v []).map Int.toNat:=rfl;generalize G.getD v []=gx at *;have lM:=hM.len;have sk:=hM.gN;generalize af (.slice na G.length nc) v=ra at *;generalize af (.slice (some ⟨g,0,none⟩) (r.length+1) c) r.length=qa at *;simp only[List.length_cons] at Tp;have Tf:IntKind.i64.wrap (r.length:Int)=r.length:=db (by omega) (by omega);have sD:(0<=(r.length:Int)/\(r.length:Int)<=(c:Int)):=⟨by omega,by omega⟩;replace⟨j7,hM,rI,oq,rM,dP,lV,hI⟩:=gp j7 hM rI oq rM dP lV hI;replace⟨Wm,Hn⟩:=bD Wm Hn;go_wp2_with fail;clear iV cV iR cR lM;go_loopw [6,46] (λqv jv wr=>∃(j:Nat) (m':Nat->Bool) (qs:List Nat) (f:Names) (qw:Value),qw=qv/\jv=.int .i64 j/\j<=gx.length/\2*XY G.length m'+qs.length<=2*XY G.length m+r.length/\Rows w.heap.size wr f/\Below w.heap.size w wr/\RN f ov qw G.length m' qs/\xI G.length (aq G) ms m' qs (λx=>x=v)/\m' v=true/\∀i,i<j->m' (gx.getD i 0).toNat=true) (λ_ jv _=>gx.length-(intOf jv).toNat);case atStart=>exact⟨0,m,r,f4,_,rfl,rfl,by omega,Nat.le_refl _,lV.out,b3,h4,Wm.out,Hn.out,λi hi=>by omega⟩
     case round =>
      clear j7 hM dP lV h4 h3 b3 Wm hI Hn Tf sD Qt;obtain⟨j,m',qs,f5,qv,rfl,rfl,hj,hle,lK,b5,h5,hI,Hn,kd⟩:=hrel;obtain⟨wo,rfl⟩:=Ey wr;by_cases dw:j<gx.length
      .have vt:=rI.out.below b5;have vg:=oq.out gx[j] (List.getElem_mem dw);obtain⟨t,hu⟩:∃t:Nat,gx[j]=t:=Int.eq_ofNat_of_zero_le vg.1;have gY:t<G.length:=by rw[hu] at vg;omega
       have jZ:gx.getD j 0=(t:Int):=by rw[List.getD_eq_getElem?_getD,List.getElem?_eq_getElem dw,hu];rfl
       have Be:t∈aq G v:=by
        rw[rM.out];exact List.mem_map.2 ⟨gx[j],List.getElem_mem dw,by rw[hu];rfl⟩
       have iJ:=λw'=>vt.idx j dw w';have cJ:=vt.aH j dw;rw[jZ] at cJ;have j5:=(lK.ff h5.outs);have iT:=λw'=>j5.at.idx et t (by rw[aW];exact gY) w';have cT:=j5.at.lp t (by rw[aW];exact gY);rw[kt _ _ _ gY] at cT;have fT:=j5.mQ t (by rw[aW];exact gY);have kT:=(j5.jP t (by rw[aW];exact gY)).2;obtain⟨f6,uN,h6⟩:=h5.mark lK t gY;have b6:Below w.heap.size w (wo.setCell (af ov t) (.bool true)):=b5.setCell kT _;generalize af xv j=ja at *;generalize af ov t=ta at *;obtain⟨bt,J3⟩:=Ex (m' t);rw[J3] at cT;cases bt with
       | false =>
        have hunm:=Wz G.length m' t gY J3;have Tw:=hI.mark zV Hn Be gY;have hmv2:aN m' t true v=true:=by
         by_cases e:v=t;.subst e;exact ai _ _ _
         .rw[ag _ _ _ e];exact Hn
        have k6:∀i,i<j+1->aN m' t true (gx.getD i 0).toNat=true:=λi hi=>by
         by_cases e:(gx.getD i 0).toNat=t;.rw[e];exact ai _ _ _
         .rw[ag _ _ _ e];by_cases q:i=j;.subst q;rw[jZ] at e;exact absurd rfl e
          .exact kd i (by omega)
        replace⟨Tw,hmv2,k6,kd,Hn,hI,J3,lK⟩:=gp Tw hmv2 k6 kd Hn hI J3 lK;replace⟨uN,j5,vt,jZ,vg,hu,Be⟩:=zb uN j5 vt jZ vg hu Be;go_upto_region 17 with fail;obtain⟨W6,yq⟩:=Ey (wo.setCell ta (.bool true));rw[<-yq];rw[<-yq] at uN b6;clear yq iJ cJ iT cT fT;have j7:=uN.out.aR h6.queue;have Ky:w.heap.size<=W6.heap.size:=b6.size;go_wp2_with (at_builtin;refine dD rfl _ _ rfl w.heap.size qv (yl qs) t j7 rfl rfl (by rw[eH];omega) Ky ?_);intro mi w7 eF b7 gn;obtain⟨f7,pf,h7⟩:=h6.push uN.out t eF gn;replace⟨pf,eF⟩:=bD pf eF;clear gn;go_wp2;go_roundw;case measure=>simp[intOf];omega
        case rel=>exact⟨j+1,aN m' t true,t::qs,f7,mi,rfl,by go_num,by omega,by simp only[List.length_cons];omega,pf.out,b6.trans b7,h7,Tw.out,hmv2.out,k6.out⟩
       | true =>
        have k6:∀i,i<j+1->m' (gx.getD i 0).toNat=true:=λi hi=>by
         by_cases q:i=j;.subst q;rw[jZ];exact J3
         .exact kd i (by omega)
        replace⟨k6,kd,Hn,hI,J3,lK,uN,j5⟩:=gp k6 kd Hn hI J3 lK uN j5;replace⟨vt,jZ,vg,hu,Be⟩:=mV vt jZ vg hu Be;go_wp2;go_roundw;case measure=>simp[intOf];omega
        case rel=>exact⟨j+1,m',qs,f5,qv,rfl,by go_num,by omega,by omega,lK.out,b5,h5,hI.out,Hn.out,k6.out⟩
      .obtain rfl:j=gx.length:=by omega
       have aX:=hI.finish (λt ht=>by
        rw[rM.out] at ht;obtain⟨x,hx,rfl⟩:=List.mem_map.1 ht;obtain⟨i,hi,rfl⟩:=List.mem_iff_getElem.1 hx;have:=kd i hi;rw[List.getD_eq_getElem?_getD,List.getElem?_eq_getElem hi] at this;exact this);replace⟨aX,kd,Hn,hI,lK⟩:=mV aX kd Hn hI lK;go_wp2;go_roundg (2*XY G.length m'+qs.length);case measure=>simp only[List.length_cons];omega
       case rel=>exact⟨m',qs,f5,qv,rfl,rfl,by omega,lK.out,b5,h5,aX.out⟩
def kj(adj:Nat->List Nat)(u:Nat):Prop:=∃t∈adj u,bH adj t u
def lh(n:Nat)(adj:Nat->List Nat)(v:Nat):Prop:=(∃u,u<n/\kj adj u/\bH adj u v)/\∃u,u<n/\kj adj u/\bH adj v u
structure iq (n:Nat) (adj:Nat->List Nat) (L:List Nat):Prop where
 sorted:L.Pairwise (·<·)
 mem:∀v,v∈L↔v<n/\lh n adj v
theorem lj{G H:List (List Int)}(h:kx G H)(bK:bR G){t v:Nat}(ht:t<G.length):v∈aq H t↔v<G.length/\t∈aq G v:=by
 unfold aq;simp only[List.mem_map];constructor;.rintro⟨y,hy,rfl⟩;obtain⟨x,rfl,hx,hm⟩:=(h.2.2 t ht y).1 hy;exact⟨by simpa using hx,(t:Int),by simpa using hm,by simp⟩
 .rintro⟨hv,y,hy,rfl⟩;have:=bK v hv y hy;exact⟨(v:Int),(h.2.2 y.toNat ht v).2 ⟨v,rfl,hv,by rw[Int.toNat_of_nonneg this.1];exact hy⟩,by simp⟩
theorem uA{G H:List (List Int)}(h:kx G H):bR H:=by
 intro t ht y hy;rw[h.1] at ht ⊢;obtain⟨x,rfl,hx,_⟩:=(h.2.2 t ht y).1 hy;omega
theorem yk{G:List (List Int)}(bK:bR G){x y:Nat}(h:bH (aq G) x y)(hx:x<G.length):y<G.length :=
 bH.closed (P:=λz=>z<G.length) (λz hz t ht=>bK.lt z hz t ht) h hx
theorem pM{G H:List (List Int)}(h:kx G H)(bK:bR G){x y:Nat}(hg:bH (aq H) x y)(hx:x<G.length):bH (aq G) y x:=by
 induction hg with
 | refl=>exact .refl _
 | @step y z hg hz ih =>
  have hy:y<G.length:=by have:=yk (uA h) hg (by rw[h.1];exact hx);rwa [h.1] at this
  exact(bH.one ((lj h bK hy).1 hz).2).trans ih
theorem zJ{G H:List (List Int)}(h:kx G H)(bK:bR G){x y:Nat}(hg:bH (aq G) x y)(hx:x<G.length):bH (aq H) y x:=by
 induction hg with
 | refl=>exact .refl _
 | @step y z hg hz ih =>
  have hy:=yk bK hg hx;exact(bH.one ((lj h bK (bK.lt y hy z hz)).2 ⟨hy,hz⟩)).trans ih
theorem xp{G:List (List Int)}(bK:bR G){ps:List Int}(hp:rY G.length (aq G) ps){x:Nat}(hx:x<G.length):kj (aq G) x↔∃t∈aq G x,ps.getD t 0=ps.getD x 0:=by
 constructor;.rintro⟨t,ht,hg⟩;exact⟨t,ht,(hp.eq (bK.lt x hx t ht) hx).2 ⟨hg,.one ht⟩⟩
 .rintro⟨t,ht,he⟩;exact⟨t,ht,((hp.eq (bK.lt x hx t ht) hx).1 he).1⟩
def SK(r:Nat->Addr)(w:World)(G:List (List Int))(x y:Value)(w':World):Prop :=
 bf r w' (cH G) y/\(cH G=none->∃L,iq G.length (aq G) L/\aj w.heap.size w' x (aw L))/\(cH G≠none->x=.slice none 0 0)
def qk(G:List (List Int))(ps:List Int)(k j:Nat)(m:Nat->Bool):Prop :=
 ∀x,x<G.length->(m x=true↔(x<k/\∃t∈aq G x,ps.getD t 0=ps.getD x 0)\/(x=k/\∃t∈(aq G k).take j,ps.getD t 0=ps.getD k 0))
theorem qk.next{G:List (List Int)}{ps:List Int}{k:Nat}{m:Nat->Bool}(h:qk G ps k (aq G k).length m):qk G ps (k+1) 0 m:=by
 intro x hx;rw[h x hx,List.take_length];constructor
 .rintro(⟨a,b⟩ | ⟨rfl,b⟩);.exact .inl ⟨by omega,b⟩
  .exact .inl ⟨by omega,b⟩
 .rintro(⟨a,b⟩ | ⟨_,t,ht,_⟩)
  .by_cases e:x=k;.subst e;exact .inr ⟨rfl,b⟩
   .exact .inl ⟨by omega,b⟩
  .simp at ht
theorem qk.add{G:List (List Int)}{ps:List Int}{k j t:Nat}{m:Nat->Bool}(h:qk G ps k j m)(ht:(aq G k)[j]?=some t)(m':Nat->Bool)(hm:m'=if ps.getD t 0=ps.getD k 0 then aN m k true else m):qk G ps k (j+1) m':=by
 intro x hx;have kg:(aq G k).take (j+1)=(aq G k).take j++[t]:=by rw[List.take_add_one,ht];rfl
 by_cases hp:ps.getD t 0=ps.getD k 0
 .rw[if_pos hp] at hm;subst hm;by_cases e:x=k;.subst e;rw[ai];exact⟨λ_=>.inr ⟨rfl,t,by rw[kg];simp,hp⟩,λ_=>rfl⟩
  .rw[ag _ _ _ e,h x hx];exact⟨λq=>q.imp id (λq=>absurd q.1 e),λq=>q.imp id (λq=>absurd q.1 e)⟩
 .rw[if_neg hp] at hm;subst hm;rw[h x hx,kg];constructor
  .rintro(q | ⟨e,s,hs,hq⟩);.exact .inl q
   .exact .inr ⟨e,s,List.mem_append_left _ hs,hq⟩
  .rintro(q | ⟨e,s,hs,hq⟩);.exact .inl q
   .rcases List.mem_append.1 hs with hs | hs;.exact .inr ⟨e,s,hs,hq⟩
    .cases List.mem_singleton.1 hs;exact absurd hq hp
theorem TC(r:Nat->Addr)(na:Option Addr)(nc:Nat)(G:List (List Int))(w:World)(hg:ck r w)(h:bh w (.slice na G.length nc) G)(gQ:∀k,k<G.length->(G.getD k []).length<=17592186044416):
 Calls Tryz.prog 82 #[.slice na G.length nc] w (jf (SK r w G) w):=by
 have hP:=EK r na nc G w hg h gQ;replace⟨h,hg,gQ⟩:=dO h hg gQ;cases fK:cH G with
 | some t =>
  replace fK:=Hd fK;go_enter Tryz.func82,Tryz.ntmps82;go_wp2_with fail;refine hP.mono ?_;rintro e w1 ⟨x,y,rfl,b1,he,_,hx⟩;rw[fK.out] at he hx;obtain rfl:=hx (by simp);obtain⟨T,a,rfl⟩:=he.bX;replace he:=Hd he;clear hx hP;go_wp2;go_ret2;exact⟨_,_,rfl,b1,⟨by rw[fK.out];exact he.out,⟨λq=>(by rw[fK.out] at q;cases q),λ_=>rfl⟩⟩⟩
 | none =>
  obtain⟨hn,sG,bK⟩:=lr fK;replace⟨fK,bK⟩:=bD fK bK;go_enter Tryz.func82,Tryz.ntmps82;go_wp2_with fail;refine hP.mono ?_;rintro e w1 ⟨pv,y,rfl,b1,he,Jm,_⟩;rw[fK.out] at he Jm;obtain rfl:=he.dG;obtain⟨ps,sI,V7⟩:=Jm rfl;clear Jm;have Kp:=sI.len;obtain⟨pa,pn,pc,rfl⟩:=V7.at.shape;have Hq:=V7.at;clear he hP V7;obtain⟨lv,w2,mk,A3,ij⟩:=gS et (G.length:Int) G.length w1 rfl (by omega);have hz:fY G.length (λ_=>false)=List.replicate G.length (.bool false):=by
   unfold fY;apply List.ext_getElem<;>simp
  rw[<-hz] at A3;obtain⟨la,ln,lc,rfl⟩:=A3.shape;have qq:qk G ps 0 0 (λ_=>false):=by
   intro x hx;simp
  replace⟨qq,hz,A3,Hq,sI,Kp⟩:=rr qq hz A3 Hq sI Kp;go_wp2_with fail;clear mk;go_loopw [28] (λkv wr=>∃(k:Nat) (m:Nat->Bool),k<=G.length/\kv=.int .i64 k/\aZ 4 w1.heap.size wr (.slice la ln lc) (fY G.length m)/\Below w1.heap.size w1 wr/\qk G ps k 0 m) (λkv _=>G.length-(intOf kv).toNat);case atStart=>exact⟨0,_,by omega,rfl,A3.out,ij,qq.out⟩
  case round =>
   clear A3;obtain⟨k,m,hk,rfl,Ap,b3,hm⟩:=hrel;obtain⟨wo,rfl⟩:=Ey wr;by_cases aT:k<G.length
   .obtain⟨mv,iR,qK,rI⟩:=h.out.row k aT;have vD:Below w.heap.size w wo:=b1.trans (b3.mono b1.size);have cR:=(vD.cell (World.block_lt_of_cell? _ _ qK)).trans qK;have hM:=rI.below vD;have oq:=bK.out k aT;have hJ:=uC G k;have hag:∀j (hj:j<(G.getD k []).length),(aq G k)[j]?=some ((G.getD k [])[j]).toNat:=λj hj=>by
     show((G.getD k []).map Int.toNat)[j]?=_;rw[List.getElem?_map,List.getElem?_eq_getElem hj];rfl
    have sk:=gQ.out k aT;generalize G.getD k []=gk at *;have lM:=hM.len;generalize af (.slice na G.length nc) k=ra at *;replace⟨hm,Ap,hM,rI,oq,hag,hJ⟩:=zb hm Ap hM rI oq hag hJ;go_wp2_with fail;clear iR cR qK lM vD;go_loopw [35] (λjv wr=>∃(j:Nat) (m:Nat->Bool),j<=gk.length/\jv=.int .i64 j/\aZ 4 w1.heap.size wr (.slice la ln lc) (fY G.length m)/\Below w1.heap.size w1 wr/\qk G ps k j m) (λjv _=>gk.length-(intOf jv).toNat);case atStart=>exact⟨0,m,by omega,rfl,Ap.out,b3,hm.out⟩
    case round =>
     clear Ap b3 hm hM;obtain⟨j,m,hj,rfl,Ap,b3,hm⟩:=hrel;obtain⟨wo,rfl⟩:=Ey wr;by_cases dw:j<gk.length
     .have vt:=rI.out.below (b1.trans (b3.mono b1.size));have vg:=oq.out gk[j] (List.getElem_mem dw);obtain⟨t,hu⟩:∃t:Nat,gk[j]=t:=Int.eq_ofNat_of_zero_le vg.1;have gY:t<G.length:=by rw[hu] at vg;omega
      have jZ:gk.getD j 0=(t:Int):=by rw[List.getD_eq_getElem?_getD,List.getElem?_eq_getElem dw,hu];rfl
      have Be:(aq G k)[j]?=some t:=by rw[hag.out j dw,hu];rfl
      have iJ:=λw'=>vt.idx j dw w';have cJ:=vt.aH j dw;rw[jZ] at cJ;have XI:=Hq.out.below b3;have iT:=λw'=>XI.idx t (by rw[Kp.out];exact gY) w';have cT:=XI.aH t (by rw[Kp.out];exact gY);have iK:=λw'=>XI.idx k (by rw[Kp.out];exact aT) w';have cK:=XI.aH k (by rw[Kp.out];exact aT);have ks:=hm.add Be;have iL:=λw'=>Ap.at.idx et k (by rw[aW];exact aT) w';have cL:=Ap.at.lp k (by rw[aW];exact aT);rw[kt _ _ _ aT] at cL;have fL:=Ap.mQ k (by rw[aW];exact aT);have kL:=(Ap.jP k (by rw[aW];exact aT)).2;have gI:=Ap.set k (by rw[aW];exact aT) (.bool true);rw[rm] at gI;generalize af mv j=ja at *;generalize af (.slice pa pn pc) t=ta at *;generalize af (.slice pa pn pc) k=ka at *;generalize af (.slice la ln lc) k=qa at *;obtain⟨pt,hpt⟩:=Ex (ps.getD t 0);obtain⟨pk,KD⟩:=Ex (ps.getD k 0);rw[hpt] at cT ks;rw[KD] at cK ks;generalize m k=mk at cL;replace⟨hm,Ap,gI,XI,vt,hpt,KD,jZ⟩:=gp hm Ap gI XI vt hpt KD jZ;replace⟨vg,hu,Be⟩:=dO vg hu Be;by_cases he:pt=pk
      .have hq:(pt==pk)=true:=by simp[he]
       have vm:=ks _ (if_pos he).symm;replace⟨vm,he⟩:=bD vm he;clear ks;go_upto_region 11 with fail;go_quiet (fail);go_wp2;go_roundw;case measure=>simp[intOf];omega
       case rel =>
        refine⟨j+1,_,by omega,by go_num,?_,?_,vm.out⟩;.exact gI.out
        .exact(below_drewN b3 nq).setCell kL _
      .have hq:(pt==pk)=false:=by simp[he]
       have vm:=ks _ (if_neg he).symm;replace⟨vm,he⟩:=bD vm he;clear ks;go_upto_region 11 with fail;go_quiet (fail);go_wp2;go_roundw;case measure=>simp[intOf];omega
       case rel=>exact⟨j+1,m,by omega,by go_num,Ap.out,b3.trans ⟨rfl,rfl,rfl,Nat.le_refl _,λ_ _=>rfl⟩,vm.out⟩
     .obtain rfl:j=gk.length:=by omega
      have jD:=(hJ.out▸hm:qk G ps k (aq G k).length m).next;replace⟨jD,hm,Ap⟩:=dO jD hm Ap;go_wp2;go_roundw;case measure=>simp[intOf];omega
      case rel=>exact⟨k+1,m,by omega,by go_num,Ap.out,b3,jD.out⟩
   .obtain rfl:k=G.length:=by omega
    have vD:Below w.heap.size w wo:=b1.trans (b3.mono b1.size);have sR:=EF na nc G (.slice la ln lc) m wo (h.out.below vD) bK.out (by omega) Ap.at;have tS:∀x,x<G.length->(m x=true↔kj (aq G) x):=λx hx=>by
     rw[hm x hx,xp bK.out sI.out hx];constructor
     .rintro(⟨_,q⟩ | ⟨e,_⟩);.exact q
      .omega
     .intro q;exact .inl ⟨hx,q⟩
    replace⟨hm,tS,sR⟩:=dO hm tS sR;have hlo':=Hd Ap;clear Ap;go_wp2_with fail;refine sR.out.mono ?_;rintro e w4 ⟨bv,rfl,b4,bm,Nu,hbm⟩;have C4:=Below.step vD b4;have hBk:=L3 na nc G w4 (h.out.below C4) bK.out (by omega) sG;replace hBk:=Hd hBk;go_wp2_with fail;refine hBk.out.mono ?_;rintro e w5 ⟨hv,rfl,b5,H,hT,VJ⟩;obtain⟨ha,hc,rfl⟩:=VJ.shape;have hHn:=hT.1;have gX:=EF ha hc H (.slice la ln lc) m w5 VJ (uA hT) (by omega) (by rw[hHn];exact(hlo'.out.at.below b4).below b5);replace⟨gX,hHn,hT,VJ⟩:=gF gX hHn hT VJ;go_wp2_with fail;refine gX.out.mono ?_;rintro e w6 ⟨av,rfl,b6,am,hao,ham⟩;rw[hHn.out] at hao ham;have Og:∀x,x<G.length->((bm x&&am x)=true↔lh G.length (aq G) x):=λx hx=>by
     rw[Bool.and_eq_true,hbm x hx,ham x hx];unfold lh;constructor;.rintro⟨⟨u,hu,h1,h2⟩,v,hv,h3,h4⟩;exact⟨⟨u,hu,(tS.out u hu).1 h1,h2⟩,v,hv,(tS.out v hv).1 h3,pM hT.out bK.out h4 hv⟩
     .rintro⟨⟨u,hu,h1,h2⟩,v,hv,h3,h4⟩;exact⟨⟨u,hu,(tS.out u hu).2 h1,h2⟩,v,hv,(tS.out v hv).2 h3,zJ hT.out bK.out h4 hx⟩
    have Jq:=Nu.at.below (Below.step b5 b6);have hav:=hao.at;have hw6:=Below.step C4 (Below.step b5 b6);replace⟨Og,hbm,ham,Jq,hav,Nu,hao⟩:=zb Og hbm ham Jq hav Nu hao;clear sR gX hBk;go_wp2_with fail;go_loopw [13,62] (λqv kv wr=>∃(k:Nat) (L:List Nat) (qw:Value),qw=qv/\kv=.int .i64 k/\k<=G.length/\L.length<=k/\aj w6.heap.size wr qw (aw L)/\Below w6.heap.size w6 wr/\L.Pairwise (·<·)/\∀v,v∈L↔(v<k/\(bm v&&am v)=true)) (λ_ kv _=>G.length-(intOf kv).toNat);case atStart=>exact⟨0,[],_,rfl,rfl,by omega,by simp,aj.nil _ _,Below.refl _ _,List.Pairwise.nil,λv=>⟨λq=>(by cases q),λq=>by omega⟩⟩
    case round =>
     obtain⟨k,L,qv,rfl,rfl,hk,hLk,Rp,b7,XC,V4⟩:=hrel;obtain⟨wo,rfl⟩:=Ey wr;by_cases aT:k<G.length
     .have hB:=Jq.out.below b7;have hA:=hav.out.below b7;have iB:=λw'=>hB.idx et k (by rw[aW];exact aT) w';have cB:=hB.lp k (by rw[aW];exact aT);rw[kt _ _ _ aT] at cB;have iA:=λw'=>hA.idx et k (by rw[aW];exact aT) w';have cA:=hA.lp k (by rw[aW];exact aT);rw[kt _ _ _ aT] at cA;generalize af bv k=qb at *;generalize af av k=qa at *;have vY:(bm k&&am k)=true->∀v,v∈L++[k]↔(v<k+1/\(bm v&&am v)=true):=λhq v=>by
       rw[List.mem_append,V4 v,List.mem_singleton];constructor
       .rintro(⟨a,b⟩ | rfl);.exact⟨by omega,b⟩
        .exact⟨by omega,hq⟩
       .rintro⟨a,b⟩;by_cases e:v=k;.exact .inr e
        .exact .inl ⟨by omega,b⟩
      have ig:(bm k&&am k)=false->∀v,v∈L↔(v<k+1/\(bm v&&am v)=true):=λhq v=>by
       rw[V4 v];constructor;.rintro⟨a,b⟩;exact⟨by omega,b⟩
       .rintro⟨a,b⟩;by_cases e:v=k;.subst e;rw[hq] at b;cases b
        .exact⟨by omega,b⟩
      have Um:(L++[k]).Pairwise (·<·):=by
       rw[List.pairwise_append];refine⟨XC,List.pairwise_singleton _ _,λx hx y hy=>?_⟩;cases List.mem_singleton.1 hy;exact((V4 x).1 hx).1
      obtain⟨bk,It⟩:=Ex (bm k);obtain⟨ak,UB⟩:=Ex (am k);rw[It] at cB vY ig;rw[UB] at cA vY ig;replace⟨hB,hA,V4,XC,Um,It,UB⟩:=zb hB hA V4 XC Um It UB;cases bk with
      | false =>
       have hn:=ig rfl;replace⟨hn,Rp⟩:=bD hn Rp;clear vY ig;go_wp2;go_roundw;case measure=>simp[intOf];omega
       case rel=>exact⟨k+1,L,qv,rfl,by go_num,by omega,by omega,Rp.out,b7,XC.out,hn.out⟩
      | true =>
       cases ak with
       | false =>
        have hn:=ig rfl;replace⟨hn,Rp⟩:=bD hn Rp;clear vY ig;go_wp2;go_roundw;case measure=>simp[intOf];omega
        case rel=>exact⟨k+1,L,qv,rfl,by go_num,by omega,by omega,Rp.out,b7,XC.out,hn.out⟩
       | true =>
        have hy:=vY rfl;replace hy:=Hd hy;clear vY ig;have PC:w6.heap.size<=wo.heap.size:=b7.size;go_wp2_with (at_builtin;refine dD rfl _ _ rfl w6.heap.size qv (aw L) k Rp rfl rfl (by rw[aA];omega) PC ?_);intro mi w8 CS b8 Xp;replace CS:=Hd CS;clear Xp Rp;go_wp2;go_roundw;case measure=>simp[intOf];omega
        case rel=>exact⟨k+1,L++[k],mi,rfl,by go_num,by omega,by rw[List.length_append];simp only[List.length_cons,List.length_nil];omega,by rw[jS];exact CS.out,b7.trans b8,Um.out,hy.out⟩
     .obtain rfl:k=G.length:=by omega
      have zZ:iq G.length (aq G) L:=⟨XC,λv=>by
       rw[V4 v];constructor;.rintro⟨a,b⟩;exact⟨a,(Og.out v a).1 b⟩
       .rintro⟨a,b⟩;exact⟨a,(Og.out v a).2 b⟩⟩;obtain⟨qa,qn,qc,rfl⟩:=Rp.at.shape;replace⟨zZ,Rp,V4,XC⟩:=gF zZ Rp V4 XC;go_wp2;go_ret2;exact⟨_,_,rfl,Below.step hw6 b7,⟨by rw[fK.out];rfl,⟨λ_=>⟨L,zZ.out,Rp.out.mono hw6.size⟩,λq=>absurd fK.out q⟩⟩⟩
def BC(l:List Nat)(D:Nat->Int)(d:Int)(k:Nat)(b:Int):Prop :=
 (b=-1/\∀t∈l.take k,D t≠d)\/∃m:Nat,b=m/\m∈l.take k/\D m=d/\∀t∈l.take k,D t=d->m<=t
theorem BC.low{l:List Nat}{D:Nat->Int}{d:Int}{k:Nat}{b:Int}(h:BC l D d k b):-1<=b:=by
 rcases h with ⟨h,_⟩ | ⟨m,h,_⟩<;>omega
theorem qO{l:List Nat}{k t:Nat}(ht:l[k]?=some t)(x:Nat):x∈l.take (k+1)↔x∈l.take k\/x=t:=by
 rw[List.take_add_one,ht];simp
theorem BC.take{l:List Nat}{D:Nat->Int}{d:Int}{k:Nat}{b:Int}(h:BC l D d k b){t:Nat}(ht:l[k]?=some t)(hd:D t=d)(hb:b<0\/(t:Int)<b):BC l D d (k+1) t:=by
 refine .inr ⟨t,rfl,(qO ht t).2 (.inr rfl),hd,λx hx hxd=>?_⟩;rcases (qO ht x).1 hx with hx | rfl
 .rcases h with ⟨h1,h2⟩ | ⟨m,h1,h2,h3,h4⟩;.exact absurd hxd (h2 x hx)
  .have:=h4 x hx hxd;omega
 .exact Nat.le_refl _
structure Down (n:Nat) (adj:Nat->List Nat) (x y:Nat) (D:Nat->Int) (out:List Nat) (v:Nat):Prop where
 low:v<n
 there:0<=D v
 len:(out.length:Int)+D v=D x+1
 last:∃pre,out=pre++[v]
 ext:∀u,eA adj v y u->∀pre,out=pre++[v]->eA adj x y (pre++u)
theorem eA.one(adj:Nat->List Nat)(y:Nat):eA adj y y [y]:=by
 refine⟨.one y,λu hu=>hu.pos,λu hu hl=>?_⟩;obtain⟨w,rfl⟩:=hu.ne;cases w with
 | nil=>exact wu _
 | cons a w=>simp at hl
theorem Jt{B:Nat}{w w1:World}{f:Names}{i:Nat×Nat}{qv mi:Value}{q:List Nat}(hr:Rows B w f)(hf:f i=some (aD qv (aw q)))(t:Nat)(ho:aj B w1 mi (aw q++[(t:Int)]))(hJ:(dJ mi=dJ qv/\w.grownBy w1 qv.ownBlock)\/(∃k,mi.ownBlock=some k/\w.heap.size<=k/\w.grownBy w1 none)):Rows B w1 (ch f i (some (aD mi (aw (q++[t]))))):=by
 have hO:=hr.aR hf;have hg:w.grownBy w1 qv.ownBlock:=jr (hJ.imp (·.2) (λ⟨_,_,_,q⟩=>q));have uw:mi.ownBlock=qv.ownBlock\/∃k,mi.ownBlock=some k/\w.heap.size<=k:=by
  rcases hJ with ⟨q,_⟩ | ⟨k,h1,h2,_⟩;.obtain⟨a1,n1,c1,e1⟩:=hO.at.shape;obtain⟨a2,n2,c2,e2⟩:=ho.at.shape;exact .inl (cM e1 e2 q)
  .exact .inr ⟨k,h1,h2⟩
 have:=hr.grown (r':=aD mi (aw q++[(t:Int)])) hf hg ho uw;rwa [<-jS] at this
theorem WT(w1:World)(x0 x1 x2:Value):
 Below w1.heap.size w1 (w1.alloc (.cells #[x0,x1,x2] 36))/\az (w1.alloc (.cells #[x0,x1,x2] 36)) w1.heap.size x0 x1 x2/\(w1.alloc (.cells #[x0,x1,x2] 36)).heap.size=w1.heap.size+1:=by
 obtain⟨y0,y1,y2,f⟩:=oD (Below.refl (w1.alloc (.cells #[x0,x1,x2] 36)).heap.size (w1.alloc (.cells #[x0,x1,x2] 36)));exact⟨ab w1 _,⟨⟨y0,y1,y2⟩,f⟩,by simp⟩
theorem LR{G:List (List Int)}{n:Int}{l:List (ByteArray×Int)}(h:cH G=some (n,l)):(n != 0)=true:=by
 unfold cH at h;split at h;.injection h with h;injection h with h;subst h;rfl
 split at h;.injection h with h;injection h with h;subst h;rfl
 split at h;.injection h with h;injection h with h;subst h;rfl
 .cases h
theorem aj.j9{B b:Nat}{w:World}{v:Value}{xs:List Int}(h:aj B w v xs)(hb:b<B)(x y z:Value):aj B (((w.setCell ⟨b,0,none⟩ x).setCell ⟨b,1,none⟩ y).setCell ⟨b,2,none⟩ z) v xs :=
 aZ.YW (((h.yB.al (a:=⟨b,0,none⟩) hb x).al (a:=⟨b,1,none⟩) hb y).al (a:=⟨b,2,none⟩) hb z)
def WZ(w:World)(t:ky)(P:Value->World->Prop)(x y:Value)(w':World):Prop :=
 gw w.heap.size w' t y/\(t=none->P x w')/\(t≠none->x=.slice none 0 0)
def Ss(B:Nat):Cl->Value->Value->Value->World->Prop
 | .on _ _,x,y,z,_=>x=.bool true/\y=.slice none 0 0/\z=lk
 | .dr wd,x,y,z,w'=>x=.bool false/\z=lk/\aj B w' y wd
 | .nO,x,y,z,w'=>x=.bool false/\y=.slice none 0 0/\gw B w' (fresh xo 0 4) z
theorem Mj(K R:Nat)(va:Option Addr)(vn vc:Nat)(T:List Int)(w:World)(h:ae w (.slice va vn vc) T)(bK:aG K R T)(hl:T.length<=256)(gq:cd K R T=none):
 Calls Tryz.prog 25 #[.agg #[.int .i64 K,.int .i64 R,.slice va vn vc]] w (vf (λx y z w'=>Ss w.heap.size (DK K (pw K (2*R)) T) x y z w') w):=by
 have bA:=Below.step (ab w (.cells #[.int .i64 K,.int .i64 R,.slice va vn vc] 24)) (ab _ (.cells #[.int .i64 0,.slice none 0 0,.slice none 0 0] 36));have qA:az ((w.alloc (.cells #[.int .i64 K,.int .i64 R,.slice va vn vc] 24)).alloc (.cells #[.int .i64 0,.slice none 0 0,.slice none 0 0] 36)) w.heap.size (.int .i64 K) (.int .i64 R) (.slice va vn vc):=by simp[az,go_sem]
 have qE:az ((w.alloc (.cells #[.int .i64 K,.int .i64 R,.slice va vn vc] 24)).alloc (.cells #[.int .i64 0,.slice none 0 0,.slice none 0 0] 36)) (w.heap.size+1) (.int .i64 0) (.slice none 0 0) (.slice none 0 0):=by simp[az,go_sem]
 have s0:((w.alloc (.cells #[.int .i64 K,.int .i64 R,.slice va vn vc] 24)).alloc (.cells #[.int .i64 0,.slice none 0 0,.slice none 0 0] 36)).heap.size=w.heap.size+2:=by simp
 obtain⟨WA,lU⟩:=Ex (((w.alloc (.cells #[.int .i64 K,.int .i64 R,.slice va vn vc] 24)).alloc (.cells #[.int .i64 0,.slice none 0 0,.slice none 0 0] 36)));replace h:=h.below bA;rw[lU] at h bA qA qE s0;have qp:=λ(W:World) (h':ae W (.slice va vn vc) T)=>adm K R va vn vc T W h' bK hl;rw[<-Vo];obtain⟨wT,qY⟩:=Ex (Bp true K (pw K (2*R)) T);rw[qY] at qp ⊢;have pY:=lF xo K R va vn vc T WA h;rw[gq] at pY;replace⟨qp,h,s0,lU,qY,bK⟩:=rr qp h s0 lU qY bK;obtain⟨⟨z0,z1,z2⟩,-,-,-⟩:=id qA;go_enter Tryz.func25,Tryz.ntmps25;go_upto_region 1 with fail;rw[lU.out];go_wp2_with fail;refine pY.mono ?_;rintro e w1 ⟨_,rfl,b1,rfl⟩;clear pY;obtain⟨be,⟨⟨y0,y1,y2⟩,-,-,-⟩⟩:=jm w1 (.int .i64 0) (.slice none 0 0) (.slice none 0 0);have rV:=Below.step b1 be;obtain⟨W2,dZ⟩:=Ex (w1.alloc (.cells #[.int .i64 0,.slice none 0 0,.slice none 0 0] 36));rw[dZ] at be rV y0 y1 y2;replace dZ:=Hd dZ;clear z0 z1 z2;go_upto_region 2 with fail;rw[dZ.out];go_wp2_with fail;refine(fH _ _ _ _ _ _ _ W2).mono ?_;rintro e w3 ⟨_,rfl,b3,rfl⟩;rw[show((0:Int) != 0)=false from rfl];have c3:=Below.step rV b3;clear y0 y1 y2;obtain⟨⟨z0,z1,z2⟩,-,-,-⟩:=qA.below c3;have V6:=h.out.below c3;go_wp2_with fail;refine(qp.out w3 V6).mono ?_;clear z0 z1 z2 V6 qp;cases wT with
 | on a ws x =>
  rintro e w4 ⟨g,rfl,b4,c5,c6⟩;have c4:=Below.step c3 b4;obtain⟨⟨e0,e1,e2⟩,f0,f1,f2⟩:=qE.below c4;have bE:=Below.step bA c4;go_wp2;refine bodyPost_ret (v:=.tuple #[.bool true,.slice none 0 0,lk]) (by simp[results,Tryz.results25,go_sem,e0,e1,e2]) rfl ⟨_,_,_,rfl,aB bE (by omega) _ _ _,rfl,rfl,rfl⟩
 | dr wd =>
  rintro e w4 ⟨g,ov,rfl,b4,c5,c4',hO⟩;have c4:=Below.step c3 b4;obtain⟨⟨e0,e1,e2⟩,f0,f1,f2⟩:=qE.below c4;have bE:=Below.step bA c4;obtain⟨oa,on,oc,rfl⟩:=hO.at.shape;have SW:=c3.size;rw[s0.out] at SW;go_upto_region 6 with fail;refine ar (λw'=>w'.cell? ⟨g,4,none⟩=some (.slice oa on oc)) 7 [(0,true),(1,true),(2,true),(3,true),(4,true),(5,true),(6,true)] (by kernel_rfl) (by kernel_rfl) ?_;obtain⟨W,hW⟩:=Ex w4.drew;have hS:W.cell? ⟨g,4,none⟩=some (.slice oa on oc):=by rw[<-hW];exact c4'
  have bW:Below w.heap.size w W:=by rw[<-hW];exact bE.drew
  have Eh:aj w3.heap.size W (.slice oa on oc) wd:=by rw[<-hW];exact hO.drew
  have g0:W.cell? ⟨w.heap.size+1,0,none⟩=some (.int .i64 0):=by rw[<-hW];exact e0
  have g1:W.cell? ⟨w.heap.size+1,1,none⟩=some (.slice none 0 0):=by rw[<-hW];exact e1
  have g2:W.cell? ⟨w.heap.size+1,2,none⟩=some (.slice none 0 0):=by rw[<-hW];exact e2
  have k0:W.frozen? ⟨w.heap.size+1,0,none⟩=false:=by rw[<-hW];exact f0
  have k1:W.frozen? ⟨w.heap.size+1,1,none⟩=false:=by rw[<-hW];exact f1
  have k2:W.frozen? ⟨w.heap.size+1,2,none⟩=false:=by rw[<-hW];exact f2
  rw[hW];clear hW e0 e1 e2 f0 f1 f2 c4' hO bE;refine ay 18 hS ?_;refine ay 19 hS ?_;refine ay 20 hS ?_;refine ay 21 hS ?_;refine ay 22 hS ?_;refine ay 2 hS ?_;refine ay 3 hS ?_;refine dA ?_;simp only[List.drop_succ_cons,List.drop_zero];have hO9:=(Eh.j9 (b:=w.heap.size+1) (by omega) (.int .i64 0) (.slice none 0 0) (.slice none 0 0)).mono (B':=w.heap.size) (by omega);replace hO9:=Hd hO9;clear Eh;go_wp2;refine NoPanic.normal ?_;go_wp2;refine bodyPost_ret (v:=.tuple #[.bool false,.slice oa on oc,lk]) (by simp[results,Tryz.results25,go_sem,g0,g1,g2]) rfl ⟨_,_,_,rfl,aB bW (by omega) _ _ _,rfl,rfl,hO9.out⟩
 | nO =>
  rintro e w4 ⟨g,rfl,b4,c5,c6⟩;have c4:=Below.step c3 b4;go_wp2_with fail;refine(jC _ _ _ _).mono ?_;rintro e w5 ⟨z,rfl,b5,hz⟩;have c45:=Below.step c4 b5;obtain⟨⟨e0,e1,e2⟩,f0,f1,f2⟩:=qE.below c45;have bE:=Below.step bA c45;obtain⟨n1,a1,m1,k1,a2,m2,k2,rfl⟩:=hz.shape;have hs4:=c4.size;rw[s0.out] at hs4;have Bh:=(hz.j9 (b:=w.heap.size+1) (by omega) (.int .i64 n1) (.slice a1 m1 k1) (.slice a2 m2 k2)).mono (B':=w.heap.size) (by omega);replace⟨Bh,hz⟩:=bD Bh hz;go_wp2;refine bodyPost_ret (v:=.tuple #[.bool false,.slice none 0 0,.agg #[.int .i64 n1,.slice a1 m1 k1,.slice a2 m2 k2]]) (by simp[results,Tryz.results25,go_sem,e0,e1,e2]) rfl ⟨_,_,_,rfl,aB bE (by omega) _ _ _,rfl,rfl,Bh.out⟩
abbrev tP(T:TypeId)(n g:Nat)(cs:List Value):Row:=⟨T,n,.slice (some ⟨g,0,none⟩) 1 1,1,cs⟩
theorem Rows.NF{B:Nat}{w:World}{f:Names}(i:Nat×Nat)(h:Rows B w f)(hB:B<=w.heap.size)(T:TypeId)(n:Nat)(cs:Array Value)(hs:cs.size=n):
 ∃f',Rows B (w.alloc (.cells cs T)) f'/\f' i=some (tP T n w.heap.size cs.toList)/\∀j,j≠i->f' j=f j :=
 h.y8 i (r':=tP T n w.heap.size cs.toList) (ab w _) (World.ownsRow_lit (base:=B) (e:=T) (size:=n) w cs 1 hB (by unfold maxLen;omega) (by rw[hs];omega)) (λk hk=>by cases hk;exact Nat.le_refl _)
section
variable {B:Nat} {w:World} {f:Names} {i:Nat×Nat} {T:TypeId} {n g:Nat} {cs:List Value}
theorem Rows.bz(h:Rows B w f)(hi:f i=some (tP T n g cs))(k:Nat)(hk:k<n):w.cell? ⟨g,k,none⟩=cs[k]?:=h.cell hi (g:=g) (cap:=1) rfl k (show k<1*n by omega)
theorem Rows.ml(h:Rows B w f)(hi:f i=some (tP T n g cs))(k:Nat):w.frozen? ⟨g,k,none⟩=false:=h.frozen hi (g:=g) (cap:=1) rfl k
theorem Rows.DH(h:Rows B w f)(hi:f i=some (tP T n g cs)):B<=g/\g<w.heap.size:=h.lt hi g rfl
theorem Rows.yu(h:Rows B w f)(hi:f i=some (tP T n g cs))(k:Nat)(y:Value):∃f',Rows B (w.setCell ⟨g,k,none⟩ y) f'/\f' i=some (tP T n g (cs.set k y))/\∀j,j≠i->f' j=f j :=
 ⟨_,h.set hi (g:=g) (cap:=1) rfl k y,ah _ _ _,λ_ e=>ad _ _ e⟩
end
def gJ(B:Nat)(w:World)(b x e o:Nat)(rs cs es zs:List Value)(ov fv:Value)(ol fl:List Int):Prop :=
 ∃f,Rows B w f/\f (40,0)=some (tP 29 9 x cs)/\f (41,0)=some (tP 46 5 e es)/\f (42,0)=some (tP 29 9 o zs)/\f (43,0)=some (aD ov ol)/\f (44,0)=some (aD fv fl)/\f (45,0)=some (tP 24 3 b rs)
section
variable {B:Nat} {w:World} {b x e o:Nat} {rs cs es zs:List Value} {ov fv:Value} {ol fl:List Int}
theorem gJ.below{w':World}(h:gJ B w b x e o rs cs es zs ov fv ol fl)(hb:Below w.heap.size w w'):gJ B w' b x e o rs cs es zs ov fv ol fl:=by
 obtain⟨f,hR,r⟩:=h;exact⟨f,hR.below hb,r⟩
theorem gJ.low(h:gJ B w b x e o rs cs es zs ov fv ol fl):B<=x/\B<=e/\B<=o:=by
 obtain⟨f,hR,n0,n1,n2,-,-,-⟩:=h;exact⟨(hR.DH n0).1,(hR.DH n1).1,(hR.DH n2).1⟩
theorem gJ.cx(h:gJ B w b x e o rs cs es zs ov fv ol fl)(k:Nat)(hk:k<9):w.cell? ⟨x,k,none⟩=cs[k]?:=by
 obtain⟨f,hR,n0,n1,n2,-,-,-⟩:=h;exact hR.bz n0 k hk
theorem gJ.ce(h:gJ B w b x e o rs cs es zs ov fv ol fl)(k:Nat)(hk:k<5):w.cell? ⟨e,k,none⟩=es[k]?:=by
 obtain⟨f,hR,n0,n1,n2,-,-,-⟩:=h;exact hR.bz n1 k hk
theorem gJ.co(h:gJ B w b x e o rs cs es zs ov fv ol fl)(k:Nat)(hk:k<9):w.cell? ⟨o,k,none⟩=zs[k]?:=by
 obtain⟨f,hR,n0,n1,n2,-,-,-⟩:=h;exact hR.bz n2 k hk
theorem gJ.cr(h:gJ B w b x e o rs cs es zs ov fv ol fl)(k:Nat)(hk:k<3):w.cell? ⟨b,k,none⟩=rs[k]?:=by
 obtain⟨f,hR,n0,n1,n2,-,-,n5⟩:=h;exact hR.bz n5 k hk
theorem gJ.fx(h:gJ B w b x e o rs cs es zs ov fv ol fl)(k:Nat):w.frozen? ⟨x,k,none⟩=false:=by
 obtain⟨f,hR,n0,n1,n2,-,-,-⟩:=h;exact hR.ml n0 k
theorem gJ.fe(h:gJ B w b x e o rs cs es zs ov fv ol fl)(k:Nat):w.frozen? ⟨e,k,none⟩=false:=by
 obtain⟨f,hR,n0,n1,n2,-,-,-⟩:=h;exact hR.ml n1 k
theorem gJ.fo(h:gJ B w b x e o rs cs es zs ov fv ol fl)(k:Nat):w.frozen? ⟨o,k,none⟩=false:=by
 obtain⟨f,hR,n0,n1,n2,-,-,-⟩:=h;exact hR.ml n2 k
theorem gJ.sx(h:gJ B w b x e o rs cs es zs ov fv ol fl)(k:Nat)(y:Value):gJ B (w.setCell ⟨x,k,none⟩ y) b x e o rs (cs.set k y) es zs ov fv ol fl:=by
 obtain⟨f,hR,n0,n1,n2,n3,n4,n5⟩:=h;obtain⟨f',np,m0,o'⟩:=hR.yu n0 k y;exact⟨f',np,m0,(o' _ (by decide)).trans n1,(o' _ (by decide)).trans n2,(o' _ (by decide)).trans n3,(o' _ (by decide)).trans n4,(o' _ (by decide)).trans n5⟩
theorem gJ.se(h:gJ B w b x e o rs cs es zs ov fv ol fl)(k:Nat)(y:Value):gJ B (w.setCell ⟨e,k,none⟩ y) b x e o rs cs (es.set k y) zs ov fv ol fl:=by
 obtain⟨f,hR,n0,n1,n2,n3,n4,n5⟩:=h;obtain⟨f',np,m0,o'⟩:=hR.yu n1 k y;exact⟨f',np,(o' _ (by decide)).trans n0,m0,(o' _ (by decide)).trans n2,(o' _ (by decide)).trans n3,(o' _ (by decide)).trans n4,(o' _ (by decide)).trans n5⟩
theorem gJ.so(h:gJ B w b x e o rs cs es zs ov fv ol fl)(k:Nat)(y:Value):gJ B (w.setCell ⟨o,k,none⟩ y) b x e o rs cs es (zs.set k y) ov fv ol fl:=by
 obtain⟨f,hR,n0,n1,n2,n3,n4,n5⟩:=h;obtain⟨f',np,m0,o'⟩:=hR.yu n2 k y;exact⟨f',np,(o' _ (by decide)).trans n0,(o' _ (by decide)).trans n1,m0,(o' _ (by decide)).trans n3,(o' _ (by decide)).trans n4,(o' _ (by decide)).trans n5⟩
theorem gJ.dr{w':World}{v:Value}{l:List Int}(h:gJ B w b x e o rs cs es zs ov fv ol fl)(hb:Below w.heap.size w w')(hB:B<=w.heap.size)(ho:aj w.heap.size w' v l):gJ B w' b x e o rs cs es zs v fv l fl:=by
 obtain⟨f,hR,n0,n1,n2,n3,n4,n5⟩:=h;obtain⟨f',np,m0,o'⟩:=hR.y8 (43,0) (r':=aD v l) hb (ho.mono hB) (λk hk=>(ho.lt k hk).1);exact⟨f',np,(o' _ (by decide)).trans n0,(o' _ (by decide)).trans n1,(o' _ (by decide)).trans n2,m0,(o' _ (by decide)).trans n4,(o' _ (by decide)).trans n5⟩
theorem gJ.jJ{w':World}{v:Value}{l:List Int}(h:gJ B w b x e o rs cs es zs ov fv ol fl)(hb:Below w.heap.size w w')(hB:B<=w.heap.size)(ho:aj w.heap.size w' v l):gJ B w' b x e o rs cs es zs ov v ol l:=by
 obtain⟨f,hR,n0,n1,n2,n3,n4,n5⟩:=h;obtain⟨f',np,m0,o'⟩:=hR.y8 (44,0) (r':=aD v l) hb (ho.mono hB) (λk hk=>(ho.lt k hk).1);exact⟨f',np,(o' _ (by decide)).trans n0,(o' _ (by decide)).trans n1,(o' _ (by decide)).trans n2,(o' _ (by decide)).trans n3,m0,(o' _ (by decide)).trans n5⟩
theorem gJ.lists(h:gJ B w b x e o rs cs es zs ov fv ol fl):aj B w ov ol/\aj B w fv fl/\(ov.ownBlock=none\/ov.ownBlock≠fv.ownBlock):=by
 obtain⟨f,hR,n0,n1,n2,n3,n4,n5⟩:=h;exact⟨hR.aR n3,hR.aR n4,hR.2 (43,0) (44,0) _ _ n3 n4 (by decide)⟩
end
def eZ:Cl->Int
 | .on _ _=>1
 | .dr _=>2
 | .nO=>3
def jF:Cl->List Int
 | .dr w=>w
 | _=>[]
open Go.RowKit Go.Extern.Stop Go.Stop Go.Extern
namespace Errs
theorem noIsE(v:Value)(xT:TypeId)(w:World):(Instr.typeAssert (.iface 273 v) xT 151 true).run Tryz.prog w=.ok (.tuple #[.nilIface,.bool false]) w:=run_typeAssert_lacksB uIs (by kernel_rfl) (by kernel_rfl) v xT w
theorem Lz(v:Value)(xT:TypeId)(w:World):(Instr.typeAssert (.iface 273 v) xT 154 true).run Tryz.prog w=.ok (.tuple #[.nilIface,.bool false]) w:=run_typeAssert_lacksB uUnw (by kernel_rfl) (by kernel_rfl) v xT w
theorem acM : Tryz.prog.underlying 155 = some (.interface #[("Unwrap", 157)]) := by kernel_rfl
theorem GY(v:Value)(xT:TypeId)(w:World):(Instr.typeAssert (.iface 273 v) xT 155 true).run Tryz.prog w=.ok (.tuple #[.nilIface,.bool false]) w:=run_typeAssert_lacksB acM (by kernel_rfl) (by kernel_rfl) v xT w
theorem Tx{r:Nat->Addr}{w:World}(hg:ck r w){m n:Int}(hm:1<=m/\m<=11)(hn:1<=n/\n<=11)(bM:m≠n):(binOp .eql 31 (iZ r m) (iZ r n)).run Tryz.prog w=.ok (.bool false) w:=by
 obtain⟨i,hi,KO⟩:=Option.map_eq_some_iff.1 VF;obtain⟨j,hj,YY⟩:=Option.map_eq_some_iff.1 Tu;obtain⟨c1,t1,f1⟩:=hg.flat m.toNat (.inl (by omega));obtain⟨c2,t2,f2⟩:=hg.flat n.toNat (.inl (by omega));exact run_eql_iface_ptr_other (P:=Tryz.prog) w Po uES hi KO hj (by rw[YY];decide) (λe=>bM (hg.apart m n hm.1 hm.2 hn.1 hn.2 e)) f1 f2
theorem MZ(r:Nat->Addr)(n m:Int)(l:List (ByteArray×Int))(v:Value)(w:World)(hg:ck r w)(h:iw r w n l v)(hm:1<=m/\m<=11)(hn:1<=n/\n<=11)(bM:n≠m):
 Calls Tryz.prog 40 #[v,iZ r m,.bool true] w λe w'=>e=.returned (.bool false)/\w=w':=by
 have heq:=Tx hg hn hm bM;have nF:=aaz;have uF:=wg;have mU:=r9;have nE:=noIsE;have uE:=Lz;have usE:=GY;replace⟨h,hg⟩:=bD h hg;clear hm hn bM;go_enter Tryz.func40,Tryz.ntmps40;go_wp2;go_loopg [0] l.length (λk u wr=>wr=w/\∃l',l'.length=k/\iw r w n l' u);case atStart=>exact⟨rfl,l,rfl,h.out⟩
 case round =>
  obtain⟨rfl,l',yg,hu⟩:=hrel;match l',yg,hu with
  | [],yg,hu =>
   obtain rfl:_=iZ r n:=hu;clear yg;go_wp2;go_ret;exact⟨rfl,rfl⟩
  | (op,at_)::rest,yg,hu =>
   obtain⟨p,u',rfl,c0,c1,c2,kp⟩:=hu;obtain⟨T,a,rfl⟩:=kp.shape;have hty:=run_eql_iface_types (P:=Tryz.prog) 77 273 (.pointer (some ⟨p,0,none⟩)) (.pointer (some (r m.toNat))) Po (by decide) wr;replace⟨kp,yg⟩:=bD kp yg;go_wp2_with (go_at_call 202;refine(vR p _ _ c2).mono ?_;rintro e w' ⟨rfl,rfl⟩);go_roundg rest.length;case measure=>have:=yg.out;simp at this;omega
   case rel=>exact⟨rfl,rest,rfl,kp.out⟩
theorem is_no(r:Nat->Addr)(n m:Int)(l:List (ByteArray×Int))(v:Value)(w:World)(hg:ck r w)(h:iw r w n l v)(hm:1<=m/\m<=11)(hn:1<=n/\n<=11)(bM:n≠m):
 Calls Tryz.prog 17 #[v,iZ r m] w λe w'=>e=.returned (.bool false)/\w=w':=by
 have h8:=@run_callFunc_extern Tryz.prog 39 _ Extern.ReflectliteType.typeOf Tryz.func39 (by kernel_rfl) (by kernel_rfl) (by kernel_rfl) (by kernel_rfl);have h32 := @run_callFunc_extern Tryz.prog 209 _ (Extern.ReflectliteType.method λt=> do Extern.Rtype.noPackHeld "Comparable" t;pure (.bool (<-typeInfo t).comparable)) Tryz.func209 (by kernel_rfl) (by kernel_rfl) (by kernel_rfl) (by kernel_rfl);have tT:=G8;have cT:=zO;have mR:=qI;obtain⟨T,a,rfl⟩:=h.shape;replace⟨h,hg⟩:=bD h hg;go_enter Tryz.func17,Tryz.ntmps17;go_wp2_with fail;refine(MZ r n m l _ _ hg.out h.out hm hn bM).mono ?_;rintro e w' ⟨rfl,rfl⟩;go_wp2;go_ret;exact⟨rfl,rfl⟩
theorem aa3(T:TypeId)(x:Value)(w:World):Calls Tryz.prog 17 #[.nilIface,.iface T x] w λe w'=>e=.returned (.bool false)/\w=w':=by
 have q:=fun w':World=>run_eql_iface_nil_left (P:=Tryz.prog) w' T x Po;go_enter Tryz.func17,Tryz.ntmps17;go_wp2;go_ret;exact⟨rfl,rfl⟩
end Errs
theorem bH.loop{adj:Nat->List Nat}{x y:Nat}(h:bH adj x y)(ha:x∈adj y):kj adj x:=by
 obtain⟨w,hw⟩:=h.way;cases hw with
 | one=>exact⟨x,ha,.refl x⟩
 | @cons _ t _ w ht hw=>exact⟨t,ht,.step hw.goes ha⟩
theorem vl.swap{n:Nat}{A B:Nat->List Nat}{gK out c d:Nat->Nat}{gone:Nat->Bool}{q:List Nat}{dC:Nat->Prop}(h:vl n A B gK out c d gone q dC):vl n B A out gK d c gone q dC :=
 ⟨h.Vx,h.TI,h.nodup,h.xm,h.low,λv hv=>(h.fresh v hv).symm,h.keep⟩
theorem pQ.swap{n:Nat}{A B:Nat->List Nat}{dC:Nat->Prop}(h:pQ n A B dC):pQ n B A dC:=⟨h.ahead,h.behind⟩
structure PS (n:Nat) (A B:Nat->List Nat) (gK out c d:Nat->Nat) (gone:Nat->Bool) (q:List Nat) (dC:Nat->Prop) (i:Nat):Prop where
 nL:vl n A B gK out c d gone q dC
 pos:∀t,t<n->gone t=false->0<gK t/\0<out t
 done:∀j x,j<i->q[j]?=some x->c x=(A x).length/\d x=(B x).length
 rest:∀j x,i<=j->q[j]?=some x->c x=0/\d x=0
structure Rn (n:Nat) (A B:Nat->List Nat) (gK out c d:Nat->Nat) (gone:Nat->Bool) (q:List Nat) (dC:Nat->Prop) (i v:Nat):Prop where
 nL:vl n A B gK out c d gone q dC
 pos:∀t,t<n->gone t=false->0<gK t/\0<out t
 cur:q[i]?=some v
 done:∀j x,j<i->q[j]?=some x->c x=(A x).length/\d x=(B x).length
 rest:∀j x,i<j->q[j]?=some x->c x=0/\d x=0
section
variable {n:Nat} {A B:Nat->List Nat} {gK out c d:Nat->Nat} {gone:Nat->Bool} {q:List Nat} {dC:Nat->Prop} {i v:Nat}
theorem Rn.swap(h:Rn n A B gK out c d gone q dC i v):Rn n B A out gK d c gone q dC i v :=
 ⟨h.nL.swap,λt ht hg=>(h.pos t ht hg).symm,h.cur,λj x hj hx=>(h.done j x hj hx).symm,λj x hj hx=>(h.rest j x hj hx).symm⟩
theorem PS.enter(h:PS n A B gK out c d gone q dC i)(hv:q[i]?=some v):Rn n A B gK out c d gone q dC i v/\c v=0/\d v=0/\v<n :=
 ⟨⟨h.nL,h.pos,hv,h.done,λj x hj hx=>h.rest j x (by omega) hx⟩,(h.rest i v (Nat.le_refl _) hv).1,(h.rest i v (Nat.le_refl _) hv).2,h.nL.low v (List.mem_of_getElem? hv)⟩
theorem Rn.leave(h:Rn n A B gK out c d gone q dC i v)(hc:c v=(A v).length)(hd:d v=(B v).length):PS n A B gK out c d gone q dC (i+1):=by
 refine⟨h.nL,h.pos,λj x hj hx=>?_,λj x hj hx=>h.rest j x (by omega) hx⟩;by_cases e:j=i;.subst e;rw[h.cur] at hx;cases hx;exact⟨hc,hd⟩
 .exact h.done j x (by omega) hx
theorem Rn.step(h:Rn n A B gK out c d gone q dC i v)(hL:pQ n A B dC){k t:Nat}(hk:c v=k)(ht:(A v)[k]?=some t)(gY:t<n):
 0<gK t/\(gK t=1->gone t=false->Rn n A B (aN gK t (gK t-1)) out (aN c v (k+1)) d (aN gone t true) (q++[t]) dC i v) /\
 ((gK t=1->gone t=true)->Rn n A B (aN gK t (gK t-1)) out (aN c v (k+1)) d gone q dC i v):=by
 have VE:=List.mem_of_getElem? h.cur;obtain⟨h0,hp⟩:=h.nL.acE VE hk ht gY;have bM:∀j x,j≠i->q[j]?=some x->x≠v:=λj x hj hx e=>hj (get_inj h.nL.nodup (by rw[hx,e]) h.cur);have kd:∀j x,j<i->q[j]?=some x->aN c v (k+1) x=(A x).length/\d x=(B x).length:=λj x hj hx=>by
  rw[ag _ _ _ (bM j x (by omega) hx)];exact h.done j x hj hx
 have kp:∀j x,i<j->q[j]?=some x->aN c v (k+1) x=0/\d x=0:=λj x hj hx=>by
  rw[ag _ _ _ (bM j x (by omega) hx)];exact h.rest j x hj hx
 refine⟨h0,λh1 hg=>?_,λh1=>?_⟩
 .have KE:t∉q:=λhm=>by have:=(h.nL.xm t).2 hm;rw[hg] at this;cases this
  have OO:t≠v:=λe=>KE (by rw[e];exact VE);have jM:=km h.cur;have Rr:∀j x,(q++[t])[j]?=some x->q[j]?=some x\/j=q.length/\x=t:=λj x hx=>by
   by_cases e:j<q.length;.rw[List.getElem?_append_left e] at hx;exact .inl hx
   .rw[List.getElem?_append_right (by omega)] at hx;by_cases e2:j=q.length;.rw[e2] at hx;simp at hx;exact .inr ⟨e2,hx.symm⟩
    .rw[List.getElem?_eq_none (by simp;omega)] at hx;cases hx
  refine⟨hp.goes hL gY hg (.inl (by rw[ai];omega)),λx hx KT=>?_,by rw[List.getElem?_append_left jM];exact h.cur,λj x hj hx=>?_,λj x hj hx=>?_⟩
  .by_cases e:x=t;.subst e;rw[ai] at KT;cases KT
   .rw[ag _ _ _ e] at KT ⊢;exact h.pos x hx KT
  .rcases Rr j x hx with hx | ⟨hj2,_⟩;.exact kd j x hj hx
   .omega
  .rcases Rr j x hx with hx | ⟨_,rfl⟩;.exact kp j x hj hx
   .rw[ag _ _ _ OO];exact h.nL.fresh x KE
 .refine⟨hp,λx hx KT=>?_,h.cur,kd,kp⟩;by_cases e:x=t
  .subst e;rw[ai];have:=(h.pos x hx KT).2;have:gK x≠1:=λe=>by have:=h1 e;rw[KT] at this;cases this
   omega
  .rw[ag _ _ _ e];exact h.pos x hx KT
end
structure mB (n:Nat) (A B:Nat->List Nat) (gone:Nat->Bool) (q:List Nat) (dC:Nat->Prop) (k:Nat):Prop where
 nL:vl n A B (λt=>(B t).length) (λt=>(A t).length) (λ_=>0) (λ_=>0) gone q dC
 pos:∀t,t<k->gone t=false->0<(B t).length/\0<(A t).length
 below:∀x∈q,x<k
section
variable {n:Nat} {A B:Nat->List Nat} {gone:Nat->Bool} {q:List Nat} {dC:Nat->Prop} {k:Nat}
theorem mB.zero(hA:∀t,t<n->∀x∈A t,x<n)(hB:∀t,t<n->∀x∈B t,x<n)(hc:∀t v,t<n->v<n->(B t).count v=(A v).count t):mB n A B (λ_=>false) [] dC 0 :=
 ⟨⟨Xm.init hB (λv t hv ht=>hc t v ht hv),Xm.init hA (λv t hv ht=>(hc v t hv ht).symm),by simp,λx=>by simp,λx hx=>by simp at hx,λ_ _=>⟨rfl,rfl⟩,λ_ _ _=>rfl⟩,λt ht=>by omega,λx hx=>by simp at hx⟩
theorem mB.take(h:mB n A B gone q dC k)(hL:pQ n A B dC)(hk:k<n)(h0:(A k).length=0\/(B k).length=0):mB n A B (aN gone k true) (q++[k]) dC (k+1):=by
 have hg:gone k=false:=by
  cases hgk:gone k with
  | false=>rfl
  | true=>have:=h.below k ((h.nL.xm k).1 hgk);omega
 refine⟨h.nL.goes hL hk hg h0.symm,λt ht tU=>?_,λx hx=>?_⟩
 .by_cases e:t=k;.subst e;rw[ai] at tU;cases tU
  .rw[ag _ _ _ e] at tU;exact h.pos t (by omega) tU
 .rcases List.mem_append.1 hx with hx | hx;.have:=h.below x hx;omega
  .cases List.mem_singleton.1 hx;omega
theorem mB.skip(h:mB n A B gone q dC k)(hA:(A k).length≠0)(hB:(B k).length≠0):mB n A B gone q dC (k+1):=by
 refine⟨h.nL,λt ht tU=>?_,λx hx=>by have:=h.below x hx;omega⟩;by_cases e:t=k;.subst e;omega
 .exact h.pos t (by omega) tU
theorem mB.all(h:mB n A B gone q dC n):PS n A B (λt=>(B t).length) (λt=>(A t).length) (λ_=>0) (λ_=>0) gone q dC 0 :=
 ⟨h.nL,h.pos,λj x hj=>by omega,λ_ _ _ _=>⟨rfl,rfl⟩⟩
end
theorem BP{G H:List (List Int)}(hT:kx G H)(bK:bR G):pQ G.length (aq G) (aq H) (lh G.length (aq G)):=by
 refine⟨λt ht hl=>?_,λt ht hl=>?_⟩;.obtain⟨⟨u,hu,VQ,EN⟩,w,hw,hlw,Zt⟩:=hl;cases EN with
  | refl =>
   obtain⟨s,hs,AL⟩:=VQ;cases AL with
   | refl=>exact⟨t,ht,⟨⟨t,hu,⟨t,hs,.refl t⟩,.refl t⟩,w,hw,hlw,Zt⟩,hs⟩
   | @step p _ oq Zk =>
    have zg:=bK.lt t ht s hs;have Wd:=yk bK oq zg;have hL:kj (aq G) t:=⟨s,hs,.step oq Zk⟩;exact⟨p,Wd,⟨⟨t,ht,hL,.trans (.one hs) oq⟩,t,ht,hL,.one Zk⟩,Zk⟩
  | @step p _ oq Zk =>
   have Wd:=yk bK oq hu;exact⟨p,Wd,⟨⟨u,hu,VQ,oq⟩,w,hw,hlw,.trans (.one Zk) Zt⟩,Zk⟩
 .obtain⟨⟨u,hu,VQ,EN⟩,w,hw,hlw,Zt⟩:=hl;have key:∀s,s∈aq G t->(∃w,w<G.length/\kj (aq G) w/\bH (aq G) s w)->∃p,p<G.length/\lh G.length (aq G) p/\t∈aq H p:=λs hs hw=>by
   have zg:=bK.lt t ht s hs;exact⟨s,zg,⟨⟨u,hu,VQ,.step EN hs⟩,hw⟩,(lj hT bK zg).2 ⟨ht,hs⟩⟩
  obtain⟨wy,hwy⟩:=Zt.way;cases hwy with
  | one =>
   obtain⟨s,hs,AL⟩:=hlw;exact key s hs ⟨t,hw,⟨s,hs,AL⟩,AL⟩
  | @cons _ s _ _ hs hwy=>exact key s hs ⟨w,hw,hlw,hwy.goes⟩
theorem PS.end_{G H:List (List Int)}(hT:kx G H)(bK:bR G){gK out c d:Nat->Nat}{gone:Nat->Bool}{q:List Nat}(h:PS G.length (aq G) (aq H) gK out c d gone q (lh G.length (aq G)) q.length):
 iq G.length (aq G) ((List.range G.length).filter λt=>!gone t):=by
 have jB:∀v∈q,c v=(aq G v).length/\d v=(aq H v).length:=λv hv=>by
  obtain⟨j,hj⟩:=List.mem_iff_getElem?.1 hv;exact h.done j v (km hj) hj
 refine⟨List.Pairwise.filter _ List.pairwise_lt_range,λv=>?_⟩;rw[List.mem_filter,List.mem_range];constructor
 .rintro⟨hv,hg⟩;have hg:gone v=false:=by simpa using hg
  refine⟨hv,?_,?_⟩
  .obtain⟨u,hu,⟨t,ht,tU⟩,qp⟩:=JQ (n:=G.length) (A:=aq H) (S:=λx=>x<G.length/\gone x=false) (λx hx=>hx.1) (λx hx=>by
    obtain⟨⟨p,hp,oq,hm⟩,_⟩:=h.nL.left jB h.pos hx.1 hx.2;exact⟨p,(lj hT bK hx.1).2 ⟨hp,hm⟩,hp,oq⟩) ⟨hv,hg⟩;obtain⟨gY,hut⟩:=(lj hT bK hu).1 ht;exact⟨u,hu,(pM hT bK tU gY).loop hut,pM hT bK qp hv⟩
  .obtain⟨u,hu,VQ,qp⟩:=JQ (n:=G.length) (A:=aq G) (S:=λx=>x<G.length/\gone x=false) (λx hx=>hx.1) (λx hx=>by
    obtain⟨_,⟨p,hp,oq,hm⟩⟩:=h.nL.left jB h.pos hx.1 hx.2;exact⟨p,((lj hT bK hp).1 hm).2,hp,oq⟩) ⟨hv,hg⟩;exact⟨u,hu,VQ,qp⟩
 .rintro⟨hv,hl⟩;exact⟨hv,by rw[h.nL.keep v hv hl];rfl⟩
end Go.Proofs.YtgjfejfeoofkhaaGreatDoor
