/-
  Texts that the proof leans on.
-/
import Derived.Test.YtgjfejfeoofkhaaGreatDoorMLr11
import Derived.Deep.DeepCutAuto
import Derived.BigQuiet
set_option maxHeartbeats 8000000
set_option maxRecDepth 100000
namespace Go.Proofs.YtgjfejfeoofkhaaGreatDoor
open Go.RowKit
def nU:ByteArray:=⟨#[105,110,106,101,99,116]⟩
abbrev I3:Value:=.agg #[.int .i64 0,.slice none 0 0,.slice none 0 0,.slice none 0 0]
section
variable {K N:Nat} {T:List Int}
theorem rE{x y:Nat}(hN:0<N)(h:bH (aq (dd K N T)) x y)(hx:x<N*N):bH (bu K N T) x y/\y<N*N:=by
 induction h with
 | refl=>exact⟨.refl _,hx⟩
 | step h hz ih =>
  rw[mL ih.2] at hz;exact⟨.step ih.1 hz,((dU hN).1 hz).lt hN⟩
theorem Bj(hN:0<N){v:Nat}(hv:v<N*N):lh (N*N) (aq (dd K N T)) v↔Nc (N*N) (bu K N T) v:=by
 constructor;.rintro⟨⟨u,hu,⟨t,ht,h1⟩,h2⟩,⟨u',NQ,⟨t',yi,h1'⟩,h2'⟩⟩;rw[mL hu] at ht;rw[mL NQ] at yi;exact⟨⟨u,hu,⟨t,ht,(rE hN h1 (((dU hN).1 ht).lt hN)).1⟩,(rE hN h2 hu).1⟩,⟨u',NQ,⟨t',yi,(rE hN h1' (((dU hN).1 yi).lt hN)).1⟩,(rE hN h2' hv).1⟩⟩
 .rintro⟨⟨u,hu,⟨t,ht,h1⟩,h2⟩,⟨u',NQ,⟨t',yi,h1'⟩,h2'⟩⟩;exact⟨⟨u,hu,⟨t,by rw[mL hu];exact ht,(oR hN h1 (((dU hN).1 ht).lt hN)).1⟩,(oR hN h2 hu).1⟩,⟨u',NQ,⟨t',by rw[mL NQ];exact yi,(oR hN h1' (((dU hN).1 yi).lt hN)).1⟩,(oR hN h2' hv).1⟩⟩
end
theorem Qd{K R:Nat}{T:List Int}(hK:1<=K):dY K (fW R) (lJ K R T)↔dY K R T:=by
 unfold fW lJ;by_cases e:R=0;.subst e;rw[if_pos rfl,if_pos rfl];exact Il (R:=0) (d:=1) hK
 .rw[if_neg e,if_neg e]
def GM(K R:Nat)(L:List Nat):List Nat:=L.filter λp=>!decide (bP (pw K (2*fW R)) p)
theorem IE{K R:Nat}{T:List Int}{L:List Nat}(hr:aG K R T)(h:iq (pw K (2*fW R)*pw K (2*fW R)) (aq (dd K (pw K (2*fW R)) (lJ K R T))) L):GM K R L=[]↔¬ dY K R T:=by
 have hN:=eN (K:=K) (2*fW R) hr.k1;rw[<-Qd hr.k1];constructor;.intro he ig;obtain⟨q,h1,h2,h3⟩:=Bm (zw hr) (tW R) ig;have:q∈GM K R L:=List.mem_filter.2 ⟨(h.mem q).2 ⟨h1,(Bj (by omega) h1).2 h2⟩,by simp[h3]⟩;rw[he] at this;cases this
 .intro ig;apply Classical.byContradiction;intro he;obtain⟨q,hq⟩:=List.exists_mem_of_ne_nil _ he;obtain⟨h1,h2⟩:=List.mem_filter.1 hq;obtain⟨h3,h4⟩:=(h.mem q).1 h1;exact ig (BU (zw hr) (tW R) ((Bj (by omega) h3).1 h4) (by simpa using h2))
def Oe(K R:Nat)(T:List Int)(L C Q:List Nat):Prop :=
 ∃l v m,iq (pw K (2*fW R)*pw K (2*fW R)) (aq (dd K (pw K (2*fW R)) (lJ K R T))) l/\GM K R l=v::m/\EI (dd K (pw K (2*fW R)) (lJ K R T)) v L C Q
def Fh(w:World)(K R:Nat)(T:List Int)(yes x y e:Value)(w':World):Prop :=
 e=.nilIface/\((yes=.bool true/\x=I3/\y=I3/\¬ dY K R T)\/(yes=.bool false/\dY K R T/\∃L C Q aL aC aQ bL bC bQ,Oe K R T L C Q/\x=.agg #[.int .i64 0,aL,aC,aQ]/\y=.agg #[.int .i64 0,bL,bC,bQ]/\∃f,Rows w.heap.size w' f /\
  f (1,0)=some (aD aL (jH K (pw K (2*fW R)) L))/\f (1,1)=some (aD bL (jE K (pw K (2*fW R)) L))/\f (2,0)=some (aD aC (jH K (pw K (2*fW R)) C))/\f (2,1)=some (aD bC (jE K (pw K (2*fW R)) C))/\f (3,0)=some (aD aQ (jH K (pw K (2*fW R)) Q))/\f (3,1)=some (aD bQ (jE K (pw K (2*fW R)) Q))))
theorem Xy(r:Nat->Addr)(k R:Int)(va:Option Addr)(vn vc:Nat)(T:List Int)(t:Int×List (ByteArray×Int))(w:World)(hg:ck r w)(h:ae w (.slice va vn vc) T)(hc:cd k R T=some t):
 Calls Tryz.prog 18 #[.agg #[.int .i64 k,.int .i64 R,.slice va vn vc]] w (Tg (λx y z u w'=>x=.bool false/\y=I3/\z=I3/\bf r w' (under nU 0 (under l6 0 (some t))) u) w):=by
 have bb:=ab w (.cells #[.int .i64 k,.int .i64 R,.slice va vn vc] 24);have q:az (w.alloc (.cells #[.int .i64 k,.int .i64 R,.slice va vn vc] 24)) w.heap.size (.int .i64 k) (.int .i64 R) (.slice va vn vc):=by simp[az,go_sem]
 obtain⟨f0,R0,dT,o02⟩:=((Rows.void w.heap.size w).below bb).mj (0,2) (by simp) 51 (.int .i64 0) (.slice none 0 0) (.slice none 0 0) (.slice none 0 0);obtain⟨f1,R1,ef,Z1⟩:=R0.mj (0,3) (by simp;omega) 51 (.int .i64 0) (.slice none 0 0) (.slice none 0 0) (.slice none 0 0);replace dT:=(Z1 (0,2) (by decide)).trans dT;simp only[World.size_alloc] at dT ef;have b0:Below w.heap.size w (((w.alloc (.cells #[.int .i64 k,.int .i64 R,.slice va vn vc] 24)).alloc (.cells #[.int .i64 0,.slice none 0 0,.slice none 0 0,.slice none 0 0] 51)).alloc (.cells #[.int .i64 0,.slice none 0 0,.slice none 0 0,.slice none 0 0] 51)):=Below.step bb (Below.step (ab _ _) (ab _ _));replace q:=q.below (Below.step (ab _ (.cells #[.int .i64 0,.slice none 0 0,.slice none 0 0,.slice none 0 0] 51)) (ab _ (.cells #[.int .i64 0,.slice none 0 0,.slice none 0 0,.slice none 0 0] 51)));clear o02 Z1 R0 bb;replace hg:=Hd (hg.below b0);replace h:=Hd (h.below b0);replace hc:=Hd hc;obtain⟨⟨z0,z1,z2⟩,-,-,-⟩:=q;replace⟨R1,dT,ef⟩:=dO R1 dT ef;go_enter Tryz.func18,Tryz.ntmps18;go_wp2_with fail;refine(Ly r k R va vn vc T t _ hg.out h.out hc.out).mono ?_;rintro e w1 ⟨x,y,rfl,b1,rfl,hy⟩;obtain⟨T2,a2,rfl⟩:∃T a,y=.iface T (.pointer (some a)):=by
  unfold under at hy;exact bf.bX hy
 replace hy:=Hd hy;clear z0 z1 z2;go_wp2_with fail;refine(om r nU 0 _ _ w1 hy.out).mono ?_;rintro e w2 ⟨u,rfl,b2,hu⟩;have NQ:=hu;obtain⟨T3,a3,rfl⟩:∃T a,u=.iface T (.pointer (some a)):=by
  unfold under at NQ;exact bf.bX NQ
 clear NQ;have R2:=(R1.out.below b1).below b2;replace dT:=dT.out;replace ef:=ef.out;have bw:=Below.step b0 (Below.step b1 b2);obtain⟨g0,g1,g2,g3⟩:=R2.dE dT;obtain⟨h0,h1,h2,h3⟩:=R2.dE ef;have fg0:=R2.ib dT 0;have fh0:=R2.ib ef 0;have fg1:=R2.ib dT 1;have fh1:=R2.ib ef 1;have fg2:=R2.ib dT 2;have fh2:=R2.ib ef 2;have fg3:=R2.ib dT 3;have fh3:=R2.ib ef 3;have c2:=R2.dE dT;have c3:=R2.dE ef;have Wo:=(R2.wk dT).1;have Wg:=(R2.wk ef).1;obtain⟨f3,R3,Vv,o3⟩:=R2.pV dT (.int .i64 0) (.slice none 0 0) (.slice none 0 0) (.slice none 0 0);have n03':=(o3 (0,3) (by decide)).trans ef;have yx:=hu.pV c2 (.slice none 0 0) (.slice none 0 0) (.slice none 0 0);have hu3:=yx.pV (R3.dE n03') (.slice none 0 0) (.slice none 0 0) (.slice none 0 0);have MH:=Below.pV (g:=w.heap.size+1) bw Wo (.int .i64 0) (.slice none 0 0) (.slice none 0 0) (.slice none 0 0);have Ma:=Below.pV (g:=w.heap.size+2) MH Wg (.int .i64 0) (.slice none 0 0) (.slice none 0 0) (.slice none 0 0);replace⟨hu,yx,hu3,R2,R3,dT,ef,n03'⟩:=gp hu yx hu3 R2 R3 dT ef n03';replace Vv:=Hd Vv;clear o3 c2 c3;go_wp2;(try simp only[Exit.inBlock,Exit.then]);refine bodyPost_ret (v:=.tuple #[.bool false,I3,I3,.iface T3 (.pointer (some a3))]) (by simp[results,Tryz.results18,go_sem,g0,g1,g2,g3,h0,h1,h2,h3]) rfl ?_;exact⟨_,_,_,_,rfl,Ma,rfl,rfl,rfl,hu3.out⟩
structure OW (w w2 W:World) (ra:Addr) (K v:Nat) (f:Names):Prop where
 bW:Below w.heap.size w W
 b2:Below w2.heap.size w2 W
 lo:w.heap.size<w2.heap.size/\ra.block<w2.heap.size
 c:W.cell? ⟨w.heap.size,0,none⟩=some (.int .i64 K)/\W.cell? ra=some (.int .i64 v)
 R:Rows w.heap.size W f
 n2:f (0,2)=some (mj 51 (w.heap.size+1) [.int .i64 0,.slice none 0 0,.slice none 0 0,.slice none 0 0])
 n3:f (0,3)=some (mj 51 (w.heap.size+2) [.int .i64 0,.slice none 0 0,.slice none 0 0,.slice none 0 0])
structure OX (K R:Nat) (L C Q:List Nat) (aL aC aQ bL bC bQ:Value) (f:Names):Prop where
 a0:f (1,0)=some (aD aL (jH K (pw K (2*fW R)) L))
 b0:f (1,1)=some (aD bL (jE K (pw K (2*fW R)) L))
 a1:f (2,0)=some (aD aC (jH K (pw K (2*fW R)) C))
 b1:f (2,1)=some (aD bC (jE K (pw K (2*fW R)) C))
 a2:f (3,0)=some (aD aQ (jH K (pw K (2*fW R)) Q))
 b2:f (3,1)=some (aD bQ (jE K (pw K (2*fW R)) Q))
section
variable {w w2 W W':World} {ra:Addr} {K v R:Nat} {f f':Names} {L C Q:List Nat} {aL aC aQ bL bC bQ:Value}
theorem OX.congr(h:OX K R L C Q aL aC aQ bL bC bQ f)(e:∀j:Nat×Nat,j.1=1\/j.1=2\/j.1=3->f' j=f j):OX K R L C Q aL aC aQ bL bC bQ f' :=
 ⟨(e _ (by decide)).trans h.a0,(e _ (by decide)).trans h.b0,(e _ (by decide)).trans h.a1,(e _ (by decide)).trans h.b1,(e _ (by decide)).trans h.a2,(e _ (by decide)).trans h.b2⟩
theorem OX.box(h:OX K R L C Q aL aC aQ bL bC bQ f){k:Nat}(e:∀j:Nat×Nat,j≠(9,k)->f' j=f j):OX K R L C Q aL aC aQ bL bC bQ f' :=
 h.congr λj hj=>e j (by intro q;rw[q] at hj;simp at hj)
theorem OW.step(h:OW w w2 W ra K v f)(b2:Below w2.heap.size w2 W')(bW:Below w.heap.size w W')(R:Rows w.heap.size W' f')(e:∀j:Nat×Nat,j.1=0->f' j=f j):OW w w2 W' ra K v f' :=
 ⟨bW,b2,h.lo,⟨by rw[b2.cell h.lo.1,<-h.b2.cell h.lo.1];exact h.c.1,by rw[b2.cell h.lo.2,<-h.b2.cell h.lo.2];exact h.c.2⟩,R,(e _ rfl).trans h.n2,(e _ rfl).trans h.n3⟩
theorem OW.alloc(h:OW w w2 W ra K v f)(k:Nat):∃g W',W.heap.size=g/\W.alloc (.cells #[.int .i64 0,.slice none 0 0,.slice none 0 0,.slice none 0 0] 51)=W'/\w2.heap.size<=g /\
 ∃f',OW w w2 W' ra K v f'/\f' (9,k)=some (mj 51 g [.int .i64 0,.slice none 0 0,.slice none 0 0,.slice none 0 0])/\∀j,j≠(9,k)->f' j=f j:=by
 obtain⟨f',R',n,oo⟩:=h.R.mj (9,k) h.bW.size 51 (.int .i64 0) (.slice none 0 0) (.slice none 0 0) (.slice none 0 0);have bb:=ab W (.cells #[.int .i64 0,.slice none 0 0,.slice none 0 0,.slice none 0 0] 51);exact⟨_,_,rfl,rfl,h.b2.size,f',h.step (Below.step h.b2 bb) (h.bW.trans (bb.mono h.bW.size)) R' λj hj=>oo j (by intro q;rw[q] at hj;cases hj),n,oo⟩
theorem OW.call(h:OW w w2 W ra K v f)(bb:Below W.heap.size W W'){fw:Names}(Rw:Rows W.heap.size W' fw):∃f',OW w w2 W' ra K v f'/\(∀j:Nat×Nat,j.1=1\/j.1=2\/j.1=3->f' j=fw j)/\∀k:Nat,f' (9,k)=f (9,k):=by
 obtain⟨f',R',KG,Hr⟩:=h.R.merge (λi=>decide (i.1=1\/i.1=2\/i.1=3)) bb Rw h.bW.size;exact⟨f',h.step (Below.step h.b2 bb) (h.bW.trans (bb.mono h.bW.size)) R' λj hj=>Hr j (by simp[hj]),λj hj=>KG j (by simpa using hj),λk=>Hr _ (by simp)⟩
def zo(W:World)(g:Nat)(a b c d:Value):World:=(((W.setCell ⟨g,0,none⟩ a).setCell ⟨g,1,none⟩ b).setCell ⟨g,2,none⟩ c).setCell ⟨g,3,none⟩ d
theorem OW.B9(h:OW w w2 W ra K v f){g k:Nat}{x0 x1 x2 x3:Value}(n:f (9,k)=some (mj 51 g [x0,x1,x2,x3]))(hg:w2.heap.size<=g)(a b c d:Value):
 ((W.cell? ⟨g,0,none⟩=some x0/\W.cell? ⟨g,1,none⟩=some x1/\W.cell? ⟨g,2,none⟩=some x2/\W.cell? ⟨g,3,none⟩=some x3)/\W.frozen? ⟨g,0,none⟩=false/\W.frozen? ⟨g,1,none⟩=false/\W.frozen? ⟨g,2,none⟩=false/\W.frozen? ⟨g,3,none⟩=false) /\
 ∃W',zo W g a b c d=W'/\∃f',OW w w2 W' ra K v f'/\f' (9,k)=some (mj 51 g [a,b,c,d])/\∀j,j≠(9,k)->f' j=f j:=by
 obtain⟨f',R',m,oo⟩:=h.R.pV n a b c d;obtain⟨c0,c1,c2,c3⟩:=h.R.dE n;exact⟨⟨⟨c0,c1,c2,c3⟩,h.R.ib n 0,h.R.ib n 1,h.R.ib n 2,h.R.ib n 3⟩,_,rfl,f',h.step (Below.pV (g:=g) h.b2 hg a b c d) (Below.pV (g:=g) h.bW (h.R.wk n).1 a b c d) R' λj hj=>oo j (by intro q;rw[q] at hj;cases hj),m,oo⟩
end
theorem Sk(r:Nat->Addr)(K R:Nat)(va:Option Addr)(vn vc:Nat)(T:List Int)(w:World)(hg:ck r w)(h:ae w (.slice va vn vc) T)(hr:aG K R T)(hl:T.length<=256):
 Calls Tryz.prog 18 #[.agg #[.int .i64 K,.int .i64 R,.slice va vn vc]] w (Tg (Fh w K R T) w):=by
 have bb:=ab w (.cells #[.int .i64 K,.int .i64 R,.slice va vn vc] 24);have q:az (w.alloc (.cells #[.int .i64 K,.int .i64 R,.slice va vn vc] 24)) w.heap.size (.int .i64 K) (.int .i64 R) (.slice va vn vc):=by simp[az,go_sem]
 obtain⟨f0,R0,dT,o02⟩:=((Rows.void w.heap.size w).below bb).mj (0,2) (by simp) 51 (.int .i64 0) (.slice none 0 0) (.slice none 0 0) (.slice none 0 0);obtain⟨f1,R1,ef,Z1⟩:=R0.mj (0,3) (by simp;omega) 51 (.int .i64 0) (.slice none 0 0) (.slice none 0 0) (.slice none 0 0);replace dT:=(Z1 (0,2) (by decide)).trans dT;simp only[World.size_alloc] at dT ef;have b0:Below w.heap.size w (((w.alloc (.cells #[.int .i64 K,.int .i64 R,.slice va vn vc] 24)).alloc (.cells #[.int .i64 0,.slice none 0 0,.slice none 0 0,.slice none 0 0] 51)).alloc (.cells #[.int .i64 0,.slice none 0 0,.slice none 0 0,.slice none 0 0] 51)):=Below.step bb (Below.step (ab _ _) (ab _ _));replace q:=q.below (Below.step (ab _ (.cells #[.int .i64 0,.slice none 0 0,.slice none 0 0,.slice none 0 0] 51)) (ab _ (.cells #[.int .i64 0,.slice none 0 0,.slice none 0 0,.slice none 0 0] 51)));clear o02 Z1 R0 bb;have dS:=hr.k1;have oI:=zw hr;have NO:=qZ hr hl;have Ho:=tW R;have jo:=nB oI Ho NO;have pC:=eN (K:=K) (2*fW R) dS;obtain⟨hdiv,hlen⟩:=oI.half;have Ro:pw K (2*fW R)*K<=256:=by rw[<-hlen];exact NO
 have fK:=tt (K:=K) (N:=pw K (2*fW R)) (T:=lJ K R T) (by omega) jo Ro;have hokG:bR (dd K (pw K (2*fW R)) (lJ K R T)):=Ik (by omega);have gQ:∀k,k<(dd K (pw K (2*fW R)) (lJ K R T)).length->((dd K (pw K (2*fW R)) (lJ K R T)).getD k []).length<=17592186044416:=λk hk=>by
  rw[fD] at hk;rw[lE hk,aA];have:=og K (pw K (2*fW R)) (lJ K R T) k;have h4:=hr.k4;have:=Nat.mul_le_mul h4 h4;omega
 have fj:=λ(w':World) (jI:ck r w') (hT:ae w' (.slice va vn vc) T)=>uJ r K R va vn vc T w' jI hT hr hl;have LH:=λ(w':World) (jI:ck r w') (hT:ae w' (.slice va vn vc) T)=>OK r K R va vn vc T w' jI hT hr hl;have xJ:=fD (K:=K) (N:=pw K (2*fW R)) (T:=lJ K R T);have Dv:=λ(L:List Nat) (hL:iq (pw K (2*fW R)*pw K (2*fW R)) (aq (dd K (pw K (2*fW R)) (lJ K R T))) L)=>IE hr hL;have rZ:∀(l:List Nat) (v:Nat) (m L C Q:List Nat),iq (pw K (2*fW R)*pw K (2*fW R)) (aq (dd K (pw K (2*fW R)) (lJ K R T))) l->GM K R l=v::m->EI (dd K (pw K (2*fW R)) (lJ K R T)) v L C Q->Oe K R T L C Q:=λl v m L C Q h1 h2 h3=>⟨l,v,m,h1,h2,h3⟩;have nJ:∀(L:List Nat) (v:Nat) (m:List Nat),GM K R L=v::m->v∈L:=λL v m e=>(List.mem_filter.1 (show v∈GM K R L by rw[e];exact List.mem_cons_self)).1;have hwit:=λ(ga:Option Addr) (gc v:Nat) (w':World) (jI:ck r w') (hT:bh w' (.slice ga (dd K (pw K (2*fW R)) (lJ K R T)).length gc) (dd K (pw K (2*fW R)) (lJ K R T))) (hv:v<(dd K (pw K (2*fW R)) (lJ K R T)).length) (hli:lh (dd K (pw K (2*fW R)) (lJ K R T)).length (aq (dd K (pw K (2*fW R)) (lJ K R T))) v)=>Mb r K (pw K (2*fW R)) ga gc _ v w' jI hT gQ fK hokG xJ pC jo dS hv hli;replace⟨fj,LH,Dv,rZ,nJ,hwit,xJ⟩:=zb fj LH Dv rZ nJ hwit xJ;clear hdiv hlen Ro fK hokG gQ oI NO Ho jo hl;replace hg:=Hd (hg.below b0);replace h:=Hd (h.below b0);replace hr:=Hd hr;obtain⟨⟨z0,z1,z2⟩,-,-,-⟩:=q;have q0:=z0;replace⟨R1,dT,ef,b0⟩:=gF R1 dT ef b0;go_enter Tryz.func18,Tryz.ntmps18;go_wp2_with fail;refine(fj.out _ hg.out h.out).mono ?_;rintro e w1 ⟨gv,y,rfl,b1,rfl,fg,br,nk,CO⟩;have hL:bh w1 gv (dd K (pw K (2*fW R)) (lJ K R T)):=CO.lists nk;obtain⟨ga,gc,rfl⟩:=hL.shape;have c0:w1.cell? ⟨w.heap.size,0,none⟩=some (.int .i64 K):=by rw[b1.cell (World.block_lt_of_cell? _ _ z0)];exact z0
 have c1:w1.cell? ⟨w.heap.size,1,none⟩=some (.int .i64 R):=by rw[b1.cell (World.block_lt_of_cell? _ _ z1)];exact z1
 have c2:w1.cell? ⟨w.heap.size,2,none⟩=some (.slice va vn vc):=by rw[b1.cell (World.block_lt_of_cell? _ _ z2)];exact z2
 have si:=Below.step b0.out b1;replace hL:=Hd hL;clear nk CO z0 z1 z2;rw[xJ.out];generalize hM:pw K (2*fW R)*pw K (2*fW R)=M at *;replace hM:=Hd hM;go_wp2_with fail;refine(LH.out w1 (hg.out.below b1) (h.out.below b1)).mono ?_;rintro e w2 ⟨av,y,rfl,b2,rfl,L,zZ,how⟩;have BE:aj w1.heap.size w2 av (aw (GM K R L)):=how;clear how;have jU:=Dv.out L zZ;have mw:=Below.step b1 b2;have Da:=Below.step si b2;have R2:=R1.out.below mw;have k0:w2.cell? ⟨w.heap.size,0,none⟩=some (.int .i64 K):=by rw[b2.cell (World.block_lt_of_cell? _ _ c0)];exact c0
 have lA:=BE.at.len;rw[aA] at lA;have RX:=nJ.out L;have Vc:=λv m L' C' Q' e k=>rZ.out L v m L' C' Q' zZ e k;have Sn:=zZ.mem;replace⟨zZ,RX,Vc,Sn⟩:=gF zZ RX Vc Sn;clear c0 c1 c2;cases Nj:GM K R L with
 | nil =>
  rw[Nj] at jU BE lA;have ig:=jU.1 rfl;obtain⟨aa,an,ac,rfl⟩:=BE.at.shape;replace dT:=dT.out;replace ef:=ef.out;obtain⟨g0,g1,g2,g3⟩:=R2.dE dT;obtain⟨h0,h1,h2,h3⟩:=R2.dE ef;have fg0:=R2.ib dT 0;have fh0:=R2.ib ef 0;have fg1:=R2.ib dT 1;have fh1:=R2.ib ef 1;have fg2:=R2.ib dT 2;have fh2:=R2.ib ef 2;have fg3:=R2.ib dT 3;have fh3:=R2.ib ef 3;have c2:=R2.dE dT;have c3:=R2.dE ef;have Wo:=(R2.wk dT).1;have Wg:=(R2.wk ef).1;obtain⟨f3,R3,Vv,o3⟩:=R2.pV dT (.int .i64 0) (.slice none 0 0) (.slice none 0 0) (.slice none 0 0);have MH:=Below.pV (g:=w.heap.size+1) Da Wo (.int .i64 0) (.slice none 0 0) (.slice none 0 0) (.slice none 0 0);have Ma:=Below.pV (g:=w.heap.size+2) MH Wg (.int .i64 0) (.slice none 0 0) (.slice none 0 0) (.slice none 0 0);replace⟨ig,Nj,BE,R2,R3,dT,ef,Vv⟩:=gp ig Nj BE R2 R3 dT ef Vv;clear o3 c2 c3 jU;go_wp2;(try simp only[Exit.inBlock,Exit.then]);refine bodyPost_ret (v:=.tuple #[.bool true,I3,I3,.nilIface]) (by simp[results,Tryz.results18,go_sem,g0,g1,g2,g3,h0,h1,h2,h3]) rfl ?_;exact⟨_,_,_,_,rfl,Ma,rfl,.inl ⟨rfl,rfl,rfl,ig.out⟩⟩
 | cons v m =>
  rw[Nj] at jU BE lA;have ig:dY K R T:=Classical.byContradiction λq=>by have:=jU.2 q;cases this
  obtain⟨aa,an,ac,rfl⟩:=BE.at.shape;have hvL:=RX.out v m Nj;obtain⟨Ni,RF⟩:=(Sn.out v).1 hvL;have iA:∀w',(Instr.indexAt 22 (.slice aa an ac) (.int .i64 0)).run Tryz.prog w'=.ok (.pointer (some (af (.slice aa an ac) 0))) w':=λw'=>BE.at.idx 0 (by simp[aw]) w';have cA:=BE.at.aH 0 (by simp[aw]);rw[show(aw (v::m)).getD 0 0=(v:Int) from rfl] at cA;have e0:(((v::m).length:Nat):Int)=(m.length:Int)+1:=by simp
  rw[e0] at lA;have e1:((m.length:Int)+1==0)=false:=by rw[beq_eq_false_iff_ne];omega
  have CR:=λ(w':World) (jI:ck r w') (hT:bh w' (.slice ga M gc) (dd K (pw K (2*fW R)) (lJ K R T)))=>hwit.out ga gc v w' jI (by rw[xJ.out];exact hT) (by rw[xJ.out];exact Ni) (by rw[xJ.out];exact RF);rw[xJ.out] at CR;have rp:=hg.out.below mw;have hL2:bh w2 (.slice ga M gc) (dd K (pw K (2*fW R)) (lJ K R T)):=by
   have:=hL.out.below b2;rwa [xJ.out] at this
  replace⟨CR,rp,hL2,ig,hvL,RF,BE,R2⟩:=gp CR rp hL2 ig hvL RF BE R2;clear jU e0;generalize af (.slice aa an ac) 0=ra at *;replace Nj:=Hd Nj;go_upto_region 7 with fail;go_cut [7,9,10] from 39 (λs7 s9 s10 wx=>s7=.nilIface/\∃(g9 g10:Nat) (L C Q:List Nat) (aL aC aQ bL bC bQ:Value) (f:Names),s9=.pointer (some ⟨g9,0,none⟩)/\s10=.pointer (some ⟨g10,0,none⟩)/\Below w.heap.size w wx/\EI (dd K (pw K (2*fW R)) (lJ K R T)) v L C Q/\Rows w.heap.size wx f/\f (0,2)=some (mj 51 (w.heap.size+1) [.int .i64 0,.slice none 0 0,.slice none 0 0,.slice none 0 0])/\f (0,3)=some (mj 51 (w.heap.size+2) [.int .i64 0,.slice none 0 0,.slice none 0 0,.slice none 0 0])/\f (9,0)=some (mj 51 g9 [.int .i64 0,aL,aC,aQ])/\f (9,1)=some (mj 51 g10 [.int .i64 0,bL,bC,bQ])/\OX K R L C Q aL aC aQ bL bC bQ f);case first =>
   obtain⟨W0,mz⟩:=Ey w2.drew;have b20:Below w2.heap.size w2 W0:=by rw[mz];exact(Below.refl _ _).drew
   have bW0:Below w.heap.size w W0:=by rw[mz];exact Da.drew
   have RW0:Rows w.heap.size W0 f1:=by rw[mz];exact R2.out.drew
   have hS0:W0.cell? ⟨w.heap.size,0,none⟩=some (.int .i64 K)/\W0.cell? ra=some (.int .i64 v):=by rw[mz];exact⟨k0,cA⟩
   have jA:w.heap.size<w2.heap.size/\ra.block<w2.heap.size:=⟨World.block_lt_of_cell? _ _ k0,World.block_lt_of_cell? _ _ cA⟩;replace dT:=dT.out;replace ef:=ef.out;refine wp_region_noPanic ?_;refine wp_region_any (by kernel_rfl) ?_;change wpAny _ _ _ _ _ _ _ (World.drew _);rw[<-mz];clear mz k0 cA Da R2;have H0:OW w w2 W0 ra K v f1:=⟨bW0,b20,jA,hS0,RW0,dT,ef⟩;clear bW0 b20 RW0 dT ef jA;refine wpAny_of_held (S:=λw'=>w'.cell? ⟨w.heap.size,0,none⟩=some (.int .i64 K)/\w'.cell? ra=some (.int .i64 v)) _ _ _ _ ?_;refine jL 0 40 hS0 ?_;refine jL 1 41 hS0 ?_;refine jL 2 42 hS0 ?_;refine jL 3 43 hS0 ?_;refine jL 4 44 hS0 ?_;refine jL 5 45 hS0 ?_;refine wpAnyH_ready (rs:=[6,11,12]) (by kernel_rfl) (by simp) (AllReadyH.cons rfl (λKK hK=>?_) (AllReadyH.cons rfl (λKK hK=>?_) (AllReadyH.cons rfl (λKK hK=>?_) (AllReadyH.nil))))
   .go_simp;refine(CR.out W0 (rp.out.below H0.b2) (hL2.out.below H0.b2)).mono ?_;rintro e W1 ⟨x,y,z,rfl,bb,hz,L',C',Q',aL,aC,aQ,bL,bC,bQ,yr,rfl,rfl,fw,Rw,GQ,F9,G2,FR,zL,CW⟩;subst hz;obtain⟨Hc,FY,FQ,rfl⟩:=(Rw.aR GQ).at.shape;obtain⟨Gv,G1,Ff,rfl⟩:=(Rw.aR F9).at.shape;obtain⟨Ft,GU,FF,rfl⟩:=(Rw.aR G2).at.shape;obtain⟨GH,F8,GN,rfl⟩:=(Rw.aR FR).at.shape;obtain⟨GO,Hf,G7,rfl⟩:=(Rw.aR zL).at.shape;obtain⟨Gz,Hb,Ha,rfl⟩:=(Rw.aR CW).at.shape;obtain⟨f1,H1,KG,Hr⟩:=H0.call bb Rw;have nS:=OX.congr ⟨GQ,F9,G2,FR,zL,CW⟩ KG;replace yr:=Hd yr;refine hK.out _ _ H1.c λ_=>?_;clear hK KK bb H0 KG Hr GQ F9 G2 FR zL CW Rw;refine jL 7 39 H1.c ?_;refine jL 8 47 H1.c ?_;refine jL 9 48 H1.c ?_;refine jL 10 49 H1.c ?_;refine wpAnyH_ready (rs:=[11,12]) (by kernel_rfl) (by simp) (AllReadyH.cons rfl (λKK hK=>?_) (AllReadyH.cons rfl (λKK hK=>?_) (AllReadyH.nil)));.go_simp;obtain⟨VK,W2,eg,eW,DE,f2,H2,ke,oo⟩:=H1.alloc 0;rw[eW,eg];replace nS:=nS.box oo;refine hK.out _ _ H2.c λ_=>?_;clear hK KK eg eW H1 oo;refine wpAnyH_ready (rs:=[12]) (by kernel_rfl) (by simp) (AllReadyH.cons rfl (λKK hK=>?_) (AllReadyH.nil));.go_simp;obtain⟨DD,W3,eg,eW,vx,f3,H3,kf,oo⟩:=H2.alloc 1;rw[eW,eg];replace nS:=nS.box oo;replace ke:=(oo (9,0) (by decide)).trans ke;refine hK.out _ _ H3.c λ_=>?_;clear hK KK eg eW H2 oo;obtain⟨⟨⟨t0,t1,t2,t3⟩,u0,u1,u2,u3⟩,W4,e4,f4,H4,m,oo⟩:=H3.B9 ke DE (.int .i64 0) (.slice Hc FY FQ) (.slice Ft GU FF) (.slice GO Hf G7);replace nS:=nS.box oo;replace kf:=(oo (9,1) (by decide)).trans kf;replace ke:=m;unfold zo at e4;replace e4:=Hd e4;refine wpAnyH_ready (rs:=[13]) (by kernel_rfl) (by simp) (AllReadyH.cons rfl (λKK hK=>?_) AllReadyH.nil);go_simp;rw[e4.out];refine hK.out _ _ H4.c λ_=>?_;clear hK KK t0 t1 t2 t3 u0 u1 u2 u3 m oo H3 e4;obtain⟨⟨⟨t0,t1,t2,t3⟩,u0,u1,u2,u3⟩,W5,e5,f5,H5,m,oo⟩:=H4.B9 kf vx (.int .i64 0) (.slice Gv G1 Ff) (.slice GH F8 GN) (.slice Gz Hb Ha);replace nS:=nS.box oo;replace ke:=(oo (9,0) (by decide)).trans ke;replace kf:=m;unfold zo at e5;replace e5:=Hd e5;refine wpAnyH_ready (rs:=[14]) (by kernel_rfl) (by simp) (AllReadyH.cons rfl (λKK hK=>?_) AllReadyH.nil);go_simp;rw[e5.out];refine hK.out _ _ H5.c λ_=>?_;clear hK KK t0 t1 t2 t3 u0 u1 u2 u3 m oo H4 e5;refine jL 15 7 H5.c ?_;refine wpAnyH_done (by kernel_rfl) ?_ _;refine NoPanic.normal ?_;replace⟨H5,nS,ke,kf⟩:=gF H5 nS ke kf;go_wp2;go_meet;case rel=>exact⟨rfl,VK,DD,L',C',Q',_,_,_,_,_,_,f5,rfl,rfl,H5.out.bW,yr.out,H5.out.R,H5.out.n2,H5.out.n3,ke.out,kf.out,nS.out⟩
    .go_simp;obtain⟨DD,W6,eg,eW,vx,f6,H6,kf,oo⟩:=H1.alloc 1;rw[eW,eg];replace nS:=nS.box oo;refine hK.out _ _ H6.c λ_=>?_;clear hK KK eg eW H1 oo;refine wpAnyH_ready (rs:=[11]) (by kernel_rfl) (by simp) (AllReadyH.cons rfl (λKK hK=>?_) (AllReadyH.nil));.go_simp;obtain⟨VK,W7,eg,eW,DE,f7,H7,ke,oo⟩:=H6.alloc 0;rw[eW,eg];replace nS:=nS.box oo;replace kf:=(oo (9,1) (by decide)).trans kf;refine hK.out _ _ H7.c λ_=>?_;clear hK KK eg eW H6 oo;obtain⟨⟨⟨t0,t1,t2,t3⟩,u0,u1,u2,u3⟩,W8,e8,f8,H8,m,oo⟩:=H7.B9 ke DE (.int .i64 0) (.slice Hc FY FQ) (.slice Ft GU FF) (.slice GO Hf G7);replace nS:=nS.box oo;replace kf:=(oo (9,1) (by decide)).trans kf;replace ke:=m;unfold zo at e8;replace e8:=Hd e8;refine wpAnyH_ready (rs:=[13]) (by kernel_rfl) (by simp) (AllReadyH.cons rfl (λKK hK=>?_) AllReadyH.nil);go_simp;rw[e8.out];refine hK.out _ _ H8.c λ_=>?_;clear hK KK t0 t1 t2 t3 u0 u1 u2 u3 m oo H7 e8;obtain⟨⟨⟨t0,t1,t2,t3⟩,u0,u1,u2,u3⟩,W9,e9,f9,H9,m,oo⟩:=H8.B9 kf vx (.int .i64 0) (.slice Gv G1 Ff) (.slice GH F8 GN) (.slice Gz Hb Ha);replace nS:=nS.box oo;replace ke:=(oo (9,0) (by decide)).trans ke;replace kf:=m;unfold zo at e9;replace e9:=Hd e9;refine wpAnyH_ready (rs:=[14]) (by kernel_rfl) (by simp) (AllReadyH.cons rfl (λKK hK=>?_) AllReadyH.nil);go_simp;rw[e9.out];refine hK.out _ _ H9.c λ_=>?_;clear hK KK t0 t1 t2 t3 u0 u1 u2 u3 m oo H8 e9;refine jL 15 7 H9.c ?_;refine wpAnyH_done (by kernel_rfl) ?_ _;refine NoPanic.normal ?_;replace⟨H9,nS,ke,kf⟩:=gF H9 nS ke kf;go_wp2;go_meet;case rel=>exact⟨rfl,VK,DD,L',C',Q',_,_,_,_,_,_,f9,rfl,rfl,H9.out.bW,yr.out,H9.out.R,H9.out.n2,H9.out.n3,ke.out,kf.out,nS.out⟩
   .go_simp;obtain⟨VK,Qc,eg,eW,DE,f10,H10,ke,oo⟩:=H0.alloc 0;rw[eW,eg];refine hK.out _ _ H10.c λ_=>?_;clear hK KK eg eW H0 oo;refine wpAnyH_ready (rs:=[6,12]) (by kernel_rfl) (by simp) (AllReadyH.cons rfl (λKK hK=>?_) (AllReadyH.cons rfl (λKK hK=>?_) (AllReadyH.nil)));.go_simp;refine(CR.out Qc (rp.out.below H10.b2) (hL2.out.below H10.b2)).mono ?_;rintro e VP ⟨x,y,z,rfl,bb,hz,L',C',Q',aL,aC,aQ,bL,bC,bQ,yr,rfl,rfl,fw,Rw,GQ,F9,G2,FR,zL,CW⟩;subst hz;obtain⟨Hc,FY,FQ,rfl⟩:=(Rw.aR GQ).at.shape;obtain⟨Gv,G1,Ff,rfl⟩:=(Rw.aR F9).at.shape;obtain⟨Ft,GU,FF,rfl⟩:=(Rw.aR G2).at.shape;obtain⟨GH,F8,GN,rfl⟩:=(Rw.aR FR).at.shape;obtain⟨GO,Hf,G7,rfl⟩:=(Rw.aR zL).at.shape;obtain⟨Gz,Hb,Ha,rfl⟩:=(Rw.aR CW).at.shape;obtain⟨f11,H11,KG,Hr⟩:=H10.call bb Rw;have nS:=OX.congr ⟨GQ,F9,G2,FR,zL,CW⟩ KG;replace ke:=(Hr 0).trans ke;replace yr:=Hd yr;refine hK.out _ _ H11.c λ_=>?_;clear hK KK bb H10 KG Hr GQ F9 G2 FR zL CW Rw;refine jL 7 39 H11.c ?_;refine jL 8 47 H11.c ?_;refine jL 9 48 H11.c ?_;refine jL 10 49 H11.c ?_;refine wpAnyH_ready (rs:=[12]) (by kernel_rfl) (by simp) (AllReadyH.cons rfl (λKK hK=>?_) (AllReadyH.nil));.go_simp;obtain⟨DD,W12,eg,eW,vx,f12,H12,kf,oo⟩:=H11.alloc 1;rw[eW,eg];replace nS:=nS.box oo;replace ke:=(oo (9,0) (by decide)).trans ke;refine hK.out _ _ H12.c λ_=>?_;clear hK KK eg eW H11 oo;obtain⟨⟨⟨t0,t1,t2,t3⟩,u0,u1,u2,u3⟩,ZK,Xi,f13,H13,m,oo⟩:=H12.B9 ke DE (.int .i64 0) (.slice Hc FY FQ) (.slice Ft GU FF) (.slice GO Hf G7);replace nS:=nS.box oo;replace kf:=(oo (9,1) (by decide)).trans kf;replace ke:=m;unfold zo at Xi;replace Xi:=Hd Xi;refine wpAnyH_ready (rs:=[13]) (by kernel_rfl) (by simp) (AllReadyH.cons rfl (λKK hK=>?_) AllReadyH.nil);go_simp;rw[Xi.out];refine hK.out _ _ H13.c λ_=>?_;clear hK KK t0 t1 t2 t3 u0 u1 u2 u3 m oo H12 Xi;obtain⟨⟨⟨t0,t1,t2,t3⟩,u0,u1,u2,u3⟩,W14,e14,f14,H14,m,oo⟩:=H13.B9 kf vx (.int .i64 0) (.slice Gv G1 Ff) (.slice GH F8 GN) (.slice Gz Hb Ha);replace nS:=nS.box oo;replace ke:=(oo (9,0) (by decide)).trans ke;replace kf:=m;unfold zo at e14;replace e14:=Hd e14;refine wpAnyH_ready (rs:=[14]) (by kernel_rfl) (by simp) (AllReadyH.cons rfl (λKK hK=>?_) AllReadyH.nil);go_simp;rw[e14.out];refine hK.out _ _ H14.c λ_=>?_;clear hK KK t0 t1 t2 t3 u0 u1 u2 u3 m oo H13 e14;refine jL 15 7 H14.c ?_;refine wpAnyH_done (by kernel_rfl) ?_ _;refine NoPanic.normal ?_;replace⟨H14,nS,ke,kf⟩:=gF H14 nS ke kf;go_wp2;go_meet;case rel=>exact⟨rfl,VK,DD,L',C',Q',_,_,_,_,_,_,f14,rfl,rfl,H14.out.bW,yr.out,H14.out.R,H14.out.n2,H14.out.n3,ke.out,kf.out,nS.out⟩
    .go_simp;obtain⟨DD,W15,eg,eW,vx,f15,H15,kf,oo⟩:=H10.alloc 1;rw[eW,eg];replace ke:=(oo (9,0) (by decide)).trans ke;refine hK.out _ _ H15.c λ_=>?_;clear hK KK eg eW H10 oo;refine wpAnyH_ready (rs:=[6]) (by kernel_rfl) (by simp) (AllReadyH.cons rfl (λKK hK=>?_) (AllReadyH.nil));.go_simp;refine(CR.out W15 (rp.out.below H15.b2) (hL2.out.below H15.b2)).mono ?_;rintro e W16 ⟨x,y,z,rfl,bb,hz,L',C',Q',aL,aC,aQ,bL,bC,bQ,yr,rfl,rfl,fw,Rw,GQ,F9,G2,FR,zL,CW⟩;subst hz;obtain⟨Hc,FY,FQ,rfl⟩:=(Rw.aR GQ).at.shape;obtain⟨Gv,G1,Ff,rfl⟩:=(Rw.aR F9).at.shape;obtain⟨Ft,GU,FF,rfl⟩:=(Rw.aR G2).at.shape;obtain⟨GH,F8,GN,rfl⟩:=(Rw.aR FR).at.shape;obtain⟨GO,Hf,G7,rfl⟩:=(Rw.aR zL).at.shape;obtain⟨Gz,Hb,Ha,rfl⟩:=(Rw.aR CW).at.shape;obtain⟨f16,H16,KG,Hr⟩:=H15.call bb Rw;have nS:=OX.congr ⟨GQ,F9,G2,FR,zL,CW⟩ KG;replace ke:=(Hr 0).trans ke;replace kf:=(Hr 1).trans kf;replace yr:=Hd yr;refine hK.out _ _ H16.c λ_=>?_;clear hK KK bb H15 KG Hr GQ F9 G2 FR zL CW Rw;refine jL 7 39 H16.c ?_;refine jL 8 47 H16.c ?_;refine jL 9 48 H16.c ?_;refine jL 10 49 H16.c ?_;obtain⟨⟨⟨t0,t1,t2,t3⟩,u0,u1,u2,u3⟩,W17,e17,f17,H17,m,oo⟩:=H16.B9 ke DE (.int .i64 0) (.slice Hc FY FQ) (.slice Ft GU FF) (.slice GO Hf G7);replace nS:=nS.box oo;replace kf:=(oo (9,1) (by decide)).trans kf;replace ke:=m;unfold zo at e17;replace e17:=Hd e17;refine wpAnyH_ready (rs:=[13]) (by kernel_rfl) (by simp) (AllReadyH.cons rfl (λKK hK=>?_) AllReadyH.nil);go_simp;rw[e17.out];refine hK.out _ _ H17.c λ_=>?_;clear hK KK t0 t1 t2 t3 u0 u1 u2 u3 m oo H16 e17;obtain⟨⟨⟨t0,t1,t2,t3⟩,u0,u1,u2,u3⟩,W18,ZW,f18,Zq,m,oo⟩:=H17.B9 kf vx (.int .i64 0) (.slice Gv G1 Ff) (.slice GH F8 GN) (.slice Gz Hb Ha);replace nS:=nS.box oo;replace ke:=(oo (9,0) (by decide)).trans ke;replace kf:=m;unfold zo at ZW;replace ZW:=Hd ZW;refine wpAnyH_ready (rs:=[14]) (by kernel_rfl) (by simp) (AllReadyH.cons rfl (λKK hK=>?_) AllReadyH.nil);go_simp;rw[ZW.out];refine hK.out _ _ Zq.c λ_=>?_;clear hK KK t0 t1 t2 t3 u0 u1 u2 u3 m oo H17 ZW;refine jL 15 7 Zq.c ?_;refine wpAnyH_done (by kernel_rfl) ?_ _;refine NoPanic.normal ?_;replace⟨Zq,nS,ke,kf⟩:=gF Zq nS ke kf;go_wp2;go_meet;case rel=>exact⟨rfl,VK,DD,L',C',Q',_,_,_,_,_,_,f18,rfl,rfl,Zq.out.bW,yr.out,Zq.out.R,Zq.out.n2,Zq.out.n3,ke.out,kf.out,nS.out⟩
   .go_simp;obtain⟨DD,W19,eg,eW,vx,f19,H19,kf,oo⟩:=H0.alloc 1;rw[eW,eg];refine hK.out _ _ H19.c λ_=>?_;clear hK KK eg eW H0 oo;refine wpAnyH_ready (rs:=[6,11]) (by kernel_rfl) (by simp) (AllReadyH.cons rfl (λKK hK=>?_) (AllReadyH.cons rfl (λKK hK=>?_) (AllReadyH.nil)));.go_simp;refine(CR.out W19 (rp.out.below H19.b2) (hL2.out.below H19.b2)).mono ?_;rintro e W20 ⟨x,y,z,rfl,bb,hz,L',C',Q',aL,aC,aQ,bL,bC,bQ,yr,rfl,rfl,fw,Rw,GQ,F9,G2,FR,zL,CW⟩;subst hz;obtain⟨Hc,FY,FQ,rfl⟩:=(Rw.aR GQ).at.shape;obtain⟨Gv,G1,Ff,rfl⟩:=(Rw.aR F9).at.shape;obtain⟨Ft,GU,FF,rfl⟩:=(Rw.aR G2).at.shape;obtain⟨GH,F8,GN,rfl⟩:=(Rw.aR FR).at.shape;obtain⟨GO,Hf,G7,rfl⟩:=(Rw.aR zL).at.shape;obtain⟨Gz,Hb,Ha,rfl⟩:=(Rw.aR CW).at.shape;obtain⟨f20,H20,KG,Hr⟩:=H19.call bb Rw;have nS:=OX.congr ⟨GQ,F9,G2,FR,zL,CW⟩ KG;replace kf:=(Hr 1).trans kf;replace yr:=Hd yr;refine hK.out _ _ H20.c λ_=>?_;clear hK KK bb H19 KG Hr GQ F9 G2 FR zL CW Rw;refine jL 7 39 H20.c ?_;refine jL 8 47 H20.c ?_;refine jL 9 48 H20.c ?_;refine jL 10 49 H20.c ?_;refine wpAnyH_ready (rs:=[11]) (by kernel_rfl) (by simp) (AllReadyH.cons rfl (λKK hK=>?_) (AllReadyH.nil));.go_simp;obtain⟨VK,W21,eg,eW,DE,f21,H21,ke,oo⟩:=H20.alloc 0;rw[eW,eg];replace nS:=nS.box oo;replace kf:=(oo (9,1) (by decide)).trans kf;refine hK.out _ _ H21.c λ_=>?_;clear hK KK eg eW H20 oo;obtain⟨⟨⟨t0,t1,t2,t3⟩,u0,u1,u2,u3⟩,W22,e22,f22,H22,m,oo⟩:=H21.B9 ke DE (.int .i64 0) (.slice Hc FY FQ) (.slice Ft GU FF) (.slice GO Hf G7);replace nS:=nS.box oo;replace kf:=(oo (9,1) (by decide)).trans kf;replace ke:=m;unfold zo at e22;replace e22:=Hd e22;refine wpAnyH_ready (rs:=[13]) (by kernel_rfl) (by simp) (AllReadyH.cons rfl (λKK hK=>?_) AllReadyH.nil);go_simp;rw[e22.out];refine hK.out _ _ H22.c λ_=>?_;clear hK KK t0 t1 t2 t3 u0 u1 u2 u3 m oo H21 e22;obtain⟨⟨⟨t0,t1,t2,t3⟩,u0,u1,u2,u3⟩,W23,Tr,f23,Z0,m,oo⟩:=H22.B9 kf vx (.int .i64 0) (.slice Gv G1 Ff) (.slice GH F8 GN) (.slice Gz Hb Ha);replace nS:=nS.box oo;replace ke:=(oo (9,0) (by decide)).trans ke;replace kf:=m;unfold zo at Tr;replace Tr:=Hd Tr;refine wpAnyH_ready (rs:=[14]) (by kernel_rfl) (by simp) (AllReadyH.cons rfl (λKK hK=>?_) AllReadyH.nil);go_simp;rw[Tr.out];refine hK.out _ _ Z0.c λ_=>?_;clear hK KK t0 t1 t2 t3 u0 u1 u2 u3 m oo H22 Tr;refine jL 15 7 Z0.c ?_;refine wpAnyH_done (by kernel_rfl) ?_ _;refine NoPanic.normal ?_;replace⟨Z0,nS,ke,kf⟩:=gF Z0 nS ke kf;go_wp2;go_meet;case rel=>exact⟨rfl,VK,DD,L',C',Q',_,_,_,_,_,_,f23,rfl,rfl,Z0.out.bW,yr.out,Z0.out.R,Z0.out.n2,Z0.out.n3,ke.out,kf.out,nS.out⟩
    .go_simp;obtain⟨VK,W24,eg,eW,DE,f24,H24,ke,oo⟩:=H19.alloc 0;rw[eW,eg];replace kf:=(oo (9,1) (by decide)).trans kf;refine hK.out _ _ H24.c λ_=>?_;clear hK KK eg eW H19 oo;refine wpAnyH_ready (rs:=[6]) (by kernel_rfl) (by simp) (AllReadyH.cons rfl (λKK hK=>?_) (AllReadyH.nil));.go_simp;refine(CR.out W24 (rp.out.below H24.b2) (hL2.out.below H24.b2)).mono ?_;rintro e W25 ⟨x,y,z,rfl,bb,hz,L',C',Q',aL,aC,aQ,bL,bC,bQ,yr,rfl,rfl,fw,Rw,GQ,F9,G2,FR,zL,CW⟩;subst hz;obtain⟨Hc,FY,FQ,rfl⟩:=(Rw.aR GQ).at.shape;obtain⟨Gv,G1,Ff,rfl⟩:=(Rw.aR F9).at.shape;obtain⟨Ft,GU,FF,rfl⟩:=(Rw.aR G2).at.shape;obtain⟨GH,F8,GN,rfl⟩:=(Rw.aR FR).at.shape;obtain⟨GO,Hf,G7,rfl⟩:=(Rw.aR zL).at.shape;obtain⟨Gz,Hb,Ha,rfl⟩:=(Rw.aR CW).at.shape;obtain⟨f25,H25,KG,Hr⟩:=H24.call bb Rw;have nS:=OX.congr ⟨GQ,F9,G2,FR,zL,CW⟩ KG;replace kf:=(Hr 1).trans kf;replace ke:=(Hr 0).trans ke;replace yr:=Hd yr;refine hK.out _ _ H25.c λ_=>?_;clear hK KK bb H24 KG Hr GQ F9 G2 FR zL CW Rw;refine jL 7 39 H25.c ?_;refine jL 8 47 H25.c ?_;refine jL 9 48 H25.c ?_;refine jL 10 49 H25.c ?_;obtain⟨⟨⟨t0,t1,t2,t3⟩,u0,u1,u2,u3⟩,W26,ZE,f26,H26,m,oo⟩:=H25.B9 ke DE (.int .i64 0) (.slice Hc FY FQ) (.slice Ft GU FF) (.slice GO Hf G7);replace nS:=nS.box oo;replace kf:=(oo (9,1) (by decide)).trans kf;replace ke:=m;unfold zo at ZE;replace ZE:=Hd ZE;refine wpAnyH_ready (rs:=[13]) (by kernel_rfl) (by simp) (AllReadyH.cons rfl (λKK hK=>?_) AllReadyH.nil);go_simp;rw[ZE.out];refine hK.out _ _ H26.c λ_=>?_;clear hK KK t0 t1 t2 t3 u0 u1 u2 u3 m oo H25 ZE;obtain⟨⟨⟨t0,t1,t2,t3⟩,u0,u1,u2,u3⟩,W27,e27,f27,Z8,m,oo⟩:=H26.B9 kf vx (.int .i64 0) (.slice Gv G1 Ff) (.slice GH F8 GN) (.slice Gz Hb Ha);replace nS:=nS.box oo;replace ke:=(oo (9,0) (by decide)).trans ke;replace kf:=m;unfold zo at e27;replace e27:=Hd e27;refine wpAnyH_ready (rs:=[14]) (by kernel_rfl) (by simp) (AllReadyH.cons rfl (λKK hK=>?_) AllReadyH.nil);go_simp;rw[e27.out];refine hK.out _ _ Z8.c λ_=>?_;clear hK KK t0 t1 t2 t3 u0 u1 u2 u3 m oo H26 e27;refine jL 15 7 Z8.c ?_;refine wpAnyH_done (by kernel_rfl) ?_ _;refine NoPanic.normal ?_;replace⟨Z8,nS,ke,kf⟩:=gF Z8 nS ke kf;go_wp2;go_meet;case rel=>exact⟨rfl,VK,DD,L',C',Q',_,_,_,_,_,_,f27,rfl,rfl,Z8.out.bW,yr.out,Z8.out.R,Z8.out.n2,Z8.out.n3,ke.out,kf.out,nS.out⟩
  case rest =>
   obtain⟨rfl,g9,g10,L',C',Q',aL,aC,aQ,bL,bC,bQ,f9,rfl,rfl,bc,yr,Rc,dT,ef,ke,kf,n10,n11,n20,n21,n30,n31⟩:=hcut;obtain⟨Hc,FY,FQ,haL⟩:=(Rc.aR n10).at.shape;subst haL;obtain⟨Gv,G1,Ff,hbL⟩:=(Rc.aR n11).at.shape;subst hbL;obtain⟨Ft,GU,FF,haC⟩:=(Rc.aR n20).at.shape;subst haC;obtain⟨GH,F8,GN,hbC⟩:=(Rc.aR n21).at.shape;subst hbC;obtain⟨GO,Hf,G7,haQ⟩:=(Rc.aR n30).at.shape;subst haQ;obtain⟨Gz,Hb,Ha,hbQ⟩:=(Rc.aR n31).at.shape;subst hbQ;have Uh:=Vc.out v m L' C' Q' Nj.out yr;clear yr;replace Uh:=Hd Uh;obtain⟨V,V5⟩:=Ex wc.drew;have RV:Rows w.heap.size V f9:=by rw[<-V5];exact Rc.drew
   have bV:Below w.heap.size w V:=by rw[<-V5];exact bc.drew
   replace V5:=Hd V5;clear Rc bc;have hS:V.cell? ⟨g9,0,none⟩=some (.int .i64 0)/\V.cell? ⟨g9,1,none⟩=some (.slice Hc FY FQ)/\V.cell? ⟨g9,2,none⟩=some (.slice Ft GU FF)/\V.cell? ⟨g9,3,none⟩=some (.slice GO Hf G7)/\V.cell? ⟨g10,0,none⟩=some (.int .i64 0)/\V.cell? ⟨g10,1,none⟩=some (.slice Gv G1 Ff)/\V.cell? ⟨g10,2,none⟩=some (.slice GH F8 GN)/\V.cell? ⟨g10,3,none⟩=some (.slice Gz Hb Ha):=by
    obtain⟨a0,a1,a2,a3⟩:=RV.dE ke;obtain⟨d0,d1,d2,d3⟩:=RV.dE kf;exact⟨a0,a1,a2,a3,d0,d1,d2,d3⟩
   obtain⟨g0,g1,g2,g3⟩:=RV.dE dT;have fg0:=RV.ib dT 0;have fg1:=RV.ib dT 1;have fg2:=RV.ib dT 2;have fg3:=RV.ib dT 3;have Wo:=(RV.wk dT).1;obtain⟨f15,wF,Vv,CU⟩:=RV.pV dT (.int .i64 0) (.slice Hc FY FQ) (.slice Ft GU FF) (.slice GO Hf G7);replace ef:=(CU (0,3) (by decide)).trans ef;replace ke:=(CU (9,0) (by decide)).trans ke;replace kf:=(CU (9,1) (by decide)).trans kf;replace n10:=(CU (1,0) (by decide)).trans n10;replace n11:=(CU (1,1) (by decide)).trans n11;replace n20:=(CU (2,0) (by decide)).trans n20;replace n21:=(CU (2,1) (by decide)).trans n21;replace n30:=(CU (3,0) (by decide)).trans n30;replace n31:=(CU (3,1) (by decide)).trans n31;have MH:=Below.pV (g:=w.heap.size+1) bV Wo (.int .i64 0) (.slice Hc FY FQ) (.slice Ft GU FF) (.slice GO Hf G7);obtain⟨E9,Gd⟩:=Ex ((((V.setCell ⟨w.heap.size+1,0,none⟩ (.int .i64 0)).setCell ⟨w.heap.size+1,1,none⟩ (.slice Hc FY FQ)).setCell ⟨w.heap.size+1,2,none⟩ (.slice Ft GU FF)).setCell ⟨w.heap.size+1,3,none⟩ (.slice GO Hf G7));rw[Gd] at wF MH;have hS15:E9.cell? ⟨g9,0,none⟩=some (.int .i64 0)/\E9.cell? ⟨g9,1,none⟩=some (.slice Hc FY FQ)/\E9.cell? ⟨g9,2,none⟩=some (.slice Ft GU FF)/\E9.cell? ⟨g9,3,none⟩=some (.slice GO Hf G7)/\E9.cell? ⟨g10,0,none⟩=some (.int .i64 0)/\E9.cell? ⟨g10,1,none⟩=some (.slice Gv G1 Ff)/\E9.cell? ⟨g10,2,none⟩=some (.slice GH F8 GN)/\E9.cell? ⟨g10,3,none⟩=some (.slice Gz Hb Ha):=by
    obtain⟨a0,a1,a2,a3⟩:=wF.dE ke;obtain⟨d0,d1,d2,d3⟩:=wF.dE kf;exact⟨a0,a1,a2,a3,d0,d1,d2,d3⟩
   replace Gd:=Hd Gd;clear dT CU RV bV Wo;have dT:=Vv;clear Vv;go_upto_region 8 with fail;refine ar (λw'=>w'.cell? ⟨g9,0,none⟩=some (.int .i64 0)/\w'.cell? ⟨g9,1,none⟩=some (.slice Hc FY FQ)/\w'.cell? ⟨g9,2,none⟩=some (.slice Ft GU FF)/\w'.cell? ⟨g9,3,none⟩=some (.slice GO Hf G7)/\w'.cell? ⟨g10,0,none⟩=some (.int .i64 0)/\w'.cell? ⟨g10,1,none⟩=some (.slice Gv G1 Ff)/\w'.cell? ⟨g10,2,none⟩=some (.slice GH F8 GN)/\w'.cell? ⟨g10,3,none⟩=some (.slice Gz Hb Ha)) 6 [(0,true),(1,true),(2,true),(3,true),(4,false),(5,false)] (by kernel_rfl) (by kernel_rfl) ?_;rw[V5.out];refine ay 50 hS ?_;refine ay 51 hS ?_;refine ay 52 hS ?_;refine ay 2 hS ?_;refine fZ rfl (λKK hK=>?_);go_simp;rw[Gd.out];refine hK _ _ hS15 ?_;clear hK KK hS g0 g1 g2 g3 fg0 fg1 fg2 fg3;obtain⟨h0,h1,h2,h3⟩:=wF.dE ef;have fh0:=wF.ib ef 0;have fh1:=wF.ib ef 1;have fh2:=wF.ib ef 2;have fh3:=wF.ib ef 3;have Wg:=(wF.wk ef).1;obtain⟨f16,Dd,m03,CX⟩:=wF.pV ef (.int .i64 0) (.slice Gv G1 Ff) (.slice GH F8 GN) (.slice Gz Hb Ha);replace dT:=(CX (0,2) (by decide)).trans dT;replace ke:=(CX (9,0) (by decide)).trans ke;replace kf:=(CX (9,1) (by decide)).trans kf;replace n10:=(CX (1,0) (by decide)).trans n10;replace n11:=(CX (1,1) (by decide)).trans n11;replace n20:=(CX (2,0) (by decide)).trans n20;replace n21:=(CX (2,1) (by decide)).trans n21;replace n30:=(CX (3,0) (by decide)).trans n30;replace n31:=(CX (3,1) (by decide)).trans n31;have Ma:=Below.pV (g:=w.heap.size+2) MH Wg (.int .i64 0) (.slice Gv G1 Ff) (.slice GH F8 GN) (.slice Gz Hb Ha);obtain⟨I6,GG⟩:=Ex ((((E9.setCell ⟨w.heap.size+2,0,none⟩ (.int .i64 0)).setCell ⟨w.heap.size+2,1,none⟩ (.slice Gv G1 Ff)).setCell ⟨w.heap.size+2,2,none⟩ (.slice GH F8 GN)).setCell ⟨w.heap.size+2,3,none⟩ (.slice Gz Hb Ha));rw[GG] at Dd Ma;have hS16:I6.cell? ⟨g9,0,none⟩=some (.int .i64 0)/\I6.cell? ⟨g9,1,none⟩=some (.slice Hc FY FQ)/\I6.cell? ⟨g9,2,none⟩=some (.slice Ft GU FF)/\I6.cell? ⟨g9,3,none⟩=some (.slice GO Hf G7)/\I6.cell? ⟨g10,0,none⟩=some (.int .i64 0)/\I6.cell? ⟨g10,1,none⟩=some (.slice Gv G1 Ff)/\I6.cell? ⟨g10,2,none⟩=some (.slice GH F8 GN)/\I6.cell? ⟨g10,3,none⟩=some (.slice Gz Hb Ha):=by
    obtain⟨a0,a1,a2,a3⟩:=Dd.dE ke;obtain⟨d0,d1,d2,d3⟩:=Dd.dE kf;exact⟨a0,a1,a2,a3,d0,d1,d2,d3⟩
   replace GG:=Hd GG;clear ef CX wF MH Wg;have ef:=m03;clear m03;refine fZ rfl (λKK hK=>?_);go_simp;rw[GG.out];refine hK _ _ hS16 ?_;clear hK KK hS15 h0 h1 h2 h3 fh0 fh1 fh2 fh3;refine dA ?_;simp only[List.drop_succ_cons,List.drop_zero];clear hS16;obtain⟨g0,g1,g2,g3⟩:=Dd.dE dT;obtain⟨h0,h1,h2,h3⟩:=Dd.dE ef;replace⟨dT,ef,ke,kf,n10,n11,n20,n21⟩:=gp dT ef ke kf n10 n11 n20 n21;replace⟨n30,n31,Dd⟩:=dO n30 n31 Dd;go_wp2;refine NoPanic.normal ?_;go_wp2;(try simp only[Exit.inBlock,Exit.then]);refine bodyPost_ret (v:=.tuple #[.bool false,.agg #[.int .i64 0,.slice Hc FY FQ,.slice Ft GU FF,.slice GO Hf G7],.agg #[.int .i64 0,.slice Gv G1 Ff,.slice GH F8 GN,.slice Gz Hb Ha],.nilIface]) (by simp[results,Tryz.results18,go_sem,g0,g1,g2,g3,h0,h1,h2,h3]) rfl ?_;exact⟨_,_,_,_,rfl,Ma,rfl,.inr ⟨rfl,ig.out,L',C',Q',_,_,_,_,_,_,Uh.out,rfl,rfl,f16,Dd.out,n10.out,n11.out,n20.out,n21.out,n30.out,n31.out⟩⟩
theorem EI.pos{G:List (List Int)}{v:Nat}{L C Q:List Nat}(h:EI G v L C Q):1<=L.length/\1<=Q.length:=by
 obtain⟨c,d,u1,u2,I,O,_,_,hc,_,h3,_,_,_,rfl,rfl,rfl⟩:=h;refine⟨?_,by simp⟩;have he:=h3.way.ends;obtain⟨w',hw⟩:=h3.way.ne;cases hd:u1.dropLast with
 | nil =>
  rw[hd,hw] at he;simp at he;omega
 | cons x l=>simp
theorem Oe.pos{K R:Nat}{T:List Int}{L C Q:List Nat}(h:Oe K R T L C Q):1<=L.length/\1<=Q.length:=by
 obtain⟨_,_,_,_,_,h3⟩:=h;exact h3.pos
theorem Fh.ans{w w':World}{K R:Nat}{T:List Int}{yes x y e:Value}(h:Fh w K R T yes x y e w'):e=.nilIface/\∃Y,yes=.bool Y/\(Y=true↔¬ dY K R T) /\
 ∃a1 n1 c1 a2 n2 c2 a3 n3 c3 a4 n4 c4 a5 n5 c5 a6 n6 c6,x=.agg #[.int .i64 0,.slice a1 n1 c1,.slice a2 n2 c2,.slice a3 n3 c3]/\y=.agg #[.int .i64 0,.slice a4 n4 c4,.slice a5 n5 c5,.slice a6 n6 c6]:=by
 obtain⟨rfl,⟨rfl,rfl,rfl,hn⟩ | ⟨rfl,hn,L,C,Q,aL,aC,aQ,bL,bC,bQ,_,rfl,rfl,f,hr,h1,h2,h3,h4,h5,h6⟩⟩:=h;.exact⟨rfl,true,rfl,⟨λ_=>hn,λ_=>rfl⟩,_,_,_,_,_,_,_,_,_,_,_,_,_,_,_,_,_,_,rfl,rfl⟩
 .obtain⟨_,_,_,rfl⟩:=(hr.aR h1).at.shape;obtain⟨_,_,_,rfl⟩:=(hr.aR h2).at.shape;obtain⟨_,_,_,rfl⟩:=(hr.aR h3).at.shape;obtain⟨_,_,_,rfl⟩:=(hr.aR h4).at.shape;obtain⟨_,_,_,rfl⟩:=(hr.aR h5).at.shape;obtain⟨_,_,_,rfl⟩:=(hr.aR h6).at.shape;exact⟨rfl,false,rfl,⟨λh=>(by cases h),λh=>absurd hn h⟩,_,_,_,_,_,_,_,_,_,_,_,_,_,_,_,_,_,_,rfl,rfl⟩
def CC(N v:Nat)(s:(Nat->Int)×List Nat)(t:Nat):(Nat->Int)×List Nat:=if ¬ bP N t/\s.1 t<0 then (aN s.1 t (v:Int),s.2++[t]) else s
def JO(N:Nat)(adj:Nat->List Nat)(v:Nat)(s:(Nat->Int)×List Nat)(k:Nat):(Nat->Int)×List Nat:=((adj v).take k).foldl (CC N v) s
def stM(N:Nat)(adj:Nat->List Nat):Nat->(Nat->Int)×List Nat
 | 0=>(λ_=>-1,diags N)
 | j+1=>match (stM N adj j).2[j]? with
  | some v=>JO N adj v (stM N adj j) (adj v).length
  | none=>stM N adj j
theorem PG{N:Nat}{adj:Nat->List Nat}{v k t:Nat}{s:(Nat->Int)×List Nat}(h:(adj v)[k]?=some t):JO N adj v s (k+1)=CC N v (JO N adj v s k) t:=by
 unfold JO;rw[List.take_add_one,h,List.foldl_append];rfl
theorem S8{N:Nat}{adj:Nat->List Nat}{j v:Nat}(h:(stM N adj j).2[j]?=some v):stM N adj (j+1)=JO N adj v (stM N adj j) (adj v).length:=by
 rw[stM,h]
def TG(N:Nat)(adj:Nat->List Nat)(j:Nat):Prop:=∀v,(stM N adj j).2[j]?=some v->∀t∈adj v,bP N t->bP N v
def KN(N:Nat)(adj:Nat->List Nat)(ws:List Nat):Prop :=
 ∃j v k t c,(stM N adj j).2[j]?=some v/\(adj v)[k]?=some t/\bP N t/\¬ bP N v/\kM N adj (JO N adj v (stM N adj j) k).1 v c/\ws=c.reverse++[t]/\(∀i,i<j->TG N adj i)/\∀i x,i<k->(adj v)[i]?=some x->bP N x->bP N v
def C7(p:List Int)(x:Int):Int:=idxOf (λy=>x==y) p
theorem P3(v:Value)(xs:List Int)(x:Int)(w:World)(h:ae w v xs):
 Calls Tryz.prog 91 #[v,.int .i64 x] w λe w'=>e=.returned (.int .i64 (C7 xs x))/\w=w':=by
 have hlen:=h.len;have hm:=h.gN;replace h:=Hd h;go_enter Tryz.func91,Tryz.ntmps91;go_wp2;go_loop [8] (λi=>∃j:Nat,j<=xs.length/\i=.int .i64 j/\∀t (ht:t<xs.length),t<j->(x==xs[t])=false) (λi=>xs.length-(intOf i).toNat);case atStart=>exact⟨0,by omega,rfl,λt ht h=>by omega⟩
 case round =>
  obtain⟨j,hj,rfl,bM⟩:=hrel;by_cases dw:j<xs.length
  .have i1:=h.out.idx j dw;have c1:=h.out.cell j dw;by_cases he:(x==xs[j])=true
   .have hr:Hid (C7 xs x=j):=Hd (xR j dw he (λt ht VI=>bM t ht VI));have Ed:x=xs[j]:=by simpa using he
    rw[<-Ed] at c1;clear he Ed;replace bM:=Hd bM;go_wp2;go_ret;exact⟨nW hr.out.symm,rfl⟩
   .have hn:Hid (∀t (ht:t<xs.length),t<j+1->(x==xs[t])=false):=Hd (λt ht VI=>by
     by_cases e:t=j;.subst e;simpa using he
     .exact bM t ht (by omega));have Ed:(x==xs[j])=false:=by simpa using he
    obtain⟨y,hy⟩:=Ey (xs[j]);rw[<-hy] at c1 Ed;clear he bM hy;go_wp2;go_round;case rel=>exact⟨j+1,by omega,by go_num,hn.out⟩
    case measure=>simp[intOf];omega
  .have hr:Hid (C7 xs x=-1):=Hd (ob (λy hy=>by
    obtain⟨t,ht,rfl⟩:=List.mem_iff_getElem.1 hy;exact bM t ht (by omega)));replace bM:=Hd bM;go_wp2;go_ret;exact⟨nW hr.out.symm,rfl⟩
theorem AO{T:List Int}{j:Nat}(hj:j<T.length):∃i:Nat,C7 T (T.getD j 0)=i/\i<=j/\T.getD i 0=T.getD j 0:=by
 have ej:T.getD j 0=T[j]:=by simp[List.getD,hj]
 rw[ej];rcases lH (λy=>T[j]==y) T with ⟨_,hn⟩ | ⟨k,hk,sr,hp,hm⟩;.have:=hn _ (List.getElem_mem hj);simp at this
 .refine⟨k,hk,?_,?_⟩;.apply Classical.byContradiction;intro e;have:=hm j hj (by omega);simp at this
  .simp only[List.getD,List.getElem?_eq_getElem sr,Option.getD_some];exact(show T[j]=T[k] by simpa using hp).symm
def xu(T:List Int)(x y:Nat):Prop:=y<T.length/\C7 T (T.getD y 0)=x/\x<y/\∀i,i<y->(i:Int)<=C7 T (T.getD i 0)
theorem re{K:Nat}{T a:List Int}{i:Nat}(hi:i<a.length):(eM K 0 T a).getD i 0=T.getD (a.getD i 0).toNat 0:=by
 rw[gj K 0 T a i (by omega)];have e:(a.drop i).take (2*0+1)=[a.getD i 0]:=by
  rw[List.drop_eq_getElem_cons hi,show 2*0+1=0+1 from rfl,List.take_succ_cons,List.take_zero];simp[List.getD,hi]
 rw[e];simp[aI]
theorem xu.twins{K:Nat}{T:List Int}{x y:Nat}(hK:T.length=K)(h:xu T x y):dH K 0 T [(x:Int)] [(y:Int)]:=by
 obtain⟨h1,h2,h3,h4⟩:=h;have sx:bj K [(x:Int)]:=λz hz=>by simp at hz;subst hz;omega
 have sy:bj K [(y:Int)]:=λz hz=>by simp at hz;subst hz;omega
 refine⟨sx,sy,rfl,by simp;omega,by simp,by simp,by simp,?_⟩;have he:T.getD x 0=T.getD y 0:=by
  obtain⟨i,i1,i2,i3⟩:=AO h1;rw[h2] at i1;obtain rfl:x=i:=by omega
  exact i3
 refine List.ext_getElem (by rw[aM,aM];rfl) λi h1 h2=>?_;rw[aM] at h1;have hi:i=0:=by simp at h1;omega
 subst hi;have g1:=re (K:=K) (T:=T) (a:=[(x:Int)]) (i:=0) (by simp);have g2:=re (K:=K) (T:=T) (a:=[(y:Int)]) (i:=0) (by simp);simp[List.getD] at g1 g2 he;have l1:0<(eM K 0 T [(x:Int)]).length:=by rw[aM];simp
 have l2:0<(eM K 0 T [(y:Int)]).length:=by rw[aM];simp
 simp[List.getElem?_eq_getElem l1] at g1;simp[List.getElem?_eq_getElem l2] at g2;rw[g1,g2];exact he
theorem Ec{K R:Nat}{T a b:List Int}(h:dH K R T a b):1<=a.length:=by
 have hl:=h.len;have hn:=h.ne;rcases a with _ | ⟨x,a⟩;.cases b with
  | nil=>exact absurd rfl hn
  | cons _ _=>simp at hl
 .simp
theorem ER{K:Nat}{T:List Int}(hK:T.length=K)(h:∀i,i<T.length->(i:Int)<=C7 T (T.getD i 0))(a b:List Int):¬ dH K 0 T a b:=by
 intro t;apply t.ne;have hinj:∀i j,i<T.length->j<T.length->T.getD i 0=T.getD j 0->i<=j:=λi j hi hj e=>by
  obtain⟨p,p1,p2,_⟩:=AO hj;have:=h i hi;rw[e,p1] at this;omega
 refine List.ext_getElem t.len λi h1 h2=>?_;have e:=congrArg (λl=>l.getD i 0) t.img;simp only[re h1,re h2] at e;simp only[List.getD,List.getElem?_eq_getElem h1,List.getElem?_eq_getElem h2,Option.getD_some] at e;have s1:=t.sa _ (List.getElem_mem h1);have s2:=t.sb _ (List.getElem_mem h2);have l1:=hinj a[i].toNat b[i].toNat (by omega) (by omega) e;have l2:=hinj b[i].toNat a[i].toNat (by omega) (by omega) e.symm;omega
def FinIs(K R:Nat)(T a b:List Int):Prop :=
 (R=0/\∃x y,xu T x y/\a=[(x:Int)]/\b=[(y:Int)]) \/
 (R≠0/\∃ws,KN (pw K (2*R)) (bu K (pw K (2*R)) T) ws/\a=dF K (2*R) (·/pw K (2*R)) ws/\b=dF K (2*R) (·%pw K (2*R)) ws)
def Mz(w:World)(T:List Int)(x y:Value)(w':World):Prop :=
 (∃a b,xu T a b/\aj w.heap.size w' x [(a:Int)]/\aj w.heap.size w' y [(b:Int)]/\(x.ownBlock=none\/x.ownBlock≠y.ownBlock)) \/
 (x=.slice none 0 0/\y=.slice none 0 0/\∀i,i<T.length->(i:Int)<=C7 T (T.getD i 0))
theorem L7(k R:Int)(va:Option Addr)(vn vc:Nat)(T:List Int)(w:World)(h:ae w (.slice va vn vc) T):
 Calls Tryz.prog 44 #[.agg #[.int .i64 k,.int .i64 R,.slice va vn vc]] w (jf (Mz w T) w):=by
 have b0:=ab w (.cells #[.int .i64 k,.int .i64 R,.slice va vn vc] 24);have q:az (w.alloc (.cells #[.int .i64 k,.int .i64 R,.slice va vn vc] 24)) w.heap.size (.int .i64 k) (.int .i64 R) (.slice va vn vc):=by simp[az,go_sem]
 have hlen:=h.len;have hm:=h.gN;replace h:=Hd (h.below b0);obtain⟨⟨y0,y1,y2⟩,-,-,-⟩:=q;go_enter Tryz.func44,Tryz.ntmps44;go_wp2;obtain⟨W,hW⟩:=Ey (w.alloc (.cells #[.int .i64 k,.int .i64 R,.slice va vn vc] 24));rw[<-hW] at y0 y1 y2 b0 h ⊢;replace hW:=Hd hW;go_loop [10] (λjv=>∃j:Nat,j<=T.length/\jv=.int .i64 j/\∀i,i<j->(i:Int)<=C7 T (T.getD i 0)) (λjv=>T.length-(intOf jv).toNat);case atStart=>exact⟨0,by omega,rfl,λi hi=>absurd hi (Nat.not_lt_zero _)⟩
 case round =>
  obtain⟨j,hj,rfl,hno0⟩:=hrel;have ig:∀i,i<j->(i:Int)<=C7 T (T.getD i 0):=λi hi=>by have:=hno0 i hi;omega
  clear hno0;replace ig:=Hd ig;by_cases dw:j<T.length
  .have i1:=λw'=>h.out.idx j dw w';have c1:=h.out.aH j dw;obtain⟨z,hz⟩:=Ex (T.getD j 0);rw[hz] at c1;obtain⟨p,Hq,ZY,hp3⟩:=AO dw;rw[hz] at Hq;have hIx:=P3 (.slice va vn vc) T z W h.out;rw[Hq] at hIx;generalize af (.slice va vn vc) j=ja at *;have wK:=Hd dw;replace⟨hIx,hz,Hq,hp3⟩:=gF hIx hz Hq hp3;by_cases Tn:p<j;.have hpd:decide (p<j)=true:=decide_eq_true Tn;have hpd2:decide ((p:Int)<(j:Int))=true:=decide_eq_true (by omega);have hpj2:=Hd Tn;go_wp2_with (go_at_call 91;refine hIx.out.mono ?_;rintro e w' ⟨rfl,rfl⟩);have bA:=ab W (.cells #[.int .i64 p] 3);have hoA:=aj.lit W.heap.size W (Nat.le_refl _) [(p:Int)] (by simp[maxLen]) #[.int .i64 (p:Int)] rfl 1 rfl;have bB:=ab (W.alloc (.cells #[.int .i64 p] 3)) (.cells #[.int .i64 j] 3);have hoB:=aj.lit (W.alloc (.cells #[.int .i64 p] 3)).heap.size (W.alloc (.cells #[.int .i64 p] 3)) (Nat.le_refl _) [(j:Int)] (by simp[maxLen]) #[.int .i64 (j:Int)] rfl 1 rfl;have hs:=b0.size;go_ret2;refine⟨_,_,rfl,b0.trans ((bA.trans (bB.mono bA.size)).mono hs),.inl ⟨p,j,⟨wK.out,by rw[hz.out];exact Hq.out,hpj2.out,ig.out⟩,(hoA.below bB).mono hs,(show aj W.heap.size _ (Value.slice (some ⟨W.heap.size+1,0,none⟩) 1 1) _ from(by simpa using hoB.mono bA.size)).mono hs,.inr ?_⟩⟩;simp[Value.ownBlock]
   .have hpe:p=j:=by omega
    subst hpe;go_wp2_with (go_at_call 91;refine hIx.out.mono ?_;rintro e w' ⟨rfl,rfl⟩);have hj1:=wK.out;go_round;case measure=>simp[intOf];omega
    case rel =>
     refine⟨p+1,by omega,by go_num,λi hi=>?_⟩;by_cases e:i=p;.subst e;rw[hz.out,Hq.out];omega
     .exact ig.out i (by omega)
  .obtain rfl:j=T.length:=by omega
   go_wp2;go_ret2;exact⟨_,_,rfl,b0,.inr ⟨rfl,rfl,ig.out⟩⟩
theorem Lg(N:Nat)(w:World)(pC:1<=N)(hN:N<=81):
 Calls Tryz.prog 92 #[.int .i64 ((N*N:Nat):Int)] w λe w'=>e=.returned (.int .i64 N)/\w=w':=by
 have Hu:N*N<=6561:=Nat.mul_le_mul hN hN;obtain⟨M,hM⟩:=Ex (N*N);rw[hM] at Hu ⊢;replace hM:=Hd hM;go_enter Tryz.func92,Tryz.ntmps92;go_wp2_with fail;go_loop [3] (λnv=>∃k:Nat,k<=N/\nv=.int .i64 k) (λnv=>N-(intOf nv).toNat);case atStart=>exact⟨1,pC,rfl⟩
 case round =>
  obtain⟨k,hk,rfl⟩:=hrel;obtain⟨kk,Cz⟩:=Ex (k*k);have hkk2:(k:Int)*(k:Int)=(kk:Int):=by rw[<-Cz];simp
  have hkkM:kk<=M:=by rw[<-Cz,<-hM.out];exact Nat.mul_le_mul hk hk
  by_cases aT:kk<M
  .have hkN:k<N:=Nat.lt_of_le_of_ne hk (λe=>by have:=hM.out;rw[e] at Cz;omega);replace Cz:=Hd Cz;go_wp2;go_round;case measure=>simp[intOf];omega
   case rel=>exact⟨k+1,by omega,by go_num⟩
  .have hkN:k=N:=by
    apply Classical.byContradiction;intro e;have h2:k*k<N*N:=Nat.mul_lt_mul_of_lt_of_lt (by omega) (by omega);rw[Cz,hM.out] at h2;omega
   subst hkN;replace Cz:=Hd Cz;go_wp2;go_ret;exact⟨rfl,rfl⟩
def FP:Value->Nat
 | .slice _ n _=>n
 | _=>0
theorem Er{w:World}{v:Value}{xs:List Int}(h:ae w v xs):FP v=xs.length:=by
 obtain⟨a,cap,rfl,_⟩:=h;rfl
def Vy(w:World)(N:Nat)(adj:Nat->List Nat)(x:Value)(w':World):Prop :=
 (∃ws,KN N adj ws/\er N adj ws/\(∀u,er N adj u->ws.length<=u.length)/\ws.length<=20000/\aj w.heap.size w' x (aw ws))\/(x=.slice none 0 0/\∀u,¬ er N adj u)
def jg(N i:Nat):List Nat:=(List.range i).map λu=>u*N+u
theorem wV(N i:Nat):jg N (i+1)=jg N i++[i*N+i]:=by simp[jg,List.range_succ]
theorem St(K N:Nat)(T:List Int)(ga:Option Addr)(gc:Nat)(w:World)(fs:K<=4)(pC:1<=N)(jo:N<=81)(h:bh w (.slice ga (dd K N T).length gc) (dd K N T)):
 Calls Tryz.prog 45 #[.slice ga (dd K N T).length gc] w (cz (Vy w N (bu K N T)) w):=by
 have Hu:N*N<=6561:=Nat.mul_le_mul jo jo;have tG:=Lg N w pC jo;have lg:=h.len 3;have dK:=λ(p:Nat) (hp:p<N*N)=>h.row p (by rw[fD];exact hp);have zK:∀p,p<N*N->(dd K N T).getD p []=aw (bu K N T p):=λp hp=>lE hp;rw[fD] at lg h ⊢;obtain⟨M,hM⟩:=Ex (N*N);have hMe:=hM;rw[fD] at dK;rw[hM] at tG Hu lg h dK zK ⊢;have b0:=ab w (.cells #[.int .i64 (-1)] 3);have hI:=(aj.lit w.heap.size w (Nat.le_refl _) [-1] (by simp[maxLen]) #[.int .i64 (-1)] rfl 1 rfl).at;have GV:=eR _ (-1) M _ hI (by omega);replace⟨GV,hI,tG,hM,hMe,h,dK,zK⟩:=gp GV hI tG hM hMe h dK zK;go_enter Tryz.func45,Tryz.ntmps45;go_wp2_with fail;refine tG.out.mono ?_;rintro e w' ⟨rfl,rfl⟩;go_wp2_with fail;refine GV.out.mono ?_;rintro e w1 ⟨cv,rfl,b1,p9⟩;obtain⟨w0,rJ⟩:=Ey (w.alloc (.cells #[.int .i64 (-1)] 3));rw[<-rJ] at b0 b1 p9;rw[<-DW] at p9;clear GV hI rJ;have si:=Below.step b0 b1;have R1:=(ND w.heap.size w0).add (i:=(1,0)) (r':=aD cv (gO M λ_=>-1)) b1 (p9.mono b0.size) (λk hk=>(p9.lt k hk).1);have R2:=R1.add (i:=(2,0)) (r':=aD (.slice none 0 0) []) (Below.refl _ _) (aj.nil _ _) (λk hk=>by cases hk);obtain⟨f0,Hk⟩:=Ey (ch (ch (λ_=>none) (1,0) (some (aD cv (gO M λ_=>-1)))) (2,0) (some (aD (.slice none 0 0) [])));rw[<-Hk] at R2;have KA:FN f0 cv (.slice none 0 0) M (λ_=>-1) (jg N 0):=⟨by rw[Hk,ad _ _ (by simp),ah],by rw[Hk,ah];rfl⟩;obtain⟨ca,cn,cc,rfl⟩:=p9.at.shape;replace⟨R2,KA,p9⟩:=dO R2 KA p9;clear R1 Hk;go_wp2_with fail;go_loopw [5,22] (λqv iv wr=>∃(i:Nat) (f:Names) (qw:Value),i<=N/\iv=.int .i64 i/\qw=qv/\Rows w.heap.size wr f/\Below w.heap.size w wr/\FN f (.slice ca cn cc) qw M (λ_=>-1) (jg N i)) (λ_ iv _=>N-(intOf iv).toNat);case atStart=>exact⟨0,f0,_,by omega,rfl,rfl,R2.out,si,KA.out⟩
 case round =>
  clear R2 KA p9;obtain⟨i,f1,qv,hi,rfl,rfl,dX,bI,hF⟩:=hrel;obtain⟨wo,rfl⟩:=Ey wr;by_cases jM:i<N
  .obtain⟨m,hm⟩:=Ex (i*N);have qD:(i:Int)*(N:Int)=(m:Int):=by rw[<-hm];simp
   have AH:m<=6561:=by rw[<-hm];exact Nat.le_trans (Nat.mul_le_mul (show i<=81 by omega) jo) (by decide)
   obtain⟨z,hz⟩:=Ex (m+i);have oU:(m:Int)+(i:Int)=(z:Int):=by omega
   have LX:IntKind.i64.wrap (m:Int)=m:=db (by omega) (by omega);have hwz:IntKind.i64.wrap (z:Int)=z:=db (by omega) (by omega);have Dh:jg N (i+1)=jg N i++[z]:=by rw[wV,hm,hz]
   have hoQ:=dX.aR hF.queue;have hB:=bI.size;have td:=Hd jM;have hlq:(aw (jg N i)).length<=81:=by rw[aA];simp[jg];omega
   replace⟨dX,hF,hm,hz,Dh⟩:=mV dX hF hm hz Dh;go_wp2_with (at_builtin;refine dD rfl _ _ rfl w.heap.size qv _ z hoQ rfl rfl (by omega) hB ?_);intro mi w7 eF b7 gn;obtain⟨f8,nC,h8,_⟩:=hF.out.push dX.out z eF gn;obtain⟨q1,q2,q3,rfl⟩:=eF.at.shape;replace⟨nC,eF⟩:=bD nC eF;clear gn hoQ;go_wp2;go_roundw;case measure=>have:=td.out;simp[intOf];omega
   case rel=>exact⟨i+1,f8,_,by have:=td.out;omega,by go_num,rfl,nC.out,bI.trans b7,by rw[Dh.out];exact h8⟩
  .obtain rfl:i=N:=by omega
   have X0:=xD.init i (bu K i T);have Ya:=kl.init i (bu K i T);have hNz1:¬ (i:Int)=0:=by omega
   have hNz2:((i:Int)==0)=false:=by rw[beq_eq_false_iff_ne];omega
   have hNz3:¬ i=0:=by omega
   replace⟨dX,hF,X0,Ya⟩:=gF dX hF X0 Ya;go_wp2_with fail;go_loopw [5,7] (λqv iv wr=>∃(j:Nat) (f:Names) (qw:Value) (came:Nat->Int) (q:List Nat) (D:Nat->Nat),j<=q.length/\iv=.int .i64 j/\qw=qv/\Rows w.heap.size wr f/\Below w.heap.size w wr/\FN f (.slice ca cn cc) qw M came q/\xD i (bu K i T) D q j/\kl i (bu K i T) D q came/\stM i (bu K i T) j=(came,q)/\∀z,z<j->TG i (bu K i T) z) (λ_ iv _=>M+1-(intOf iv).toNat);case atStart=>exact⟨0,f1,_,_,_,_,by omega,rfl,rfl,dX.out,bI,hF.out,X0.out,Ya.out,rfl,λz hz=>absurd hz (Nat.not_lt_zero _)⟩
   case round =>
    clear dX hF X0 Ya bI;obtain⟨j,f2,qv,came,q,D,hj,rfl,rfl,dI,b2,wU,hO,hC,mT,hnh⟩:=hrel;obtain⟨wo,rfl⟩:=Ey wr;have Iv:q.length<=M:=eK M q hO.nodup (λx hx=>by rw[<-hM.out];exact hO.low x hx);have j7:=dI.aR wU.queue;have lQ:=j7.at.len;rw[aA] at lQ;by_cases dw:j<q.length
    .obtain⟨v,hv⟩:∃v,q[j]?=some v:=⟨_,List.getElem?_eq_getElem dw⟩;have Ni:v<M:=by rw[<-hM.out];exact hO.low v (List.mem_of_getElem? hv)
     have iV:=λw'=>j7.at.idx j (by rw[aA];exact dw) w';have cV:=j7.at.aH j (by rw[aA];exact dw);rw[j3 hv] at cV;obtain⟨mv,iR,cR,NR⟩:=dK.out v Ni;rw[zK.out v Ni] at NR;have cR2:=(b2.cell (World.block_lt_of_cell? _ _ cR)).trans cR;have lM:=NR.len;rw[aA] at lM;have Vf:(bu K i T v).length<=16:=Nat.le_trans (og K i T v) (Nat.le_trans (Nat.mul_le_mul fs fs) (by decide));obtain⟨d1,d2,d3,d4,d5,d6⟩:=dm v i (by omega);obtain⟨u1,EB⟩:=Ex (v/i);obtain⟨v1,Ef⟩:=Ex (v%i);rw[EB] at d1 d3 d5;rw[Ef] at d2 d4 d6;have Z2:bP i v↔u1=v1:=by unfold bP;rw[EB,Ef]
     have ou:=hO.enter hv;have wK:=Hd dw;obtain⟨L,hL⟩:=Ex (bu K i T v);rw[hL] at NR lM Vf;have HS:∀t∈L,t<M:=λt ht=>by
      rw[<-hL] at ht;rw[<-hM.out];exact((dU (by omega)).1 ht).lt (by omega)
     generalize af qv j=qa at *;generalize af (.slice ga M gc) v=ra at *;obtain⟨ap,Ry⟩:=Ey (((u1:Int) != (v1:Int)));have WQ:ap=true↔¬ bP i v:=by rw[Ry,bne_iff_ne,Z2];omega
     have Lj:((u1:Int) != (v1:Int))=ap:=Ry.symm;have JU:(u1 != v1)=ap:=by rw[Ry];rw[Bool.eq_iff_iff,bne_iff_ne,bne_iff_ne];omega
     replace⟨Ry,EB,Ef,Z2,hL,NR,ou,dI⟩:=gp Ry EB Ef Z2 hL NR ou dI;replace⟨wU,hO,hC,j7,hv⟩:=mV wU hO hC j7 hv;have Ti:(stM i (bu K i T) j).2[j]?=some v:=by rw[mT];exact hv.out
     replace⟨Ti,mT,hnh⟩:=dO Ti mT hnh;go_upto_region 13 with fail;refine ar (λ_=>True) 7 [(0,true),(1,true),(2,true),(3,true),(4,true),(5,true),(6,true)] (by kernel_rfl) (by kernel_rfl) ?_;have hS:True:=trivial;refine ay 44 hS ?_;refine ay 45 hS ?_;refine ay 46 hS ?_;refine ay 47 hS ?_;refine ay 48 hS ?_;refine ay 49 hS ?_;refine ay 50 hS ?_;refine dA ?_;simp only[List.drop_succ_cons,List.drop_zero];clear hS;go_wp2;refine NoPanic.normal ?_;go_wp2_with fail;clear cV iV cR2 lQ Lj JU;go_loopw [5,56] (λqv tv wr=>∃(k:Nat) (f:Names) (qw:Value) (came:Nat->Int) (q:List Nat) (D:Nat->Nat),k<=L.length/\tv=.int .i64 k/\qw=qv/\Rows w.heap.size wr f/\Below w.heap.size w wr/\FN f (.slice ca cn cc) qw M came q/\j<q.length/\KC i (bu K i T) D q j v (L.take k)/\kl i (bu K i T) D q came/\JO i (bu K i T) v (stM i (bu K i T) j) k=(came,q)) (λ_ tv _=>L.length-(intOf tv).toNat);case atStart=>exact⟨0,f2,_,came,q,D,by omega,rfl,rfl,dI.out,by first | exact b2 | exact b2.drew,wU.out,wK.out,ou.out,hC.out,mT.out⟩
     case round =>
      clear dI wU hO hC j7 ou b2 Iv mT;obtain⟨k,f3,qv,came,q,D,hk,rfl,rfl,dP,b3,Dz,hjq,hIn,hC,hrm⟩:=hrel;obtain⟨N9,rfl⟩:=Ey wr;have Iv:q.length<=M:=eK M q hIn.nodup (λx hx=>by rw[<-hM.out];exact hIn.low x hx);by_cases sr:k<L.length
      .obtain⟨t,ht⟩:∃t,L[k]?=some t:=⟨_,List.getElem?_eq_getElem sr⟩;have C9:t∈bu K i T v:=by rw[hL.out];exact List.mem_of_getElem? ht
       have Gj:t<M:=HS t (List.mem_of_getElem? ht);have XO:=NR.out.below b3;have iT:=λw'=>XO.idx k (by rw[aA];exact sr) w';have cT:=XO.aH k (by rw[aA];exact sr);rw[j3 ht] at cT;have kg:L.take (k+1)=L.take k++[t]:=by rw[List.take_add_one,ht];rfl
       have JX:JO i (bu K i T) v (stM i (bu K i T) j) (k+1)=CC i v (came,q) t:=by rw[PG (t:=t) (by rw[hL.out];exact ht),hrm]
       have Nd:(bP i t\/¬ came t<0)->CC i v (came,q) t=(came,q):=λe=>by
        unfold CC;rw[if_neg];rintro⟨e1,e2⟩;rcases e with e | e;.exact e1 e
        .exact e e2
       have Cd:¬ bP i t->came t<0->CC i v (came,q) t=(aN came t (v:Int),q++[t]):=λe1 e2=>by
        unfold CC;rw[if_pos ⟨e1,e2⟩]
       replace⟨JX,Nd,Cd,hrm⟩:=gF JX Nd Cd hrm;obtain⟨e1,e2,e3,e4,e5,e6⟩:=dm t i (by omega);obtain⟨a,ha⟩:=Ex (t/i);obtain⟨b,hb⟩:=Ex (t%i);have G3:bP i t↔a=b:=by unfold bP;rw[ha,hb]
       rw[ha] at e1 e3 e5;rw[hb] at e2 e4 e6;have sP:=dP.aR Dz.came;have iC:=λw'=>sP.at.idx t (by rw[aJ];exact Gj) w';have cC:=sP.at.aH t (by rw[aJ];exact Gj);rw[jR _ _ _ Gj] at cC;have fC:=sP.mQ t (by rw[aJ];exact Gj);have kC:=(sP.yB.jP t (by rw[List.length_map,aJ];exact Gj)).2;obtain⟨f8,nC,h8,Yg⟩:=Dz.set dP t Gj (v:Int);obtain⟨ct,Oi⟩:=Ex (came t);rw[Oi] at cC;have hC1:=hC.1 t (by rw[hM.out];exact Gj);rw[Oi] at hC1;have yW:=Hd sr;have DI:=b3.size;generalize af mv k=ta at *;generalize af (.slice ca cn cc) t=tc at *;replace⟨ha,hb,ht,XO,sP,dP,Dz,hIn⟩:=gp ha hb ht XO sP dP Dz hIn;replace⟨hC,nC,h8,kg,C9,Oi,hC1⟩:=zb hC nC h8 kg C9 Oi hC1;by_cases Ae:a=b
       .have hq:((a:Int) != (b:Int))=false:=by rw[bne_eq_false_iff_eq];omega
        have FD:((a:Int)==(b:Int))=true:=by rw[beq_iff_eq];omega
        have D1:=G3.2 Ae;replace G3:=Hd G3;go_upto_region 17 with fail;refine ar (λ_=>True) 14 [(0,true),(1,true),(2,true),(3,true),(4,true),(5,true),(6,true),(7,true),(8,true),(9,true),(10,true),(11,true),(12,true),(13,true)] (by kernel_rfl) (by kernel_rfl) ?_;have hS:True:=trivial;refine ay 61 hS ?_;refine ay 62 hS ?_;refine ay 63 hS ?_;refine ay 64 hS ?_;refine ay 65 hS ?_;refine ay 66 hS ?_;refine ay 67 hS ?_;refine ay 68 hS ?_;refine Ku 69 hS ?_;refine Ku 70 hS ?_;refine Ku 71 hS ?_;refine Ku 72 hS ?_;refine Ku 73 hS ?_;refine ay 74 hS ?_;refine dA ?_;simp only[List.drop_succ_cons,List.drop_zero];clear hS;go_wp2;refine NoPanic.normal ?_;go_upto_region 20 with fail;refine ar (λ_=>True) 10 [(0,true),(1,true),(2,true),(3,true),(4,true),(5,true),(6,true),(7,true),(8,true),(9,true)] (by kernel_rfl) (by kernel_rfl) ?_;have hS:True:=trivial;refine ay 84 hS ?_;refine ay 85 hS ?_;refine ay 86 hS ?_;refine ay 87 hS ?_;refine ay 88 hS ?_;refine ay 89 hS ?_;refine ay 90 hS ?_;refine ay 91 hS ?_;refine ay 92 hS ?_;refine ay 93 hS ?_;refine dA ?_;simp only[List.drop_succ_cons,List.drop_zero];clear hS;cases ap with
        | false =>
         have hvD:bP i v:=by
          apply Classical.byContradiction;intro e;have:=WQ.2 e;cases this
         have zW:=hIn.out.skip (.inl ⟨D1,hvD⟩);rw[<-kg.out] at zW;replace zW:=Hd zW;clear WQ;go_wp2;refine NoPanic.normal ?_;go_wp2;go_roundw;case measure=>have:=yW.out;simp[intOf];omega
         case rel=>exact⟨k+1,f3,_,came,q,D,by have:=yW.out;omega,by go_num,rfl,dP.out.drew.drew,b3.drew.drew,Dz.out,hjq,zW.out,hC.out,by rw[JX.out,Nd.out (.inl D1)]⟩
        | true =>
         have hvD:¬ bP i v:=WQ.1 rfl;obtain⟨c,vD,Qq,Lj,JU⟩:=hIn.out.met hC.out hvD D1 (by rw[hM.out];exact Gj) C9.out;have Wp:KN i (bu K i T) (c.reverse++[t]):=⟨j,v,k,t,c,Ti.out,by rw[hL.out];exact ht.out,D1,hvD,by rw[hrm.out];exact vD,rfl,hnh.out,λz x hz hx hd=>(hIn.out.now x (by rw[hL.out] at hx;exact List.mem_of_getElem? (by rw[List.getElem?_take,if_pos hz];exact hx))).2 hd⟩;have hDv:D v<=q.length:=hIn.out.Wa v (List.mem_of_getElem? hIn.out.at_);have ur:c.length<=7000:=by
          have:(c.reverse++[t]).length=c.length+1:=by simp
          omega
         have VV:=vD.next (by rw[hM.out];exact Ni);have hrc:aw (c.reverse++[t])=(aw (t::c)).reverse:=by rw[<-pZ,List.reverse_cons]
         obtain⟨c',hc'⟩:=vD.ne;have hc0:c[0]?=some v:=by rw[hc'];rfl
         have hc1:0<c.length:=by rw[hc'];simp
         obtain⟨W,hW⟩:=Ey N9.drew.drew;have bWp:Below N9.heap.size N9 W:=by rw[hW];exact(Below.refl _ _).drew.drew
         have Rv:Rows w.heap.size W f3:=by rw[hW];exact dP.out
         have bW:=b3.trans (bWp.mono b3.size);have bl:=ab W (.cells #[.int .i64 t] 3);have gG:=aj.lit W.heap.size W (Nat.le_refl _) [(t:Int)] (by simp[maxLen]) #[.int .i64 (t:Int)] rfl 1 rfl;replace⟨VV,vD,hrc,Qq,Wp,Lj,JU,hc'⟩:=gp VV vD hrc Qq Wp Lj JU hc';replace⟨hc0,gG,Rv⟩:=dO hc0 gG Rv;clear WQ iT cT iC cC fC;go_wp2;refine NoPanic.normal ?_;go_upto_region 21 with fail;rw[<-hW];replace hW:=Hd hW;go_wp2_with fail;go_loopw [12,13] (λwv uv wr=>∃(m:Nat) (ww:Value),m<=c.length/\ww=wv/\((m<c.length/\∃y,c[m]?=some y/\uv=.int .i64 (y:Nat))\/(m=c.length/\uv=.int .i64 (-1)))/\aj W.heap.size wr ww (aw (t::c.take m))/\Below W.heap.size W wr) (λwv _ _=>c.length+1-FP wv);case atStart=>exact⟨0,_,by omega,rfl,.inl ⟨hc1,v,hc0.out,rfl⟩,gG.out,bl⟩
         case round =>
          obtain⟨m,ww,hm,rfl,hcase,hoW,bWr⟩:=hrel;obtain⟨wz,rfl⟩:=Ey wr;have Ny:(aw (t::c.take m)).length=m+1:=by rw[aA,List.length_cons,List.length_take];omega
          have zg:FP ww=m+1:=by rw[Er hoW.at,Ny]
          rcases hcase with ⟨hmc,y,hy,rfl⟩ | ⟨hmc,rfl⟩
          .obtain⟨hyM,jD⟩:=VV.out m y hy;rw[hM.out] at hyM;have I8:aw (t::c.take m)++[(y:Int)]=aw (t::c.take (m+1)):=by
            rw[<-jS,List.take_add_one,hy];rfl
           have V8:=bWr.size;replace⟨jD,hy,zg,I8⟩:=gF jD hy zg I8;go_wp2_with (at_builtin;go_loud (refine gi rfl _ _ rfl W.heap.size ww _ y hoW rfl rfl (by omega) V8 ?_));intro v' w7 eF b7 _ _;have bW7:=bWr.trans b7;have YL:=(Rv.out.below bW7).aR Dz.out.came;have iY:=λw'=>YL.at.idx y (by rw[aJ];exact hyM) w';have cY:=YL.at.aH y (by rw[aJ];exact hyM);rw[jR _ _ _ hyM] at cY;rw[I8.out] at eF;have hl7:(aw (t::c.take (m+1))).length=m+2:=by rw[aA,List.length_cons,List.length_take];omega
           have hs7:FP v'=m+2:=by rw[Er eF.at,hl7]
           obtain⟨va,vn,vc,rfl⟩:=eF.at.shape;generalize af (.slice ca cn cc) y=ya at *;obtain⟨z,hz⟩:=Ex (came y);rw[hz] at cY;have Mo:(m+1<c.length/\∃x,c[m+1]?=some x/\z=(x:Nat))\/(m+1=c.length/\z=-1):=by rw[<-hz];exact jD.out
           replace⟨eF,YL,hz,hs7,Mo⟩:=mV eF YL hz hs7 Mo;clear hoW;go_wp2;go_roundw;case measure=>have:=hs7.out;have:=zg.out;omega
           case rel =>
            refine⟨m+1,_,by omega,rfl,?_,eF.out,bW7⟩;rcases Mo.out with ⟨h1,x,h2,h3⟩ | ⟨h1,h2⟩;.exact .inl ⟨h1,x,h2,by rw[h3]⟩
            .exact .inr ⟨h1,by rw[h2]⟩
          .subst hmc;rw[List.take_length] at hoW;replace⟨hoW,zg⟩:=bD hoW zg;go_wp2_with fail;refine(tr W.heap.size ww _ wz hoW.out (by rw[aA,List.length_cons];omega)).mono ?_;rintro e w8 ⟨rfl,CS,b8⟩;rw[<-hrc.out] at CS;have bE:=bW.trans ((bWr.trans b8).mono bW.size);have vQ:=CS.mono (B':=w.heap.size) bW.size;have D4:(c.reverse++[t]).length<=20000:=by simp;omega
           obtain⟨va,vn,vc,rfl⟩:=CS.at.shape;replace⟨CS,vQ⟩:=bD CS vQ;go_wp2;go_ret;exact⟨_,rfl,bE,.inl ⟨_,Wp.out,Qq.out,JU.out,D4,vQ.out⟩⟩
       .have hq:((a:Int) != (b:Int))=true:=by rw[bne_iff_ne];omega
        have FD:((a:Int)==(b:Int))=false:=by rw[beq_eq_false_iff_ne];omega
        have D1:¬ bP i t:=λe=>Ae (G3.1 e);replace G3:=Hd G3;by_cases IC:ct<0
        .obtain rfl:=hC1.out.2 IC;have KE:t∉q:=(hC1.out.1.1 (by decide)).resolve_left D1;have ks:=hIn.out.add (by rw[hM.out];exact Gj) D1 KE;have su:=hC.out.add hIn.out D1 KE C9.out;rw[<-kg.out] at ks;replace⟨ks,su,KE⟩:=dO ks su KE;go_upto_region 17 with fail;refine ar (λw'=>w'.cell? tc=some (.int .i64 (-1))) 14 [(0,true),(1,true),(2,true),(3,true),(4,true),(5,true),(6,true),(7,true),(8,true),(9,true),(10,true),(11,true),(12,true),(13,true)] (by kernel_rfl) (by kernel_rfl) ?_;have hS:N9.drew.cell? tc=some (.int .i64 (-1)):=cC;refine ay 61 hS ?_;refine ay 62 hS ?_;refine ay 63 hS ?_;refine ay 64 hS ?_;refine ay 65 hS ?_;refine ay 66 hS ?_;refine ay 67 hS ?_;refine ay 68 hS ?_;refine ay 69 hS ?_;refine ay 70 hS ?_;refine ay 71 hS ?_;refine ay 72 hS ?_;refine ay 73 hS ?_;refine ay 74 hS ?_;refine dA ?_;simp only[List.drop_succ_cons,List.drop_zero];clear hS;have DJ:Rows w.heap.size ((N9.setCell tc (.int .i64 (v:Int))).drew) f8:=nC.out;have b8:Below w.heap.size w ((N9.setCell tc (.int .i64 (v:Int))).drew):=(b3.setCell kC _).drew;obtain⟨W8,uB⟩:=Ey ((N9.setCell tc (.int .i64 (v:Int))).drew);rw[<-uB] at DJ b8;have SA:=DJ.aR h8.out.queue;have Nv:=b8.size;have hlq:(aw q).length<=7000:=by rw[aA];omega
         replace DJ:=Hd DJ;go_wp2;refine NoPanic.normal ?_;go_upto_region 19 with fail;rw[<-uB];replace uB:=Hd uB;go_wp2_with (at_builtin;go_loud (refine dD rfl _ _ rfl w.heap.size qv _ t SA rfl rfl (by omega) Nv ?_));intro mi w9 vQ b9 Vi;obtain⟨f9,xN,h9,_⟩:=h8.out.push DJ.out t vQ Vi;obtain⟨q1,q2,q3,rfl⟩:=vQ.at.shape;replace⟨xN,vQ⟩:=bD xN vQ;clear Vi SA;go_wp2;go_roundw;case measure=>have:=yW.out;simp[intOf];omega
         case rel=>exact⟨k+1,f9,_,_,_,_,by have:=yW.out;omega,by go_num,rfl,xN.out,b8.trans b9,h9,by simp;omega,ks.out,su.out,by rw[JX.out,Cd.out D1 (by rw[Oi.out];decide)]⟩
        .obtain⟨pc,rfl⟩:=Int.eq_ofNat_of_zero_le (show 0<=ct by omega);have KE:t∈q:=by
          apply Classical.byContradiction;intro e;exact IC (hC1.out.1.2 (.inr e))
         have zW:=hIn.out.skip (.inr ⟨D1,KE⟩);rw[<-kg.out] at zW;replace⟨zW,KE⟩:=bD zW KE;go_upto_region 17 with fail;refine ar (λw'=>w'.cell? tc=some (.int .i64 (pc:Nat))) 14 [(0,true),(1,true),(2,true),(3,true),(4,true),(5,true),(6,true),(7,true),(8,true),(9,true),(10,true),(11,true),(12,true),(13,true)] (by kernel_rfl) (by kernel_rfl) ?_;have hS:N9.drew.cell? tc=some (.int .i64 (pc:Nat)):=cC;refine ay 61 hS ?_;refine ay 62 hS ?_;refine ay 63 hS ?_;refine ay 64 hS ?_;refine ay 65 hS ?_;refine ay 66 hS ?_;refine ay 67 hS ?_;refine ay 68 hS ?_;refine ay 69 hS ?_;refine ay 70 hS ?_;refine ay 71 hS ?_;refine ay 72 hS ?_;refine ay 73 hS ?_;refine ay 74 hS ?_;refine dA ?_;simp only[List.drop_succ_cons,List.drop_zero];clear hS;go_wp2;refine NoPanic.normal ?_;go_upto_region 20 with fail;refine ar (λ_=>True) 10 [(0,true),(1,true),(2,true),(3,true),(4,true),(5,true),(6,true),(7,true),(8,true),(9,true)] (by kernel_rfl) (by kernel_rfl) ?_;have hS:True:=trivial;refine ay 84 hS ?_;refine ay 85 hS ?_;refine ay 86 hS ?_;refine ay 87 hS ?_;refine ay 88 hS ?_;refine ay 89 hS ?_;refine ay 90 hS ?_;refine ay 91 hS ?_;refine Ku 92 hS ?_;refine ay 93 hS ?_;refine dA ?_;simp only[List.drop_succ_cons,List.drop_zero];clear hS;go_wp2;refine NoPanic.normal ?_;go_wp2;go_roundw;case measure=>have:=yW.out;simp[intOf];omega
         case rel=>exact⟨k+1,f3,_,came,q,D,by have:=yW.out;omega,by go_num,rfl,dP.out.drew.drew,b3.drew.drew,Dz.out,hjq,zW.out,hC.out,by rw[JX.out,Nd.out (.inr (by rw[Oi.out];omega))]⟩
      .obtain rfl:k=L.length:=by omega
       rw[List.take_length] at hIn;have Lx:=hIn.leave hL.out.symm;have rQ:stM i (bu K i T) (j+1)=(came,q):=by rw[S8 Ti.out,hL.out,hrm]
       have hnh2:∀z,z<j+1->TG i (bu K i T) z:=λz hz=>by
        by_cases e:z=j;.subst e;intro v' hv' t ht D1;rw[Ti.out] at hv';obtain rfl:=Option.some.inj hv';rw[hL.out] at ht;exact(hIn.now t ht).2 D1
        .exact hnh.out z (by omega)
       replace⟨rQ,hnh2,Lx,hIn,dP,Dz,hC⟩:=zb rQ hnh2 Lx hIn dP Dz hC;go_wp2;go_roundw;case measure=>simp[intOf];omega
       case rel=>exact⟨j+1,f3,_,came,q,D,by omega,by go_num,rfl,dP.out,b3,Dz.out,Lx.out,hC.out,rQ.out,hnh2.out⟩
    .obtain rfl:j=q.length:=by omega
     have ig:=hO.none (Nat.le_refl _);replace⟨ig,dI,wU,hO,hC,j7⟩:=rr ig dI wU hO hC j7;go_wp2;go_ret;exact⟨_,rfl,b2,.inr ⟨rfl,ig.out⟩⟩
def FU(w:World)(K R:Nat)(T:List Int)(yes a b e:Value)(w':World):Prop :=
 e=.nilIface/\((yes=.bool true/\a=.slice none 0 0/\b=.slice none 0 0/\∀x y,¬ dH K R T x y) \/
 (yes=.bool false/\∃x y,FinIs K R T x y/\dH K R T x y/\xd K R T x.length/\x.length<=20010/\aj w.heap.size w' a x/\aj w.heap.size w' b y/\(a.ownBlock=none\/a.ownBlock≠b.ownBlock)))
theorem Jv(r:Nat->Addr)(K:Nat)(va:Option Addr)(vn vc:Nat)(T:List Int)(w:World)(hg:ck r w)(h:ae w (.slice va vn vc) T)(hr:aG K 0 T)(hl:T.length<=256):
 Calls Tryz.prog 19 #[.agg #[.int .i64 K,.int .i64 ((0:Nat):Int),.slice va vn vc]] w (Tg (FU w K 0 T) w):=by
 have b0:=ab w (.cells #[.int .i64 K,.int .i64 ((0:Nat):Int),.slice va vn vc] 24);have q:az (w.alloc (.cells #[.int .i64 K,.int .i64 ((0:Nat):Int),.slice va vn vc] 24)) w.heap.size (.int .i64 K) (.int .i64 ((0:Nat):Int)) (.slice va vn vc):=by simp[az,go_sem]
 have Xc:T.length=K:=by rw[hr.len];simp[pw]
 have fj:=λ(w':World) (jI:ck r w') (hT:ae w' (.slice va vn vc) T)=>uJ r K 0 va vn vc T w' jI hT hr hl;replace⟨fj,Xc⟩:=bD fj Xc;replace hg:=Hd (hg.below b0);replace h:=Hd (h.below b0);replace hr:=Hd hr;go_enter Tryz.func19,Tryz.ntmps19;go_wp2_with fail;refine(fj.out _ hg.out h.out).mono ?_;rintro e w1 ⟨gv,y,rfl,b1,rfl,-⟩;obtain⟨⟨z0,z1,z2⟩,-,-,-⟩:=q.below b1;have si:=Below.step b0 b1;have hs:=si.size;go_wp2_with fail;refine(L7 K ((0:Nat):Int) va vn vc T w1 (h.out.below b1)).mono ?_;rintro e w2 ⟨x,y,rfl,b2,hp⟩;have Da:=Below.step si b2;rcases hp with ⟨a,b,hsi,NC,uw,hd⟩ | ⟨rfl,rfl,ig⟩;.have lx:=NC.at.len;obtain⟨x1,x2,x3,rfl⟩:=NC.at.shape;obtain⟨y1,y2,y3,rfl⟩:=uw.at.shape;have Ln:=hsi.twins Xc.out;have ko:xd K 0 T [(a:Int)].length:=⟨⟨_,_,Ln,rfl⟩,λc d hcd=>Ec hcd⟩;replace⟨hsi,NC,uw,hd,Ln,ko⟩:=rr hsi NC uw hd Ln ko;clear z0 z1 z2;go_wp2;(try simp only[Exit.inBlock,Exit.then]);refine bodyPost_ret (nR rfl _ _ _) rfl ?_;exact⟨_,_,_,_,rfl,Da,rfl,.inr ⟨rfl,_,_,.inl ⟨rfl,a,b,hsi.out,rfl,rfl⟩,Ln.out,ko.out,by simp,NC.out.mono hs,uw.out.mono hs,hd.out⟩⟩
 .have hn:=ER (K:=K) Xc.out ig;replace hn:=Hd hn;clear ig z0 z1 z2;go_wp2;(try simp only[Exit.inBlock,Exit.then]);refine bodyPost_ret (nR rfl _ _ _) rfl ?_;exact⟨_,_,_,_,rfl,Da,rfl,.inl ⟨rfl,rfl,rfl,hn.out⟩⟩
theorem KL(r:Nat->Addr)(K R:Nat)(va:Option Addr)(vn vc:Nat)(T:List Int)(w:World)(hg:ck r w)(h:ae w (.slice va vn vc) T)(hr:aG K R T)(hl:T.length<=256)(hR:1<=R):
 Calls Tryz.prog 19 #[.agg #[.int .i64 K,.int .i64 R,.slice va vn vc]] w (Tg (FU w K R T) w):=by
 have b0:=ab w (.cells #[.int .i64 K,.int .i64 R,.slice va vn vc] 24);have q:az (w.alloc (.cells #[.int .i64 K,.int .i64 R,.slice va vn vc] 24)) w.heap.size (.int .i64 K) (.int .i64 R) (.slice va vn vc):=by simp[az,go_sem]
 have dS:=hr.k1;have fs:=hr.k4;have kK:=hr.r3;have jo:=nB hr hR hl;have pC:=eN (K:=K) (2*R) dS;have hwR:fW R=R:=if_neg (by omega);have hwT:lJ K R T=T:=if_neg (by omega);have fj:=λ(w':World) (jI:ck r w') (hT:ae w' (.slice va vn vc) T)=>uJ r K R va vn vc T w' jI hT hr hl;have G4:=λ(u:Value) (ns:List Nat) (w':World) (jI:ck r w') (hT:ae w' (.slice va vn vc) T)=>Mp r K R va vn vc T u ns w' jI hT hr hl;rw[hwR,hwT] at fj G4;have Vh:=λ(ga:Option Addr) (gc:Nat) (w':World)=>St K (pw K (2*R)) T ga gc w' fs pC jo;have Rt:((R:Int)==0)=false:=by rw[beq_eq_false_iff_ne];omega
 have sR:¬ (R:Int)=0:=by omega
 have gX:¬ R=0:=by omega
 have hR22:=Hd gX;have Kt:=Hd hR;replace⟨fj,G4,Vh⟩:=dO fj G4 Vh;replace hg:=Hd (hg.below b0);replace h:=Hd (h.below b0);replace hr:=Hd hr;clear hwR hwT;go_enter Tryz.func19,Tryz.ntmps19;go_wp2_with fail;refine(fj.out _ hg.out h.out).mono ?_;rintro e w1 ⟨gv,y,rfl,b1,rfl,f,br,nk,CO⟩;have hL:bh w1 gv (dd K (pw K (2*R)) T):=CO.lists nk;obtain⟨ga,gc,rfl⟩:=hL.shape;obtain⟨⟨z0,z1,z2⟩,-,-,-⟩:=q.below b1;have si:=Below.step b0 b1;replace hL:=Hd hL;clear nk CO;go_wp2_with fail;refine(Vh.out ga gc w1 hL.out).mono ?_;rintro e w2 ⟨mv,rfl,b2,hp⟩;have mw:=Below.step b1 b2;have Da:=Below.step si b2;clear z0 z1 z2;obtain⟨⟨z0,z1,z2⟩,-,-,-⟩:=q.below mw;rcases hp with ⟨ws,Wp,Zh,T7,Ty,how⟩ | ⟨rfl,ig⟩
 .have hw3:=Zh.len;have jA:∀p∈ws,p<pw K (2*R)*pw K (2*R):=λp hp=>by
   obtain⟨i,hi,rfl⟩:=List.mem_iff_getElem.1 hp;have:=Zh.low i hi;simpa [List.getD,hi] using this
  have bM:ws≠[]:=by intro e;rw[e] at hw3;simp at hw3
  have wE:wQ K (pw K (2*R)) T ws:=λi hi=>(Ki dS hR (Zh.low _ hi)).2 ((dU (by omega)).1 (Zh.arr i hi));have Ln:=Zh.twins dS hR;have ko:=zx dS hR Zh T7;have lm:=how.at.len;rw[aA] at lm;have hln:(((ws.length:Nat):Int)==0)=false:=by rw[beq_eq_false_iff_ne];omega
  have hln2:¬ ((ws.length:Nat):Int)=0:=by omega
  have hln3:¬ ws.length=0:=by omega
  obtain⟨m1,m2,m3,rfl⟩:=how.at.shape;replace⟨Wp,Zh,jA,bM,wE,Ln,ko,how⟩:=gp Wp Zh jA bM wE Ln ko how;have hws2:=Hd Ty;clear T7;go_wp2_with fail;refine(G4.out _ ws w2 (hg.out.below mw) (h.out.below mw) how.out.at bM.out jA.out (by have:=hws2.out;omega)).mono ?_;rintro e w3 ⟨x,y,z,rfl,b3,V7⟩;rcases V7 with ⟨_,rfl,hox,hoy,hd⟩ | ⟨hnf,_⟩
  .obtain⟨x1,x2,x3,rfl⟩:=hox.at.shape;obtain⟨y1,y2,y3,rfl⟩:=hoy.at.shape;have hs:=Da.size;replace⟨hox,hoy,hd⟩:=dO hox hoy hd;clear z0 z1 z2;go_wp2;(try simp only[Exit.inBlock,Exit.then]);refine bodyPost_ret (nR rfl _ _ _) rfl ?_;refine⟨_,_,_,_,rfl,Below.step Da b3,rfl,.inr ⟨rfl,_,_,.inr ⟨hR22.out,ws,Wp.out,rfl,rfl⟩,Ln.out,?_,?_,hox.out.mono hs,hoy.out.mono hs,hd.out⟩⟩;.rw[ew];exact ko.out
   .rw[ew];have:=hws2.out;omega
  .exact absurd wE.out hnf
 .have hn:=IK (K:=K) (R:=R) (T:=T) dS hR ig;replace hn:=Hd hn;clear ig z0 z1 z2;go_wp2;(try simp only[Exit.inBlock,Exit.then]);refine bodyPost_ret (nR rfl _ _ _) rfl ?_;exact⟨_,_,_,_,rfl,Da,rfl,.inl ⟨rfl,rfl,rfl,hn.out⟩⟩
theorem Pf(r:Nat->Addr)(K R:Nat)(va:Option Addr)(vn vc:Nat)(T:List Int)(w:World)(hg:ck r w)(h:ae w (.slice va vn vc) T)(hr:aG K R T)(hl:T.length<=256):
 Calls Tryz.prog 19 #[.agg #[.int .i64 K,.int .i64 R,.slice va vn vc]] w (Tg (FU w K R T) w):=by
 by_cases e:R=0;.subst e;exact Jv r K va vn vc T w hg h hr hl
 .exact KL r K R va vn vc T w hg h hr hl (by omega)
structure Gs (w:World) (G:Nat) (K R:Nat) (Tv:Value) (d:Nat) (tv:Value):Prop where
 c0:w.cell? ⟨G,0,none⟩=some (.int .i64 K)
 c1:w.cell? ⟨G,1,none⟩=some (.int .i64 R)
 c2:w.cell? ⟨G,2,none⟩=some Tv
 c3:w.cell? ⟨G,3,none⟩=some (.int .i64 d)
 c4:w.cell? ⟨G,4,none⟩=some tv
theorem Gs.kept{w w':World}{G tb K R d:Nat}{Tv tv:Value}(h:Gs w G K R Tv d tv)(hg:w.grownBy w' (some tb))(bM:G≠tb):Gs w' G K R Tv d tv:=by
 have k:∀{i x},w.cell? ⟨G,i,none⟩=some x->w'.cell? ⟨G,i,none⟩=some x:=fun {i x} hc=>by
  rw[World.cell?_of_block (a:=⟨G,i,none⟩) (hg.block G (World.block_lt_of_cell? _ _ hc) (by simpa using bM))];exact hc
 exact⟨k h.c0,k h.c1,k h.c2,k h.c3,k h.c4⟩
theorem ae.grown{w w':World}{v:Value}{xs:List Int}{tb:Nat}(h:ae w v xs)(hg:w.grownBy w' (some tb))(uZ:∀i,i<xs.length->(af v i).block≠tb):ae w' v xs :=
 h.TE λi hi=>World.cell?_of_block (hg.block _ (h.vq i hi) (by simpa using uZ i hi))
theorem vu{w:World}{v:Value}{i g n c:Nat}(hv:v=.slice (some ⟨g,0,none⟩) n c)(x:Value):w.grownBy (w.setCell (af v i) x) (some g):=by
 subst hv;rw[cj];exact⟨rfl,rfl,rfl,by simp[World.setCell],λk _ hk=>Below.heap_setCell _ _ _ _ (by simp at hk;omega)⟩
theorem fm(w:World)(n:Nat)(row:Option Nat):w.grownBy (w.drewN n) row:=⟨rfl,rfl,rfl,Nat.le_refl _,λ_ _ _=>rfl⟩
theorem Td(K R d G tb tn tc B:Nat)(va:Option Addr)(vn vc:Nat)(T:List Int)(hr:aG K R T)(hl:T.length<=256)(hd:d<=3)(bM:G≠tb)(uZ:∀i,i<T.length->(af (.slice va vn vc) i).block≠tb):
 ∀(f n front image middle:Nat) (w:World) (dQ:List Int),n+f=2*(R+d)+1->mC K R T n front image->middle<K->Gs w G K R (.slice va vn vc) d (.slice (some ⟨tb,0,none⟩) tn tc)->ae w (.slice va vn vc) T->aj B w (.slice (some ⟨tb,0,none⟩) tn tc) dQ->dQ.length=pw K (2*d+1) ->
 Calls Tryz.prog 101 #[.pointer (some ⟨G,0,none⟩),.int .i64 front,.int .i64 image,.int .i64 middle,.int .i64 n] w λe w'=>
  e=.returned (.bool (gT K R (2*(R+d)+1) T f front image middle dQ).1)/\aj B w' (.slice (some ⟨tb,0,none⟩) tn tc) (gT K R (2*(R+d)+1) T f front image middle dQ).2/\w.grownBy w' (some tb):=by
 have dS:=hr.k1;have fs:=hr.k4;have dP:=hr.r3;intro f;induction f with
 | zero =>
  intro n front image middle w dQ hn hf hm kq hT ho ko;have him:image<dQ.length:=by
   have:=hf.2;rw[ko,show 2*d+1=n-2*R by omega];exact this
  have lT:=ho.at.len;have iT:=λw'=>ho.at.idx image him w';have cT:=ho.at.aH image him;have fT:=ho.mQ image him;obtain⟨y,hy⟩:=Ex (dQ.getD image 0);rw[hy] at cT;have gI:=ho.set image him (middle:Int);have qJ:=vu (w:=w) (v:=.slice (some ⟨tb,0,none⟩) tn tc) (i:=image) rfl (.int .i64 (middle:Int));have hF:gT K R (2*(R+d)+1) T 0 front image middle dQ=if 0<=y/\y≠(middle:Int) then (false,dQ) else (true,dQ.set image middle):=by unfold gT;rw[hy]
  obtain⟨p,hp⟩:=Ex (af (.slice (some ⟨tb,0,none⟩) tn tc) image);rw[hp] at iT cT fT gI qJ;obtain⟨z0,z1,z2,z3,z4⟩:=id kq;have IU:(2:Int)*((R:Int)+(d:Int))+1=(n:Int):=by omega
  have hnn:((n:Int)==(n:Int))=true:=by simp
  replace⟨hr,uZ,hf,hT,ho,gI,qJ,hy⟩:=gp hr uZ hf hT ho gI qJ hy;replace⟨hp,hF,kq,ko⟩:=gF hp hF kq ko;by_cases Xg:0<=y
  .have d0:decide ((0:Int)<=y)=true:=decide_eq_true Xg;by_cases hym:y=(middle:Int)
   .have d1:(y != (middle:Int))=false:=by rw[hym];simp
    rw[hF.out,if_neg (λh=>h.2 hym)];go_enter Tryz.func101,Tryz.ntmps101;go_upto_region 1 with fail;go_quiet (fail);go_wp2;go_ret;exact⟨rfl,gI.out,qJ.out.trans (fm _ nq _)⟩
   .have d1:(y != (middle:Int))=true:=by rw[bne_iff_ne];exact hym
    rw[hF.out,if_pos ⟨Xg,hym⟩];go_enter Tryz.func101,Tryz.ntmps101;go_upto_region 1 with fail;go_quiet (fail);go_wp2;go_ret;exact⟨rfl,ho.out,fm w nq _⟩
  .have d0:decide ((0:Int)<=y)=false:=decide_eq_false Xg;rw[hF.out,if_neg (λh=>Xg h.1)];go_enter Tryz.func101,Tryz.ntmps101;go_upto_region 1 with fail;go_quiet (fail);go_wp2;go_ret;exact⟨rfl,gI.out,qJ.out.trans (fm _ nq _)⟩
 | succ f ih =>
  intro n front image middle w dQ hn hf hm kq hT ho ko;have lT:=hT.len;obtain⟨wd,Ks⟩:=Ex (2*(R+d)+1);have EW:(2:Int)*((R:Int)+(d:Int))+1=(wd:Int):=by omega
  have hnw:((n:Int)==(wd:Int))=false:=by rw[beq_eq_false_iff_ne];omega
  have hh1:(wd:Int).tdiv 2=((R+d:Nat):Int):=by rw[Int.tdiv_eq_ediv_of_nonneg (by omega)];omega
  have hh2:(wd:Int)/2=((R+d:Nat):Int):=by omega
  have hnb:n<=12:=by omega
  have Ud:2*(R+d)+1-(f+1)=n:=by omega
  have CI:(2*(R+d)+1)/2=R+d:=by omega
  obtain⟨g,hg⟩:∃g:Nat->List Int->Bool×List Int,g=λs t=>gT K R (2*(R+d)+1) T f ((front*K+s)%(T.length/K)) (if 2*R<=n then image*K+(T.getD (front*K+s) 0).toNat else image) (if n=R+d then s else middle) t:=⟨_,rfl⟩;have hF:gT K R (2*(R+d)+1) T (f+1) front image middle dQ=gV g (List.range K) dQ:=by
   rw[hg];conv=>lhs;unfold gT
   rw[Ud,CI]
  rw[hF];have him:image<16384:=Nat.lt_of_lt_of_le hf.2 (nr dS fs (by omega));have Az:T.length/K<=256:=Nat.le_trans (Nat.div_le_self _ _) hl;have PZ:=hf.1;have hfr:front<256:=by omega
  obtain⟨z0,z1,z2,z3,z4⟩:=id kq;obtain⟨tl,QN⟩:=Ex T.length;rw[QN] at lT hl;obtain⟨Lq,hLq⟩:=Ex (tl/K);rw[QN,hLq] at Az PZ;have hLz:¬ Lq=0:=by omega
  have hLz2:((Lq:Int)==0)=false:=by rw[beq_eq_false_iff_ne];omega
  have hKz:¬ K=0:=by omega
  have hKz2:((K:Int)==0)=false:=by rw[beq_eq_false_iff_ne];omega
  have e1:(tl:Int).tdiv (K:Int)=(Lq:Int):=by rw[Int.tdiv_eq_ediv_of_nonneg (by omega),<-Int.natCast_ediv,hLq]
  have e2:(tl:Int)/(K:Int)=(Lq:Int):=by rw[<-Int.natCast_ediv,hLq]
  replace⟨hr,uZ,hf,hT,ho,hF,hg,kq⟩:=gp hr uZ hf hT ho hF hg kq;replace⟨ko,Ks,QN,hLq,ih,CI,Ud⟩:=zb ko Ks QN hLq ih CI Ud;go_enter Tryz.func101,Tryz.ntmps101;go_upto_region 1 with fail;go_quiet (fail);go_wp2_with fail;go_loopw [62] (λiv wr=>∃(s:Nat) (t:List Int),s<=K/\iv=.int .i64 s/\gV g (List.range s) dQ=(true,t)/\aj B wr (.slice (some ⟨tb,0,none⟩) tn tc) t/\w.grownBy wr (some tb)) (λiv _=>K-(intOf iv).toNat);case atStart=>exact⟨0,dQ,Nat.zero_le _,rfl,rfl,ho.out,fm w nq _⟩
  case round =>
   clear z0 z1 z2 z3 z4;obtain⟨s,t,hs,rfl,pY,hO,hG⟩:=hrel;obtain⟨wo,rfl⟩:=Ey wr;by_cases XP:s<K
   .have ds:decide ((s:Int)<(K:Int))=true:=decide_eq_true (by omega);obtain⟨z0,z1,z2,z3,z4⟩:=kq.out.kept hG bM;have hTo:=hT.out.grown hG uZ.out;have Dm:=hf.out.Sh hr.out XP;have df:=hf.out.step hr.out XP;have AL:g s t=gT K R (2*(R+d)+1) T f ((front*K+s)%(T.length/K)) (if 2*R<=n then image*K+(T.getD (front*K+s) 0).toNat else image) (if n=R+d then s else middle) t:=by rw[hg.out]
    have D9:t.length=pw K (2*d+1):=by
     have:=E6 (g:=g) (λs t=>by rw[hg.out];exact OG _ _ _ _ _ _ _ _ _) (List.range s) dQ;rw[pY] at this;rw[<-ko.out];exact this
    have Hp:=mH hr.out.syms Dm;have iT:=λw'=>hTo.idx (front*K+s) Dm w';have cT:=hTo.aH (front*K+s) Dm;obtain⟨x,hx⟩:=Ex (T.getD (front*K+s) 0);rw[hx] at Hp cT df AL;obtain⟨xn,rfl⟩:∃m:Nat,x=(m:Int):=⟨x.toNat,by omega⟩;rw[Int.toNat_natCast] at df AL;rw[QN.out,hLq.out] at df AL;rw[QN.out] at Dm;obtain⟨fk,P5⟩:=Ex (front*K);have hfk1:(front:Int)*(K:Int)=(fk:Int):=by rw[<-P5];simp
    rw[P5] at iT cT Dm df AL hx;obtain⟨YJ,CO⟩:=Ex (fk+s);have hwn1:(fk:Int)+(s:Int)=(YJ:Int):=by omega
    rw[CO] at iT cT Dm df AL hx;obtain⟨wm,LX⟩:=Ex (YJ%Lq);have hwml:wm<Lq:=by rw[<-LX];exact Nat.mod_lt _ (by omega)
    have e3:(YJ:Int).tmod (Lq:Int)=(wm:Int):=by rw[Int.tmod_eq_emod_of_nonneg (by omega),<-Int.natCast_emod,LX]
    have e4:(YJ:Int)%(Lq:Int)=(wm:Int):=by rw[<-Int.natCast_emod,LX]
    rw[LX] at df AL;have hik:image*K<=16384*4:=Nat.mul_le_mul (by omega) fs;obtain⟨ik,Y1⟩:=Ex (image*K);have hik1:(image:Int)*(K:Int)=(ik:Int):=by rw[<-Y1];simp
    rw[Y1] at df AL hik;obtain⟨px,hpx⟩:=Ex (af (.slice va vn vc) YJ);rw[hpx] at iT cT;have hfkb:fk<=1024:=by rw[<-P5];exact Nat.le_trans (Nat.mul_le_mul (show front<=256 by omega) fs) (by decide)
    have hwinb:YJ<=1028:=by omega
    have wL:=db (x:=(Lq:Int)) (by omega) (by omega);have wn1:=db (x:=(n:Int)+1) (by omega) (by omega);replace⟨P5,CO,LX,Y1,hpx,hx,pY,hO⟩:=gp P5 CO LX Y1 hpx hx pY hO;replace⟨hTo,D9⟩:=bD hTo D9;by_cases Dw:2*R<=n<;>by_cases jw:n=R+d
    .have vT:g s t=gT K R (2*(R+d)+1) T f wm (ik+xn) s t:=by rw[AL,if_pos Dw,if_pos jw]
     have rQ:mC K R T (n+1) wm (ik+xn):=by rw[if_pos Dw] at df;exact df
     have dg:decide ((2:Int)*(R:Int)<=(n:Int))=true:=decide_eq_true (by omega);have dm:((n:Int)==((R+d:Nat):Int))=true:=by rw[beq_iff_eq];omega
     have e5:((n+1:Nat):Int)=(n:Int)+1:=rfl;have e6:(((ik+xn):Nat):Int)=(ik:Int)+(xn:Int):=Int.natCast_add _ _;have LG:∀(W:World) (t:List Int),Gs W G K R (.slice va vn vc) d (.slice (some ⟨tb,0,none⟩) tn tc)->ae W (.slice va vn vc) T->aj B W (.slice (some ⟨tb,0,none⟩) tn tc) t->t.length=pw K (2*d+1) ->
      Calls Tryz.prog 101 #[.pointer (some ⟨G,0,none⟩),.int .i64 (wm:Int),.int .i64 ((ik:Int)+(xn:Int)),.int .i64 (s:Int),.int .i64 ((n:Int)+1)] W λe w'=>
       e=.returned (.bool (gT K R (2*(R+d)+1) T f wm (ik+xn) s t).1)/\aj B w' (.slice (some ⟨tb,0,none⟩) tn tc) (gT K R (2*(R+d)+1) T f wm (ik+xn) s t).2/\W.grownBy w' (some tb):=λW t a1 a2 a3 a4=>by
      have:=ih.out (n+1) wm (ik+xn) s W t (by omega) rQ (by omega) a1 a2 a3 a4;rw[e5,e6] at this;exact this
     clear e5 e6;replace⟨jw,AL,vT,rQ,df,LG⟩:=rr jw AL vT rQ df LG;go_upto_region 13 with fail;go_quiet (fail);go_upto_region 17 with fail;refine ar (λw'=>w'.cell? ⟨G,0,none⟩=some (.int .i64 K)/\w'.cell? ⟨G,2,none⟩=some (.slice va vn vc)) 20 [(0,true),(1,true),(2,true),(3,true),(4,true),(5,true),(6,true),(7,true),(8,true),(9,true),(10,true),(11,true),(12,true),(13,true),(14,true),(15,true),(16,true),(17,true),(18,true),(19,false)] (by kernel_rfl) (by kernel_rfl) ?_;obtain⟨W1,mq⟩:=Ex ((wo.drewN nq).drew);have hS1:W1.cell? ⟨G,0,none⟩=some (.int .i64 K)/\W1.cell? ⟨G,2,none⟩=some (.slice va vn vc):=by rw[<-mq];exact⟨z0,z2⟩
     have wN:wo.grownBy W1 (some tb):=by rw[<-mq];exact(fm wo nq _).trans (fm _ 1 _)
     have Ct:aj B W1 (.slice (some ⟨tb,0,none⟩) tn tc) t:=by rw[<-mq];exact hO.out
     rw[mq];replace⟨mq,Ct⟩:=bD mq Ct;refine ay 105 hS1 ?_;refine ay 106 hS1 ?_;refine ay 107 hS1 ?_;refine ay 108 hS1 ?_;refine ay 109 hS1 ?_;refine ay 110 hS1 ?_;refine ay 111 hS1 ?_;refine ay 112 hS1 ?_;refine ay 113 hS1 ?_;refine ay 114 hS1 ?_;refine ay 115 hS1 ?_;refine ay 116 hS1 ?_;refine ay 117 hS1 ?_;refine ay 118 hS1 ?_;refine ay 119 hS1 ?_;refine ay 120 hS1 ?_;refine ay 121 hS1 ?_;refine ay 122 hS1 ?_;refine ay 123 hS1 ?_;refine fZ rfl (λKK hK=>?_);go_simp;have l5:=LG.out W1 t (kq.out.kept (hG.trans wN) bM) (hT.out.grown (hG.trans wN) uZ.out) Ct.out D9.out;rw[<-vT.out] at l5;refine l5.mono ?_;rintro e W2 ⟨rfl,jh,yT⟩;have rp:=(hG.trans wN).trans yT;have ij:=kq.out.kept rp bM;refine hK _ _ ⟨ij.c0,ij.c2⟩ ?_;clear hK KK hS1;refine dA ?_;simp only[List.drop_succ_cons,List.drop_zero];replace⟨jh,ij⟩:=bD jh ij;cases hb:(g s t).1 with
     | true =>
      have ML:=mN pY.out;have LL:g s t=(true,(g s t).2):=Prod.ext hb rfl;replace⟨ML,LL,hb⟩:=dO ML LL hb;go_wp2;refine NoPanic.normal ?_;go_wp2;go_roundw;case measure=>simp[intOf];omega
      case rel=>exact⟨s+1,(g s t).2,by omega,by go_num,by rw[ML.out];exact LL.out,jh.out,rp⟩
     | false =>
      have EL:=oK XP pY.out hb;replace⟨hb,EL⟩:=bD hb EL;go_wp2;refine NoPanic.normal ?_;go_wp2;go_ret;exact⟨by rw[EL.out,hb.out];rfl,by rw[EL.out];exact jh.out,rp⟩
    .have vT:g s t=gT K R (2*(R+d)+1) T f wm (ik+xn) middle t:=by rw[AL,if_pos Dw,if_neg jw]
     have rQ:mC K R T (n+1) wm (ik+xn):=by rw[if_pos Dw] at df;exact df
     have dg:decide ((2:Int)*(R:Int)<=(n:Int))=true:=decide_eq_true (by omega);have dm:((n:Int)==((R+d:Nat):Int))=false:=by rw[beq_eq_false_iff_ne];omega
     have e5:((n+1:Nat):Int)=(n:Int)+1:=rfl;have e6:(((ik+xn):Nat):Int)=(ik:Int)+(xn:Int):=Int.natCast_add _ _;have LG:∀(W:World) (t:List Int),Gs W G K R (.slice va vn vc) d (.slice (some ⟨tb,0,none⟩) tn tc)->ae W (.slice va vn vc) T->aj B W (.slice (some ⟨tb,0,none⟩) tn tc) t->t.length=pw K (2*d+1) ->
      Calls Tryz.prog 101 #[.pointer (some ⟨G,0,none⟩),.int .i64 (wm:Int),.int .i64 ((ik:Int)+(xn:Int)),.int .i64 (middle:Int),.int .i64 ((n:Int)+1)] W λe w'=>
       e=.returned (.bool (gT K R (2*(R+d)+1) T f wm (ik+xn) middle t).1)/\aj B w' (.slice (some ⟨tb,0,none⟩) tn tc) (gT K R (2*(R+d)+1) T f wm (ik+xn) middle t).2/\W.grownBy w' (some tb):=λW t a1 a2 a3 a4=>by
      have:=ih.out (n+1) wm (ik+xn) middle W t (by omega) rQ (by omega) a1 a2 a3 a4;rw[e5,e6] at this;exact this
     clear e5 e6;replace⟨jw,AL,vT,rQ,df,LG⟩:=rr jw AL vT rQ df LG;go_upto_region 13 with fail;go_quiet (fail);go_upto_region 17 with fail;refine ar (λw'=>w'.cell? ⟨G,0,none⟩=some (.int .i64 K)/\w'.cell? ⟨G,2,none⟩=some (.slice va vn vc)) 20 [(0,true),(1,true),(2,true),(3,true),(4,true),(5,true),(6,true),(7,true),(8,true),(9,true),(10,true),(11,true),(12,true),(13,true),(14,true),(15,true),(16,true),(17,true),(18,true),(19,false)] (by kernel_rfl) (by kernel_rfl) ?_;obtain⟨W1,mq⟩:=Ex ((wo.drewN nq).drew);have hS1:W1.cell? ⟨G,0,none⟩=some (.int .i64 K)/\W1.cell? ⟨G,2,none⟩=some (.slice va vn vc):=by rw[<-mq];exact⟨z0,z2⟩
     have wN:wo.grownBy W1 (some tb):=by rw[<-mq];exact(fm wo nq _).trans (fm _ 1 _)
     have Ct:aj B W1 (.slice (some ⟨tb,0,none⟩) tn tc) t:=by rw[<-mq];exact hO.out
     rw[mq];replace⟨mq,Ct⟩:=bD mq Ct;refine ay 105 hS1 ?_;refine ay 106 hS1 ?_;refine ay 107 hS1 ?_;refine ay 108 hS1 ?_;refine ay 109 hS1 ?_;refine ay 110 hS1 ?_;refine ay 111 hS1 ?_;refine ay 112 hS1 ?_;refine ay 113 hS1 ?_;refine ay 114 hS1 ?_;refine ay 115 hS1 ?_;refine ay 116 hS1 ?_;refine ay 117 hS1 ?_;refine ay 118 hS1 ?_;refine ay 119 hS1 ?_;refine ay 120 hS1 ?_;refine ay 121 hS1 ?_;refine ay 122 hS1 ?_;refine ay 123 hS1 ?_;refine fZ rfl (λKK hK=>?_);go_simp;have l5:=LG.out W1 t (kq.out.kept (hG.trans wN) bM) (hT.out.grown (hG.trans wN) uZ.out) Ct.out D9.out;rw[<-vT.out] at l5;refine l5.mono ?_;rintro e W2 ⟨rfl,jh,yT⟩;have rp:=(hG.trans wN).trans yT;have ij:=kq.out.kept rp bM;refine hK _ _ ⟨ij.c0,ij.c2⟩ ?_;clear hK KK hS1;refine dA ?_;simp only[List.drop_succ_cons,List.drop_zero];replace⟨jh,ij⟩:=bD jh ij;cases hb:(g s t).1 with
     | true =>
      have ML:=mN pY.out;have LL:g s t=(true,(g s t).2):=Prod.ext hb rfl;replace⟨ML,LL,hb⟩:=dO ML LL hb;go_wp2;refine NoPanic.normal ?_;go_wp2;go_roundw;case measure=>simp[intOf];omega
      case rel=>exact⟨s+1,(g s t).2,by omega,by go_num,by rw[ML.out];exact LL.out,jh.out,rp⟩
     | false =>
      have EL:=oK XP pY.out hb;replace⟨hb,EL⟩:=bD hb EL;go_wp2;refine NoPanic.normal ?_;go_wp2;go_ret;exact⟨by rw[EL.out,hb.out];rfl,by rw[EL.out];exact jh.out,rp⟩
    .have vT:g s t=gT K R (2*(R+d)+1) T f wm image s t:=by rw[AL,if_neg Dw,if_pos jw]
     have rQ:mC K R T (n+1) wm image:=by rw[if_neg Dw] at df;exact df
     have dg:decide ((2:Int)*(R:Int)<=(n:Int))=false:=decide_eq_false (by omega);have dm:((n:Int)==((R+d:Nat):Int))=true:=by rw[beq_iff_eq];omega
     have e5:((n+1:Nat):Int)=(n:Int)+1:=rfl;have e6:((image:Nat):Int)=(image:Int):=rfl;have LG:∀(W:World) (t:List Int),Gs W G K R (.slice va vn vc) d (.slice (some ⟨tb,0,none⟩) tn tc)->ae W (.slice va vn vc) T->aj B W (.slice (some ⟨tb,0,none⟩) tn tc) t->t.length=pw K (2*d+1) ->
      Calls Tryz.prog 101 #[.pointer (some ⟨G,0,none⟩),.int .i64 (wm:Int),.int .i64 ((image:Int)),.int .i64 (s:Int),.int .i64 ((n:Int)+1)] W λe w'=>
       e=.returned (.bool (gT K R (2*(R+d)+1) T f wm image s t).1)/\aj B w' (.slice (some ⟨tb,0,none⟩) tn tc) (gT K R (2*(R+d)+1) T f wm image s t).2/\W.grownBy w' (some tb):=λW t a1 a2 a3 a4=>by
      have:=ih.out (n+1) wm image s W t (by omega) rQ (by omega) a1 a2 a3 a4;rw[e5,e6] at this;exact this
     clear e5 e6;replace⟨jw,AL,vT,rQ,df,LG⟩:=rr jw AL vT rQ df LG;go_upto_region 17 with fail;refine ar (λw'=>w'.cell? ⟨G,0,none⟩=some (.int .i64 K)/\w'.cell? ⟨G,2,none⟩=some (.slice va vn vc)) 20 [(0,true),(1,true),(2,true),(3,true),(4,true),(5,true),(6,true),(7,true),(8,true),(9,true),(10,true),(11,true),(12,true),(13,true),(14,true),(15,true),(16,true),(17,true),(18,true),(19,false)] (by kernel_rfl) (by kernel_rfl) ?_;obtain⟨W1,mq⟩:=Ex wo.drew;have hS1:W1.cell? ⟨G,0,none⟩=some (.int .i64 K)/\W1.cell? ⟨G,2,none⟩=some (.slice va vn vc):=by rw[<-mq];exact⟨z0,z2⟩
     have wN:wo.grownBy W1 (some tb):=by rw[<-mq];exact fm wo 1 _
     have Ct:aj B W1 (.slice (some ⟨tb,0,none⟩) tn tc) t:=by rw[<-mq];exact hO.out
     rw[mq];replace⟨mq,Ct⟩:=bD mq Ct;refine ay 105 hS1 ?_;refine ay 106 hS1 ?_;refine ay 107 hS1 ?_;refine ay 108 hS1 ?_;refine ay 109 hS1 ?_;refine ay 110 hS1 ?_;refine ay 111 hS1 ?_;refine ay 112 hS1 ?_;refine ay 113 hS1 ?_;refine ay 114 hS1 ?_;refine ay 115 hS1 ?_;refine ay 116 hS1 ?_;refine ay 117 hS1 ?_;refine ay 118 hS1 ?_;refine ay 119 hS1 ?_;refine ay 120 hS1 ?_;refine ay 121 hS1 ?_;refine ay 122 hS1 ?_;refine ay 123 hS1 ?_;refine fZ rfl (λKK hK=>?_);go_simp;have l5:=LG.out W1 t (kq.out.kept (hG.trans wN) bM) (hT.out.grown (hG.trans wN) uZ.out) Ct.out D9.out;rw[<-vT.out] at l5;refine l5.mono ?_;rintro e W2 ⟨rfl,jh,yT⟩;have rp:=(hG.trans wN).trans yT;have ij:=kq.out.kept rp bM;refine hK _ _ ⟨ij.c0,ij.c2⟩ ?_;clear hK KK hS1;refine dA ?_;simp only[List.drop_succ_cons,List.drop_zero];replace⟨jh,ij⟩:=bD jh ij;cases hb:(g s t).1 with
     | true =>
      have ML:=mN pY.out;have LL:g s t=(true,(g s t).2):=Prod.ext hb rfl;replace⟨ML,LL,hb⟩:=dO ML LL hb;go_wp2;refine NoPanic.normal ?_;go_wp2;go_roundw;case measure=>simp[intOf];omega
      case rel=>exact⟨s+1,(g s t).2,by omega,by go_num,by rw[ML.out];exact LL.out,jh.out,rp⟩
     | false =>
      have EL:=oK XP pY.out hb;replace⟨hb,EL⟩:=bD hb EL;go_wp2;refine NoPanic.normal ?_;go_wp2;go_ret;exact⟨by rw[EL.out,hb.out];rfl,by rw[EL.out];exact jh.out,rp⟩
    .have vT:g s t=gT K R (2*(R+d)+1) T f wm image middle t:=by rw[AL,if_neg Dw,if_neg jw]
     have rQ:mC K R T (n+1) wm image:=by rw[if_neg Dw] at df;exact df
     have dg:decide ((2:Int)*(R:Int)<=(n:Int))=false:=decide_eq_false (by omega);have dm:((n:Int)==((R+d:Nat):Int))=false:=by rw[beq_eq_false_iff_ne];omega
     have e5:((n+1:Nat):Int)=(n:Int)+1:=rfl;have e6:((image:Nat):Int)=(image:Int):=rfl;have LG:∀(W:World) (t:List Int),Gs W G K R (.slice va vn vc) d (.slice (some ⟨tb,0,none⟩) tn tc)->ae W (.slice va vn vc) T->aj B W (.slice (some ⟨tb,0,none⟩) tn tc) t->t.length=pw K (2*d+1) ->
      Calls Tryz.prog 101 #[.pointer (some ⟨G,0,none⟩),.int .i64 (wm:Int),.int .i64 ((image:Int)),.int .i64 (middle:Int),.int .i64 ((n:Int)+1)] W λe w'=>
       e=.returned (.bool (gT K R (2*(R+d)+1) T f wm image middle t).1)/\aj B w' (.slice (some ⟨tb,0,none⟩) tn tc) (gT K R (2*(R+d)+1) T f wm image middle t).2/\W.grownBy w' (some tb):=λW t a1 a2 a3 a4=>by
      have:=ih.out (n+1) wm image middle W t (by omega) rQ (by omega) a1 a2 a3 a4;rw[e5,e6] at this;exact this
     clear e5 e6;replace⟨jw,AL,vT,rQ,df,LG⟩:=rr jw AL vT rQ df LG;go_upto_region 17 with fail;refine ar (λw'=>w'.cell? ⟨G,0,none⟩=some (.int .i64 K)/\w'.cell? ⟨G,2,none⟩=some (.slice va vn vc)) 20 [(0,true),(1,true),(2,true),(3,true),(4,true),(5,true),(6,true),(7,true),(8,true),(9,true),(10,true),(11,true),(12,true),(13,true),(14,true),(15,true),(16,true),(17,true),(18,true),(19,false)] (by kernel_rfl) (by kernel_rfl) ?_;obtain⟨W1,mq⟩:=Ex wo.drew;have hS1:W1.cell? ⟨G,0,none⟩=some (.int .i64 K)/\W1.cell? ⟨G,2,none⟩=some (.slice va vn vc):=by rw[<-mq];exact⟨z0,z2⟩
     have wN:wo.grownBy W1 (some tb):=by rw[<-mq];exact fm wo 1 _
     have Ct:aj B W1 (.slice (some ⟨tb,0,none⟩) tn tc) t:=by rw[<-mq];exact hO.out
     rw[mq];replace⟨mq,Ct⟩:=bD mq Ct;refine ay 105 hS1 ?_;refine ay 106 hS1 ?_;refine ay 107 hS1 ?_;refine ay 108 hS1 ?_;refine ay 109 hS1 ?_;refine ay 110 hS1 ?_;refine ay 111 hS1 ?_;refine ay 112 hS1 ?_;refine ay 113 hS1 ?_;refine ay 114 hS1 ?_;refine ay 115 hS1 ?_;refine ay 116 hS1 ?_;refine ay 117 hS1 ?_;refine ay 118 hS1 ?_;refine ay 119 hS1 ?_;refine ay 120 hS1 ?_;refine ay 121 hS1 ?_;refine ay 122 hS1 ?_;refine ay 123 hS1 ?_;refine fZ rfl (λKK hK=>?_);go_simp;have l5:=LG.out W1 t (kq.out.kept (hG.trans wN) bM) (hT.out.grown (hG.trans wN) uZ.out) Ct.out D9.out;rw[<-vT.out] at l5;refine l5.mono ?_;rintro e W2 ⟨rfl,jh,yT⟩;have rp:=(hG.trans wN).trans yT;have ij:=kq.out.kept rp bM;refine hK _ _ ⟨ij.c0,ij.c2⟩ ?_;clear hK KK hS1;refine dA ?_;simp only[List.drop_succ_cons,List.drop_zero];replace⟨jh,ij⟩:=bD jh ij;cases hb:(g s t).1 with
     | true =>
      have ML:=mN pY.out;have LL:g s t=(true,(g s t).2):=Prod.ext hb rfl;replace⟨ML,LL,hb⟩:=dO ML LL hb;go_wp2;refine NoPanic.normal ?_;go_wp2;go_roundw;case measure=>simp[intOf];omega
      case rel=>exact⟨s+1,(g s t).2,by omega,by go_num,by rw[ML.out];exact LL.out,jh.out,rp⟩
     | false =>
      have EL:=oK XP pY.out hb;replace⟨hb,EL⟩:=bD hb EL;go_wp2;refine NoPanic.normal ?_;go_wp2;go_ret;exact⟨by rw[EL.out,hb.out];rfl,by rw[EL.out];exact jh.out,rp⟩
   .obtain rfl:s=K:=by omega
    have ds:decide ((s:Int)<(s:Int))=false:=decide_eq_false (by omega);replace⟨pY,hO⟩:=bD pY hO;go_wp2;go_ret;exact⟨by rw[pY.out];rfl,by rw[pY.out];exact hO.out,hG⟩
end Go.Proofs.YtgjfejfeoofkhaaGreatDoor
