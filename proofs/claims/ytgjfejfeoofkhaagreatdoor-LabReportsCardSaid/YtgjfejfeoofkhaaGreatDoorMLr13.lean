/-
  Texts that the proof leans on.
-/
import Derived.Test.YtgjfejfeoofkhaaGreatDoorMLr12
import Derived.Deep.CutBlock
set_option maxHeartbeats 8000000
set_option maxRecDepth 100000
namespace Go.Proofs.YtgjfejfeoofkhaaGreatDoor
open Go.RowKit
def eJ:ByteArray:=⟨#[105,110,118,101,114,115,101]⟩
theorem vp(r:Nat->Addr)(at_ n:Int)(w:World)(hg:ck r w)(h1:1<=n)(h2:n<=11):
 Calls Tryz.prog 100 #[.int .i64 at_,.int .i64 n] w (cz (λv w'=>bf r w' (fresh eJ at_ n) v) w):=by
 go_enter Tryz.func100,Tryz.ntmps100;go_wp2_with fail;refine(uy r _ at_ n w hg h1 h2).mono ?_;rintro e w' ⟨v,rfl,hb,he⟩;go_wp2;go_ret;exact⟨_,rfl,hb,he⟩
theorem aj.open{B:Nat}{w:World}{v:Value}{xs:List Int}(h:aj B w v xs)(bM:xs≠[]):∃g n c,v=.slice (some ⟨g,0,none⟩) n c/\B<=g/\g<w.heap.size:=by
 rcases h.2 with ⟨_,hn⟩ | ⟨g,cap,cur,e,hb,hg,_⟩;.exact absurd (List.length_eq_zero_iff.1 hn) bM
 .exact⟨g,_,_,e,hb,(Array.getElem?_eq_some_iff.1 hg).1⟩
def Up(r:Nat->Addr)(w:World)(K R:Nat)(T:List Int)(x y:Value)(w':World):Prop :=
 (dY K R T/\x=zR/\bf r w' (fresh eJ 0 9) y)\/(¬ dY K R T/\pI K R T=none/\x=zR/\bf r w' (fresh eJ 0 4) y) \/
   (¬ dY K R T/\∃d S a n c,pI K R T=some (d,S)/\y=.nilIface/\x=.agg #[.int .i64 K,.int .i64 ((d:Nat):Int),.slice a n c]/\aj w.heap.size w' (.slice a n c) S)
theorem SQ(r:Nat->Addr)(k R:Int)(va:Option Addr)(vn vc:Nat)(T:List Int)(t:Int×List (ByteArray×Int))(w:World)(hg:ck r w)(h:ae w (.slice va vn vc) T)(hc:cd k R T=some t):
 Calls Tryz.prog 47 #[.agg #[.int .i64 k,.int .i64 R,.slice va vn vc]] w (jf (λx y w'=>x=zR/\bf r w' (under eJ 0 (under nU 0 (under l6 0 (some t)))) y) w):=by
 have b0:=Below.step (ab w (.cells #[.int .i64 k,.int .i64 R,.slice va vn vc] 24)) (ab _ (.cells #[.int .i64 0,.int .i64 0,.slice none 0 0] 24));have qz:az ((w.alloc (.cells #[.int .i64 k,.int .i64 R,.slice va vn vc] 24)).alloc (.cells #[.int .i64 0,.int .i64 0,.slice none 0 0] 24)) (w.heap.size+1) (.int .i64 0) (.int .i64 0) (.slice none 0 0):=by simp[az,go_sem]
 replace hg:=Hd (hg.below b0);replace h:=Hd (h.below b0);replace hc:=Hd hc;go_enter Tryz.func47,Tryz.ntmps47;go_wp2_with fail;refine(Xy r k R va vn vc T t _ hg.out h.out hc.out).mono ?_;rintro e w1 ⟨_,_,_,y,rfl,b1,rfl,rfl,rfl,hy⟩;have hy':=hy;obtain⟨T2,a2,rfl⟩:∃T a,y=.iface T (.pointer (some a)):=by
  unfold under at hy';exact bf.bX hy'
 have b2:=Below.step b1 (Below.step (ab w1 (.cells #[.int .i64 0,.slice none 0 0,.slice none 0 0,.slice none 0 0] 51)) (ab _ (.cells #[.int .i64 0,.slice none 0 0,.slice none 0 0,.slice none 0 0] 51)));have Ch:=hy.below (Below.step (ab w1 (.cells #[.int .i64 0,.slice none 0 0,.slice none 0 0,.slice none 0 0] 51)) (ab _ (.cells #[.int .i64 0,.slice none 0 0,.slice none 0 0,.slice none 0 0] 51)));replace⟨hy,Ch⟩:=bD hy Ch;go_wp2_with fail;refine(om r _ _ _ _ _ Ch.out).mono ?_;rintro e w3 ⟨u,rfl,b3,hu⟩;have NQ:=hu;obtain⟨T3,a3,rfl⟩:∃T a,u=.iface T (.pointer (some a)):=by
  unfold under at NQ;exact bf.bX NQ
 have bE:=Below.step b0 (Below.step b2 b3);obtain⟨⟨y0,y1,y2⟩,-,-,-⟩:=qz.below (Below.step b2 b3);obtain⟨-,f0,f1,f2⟩:=qz.below (Below.step b2 b3);replace hu:=Hd hu;clear NQ;go_wp2;rw[fh y0 y1 y2];exact bodyPost_ret (v:=.tuple #[zR,.iface T3 (.pointer (some a3))]) (by simp[results,Tryz.results47,go_sem,y0,y1,y2]) rfl ⟨_,_,rfl,bE,rfl,hu.out⟩
theorem CH(K R:Nat)(T:List Int)(m e:Nat):findF K R T (m+1) e=if (vd K R T e).1=true then some (e,(vd K R T e).2) else findF K R T m (e+1):=rfl
theorem CN(j n:Nat)(h:j<n):(List.replicate j (-1:Int)++List.replicate (n-j) 0).set j (-1)=List.replicate (j+1) (-1)++List.replicate (n-(j+1)) 0:=by
 rw[show n-j=(n-(j+1))+1 by omega,List.replicate_succ,List.set_append_right _ _ (by simp),List.length_replicate,Nat.sub_self,List.set_cons_zero,List.replicate_succ',List.append_assoc];rfl
theorem YB(r:Nat->Addr)(K R:Nat)(va:Option Addr)(vn vc:Nat)(T:List Int)(w:World)(hg:ck r w)(h:ae w (.slice va vn vc) T)(hr:aG K R T)(hl:T.length<=256):
 Calls Tryz.prog 47 #[.agg #[.int .i64 K,.int .i64 R,.slice va vn vc]] w (jf (Up r w K R T) w):=by
 have b0:=Below.step (ab w (.cells #[.int .i64 K,.int .i64 R,.slice va vn vc] 24)) (ab _ (.cells #[.int .i64 0,.int .i64 0,.slice none 0 0] 24));have q:=(show az ((w.alloc (.cells #[.int .i64 K,.int .i64 R,.slice va vn vc] 24)).alloc (.cells #[.int .i64 0,.int .i64 0,.slice none 0 0] 24)) w.heap.size (.int .i64 K) (.int .i64 R) (.slice va vn vc) by simp[az,go_sem]);have qz:=(show az ((w.alloc (.cells #[.int .i64 K,.int .i64 R,.slice va vn vc] 24)).alloc (.cells #[.int .i64 0,.int .i64 0,.slice none 0 0] 24)) (w.heap.size+1) (.int .i64 0) (.int .i64 0) (.slice none 0 0) by simp[az,go_sem]);have dS:=hr.k1;have fs:=hr.k4;have Ee:=λi hi=>h.vq i hi;have Ju:((w.alloc (.cells #[.int .i64 K,.int .i64 R,.slice va vn vc] 24)).alloc (.cells #[.int .i64 0,.int .i64 0,.slice none 0 0] 24)).heap.size=w.heap.size+2:=by simp
 replace hg:=Hd (hg.below b0);replace h:=Hd (h.below b0);replace⟨hr,hl,Ee⟩:=dO hr hl Ee;obtain⟨W0,mz⟩:=Ex ((w.alloc (.cells #[.int .i64 K,.int .i64 R,.slice va vn vc] 24)).alloc (.cells #[.int .i64 0,.int .i64 0,.slice none 0 0] 24));rw[mz] at b0 q qz Ju hg h;go_enter Tryz.func47,Tryz.ntmps47;obtain⟨⟨z0,z1,z2⟩,-,-,-⟩:=id q;go_upto_region 1 with fail;replace mz:=Hd mz;go_wp2_with fail;refine(Sk r K R va vn vc T _ hg.out h.out hr.out hl.out).mono ?_;rintro e w1 ⟨_,_,_,_,rfl,b1,hp⟩;obtain⟨rfl,Y,rfl,hY,a1,n1,c1,a2,n2,c2,a3,n3,c3,a4,n4,c4,a5,n5,c5,a6,n6,c6,rfl,rfl⟩:=hp.ans;have b2:=Below.step b1 (Below.step (ab w1 (.cells #[.int .i64 0,.slice a1 n1 c1,.slice a2 n2 c2,.slice a3 n3 c3] 51)) (ab _ (.cells #[.int .i64 0,.slice a4 n4 c4,.slice a5 n5 c5,.slice a6 n6 c6] 51)));obtain⟨w2,hw2⟩:=Ex ((w1.alloc (.cells #[.int .i64 0,.slice a1 n1 c1,.slice a2 n2 c2,.slice a3 n3 c3] 51)).alloc (.cells #[.int .i64 0,.slice a4 n4 c4,.slice a5 n5 c5,.slice a6 n6 c6] 51));rw[hw2] at b2;have q2:=q.below b2;have qz2:=qz.below b2;have yT:=hg.out.below b2;have h2:=h.out.below b2;have Hl:=Below.step b0 b2;have D2:w.heap.size+2<=w2.heap.size:=by rw[<-Ju];exact b2.size
 replace⟨yT,h2⟩:=bD yT h2;clear hp z0 z1 z2;cases Y with
 | false =>
  have ig:dY K R T:=Classical.byContradiction λhc=>by have:=hY.2 hc;cases this
  go_upto_region 4 with fail;replace hw2:=Hd hw2;go_wp2_with fail;refine(vp r _ _ _ yT.out (by decide) (by decide)).mono ?_;rintro e w3 ⟨u,rfl,b3,hu⟩;obtain⟨T3,a3,rfl⟩:=bf.bX hu;obtain⟨⟨y0,y1,y2⟩,f0,f1,f2⟩:=qz2.below b3;have bE:=Below.step Hl b3;replace⟨hu,hY⟩:=bD hu hY;go_wp2;rw[fh y0 y1 y2];exact bodyPost_ret (v:=.tuple #[zR,.iface T3 (.pointer (some a3))]) (by simp[results,Tryz.results47,go_sem,y0,y1,y2]) rfl ⟨_,_,rfl,bE,.inl ⟨ig,rfl,hu.out⟩⟩
 | true =>
  have rZ:=@Hd (¬ dY K R T) (hY.1 rfl);clear hY;go_upto_region 4 with fail;replace hw2:=Hd hw2;go_wp2_with fail;go_loopw [29] (λiv wr=>∃e:Nat,e<=4/\iv=.int .i64 e/\pI K R T=findF K R T (4-e) e/\Below w2.heap.size w2 wr) (λiv _=>4-(intOf iv).toNat);case atStart=>exact⟨0,by omega,rfl,rfl,Below.refl _ _⟩
  case round =>
   obtain⟨e,he,rfl,ME,hB⟩:=hrel;obtain⟨wo,rfl⟩:=Ey wr;by_cases he4:e<4
   .have de:decide ((e:Int)<4)=true:=decide_eq_true (by omega);obtain⟨⟨z0,z1,z2⟩,-,-,-⟩:=q2.below hB;replace ME:=Hd ME;go_wp2_with fail;refine(yd K e wo dS fs (by omega)).mono ?_;rintro e' w' ⟨rfl,rfl⟩;obtain⟨n,hn⟩:=Ex (pw K (2*e+1));have IU:1<=n:=by rw[<-hn];exact eN _ dS
    have hnb:n<=16384:=by rw[<-hn];exact nr dS fs (by omega)
    rw[hn];replace hn:=Hd hn;go_upto_region 10 with fail;refine ar (λw'=>w'.cell? ⟨w.heap.size,0,none⟩=some (.int .i64 K)/\w'.cell? ⟨w.heap.size,1,none⟩=some (.int .i64 R)/\w'.cell? ⟨w.heap.size,2,none⟩=some (.slice va vn vc)) 6 [(0,true),(1,true),(2,true),(3,false),(4,true),(5,false)] (by kernel_rfl) (by kernel_rfl) ?_;obtain⟨W1,mq⟩:=Ex wo.drew;have bd:Below wo.heap.size wo W1:=by rw[<-mq];exact(Below.refl _ _).drew
    have bB1:=Below.step hB bd;rw[mq];replace mq:=Hd mq;have hS1:=(q2.below bB1).1;refine ay 39 hS1 ?_;refine ay 40 hS1 ?_;refine ay 41 hS1 ?_;obtain⟨tv,w3,mk,wR,b3⟩:=bG (n:Int) n W1 rfl (by omega);have bB3:=Below.step bB1 b3;have hS3:=(q2.below bB3).1;refine fZ rfl (λKK hK=>?_);go_simp;refine hK _ _ hS3 ?_;clear hK KK mk;obtain⟨tb,tn,tc,rfl,htb1,htb2⟩:=wR.open (by intro e;have:=congrArg List.length e;simp at this;omega);refine ay 43 hS3 ?_;have ba:=ab w3 (.cells #[.int .i64 K,.int .i64 R,.slice va vn vc,.int .i64 e,.slice (some ⟨tb,0,none⟩) tn tc] 184);have bB4:=Below.step bB3 ba;have hS4:=(q2.below bB4).1;have kq:Gs (w3.alloc (.cells #[.int .i64 K,.int .i64 R,.slice va vn vc,.int .i64 e,.slice (some ⟨tb,0,none⟩) tn tc] 184)) w3.heap.size K R (.slice va vn vc) e (.slice (some ⟨tb,0,none⟩) tn tc):=by
     refine⟨?_,?_,?_,?_,?_⟩<;>simp[go_sem]
    have xE:=wR.below ba;obtain⟨W4,rT⟩:=Ex (w3.alloc (.cells #[.int .i64 K,.int .i64 R,.slice va vn vc,.int .i64 e,.slice (some ⟨tb,0,none⟩) tn tc] 184));rw[rT] at ba bB4 hS4 kq xE;obtain⟨G,hG⟩:=Ex w3.heap.size;rw[hG] at kq htb2;have hGt:G≠tb:=by omega
    refine fZ rfl (λKK hK=>?_);go_simp;refine hK _ _ hS4 ?_;clear hK KK hS1 hS3 hS4 z0 z1 z2;refine dA ?_;simp only[List.drop_succ_cons,List.drop_zero];replace rT:=Hd rT;have sB1:=bB1.size;have uZ:∀i,i<T.length->(af (.slice va vn vc) i).block≠tb:=λi hi=>by
     have:=Ee.out i hi;omega
    have hT4:=h2.out.below bB4;have q4:=q2.below bB4;have lz:=xE.at.len;rw[List.length_replicate] at lz;have z4:=kq.c4;replace⟨kq,wR,xE,hT4,uZ,hG⟩:=rr kq wR xE hT4 uZ hG;go_wp2;refine NoPanic.normal ?_;go_wp2_with fail;clear z4;go_loopw [50] (λjv wr=>∃j:Nat,j<=n/\jv=.int .i64 j/\aj W1.heap.size wr (.slice (some ⟨tb,0,none⟩) tn tc) (List.replicate j (-1)++List.replicate (n-j) 0)/\W4.grownBy wr (some tb)) (λjv _=>n-(intOf jv).toNat);case atStart=>exact⟨0,Nat.zero_le _,rfl,by simpa using xE.out,World.grownBy.refl _ _⟩
    case round =>
     obtain⟨j,hj,rfl,hO,hGr⟩:=hrel;obtain⟨wi,rfl⟩:=Ey wr;have C4:=(kq.out.kept hGr hGt);have z4:=C4.c4;by_cases Hs:j<n
     .have dj:decide ((j:Int)<(n:Int))=true:=decide_eq_true (by omega);have CT:(List.replicate j (-1:Int)++List.replicate (n-j) 0).length=n:=by simp;omega
      have iO:=λw'=>hO.at.idx j (by rw[CT];exact Hs) w';have fO:=hO.mQ j (by rw[CT];exact Hs);obtain⟨c0,cO⟩:∃z,wi.cell? (af (.slice (some ⟨tb,0,none⟩) tn tc) j)=some z:=⟨_,hO.at.cell j (by rw[CT];exact Hs)⟩;have gI:=hO.set j (by rw[CT];exact Hs) (-1);rw[CN j n Hs] at gI;have qJ:=vu (w:=wi) (v:=.slice (some ⟨tb,0,none⟩) tn tc) (i:=j) rfl (.int .i64 (-1));have Yu:=hGr.trans qJ;obtain⟨p,hp⟩:=Ex (af (.slice (some ⟨tb,0,none⟩) tn tc) j);rw[hp] at iO fO cO gI Yu;replace⟨gI,Yu,hO,C4,hp,CT⟩:=rr gI Yu hO C4 hp CT;clear qJ;go_wp2;go_roundw;case measure=>simp[intOf];omega
      case rel=>exact⟨j+1,by omega,by go_num,gI.out,Yu.out⟩
     .obtain rfl:j=n:=by omega
      have dj:decide ((j:Int)<(j:Int))=false:=decide_eq_false (by omega);rw[Nat.sub_self,List.replicate_zero,List.append_nil] at hO;have IW:=Td K R e G tb tn tc W1.heap.size va vn vc T hr.out hl.out (by omega) hGt uZ.out (2*(R+e)+1) 0 0 0 0 wi _ (by omega) (mC.zero hr.out) (by omega) C4 (hT4.out.grown hGr uZ.out) hO (by rw[List.length_replicate,<-hn.out]);rw[<-hn.out,show gT K R (2*(R+e)+1) T (2*(R+e)+1) 0 0 0 (List.replicate (pw K (2*e+1)) (-1))=vd K R T e from rfl,show((0:Nat):Int)=0 from rfl] at IW;obtain⟨X,hX⟩:=Ex (vd K R T e);rw[hX] at IW;have GW:findF K R T (4-e) e=if X.1=true then some (e,X.2) else findF K R T (4-(e+1)) (e+1):=by
       rw[show 4-e=(4-(e+1))+1 by omega,CH,hX]
      have sW4:=bB4.size;replace⟨IW,hO,C4,GW,hX⟩:=mV IW hO C4 GW hX;go_wp2_with fail;refine IW.out.mono ?_;rintro e' w5 ⟨rfl,O4,Lm⟩;have RL:=hGr.trans Lm;have b5:Below w2.heap.size w2 w5:=bB4.grown RL sW4 (λk hk=>by cases hk;omega);have Ai:=kq.out.kept RL hGt;obtain⟨X1,X2⟩:=X;have qE:=q2.below b5;have qzE:=qz2.below b5;cases X1 with
      | false =>
       replace⟨O4,Ai⟩:=bD O4 Ai;clear z4;go_wp2;go_roundw;case measure=>simp[intOf];omega
       case rel=>exact⟨e+1,by omega,by go_num,by rw[ME.out,GW.out];rfl,b5⟩
      | true =>
       clear z4;have hO5':=Hd O4;clear O4;have hb54:=Ai.c4;replace Ai:=Hd Ai;go_upto_region 17 with fail;refine ar (λw'=>w'.cell? ⟨w.heap.size,0,none⟩=some (.int .i64 K)/\w'.cell? ⟨G,4,none⟩=some (.slice (some ⟨tb,0,none⟩) tn tc)) 8 [(0,true),(1,true),(2,true),(3,true),(4,true),(5,true),(6,true),(7,true)] (by kernel_rfl) (by kernel_rfl) ?_;obtain⟨W6,yq⟩:=Ex w5.drew;have bd6:Below w5.heap.size w5 W6:=by rw[<-yq];exact(Below.refl _ _).drew
       have hS6:W6.cell? ⟨w.heap.size,0,none⟩=some (.int .i64 K)/\W6.cell? ⟨G,4,none⟩=some (.slice (some ⟨tb,0,none⟩) tn tc):=by rw[<-yq];exact⟨qE.1.1,hb54⟩
       have hO6:aj W1.heap.size W6 (.slice (some ⟨tb,0,none⟩) tn tc) X2:=by rw[<-yq];exact hO5'.out
       rw[yq];replace yq:=Hd yq;have b6:=Below.step b5 bd6;obtain⟨⟨y0,y1,y2⟩,f0,f1,f2⟩:=qz2.below b6;have bE:=Below.step Hl b6;refine ay 62 hS6 ?_;refine ay 63 hS6 ?_;refine ay 64 hS6 ?_;refine ay 65 hS6 ?_;refine ay 66 hS6 ?_;refine ay 67 hS6 ?_;refine ay 68 hS6 ?_;refine ay 69 hS6 ?_;refine dA ?_;simp only[List.drop_succ_cons,List.drop_zero];clear hS6 hb54;replace hO6:=Hd hO6;go_wp2;refine NoPanic.normal ?_;go_wp2;refine bodyPost_ret (v:=.tuple #[.agg #[.int .i64 K,.int .i64 e,.slice (some ⟨tb,0,none⟩) tn tc],.nilIface]) (by simp[results,Tryz.results47,go_sem,y0,y1,y2]) rfl ⟨_,_,rfl,aB bE (Nat.le_succ _) _ _ _,.inr (.inr ⟨rZ.out,e,X2,_,_,_,by rw[ME.out,GW.out];rfl,rfl,rfl,(hO6.out.j9 (b:=w.heap.size+1) (by omega) _ _ _).mono (by omega)⟩)⟩
   .obtain rfl:e=4:=by omega
    have de:decide (((4:Nat):Int)<4)=false:=by decide
    have jU:pI K R T=none:=by rw[ME];rfl
    replace⟨ME,jU⟩:=bD ME jU;go_wp2_with fail;refine(vp r _ _ _ (yT.out.below hB) (by decide) (by decide)).mono ?_;rintro e' w3 ⟨u,rfl,b3,hu⟩;obtain⟨T3,a3,rfl⟩:=bf.bX hu;obtain⟨⟨y0,y1,y2⟩,f0,f1,f2⟩:=qz2.below (Below.step hB b3);have bE:=Below.step Hl (Below.step hB b3);replace hu:=Hd hu;go_wp2;rw[fh y0 y1 y2];exact bodyPost_ret (v:=.tuple #[zR,.iface T3 (.pointer (some a3))]) (by simp[results,Tryz.results47,go_sem,y0,y1,y2]) rfl ⟨_,_,rfl,bE,.inr (.inl ⟨rZ.out,jU.out,rfl,hu.out⟩)⟩
noncomputable def ku (k R:Int) (T:List Int):ky:=open Classical in
 match cd k R T with
 | some t=>under eJ 0 (under nU 0 (under l6 0 (some t)))
 | none=>if dY k.toNat R.toNat T then fresh eJ 0 9 else match pI k.toNat R.toNat T with
  | none=>fresh eJ 0 4
  | some _=>none
def pL(B:Nat)(w:World)(k R:Int)(T:List Int)(x:Value):Prop :=
 (ku k R T=none->∃d S a n c,pI k.toNat R.toNat T=some (d,S)/\x=.agg #[.int .i64 k,.int .i64 ((d:Nat):Int),.slice a n c]/\aj B w (.slice a n c) S)/\(ku k R T≠none->x=zR)
theorem Bl{k R:Int}{T:List Int}{t:Int×List (ByteArray×Int)}(h:cd k R T=some t):ku k R T=under eJ 0 (under nU 0 (under l6 0 (some t))):=by unfold ku;rw[h]
theorem za{k R:Int}{T:List Int}(h:cd k R T=none):∃K Q:Nat,k=K/\R=Q/\aG K Q T/\T.length<=256:=by
 obtain⟨fK,hl⟩:=zX h;obtain⟨K,Q,h1,h2,hr⟩:=zC fK;exact⟨K,Q,h1,h2,hr,hl⟩
theorem xq{K Q:Nat}{T:List Int}(hr:aG K Q T)(hl:T.length<=256):(dY K Q T->ku K Q T=fresh eJ 0 9)/\(¬ dY K Q T->pI K Q T=none->ku K Q T=fresh eJ 0 4)/\(¬ dY K Q T->pI K Q T≠none->ku K Q T=none):=by
 have gq:cd K Q T=none:=by rw[qR hr,if_neg (by omega)]
 refine⟨λh=>?_,λh hf=>?_,λh hf=>?_⟩;.unfold ku;rw[gq];simp only[Int.toNat_natCast];rw[if_pos h]
 .unfold ku;rw[gq];simp only[Int.toNat_natCast];rw[if_neg h,hf]
 .unfold ku;rw[gq];simp only[Int.toNat_natCast];rw[if_neg h];cases hq:pI K Q T with
  | none=>exact absurd hq hf
  | some _=>rfl
theorem TT(r:Nat->Addr)(k R:Int)(va:Option Addr)(vn vc:Nat)(T:List Int)(w:World)(hg:ck r w)(h:ae w (.slice va vn vc) T):
 Calls Tryz.prog 47 #[.agg #[.int .i64 k,.int .i64 R,.slice va vn vc]] w (jf (λx y w'=>bf r w' (ku k R T) y/\pL w.heap.size w' k R T x) w):=by
 cases hc:cd k R T with
 | some t =>
  have e:=Bl hc;refine(SQ r k R va vn vc T t w hg h hc).mono ?_;rintro e1 w' ⟨x,y,he,hb,hx,hy⟩;exact⟨x,y,he,hb,by rw[e];exact hy,λq=>(by rw[e] at q;cases q),λ_=>hx⟩
 | none =>
  obtain⟨K,Q,rfl,rfl,hr,hl⟩:=za hc;obtain⟨i1,i2,i3⟩:=xq hr hl;refine(YB r K Q va vn vc T w hg h hr hl).mono ?_;rintro e1 w' ⟨x,y,he,hb,hp⟩;refine⟨x,y,he,hb,?_⟩;rcases hp with ⟨h1,hx,hy⟩ | ⟨h1,h2,hx,hy⟩ | ⟨h1,d,S,a,n,c,hf,hy,hx,ho⟩;.rw[i1 h1];exact⟨hy,λq=>(by rw[i1 h1] at q;cases q),λ_=>hx⟩
  .rw[i2 h1 h2];exact⟨hy,λq=>(by rw[i2 h1 h2] at q;cases q),λ_=>hx⟩
  .have e:=i3 h1 (by rw[hf];simp);rw[e];exact⟨hy,λ_=>⟨d,S,a,n,c,by rw[Int.toNat_natCast,Int.toNat_natCast];exact hf,hx,ho⟩,λq=>absurd e q⟩
theorem pL.j9{B b:Nat}{w:World}{k R:Int}{T:List Int}{x:Value}(h:pL B w k R T x)(hb:b<B)(x0 x1 x2:Value):pL B (((w.setCell ⟨b,0,none⟩ x0).setCell ⟨b,1,none⟩ x1).setCell ⟨b,2,none⟩ x2) k R T x :=
 ⟨λe=>by
   obtain⟨d,S,a,n,c,hf,hx,ho⟩:=h.1 e;exact⟨d,S,a,n,c,hf,hx,ho.j9 hb _ _ _⟩,h.2⟩
theorem pL.mono{B B':Nat}{w:World}{k R:Int}{T:List Int}{x:Value}(h:pL B w k R T x)(hb:B'<=B):pL B' w k R T x :=
 ⟨λe=>by
   obtain⟨d,S,a,n,c,hf,hx,ho⟩:=h.1 e;exact⟨d,S,a,n,c,hf,hx,ho.mono hb⟩,h.2⟩
theorem bf.Z4{r:Nat->Addr}{w:World}{t:ky}{v:Value}(h:bf r w t v):v=.nilIface\/∃T a,v=.iface T (.pointer (some a)):=by
 cases t with
 | none=>exact .inl h.dG
 | some t=>exact .inr h.bX
noncomputable def zm (k R:Int) (T:List Int):Int:=match ku k R T with
 | some _=>0
 | none=>match pI k.toNat R.toNat T with
  | some (d,_)=>d
  | none=>0
theorem KP(r:Nat->Addr)(k R:Int)(va:Option Addr)(vn vc:Nat)(T:List Int)(w:World)(hg:ck r w)(h:ae w (.slice va vn vc) T):
 Calls Tryz.prog 20 #[.agg #[.int .i64 k,.int .i64 R,.slice va vn vc]] w (jf (λx y w'=>bf r w' (ku k R T) y/\x=.int .i64 (zm k R T)) w):=by
 have b0:=ab w (.cells #[.int .i64 k,.int .i64 R,.slice va vn vc] 24);replace hg:=Hd (hg.below b0);replace h:=Hd (h.below b0);go_enter Tryz.func20,Tryz.ntmps20;go_wp2_with fail;refine(TT r k R va vn vc T _ hg.out h.out).mono ?_;rintro e w1 ⟨x,y,rfl,b1,hy,hx⟩;have hn:∃k' a n c,x=.agg #[.int .i64 k',.int .i64 (zm k R T),.slice a n c]:=by
  unfold zm;cases he:ku k R T with
  | none =>
   obtain⟨d,S,a,n,c,hf,Ht,_⟩:=hx.1 he;rw[hf];exact⟨_,_,_,_,Ht⟩
  | some t=>exact⟨0,none,0,0,hx.2 (by rw[he];simp)⟩
 obtain⟨k',a,n,c,rfl⟩:=hn;obtain⟨N,hN⟩:=Ex (zm k R T);rw[hN];have b2:=ab w1 (.cells #[.int .i64 k',.int .i64 N,.slice a n c] 24);have bE:=Below.step b0 (Below.step b1 b2);have Ch:=hy.below b2;have q:az (w1.alloc (.cells #[.int .i64 k',.int .i64 N,.slice a n c] 24)) w1.heap.size (.int .i64 k') (.int .i64 N) (.slice a n c):=by simp[az,go_sem]
 obtain⟨⟨z0,z1,z2⟩,-,-,-⟩:=q;replace⟨hx,hN,hy,Ch⟩:=gF hx hN hy Ch;rcases hy.out.Z4 with rfl | ⟨T3,a3,rfl⟩;.go_wp2;go_ret2;exact⟨_,_,rfl,bE,Ch.out,by rw[hN.out];rfl⟩
 .go_wp2;go_ret2;exact⟨_,_,rfl,bE,Ch.out,by rw[hN.out];rfl⟩
theorem CD.parts{r:Nat->Addr}{B:Nat}{s:Cl}{x y z:Value}{w:World}(h:CD r B s x y z w):(∃a n c,y=.slice a n c/\aj B w (.slice a n c) (jF s)):=by
 cases s with
 | on _ _=>obtain⟨rfl,rfl,rfl⟩:=h;exact⟨_,_,_,rfl,aj.nil _ _⟩
 | dr wd=>obtain⟨rfl,rfl,ho⟩:=h;obtain⟨a,n,c,rfl⟩:=ho.at.shape;exact⟨_,_,_,rfl,ho⟩
 | nO=>obtain⟨rfl,rfl,he⟩:=h;exact⟨_,_,_,rfl,aj.nil _ _⟩
theorem adM(w:World):(Instr.index 46 (.agg #[.nilIface,.nilIface,.nilIface,.nilIface,.nilIface]) (.int .i64 0)).run Tryz.prog w=.ok .nilIface w:=by kernel_rfl
theorem ac9(w:World):(Instr.index 46 (.agg #[.nilIface,.nilIface,.nilIface,.nilIface,.nilIface]) (.int .i64 1)).run Tryz.prog w=.ok .nilIface w:=by kernel_rfl
theorem ac1(w:World):(Instr.index 46 (.agg #[.nilIface,.nilIface,.nilIface,.nilIface,.nilIface]) (.int .i64 2)).run Tryz.prog w=.ok .nilIface w:=by kernel_rfl
theorem aaQ(w:World):(Instr.index 46 (.agg #[.nilIface,.nilIface,.nilIface,.nilIface,.nilIface]) (.int .i64 3)).run Tryz.prog w=.ok .nilIface w:=by kernel_rfl
theorem ade(w:World):(Instr.index 46 (.agg #[.nilIface,.nilIface,.nilIface,.nilIface,.nilIface]) (.int .i64 4)).run Tryz.prog w=.ok .nilIface w:=by kernel_rfl
noncomputable def kQ (K R:Nat) (T:List Int):Int:=if ku K R T=none then zm K R T else -1
def ye(K R:Nat)(T:List Int):List Int:=if ir K R T=true then jJ K R T else []
def Nr(B:Nat)(w:World)(K R:Nat)(T:List Int)(v:Value):Prop :=
 ∃(Y F:Bool) (oa:Option Addr) (on oc:Nat) (fa:Option Addr) (fn fc:Nat),(Y=true↔¬ dY K R T)/\(F=true↔∀x y,¬ dH K R T x y) /\
  v=.agg #[.int .i64 (eZ (DK K (pw K (2*R)) T)),.slice oa on oc,.bool Y,.bool F,.int .i64 (kQ K R T),.bool (ir K R T),.slice fa fn fc,.bool (bq K T (T.length/K)),.bool (bq K T 1)] /\
  aj B w (.slice oa on oc) (jF (DK K (pw K (2*R)) T))/\aj B w (.slice fa fn fc) (ye K R T)/\((Value.slice oa on oc).ownBlock=none\/(Value.slice oa on oc).ownBlock≠(Value.slice fa fn fc).ownBlock)
theorem look_ok(r:Nat->Addr)(K R:Nat)(va:Option Addr)(vn vc:Nat)(T:List Int)(w:World)(hg:ck r w)(hG:oT w)(h:ae w (.slice va vn vc) T)(hr:aG K R T)(hl:T.length<=256):
 Calls Tryz.prog 7 #[.agg #[.int .i64 K,.int .i64 R,.slice va vn vc]] w (jf (λx y w'=>y=.nilIface/\Nr w.heap.size w' K R T x) w):=by
 have b0:=ab w (.cells #[.int .i64 K,.int .i64 R,.slice va vn vc] 24);have q:az (w.alloc (.cells #[.int .i64 K,.int .i64 R,.slice va vn vc] 24)) w.heap.size (.int .i64 K) (.int .i64 R) (.slice va vn vc):=by simp[az,go_sem]
 obtain⟨f0,Rt,n45,-⟩:=(Rows.void w.heap.size w).NF (45,0) (Nat.le_refl _) 24 3 #[.int .i64 K,.int .i64 R,.slice va vn vc] rfl;obtain⟨f1,sR,n42,o1⟩:=Rt.NF (42,0) (by simp) 29 9 #[.int .i64 0,.slice none 0 0,.bool false,.bool false,.int .i64 0,.bool false,.slice none 0 0,.bool false,.bool false] rfl;replace n45:=(o1 _ (by decide)).trans n45;have b1:=ab (w.alloc (.cells #[.int .i64 K,.int .i64 R,.slice va vn vc] 24)) (.cells #[.int .i64 0,.slice none 0 0,.bool false,.bool false,.int .i64 0,.bool false,.slice none 0 0,.bool false,.bool false] 29);have gQ:(w.alloc (.cells #[.int .i64 K,.int .i64 R,.slice va vn vc] 24)).heap.size=w.heap.size+1:=by simp
 rw[gQ] at n42;replace q:=q.below b1;have si:=Below.step b0 b1;obtain⟨w1,EW⟩:=Ex ((w.alloc (.cells #[.int .i64 K,.int .i64 R,.slice va vn vc] 24)).alloc (.cells #[.int .i64 0,.slice none 0 0,.bool false,.bool false,.int .i64 0,.bool false,.slice none 0 0,.bool false,.bool false] 29));have Hv:((w.alloc (.cells #[.int .i64 K,.int .i64 R,.slice va vn vc] 24)).alloc (.cells #[.int .i64 0,.slice none 0 0,.bool false,.bool false,.int .i64 0,.bool false,.slice none 0 0,.bool false,.bool false] 29)).heap.size=w.heap.size+2:=by simp
 rw[EW] at q si sR Hv;have gq:=mg hr hl;have wN:=Hd (hg.below si);have hG1:=Hd (hG.below si);have Oj:=Hd (h.below si);obtain⟨S,hS⟩:=Ex (DK K (pw K (2*R)) T);obtain⟨i1,i2,i3⟩:=xq hr hl;obtain⟨L,hL⟩:=Ex (bq K T (T.length/K));obtain⟨P,hP⟩:=Ex (bq K T 1);have Am:(ir K R T=true->ye K R T=jJ K R T)/\(ir K R T=false->ye K R T=[]):=⟨λe=>by unfold ye;rw[if_pos e],λe=>by unfold ye;rw[e];rfl⟩;have Dj:(ku K R T=none->kQ K R T=zm K R T)/\(ku K R T≠none->kQ K R T=-1):=⟨λe=>by unfold kQ;rw[if_pos e],λe=>by unfold kQ;rw[if_neg e]⟩;have hB:w.heap.size<=w1.heap.size:=si.size;replace⟨hg,hG,h,hr,gq,hS,i1,i2⟩:=gp hg hG h hr gq hS i1 i2;replace⟨i3,hL,hP,Am,Dj,sR,n42,n45⟩:=gp i3 hL hP Am Dj sR n42 n45;replace⟨EW,gQ⟩:=bD EW gQ;clear b0 b1 o1 Rt;obtain⟨⟨z0,z1,z2⟩,-,-,-⟩:=id q;go_enter Tryz.func7,Tryz.ntmps7;go_upto_region 1 with fail;rw[EW.out];go_wp2_with fail;refine(mF r K R va vn vc T w1 wN.out Oj.out).mono ?_;rintro e w2 ⟨x,rfl,b2,he⟩;rw[gq.out] at he;obtain rfl:=he.dG;clear he z0 z1 z2;have mw:=Below.step si b2
 -- the boxes of the report and of the errors
 obtain⟨f3,kK,n40,o3⟩:=(sR.out.below b2).NF (40,0) mw.size 29 9 #[.int .i64 0,.slice none 0 0,.bool false,.bool false,.int .i64 0,.bool false,.slice none 0 0,.bool false,.bool false] rfl;have b3:=ab w2 (.cells #[.int .i64 0,.slice none 0 0,.bool false,.bool false,.int .i64 0,.bool false,.slice none 0 0,.bool false,.bool false] 29);have AW:=Below.step mw b3;obtain⟨f4,rq,n41,o4⟩:=kK.NF (41,0) AW.size 46 5 #[.nilIface,.nilIface,.nilIface,.nilIface,.nilIface] rfl;have b4:=ab (w2.alloc (.cells #[.int .i64 0,.slice none 0 0,.bool false,.bool false,.int .i64 0,.bool false,.slice none 0 0,.bool false,.bool false] 29)) (.cells #[.nilIface,.nilIface,.nilIface,.nilIface,.nilIface] 46);have hsz3:(w2.alloc (.cells #[.int .i64 0,.slice none 0 0,.bool false,.bool false,.int .i64 0,.bool false,.slice none 0 0,.bool false,.bool false] 29)).heap.size=w2.heap.size+1:=by simp
 rw[hsz3] at n41;have Kr:=Below.step b3 b4;have um:=Below.step mw Kr;obtain⟨w4,hw4⟩:=Ex ((w2.alloc (.cells #[.int .i64 0,.slice none 0 0,.bool false,.bool false,.int .i64 0,.bool false,.slice none 0 0,.bool false,.bool false] 29)).alloc (.cells #[.nilIface,.nilIface,.nilIface,.nilIface,.nilIface] 46));rw[hw4] at rq um Kr;have A4:gJ w.heap.size w4 w.heap.size w2.heap.size (w2.heap.size+1) (w.heap.size+1) [.int .i64 K,.int .i64 R,.slice va vn vc] [.int .i64 0,.slice none 0 0,.bool false,.bool false,.int .i64 0,.bool false,.slice none 0 0,.bool false,.bool false] [.nilIface,.nilIface,.nilIface,.nilIface,.nilIface] [.int .i64 0,.slice none 0 0,.bool false,.bool false,.int .i64 0,.bool false,.slice none 0 0,.bool false,.bool false] (.slice none 0 0) (.slice none 0 0) [] []:=by
  obtain⟨f5,qj,n43,o5⟩:=rq.y8 (43,0) (r':=aD (.slice none 0 0) []) (Below.refl _ _) (aj.nil _ _) (λk hk=>by cases hk);obtain⟨f6,Vk,n44,o6⟩:=qj.y8 (44,0) (r':=aD (.slice none 0 0) []) (Below.refl _ _) (aj.nil _ _) (λk hk=>by cases hk);exact⟨f6,Vk,(o6 _ (by decide)).trans ((o5 _ (by decide)).trans ((o4 _ (by decide)).trans n40)),(o6 _ (by decide)).trans ((o5 _ (by decide)).trans n41),(o6 _ (by decide)).trans ((o5 _ (by decide)).trans ((o4 _ (by decide)).trans ((o3 _ (by decide)).trans n42.out))),(o6 _ (by decide)).trans n43,n44,(o6 _ (by decide)).trans ((o5 _ (by decide)).trans ((o4 _ (by decide)).trans ((o3 _ (by decide)).trans n45.out)))⟩
 obtain⟨x,hx⟩:=Ex w2.heap.size;obtain⟨ee,CY⟩:=Ex (w2.heap.size+1);obtain⟨o,ho⟩:=Ex (w.heap.size+1);rw[CY,hx,ho] at A4;have D2:=b2.size;have hxe:¬ (x=ee):=by omega
 have hex:¬ (ee=x):=by omega
 have AY:¬ (x=o):=by omega
 have hox:¬ (o=x):=by omega
 have heo:¬ (ee=o):=by omega
 have hoe:¬ (o=ee):=by omega
 clear Hv D2;clear kK rq n40 n41 o3 o4 b3 b4 AW hsz3 f3 f4;replace⟨A4,hw4,hx,CY,ho⟩:=mV A4 hw4 hx CY ho;clear sR n42 n45 gQ EW q;go_upto_region 7 with fail;rw[hw4.out,CY.out,hx.out,ho.out];clear hw4;have z0:=A4.out.cr 0 (by decide);have z1:=A4.out.cr 1 (by decide);have z2:=A4.out.cr 2 (by decide);have kb:=A4.out.low;go_wp2_with fail;refine(Sw r K R va vn vc T w4 (hg.out.below um) (hG.out.below um) (h.out.below um) hr.out hl).mono ?_;rintro e w5 ⟨xv,_,zv,rfl,b5,tS⟩;clear z0 z1 z2;rw[hS.out] at tS;obtain⟨oa,on,oc,rfl,hor⟩:=tS.parts;obtain⟨xb,rfl⟩:∃b,xv=.bool b:=by
  cases S with
  | on _ _=>exact⟨_,tS.1⟩
  | dr _=>exact⟨_,tS.1⟩
  | nO=>exact⟨_,tS.1⟩
 have hcz:(zv=.nilIface/\(xb=true->eZ S=1)/\(xb=false->eZ S=2))\/∃p,zv=.iface 77 (.pointer (some p))/\bf r w5 (fresh xo 0 4) zv/\eZ S=3:=by
  cases S with
  | on _ _=>obtain⟨h1,-,h3⟩:=tS;injection h1 with h1;exact .inl ⟨h3,λ_=>rfl,λq=>by rw[h1] at q;cases q⟩
  | dr _=>obtain⟨h1,h3,-⟩:=tS;injection h1 with h1;exact .inl ⟨h3,(λq=>by rw[h1] at q;cases q),λ_=>rfl⟩
  | nO =>
   obtain⟨-,-,h3⟩:=tS;have h4:=h3;obtain⟨p,u,rfl,-⟩:=h4;exact .inr ⟨_,rfl,h3,rfl⟩
 clear tS;have A5:=A4.out.dr b5 um.size hor;have c5:=Below.step um b5;replace hor:=Hd hor;rcases hcz with ⟨rfl,k1,k2⟩ | ⟨zp,rfl,hze,k3⟩;case' inl =>
  have g1:=A5.cx 1 (by decide);have h1:=A5.fx 1;have S1:=A5.sx 1 (.slice oa on oc);have d1:=c5.setCell (p:=⟨x,1,none⟩) kb.1 (.slice oa on oc);have g2:=S1.ce 0 (by decide);have h2:=S1.fe 0;have S2:=S1.se 0 (.nilIface);have d2:=d1.setCell (p:=⟨ee,0,none⟩) kb.2.1 (.nilIface);replace⟨k1,k2⟩:=bD k1 k2;go_upto_block 0 with fail;clear g1 h1 g2 h2;go_cut [] from 27 (λwx=>Below w.heap.size w wx/\gJ w.heap.size wx w.heap.size x ee o [.int .i64 K,.int .i64 R,.slice va vn vc] [.int .i64 (eZ S),.slice oa on oc,.bool false,.bool false,.int .i64 0,.bool false,.slice none 0 0,.bool false,.bool false] [.nilIface,.nilIface,.nilIface,.nilIface,.nilIface] [.int .i64 0,.slice none 0 0,.bool false,.bool false,.int .i64 0,.bool false,.slice none 0 0,.bool false,.bool false] (.slice oa on oc) (.slice none 0 0) (jF S) []);case first =>
   have tb:=(hg.out.below d2).c4;have e1:=S2.ce 0 (by decide);go_wp2_with fail;refine(Errs.aa3 _ _ _).mono ?_;rintro e w6 ⟨rfl,rfl⟩;clear e1;cases xb with
   | true =>
    have g3:=S2.cx 0 (by decide);have h3:=S2.fx 0;have S3:=S2.sx 0 (.int .i64 1);have d3:=d2.setCell (p:=⟨x,0,none⟩) kb.1 (.int .i64 1);have RK:=S3;have Rb:=d3;have aX:Below w.heap.size w (((w5.setCell ⟨x,1,none⟩ (.slice oa on oc)).setCell ⟨ee,0,none⟩ .nilIface).setCell ⟨x,0,none⟩ (.int .i64 1))/\gJ w.heap.size (((w5.setCell ⟨x,1,none⟩ (.slice oa on oc)).setCell ⟨ee,0,none⟩ .nilIface).setCell ⟨x,0,none⟩ (.int .i64 1)) w.heap.size x ee o [.int .i64 K,.int .i64 R,.slice va vn vc] [.int .i64 (eZ S),.slice oa on oc,.bool false,.bool false,.int .i64 0,.bool false,.slice none 0 0,.bool false,.bool false] [.nilIface,.nilIface,.nilIface,.nilIface,.nilIface] [.int .i64 0,.slice none 0 0,.bool false,.bool false,.int .i64 0,.bool false,.slice none 0 0,.bool false,.bool false] (.slice oa on oc) (.slice none 0 0) (jF S) []:=by rw[k1.out rfl];exact⟨Rb,RK⟩
    clear RK Rb k1 k2;replace aX:=Hd aX;go_wp2;go_meet;case rel=>exact aX.out
   | false =>
    have g3:=S2.cx 0 (by decide);have h3:=S2.fx 0;have S3:=S2.sx 0 (.int .i64 2);have d3:=d2.setCell (p:=⟨x,0,none⟩) kb.1 (.int .i64 2);have RK:=S3;have Rb:=d3;have aX:Below w.heap.size w (((w5.setCell ⟨x,1,none⟩ (.slice oa on oc)).setCell ⟨ee,0,none⟩ .nilIface).setCell ⟨x,0,none⟩ (.int .i64 2))/\gJ w.heap.size (((w5.setCell ⟨x,1,none⟩ (.slice oa on oc)).setCell ⟨ee,0,none⟩ .nilIface).setCell ⟨x,0,none⟩ (.int .i64 2)) w.heap.size x ee o [.int .i64 K,.int .i64 R,.slice va vn vc] [.int .i64 (eZ S),.slice oa on oc,.bool false,.bool false,.int .i64 0,.bool false,.slice none 0 0,.bool false,.bool false] [.nilIface,.nilIface,.nilIface,.nilIface,.nilIface] [.int .i64 0,.slice none 0 0,.bool false,.bool false,.int .i64 0,.bool false,.slice none 0 0,.bool false,.bool false] (.slice oa on oc) (.slice none 0 0) (jF S) []:=by rw[k2.out rfl];exact⟨Rb,RK⟩
    clear RK Rb k1 k2;replace aX:=Hd aX;go_wp2;go_meet;case rel=>exact aX.out
 case' inr =>
  have g1:=A5.cx 1 (by decide);have h1:=A5.fx 1;have S1:=A5.sx 1 (.slice oa on oc);have d1:=c5.setCell (p:=⟨x,1,none⟩) kb.1 (.slice oa on oc);have g2:=S1.ce 0 (by decide);have h2:=S1.fe 0;have S2:=S1.se 0 ((.iface 77 (.pointer (some zp))));have d2:=d1.setCell (p:=⟨ee,0,none⟩) kb.2.1 ((.iface 77 (.pointer (some zp))));replace k3:=Hd k3;go_upto_block 0 with fail;clear g1 h1 g2 h2;go_cut [] from 27 (λwx=>Below w.heap.size w wx/\gJ w.heap.size wx w.heap.size x ee o [.int .i64 K,.int .i64 R,.slice va vn vc] [.int .i64 (eZ S),.slice oa on oc,.bool false,.bool false,.int .i64 0,.bool false,.slice none 0 0,.bool false,.bool false] [.nilIface,.nilIface,.nilIface,.nilIface,.nilIface] [.int .i64 0,.slice none 0 0,.bool false,.bool false,.int .i64 0,.bool false,.slice none 0 0,.bool false,.bool false] (.slice oa on oc) (.slice none 0 0) (jF S) []);case first =>
   have tb:=(hg.out.below d2).c4;have his:=Errs.B0 r 4 _ _ _ ((hze.set (b:=x) (i:=1) (λs q=>by rw[A5.cx 0 (by decide)] at q;cases q) (.slice oa on oc)).set (b:=ee) (i:=0) (λs q=>by rw[S1.ce 0 (by decide)] at q;cases q) (.iface 77 (.pointer (some zp))));have e1:=S2.ce 0 (by decide);replace hze:=Hd hze;go_wp2_with fail;refine his.mono ?_;rintro e w6 ⟨rfl,rfl⟩;clear his;clear e1;have g3:=S2.cx 0 (by decide);have h3:=S2.fx 0;have S3:=S2.sx 0 (.int .i64 3);have d3:=d2.setCell (p:=⟨x,0,none⟩) kb.1 (.int .i64 3);have g4:=S3.ce 0 (by decide);have h4:=S3.fe 0;have S4:=S3.se 0 (.nilIface);have d4:=d3.setCell (p:=⟨ee,0,none⟩) kb.2.1 (.nilIface);have RK:=S4;have Rb:=d4;have aX:Below w.heap.size w ((((w5.setCell ⟨x,1,none⟩ (.slice oa on oc)).setCell ⟨ee,0,none⟩ (.iface 77 (.pointer (some zp)))).setCell ⟨x,0,none⟩ (.int .i64 3)).setCell ⟨ee,0,none⟩ .nilIface)/\gJ w.heap.size ((((w5.setCell ⟨x,1,none⟩ (.slice oa on oc)).setCell ⟨ee,0,none⟩ (.iface 77 (.pointer (some zp)))).setCell ⟨x,0,none⟩ (.int .i64 3)).setCell ⟨ee,0,none⟩ .nilIface) w.heap.size x ee o [.int .i64 K,.int .i64 R,.slice va vn vc] [.int .i64 (eZ S),.slice oa on oc,.bool false,.bool false,.int .i64 0,.bool false,.slice none 0 0,.bool false,.bool false] [.nilIface,.nilIface,.nilIface,.nilIface,.nilIface] [.int .i64 0,.slice none 0 0,.bool false,.bool false,.int .i64 0,.bool false,.slice none 0 0,.bool false,.bool false] (.slice oa on oc) (.slice none 0 0) (jF S) []:=by rw[k3.out];exact⟨Rb,RK⟩
   clear RK Rb k3;replace aX:=Hd aX;go_wp2;go_meet;case rel=>exact aX.out
 all_goals
  obtain⟨bc,AC⟩:=hcut;clear S1 S2 d1 d2 A5 c5 um A4 kb;have kb:=AC.low;have Zz:=bc.size;have z0:=AC.cr 0 (by decide);have z1:=AC.cr 1 (by decide);have z2:=AC.cr 2 (by decide);go_wp2_with fail;refine(Sk r K R va vn vc T _ (hg.out.below bc) (h.out.below bc) hr.out hl).mono ?_;rintro e w7 ⟨_,_,_,_,rfl,b7,hp⟩;clear z0 z1 z2;obtain⟨rfl,Y,rfl,hY,e1,f1,g1,e2,f2,g2,e3,f3,g3,e4,f4,g4,e5,f5,g5,e6,f6,g6,rfl,rfl⟩:=hp.ans;clear hp;replace hY:=Hd hY;have A7:=AC.below b7;have c7:=Below.step bc b7;have g11:=A7.cx 2 (by decide);have h11:=A7.fx 2;have S11:=A7.sx 2 (.bool Y);have d11:=c7.setCell (p:=⟨x,2,none⟩) kb.1 (.bool Y);have g12:=S11.ce 1 (by decide);have h12:=S11.fe 1;have S12:=S11.se 1 (.nilIface);have d12:=d11.setCell (p:=⟨ee,1,none⟩) kb.2.1 (.nilIface);have z0:=S12.cr 0 (by decide);have z1:=S12.cr 1 (by decide);have z2:=S12.cr 2 (by decide);go_wp2_with fail;refine(Pf r K R va vn vc T _ (hg.out.below d12) (h.out.below d12) hr.out hl).mono ?_;rintro e w8 ⟨fy,fa9,fb9,_,rfl,b8,hf⟩;clear g11 h11 g12 h12 z0 z1 z2;obtain⟨F,rfl,hF⟩:∃F:Bool,fy=.bool F/\(F=true↔∀x y,¬ dH K R T x y):=by
   obtain⟨-,⟨rfl,-,-,hn⟩ | ⟨rfl,x1,y1,-,ht,-⟩⟩:=hf;.exact⟨true,rfl,⟨λ_=>hn,λ_=>rfl⟩⟩
   .exact⟨false,rfl,⟨λq=>(by cases q),λq=>absurd ht (q x1 y1)⟩⟩
  obtain⟨⟨qa1,qa2,qa3,rfl⟩,qb1,qb2,qb3,rfl⟩:(∃a n c,fa9=.slice a n c)/\∃a n c,fb9=.slice a n c:=by
   obtain⟨-,⟨-,rfl,rfl,-⟩ | ⟨-,x1,y1,-,-,-,-,o1,o2,-⟩⟩:=hf;.exact⟨⟨_,_,_,rfl⟩,_,_,_,rfl⟩
   .exact⟨o1.at.shape,o2.at.shape⟩
  obtain rfl:=hf.1;clear hf;replace hF:=Hd hF;have A8:=S12.below b8;have c8:=Below.step d12 b8;have g13:=A8.cx 3 (by decide);have h13:=A8.fx 3;have S13:=A8.sx 3 (.bool F);have d13:=c8.setCell (p:=⟨x,3,none⟩) kb.1 (.bool F);have g14:=S13.ce 2 (by decide);have h14:=S13.fe 2;have S14:=S13.se 2 (.nilIface);have d14:=d13.setCell (p:=⟨ee,2,none⟩) kb.2.1 (.nilIface);have z0:=S14.cr 0 (by decide);have z1:=S14.cr 1 (by decide);have z2:=S14.cr 2 (by decide);go_wp2_with fail;refine(KP r K R va vn vc T _ (hg.out.below d14) (h.out.below d14)).mono ?_;rintro e w9 ⟨_,ev,rfl,b9,J7,rfl⟩;clear g13 h13 g14 h14 z0 z1 z2;have A9:=S14.below b9;have c9:=Below.step d14 b9;obtain⟨N,hN⟩:=Ex (zm K R T);rw[hN];replace hN:=Hd hN;have hev2:=J7.Z4;go_upto_block 1 with fail;go_cut [] from 61 (λwx=>Below w.heap.size w wx/\gJ w.heap.size wx w.heap.size x ee o [.int .i64 K,.int .i64 R,.slice va vn vc] [.int .i64 (eZ S),.slice oa on oc,.bool Y,.bool F,.int .i64 (kQ K R T),.bool false,.slice none 0 0,.bool false,.bool false] [.nilIface,.nilIface,.nilIface,.nilIface,.nilIface] [.int .i64 0,.slice none 0 0,.bool false,.bool false,.int .i64 0,.bool false,.slice none 0 0,.bool false,.bool false] (.slice oa on oc) (.slice none 0 0) (jF S) []);case first =>
   by_cases hE:ku K R T=none
   .rw[hE] at J7;obtain rfl:=J7.dG;have Zo:=Dj.out.1 hE;rw[hN.out] at Zo;clear hev2;replace⟨hE,J7⟩:=bD hE J7;have g15:=A9.cx 4 (by decide);have h15:=A9.fx 4;have S15:=A9.sx 4 (.int .i64 N);have d15:=c9.setCell (p:=⟨x,4,none⟩) kb.1 (.int .i64 N);have RK:=S15;have Rb:=d15;have aX:gJ w.heap.size (w9.setCell ⟨x,4,none⟩ (.int .i64 N)) w.heap.size x ee o [.int .i64 K,.int .i64 R,.slice va vn vc] [.int .i64 (eZ S),.slice oa on oc,.bool Y,.bool F,.int .i64 (kQ K R T),.bool false,.slice none 0 0,.bool false,.bool false] [.nilIface,.nilIface,.nilIface,.nilIface,.nilIface] [.int .i64 0,.slice none 0 0,.bool false,.bool false,.int .i64 0,.bool false,.slice none 0 0,.bool false,.bool false] (.slice oa on oc) (.slice none 0 0) (jF S) []:=by rw[Zo];exact RK
    clear RK Zo;replace⟨aX,Rb⟩:=bD aX Rb;go_wp2;go_meet;case rel=>exact⟨Rb.out,aX.out⟩
   .have Zo:=Dj.out.2 hE;have hcode:ku K R T=fresh eJ 0 9\/ku K R T=fresh eJ 0 4:=by
     by_cases ig:dY K R T;.exact .inl (i1.out ig)
     .refine .inr (i2.out ig (Classical.byContradiction λq=>hE (i3.out ig q)))
    have tb:=(hg.out.below c9).c4;have tn:=(hg.out.below c9).c9;have Zt:=hg.out.below c9;clear hev2;replace⟨hE,Zt⟩:=bD hE Zt;rcases hcode with hc | hc
    .rw[hc] at J7;have hev':=J7;obtain⟨zp,zu,rfl,-⟩:=hev';replace⟨hc,J7⟩:=bD hc J7;go_wp2_with fail;refine(Errs.B0 r 9 _ _ _ J7.out).mono ?_;rintro e w11 ⟨rfl,rfl⟩;have g15:=A9.cx 4 (by decide);have h15:=A9.fx 4;have S15:=A9.sx 4 (.int .i64 (-1));have d15:=c9.setCell (p:=⟨x,4,none⟩) kb.1 (.int .i64 (-1));have RK:=S15;have Rb:=d15;have aX:gJ w.heap.size (w9.setCell ⟨x,4,none⟩ (.int .i64 (-1))) w.heap.size x ee o [.int .i64 K,.int .i64 R,.slice va vn vc] [.int .i64 (eZ S),.slice oa on oc,.bool Y,.bool F,.int .i64 (kQ K R T),.bool false,.slice none 0 0,.bool false,.bool false] [.nilIface,.nilIface,.nilIface,.nilIface,.nilIface] [.int .i64 0,.slice none 0 0,.bool false,.bool false,.int .i64 0,.bool false,.slice none 0 0,.bool false,.bool false] (.slice oa on oc) (.slice none 0 0) (jF S) []:=by rw[Zo];exact RK
     clear RK Zo;replace⟨aX,Rb⟩:=bD aX Rb;go_wp2;go_meet;case rel=>exact⟨Rb.out,aX.out⟩
    .rw[hc] at J7;have hev':=J7;obtain⟨zp,zu,rfl,-⟩:=hev';replace⟨hc,J7⟩:=bD hc J7;go_wp2_with fail;refine(Errs.is_no r 4 9 _ _ _ Zt.out J7.out (by decide) (by decide) (by decide)).mono ?_;rintro e w11 ⟨rfl,rfl⟩;go_wp2_with fail;refine(Errs.B0 r 4 _ _ _ J7.out).mono ?_;rintro e w11 ⟨rfl,rfl⟩;have g15:=A9.cx 4 (by decide);have h15:=A9.fx 4;have S15:=A9.sx 4 (.int .i64 (-1));have d15:=c9.setCell (p:=⟨x,4,none⟩) kb.1 (.int .i64 (-1));have RK:=S15;have Rb:=d15;have aX:gJ w.heap.size (w9.setCell ⟨x,4,none⟩ (.int .i64 (-1))) w.heap.size x ee o [.int .i64 K,.int .i64 R,.slice va vn vc] [.int .i64 (eZ S),.slice oa on oc,.bool Y,.bool F,.int .i64 (kQ K R T),.bool false,.slice none 0 0,.bool false,.bool false] [.nilIface,.nilIface,.nilIface,.nilIface,.nilIface] [.int .i64 0,.slice none 0 0,.bool false,.bool false,.int .i64 0,.bool false,.slice none 0 0,.bool false,.bool false] (.slice oa on oc) (.slice none 0 0) (jF S) []:=by rw[Zo];exact RK
     clear RK Zo;replace⟨aX,Rb⟩:=bD aX Rb;go_wp2;go_meet;case rel=>exact⟨Rb.out,aX.out⟩
  case rest =>
   obtain⟨bd,AD⟩:=hcut;clear J7 hev2;clear kb;have kb:=AD.low;have hBd:=bd.size;have z0:=AD.cr 0 (by decide);have z1:=AD.cr 1 (by decide);have z2:=AD.cr 2 (by decide);go_wp2_with fail;refine(of_ok K R _ T _ (h.out.below bd) hr.out).mono ?_;rintro e w12 ⟨fv9,_,_,rfl,mw,rfl,rfl,Hv,Ju⟩;clear z0 z1 z2;obtain⟨fa,fn,fc,rfl,RD⟩:∃a n c,fv9=.slice a n c/\aj wc.heap.size w12 (.slice a n c) (ye K R T):=by
    cases hi:ir K R T with
    | true=>have ho:=Hv hi;rw[<-Am.out.1 hi] at ho;obtain⟨a,n,c,rfl⟩:=ho.at.shape;exact⟨_,_,_,rfl,ho⟩
    | false=>rw[Ju hi,Am.out.2 hi];exact⟨_,_,_,rfl,aj.nil _ _⟩
   clear Hv Ju;have VH:=AD.jJ mw bd.size RD;have c12:=Below.step bd mw;replace RD:=Hd RD;have g21:=VH.cx 6 (by decide);have h21:=VH.fx 6;have S21:=VH.sx 6 (.slice fa fn fc);have d21:=c12.setCell (p:=⟨x,6,none⟩) kb.1 (.slice fa fn fc);have g22:=S21.cx 5 (by decide);have h22:=S21.fx 5;have S22:=S21.sx 5 (.bool (ir K R T));have d22:=d21.setCell (p:=⟨x,5,none⟩) kb.1 (.bool (ir K R T));have g23:=S22.ce 3 (by decide);have h23:=S22.fe 3;have S23:=S22.se 3 (.nilIface);have d23:=d22.setCell (p:=⟨ee,3,none⟩) kb.2.1 (.nilIface);have z0:=S23.cr 0 (by decide);have z1:=S23.cr 1 (by decide);have z2:=S23.cr 2 (by decide);go_wp2_with fail;refine(Tj K R va vn vc T _ (h.out.below d23) hr.out).mono ?_;rintro e w13 ⟨_,_,_,rfl,AW,rfl,rfl,rfl⟩;clear g21 h21 g22 h22 g23 h23 z0 z1 z2;rw[hL.out,hP.out];have A13:=S23.below AW;have c13:=Below.step d23 AW;have g24:=A13.cx 7 (by decide);have h24:=A13.fx 7;have S24:=A13.sx 7 (.bool L);have d24:=c13.setCell (p:=⟨x,7,none⟩) kb.1 (.bool L);have g25:=S24.cx 8 (by decide);have h25:=S24.fx 8;have S25:=S24.sx 8 (.bool P);have d25:=d24.setCell (p:=⟨x,8,none⟩) kb.1 (.bool P);have g26:=S25.ce 4 (by decide);have h26:=S25.fe 4;have S26:=S25.se 4 (.nilIface);have d26:=d25.setCell (p:=⟨ee,4,none⟩) kb.2.1 (.nilIface);have AE:=S26;have bE:=d26;obtain⟨WE,hWE⟩:=Ex ((((w13.setCell ⟨x,7,none⟩ (.bool L)).setCell ⟨x,8,none⟩ (.bool P)).setCell ⟨ee,4,none⟩ .nilIface));rw[hWE] at AE bE;replace⟨AE,bE,hWE⟩:=dO AE bE hWE;go_upto_region 23 with fail;rw[hWE.out];replace AE:=AE.out;replace bE:=bE.out;clear g24 h24 g25 h25 g26 h26;clear hWE;have ce0:=AE.ce 0 (by decide);have ce1:=AE.ce 1 (by decide);have ce2:=AE.ce 2 (by decide);have ce3:=AE.ce 3 (by decide);have ce4:=AE.ce 4 (by decide);have cx0:=AE.cx 0 (by decide);have co0:=AE.co 0 (by decide);have cf0:=AE.fo 0;have cx1:=AE.cx 1 (by decide);have co1:=AE.co 1 (by decide);have cf1:=AE.fo 1;have cx2:=AE.cx 2 (by decide);have co2:=AE.co 2 (by decide);have cf2:=AE.fo 2;have cx3:=AE.cx 3 (by decide);have co3:=AE.co 3 (by decide);have cf3:=AE.fo 3;have cx4:=AE.cx 4 (by decide);have co4:=AE.co 4 (by decide);have cf4:=AE.fo 4;have cx5:=AE.cx 5 (by decide);have co5:=AE.co 5 (by decide);have cf5:=AE.fo 5;have cx6:=AE.cx 6 (by decide);have co6:=AE.co 6 (by decide);have cf6:=AE.fo 6;have cx7:=AE.cx 7 (by decide);have co7:=AE.co 7 (by decide);have cf7:=AE.fo 7;have cx8:=AE.cx 8 (by decide);have co8:=AE.co 8 (by decide);have cf8:=AE.fo 8;have AF:=(((((((((AE.so 0 (.int .i64 (eZ S))).so 1 (.slice oa on oc)).so 2 (.bool Y)).so 3 (.bool F)).so 4 (.int .i64 (kQ K R T))).so 5 (.bool (ir K R T))).so 6 (.slice fa fn fc)).so 7 (.bool L)).so 8 (.bool P));have bF:=(((((((((bE.setCell (p:=⟨o,0,none⟩) kb.2.2 (.int .i64 (eZ S))).setCell (p:=⟨o,1,none⟩) kb.2.2 (.slice oa on oc)).setCell (p:=⟨o,2,none⟩) kb.2.2 (.bool Y)).setCell (p:=⟨o,3,none⟩) kb.2.2 (.bool F)).setCell (p:=⟨o,4,none⟩) kb.2.2 (.int .i64 (kQ K R T))).setCell (p:=⟨o,5,none⟩) kb.2.2 (.bool (ir K R T))).setCell (p:=⟨o,6,none⟩) kb.2.2 (.slice fa fn fc)).setCell (p:=⟨o,7,none⟩) kb.2.2 (.bool L)).setCell (p:=⟨o,8,none⟩) kb.2.2 (.bool P));obtain⟨WF,GC⟩:=Ex ((((((((((WE.setCell ⟨o,0,none⟩ (.int .i64 (eZ S))).setCell ⟨o,1,none⟩ (.slice oa on oc)).setCell ⟨o,2,none⟩ (.bool Y)).setCell ⟨o,3,none⟩ (.bool F)).setCell ⟨o,4,none⟩ (.int .i64 (kQ K R T))).setCell ⟨o,5,none⟩ (.bool (ir K R T))).setCell ⟨o,6,none⟩ (.slice fa fn fc)).setCell ⟨o,7,none⟩ (.bool L)).setCell ⟨o,8,none⟩ (.bool P)));rw[GC] at AF bF;have cr0:=AF.co 0 (by decide);have cr1:=AF.co 1 (by decide);have cr2:=AF.co 2 (by decide);have cr3:=AF.co 3 (by decide);have cr4:=AF.co 4 (by decide);have cr5:=AF.co 5 (by decide);have cr6:=AF.co 6 (by decide);have cr7:=AF.co 7 (by decide);have cr8:=AF.co 8 (by decide);replace⟨GC,cr0,cr1,cr2,cr3,cr4,cr5,cr6⟩:=gp GC cr0 cr1 cr2 cr3 cr4 cr5 cr6;replace⟨cr7,cr8⟩:=bD cr7 cr8;obtain⟨l1,l2,l3⟩:=AF.lists;have Vr:Nr w.heap.size WF K R T (.agg #[.int .i64 (eZ S),.slice oa on oc,.bool Y,.bool F,.int .i64 (kQ K R T),.bool (ir K R T),.slice fa fn fc,.bool L,.bool P]):=⟨Y,F,oa,on,oc,fa,fn,fc,hY.out,hF.out,by rw[hS.out,hL.out,hP.out],by rw[hS.out];exact l1,l2,l3⟩;clear AE AF l1 l2 l3 bE wN hG1 Oj hB i1 i2 i3 Am Dj gq AC AD bc bd hN;replace⟨Vr,bF⟩:=bD Vr bF;have ix0:=adM;have ix1:=ac9;have ix2:=ac1;have ix3:=aaQ;have ix4:=ade;go_wp2;refine wp_loop_rounds 6 ?_;iterate 6
    rw[rounds_succ];go_wp2
   rw[GC.out];exact bodyPost_ret (v:=.tuple #[.agg #[.int .i64 (eZ S),.slice oa on oc,.bool Y,.bool F,.int .i64 (kQ K R T),.bool (ir K R T),.slice fa fn fc,.bool L,.bool P],.nilIface]) (by simp[results,Tryz.results7,go_sem,cr0.out,cr1.out,cr2.out,cr3.out,cr4.out,cr5.out,cr6.out,cr7.out,cr8.out]) rfl ⟨_,_,rfl,bF.out,rfl,Vr.out⟩
theorem E5{K R:Nat}{T:List Int}(h:aG K R T)(hp:bq K T 1=true){u:List Int}(hu:bj K u)(hl:u.length=2*R){y:Int}(y0:0<=y)(y1:y<K):∃s:Int,0<=s/\s<K/\T.getD (aI K (u++[s])) 0=y:=by
 have h1:=h.k1;have hn:=gH u hu;rw[hl] at hn;have hf:=xH hp (aI K u*K) (by rw[h.half.2];exact Nat.mul_lt_mul_of_pos_right hn (by omega)) (by rw[Nat.div_one,Nat.mul_mod_left]);obtain⟨s,hs,he⟩:=Pb h1 h.syms hf y.toNat (by omega);rw[Nat.mul_one] at he;refine⟨s,by omega,by omega,?_⟩;rw[cp,Int.toNat_natCast,he];omega
theorem Tt{K R:Nat}{T:List Int}(h:aG K R T)(hp:bq K T (T.length/K)=true){u:List Int}(hu:bj K u)(hl:u.length=2*R){y:Int}(y0:0<=y)(y1:y<K):∃s:Int,0<=s/\s<K/\T.getD (aI K (s::u)) 0=y:=by
 obtain⟨s,s0,s1,e⟩:=E5 (xA h) (by rw[(Eo h).2];exact hp) (iy hu) (by rw[List.length_reverse,hl]) y0 y1;refine⟨s,s0,s1,?_⟩;have sw:bj K (u.reverse++[s]):=uM s0 s1 (iy hu);rw[yh h.k1 h.len _ sw (by simp[hl]),List.reverse_append,List.reverse_reverse] at e;exact e
theorem OH{a b:List Int}(hl:a.length=b.length)(bM:a≠b):∃t,t<a.length/\a.getD t 0≠b.getD t 0/\∀i,i<t->a.getD i 0=b.getD i 0:=by
 have key:∀n,(∃t,t<=n/\t<a.length/\a.getD t 0≠b.getD t 0)->∃t,t<a.length/\a.getD t 0≠b.getD t 0/\∀i,i<t->a.getD i 0=b.getD i 0:=by
  intro n;induction n with
  | zero=>rintro⟨t,h1,h2,h3⟩;exact⟨t,h2,h3,λi hi=>by omega⟩
  | succ n ih =>
   rintro⟨t,h1,h2,h3⟩;by_cases q:∃t,t<=n/\t<a.length/\a.getD t 0≠b.getD t 0;.exact ih q
   .refine⟨t,h2,h3,λi hi=>Classical.byContradiction λr=>q ⟨i,by omega,by omega,r⟩⟩
 obtain⟨j,hj,h⟩:=ne_at hl bM;exact key j ⟨j,Nat.le_refl _,hj,h⟩
theorem uk{K R:Nat}{T:List Int}(h:aG K R T)(hp:bq K T 1=true)(a b:List Int):¬ dH K R T a b:=λt=>by
 have hw:=(qd h).1 hp;have hl:=t.len;obtain⟨i,hi,bM,heq⟩:=OH hl t.ne;have Au:2*R<=i:=by
  apply Classical.byContradiction;intro q;have e:=congrArg (fun l:List Int=>l.getD i 0) t.front;rw[List.getD_eq_getElem?_getD,List.getD_eq_getElem?_getD,List.getElem?_take,List.getElem?_take,if_pos (by omega),if_pos (by omega),<-List.getD_eq_getElem?_getD,<-List.getD_eq_getElem?_getD] at e;exact bM e
 have hu:(a.drop (i-2*R)).take (2*R)=(b.drop (i-2*R)).take (2*R):=tf (by simp only[List.length_take,List.length_drop];omega) λk hk=>by
  rw[List.length_take,List.length_drop] at hk;rw[mf (by omega),mf (by omega)];exact heq _ (by omega)
 have YJ:∀c:List Int,c.length=a.length->(c.drop (i-2*R)).take (2*R+1)=(c.drop (i-2*R)).take (2*R)++[c.getD i 0]:=λc hc=>by
  have hk:2*R<(c.drop (i-2*R)).length:=by rw[List.length_drop];omega
  rw[List.take_succ_eq_append_getElem hk];congr 2;rw[List.getElem_drop];have:i-2*R+2*R=i:=by omega
  simp[this,List.getD,show i<c.length by omega]
 have e:=congrArg (fun l:List Int=>l.getD (i-2*R) 0) t.img;rw[gj _ _ _ _ _ (by omega),gj _ _ _ _ _ (by omega),YJ a rfl,YJ b hl.symm,hu] at e;have ga:=mH t.sa hi;have gb:=mH t.sb (i:=i) (by omega);exact hw _ (dN (eE t.sb _) _) (by rw[List.length_take,List.length_drop];omega) _ _ ga.1 ga.2 gb.1 gb.2 bM e
theorem Dq{K R:Nat}{T:List Int}(h:aG K R T)(hp:bq K T (T.length/K)=true\/bq K T 1=true)(a b:List Int):¬ dH K R T a b:=λt=>by
 rcases hp with hp | hp;.exact uk (xA h) (by rw[(Eo h).2];exact hp) _ _ (Pu h t)
 .exact uk h hp a b t
def EX(K R:Nat)(T:List Int)(z:Int)(x:List Int):Prop:=∀j,j+2*R<x.length->T.getD (aI K ((x.drop j).take (2*R+1))) 0=z
theorem QD{K R:Nat}{T:List Int}(h:aG K R T)(hp:bq K T 1=true){z:Int}(z0:0<=z)(z1:z<K){x:List Int}(sx:bj K x)(hx:EX K R T z x)(hl:2*R<=x.length):∃v:Int,0<=v/\v<K/\EX K R T z (x++[v]):=by
 obtain⟨v,v0,v1,e⟩:=E5 h hp (u:=x.drop (x.length-2*R)) (eE sx _) (by rw[List.length_drop];omega) z0 z1;refine⟨v,v0,v1,λj hj=>?_⟩;rw[List.length_append,List.length_singleton] at hj;by_cases q:j+2*R<x.length;.rw[List.drop_append_of_le_length (by omega),List.take_append_of_le_length (by rw[List.length_drop];omega)];exact hx j q
 .obtain rfl:j=x.length-2*R:=by omega
  rw[List.drop_append_of_le_length (by omega),List.take_of_length_le (by simp;omega)];exact e
theorem UL{K R:Nat}{T:List Int}(h:aG K R T)(hp:bq K T (T.length/K)=true){z:Int}(z0:0<=z)(z1:z<K){x:List Int}(sx:bj K x)(hx:EX K R T z x)(hl:2*R<=x.length):∃v:Int,0<=v/\v<K/\EX K R T z (v::x):=by
 obtain⟨v,v0,v1,e⟩:=Tt h hp (u:=x.take (2*R)) (dN sx _) (by rw[List.length_take];omega) z0 z1;refine⟨v,v0,v1,λj hj=>?_⟩;rw[List.length_cons] at hj;cases j with
 | zero=>rw[List.drop_zero,List.take_succ_cons];exact e
 | succ j=>rw[List.drop_succ_cons];exact hx j (by omega)
theorem TO{K R:Nat}{T:List Int}(h:aG K R T)(hl:bq K T (T.length/K)=true)(hr:bq K T 1=true)(hK:2<=K)(hR:1<=R){z:Int}(z0:0<=z)(z1:z<K):∀L M,∃x,bj K x/\EX K R T z x/\x.length=L+2*R+M/\x.getD L 0=1:=by
 intro L;have left:∃x,bj K x/\EX K R T z x/\x.length=L+2*R/\x.getD L 0=1:=by
  induction L with
  | zero =>
   refine⟨1::List.replicate (2*R-1) 0,λq hq=>?_,λj hj=>?_,by simp;omega,rfl⟩
   .rcases List.mem_cons.1 hq with rfl | hq;.omega
    .rw[List.eq_of_mem_replicate hq];omega
   .rw[List.length_cons,List.length_replicate] at hj;omega
  | succ L ih =>
   obtain⟨x,sx,ax,lx,dx⟩:=ih;obtain⟨v,v0,v1,av⟩:=UL h hl z0 z1 sx ax (by omega);exact⟨v::x,DV v0 v1 sx,av,by simp[lx];omega,by rw[List.getD_cons_succ];exact dx⟩
 intro M;induction M with
 | zero=>exact left
 | succ M ih =>
  obtain⟨x,sx,ax,lx,dx⟩:=ih;obtain⟨v,v0,v1,av⟩:=QD h hr z0 z1 sx ax (by omega);refine⟨x++[v],uM v0 v1 sx,av,by simp[lx];omega,?_⟩;rw[<-dx];simp[List.getD,List.getElem?_append_left (show L<x.length by omega)]
theorem Db{K R:Nat}{T:List Int}(h:aG K R T)(hl:bq K T (T.length/K)=true)(hr:bq K T 1=true)(hK:2<=K)(hR:1<=R):dY K R T:=λn=>by
 have hT:0<T.length:=by rw[h.len];exact eN _ h.k1
 have gz:=mH h.syms hT;obtain⟨x,sx,ax,lx,dx⟩:=TO h hl hr hK hR gz.1 gz.2 n (n+1);have sO:bj K (List.replicate (2*n+1) (0:Int)):=λq hq=>by rw[List.eq_of_mem_replicate hq];omega
 refine⟨x.take (2*n+1),List.replicate (2*n+1) 0,dN sx _,sO,by rw[List.length_take];omega,by simp,?_,?_⟩;.rw[List.getD_eq_getElem?_getD,List.getElem?_take,if_pos (by omega),<-List.getD_eq_getElem?_getD,dx];simp[List.getD,show n<2*n+1 by omega]
 .refine tf (by rw[aM,aM,List.length_take];simp;omega) λj hj=>?_;rw[aM,List.length_take] at hj;rw[gj _ _ _ _ _ (by rw[List.length_take];omega),gj _ _ _ _ _ (by simp;omega)];have e1:((x.take (2*n+1)).drop j).take (2*R+1)=(x.drop j).take (2*R+1):=by rw[List.drop_take,List.take_take,Nat.min_eq_left (by omega)]
  rw[e1,ax j (by omega),List.drop_replicate,List.take_replicate];congr 1;have key:∀m,aI K (List.replicate m (0:Int))=0:=λm=>by
   induction m with
   | zero=>rfl
   | succ m ih=>rw[List.replicate_succ',cp,ih];simp
  exact(key _).symm
def BR:ByteArray:=⟨#[108,97,98]⟩
abbrev Ye:Value:=.agg #[.int .i64 0,.slice none 0 0,.bool false,.bool false,.int .i64 0,.bool false,.slice none 0 0,.bool false,.bool false]
structure nK (w:World) (g:Nat) (v0 v1 v2 v3 v4 v5 v6 v7 v8:Value):Prop where
 c0:w.cell? ⟨g,0,none⟩=some v0
 c1:w.cell? ⟨g,1,none⟩=some v1
 c2:w.cell? ⟨g,2,none⟩=some v2
 c3:w.cell? ⟨g,3,none⟩=some v3
 c4:w.cell? ⟨g,4,none⟩=some v4
 c5:w.cell? ⟨g,5,none⟩=some v5
 c6:w.cell? ⟨g,6,none⟩=some v6
 c7:w.cell? ⟨g,7,none⟩=some v7
 c8:w.cell? ⟨g,8,none⟩=some v8
theorem nK.below{w w':World}{g:Nat}{v0 v1 v2 v3 v4 v5 v6 v7 v8:Value}(h:nK w g v0 v1 v2 v3 v4 v5 v6 v7 v8)(hb:Below w.heap.size w w'):nK w' g v0 v1 v2 v3 v4 v5 v6 v7 v8 :=
 ⟨au hb h.c0,au hb h.c1,au hb h.c2,au hb h.c3,au hb h.c4,au hb h.c5,au hb h.c6,au hb h.c7,au hb h.c8⟩
theorem nK.alloc(w:World)(T:TypeId)(v0 v1 v2 v3 v4 v5 v6 v7 v8:Value):nK (w.alloc (.cells #[v0,v1,v2,v3,v4,v5,v6,v7,v8] T)) w.heap.size v0 v1 v2 v3 v4 v5 v6 v7 v8:=by
 refine⟨?_,?_,?_,?_,?_,?_,?_,?_,?_⟩<;>simp[go_sem]
theorem U5(r:Nat->Addr)(k R:Int)(va:Option Addr)(vn vc:Nat)(T:List Int)(t:Int×List (ByteArray×Int))(w:World)(hg:ck r w)(h:ae w (.slice va vn vc) T)(hc:cd k R T=some t):
 Calls Tryz.prog 7 #[.agg #[.int .i64 k,.int .i64 R,.slice va vn vc]] w (jf (λx y w'=>x=Ye/\bf r w' (under BR 0 (some t)) y) w):=by
 have b0:=ab w (.cells #[.int .i64 k,.int .i64 R,.slice va vn vc] 24);have b1:=ab (w.alloc (.cells #[.int .i64 k,.int .i64 R,.slice va vn vc] 24)) (.cells #[.int .i64 0,.slice none 0 0,.bool false,.bool false,.int .i64 0,.bool false,.slice none 0 0,.bool false,.bool false] 29);have si:=Below.step b0 b1;have q:az (w.alloc (.cells #[.int .i64 k,.int .i64 R,.slice va vn vc] 24)) w.heap.size (.int .i64 k) (.int .i64 R) (.slice va vn vc):=by simp[az,go_sem]
 replace q:=q.below b1;obtain⟨f1,sR,n42,-⟩:=((Rows.void w.heap.size w).below b0).NF (42,0) (by simp) 29 9 #[.int .i64 0,.slice none 0 0,.bool false,.bool false,.int .i64 0,.bool false,.slice none 0 0,.bool false,.bool false] rfl;have gQ:(w.alloc (.cells #[.int .i64 k,.int .i64 R,.slice va vn vc] 24)).heap.size=w.heap.size+1:=by simp
 rw[gQ] at n42;obtain⟨w1,EW⟩:=Ex ((w.alloc (.cells #[.int .i64 k,.int .i64 R,.slice va vn vc] 24)).alloc (.cells #[.int .i64 0,.slice none 0 0,.bool false,.bool false,.int .i64 0,.bool false,.slice none 0 0,.bool false,.bool false] 29));rw[EW] at q si sR;replace hg:=Hd (hg.below si);replace h:=Hd (h.below si);replace⟨hc,sR⟩:=bD hc sR;obtain⟨o,ho⟩:=Ex (w.heap.size+1);rw[ho] at n42;replace⟨ho,n42,EW⟩:=dO ho n42 EW;clear b0 b1 gQ;obtain⟨⟨z0,z1,z2⟩,-,-,-⟩:=q;go_enter Tryz.func7,Tryz.ntmps7;go_upto_region 1 with fail;rw[EW.out,ho.out];go_wp2_with fail;refine(mF r k R va vn vc T w1 hg.out h.out).mono ?_;rintro e w2 ⟨x,rfl,b2,he⟩;rw[hc.out] at he;obtain⟨T2,p2,rfl⟩:=he.bX;clear z0 z1 z2;have mw:=Below.step si b2;have hund:=om r BR 0 (some t) _ w2 he;replace he:=Hd he;go_wp2_with fail;refine hund.mono ?_;rintro e w3 ⟨y,rfl,b3,hy⟩;clear hund;have AW:=Below.step mw b3;have R3:=(sR.out.below b2).below b3;have co0:=R3.bz n42.out 0 (by decide);have cf0:=R3.ml n42.out 0;have co1:=R3.bz n42.out 1 (by decide);have cf1:=R3.ml n42.out 1;have co2:=R3.bz n42.out 2 (by decide);have cf2:=R3.ml n42.out 2;have co3:=R3.bz n42.out 3 (by decide);have cf3:=R3.ml n42.out 3;have co4:=R3.bz n42.out 4 (by decide);have cf4:=R3.ml n42.out 4;have co5:=R3.bz n42.out 5 (by decide);have cf5:=R3.ml n42.out 5;have co6:=R3.bz n42.out 6 (by decide);have cf6:=R3.ml n42.out 6;have co7:=R3.bz n42.out 7 (by decide);have cf7:=R3.ml n42.out 7;have co8:=R3.bz n42.out 8 (by decide);have cf8:=R3.ml n42.out 8;have lo:=(R3.DH n42.out).1;have bF:=(((((((((AW.setCell (p:=⟨o,0,none⟩) lo (.int .i64 0)).setCell (p:=⟨o,1,none⟩) lo (.slice none 0 0)).setCell (p:=⟨o,2,none⟩) lo (.bool false)).setCell (p:=⟨o,3,none⟩) lo (.bool false)).setCell (p:=⟨o,4,none⟩) lo (.int .i64 0)).setCell (p:=⟨o,5,none⟩) lo (.bool false)).setCell (p:=⟨o,6,none⟩) lo (.slice none 0 0)).setCell (p:=⟨o,7,none⟩) lo (.bool false)).setCell (p:=⟨o,8,none⟩) lo (.bool false));obtain⟨g0,Q0,m0,-⟩:=R3.yu n42.out 0 (.int .i64 0);obtain⟨g1,Q1,m1,-⟩:=Q0.yu m0 1 (.slice none 0 0);obtain⟨g2,Q2,m2,-⟩:=Q1.yu m1 2 (.bool false);obtain⟨g3,Q3,m3,-⟩:=Q2.yu m2 3 (.bool false);obtain⟨g4,Q4,m4,-⟩:=Q3.yu m3 4 (.int .i64 0);obtain⟨g5,Q5,m5,-⟩:=Q4.yu m4 5 (.bool false);obtain⟨g6,Q6,m6,-⟩:=Q5.yu m5 6 (.slice none 0 0);obtain⟨g7,Q7,m7,-⟩:=Q6.yu m6 7 (.bool false);obtain⟨g8,Q8,m8,-⟩:=Q7.yu m7 8 (.bool false);have hyF:bf r (((((((((w3.setCell ⟨o,0,none⟩ (.int .i64 0)).setCell ⟨o,1,none⟩ (.slice none 0 0)).setCell ⟨o,2,none⟩ (.bool false)).setCell ⟨o,3,none⟩ (.bool false)).setCell ⟨o,4,none⟩ (.int .i64 0)).setCell ⟨o,5,none⟩ (.bool false)).setCell ⟨o,6,none⟩ (.slice none 0 0)).setCell ⟨o,7,none⟩ (.bool false)).setCell ⟨o,8,none⟩ (.bool false)) (under BR 0 (some t)) y:=by
  have cs:∀(W:World) (f:Names) (cs:List Value) (c0:∀s,cs[0]?≠some (.string s)) (R:Rows w.heap.size W f) (n:f (42,0)=some (tP 29 9 o cs)) (k:Nat) (u:Value),bf r W (under BR 0 (some t)) y->bf r (W.setCell ⟨o,k,none⟩ u) (under BR 0 (some t)) y:=λW f cs c0 R n k u h=>h.set (b:=o) (i:=k) (λs q=>c0 s ((R.bz n 0 (by decide)).symm.trans q)) u;exact(cs _ _ _ (by intro s q;simp at q) Q7 m7 8 _ (cs _ _ _ (by intro s q;simp at q) Q6 m6 7 _ (cs _ _ _ (by intro s q;simp at q) Q5 m5 6 _ (cs _ _ _ (by intro s q;simp at q) Q4 m4 5 _ (cs _ _ _ (by intro s q;simp at q) Q3 m3 4 _ (cs _ _ _ (by intro s q;simp at q) Q2 m2 3 _ (cs _ _ _ (by intro s q;simp at q) Q1 m1 2 _ (cs _ _ _ (by intro s q;simp at q) Q0 m0 1 _ (cs _ _ _ (by intro s q;simp at q) R3 n42.out 0 _ hy)))))))))
 obtain⟨WF,GC⟩:=Ex ((((((((((w3.setCell ⟨o,0,none⟩ (.int .i64 0)).setCell ⟨o,1,none⟩ (.slice none 0 0)).setCell ⟨o,2,none⟩ (.bool false)).setCell ⟨o,3,none⟩ (.bool false)).setCell ⟨o,4,none⟩ (.int .i64 0)).setCell ⟨o,5,none⟩ (.bool false)).setCell ⟨o,6,none⟩ (.slice none 0 0)).setCell ⟨o,7,none⟩ (.bool false)).setCell ⟨o,8,none⟩ (.bool false)));rw[GC] at bF hyF Q8;have cr0:=Hd (Q8.bz m8 0 (by decide));have cr1:=Hd (Q8.bz m8 1 (by decide));have cr2:=Hd (Q8.bz m8 2 (by decide));have cr3:=Hd (Q8.bz m8 3 (by decide));have cr4:=Hd (Q8.bz m8 4 (by decide));have cr5:=Hd (Q8.bz m8 5 (by decide));have cr6:=Hd (Q8.bz m8 6 (by decide));have cr7:=Hd (Q8.bz m8 7 (by decide));have cr8:=Hd (Q8.bz m8 8 (by decide));replace⟨hyF,GC,bF⟩:=dO hyF GC bF;clear R3 n42 sR hg h hy he Q0 m0 Q1 m1 Q2 m2 Q3 m3 Q4 m4 Q5 m5 Q6 m6 Q7 m7 Q8 m8 si b2 mw b3 AW lo;obtain⟨T3,p3,rfl⟩:∃T a,y=.iface T (.pointer (some a)):=by
  have hh:=hyF.out;unfold under at hh;exact hh.bX
 go_wp2;rw[GC.out];exact bodyPost_ret (v:=.tuple #[Ye,.iface T3 (.pointer (some p3))]) (by simp[results,Tryz.results7,go_sem,cr0.out,cr1.out,cr2.out,cr3.out,cr4.out,cr5.out,cr6.out,cr7.out,cr8.out]) rfl ⟨_,_,rfl,bF.out,rfl,hyF.out⟩
def aay(Y F:Bool):ByteArray:=if Y=true then ⟨#[114,101,118,101,114,115,105,98,108,101]⟩ else if F=true then ⟨#[111,110,116,111]⟩ else ⟨#[108,111,115,115,121]⟩
theorem Tl(v0 v1 v4 v5 v6 v7 v8:Value)(Y F:Bool)(w:World):
 Calls Tryz.prog 12 #[.agg #[v0,v1,.bool Y,.bool F,v4,v5,v6,v7,v8]] w (cz (λx _=>x=.string (aay Y F)) w):=by
 have b0:=ab w (.cells #[v0,v1,.bool Y,.bool F,v4,v5,v6,v7,v8] 29);cases Y<;>cases F<;>(go_enter Tryz.func12,Tryz.ntmps12;go_wp2;go_ret;exact⟨_,rfl,b0,rfl⟩)
theorem NS(r:Nat->Addr)(k R:Int)(va:Option Addr)(vn vc:Nat)(T:List Int)(w:World)(hg:ck r w)(h:ae w (.slice va vn vc) T):
 Calls Tryz.prog 5 #[.agg #[.int .i64 k,.int .i64 R,.slice va vn vc]] w (cz (λx _=>∃b,x=.bool b/\(b=true↔64<T.length/\cd k R T=none)) w):=by
 have b0:=ab w (.cells #[.int .i64 k,.int .i64 R,.slice va vn vc] 24);have q:az (w.alloc (.cells #[.int .i64 k,.int .i64 R,.slice va vn vc] 24)) w.heap.size (.int .i64 k) (.int .i64 R) (.slice va vn vc):=by simp[az,go_sem]
 have lT:=h.len;obtain⟨tl,ko⟩:=Ex T.length;rw[ko] at lT ⊢;replace ko:=Hd ko;replace hg:=Hd (hg.below b0);replace h:=Hd (h.below b0);obtain⟨⟨z0,z1,z2⟩,-,-,-⟩:=q;by_cases c:64<tl;.have d:decide (64<(tl:Int))=true:=decide_eq_true (by omega);have d':decide ((tl:Int)>64)=true:=decide_eq_true (by omega);go_enter Tryz.func5,Tryz.ntmps5;go_wp2_with fail;refine(mF r k R va vn vc T _ hg.out h.out).mono ?_;rintro e w1 ⟨x,rfl,b1,he⟩;have si:=Below.step b0 b1;clear z0 z1 z2;cases hc:cd k R T with
  | none =>
   rw[hc] at he;obtain rfl:=he.dG;clear he;go_wp2;go_ret;exact⟨_,rfl,si,true,rfl,⟨λ_=>⟨c,hc⟩,λ_=>rfl⟩⟩
  | some t =>
   rw[hc] at he;obtain⟨T4,p4,rfl⟩:=he.bX;clear he;go_wp2;go_ret;exact⟨_,rfl,si,false,rfl,⟨λq=>(by cases q),λq=>(by rw[hc] at q;cases q.2)⟩⟩
 .have d:decide (64<(tl:Int))=false:=decide_eq_false (by omega);have d':decide ((tl:Int)>64)=false:=decide_eq_false (by omega);go_enter Tryz.func5,Tryz.ntmps5;go_wp2;go_ret;exact⟨_,rfl,b0,false,rfl,⟨λq=>(by cases q),λq=>absurd q.1 c⟩⟩
theorem kJ(b:Bool):(b==b)=true:=by cases b<;>rfl
theorem Ob(n ρ:Int)(Y F S L P:Bool)(a1:Option Addr)(a2 a3:Nat)(b1:Option Addr)(b2 b3:Nat)(c1:Option Addr)(c2 c3:Nat)(d1:Option Addr)(d2 d3:Nat)(l m:List Int)(w:World)(hA:ae w (.slice a1 a2 a3) l)(hB:ae w (.slice b1 b2 b3) m)(hC:ae w (.slice c1 c2 c3) l)(hD:ae w (.slice d1 d2 d3) m):
 Calls Tryz.prog 9 #[.agg #[.int .i64 n,.slice a1 a2 a3,.bool Y,.bool F,.int .i64 ρ,.bool S,.slice b1 b2 b3,.bool L,.bool P],.agg #[.int .i64 n,.slice c1 c2 c3,.bool Y,.bool F,.int .i64 ρ,.bool S,.slice d1 d2 d3,.bool L,.bool P]] w (cz (λx _=>x=.bool true) w):=by
 have e0:=Below.step (ab w (.cells #[.int .i64 n,.slice a1 a2 a3,.bool Y,.bool F,.int .i64 ρ,.bool S,.slice b1 b2 b3,.bool L,.bool P] 29)) (ab _ (.cells #[.int .i64 n,.slice c1 c2 c3,.bool Y,.bool F,.int .i64 ρ,.bool S,.slice d1 d2 d3,.bool L,.bool P] 29));have qa:=(nK.alloc w 29 (.int .i64 n) (.slice a1 a2 a3) (.bool Y) (.bool F) (.int .i64 ρ) (.bool S) (.slice b1 b2 b3) (.bool L) (.bool P)).below (ab _ (.cells #[.int .i64 n,.slice c1 c2 c3,.bool Y,.bool F,.int .i64 ρ,.bool S,.slice d1 d2 d3,.bool L,.bool P] 29));have qb:=nK.alloc (w.alloc (.cells #[.int .i64 n,.slice a1 a2 a3,.bool Y,.bool F,.int .i64 ρ,.bool S,.slice b1 b2 b3,.bool L,.bool P] 29)) 29 (.int .i64 n) (.slice c1 c2 c3) (.bool Y) (.bool F) (.int .i64 ρ) (.bool S) (.slice d1 d2 d3) (.bool L) (.bool P);rw[show(w.alloc (.cells #[.int .i64 n,.slice a1 a2 a3,.bool Y,.bool F,.int .i64 ρ,.bool S,.slice b1 b2 b3,.bool L,.bool P] 29)).heap.size=w.heap.size+1 by simp] at qb;obtain⟨w0,rJ⟩:=Ex ((w.alloc (.cells #[.int .i64 n,.slice a1 a2 a3,.bool Y,.bool F,.int .i64 ρ,.bool S,.slice b1 b2 b3,.bool L,.bool P] 29)).alloc (.cells #[.int .i64 n,.slice c1 c2 c3,.bool Y,.bool F,.int .i64 ρ,.bool S,.slice d1 d2 d3,.bool L,.bool P] 29));rw[rJ] at e0 qa qb;have iA:=xw _ _ l l _ (hA.below e0) (hC.below e0);replace hB:=Hd (hB.below e0);replace hD:=Hd (hD.below e0);rw[show decide (l=l)=true from decide_eq_true rfl] at iA;have y1:=kJ Y;have y2:=kJ F;have y3:=kJ S;have y4:=kJ L;have y5:=kJ P;replace rJ:=Hd rJ;obtain⟨z0,z1,z2,z3,z4,z5,z6,z7,z8⟩:=id qa;obtain⟨u0,u1,u2,u3,u4,u5,u6,u7,u8⟩:=id qb;clear hA hC;go_enter Tryz.func9,Tryz.ntmps9;go_upto_region 1 with fail;rw[rJ.out];go_wp2_with fail;refine iA.mono ?_;rintro e w1 hq;obtain⟨rfl,e1⟩:=hq.below;clear hq iA z0 z1 z2 z3 z4 z5 z6 z7 z8 u0 u1 u2 u3 u4 u5 u6 u7 u8;obtain⟨z0,z1,z2,z3,z4,z5,z6,z7,z8⟩:=qa.below e1;obtain⟨u0,u1,u2,u3,u4,u5,u6,u7,u8⟩:=qb.below e1;have iB:=xw _ _ m m _ (hB.out.below e1) (hD.out.below e1);rw[show decide (m=m)=true from decide_eq_true rfl] at iB;go_wp2_with fail;refine iB.mono ?_;rintro e w2 hq;obtain⟨rfl,e2⟩:=hq.below;clear hq iB z0 z1 z2 z3 z4 z5 z6 z7 z8 u0 u1 u2 u3 u4 u5 u6 u7 u8;have e12:=Below.step e1 e2;obtain⟨z0,z1,z2,z3,z4,z5,z6,z7,z8⟩:=qa.below e12;obtain⟨u0,u1,u2,u3,u4,u5,u6,u7,u8⟩:=qb.below e12;have bE:=Below.step e0 e12;go_wp2;go_ret;exact⟨_,rfl,bE,rfl⟩
def tZ:List Int:=[0,1,0,1,1,0,1,0]
theorem xG:aG 2 1 tZ:=⟨by decide,by decide,by decide,by decide,by intro x hx;simp[tZ] at hx;omega⟩
theorem HZ:bq 2 tZ 1=true:=by decide +kernel
theorem BL:bq 2 tZ (tZ.length/2)=true:=by decide +kernel
theorem EP:dY 2 1 tZ:=Db xG BL HZ (by decide) (by decide)
theorem Ur:eZ (DK 2 (pw 2 (2*1)) tZ)=1:=by decide +kernel
theorem Qi:kQ 2 1 tZ=-1:=by
 unfold kQ;rw[(xq xG (by decide)).1 EP,if_neg (by unfold fresh;simp)]
theorem M8(r:Nat->Addr)(w:World)(hg:ck r w)(hG:oT w):Calls Tryz.prog 4 #[] w (cz (λx _=>x=.bool true) w):=by
 have bl:=ab w (.cells #[.int .i64 0,.int .i64 1,.int .i64 0,.int .i64 1,.int .i64 1,.int .i64 0,.int .i64 1,.int .i64 0] 3);have gG:=TQ w tZ #[.int .i64 0,.int .i64 1,.int .i64 0,.int .i64 1,.int .i64 1,.int .i64 0,.int .i64 1,.int .i64 0] rfl (by decide);replace hg:=hg.below bl;replace hG:=hG.below bl;have look:=look_ok r 2 1 (some ⟨w.heap.size,0,none⟩) 8 8 tZ _ hg hG gG xG (by decide);clear gG;replace⟨hg,hG⟩:=bD hg hG;go_enter Tryz.func4,Tryz.ntmps4;go_wp2_with fail;refine look.mono ?_;clear look;rintro e w2 ⟨_,_,rfl,b2,rfl,Y,F,a1,a2,a3,b1,c2,c3,hY,hF,rfl,-,-,-⟩;obtain rfl:Y=false:=by
  cases Y with
  | false=>rfl
  | true=>exact absurd EP (hY.1 rfl)
 obtain rfl:F=true:=hF.2 (Dq xG (.inl BL));rw[Ur,Qi,BL,HZ];obtain⟨S,hS⟩:=Ex (ir 2 1 tZ);rw[hS];clear hS hY hF;have b3:=ab w2 (.cells #[.int .i64 1,.slice a1 a2 a3,.bool false,.bool true,.int .i64 (-1),.bool S,.slice b1 c2 c3,.bool true,.bool true] 29);have q:=nK.alloc w2 29 (.int .i64 1) (.slice a1 a2 a3) (.bool false) (.bool true) (.int .i64 (-1)) (.bool S) (.slice b1 c2 c3) (.bool true) (.bool true);have bE:=Below.step bl (Below.step b2 b3);obtain⟨z0,z1,z2,z3,z4,z5,z6,z7,z8⟩:=q;go_wp2_with fail;refine(Tl _ _ _ _ _ _ _ _ _ _).mono ?_;rintro e w4 ⟨_,rfl,b4,rfl⟩;have bF:=Below.step bE b4;rw[show aay false true=⟨#[111,110,116,111]⟩ from rfl];go_wp2;go_ret;exact⟨_,rfl,bF,rfl⟩
structure Bi (adj:Nat->List Nat) (L C Q:List Nat):Prop where
 l1:1<=L.length
 c1:1<=C.length
 q1:1<=Q.length
 sL:∀j,j+1<L.length->L.getD (j+1) 0∈adj (L.getD j 0)
 eL:L.getD 0 0∈adj (L.getD (L.length-1) 0)
 fC:C.getD 0 0=L.getD 0 0
 sC:∀j,j+1<C.length->C.getD (j+1) 0∈adj (C.getD j 0)
 eC:Q.getD 0 0∈adj (C.getD (C.length-1) 0)
 sQ:∀j,j+1<Q.length->Q.getD (j+1) 0∈adj (Q.getD j 0)
 eQ:Q.getD (Q.length-1) 0=C.getD (C.length-1) 0
structure RowOk (K:Nat) (p:Int) (L C Q:List Int):Prop where
 k1:1<=K
 k4:K<=4
 p1:-4096<=p
 p2:p<=4096
 l1:1<=L.length
 l2:L.length<=8192
 q1:1<=Q.length
 q2:Q.length<=8192
 c2:C.length<=16384
 sL:bj K L
 sC:bj K C
 sQ:bj K Q
theorem zH:∀{L:List Nat} {lo n:Nat},L.Pairwise (·<·)->(∀v∈L,lo<=v/\v<n)->L.length<=n-lo
 | [],_,_,_,_=>by simp
 | a::L,lo,n,h,k=>by
  have h1:=k a (by simp);have h2:=List.pairwise_cons.1 h;have:=zH (lo:=a+1) (n:=n) h2.2 (λv hv=>⟨h2.1 v hv,(k v (by simp[hv])).2⟩);simp;omega
theorem Pa{n:Nat}{adj:Nat->List Nat}{L:List Nat}(h:iq n adj L):L.length<=n :=
 Nat.le_trans (zH (lo:=0) (n:=n) h.sorted (λv hv=>⟨Nat.zero_le _,((h.mem v).1 hv).1⟩)) (by omega)
theorem dR.shape{B:Nat}{w:World}{v:Value}{G:List (List Int)}(h:dR B w v G):∃a c,v=.slice a G.length c:=h.at.shape
theorem dR.mono{B B':Nat}{w:World}{v:Value}{G:List (List Int)}(h:dR B w v G)(hB:B'<=B):dR B' w v G:=by
 obtain⟨vs,h1,h2,h3⟩:=h;exact⟨vs,h1.mono hB,h2,λi hi=>(h3 i hi).mono hB⟩
theorem dR.j9{B b:Nat}{w:World}{v:Value}{G:List (List Int)}(h:dR B w v G)(hb:b<B)(x y z:Value):dR B (((w.setCell ⟨b,0,none⟩ x).setCell ⟨b,1,none⟩ y).setCell ⟨b,2,none⟩ z) v G :=
 ((h.set (a:=⟨b,0,none⟩) hb x).set (a:=⟨b,1,none⟩) hb y).set (a:=⟨b,2,none⟩) hb z
theorem SJ(N p:Nat):(((p/N:Nat):Int) != ((p%N:Nat):Int))=!decide (bP N p):=by
 by_cases e:p/N=p%N;.rw[decide_eq_true (show bP N p from e),e];simp
 .rw[decide_eq_false (show ¬ bP N p from e)];generalize p/N=a at *;generalize p%N=b at *;simp only[Bool.not_false,bne_iff_ne];omega
theorem dm9(p N:Nat)(hp:p<=100000000):(p:Int).tdiv (N:Int)=((p/N:Nat):Int)/\(p:Int).tmod (N:Int)=((p%N:Nat):Int)/\(p:Int)/(N:Int)=((p/N:Nat):Int)/\(p:Int)%(N:Int)=((p%N:Nat):Int) /\
 IntKind.i64.wrap ((p/N:Nat):Int)=((p/N:Nat):Int)/\IntKind.i64.wrap ((p%N:Nat):Int)=((p%N:Nat):Int):=by
 have h1:p/N<=p:=Nat.div_le_self _ _;have h2:p%N<=p:=Nat.mod_le _ _;refine⟨by rw[Int.tdiv_eq_ediv_of_nonneg (by omega)];simp,by rw[Int.tmod_eq_emod_of_nonneg (by omega)];simp,by simp,by simp,?_,?_⟩;.generalize p/N=a at *;exact db (by omega) (by omega)
 .generalize p%N=a at *;exact db (by omega) (by omega)
theorem J8{K N:Nat}{T:List Int}(fs:K<=4):∀k,k<(dd K N T).length->((dd K N T).getD k []).length<=17592186044416:=λk hk=>by
 rw[fD] at hk;rw[lE hk,aA];have:=og K N T k;have:=Nat.mul_le_mul fs fs;omega
theorem Xa(K R:Nat)(va:Option Addr)(vn vc:Nat)(T:List Int)(w:World)(h:ae w (.slice va vn vc) T)(hr:aG K R T)(hR:1<=R)(hl:T.length<=256):
 Calls Tryz.prog 106 #[.agg #[.int .i64 K,.int .i64 R,.slice va vn vc]] w (cz (λx w'=>∃L,iq (pw K (2*R)*pw K (2*R)) (aq (dd K (pw K (2*R)) T)) L/\aj w.heap.size w' x (aw (L.filter λp=>!decide (bP (pw K (2*R)) p)))) w):=by
 have b0:=ab w (.cells #[.int .i64 K,.int .i64 R,.slice va vn vc] 24);have q:az (w.alloc (.cells #[.int .i64 K,.int .i64 R,.slice va vn vc] 24)) w.heap.size (.int .i64 K) (.int .i64 R) (.slice va vn vc):=by simp[az,go_sem]
 have dS:=hr.k1;have fs:=hr.k4;have kK:=hr.r3;have jo:=nB hr hR hl;have pC:=eN (K:=K) (2*R) dS;obtain⟨hdiv,hlen⟩:=hr.half;have Ro:pw K (2*R)*K<=256:=by rw[<-hlen];exact hl
 have fK:=tt (K:=K) (N:=pw K (2*R)) (T:=T) (by omega) jo Ro;have qP:=λ(w':World)=>uQ K R va vn vc w' dS fs kK;have jB:=λ(w':World) (h':ae w' (.slice va vn vc) T)=>M4 K R va vn vc T w' h' hr hR hl;have wW:=λ(ga:Option Addr) (gc:Nat) (w':World) (h':bh w' (.slice ga (dd K (pw K (2*R)) T).length gc) (dd K (pw K (2*R)) T))=>K3 ga gc (dd K (pw K (2*R)) T) w' h' (J8 fs);have jI:=fD (K:=K) (N:=pw K (2*R)) (T:=T);rw[fK] at wW;rw[jI] at wW;generalize hN9:pw K (2*R)=N at *;generalize hG:dd K N T=G at *;generalize hM:N*N=M at *;have Hu:M<=6561:=by rw[<-hM];exact Nat.mul_le_mul jo jo
 replace h:=Hd (h.below b0);replace⟨hr,qP,jB,wW,hN9,hM,hG,jI⟩:=gp hr qP jB wW hN9 hM hG jI;replace fK:=Hd fK;clear hdiv hlen Ro;have q0:=q;obtain⟨⟨z0,z1,z2⟩,-,-,-⟩:=q0;go_enter Tryz.func106,Tryz.ntmps106;go_wp2_with fail;refine(qP.out _).mono ?_;rintro e W1 ⟨_,rfl,b1,rfl⟩;clear z0 z1 z2;obtain⟨⟨z0,z1,z2⟩,-,-,-⟩:=q.below b1;have si:=Below.step b0 b1;go_wp2_with fail;refine(jB.out W1 (h.out.below b1)).mono ?_;rintro e W2 ⟨gv,rfl,b2,SV⟩;obtain⟨ga,gc,rfl⟩:=SV.shape;replace SV:=SV.at;rw[jI.out] at SV;rw[jI.out];have Da:=Below.step si b2;replace SV:=Hd SV;clear z0 z1 z2;go_wp2_with fail;refine(wW.out ga gc W2 SV.out).mono ?_;rintro e W3 ⟨lv,y,rfl,b3,hE,hL,-⟩;obtain rfl:y=.agg #[.int .i64 0,.slice none 0 0,.slice none 0 0]:=hE;obtain⟨L,zZ,Ap⟩:=hL rfl;have BK:=Below.step Da b3;have jA:∀p∈L,p<M:=λp hp=>((zZ.mem p).1 hp).1;have ba:=ab W3 (.cells #[.int .i64 0,.slice none 0 0,.slice none 0 0] 36);obtain⟨W4,rT⟩:=Ex (W3.alloc (.cells #[.int .i64 0,.slice none 0 0,.slice none 0 0] 36));have Wr:ae W4 lv (aw L):=by rw[<-rT];exact Ap.at.below ba
 have Zb:Below w.heap.size w W4:=by rw[<-rT];exact Below.step BK ba
 have lL:=Wr.len;rw[aA] at lL;have XC:L.length<=100000:=by
  have:=Pa zZ;omega
 obtain⟨la,ln,lc,rfl⟩:=Wr.shape;replace⟨zZ,jA,Wr,rT⟩:=gF zZ jA Wr rT;clear Ap ba;go_upto_region 3 with fail;rw[rT.out];go_wp2_with fail;go_loopw [6,7] (λov iv wr=>∃(i:Nat) (ow:Value),ow=ov/\iv=.int .i64 i/\i<=L.length/\aj W4.heap.size wr ow (aw ((L.take i).filter λp=>!decide (bP N p)))/\Below W4.heap.size W4 wr) (λ_ iv _=>L.length-(intOf iv).toNat);case atStart=>exact⟨0,_,rfl,rfl,Nat.zero_le _,aj.nil _ _,Below.refl _ _⟩
 case round =>
  obtain⟨i,ow,rfl,rfl,hi,hO,hB⟩:=hrel;obtain⟨wo,rfl⟩:=Ey wr;by_cases jM:i<L.length
  .have diL:decide ((i:Int)<(L.length:Int))=true:=decide_eq_true (by omega);obtain⟨p,hp⟩:∃p,L[i]?=some p:=⟨_,List.getElem?_eq_getElem jM⟩;have hpM:=jA.out p (List.mem_of_getElem? hp);obtain⟨V,hV⟩:=Ex wo.drew;have hBV:Below W4.heap.size W4 V:=by rw[<-hV];exact hB.drew
   have j5:aj W4.heap.size V ow (aw ((L.take i).filter λp=>!decide (bP N p))):=by rw[<-hV];exact hO
   have RM:=Wr.out.below hBV;have iL:=λw'=>RM.idx i (by rw[aA];exact jM) w';have cL:=RM.aH i (by rw[aA];exact jM);rw[j3 hp] at cL;have kg:L.take (i+1)=L.take i++[p]:=by rw[List.take_add_one,hp];rfl
   have Dr:((L.take i).filter λp=>!decide (bP N p)).length<=i:=Nat.le_trans (List.length_filter_le _ _) (by rw[List.length_take];omega);obtain⟨e1,e2,e3,e4,e5,e6⟩:=dm9 p N (by omega);have YO:¬ N=0:=by omega
   have hN4:((N:Int)==0)=false:=by rw[beq_eq_false_iff_ne];omega
   have bM:=SJ N p;have bVs:=hBV.size;generalize af (.slice la ln lc) i=xa at *;have hS:V.cell? xa=some (.int .i64 p):=cL;generalize p/N=pd at *;generalize p%N=pm at *;replace⟨hV,j5,hO,RM,hp,kg,bM⟩:=zb hV j5 hO RM hp kg bM;go_upto_region 7 with fail;refine ar (λw'=>w'.cell? xa=some (.int .i64 p)) 12 [(0,true),(1,true),(2,true),(3,true),(4,true),(5,true),(6,true),(7,true),(8,true),(9,true),(10,true),(11,true)] (by kernel_rfl) (by kernel_rfl) ?_;rw[hV.out];refine ay 22 hS ?_;refine ay 23 hS ?_;refine ay 24 hS ?_;refine ay 25 hS ?_;refine ay 26 hS ?_;refine ay 27 hS ?_;refine ay 28 hS ?_;refine ay 29 hS ?_;refine ay 30 hS ?_;refine ay 31 hS ?_;refine ay 32 hS ?_;refine ay 33 hS ?_;refine dA ?_;simp only[List.drop_succ_cons,List.drop_zero];clear hS;by_cases hd:bP N p
   .have L5:=bM.out;rw[decide_eq_true hd] at L5;replace L5:((pd:Int) != (pm:Int))=false:=L5;have jh:=j5.out;have:((L.take (i+1)).filter λp=>!decide (bP N p))=(L.take i).filter λp=>!decide (bP N p):=by rw[kg.out,List.filter_append];simp[hd]
    rw[<-this] at jh;replace⟨this,jh,hd⟩:=dO this jh hd;go_wp2;refine NoPanic.normal ?_;go_wp2;go_roundw;case measure=>simp[intOf];omega
    case rel=>exact⟨i+1,_,rfl,by go_num,by omega,jh.out,hBV⟩
   .have L5:=bM.out;rw[decide_eq_false hd] at L5;replace L5:((pd:Int) != (pm:Int))=true:=L5;have:aw ((L.take i).filter λp=>!decide (bP N p))++[(p:Int)]=aw ((L.take (i+1)).filter λp=>!decide (bP N p)):=by rw[kg.out,List.filter_append];simp[hd,aw]
    replace⟨this,hd⟩:=bD this hd;go_wp2;refine NoPanic.normal ?_;go_wp2_with (at_builtin;refine dD rfl _ _ rfl W4.heap.size ow _ p j5.out rfl rfl (by rw[aA];omega) bVs ?_);intro v' w7 eF b7 _;rw[this.out] at eF;obtain⟨v7a,v7b,v7c,rfl⟩:=eF.at.shape;replace eF:=Hd eF;go_wp2;go_roundw;case measure=>simp[intOf];omega
    case rel=>exact⟨i+1,_,rfl,by go_num,by omega,eF.out,hBV.trans b7⟩
  .obtain rfl:i=L.length:=by omega
   have diL:decide ((L.length:Int)<(L.length:Int))=false:=decide_eq_false (by omega);rw[List.take_length] at hO;obtain⟨oa,on,oc,rfl⟩:=hO.at.shape;have bE:=Zb.trans (hB.mono Zb.size);replace hO:=Hd hO;go_wp2;go_ret;exact⟨_,rfl,bE,L,zZ.out,hO.out.mono Zb.size⟩
theorem tH(K R:Nat)(va:Option Addr)(vn vc:Nat)(T:List Int)(w:World)(h:ae w (.slice va vn vc) T)(hr:aG K R T)(hl:T.length<=256):
 Calls Tryz.prog 56 #[.agg #[.int .i64 K,.int .i64 R,.slice va vn vc]] w (jf (λx y w'=>y=.agg #[.int .i64 0,.slice none 0 0,.slice none 0 0]/\dR w.heap.size w' x (dd K (pw K (2*fW R)) (lJ K R T))) w):=by
 have bA:=Below.step (ab w (.cells #[.int .i64 K,.int .i64 R,.slice va vn vc] 24)) (ab _ (.cells #[.int .i64 0,.slice none 0 0,.slice none 0 0] 36));have qA:az ((w.alloc (.cells #[.int .i64 K,.int .i64 R,.slice va vn vc] 24)).alloc (.cells #[.int .i64 0,.slice none 0 0,.slice none 0 0] 36)) w.heap.size (.int .i64 K) (.int .i64 R) (.slice va vn vc):=by simp[az,go_sem]
 have q4:az ((w.alloc (.cells #[.int .i64 K,.int .i64 R,.slice va vn vc] 24)).alloc (.cells #[.int .i64 0,.slice none 0 0,.slice none 0 0] 36)) (w.heap.size+1) (.int .i64 0) (.slice none 0 0) (.slice none 0 0):=by simp[az,go_sem]
 have s0:((w.alloc (.cells #[.int .i64 K,.int .i64 R,.slice va vn vc] 24)).alloc (.cells #[.int .i64 0,.slice none 0 0,.slice none 0 0] 36)).heap.size=w.heap.size+2:=by simp
 obtain⟨WA,lU⟩:=Ex (((w.alloc (.cells #[.int .i64 K,.int .i64 R,.slice va vn vc] 24)).alloc (.cells #[.int .i64 0,.slice none 0 0,.slice none 0 0] 36)));replace h:=h.below bA;rw[lU] at h bA qA q4 s0;replace⟨h,s0,lU⟩:=dO h s0 lU;have Yf:=qA;obtain⟨⟨z0,z1,z2⟩,-,-,-⟩:=Yf;have gq:cd K R T=none:=by rw[qR hr,if_neg (by omega)]
 have l9:=λ(w':World) (h':ae w' (.slice va vn vc) T)=>zG K R va vn vc T w' h' hr;have l5:=λ(a:Option Addr) (n c:Nat) (w':World) (h':ae w' (.slice a n c) (lJ K R T))=>M4 K (fW R) a n c (lJ K R T) w' h' (zw hr) (tW R) (qZ hr hl);replace⟨gq,l9,l5,hr⟩:=gF gq l9 l5 hr;go_enter Tryz.func56,Tryz.ntmps56;go_upto_region 1 with fail;rw[lU.out];go_wp2_with fail;refine(lF _ K R va vn vc T WA h.out).mono ?_;rintro e w1 ⟨x,rfl,b1,he⟩;rw[gq.out] at he;obtain rfl:x=.agg #[.int .i64 0,.slice none 0 0,.slice none 0 0]:=he;obtain⟨be,⟨⟨y0,y1,y2⟩,-,-,-⟩⟩:=jm w1 (.int .i64 0) (.slice none 0 0) (.slice none 0 0);have rV:=Below.step b1 be;obtain⟨W2,dZ⟩:=Ex (w1.alloc (.cells #[.int .i64 0,.slice none 0 0,.slice none 0 0] 36));rw[dZ] at be rV y0 y1 y2;replace dZ:=Hd dZ;clear z0 z1 z2;go_upto_region 2 with fail;rw[dZ.out];go_wp2_with fail;refine(fH _ _ _ _ _ _ _ W2).mono ?_;rintro e w3 ⟨_,rfl,b3,rfl⟩;rw[show((0:Int) != 0)=false from rfl];have c3:=Below.step rV b3;clear y0 y1 y2;obtain⟨⟨z0,z1,z2⟩,-,-,-⟩:=qA.below c3;go_wp2_with fail;refine(l9.out w3 (h.out.below c3)).mono ?_;rintro e w4 ⟨_,rfl,b4,a,n,c,rfl,hT⟩;have c4:=Below.step c3 b4;replace hT:=Hd hT;clear z0 z1 z2;go_wp2_with fail;refine(l5.out a n c w4 hT.out).mono ?_;rintro e w5 ⟨x,rfl,b5,hx⟩;have c5:=Below.step c4 b5;obtain⟨⟨u0,u1,u2⟩,f0,f1,f2⟩:=q4.below c5;have sW:=c5.size;rw[s0.out] at sW;obtain⟨xa,xc,rfl⟩:=hx.shape;have sE:=c4.size;rw[s0.out] at sE;have hx9:=(hx.j9 (b:=w.heap.size+1) (by omega) (.int .i64 0) (.slice none 0 0) (.slice none 0 0)).mono (B':=w.heap.size) (by omega);replace⟨hx,hx9⟩:=bD hx hx9;go_wp2;(try simp only[Exit.inBlock,Exit.then]);refine bodyPost_ret (v:=.tuple #[.slice xa (dd K (pw K (2*fW R)) (lJ K R T)).length xc,.agg #[.int .i64 0,.slice none 0 0,.slice none 0 0]]) (by simp[results,Tryz.results56,go_sem,u0,u1,u2]) rfl ⟨_,_,rfl,aB (Below.step bA c5) (by omega) _ _ _,rfl,hx9.out⟩
theorem Al(k R:Int)(va:Option Addr)(vn vc:Nat)(T:List Int)(t:Int×List (ByteArray×Int))(w:World)(h:ae w (.slice va vn vc) T)(hc:cd k R T=some t):
 Calls Tryz.prog 55 #[.agg #[.int .i64 k,.int .i64 R,.slice va vn vc]] w (jf (λx y w'=>x=.slice none 0 0/\gw w.heap.size w' (under l6 0 (some t)) y) w):=by
 have bA:=Below.step (ab w (.cells #[.int .i64 k,.int .i64 R,.slice va vn vc] 24)) (ab _ (.cells #[.int .i64 0,.slice none 0 0,.slice none 0 0] 36));have qA:az ((w.alloc (.cells #[.int .i64 k,.int .i64 R,.slice va vn vc] 24)).alloc (.cells #[.int .i64 0,.slice none 0 0,.slice none 0 0] 36)) w.heap.size (.int .i64 k) (.int .i64 R) (.slice va vn vc):=by simp[az,go_sem]
 have q4:az ((w.alloc (.cells #[.int .i64 k,.int .i64 R,.slice va vn vc] 24)).alloc (.cells #[.int .i64 0,.slice none 0 0,.slice none 0 0] 36)) (w.heap.size+1) (.int .i64 0) (.slice none 0 0) (.slice none 0 0):=by simp[az,go_sem]
 have s0:((w.alloc (.cells #[.int .i64 k,.int .i64 R,.slice va vn vc] 24)).alloc (.cells #[.int .i64 0,.slice none 0 0,.slice none 0 0] 36)).heap.size=w.heap.size+2:=by simp
 obtain⟨WA,lU⟩:=Ex (((w.alloc (.cells #[.int .i64 k,.int .i64 R,.slice va vn vc] 24)).alloc (.cells #[.int .i64 0,.slice none 0 0,.slice none 0 0] 36)));replace h:=h.below bA;rw[lU] at h bA qA q4 s0;replace⟨h,s0,lU⟩:=dO h s0 lU;have Yf:=qA;obtain⟨⟨z0,z1,z2⟩,-,-,-⟩:=Yf;replace hc:=Hd hc;go_enter Tryz.func55,Tryz.ntmps55;go_upto_region 1 with fail;rw[lU.out];go_wp2_with fail;refine(lF _ k R va vn vc T WA h.out).mono ?_;rintro e w1 ⟨x,rfl,b1,he⟩;rw[hc.out] at he;obtain⟨n,l⟩:=t;have hn:=mM hc.out;have Ed:=he;obtain⟨a1,n1,c1,a2,n2,c2,rfl,_,_⟩:=Ed;obtain⟨be,⟨⟨y0,y1,y2⟩,-,-,-⟩⟩:=jm w1 (.int .i64 n) (.slice a1 n1 c1) (.slice a2 n2 c2);have rV:=Below.step b1 be;have Hv:=b1.size;rw[s0.out] at Hv;have NN:(n != 0)=true:=by rw[bne_iff_ne];omega
 have C6:=he.below be;obtain⟨W2,dZ⟩:=Ex (w1.alloc (.cells #[.int .i64 n,.slice a1 n1 c1,.slice a2 n2 c2] 36));rw[dZ] at be rV C6 y0 y1 y2;replace⟨dZ,he,C6⟩:=dO dZ he C6;clear z0 z1 z2;go_upto_region 2 with fail;rw[dZ.out];go_wp2_with fail;refine(fH _ _ _ _ _ _ _ W2).mono ?_;rintro e w3 ⟨_,rfl,b3,rfl⟩;rw[NN];have E0:=C6.out.below b3;have c3:=Below.step rV b3;obtain⟨W,hW⟩:=Ex w3.drew;have c4:Below WA.heap.size WA W:=by rw[<-hW];exact c3.drew
 have heW:gw WA.heap.size W (under l6 0 (some (n,l))) (.agg #[.int .i64 n,.slice a1 n1 c1,.slice a2 n2 c2]):=by rw[<-hW];exact E0.drew
 have hS:W.cell? ⟨w1.heap.size,0,none⟩=some (.int .i64 n)/\W.cell? ⟨w1.heap.size,1,none⟩=some (.slice a1 n1 c1)/\W.cell? ⟨w1.heap.size,2,none⟩=some (.slice a2 n2 c2):=by
  rw[<-hW];exact⟨(b3.cell (World.block_lt_of_cell? _ _ y0)).trans y0,(b3.cell (World.block_lt_of_cell? _ _ y1)).trans y1,(b3.cell (World.block_lt_of_cell? _ _ y2)).trans y2⟩
 obtain⟨⟨u0,u1,u2⟩,f0,f1,f2⟩:=q4.below c4;have sW:=c4.size;rw[s0.out] at sW;replace⟨hW,E0,heW⟩:=dO hW E0 heW;clear y0 y1 y2;go_upto_region 3 with fail;refine ar (λw'=>w'.cell? ⟨w1.heap.size,0,none⟩=some (.int .i64 n)/\w'.cell? ⟨w1.heap.size,1,none⟩=some (.slice a1 n1 c1)/\w'.cell? ⟨w1.heap.size,2,none⟩=some (.slice a2 n2 c2)) 2 [(0,true),(1,true)] (by kernel_rfl) (by kernel_rfl) ?_;rw[hW.out];refine ay 9 hS ?_;refine ay 2 hS ?_;refine dA ?_;simp only[List.drop_succ_cons,List.drop_zero];clear hS;go_wp2;refine NoPanic.normal ?_;go_wp2;(try simp only[Exit.inBlock,Exit.then]);refine bodyPost_ret (v:=.tuple #[.slice none 0 0,.agg #[.int .i64 n,.slice a1 n1 c1,.slice a2 n2 c2]]) (by simp[results,Tryz.results55,go_sem,u0,u1,u2]) rfl ⟨_,_,rfl,aB (Below.step bA c4) (by omega) _ _ _,rfl,?_⟩;have:=s0.out;exact(heW.out.j9 (by omega) _ _ _).mono (by omega)
theorem Cy(K R:Nat)(va:Option Addr)(vn vc:Nat)(T:List Int)(w:World)(h:ae w (.slice va vn vc) T)(hr:aG K R T)(hl:T.length<=256):
 Calls Tryz.prog 55 #[.agg #[.int .i64 K,.int .i64 R,.slice va vn vc]] w (jf (λx y w'=>y=.agg #[.int .i64 0,.slice none 0 0,.slice none 0 0]/\∃L,iq (pw K (2*fW R)*pw K (2*fW R)) (aq (dd K (pw K (2*fW R)) (lJ K R T))) L/\aj w.heap.size w' x (aw (L.filter λp=>!decide (bP (pw K (2*fW R)) p)))) w):=by
 have bA:=Below.step (ab w (.cells #[.int .i64 K,.int .i64 R,.slice va vn vc] 24)) (ab _ (.cells #[.int .i64 0,.slice none 0 0,.slice none 0 0] 36));have qA:az ((w.alloc (.cells #[.int .i64 K,.int .i64 R,.slice va vn vc] 24)).alloc (.cells #[.int .i64 0,.slice none 0 0,.slice none 0 0] 36)) w.heap.size (.int .i64 K) (.int .i64 R) (.slice va vn vc):=by simp[az,go_sem]
 have q4:az ((w.alloc (.cells #[.int .i64 K,.int .i64 R,.slice va vn vc] 24)).alloc (.cells #[.int .i64 0,.slice none 0 0,.slice none 0 0] 36)) (w.heap.size+1) (.int .i64 0) (.slice none 0 0) (.slice none 0 0):=by simp[az,go_sem]
 have s0:((w.alloc (.cells #[.int .i64 K,.int .i64 R,.slice va vn vc] 24)).alloc (.cells #[.int .i64 0,.slice none 0 0,.slice none 0 0] 36)).heap.size=w.heap.size+2:=by simp
 obtain⟨WA,lU⟩:=Ex (((w.alloc (.cells #[.int .i64 K,.int .i64 R,.slice va vn vc] 24)).alloc (.cells #[.int .i64 0,.slice none 0 0,.slice none 0 0] 36)));replace h:=h.below bA;rw[lU] at h bA qA q4 s0;replace⟨h,s0,lU⟩:=dO h s0 lU;have Yf:=qA;obtain⟨⟨z0,z1,z2⟩,-,-,-⟩:=Yf;have gq:cd K R T=none:=by rw[qR hr,if_neg (by omega)]
 have l9:=λ(w':World) (h':ae w' (.slice va vn vc) T)=>zG K R va vn vc T w' h' hr;have l5:=λ(a:Option Addr) (n c:Nat) (w':World) (h':ae w' (.slice a n c) (lJ K R T))=>Xa K (fW R) a n c (lJ K R T) w' h' (zw hr) (tW R) (qZ hr hl);replace⟨gq,l9,l5,hr⟩:=gF gq l9 l5 hr;go_enter Tryz.func55,Tryz.ntmps55;go_upto_region 1 with fail;rw[lU.out];go_wp2_with fail;refine(lF _ K R va vn vc T WA h.out).mono ?_;rintro e w1 ⟨x,rfl,b1,he⟩;rw[gq.out] at he;obtain rfl:x=.agg #[.int .i64 0,.slice none 0 0,.slice none 0 0]:=he;obtain⟨be,⟨⟨y0,y1,y2⟩,-,-,-⟩⟩:=jm w1 (.int .i64 0) (.slice none 0 0) (.slice none 0 0);have rV:=Below.step b1 be;obtain⟨W2,dZ⟩:=Ex (w1.alloc (.cells #[.int .i64 0,.slice none 0 0,.slice none 0 0] 36));rw[dZ] at be rV y0 y1 y2;replace dZ:=Hd dZ;clear z0 z1 z2;go_upto_region 2 with fail;rw[dZ.out];go_wp2_with fail;refine(fH _ _ _ _ _ _ _ W2).mono ?_;rintro e w3 ⟨_,rfl,b3,rfl⟩;rw[show((0:Int) != 0)=false from rfl];have c3:=Below.step rV b3;clear y0 y1 y2;obtain⟨⟨z0,z1,z2⟩,-,-,-⟩:=qA.below c3;go_wp2_with fail;refine(l9.out w3 (h.out.below c3)).mono ?_;rintro e w4 ⟨_,rfl,b4,a,n,c,rfl,hT⟩;have c4:=Below.step c3 b4;replace hT:=Hd hT;clear z0 z1 z2;go_wp2_with fail;refine(l5.out a n c w4 hT.out).mono ?_;rintro e w5 ⟨x,rfl,b5,hx⟩;have c5:=Below.step c4 b5;obtain⟨⟨u0,u1,u2⟩,f0,f1,f2⟩:=q4.below c5;have sW:=c5.size;rw[s0.out] at sW;obtain⟨L,zZ,hxI⟩:=hx;obtain⟨xa,xn,xc,rfl⟩:=hxI.at.shape;have sE:=c4.size;rw[s0.out] at sE;have hx9:=(hxI.j9 (b:=w.heap.size+1) (by omega) (.int .i64 0) (.slice none 0 0) (.slice none 0 0)).mono (B':=w.heap.size) (by omega);replace⟨zZ,hxI,hx9⟩:=dO zZ hxI hx9;go_wp2;(try simp only[Exit.inBlock,Exit.then]);refine bodyPost_ret (v:=.tuple #[.slice xa xn xc,.agg #[.int .i64 0,.slice none 0 0,.slice none 0 0]]) (by simp[results,Tryz.results55,go_sem,u0,u1,u2]) rfl ⟨_,_,rfl,aB (Below.step bA c5) (by omega) _ _ _,rfl,L,zZ.out,hx9.out⟩
def Rm(k R:Int)(T:List Int):ky :=
 match cd k R T with
 | some t=>under l6 0 (some t)
 | none=>none
def pgA(k R:Int)(T:List Int)(xs:List Int):Prop :=
 match cd k R T with
 | some _=>xs=[]
 | none=>∃L,iq (pw k.toNat (2*fW R.toNat)*pw k.toNat (2*fW R.toNat)) (aq (dd k.toNat (pw k.toNat (2*fW R.toNat)) (lJ k.toNat R.toNat T))) L/\xs=aw (L.filter λp=>!decide (bP (pw k.toNat (2*fW R.toNat)) p))
theorem UK(k R:Int)(T:List Int):(Rm k R T).Fine:=by
 unfold Rm;cases h:cd k R T with
 | some t =>
  obtain⟨n,l⟩:=t;have:=mM h;refine⟨by omega,by omega,?_⟩;simp only[List.length_cons];omega
 | none=>trivial
theorem Lt(k R:Int)(va:Option Addr)(vn vc:Nat)(T:List Int)(w:World)(h:ae w (.slice va vn vc) T):
 Calls Tryz.prog 55 #[.agg #[.int .i64 k,.int .i64 R,.slice va vn vc]] w (jf (λx y w'=>(∃xs,pgA k R T xs/\ae w' x xs)/\gw w.heap.size w' (Rm k R T) y) w):=by
 unfold pgA Rm;cases hc:cd k R T with
 | some t =>
  refine(Al k R va vn vc T t w h hc).mono ?_;rintro e w1 ⟨x,y,rfl,b1,rfl,hy⟩;exact⟨_,_,rfl,b1,⟨[],rfl,(aj.nil 0 _).at⟩,hy⟩
 | none =>
  obtain⟨fK,hl⟩:=zX hc;obtain⟨K,Q,rfl,rfl,hr⟩:=zC fK;refine(Cy K Q va vn vc T w h hr hl).mono ?_;rintro e w1 ⟨x,y,rfl,b1,rfl,L,hL,ho⟩;exact⟨_,_,rfl,b1,⟨_,⟨L,hL,rfl⟩,ho.at⟩,rfl⟩
def SY(B:Nat)(k R:Int)(T:List Int)(x y:Value)(w':World):Prop :=
 match Rm k R T with
 | none=>y=.agg #[.int .i64 0,.slice none 0 0,.slice none 0 0]/\∃xs,pgA k R T xs/\x=.bool (decide (xs=[]))
 | some t=>x=.bool false/\gw B w' (under nU 0 (some t)) y
theorem yX(k R:Int)(va:Option Addr)(vn vc:Nat)(T:List Int)(w:World)(h:ae w (.slice va vn vc) T):
 Calls Tryz.prog 26 #[.agg #[.int .i64 k,.int .i64 R,.slice va vn vc]] w (jf (SY w.heap.size k R T) w):=by
 have bA:=Below.step (ab w (.cells #[.int .i64 k,.int .i64 R,.slice va vn vc] 24)) (ab _ (.cells #[.int .i64 0,.slice none 0 0,.slice none 0 0] 36));have qA:az ((w.alloc (.cells #[.int .i64 k,.int .i64 R,.slice va vn vc] 24)).alloc (.cells #[.int .i64 0,.slice none 0 0,.slice none 0 0] 36)) w.heap.size (.int .i64 k) (.int .i64 R) (.slice va vn vc):=by simp[az,go_sem]
 have q4:az ((w.alloc (.cells #[.int .i64 k,.int .i64 R,.slice va vn vc] 24)).alloc (.cells #[.int .i64 0,.slice none 0 0,.slice none 0 0] 36)) (w.heap.size+1) (.int .i64 0) (.slice none 0 0) (.slice none 0 0):=by simp[az,go_sem]
 have s0:((w.alloc (.cells #[.int .i64 k,.int .i64 R,.slice va vn vc] 24)).alloc (.cells #[.int .i64 0,.slice none 0 0,.slice none 0 0] 36)).heap.size=w.heap.size+2:=by simp
 obtain⟨WA,lU⟩:=Ex (((w.alloc (.cells #[.int .i64 k,.int .i64 R,.slice va vn vc] 24)).alloc (.cells #[.int .i64 0,.slice none 0 0,.slice none 0 0] 36)));replace h:=h.below bA;rw[lU] at h bA qA q4 s0;unfold SY;have hf:=UK k R T;have Ry:=Lt k R va vn vc T WA h;replace⟨h,s0,lU,Ry⟩:=gF h s0 lU Ry;obtain⟨⟨z0,z1,z2⟩,-,-,-⟩:=qA;cases hc:Rm k R T with
 | some t =>
  obtain⟨n,l⟩:=t;rw[hc] at hf Ry;have hl:1<=l.length:=by
   unfold Rm at hc;cases hs:cd k R T with
   | none=>rw[hs] at hc;cases hc
   | some q=>rw[hs] at hc;obtain⟨a,b⟩:=q;cases hc;simp
  replace hc:=Hd hc;go_enter Tryz.func26,Tryz.ntmps26;go_upto_region 1 with fail;rw[lU.out];go_wp2_with fail;refine Ry.out.mono ?_;rintro e w1 ⟨lv,x,rfl,b1,⟨xs,-,Hp⟩,he⟩;obtain⟨pT,qi,qf,rfl⟩:=Hp.shape;have Ed:=he;obtain⟨a1,n1,c1,a2,n2,c2,rfl,_,_⟩:=Ed;obtain⟨be,q6⟩:=jm w1 (.int .i64 n) (.slice a1 n1 c1) (.slice a2 n2 c2);have rV:=Below.step b1 be;have NN:(n != 0)=true:=by rw[bne_iff_ne];have:=hf.1;omega
  have C6:=he.below be;obtain⟨W2,dZ⟩:=Ex (w1.alloc (.cells #[.int .i64 n,.slice a1 n1 c1,.slice a2 n2 c2] 36));rw[dZ] at be rV C6 q6;replace⟨dZ,he,C6,Hp⟩:=gF dZ he C6 Hp;clear z0 z1 z2;have q60:=q6;obtain⟨⟨y0,y1,y2⟩,-,-,-⟩:=q60;go_upto_region 2 with fail;rw[dZ.out];go_wp2_with fail;refine(fH _ _ _ _ _ _ _ W2).mono ?_;rintro e w3 ⟨_,rfl,b3,rfl⟩;rw[NN];have E0:=C6.out.below b3;have c3:=Below.step rV b3;clear y0 y1 y2;obtain⟨⟨y0,y1,y2⟩,-,-,-⟩:=q6.below b3;replace E0:=Hd E0;go_wp2_with fail;refine(uD nU 0 (some (n,l)) _ w3 E0.out.at (λn' l' e=>by cases e;exact⟨hf.1,hl,hf.2.2⟩)).mono ?_;rintro e w4 ⟨z,rfl,b4,hz⟩;have c4:=Below.step c3 b4;have hz':=hz;obtain⟨d1,m1,k1,d2,m2,k2,rfl,_,_⟩:=hz';obtain⟨⟨g0,g1,g2⟩,f0,f1,f2⟩:=q4.below c4;have sW:=c3.size;rw[s0.out] at sW;have Bh:=(hz.j9 (b:=w.heap.size+1) (by omega) (.int .i64 n) (.slice d1 m1 k1) (.slice d2 m2 k2)).mono (B':=w.heap.size) (by omega);replace⟨hz,Bh⟩:=bD hz Bh;clear y0 y1 y2;go_wp2;(try simp only[Exit.inBlock,Exit.then]);exact bodyPost_ret (v:=.tuple #[.bool false,.agg #[.int .i64 n,.slice d1 m1 k1,.slice d2 m2 k2]]) (by simp[results,Tryz.results26,go_sem,g0,g1,g2]) rfl ⟨_,_,rfl,aB (Below.step bA c4) (by omega) _ _ _,rfl,Bh.out⟩
 | none =>
  rw[hc] at Ry;replace hc:=Hd hc;go_enter Tryz.func26,Tryz.ntmps26;go_upto_region 1 with fail;rw[lU.out];go_wp2_with fail;refine Ry.out.mono ?_;rintro e w1 ⟨lv,x,rfl,b1,⟨xs,hpa,Hp⟩,he⟩;obtain rfl:x=.agg #[.int .i64 0,.slice none 0 0,.slice none 0 0]:=he;have lX:=Hp.len;obtain⟨pT,qi,qf,rfl⟩:=Hp.shape;obtain⟨be,⟨⟨y0,y1,y2⟩,-,-,-⟩⟩:=jm w1 (.int .i64 0) (.slice none 0 0) (.slice none 0 0);have rV:=Below.step b1 be;obtain⟨W2,dZ⟩:=Ex (w1.alloc (.cells #[.int .i64 0,.slice none 0 0,.slice none 0 0] 36));rw[dZ] at be rV y0 y1 y2;replace⟨dZ,Hp,hpa⟩:=dO dZ Hp hpa;clear z0 z1 z2;go_upto_region 2 with fail;rw[dZ.out];go_wp2_with fail;refine(fH _ _ _ _ _ _ _ W2).mono ?_;rintro e w3 ⟨_,rfl,b3,rfl⟩;rw[show((0:Int) != 0)=false from rfl];have c3:=Below.step rV b3;clear y0 y1 y2;obtain⟨⟨g0,g1,g2⟩,f0,f1,f2⟩:=q4.below c3;obtain⟨bb,ZM⟩:=Ex (((xs.length:Int)==0));have hbb2:decide (xs=[])=bb:=by
   rw[<-ZM];cases xs with
   | nil=>rfl
   | cons a l =>
    rw[show decide (a::l=[])=false from decide_eq_false (by simp)];symm;rw[beq_eq_false_iff_ne];simp only[List.length_cons];omega
  replace hbb2:=Hd hbb2;go_wp2;(try simp only[Exit.inBlock,Exit.then]);exact bodyPost_ret (v:=.tuple #[.bool bb,.agg #[.int .i64 0,.slice none 0 0,.slice none 0 0]]) (by simp[results,Tryz.results26,go_sem,g0,g1,g2]) rfl ⟨_,_,rfl,aB (Below.step bA c3) (by have:=s0.out;omega) _ _ _,rfl,xs,hpa.out,by rw[hbb2.out]⟩
theorem LC{K:Nat}{T:List Int}{x y:Nat}(hK:T.length=K)(h1:x<T.length)(h3:y<x)(he:T.getD x 0=T.getD y 0):dH K 0 T [(x:Int)] [(y:Int)]:=by
 have sx:bj K [(x:Int)]:=λz hz=>by simp at hz;subst hz;omega
 have sy:bj K [(y:Int)]:=λz hz=>by simp at hz;subst hz;omega
 refine⟨sx,sy,rfl,by simp;omega,by simp,by simp,by simp,?_⟩;refine List.ext_getElem (by rw[aM,aM];rfl) λi h1 h2=>?_;rw[aM] at h1;have hi:i=0:=by simp at h1;omega
 subst hi;have g1:=re (K:=K) (T:=T) (a:=[(x:Int)]) (i:=0) (by simp);have g2:=re (K:=K) (T:=T) (a:=[(y:Int)]) (i:=0) (by simp);simp[List.getD] at g1 g2 he;have l1:0<(eM K 0 T [(x:Int)]).length:=by rw[aM];simp
 have l2:0<(eM K 0 T [(y:Int)]).length:=by rw[aM];simp
 simp[List.getElem?_eq_getElem l1] at g1;simp[List.getElem?_eq_getElem l2] at g2;rw[g1,g2];exact he
theorem Fl{K:Nat}{T:List Int}{x y:Nat}(hK:T.length=K)(h1:x<T.length)(h3:y<x)(he:T.getD x 0=T.getD y 0):xd K 0 T 1 :=
 ⟨⟨_,_,LC hK h1 h3 he,rfl⟩,λ_ _ hcd=>Ec hcd⟩
theorem QP{K:Nat}{T:List Int}(hK:T.length=K)(h:∀i j,j<i->i<T.length->T.getD i 0≠T.getD j 0)(a b:List Int):¬ dH K 0 T a b:=by
 refine ER hK (λi hi=>?_) a b;obtain⟨p,p1,p2,p3⟩:=AO hi;rw[p1];rcases Nat.lt_or_ge p i with hp | hp;.exact absurd p3.symm (h i p hp hi)
 .omega
end Go.Proofs.YtgjfejfeoofkhaaGreatDoor
