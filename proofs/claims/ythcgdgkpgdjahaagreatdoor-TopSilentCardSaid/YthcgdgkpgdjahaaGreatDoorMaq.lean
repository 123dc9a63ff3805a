/- Lemmas. -/
import Derived.Test.YthcgdgkpgdjahaaGreatDoorMap
namespace Go.Proofs.YthcgdgkpgdjahaaGreatDoor
open Go.RowKit
set_option linter.unusedVariables false
set_option linter.unusedSimpArgs false
set_option maxHeartbeats 16000000
open _root_.Go.Proofs.Tryz
set_option maxRecDepth 20000
def OA{α:Type}(R:Rep α)(s:Nat)(e:TypeId)(base:Nat)(v:Value)(l':List α)(p:Addr)(w w':World):Prop:=∃A a w1,aM R s e w1 base (fun _=>False) (.slice A l'.length a) l'/\w.grownBy w1 v.ownBlock/\((Value.slice A l'.length a).ownBlock=v.ownBlock\/∃q,(Value.slice A l'.length a).ownBlock=some q/\w.heap.size<=q)/\w'=w1.setCell p (.slice A l'.length a)
theorem Ej{α:Type}{R:Rep α}{s:Nat}(F:Firm R s){e:TypeId}{w w':World}{base:Nat}{v:Value}{l:List α}(h:aM R s e w base (fun _=>False) v l)(a:Below w.heap.size w w'):aM R s e w' base (fun _=>False) v l:=h.on F a
theorem IA{w w':World}(h:Below w.heap.size w w')(row:Option Nat):w.grownBy w' row:=⟨h.os,h.tape,h.output,h.size,fun k a _=>h.block k a⟩
theorem yC(s:Sto)(vc vr vn vo vt vu vk vb:Value)(S:(∃a n c,vc=.slice a n c)/\(∃a n c,vr=.slice a n c)/\(∃a n c,vn=.slice a n c)/\(∃a n c,vo=.slice a n c)/\(∃a n c,vt=.slice a n c)/\(∃a n c,vu=.slice a n c)/\(∃a n c,vk=.slice a n c)/\∃a n c,vb=.slice a n c)
 (b i base:Nat)(v:Value)(log:List uI)(actor what:bY)(w:World)(k:aM nB 3 173 w base (fun _=>False) v log)(ab:log.length<=900000)(A:vW ⟨s.aDX,actor,what⟩)(j:w.cell? ⟨b,i+4,none⟩=some v)(y:w.frozen? ⟨b,i+4,none⟩=false)(t:v.ownBlock≠some b)(R:base<=w.heap.size):
 Calls prog 90 #[.agg (aX s vc vr vn vo vt vu vk vb),.pointer (some ⟨b,i,none⟩),.string actor,.string what] w (fun e w'=>e=.returned (.tuple #[])/\OA nB 3 173 base v (log++[⟨s.aDX,actor,what⟩]) ⟨b,i+4,none⟩ w w'):=by
 obtain⟨⟨O,Q,P,rfl⟩,⟨ra,rn,rc,rfl⟩,⟨W,Y,X,rfl⟩,⟨Z,on,oc,rfl⟩,⟨ta,tn,tc,rfl⟩,⟨ua,un,uc,rfl⟩,⟨T,V,U,rfl⟩,⟨K,M,L,rfl⟩⟩:=S;obtain⟨la,lc,rfl⟩:=k.slice;have x:b<w.heap.size:=by have:=block_lt_of_cell j;exact this
 obtain⟨W0,f⟩:=xE (w.alloc (.cells (aX s (.slice O Q P) (.slice ra rn rc) (.slice W Y X) (.slice Z on oc) (.slice ta tn tc) (.slice ua un uc) (.slice T V U) (.slice K M L)) 62));have d:Below w.heap.size w W0:=by rw[f];exact aB _ _
 have m:=aA d;have c0:W0.cell? ⟨w.heap.size,0,none⟩=some (.int .i64 s.aDX):=by rw[f];exact aQ (aK _ _ _ rfl) 0 _ rfl
 have c1:W0.cell? ⟨b,i+4,none⟩=some (.slice la log.length lc):=(World.cell?_of_block (a:=⟨b,i+4,none⟩) (d.block b x)).trans j;have c2:W0.frozen? ⟨b,i+4,none⟩=false:=(World.frozen?_of_block (a:=⟨b,i+4,none⟩) (d.block b x)).trans y;have E:=aA (Ej cE k d);have hz:w.heap.size<W0.heap.size:=by rw[f];simp
 have r:b<W0.heap.size:=qo;have aa:¬b=W0.heap.size:=qo;obtain⟨J,I,D⟩:=aZ A f t;unfold aX at *;clear f d k j y A t;go_enter func90,ntmps90;go_upto_region 1 with (fail)
 rw[<-I.o];go_region_law (refine jA (base:=base) Dx cE rfl (.tmp 12) (.tmp 18) rfl _ log rfl (E.o.on cE (aB _ _).drew) W0.heap.size 1 _ _ _ ⟨s.aDX,actor,what⟩ rfl (aK _ _ _ rfl) ⟨rfl,J.o⟩ qo qe (lT R (lT m.o.size (aB W0 (.cells #[.int .i64 s.aDX,.string actor,.string what] 173)).drew.size)) ?_;intro l' z B N w9 p l q;have g:=(l.block b (lL r (aB W0 (.cells #[.int .i64 s.aDX,.string actor,.string what] 173)).drew.size) (fun e=>D.o e.symm)).trans ((aB W0 (.cells #[.int .i64 s.aDX,.string actor,.string what] 173)).drew.block b r);have d1:=(World.cell?_of_block (a:=⟨b,i+4,none⟩) g).trans c1;have d2:=(World.frozen?_of_block (a:=⟨b,i+4,none⟩) g).trans c2;have G:=aA z.o;have F:=aA p;have H:=aA l;have C:=aA q;clear p l q g z)
 all_goals
  go_wp2;go_returns;unfold OA;rw[<-G.o];have o:=aC m.o (aB W0 (.cells #[.int .i64 s.aDX,.string actor,.string what] 173)).drew;refine⟨rfl,B,N,w9,F.o,(IA o _).trans H.o,?_,rfl⟩
  rcases C.o with h|h
  .exact .inl h
  .exact .inr ⟨_,h,o.size⟩
def iE(K:nP)(base B:Nat)(w w':World)(s:Sto):Prop:=∃(L:List Mix) (ro:Option Value) (vc vr vn vo vt vu vk vb:Value),w'.heap[B]? =some (.cells (aX s vc vr vn vo vt vu vk vb) 62 (0,0))/\bD K base w' s L ro vc vr vn vo vt vu vk vb/\aN (fun b=>(b<base/\b≠B)\/K b) w w'
theorem iE.trans{K:nP}{base B:Nat}{a b c:World}{s t:Sto}(h:iE K base B a b s)(k:iE K base B b c t):iE K base B a c t:=by
 obtain⟨_,_,_,_,_,_,_,_,_,_,_,_,h3⟩:=h;obtain⟨L,ro,vc,vr,vn,vo,vt,vu,vk,vb,d,e,f⟩:=k;exact⟨L,ro,vc,vr,vn,vo,vt,vu,vk,vb,d,e,h3.trans f⟩
theorem iE.here{K:nP}{base B:Nat}{a b:World}{s:Sto}(h:iE K base B a b s):iE K base B b b s:=by
 obtain⟨L,ro,vc,vr,vn,vo,vt,vu,vk,vb,h1,h2,h3⟩:=h;exact⟨L,ro,vc,vr,vn,vo,vt,vu,vk,vb,h1,h2,aN.refl _ _⟩
theorem yW{v v':Value}{n:Nat}(h:v'.ownBlock=v.ownBlock\/v'.ownBlock=some n){m:Nat}(hm:m<=n):∀b,v'.ownBlock=some b->v.ownBlock=some b\/m<=b:=fun b a=>by
 rcases h with h|h
 .exact .inl (h▸a)
 .rw[h] at a;injection a with a;exact .inr (a▸hm)
theorem ZK{w w0 w1:World}{o:Option Nat}(a:Below w.heap.size w w0)(b:w0.grownBy w1 o):w.grownBy w1 o:=(IA a o).trans b
theorem VG{K:nP}{base B:Nat}{w d c:World}{s:Sto}{L:List Mix}{ro:Option Value}{vc vr vn vo vt vu vk vb:Value}{i:Obj}(f:bD K base d s L ro vc vr vn vo vt vu vk vb)(a:d.heap[B]? =some i)(k:B<base)(n:Below w.heap.size w d){v':Value}{l':List wJ}(g:d.grownBy c vr.ownBlock)(l:aM tG 7 166 c base (fun _=>False) v' l')(m:v'.ownBlock=vr.ownBlock\/v'.ownBlock=some d.heap.size):
 Hid (c.heap[B]? =some i)/\Hid (bD K base c {s with aDQ:=l'} L ro vc v' vn vo vt vu vk vb)/\Hid (aN (fun b=>(b<base/\b≠B)\/K b) w c):=by
 have j:∀b,b<base->some b≠vr.ownBlock:=fun b a e=>qA ((f.aDQ.lt b e.symm).1)
 exact⟨(g.block B (aD a) (j B k)).trans a,f.aEa g l (yW m (lR _)),(aJ n).trans ((cX g).mono (fun b _ a=>a.elim (fun h=>j b h.1) (fun h=>(f.kept b h).2.2.1)))⟩
theorem ZL(k:Int):(cK k).size<=cQ:=by
 by_cases h:k<1\/7<k
 .unfold cK;rw[iP h];decide +kernel
 .exact QCu
theorem VH{K:nP}{base B:Nat}(o:Op)(t:iU o)(s:Sto)(reason:bY)(F:reason.size<=cQ)(w:World)(a:¬K B)(M:B<base)(hl:s.aDQ.length<=990000)(h:iE K base B w w s):
 Calls prog 38 #[.pointer (some ⟨B,0,none⟩),eZ o,.string reason] w (fun e w'=>e=.returned (.tuple #[])/\iE K base B w w' (gG s o reason)):=by
 obtain⟨L,ro,vc,vr,vn,vo,vt,vu,vk,vb,D,m,_⟩:=h;obtain⟨ra,rc,rfl⟩:=m.aDQ.slice;obtain⟨y,r⟩:∃O:Obj,O=.cells (aX s vc (.slice ra s.aDQ.length rc) vn vo vt vu vk vb) 62:=⟨_,rfl⟩;obtain⟨q,A⟩:∃O:Obj,O=.cells (bX o) 32:=⟨_,rfl⟩;rw[<-r] at D;obtain⟨W0,n⟩:=xE (w.alloc q);have z:Below w.heap.size w W0:=by rw[n];exact aB _ _
 have p:Hid (Kq w B w.heap.size y q W0):=aA ⟨z,aE D z,by rw[n];exact aK _ _ _ rfl⟩;have l:Hid (∀(w':World),(w'.heap[B]? =some y/\w'.heap[w.heap.size]? =some q)->w'.cell? ⟨B,0,none⟩=some (.int .i64 s.aDX)/\w'.cell? ⟨B,2,none⟩=some (.slice ra s.aDQ.length rc)/\w'.frozen? ⟨B,2,none⟩=false/\B<w'.heap.size/\w'.cell? ⟨w.heap.size,0,none⟩=some (.int .i64 o.aDN)/\w'.cell? ⟨w.heap.size,1,none⟩=some (.string o.aD3)/\w'.cell? ⟨w.heap.size,2,none⟩=some (.string o.aDU)/\w.heap.size<w'.heap.size):=aA (fun w' R=>by
  have h1:=R.1;have h2:=R.2;rw[r] at h1;rw[A] at h2;exact⟨aQ h1 0 _ rfl,aQ h1 2 _ rfl,aR h1 2,aD h1,aQ h2 0 _ rfl,aQ h2 1 _ rfl,aQ h2 2 _ rfl,aD h2⟩)
 have x:=aA (fun w' (C:Below w.heap.size w w')=>m.on C);have G:=aA (fun w=>AP o.aDN w);unfold aP at G;rw[A] at n;unfold bX at n;have aa:=aA n;have ae:base<=w.heap.size:=m.size;have H:Hid (bL ((s.aDQ.length:Int)+1)/\bL s.aDX):=aA ⟨by unfold bL;omega,m.aDX⟩;have ab:=aA t;have W:Hid (¬some w.heap.size=(Value.slice ra s.aDQ.length rc).ownBlock):=aA (fun e=>qA ((m.aDQ.lt _ e.symm).2));obtain⟨ad,I,X⟩:=aZ F a r;have af:IntKind.i64.wrap ((s.aDQ.length:Int)+1)=(s.aDQ.length:Int)+1:=IntWalk.i64_in _ qo;have U:Hid (FG ⟨s.aDQ.length+1,s.aDX,o.aD3,o.aDU,cK o.aDN,reason,true⟩):=aA ⟨H.o.1,H.o.2,t.2.1,t.2.2.1,ZL o.aDN,F⟩;unfold eZ bX at *;clear n z D m r A t F a;obtain⟨c0,c2,f2,f,g,i,j,k⟩:=l.o _ p.o.2;have c:=aA (Kq.on p.o (Below.refl _ _).drew);go_enter func38,ntmps38;go_upto_region 1 with (fail)
 rw[<-aa.o];refine cD 28 [(0,false),(1,false),(2,false),(3,false),(4,false),(5,false),(6,false),(7,false),(8,false),(9,false),(10,false),(11,false),(12,false),(13,false),(14,false),(15,false),(16,false),(17,false),(18,false),(19,false),(20,false),(22,false),(21,true),(23,false),(24,true),(25,true),(26,false),(27,false)] [(28,true)] (fun w'=>w'.heap[B]? =some y/\w'.heap[w.heap.size]? =some q) (by kernel_rfl) (by kernel_rfl) ⟨p.o.2.1,p.o.2.2⟩ ?_;simp only[List.cons_append,List.nil_append]
 repeat (refine dG rfl (fun K a=> ?_);unfold rd;go_simp;refine a _ (fun w1 h1=> ?_) ?_;(· clear a K c0 c2 f2 f g i j k;obtain⟨c0,c2,f2,f,g,i,j,k⟩:=l.o _ h1;unfold rd;go_simp);clear a K)
 refine bJ rfl (fun K1 d=> ?_);unfold mv;go_simp;refine(G.o _).mono ?_;rintro e w_ ⟨rfl,Q⟩;replace c:=aA (Kq.on c.o Q);refine d _ _ (fun _=>c.o.2) ?_;clear d K1 Q c0 c2 f2 f g i j k;obtain⟨c0,c2,f2,f,g,i,j,k⟩:=l.o _ c.o.2
 (refine dG rfl (fun K a=> ?_);unfold rd;go_simp;refine a _ (fun w1 h1=> ?_) ?_;(· clear a K c0 c2 f2 f g i j k;obtain⟨c0,c2,f2,f,g,i,j,k⟩:=l.o _ h1;unfold rd;go_simp);clear a K)
 refine bJ rfl (fun K1 d=> ?_);unfold mv;go_simp;refine d _ _ (fun _=>(Kq.on c.o (aB _ _)).2) ?_;clear d K1;refine bJ rfl (fun K1 d=> ?_);unfold mv;refine jA (base:=base) Ub cV rfl (.tmp 10) (.tmp 30) rfl _ s.aDQ rfl (x.o _ (Kq.on c.o (aB _ _)).1).aDQ w_.heap.size 1 _ _ _ ⟨s.aDQ.length+1,s.aDX,o.aD3,o.aDU,cK o.aDN,reason,true⟩ rfl (aK _ _ _ rfl) ⟨rfl,U.o⟩ qo qe (x.o _ (Kq.on c.o (aB _ _)).1).size ?_;intro l' S T c' w9 N E P;obtain⟨v,Y,Z⟩:=VG (x.o _ (Kq.on c.o (aB _ _)).1) (aE c.o.2.1 (aB _ _)) M (Kq.on c.o (aB _ _)).1 E N P;have J:=aA ((E.block w.heap.size (aD (aE c.o.2.2 (aB _ _))) W.o).trans (aE c.o.2.2 (aB _ _)));refine d _ _ (fun _=>⟨v.o,J.o⟩) ?_;have V:=aA S.o;clear d K1 N E P S c0 c2 f2 f g i j k;obtain⟨c0,c2,f2,f,g,i,j,k⟩:=l.o _ ⟨v.o,J.o⟩
 repeat (refine dG rfl (fun K a=> ?_);unfold rd;go_simp;refine a _ (fun w1 h1=> ?_) ?_;(· clear a K c0 c2 f2 f g i j k;obtain⟨c0,c2,f2,f,g,i,j,k⟩:=l.o _ h1;unfold rd;go_simp);clear a K)
 refine bJ rfl (fun K1 d=> ?_);unfold mv;go_simp;refine d _ _ (fun h=>absurd h qe) ?_;clear d K1;unfold cJ;go_returns;refine⟨rfl,L,ro,vc,_,vn,vo,vt,vu,vk,vb,?_,bD.off (s:=gG s o reason) (show bD K base w9 (gG s o reason) L ro vc (.slice T l'.length c') vn vo vt vu vk vb from ?_) I.o M,Z.o.trans ((aI _).mono (fun b _ C=>C.elim (fun h=>h.2) (fun h e=>I.o (e▸h))))⟩
 .exact aG (X.o▸v.o) 2 _
 .have:=Y.o;rw[V.o] at this ⊢;exact this
section
open Pv
def wQ(k:Nat):Rep Unit:=fun _ _ cs _=>cs.length=k/\∀v∈cs,v.oneCell'=true
theorem kS(k:Nat):Firm (wQ k) k:=⟨fun h _=>h,fun h _=>h,fun h=>h.1,fun h=>h.2,fun h=>h⟩
theorem aA3:dZ prog 87 71 1 24:=fR (z:= .slice none 0 0) underlying87 (by kernel_rfl) rfl qe
abbrev DX(D:Nat)(a:Value):Obj:= .cells #[.pointer (some ⟨D,0,none⟩),a,.bool false] 94
theorem Jy(J D:Nat)(a:Value)(w:World)(h:w.heap[J]? =some (DX D a)):Calls prog 14 #[.pointer (some ⟨J,0,none⟩)] w (fun e w'=>e=.returned (.bool false)/\w'=w):=by
 obtain⟨⟨d0,d1,d2⟩,_⟩:=cF h;have b:=aD h;go_enter func14,ntmps14;go_wp2;go_ret;exact⟨rfl,rfl⟩
theorem Wx{w w':World}{B g:Nat}{a:oD}{l:List Value}(h:jF w (fun b=>B<=b/\b<w.heap.size) a l)(d:aN (fun b=>b≠g) w w')(f:g<B):jF w' (fun b=>B<=b/\b<w'.heap.size) a l:=
 (h.aDW (d.mono fun b _ c e=>qA c.1)).more fun b c=>⟨c.1,lL c.2 d.size⟩
def Wy(J D Q base:Nat)(f i:Nat)(la:oD)(lu:List Unit)(lc:Nat)(w:World)(e:Ending)(w':World):Prop:=
 e=.returned (.int .i64 0)/\∃(l:lU) (A c:oD) (g d:Nat) (a:List Unit),l.length=f+(8+i)/\a.length=lu.length+1/\w'.heap[J]? =some (DX D (.slice c a.length d))/\w'.heap[D]? =some (pG Q A l.length g l.length)/\jF w' (fun b=>(w.heap.size<=b/\b<w'.heap.size)/\some b≠(Value.slice c a.length d).ownBlock) A (bF l)/\aM (wQ 1) 1 71 w' base (fun _=>False) (.slice c a.length d) a/\(∀b,(Value.slice c a.length d).ownBlock=some b->(Value.slice la lu.length lc).ownBlock=some b\/w.heap.size<=b)/\aN (fun b=>b≠J/\b≠D/\some b≠(Value.slice la lu.length lc).ownBlock) w w'
theorem Qq(J D Q Z lc base:Nat)(S la:oD)(lu:List Unit)(sy:Int)(bs:lU)(a:oD)(c:Nat)(p:lU)(w:World)(ab:J≠D)(M:w.heap[J]? =some (DX D (.slice la lu.length lc)))(hD:w.heap[D]? =some (pG Q S bs.length Z sy))(hG:aM (wQ 1) 1 71 w base (fun _=>False) (.slice la lu.length lc) lu)(al:J<base/\D<base/\base<=w.heap.size)(an:lu.length<=900000)(d:Sl w w.heap.size S (bF bs))(hp:jF w (fun b=>b≠D) a (bF p))(h0:0<p.length)(h8:p.length<=8192)(ai:bs.length+(8+p.length)<=Q)(hQ:Q<=900000):
 Calls prog 17 #[.pointer (some ⟨J,0,none⟩),.slice a p.length c] w (Wy J D Q base bs.length p.length la lu lc w):=by
 obtain⟨H,V,t,R,B,q⟩:=hD6 M hD hG (And.intro d hp) (And.intro ai (And.intro h0 (And.intro h8 (And.intro hQ an)))) (And.intro al ab);have h01:¬(p.length=0):=qo;have h81:¬(8192<(p.length:Int)):=qo;have h82:¬(8192<p.length):=qo;obtain⟨⟨i,j,k⟩,_⟩:=cF M;have n:=aD M;clear M hD hG d hp ai hQ an al ab h0 h8;go_enter func17,ntmps17;go_upto_region 5 with (fail)
 refine cD 7 [(0,false),(1,false),(2,false),(3,false),(4,false),(5,true),(6,true)] [(7,true)] (fun w'=>w'.heap[J]? =some (DX D (.slice la lu.length lc))) (by kernel_rfl) (by kernel_rfl) H.o ?_;simp only[List.cons_append,List.nil_append]
 repeat (refine dG rfl (fun K o=> ?_);unfold rd;go_simp;refine o _ (fun av h1=> ?_) ?_;(· clear o K i j k n;obtain⟨⟨i,j,k⟩,_⟩:=cF h1;have n:=aD h1;unfold rd;go_simp);clear o K)
 have r:Below w.heap.size w w.drew:=(Below.refl _ _).drew;refine bJ rfl (fun K1 g=> ?_);unfold mv;go_simp;refine(Je a c p w.drew (qA B.o) (R.o.2.lt.on r)).mono ?_;rintro e w1 ⟨f,A1,c1,rfl,hf,aq,_,ae⟩;obtain⟨z,P,a7⟩:=aZ (aC r ae) hf aq;refine g _ _ (fun _=>aE H.o z.o) ?_;clear g K1 hf aq ae r i j k n;refine bJ rfl (fun K1 g=> ?_);unfold mv;go_simp;refine(YT D Q Z S sy bs A1 c1 f w1 (qA B.o) (aE V.o z.o) (R.o.1.on z.o) a7.o (qA P.o) (qD P.o B.o)).mono ?_;rintro e w2 ⟨rfl,⟨l,s,c2,hl,ag,ar⟩,au⟩;have HL:=aA (hl.trans (by rw[P.o]):l.length=bs.length+(8+p.length));have ax:=aA ag;have a8:=aA (ar.more (fun b d=>⟨lT z.o.size d.1,d.2⟩):jF w2 (fun b=>w.heap.size<=b/\b<w2.heap.size) s (bF l));have Y:=aA ((aJ z.o).trans au);have I:=qS H Y.o q.o.2;refine g _ _ (fun _=>I.o) ?_;clear g K1 hl ag ar au;refine bJ rfl (fun K1 g=> ?_);unfold mv;go_simp;refine g _ _ (fun h=>absurd h qe) ?_;clear g K1;unfold cJ;obtain⟨⟨i,j,k⟩,_⟩:=cF I.o;have n:=aD I.o;go_upto_region 9 with (fail)
 go_wp2_with fail;refine(PV D Q l.length c2 s sy w2 ax.o).mono ?_;rintro e m ⟨rfl,ah,N⟩;obtain⟨ay,C,A⟩:=aZ ah (Y.o.trans N) (aF I.o N q.o.2);have bb:=aA ((Wx a8.o N (qA (aD V.o))):jF m (fun b=>w.heap.size<=b/\b<m.heap.size) s (bF l));clear ah N i j k n;obtain⟨⟨i,j,k⟩,_⟩:=cF A.o;have n:=aD A.o;go_upto_region 13 with (fail)
 have r:Below m.heap.size m m.drew:=(Below.refl _ _).drew;have bk:=aA r;refine cD 11 [(0,false),(1,false),(2,false),(3,false),(4,false),(5,false),(6,true),(7,true),(8,true),(9,false),(10,false)] [(11,true)] (fun w'=>w'.heap[J]? =some (DX D (.slice la lu.length lc))) (by kernel_rfl) (by kernel_rfl) A.o ?_;simp only[List.cons_append,List.nil_append]
 repeat (refine dG rfl (fun K o=> ?_);unfold rd;go_simp;refine o _ (fun av h1=> ?_) ?_;(· clear o K i j k n;obtain⟨⟨i,j,k⟩,_⟩:=cF h1;have n:=aD h1;unfold rd;go_simp);clear o K)
 clear i j k n;refine bJ rfl (fun K1 g=> ?_);unfold mv;go_simp;refine(PF a c p.length p rfl m.drew (qA B.o) ((R.o.2.aDW C.o).lt.on r)).mono ?_;intro e w4 ao;obtain⟨A5,c5,rfl,_,_,af⟩:=qU ao;have U:=aA (aC r af);have X:=qK A U.o;refine g _ _ (fun _=>X.o) ?_;clear g K1 af r ao;refine bJ rfl (fun K1 g=> ?_);unfold mv;go_simp;refine g _ _ (fun _=>aE X.o (aB _ _)) ?_;clear g K1;have G:Hid (Below m.heap.size m (w4.alloc (.cells #[.slice A5 p.length c5] 71))):=qB U (aB _ _);have a1:Hid (aM (wQ 1) 1 71 m base (fun _=>False) (.slice la lu.length lc) lu):=aA (t.o.stays (kS 1) C.o (fun b d=>qD ((t.o.lt b d).1) q.o.1) (fun _ h _=>h.elim));refine bJ rfl (fun K1 g=> ?_);unfold mv;refine jA (base:=base) aA3 (kS 1) rfl (.tmp 44) (.tmp 47) rfl _ lu rfl (a1.o.on (kS 1) G.o) w4.heap.size 1 _ _ _ () rfl (aK _ _ _ rfl) ⟨rfl,fun v hv=>by rw[List.mem_singleton.1 hv];rfl⟩ (qA B.o) qe (qF G.o.size C.o.size q.o.1) ?_;intro x ak y F O aa aj ad;have be:some J≠(Value.slice la lu.length lc).ownBlock:=fun e=>qD ((t.o.lt J e.symm).1) q.o.1
 have bd:some D≠(Value.slice la lu.length lc).ownBlock:=fun e=>qD ((t.o.lt D e.symm).1) q.o.1
 have E:=aA ((aJ (ok:=fun b=>some b≠(Value.slice la lu.length lc).ownBlock) G.o).trans (cX aj));obtain⟨L,az,W⟩:=aZ (aF A.o E.o be) (aF ay.o E.o bd) aa;have a6:Hid (x.length=lu.length+1):=aA (by rw[ak.o,aL];rfl);have T:Hid (∀b,(Value.slice y x.length F).ownBlock=some b->(Value.slice la lu.length lc).ownBlock=some b\/m.heap.size<=b):=aA (fun b d=>by
  rcases ad with h|h
  .exact .inl (h▸d)
  .rw[h] at d;injection d with d
   exact .inr (qA G.o.size))
 have aw:Hid (∀b,(Value.slice y x.length F).ownBlock=some b->(Value.slice la lu.length lc).ownBlock=some b\/w.heap.size<=b):=aA (fun b d=>(T.o b d).imp id (fun h=>lT C.o.size h));refine g _ _ (fun _=>L.o) ?_;clear g K1 aa aj ad ak;obtain⟨⟨i,j,k⟩,f0,f1,f2⟩:=cF L.o;have n:=aD L.o
 repeat (refine dG rfl (fun K o=> ?_);unfold rd;go_simp;refine o _ (fun av h1=> ?_) ?_;(· clear o K i j k n;obtain⟨⟨i,j,k⟩,_⟩:=cF h1;have n:=aD h1;unfold rd;go_simp);clear o K)
 refine bJ rfl (fun K1 g=> ?_);unfold mv;go_simp;refine g _ _ (fun h=>absurd h qe) ?_;clear g K1;unfold cJ;go_wp2;go_ret;have bf:=q.o.2;have bg:jF O (fun b=>w.heap.size<=b/\b<m.heap.size) s (bF l):=bb.o.aDW (E.o.mono fun b _ d e=>qD ((t.o.lt b e.symm).2) d.1);have bh:jF (O.setCell ⟨J,1,none⟩ (.slice y x.length F)) (fun b=>w.heap.size<=b/\b<m.heap.size) s (bF l):=bg.aDW ((aI _).mono fun b _ d e=>qD d.1 (aD H.o));have bj:(O.setCell ⟨J,1,none⟩ (.slice y x.length F)).heap.size=O.heap.size:=by simp[World.setCell]
 exact⟨rfl,l,s,y,c2,F,x,HL.o,a6.o,aG L.o 1 _,aF az.o (aI _) bf.symm,bh.more (fun b d=>⟨⟨d.1,by rw[bj];exact lL d.2 E.o.size⟩,fun e=>by rcases T.o b e.symm with h|h;(· have:=(t.o.lt b h).2;have:=d.1;omega);(· have:=d.2;omega)⟩),W.o.off (kS 1) (fun h=>h) (fun e=>qD ((W.o.lt _ e).1) q.o.1),aw.o,((C.o.mono fun b _ d=>d.2.1).trans (E.o.mono fun b _ d=>d.2.2)).trans ((aI _).mono fun b _ d=>d.1)⟩
end
namespace Fnv
def aA4:BitVec 64:=14695981039346656037#64
def aA5:BitVec 64:=1099511628211#64
def low:BitVec 64:=255#64
def step(h c:BitVec 64):BitVec 64:=(h ^^^ c) * aA5
def Un(p:BitVec 64):Nat->BitVec 64
 |0=>aA4
 |n+1=>step (Un p n) ((p >>> (8 * n))&&& low)
def Bf(h:BitVec 64)(l:lU):BitVec 64:=l.foldl (fun h c=>step h (c.toBitVec.setWidth 64)) h
def aDM(p:BitVec 64)(l:lU):BitVec 64:=Bf (Un p 8) l
theorem UJ(h:BitVec 64)(l:lU)(k:Nat)(a:k<l.length):Bf h (l.take (k+1))=step (Bf h (l.take k)) (l[k].toBitVec.setWidth 64):=by
 rw[List.take_add_one,gE a];unfold Bf;rw[List.foldl_append];rfl
theorem aAP(p:BitVec 64)(n:Nat):(p >>> (8 * n)) >>> 8=p >>> (8 * (n+1)):=by
 rw[<-BitVec.shiftRight_add];rfl
end Fnv
theorem Jz:(14695981039346656037:Int)=n64 Fnv.aA4:=qe
theorem Ek(p:BitVec 64)(j:Nat):n64 (p >>> (8 * j)) / (256:Int)=n64 (p >>> (8 * (j+1))):=by
 rw[show (256:Int)=2 ^ 8 from rfl,Vm,Fnv.aAP]
theorem Ka(p:BitVec 64)(a:oD)(cap n:Nat)(l:lU)(v:l.length=n)(w:World)(B:Nat)(C:l.length<=140737488351232)(o:Sl w B a (bF l)):
 Calls prog 50 #[.int .u64 (n64 p),.slice a n cap] w fun e w'=>e=.returned (.int .u64 (n64 (Fnv.aDM p l)))/\w=w':=by
 subst v;go_enter func50,ntmps50;go_wp2;go_loop [0,5,8] (fun q h i=>∃j:Nat,j<=8/\i=.int .i64 j/\q=.int .u64 (n64 (p >>> (8 * j)))/\h=.int .u64 (n64 (Fnv.Un p j))) (fun _ _ i=>8 - (intOf i).toNat)
 case atStart=>exact⟨0,qo,rfl,qs,by rw[Jz];rfl⟩
 case round=>
  obtain⟨j,hj,rfl,rfl,rfl⟩:=hrel;by_cases z:j<8
  .have h1:bits .and .u64 (n64 (p >>> (8 * j))) 255=n64 (p >>> (8 * j)&&& Fnv.low):=Vl _ Fnv.low;have h2:=As (Fnv.Un p j) (p >>> (8 * j)&&& Fnv.low);have h3:IntKind.u64.wrap (n64 (Fnv.Un p j ^^^ (p >>> (8 * j)&&& Fnv.low)) * 1099511628211)=n64 (Fnv.Un p (j+1)):=Au _ Fnv.aA5;have h4:=Hq (p >>> (8 * j));go_wp2;go_round
   case rel=>exact⟨j+1,qo,by go_num,by rw[Ek],rfl⟩
   case measure=>simp[intOf];omega
  .obtain rfl:j=8:=qo;generalize r:Fnv.Un p 8=h;go_wp2;go_loop [5,20] (fun t i=>∃k:Nat,k<=l.length/\i=.int .i64 k/\t=.int .u64 (n64 (Fnv.Bf h (l.take k)))) (fun _ i=>l.length - (intOf i).toNat)
   case atStart=>exact⟨0,Nat.zero_le _,rfl,rfl⟩
   case round=>
    obtain⟨k,A,rfl,rfl⟩:=hrel;by_cases m:k<l.length
    .obtain⟨b,off,rfl,_,g⟩:=o.byte m;have d:=aA (Fnv.UJ h l k m);generalize Fnv.Bf h (l.take k)=s at d ⊢;generalize l[k]=c at d g;have f:=Oy c;have D:=As;rw[f] at g;have x:=Hq (c.toBitVec.setWidth 64);have y:n64 (c.toBitVec.setWidth 64)<256:=by rw[<-f];have:=c.toNat_lt;omega
     have h3:IntKind.u64.wrap (n64 (s ^^^ c.toBitVec.setWidth 64) * 1099511628211)=n64 (Fnv.step s (c.toBitVec.setWidth 64)):=Au _ Fnv.aA5;clear o f;go_wp2;go_round
     case rel=>exact⟨k+1,qo,by go_num,by rw[d.o]⟩
     case measure=>simp[intOf];omega
    .obtain rfl:k=l.length:=qo;rw[List.take_length];go_wp2;go_ret;exact⟨by rw[<-r];rfl,rfl⟩
theorem nZ{w:World}{g:Nat}{a0 a a2 a3 a4 a5 b c:Value}{t:TypeId}(h:w.heap[g]? =some (.cells #[a0,a,a2,a3,a4,a5,b,c] t (0,0))):(w.cell? ⟨g,0,none⟩=some a0/\w.cell? ⟨g,1,none⟩=some a/\w.cell? ⟨g,2,none⟩=some a2/\w.cell? ⟨g,3,none⟩=some a3/\w.cell? ⟨g,4,none⟩=some a4/\w.cell? ⟨g,5,none⟩=some a5/\w.cell? ⟨g,6,none⟩=some b/\w.cell? ⟨g,7,none⟩=some c)/\w.frozen? ⟨g,0,none⟩=false/\w.frozen? ⟨g,1,none⟩=false/\w.frozen? ⟨g,2,none⟩=false/\w.frozen? ⟨g,3,none⟩=false/\w.frozen? ⟨g,4,none⟩=false/\w.frozen? ⟨g,5,none⟩=false/\w.frozen? ⟨g,6,none⟩=false/\w.frozen? ⟨g,7,none⟩=false:=⟨⟨aQ h 0 _ rfl,aQ h 1 _ rfl,aQ h 2 _ rfl,aQ h 3 _ rfl,aQ h 4 _ rfl,aQ h 5 _ rfl,aQ h 6 _ rfl,aQ h 7 _ rfl⟩,aR h 0,aR h 1,aR h 2,aR h 3,aR h 4,aR h 5,aR h 6,aR h 7⟩
theorem lM{w:World}{g:Nat}{a0 a a2 a3 a4 a5 i j k a9 b c a12 d e f:Value}{t:TypeId}(h:w.heap[g]? =some (.cells #[a0,a,a2,a3,a4,a5,i,j,k,a9,b,c,a12,d,e,f] t (0,0))):(w.cell? ⟨g,0,none⟩=some a0/\w.cell? ⟨g,1,none⟩=some a/\w.cell? ⟨g,2,none⟩=some a2/\w.cell? ⟨g,3,none⟩=some a3/\w.cell? ⟨g,4,none⟩=some a4/\w.cell? ⟨g,5,none⟩=some a5/\w.cell? ⟨g,6,none⟩=some i/\w.cell? ⟨g,7,none⟩=some j/\w.cell? ⟨g,8,none⟩=some k/\w.cell? ⟨g,9,none⟩=some a9/\w.cell? ⟨g,10,none⟩=some b/\w.cell? ⟨g,11,none⟩=some c/\w.cell? ⟨g,12,none⟩=some a12/\w.cell? ⟨g,13,none⟩=some d/\w.cell? ⟨g,14,none⟩=some e/\w.cell? ⟨g,15,none⟩=some f)/\w.frozen? ⟨g,0,none⟩=false/\w.frozen? ⟨g,1,none⟩=false/\w.frozen? ⟨g,2,none⟩=false/\w.frozen? ⟨g,3,none⟩=false/\w.frozen? ⟨g,4,none⟩=false/\w.frozen? ⟨g,5,none⟩=false/\w.frozen? ⟨g,6,none⟩=false/\w.frozen? ⟨g,7,none⟩=false/\w.frozen? ⟨g,8,none⟩=false/\w.frozen? ⟨g,9,none⟩=false/\w.frozen? ⟨g,10,none⟩=false/\w.frozen? ⟨g,11,none⟩=false/\w.frozen? ⟨g,12,none⟩=false/\w.frozen? ⟨g,13,none⟩=false/\w.frozen? ⟨g,14,none⟩=false/\w.frozen? ⟨g,15,none⟩=false:=⟨⟨aQ h 0 _ rfl,aQ h 1 _ rfl,aQ h 2 _ rfl,aQ h 3 _ rfl,aQ h 4 _ rfl,aQ h 5 _ rfl,aQ h 6 _ rfl,aQ h 7 _ rfl,aQ h 8 _ rfl,aQ h 9 _ rfl,aQ h 10 _ rfl,aQ h 11 _ rfl,aQ h 12 _ rfl,aQ h 13 _ rfl,aQ h 14 _ rfl,aQ h 15 _ rfl⟩,aR h 0,aR h 1,aR h 2,aR h 3,aR h 4,aR h 5,aR h 6,aR h 7,aR h 8,aR h 9,aR h 10,aR h 11,aR h 12,aR h 13,aR h 14,aR h 15⟩
namespace Cm
theorem QH{p:Prop}(h:p:=by
 rintro e w' ⟨rfl,rfl⟩;go_wp2;go_ret;exact⟨rfl,rfl⟩):p:=h
def qb:Nat->Nat
 |0=>0
 |1=>4598175219545276416
 |2=>4602678819172646912
 |3=>4604930618986332160
 |_=>4607182418800017408
theorem Qr:∀i j:Fin 5,FloatKind.f64.format.order (qb i.1) (qb j.1)=some (compare i.1 j.1):=by decide +kernel
theorem LH(i j:Nat)(a:i<=4)(hj:j<=4):FloatKind.f64.format.order (qb i) (qb j)=some (compare i j):=Qr ⟨i,qo⟩ ⟨j,qo⟩
theorem OC(i j:Nat)(a:i<=4)(hj:j<=4):(FloatKind.f64.format.order (qb i) (qb j)==some .eq)=(i==j):=by
 rw[LH i j a hj,Bool.eq_iff_iff,bQ,bQ,Option.some.injEq,Nat.compare_eq_eq]
theorem aDs(i j:Nat)(a:i<=4)(hj:j<=4):(FloatKind.f64.format.order (qb i) (qb j)==some .gt||FloatKind.f64.format.order (qb i) (qb j)==some .eq)=decide (j<=i):=by
 rw[LH i j a hj,Bool.eq_iff_iff,Bool.or_eq_true,bQ,bQ,Option.some.injEq,Option.some.injEq,Nat.compare_eq_eq,Nat.compare_eq_gt,decide_eq_true_eq];omega
theorem aAc:∀i:Fin 5,(FloatKind.f64.decode (qb i.1)).neg=false:=by decide +kernel
theorem Uo(i j:Nat)(b:i<=4)(hj:j<=4)(P:Program)(d:Array TypeId)(t:TypeId)(w:World):(Builtin.max_ d t #[.float .f64 (qb i),.float .f64 (qb j)]).run P w=.ok (.float .f64 (qb (max i j))) w:=by
 have c:=aAc ⟨i,qo⟩;simp only[] at c
 rcases Nat.lt_trichotomy i j with h|h|h
 .have a:=LH i j b hj;rw[Nat.compare_eq_lt.2 h] at a;rw[Nat.max_eq_right qo];simp[Builtin.max_,Builtin.max2,a]
 .subst h;have a:=LH i i b hj;rw[Nat.compare_eq_eq.2 rfl] at a;rw[Nat.max_self];simp[Builtin.max_,Builtin.max2,a,c]
 .have a:=LH i j b hj;rw[Nat.compare_eq_gt.2 h] at a;rw[Nat.max_eq_left qo];simp[Builtin.max_,Builtin.max2,a]
def mk(i j:Nat):Value:= .complex .f64 (qb i) (qb j)
def rD(m:Nat×Nat):Nat×Nat:=(m.2,m.1)
def xN(a b:Nat×Nat):Nat×Nat:=(max a.1 b.1,max a.2 b.2)
def sJ(m:Nat×Nat):Nat×Nat:=
 if m.2=4 then (0,4) else if m.2=2/\2<=m.1 then (2,2) else if m.2=2 then (0,2) else if m.1=4 then (4,0) else if m.1=2 then (2,0) else (0,0)
def QP(m:Nat×Nat):Prop:=m.1<=4/\m.2<=4
theorem QP.swap{m:Nat×Nat}(h:QP m):QP (rD m):=⟨h.2,h.1⟩
theorem QP.join{a b:Nat×Nat}(h:QP a)(k:QP b):QP (xN a b):=⟨Nat.max_le.2 ⟨h.1,k.1⟩,Nat.max_le.2 ⟨h.2,k.2⟩⟩
theorem xO(a b:Nat)(w:World):Calls prog 271 #[.complex .f64 a b] w fun e w'=>e=.returned (.tuple #[.float .f64 a,.float .f64 b])/\w=w':=by
 go_enter func271,ntmps271;go_wp2;go_ret2
 exact⟨rfl,rfl⟩
theorem Kb(a b:Nat)(w:World):Calls prog 272 #[.float .f64 a,.float .f64 b] w fun e w'=>e=.returned (.complex .f64 a b)/\w=w':=by
 go_enter func272,ntmps272;go_wp2;go_ret;exact⟨rfl,rfl⟩
theorem VI(m:Nat×Nat)(w:World):Calls prog 254 #[mk m.1 m.2] w fun e w'=>e=.returned (mk (rD m).1 (rD m).2)/\w=w':=by
 unfold mk rD;simp only[];generalize qb m.1=a;generalize qb m.2=b;go_enter func254,ntmps254;go_wp2_with fail;refine(xO a b w).mono ?_;rintro e w' ⟨rfl,rfl⟩;go_wp2_with fail;refine(Kb b a w).mono ?_;exact QH
theorem wS(m n:Nat×Nat)(hm:QP m)(f:QP n)(w:World):Calls prog 252 #[mk m.1 m.2,mk n.1 n.2] w fun e w'=>e=.returned (mk (xN m n).1 (xN m n).2)/\w=w':=by
 have h1:=Uo m.1 n.1 hm.1 f.1 prog;have h2:=Uo m.2 n.2 hm.2 f.2 prog;unfold mk xN;simp only[];generalize qb (max m.1 n.1)=g at h1 ⊢;generalize qb (max m.2 n.2)=i at h2 ⊢;generalize qb m.1=a at h1 ⊢;generalize qb m.2=b at h2 ⊢;generalize qb n.1=c at h1 ⊢;generalize qb n.2=d at h2 ⊢;go_enter func252,ntmps252;go_wp2_with fail;refine(xO a b w).mono ?_;rintro e w' ⟨rfl,rfl⟩;go_wp2_with fail;refine(xO c d w).mono ?_;rintro e w' ⟨rfl,rfl⟩;go_wp2_with fail;refine(Kb g i w).mono ?_;exact QH
end Cm
namespace Cm
def jV(n lo a:Int):Int:=lo+n % (a - lo+1)
theorem CL(n lo a:Int)(h:lo<=a):lo<=jV n lo a:=by
 unfold jV;have:=Int.emod_nonneg n (show a - lo+1≠0 by omega);omega
theorem CM(n lo a:Int)(h:lo<=a):jV n lo a<=a:=by
 unfold jV;have:=Int.emod_lt_of_pos n (show 0<a - lo+1 by omega);omega
theorem zS(n lo hi:Int)(w:World)(h1:0<=lo)(h2:lo<=hi)(h3:hi<=1000000):
 Calls prog 6 #[.int .i64 n,.int .i64 lo,.int .i64 hi] w fun e w'=>e=.returned (.int .i64 (jV n lo hi))/\w=w':=by
 exact QAB
end Cm
end Go.Proofs.YthcgdgkpgdjahaaGreatDoor
