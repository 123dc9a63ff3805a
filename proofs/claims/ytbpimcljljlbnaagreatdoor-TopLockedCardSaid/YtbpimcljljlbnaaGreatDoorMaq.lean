/- Lemmas. -/
import Derived.Test.YtbpimcljljlbnaaGreatDoorMap
namespace Go.Proofs.YtbpimcljljlbnaaGreatDoor
open Go.RowKit
set_option linter.unusedVariables false
set_option linter.unusedSimpArgs false
set_option maxHeartbeats 16000000
open _root_.Go.Proofs.Tryz
set_option maxRecDepth 20000
def MX{α:Type}(R:Rep α)(s:Nat)(e:TypeId)(base:Nat)(v:Value)(l':List α)(p:Addr)(w w':World):Prop:=∃A a w1,aM R s e w1 base (fun _=>False) (.slice A l'.length a) l'/\w.grownBy w1 v.ownBlock/\((Value.slice A l'.length a).ownBlock=v.ownBlock\/∃q,(Value.slice A l'.length a).ownBlock=some q/\w.heap.size<=q)/\w'=w1.setCell p (.slice A l'.length a)
theorem Db{α:Type}{R:Rep α}{s:Nat}(F:Firm R s){e:TypeId}{w w':World}{base:Nat}{v:Value}{l:List α}(h:aM R s e w base (fun _=>False) v l)(a:Below w.heap.size w w'):aM R s e w' base (fun _=>False) v l:=h.on F a
theorem FZ{w w':World}(h:Below w.heap.size w w')(row:Option Nat):w.grownBy w' row:=⟨h.os,h.tape,h.output,h.size,fun k a _=>h.block k a⟩
theorem xW(s:Sto)(vc vr vn vo vt vu vk vb:Value)(S:(∃a n c,vc=.slice a n c)/\(∃a n c,vr=.slice a n c)/\(∃a n c,vn=.slice a n c)/\(∃a n c,vo=.slice a n c)/\(∃a n c,vt=.slice a n c)/\(∃a n c,vu=.slice a n c)/\(∃a n c,vk=.slice a n c)/\∃a n c,vb=.slice a n c)
 (b i base:Nat)(v:Value)(log:List rT)(actor what:bY)(w:World)(k:aM lF 3 77 w base (fun _=>False) v log)(ab:log.length<=900000)(A:vO ⟨s.aDm,actor,what⟩)(j:w.cell? ⟨b,i+4,none⟩=some v)(y:w.frozen? ⟨b,i+4,none⟩=false)(t:v.ownBlock≠some b)(R:base<=w.heap.size):
 Calls prog 106 #[.agg (aV s vc vr vn vo vt vu vk vb),.pointer (some ⟨b,i,none⟩),.string actor,.string what] w (fun e w'=>e=.returned (.tuple #[])/\MX lF 3 77 base v (log++[⟨s.aDm,actor,what⟩]) ⟨b,i+4,none⟩ w w'):=by
 obtain⟨⟨O,Q,P,rfl⟩,⟨ra,rn,rc,rfl⟩,⟨W,Y,X,rfl⟩,⟨Z,on,oc,rfl⟩,⟨ta,tn,tc,rfl⟩,⟨ua,un,uc,rfl⟩,⟨T,V,U,rfl⟩,⟨K,M,L,rfl⟩⟩:=S;obtain⟨la,lc,rfl⟩:=k.slice;have x:b<w.heap.size:=by have:=block_lt_of_cell j;exact this
 obtain⟨W0,f⟩:=xE (w.alloc (.cells (aV s (.slice O Q P) (.slice ra rn rc) (.slice W Y X) (.slice Z on oc) (.slice ta tn tc) (.slice ua un uc) (.slice T V U) (.slice K M L)) 37));have d:Below w.heap.size w W0:=by rw[f];exact aB _ _
 have m:=aA d;have c0:W0.cell? ⟨w.heap.size,0,none⟩=some (.int .i64 s.aDm):=by rw[f];exact aQ (aK _ _ _ rfl) 0 _ rfl
 have c1:W0.cell? ⟨b,i+4,none⟩=some (.slice la log.length lc):=(World.cell?_of_block (a:=⟨b,i+4,none⟩) (d.block b x)).trans j;have c2:W0.frozen? ⟨b,i+4,none⟩=false:=(World.frozen?_of_block (a:=⟨b,i+4,none⟩) (d.block b x)).trans y;have E:=aA (Db bV k d);have hz:w.heap.size<W0.heap.size:=by rw[f];simp
 have r:b<W0.heap.size:=qo;have aa:¬b=W0.heap.size:=qo;obtain⟨J,I,D⟩:=aY A f t;unfold aV at *;clear f d k j y A t;go_enter func106,ntmps106;go_upto_region 1 with (fail)
 rw[<-I.o];go_region_law (refine iW (base:=base) Cp bV rfl (.tmp 12) (.tmp 18) rfl _ log rfl (E.o.on bV (aB _ _).drew) W0.heap.size 1 _ _ _ ⟨s.aDm,actor,what⟩ rfl (aK _ _ _ rfl) ⟨rfl,J.o⟩ qo qe (lT R (lT m.o.size (aB W0 (.cells #[.int .i64 s.aDm,.string actor,.string what] 77)).drew.size)) ?_;intro l' z B N w9 p l q;have g:=(l.block b (lL r (aB W0 (.cells #[.int .i64 s.aDm,.string actor,.string what] 77)).drew.size) (fun e=>D.o e.symm)).trans ((aB W0 (.cells #[.int .i64 s.aDm,.string actor,.string what] 77)).drew.block b r);have d1:=(World.cell?_of_block (a:=⟨b,i+4,none⟩) g).trans c1;have d2:=(World.frozen?_of_block (a:=⟨b,i+4,none⟩) g).trans c2;have G:=aA z.o;have F:=aA p;have H:=aA l;have C:=aA q;clear p l q g z)
 all_goals
  go_wp2;go_returns;unfold MX;rw[<-G.o];have o:=aC m.o (aB W0 (.cells #[.int .i64 s.aDm,.string actor,.string what] 77)).drew;refine⟨rfl,B,N,w9,F.o,(FZ o _).trans H.o,?_,rfl⟩
  rcases C.o with h|h
  .exact .inl h
  .exact .inr ⟨_,h,o.size⟩
def iB(K:nP)(base B:Nat)(w w':World)(s:Sto):Prop:=∃(L:List Mix) (ro:Option Value) (vc vr vn vo vt vu vk vb:Value),w'.heap[B]? =some (.cells (aV s vc vr vn vo vt vu vk vb) 37 (0,0))/\bC K base w' s L ro vc vr vn vo vt vu vk vb/\aO (fun b=>(b<base/\b≠B)\/K b) w w'
theorem iB.trans{K:nP}{base B:Nat}{a b c:World}{s t:Sto}(h:iB K base B a b s)(k:iB K base B b c t):iB K base B a c t:=by
 obtain⟨_,_,_,_,_,_,_,_,_,_,_,_,h3⟩:=h;obtain⟨L,ro,vc,vr,vn,vo,vt,vu,vk,vb,d,e,f⟩:=k;exact⟨L,ro,vc,vr,vn,vo,vt,vu,vk,vb,d,e,h3.trans f⟩
theorem iB.here{K:nP}{base B:Nat}{a b:World}{s:Sto}(h:iB K base B a b s):iB K base B b b s:=by
 obtain⟨L,ro,vc,vr,vn,vo,vt,vu,vk,vb,h1,h2,h3⟩:=h;exact⟨L,ro,vc,vr,vn,vo,vt,vu,vk,vb,h1,h2,aO.refl _ _⟩
theorem yP{v v':Value}{n:Nat}(h:v'.ownBlock=v.ownBlock\/v'.ownBlock=some n){m:Nat}(hm:m<=n):∀b,v'.ownBlock=some b->v.ownBlock=some b\/m<=b:=fun b a=>by
 rcases h with h|h
 .exact .inl (h▸a)
 .rw[h] at a;injection a with a;exact .inr (a▸hm)
theorem YG{w a w1:World}{o:Option Nat}(b:Below w.heap.size w a)(c:a.grownBy w1 o):w.grownBy w1 o:=(FZ b o).trans c
theorem UC{K:nP}{base B:Nat}{w d c:World}{s:Sto}{L:List Mix}{ro:Option Value}{vc vr vn vo vt vu vk vb:Value}{i:Obj}(f:bC K base d s L ro vc vr vn vo vt vu vk vb)(a:d.heap[B]? =some i)(k:B<base)(n:Below w.heap.size w d){v':Value}{l':List vY}(g:d.grownBy c vr.ownBlock)(l:aM sU 7 185 c base (fun _=>False) v' l')(m:v'.ownBlock=vr.ownBlock\/v'.ownBlock=some d.heap.size):
 Hid (c.heap[B]? =some i)/\Hid (bC K base c {s with aDf:=l'} L ro vc v' vn vo vt vu vk vb)/\Hid (aO (fun b=>(b<base/\b≠B)\/K b) w c):=by
 have j:∀b,b<base->some b≠vr.ownBlock:=fun b a e=>qA ((f.aDf.lt b e.symm).1)
 exact⟨(g.block B (aD a) (j B k)).trans a,f.aDz g l (yP m (lR _)),(aJ n).trans ((cX g).mono (fun b _ a=>a.elim (fun h=>j b h.1) (fun h=>(f.kept b h).2.2.1)))⟩
theorem YH(k:Int):(cJ k).size<=cQ:=by
 by_cases h:k<1\/7<k
 .unfold cJ;rw[iP h];decide +kernel
 .exact QCw
theorem UD{K:nP}{base B:Nat}(o:Op)(v:kG o)(s:Sto)(reason:bY)(G:reason.size<=cQ)(w:World)(a:¬K B)(N:B<base)(hl:s.aDf.length<=990000)(h:iB K base B w w s):
 Calls prog 56 #[.pointer (some ⟨B,0,none⟩),fG o,.string reason] w (fun e w'=>e=.returned (.tuple #[])/\iB K base B w w' (gB s o reason)):=by
 obtain⟨L,ro,vc,vr,vn,vo,vt,vu,vk,vb,E,n,_⟩:=h;obtain⟨ra,rc,rfl⟩:=n.aDf.slice;obtain⟨z,t⟩:∃O:Obj,O=.cells (aV s vc (.slice ra s.aDf.length rc) vn vo vt vu vk vb) 37:=⟨_,rfl⟩;obtain⟨r,C⟩:∃O:Obj,O=.cells (cB o) 58:=⟨_,rfl⟩;rw[<-t] at E;obtain⟨W0,p⟩:=xE (w.alloc r);have A:Below w.heap.size w W0:=by rw[p];exact aB _ _
 have q:Hid (Kq w B w.heap.size z r W0):=aA ⟨A,aE E A,by rw[p];exact aK _ _ _ rfl⟩;have m:Hid (∀(w':World),(w'.heap[B]? =some z/\w'.heap[w.heap.size]? =some r)->w'.cell? ⟨B,0,none⟩=some (.int .i64 s.aDm)/\w'.cell? ⟨B,2,none⟩=some (.slice ra s.aDf.length rc)/\w'.frozen? ⟨B,2,none⟩=false/\B<w'.heap.size/\w'.cell? ⟨w.heap.size,0,none⟩=some (.int .i64 o.aDe)/\w'.cell? ⟨w.heap.size,1,none⟩=some (.string o.aDs)/\w'.cell? ⟨w.heap.size,2,none⟩=some (.string o.aDj)/\w.heap.size<w'.heap.size):=aA (fun w' S=>by
  have h1:=S.1;have h2:=S.2;rw[t] at h1;rw[C] at h2;exact⟨aQ h1 0 _ rfl,aQ h1 2 _ rfl,aR h1 2,aD h1,aQ h2 0 _ rfl,aQ h2 1 _ rfl,aQ h2 2 _ rfl,aD h2⟩)
 have y:=aA (fun w' (D:Below w.heap.size w w')=>n.on D);have H:=aA (fun w=>AG o.aDe w);unfold aN at H;rw[C] at p;unfold cB at p;have ab:=aA p;have af:base<=w.heap.size:=n.size;have I:Hid (bK ((s.aDf.length:Int)+1)/\bK s.aDm):=aA ⟨by unfold bK;omega,n.aDm⟩;have ad:=aA v;have X:Hid (¬some w.heap.size=(Value.slice ra s.aDf.length rc).ownBlock):=aA (fun e=>qA ((n.aDf.lt _ e.symm).2));obtain⟨ae,J,Y⟩:=aY G a t;have ag:IntKind.i64.wrap ((s.aDf.length:Int)+1)=(s.aDf.length:Int)+1:=IntWalk.i64_in _ qo;have V:Hid (EO ⟨s.aDf.length+1,s.aDm,o.aDs,o.aDj,cJ o.aDe,reason,true⟩):=aA ⟨I.o.1,I.o.2,v.2.1,v.2.2.1,YH o.aDe,G⟩;unfold fG cB at *;clear p A E n t C v G a;obtain⟨c0,c2,f2,f,g,i,j,k⟩:=m.o _ q.o.2;have c:=aA (Kq.on q.o (Below.refl _ _).drew);go_enter func56,ntmps56;go_upto_region 1 with (fail)
 rw[<-ab.o];refine cA 28 [(0,false),(1,false),(2,false),(3,false),(4,false),(5,false),(6,false),(7,false),(8,false),(9,false),(10,false),(11,false),(12,false),(13,false),(14,false),(15,false),(16,false),(17,false),(18,false),(19,false),(20,false),(22,false),(21,true),(23,false),(24,true),(25,true),(26,false),(27,false)] [(28,true)] (fun w'=>w'.heap[B]? =some z/\w'.heap[w.heap.size]? =some r) (by kernel_rfl) (by kernel_rfl) ⟨q.o.2.1,q.o.2.2⟩ ?_;simp only[List.cons_append,List.nil_append]
 repeat (refine cU rfl (fun K a=> ?_);unfold rd;go_simp;refine a _ (fun w1 h1=> ?_) ?_;(· clear a K c0 c2 f2 f g i j k;obtain⟨c0,c2,f2,f,g,i,j,k⟩:=m.o _ h1;unfold rd;go_simp);clear a K)
 refine bG rfl (fun l d=> ?_);unfold mv;go_simp;refine(H.o _).mono ?_;rintro e w_ ⟨rfl,R⟩;replace c:=aA (Kq.on c.o R);refine d _ _ (fun _=>c.o.2) ?_;clear d l R c0 c2 f2 f g i j k;obtain⟨c0,c2,f2,f,g,i,j,k⟩:=m.o _ c.o.2
 (refine cU rfl (fun K a=> ?_);unfold rd;go_simp;refine a _ (fun w1 h1=> ?_) ?_;(· clear a K c0 c2 f2 f g i j k;obtain⟨c0,c2,f2,f,g,i,j,k⟩:=m.o _ h1;unfold rd;go_simp);clear a K)
 refine bG rfl (fun l d=> ?_);unfold mv;go_simp;refine d _ _ (fun _=>(Kq.on c.o (aB _ _)).2) ?_;clear d l;refine bG rfl (fun l d=> ?_);unfold mv;refine iW (base:=base) Sp cT rfl (.tmp 10) (.tmp 30) rfl _ s.aDf rfl (y.o _ (Kq.on c.o (aB _ _)).1).aDf w_.heap.size 1 _ _ _ ⟨s.aDf.length+1,s.aDm,o.aDs,o.aDj,cJ o.aDe,reason,true⟩ rfl (aK _ _ _ rfl) ⟨rfl,V.o⟩ qo qe (y.o _ (Kq.on c.o (aB _ _)).1).size ?_;intro l' T U c' w9 P F Q;obtain⟨x,Z,aa⟩:=UC (y.o _ (Kq.on c.o (aB _ _)).1) (aE c.o.2.1 (aB _ _)) N (Kq.on c.o (aB _ _)).1 F P Q;have M:=aA ((F.block w.heap.size (aD (aE c.o.2.2 (aB _ _))) X.o).trans (aE c.o.2.2 (aB _ _)));refine d _ _ (fun _=>⟨x.o,M.o⟩) ?_;have W:=aA T.o;clear d l P F Q T c0 c2 f2 f g i j k;obtain⟨c0,c2,f2,f,g,i,j,k⟩:=m.o _ ⟨x.o,M.o⟩
 repeat (refine cU rfl (fun K a=> ?_);unfold rd;go_simp;refine a _ (fun w1 h1=> ?_) ?_;(· clear a K c0 c2 f2 f g i j k;obtain⟨c0,c2,f2,f,g,i,j,k⟩:=m.o _ h1;unfold rd;go_simp);clear a K)
 refine bG rfl (fun l d=> ?_);unfold mv;go_simp;refine d _ _ (fun h=>absurd h qe) ?_;clear d l;unfold cG;go_returns;refine⟨rfl,L,ro,vc,_,vn,vo,vt,vu,vk,vb,?_,bC.off (s:=gB s o reason) (show bC K base w9 (gB s o reason) L ro vc (.slice U l'.length c') vn vo vt vu vk vb from ?_) J.o N,aa.o.trans ((aI _).mono (fun b _ D=>D.elim (fun h=>h.2) (fun h e=>J.o (e▸h))))⟩
 .exact aG (Y.o▸x.o) 2 _
 .have:=Z.o;rw[W.o] at this ⊢;exact this
section
open Pv
def wK(k:Nat):Rep Unit:=fun _ _ cs _=>cs.length=k/\∀v∈cs,v.oneCell'=true
theorem kI(k:Nat):Firm (wK k) k:=⟨fun h _=>h,fun h _=>h,fun h=>h.1,fun h=>h.2,fun h=>h⟩
theorem aAt:dV prog 104 96 1 24:=fP (z:= .slice none 0 0) underlying104 (by kernel_rfl) rfl qe
abbrev DL(D:Nat)(a:Value):Obj:= .cells #[.pointer (some ⟨D,0,none⟩),a,.bool false] 123
theorem Ij(J D:Nat)(a:Value)(w:World)(h:w.heap[J]? =some (DL D a)):Calls prog 28 #[.pointer (some ⟨J,0,none⟩)] w (fun e w'=>e=.returned (.bool false)/\w'=w):=by
 obtain⟨⟨d0,d1,d2⟩,_⟩:=cE h;have b:=aD h;go_enter func28,ntmps28;go_wp2;go_ret;exact⟨rfl,rfl⟩
theorem Vl{w w':World}{B g:Nat}{a:oD}{l:List Value}(h:gY w (fun b=>B<=b/\b<w.heap.size) a l)(d:aO (fun b=>b≠g) w w')(f:g<B):gY w' (fun b=>B<=b/\b<w'.heap.size) a l:=
 (h.aDl (d.mono fun b _ c e=>qA c.1)).more fun b c=>⟨c.1,lL c.2 d.size⟩
def Vm(J D Q base:Nat)(f i:Nat)(la:oD)(lu:List Unit)(lc:Nat)(w:World)(e:Ending)(w':World):Prop:=
 e=.returned (.int .i64 0)/\∃(l:lU) (A c:oD) (g d:Nat) (a:List Unit),l.length=f+(8+i)/\a.length=lu.length+1/\w'.heap[J]? =some (DL D (.slice c a.length d))/\w'.heap[D]? =some (oX Q A l.length g l.length)/\gY w' (fun b=>(w.heap.size<=b/\b<w'.heap.size)/\some b≠(Value.slice c a.length d).ownBlock) A (bF l)/\aM (wK 1) 1 96 w' base (fun _=>False) (.slice c a.length d) a/\(∀b,(Value.slice c a.length d).ownBlock=some b->(Value.slice la lu.length lc).ownBlock=some b\/w.heap.size<=b)/\aO (fun b=>b≠J/\b≠D/\some b≠(Value.slice la lu.length lc).ownBlock) w w'
theorem Pc(J D Q bc lc base:Nat)(T la:oD)(lu:List Unit)(sy:Int)(bs:lU)(a:oD)(c:Nat)(p:lU)(w:World)(ab:J≠D)(N:w.heap[J]? =some (DL D (.slice la lu.length lc)))(hD:w.heap[D]? =some (oX Q T bs.length bc sy))(hG:aM (wK 1) 1 96 w base (fun _=>False) (.slice la lu.length lc) lu)(al:J<base/\D<base/\base<=w.heap.size)(an:lu.length<=900000)(d:Sl w w.heap.size T (bF bs))(hp:gY w (fun b=>b≠D) a (bF p))(h0:0<p.length)(h8:p.length<=8192)(ai:bs.length+(8+p.length)<=Q)(hQ:Q<=900000):
 Calls prog 31 #[.pointer (some ⟨J,0,none⟩),.slice a p.length c] w (Vm J D Q base bs.length p.length la lu lc w):=by
 obtain⟨I,W,x,S,C,r⟩:=hD6 N hD hG (And.intro d hp) (And.intro ai (And.intro h0 (And.intro h8 (And.intro hQ an)))) (And.intro al ab);have h01:¬(p.length=0):=qo;have h81:¬(8192<(p.length:Int)):=qo;have h82:¬(8192<p.length):=qo;obtain⟨⟨j,k,m⟩,_⟩:=cE N;have o:=aD N;clear N hD hG d hp ai hQ an al ab h0 h8;go_enter func31,ntmps31;go_upto_region 5 with (fail)
 refine cA 7 [(0,false),(1,false),(2,false),(3,false),(4,false),(5,true),(6,true)] [(7,true)] (fun w'=>w'.heap[J]? =some (DL D (.slice la lu.length lc))) (by kernel_rfl) (by kernel_rfl) I.o ?_;simp only[List.cons_append,List.nil_append]
 repeat (refine cU rfl (fun K q=> ?_);unfold rd;go_simp;refine q _ (fun av h1=> ?_) ?_;(· clear q K j k m o;obtain⟨⟨j,k,m⟩,_⟩:=cE h1;have o:=aD h1;unfold rd;go_simp);clear q K)
 have s:Below w.heap.size w w.drew:=(Below.refl _ _).drew;refine bG rfl (fun i g=> ?_);unfold mv;go_simp;refine(Hn a c p w.drew (qA C.o) (S.o.2.lt.on s)).mono ?_;rintro e w1 ⟨f,A1,c1,rfl,hf,aq,_,ae⟩;obtain⟨A,R,a7⟩:=aY (aC s ae) hf aq;refine g _ _ (fun _=>aE I.o A.o) ?_;clear g i hf aq ae s j k m o;refine bG rfl (fun i g=> ?_);unfold mv;go_simp;refine(XQ D Q bc T sy bs A1 c1 f w1 (qA C.o) (aE W.o A.o) (S.o.1.on A.o) a7.o (qA R.o) (qD R.o C.o)).mono ?_;rintro e w2 ⟨rfl,⟨l,t,c2,hl,ag,ar⟩,au⟩;have HL:=aA (hl.trans (by rw[R.o]):l.length=bs.length+(8+p.length));have ax:=aA ag;have a8:=aA (ar.more (fun b d=>⟨lT A.o.size d.1,d.2⟩):gY w2 (fun b=>w.heap.size<=b/\b<w2.heap.size) t (bF l));have Z:=aA ((aJ A.o).trans au);have L:=qS I Z.o r.o.2;refine g _ _ (fun _=>L.o) ?_;clear g i hl ag ar au;refine bG rfl (fun i g=> ?_);unfold mv;go_simp;refine g _ _ (fun h=>absurd h qe) ?_;clear g i;unfold cG;obtain⟨⟨j,k,m⟩,_⟩:=cE L.o;have o:=aD L.o;go_upto_region 9 with (fail)
 go_wp2_with fail;refine(OM D Q l.length c2 t sy w2 ax.o).mono ?_;rintro e n ⟨rfl,ah,O⟩;obtain⟨ay,E,B⟩:=aY ah (Z.o.trans O) (aF L.o O r.o.2);have bb:=aA ((Vl a8.o O (qA (aD W.o))):gY n (fun b=>w.heap.size<=b/\b<n.heap.size) t (bF l));clear ah O j k m o;obtain⟨⟨j,k,m⟩,_⟩:=cE B.o;have o:=aD B.o;go_upto_region 13 with (fail)
 have s:Below n.heap.size n n.drew:=(Below.refl _ _).drew;have bk:=aA s;refine cA 11 [(0,false),(1,false),(2,false),(3,false),(4,false),(5,false),(6,true),(7,true),(8,true),(9,false),(10,false)] [(11,true)] (fun w'=>w'.heap[J]? =some (DL D (.slice la lu.length lc))) (by kernel_rfl) (by kernel_rfl) B.o ?_;simp only[List.cons_append,List.nil_append]
 repeat (refine cU rfl (fun K q=> ?_);unfold rd;go_simp;refine q _ (fun av h1=> ?_) ?_;(· clear q K j k m o;obtain⟨⟨j,k,m⟩,_⟩:=cE h1;have o:=aD h1;unfold rd;go_simp);clear q K)
 clear j k m o;refine bG rfl (fun i g=> ?_);unfold mv;go_simp;refine(OC a c p.length p rfl n.drew (qA C.o) ((S.o.2.aDl E.o).lt.on s)).mono ?_;intro e w4 ao;obtain⟨A5,c5,rfl,_,_,af⟩:=qE ao;have V:=aA (aC s af);have Y:=qK B V.o;refine g _ _ (fun _=>Y.o) ?_;clear g i af s ao;refine bG rfl (fun i g=> ?_);unfold mv;go_simp;refine g _ _ (fun _=>aE Y.o (aB _ _)) ?_;clear g i;have H:Hid (Below n.heap.size n (w4.alloc (.cells #[.slice A5 p.length c5] 96))):=qB V (aB _ _);have a1:Hid (aM (wK 1) 1 96 n base (fun _=>False) (.slice la lu.length lc) lu):=aA (x.o.stays (kI 1) E.o (fun b d=>qD ((x.o.lt b d).1) r.o.1) (fun _ h _=>h.elim));refine bG rfl (fun i g=> ?_);unfold mv;refine iW (base:=base) aAt (kI 1) rfl (.tmp 44) (.tmp 47) rfl _ lu rfl (a1.o.on (kI 1) H.o) w4.heap.size 1 _ _ _ () rfl (aK _ _ _ rfl) ⟨rfl,fun v hv=>by rw[List.mem_singleton.1 hv];rfl⟩ (qA C.o) qe (qF H.o.size E.o.size r.o.1) ?_;intro y ak z G P aa aj ad;have be:some J≠(Value.slice la lu.length lc).ownBlock:=fun e=>qD ((x.o.lt J e.symm).1) r.o.1
 have bd:some D≠(Value.slice la lu.length lc).ownBlock:=fun e=>qD ((x.o.lt D e.symm).1) r.o.1
 have F:=aA ((aJ (ok:=fun b=>some b≠(Value.slice la lu.length lc).ownBlock) H.o).trans (cX aj));obtain⟨M,az,X⟩:=aY (aF B.o F.o be) (aF ay.o F.o bd) aa;have a6:Hid (y.length=lu.length+1):=aA (by rw[ak.o,aL];rfl);have U:Hid (∀b,(Value.slice z y.length G).ownBlock=some b->(Value.slice la lu.length lc).ownBlock=some b\/n.heap.size<=b):=aA (fun b d=>by
  rcases ad with h|h
  .exact .inl (h▸d)
  .rw[h] at d;injection d with d
   exact .inr (qA H.o.size))
 have aw:Hid (∀b,(Value.slice z y.length G).ownBlock=some b->(Value.slice la lu.length lc).ownBlock=some b\/w.heap.size<=b):=aA (fun b d=>(U.o b d).imp id (fun h=>lT E.o.size h));refine g _ _ (fun _=>M.o) ?_;clear g i aa aj ad ak;obtain⟨⟨j,k,m⟩,f0,f1,f2⟩:=cE M.o;have o:=aD M.o
 repeat (refine cU rfl (fun K q=> ?_);unfold rd;go_simp;refine q _ (fun av h1=> ?_) ?_;(· clear q K j k m o;obtain⟨⟨j,k,m⟩,_⟩:=cE h1;have o:=aD h1;unfold rd;go_simp);clear q K)
 refine bG rfl (fun i g=> ?_);unfold mv;go_simp;refine g _ _ (fun h=>absurd h qe) ?_;clear g i;unfold cG;go_wp2;go_ret;have bf:=r.o.2;have bg:gY P (fun b=>w.heap.size<=b/\b<n.heap.size) t (bF l):=bb.o.aDl (F.o.mono fun b _ d e=>qD ((x.o.lt b e.symm).2) d.1);have bh:gY (P.setCell ⟨J,1,none⟩ (.slice z y.length G)) (fun b=>w.heap.size<=b/\b<n.heap.size) t (bF l):=bg.aDl ((aI _).mono fun b _ d e=>qD d.1 (aD I.o));have bj:(P.setCell ⟨J,1,none⟩ (.slice z y.length G)).heap.size=P.heap.size:=by simp[World.setCell]
 exact⟨rfl,l,t,z,c2,G,y,HL.o,a6.o,aG M.o 1 _,aF az.o (aI _) bf.symm,bh.more (fun b d=>⟨⟨d.1,by rw[bj];exact lL d.2 F.o.size⟩,fun e=>by rcases U.o b e.symm with h|h;(· have:=(x.o.lt b h).2;have:=d.1;omega);(· have:=d.2;omega)⟩),X.o.off (kI 1) (fun h=>h) (fun e=>qD ((X.o.lt _ e).1) r.o.1),aw.o,((E.o.mono fun b _ d=>d.2.1).trans (F.o.mono fun b _ d=>d.2.2)).trans ((aI _).mono fun b _ d=>d.1)⟩
end
namespace Fnv
def aAu:BitVec 64:=14695981039346656037#64
def aAv:BitVec 64:=1099511628211#64
def low:BitVec 64:=255#64
def step(h c:BitVec 64):BitVec 64:=(h ^^^ c) * aAv
def Tc(p:BitVec 64):Nat->BitVec 64
 |0=>aAu
 |n+1=>step (Tc p n) ((p >>> (8 * n))&&& low)
def Aa(h:BitVec 64)(l:lU):BitVec 64:=l.foldl (fun h c=>step h (c.toBitVec.setWidth 64)) h
def aDb(p:BitVec 64)(l:lU):BitVec 64:=Aa (Tc p 8) l
theorem TG(h:BitVec 64)(l:lU)(k:Nat)(a:k<l.length):Aa h (l.take (k+1))=step (Aa h (l.take k)) (l[k].toBitVec.setWidth 64):=by
 rw[List.take_add_one,gE a];unfold Aa;rw[List.foldl_append];rfl
theorem aAf(p:BitVec 64)(n:Nat):(p >>> (8 * n)) >>> 8=p >>> (8 * (n+1)):=by
 rw[<-BitVec.shiftRight_add];rfl
end Fnv
theorem Ik:(14695981039346656037:Int)=n64 Fnv.aAu:=qe
theorem Dc(p:BitVec 64)(j:Nat):n64 (p >>> (8 * j)) / (256:Int)=n64 (p >>> (8 * (j+1))):=by
 rw[show (256:Int)=2 ^ 8 from rfl,Ua,Fnv.aAf]
theorem Il(p:BitVec 64)(a:oD)(cap n:Nat)(l:lU)(v:l.length=n)(w:World)(B:Nat)(C:l.length<=140737488351232)(o:Sl w B a (bF l)):
 Calls prog 68 #[.int .u64 (n64 p),.slice a n cap] w fun e w'=>e=.returned (.int .u64 (n64 (Fnv.aDb p l)))/\w=w':=by
 subst v;go_enter func68,ntmps68;go_wp2;go_loop [0,5,8] (fun q h i=>∃j:Nat,j<=8/\i=.int .i64 j/\q=.int .u64 (n64 (p >>> (8 * j)))/\h=.int .u64 (n64 (Fnv.Tc p j))) (fun _ _ i=>8 - (intOf i).toNat)
 case atStart=>exact⟨0,qo,rfl,qs,by rw[Ik];rfl⟩
 case round=>
  obtain⟨j,hj,rfl,rfl,rfl⟩:=hrel;by_cases z:j<8
  .have h1:bits .and .u64 (n64 (p >>> (8 * j))) 255=n64 (p >>> (8 * j)&&& Fnv.low):=Tz _ Fnv.low;have h2:=ZO (Fnv.Tc p j) (p >>> (8 * j)&&& Fnv.low);have h3:IntKind.u64.wrap (n64 (Fnv.Tc p j ^^^ (p >>> (8 * j)&&& Fnv.low)) * 1099511628211)=n64 (Fnv.Tc p (j+1)):=ZP _ Fnv.aAv;have h4:=Ga (p >>> (8 * j));go_wp2;go_round
   case rel=>exact⟨j+1,qo,by go_num,by rw[Dc],rfl⟩
   case measure=>simp[intOf];omega
  .obtain rfl:j=8:=qo;generalize r:Fnv.Tc p 8=h;go_wp2;go_loop [5,20] (fun t i=>∃k:Nat,k<=l.length/\i=.int .i64 k/\t=.int .u64 (n64 (Fnv.Aa h (l.take k)))) (fun _ i=>l.length - (intOf i).toNat)
   case atStart=>exact⟨0,Nat.zero_le _,rfl,rfl⟩
   case round=>
    obtain⟨k,A,rfl,rfl⟩:=hrel;by_cases m:k<l.length
    .obtain⟨b,off,rfl,_,g⟩:=o.byte m;have d:=aA (Fnv.TG h l k m);generalize Fnv.Aa h (l.take k)=s at d ⊢;generalize l[k]=c at d g;have f:=Nf c;have D:=ZO;rw[f] at g;have x:=Ga (c.toBitVec.setWidth 64);have y:n64 (c.toBitVec.setWidth 64)<256:=by rw[<-f];have:=c.toNat_lt;omega
     have h3:IntKind.u64.wrap (n64 (s ^^^ c.toBitVec.setWidth 64) * 1099511628211)=n64 (Fnv.step s (c.toBitVec.setWidth 64)):=ZP _ Fnv.aAv;clear o f;go_wp2;go_round
     case rel=>exact⟨k+1,qo,by go_num,by rw[d.o]⟩
     case measure=>simp[intOf];omega
    .obtain rfl:k=l.length:=qo;rw[List.take_length];go_wp2;go_ret;exact⟨by rw[<-r];rfl,rfl⟩
theorem nL{w:World}{g:Nat}{a0 a a2 a3 a4 a5 b c:Value}{t:TypeId}(h:w.heap[g]? =some (.cells #[a0,a,a2,a3,a4,a5,b,c] t (0,0))):(w.cell? ⟨g,0,none⟩=some a0/\w.cell? ⟨g,1,none⟩=some a/\w.cell? ⟨g,2,none⟩=some a2/\w.cell? ⟨g,3,none⟩=some a3/\w.cell? ⟨g,4,none⟩=some a4/\w.cell? ⟨g,5,none⟩=some a5/\w.cell? ⟨g,6,none⟩=some b/\w.cell? ⟨g,7,none⟩=some c)/\w.frozen? ⟨g,0,none⟩=false/\w.frozen? ⟨g,1,none⟩=false/\w.frozen? ⟨g,2,none⟩=false/\w.frozen? ⟨g,3,none⟩=false/\w.frozen? ⟨g,4,none⟩=false/\w.frozen? ⟨g,5,none⟩=false/\w.frozen? ⟨g,6,none⟩=false/\w.frozen? ⟨g,7,none⟩=false:=⟨⟨aQ h 0 _ rfl,aQ h 1 _ rfl,aQ h 2 _ rfl,aQ h 3 _ rfl,aQ h 4 _ rfl,aQ h 5 _ rfl,aQ h 6 _ rfl,aQ h 7 _ rfl⟩,aR h 0,aR h 1,aR h 2,aR h 3,aR h 4,aR h 5,aR h 6,aR h 7⟩
theorem kP{w:World}{g:Nat}{a0 a a2 a3 a4 a5 i j k a9 b c a12 d e f:Value}{t:TypeId}(h:w.heap[g]? =some (.cells #[a0,a,a2,a3,a4,a5,i,j,k,a9,b,c,a12,d,e,f] t (0,0))):(w.cell? ⟨g,0,none⟩=some a0/\w.cell? ⟨g,1,none⟩=some a/\w.cell? ⟨g,2,none⟩=some a2/\w.cell? ⟨g,3,none⟩=some a3/\w.cell? ⟨g,4,none⟩=some a4/\w.cell? ⟨g,5,none⟩=some a5/\w.cell? ⟨g,6,none⟩=some i/\w.cell? ⟨g,7,none⟩=some j/\w.cell? ⟨g,8,none⟩=some k/\w.cell? ⟨g,9,none⟩=some a9/\w.cell? ⟨g,10,none⟩=some b/\w.cell? ⟨g,11,none⟩=some c/\w.cell? ⟨g,12,none⟩=some a12/\w.cell? ⟨g,13,none⟩=some d/\w.cell? ⟨g,14,none⟩=some e/\w.cell? ⟨g,15,none⟩=some f)/\w.frozen? ⟨g,0,none⟩=false/\w.frozen? ⟨g,1,none⟩=false/\w.frozen? ⟨g,2,none⟩=false/\w.frozen? ⟨g,3,none⟩=false/\w.frozen? ⟨g,4,none⟩=false/\w.frozen? ⟨g,5,none⟩=false/\w.frozen? ⟨g,6,none⟩=false/\w.frozen? ⟨g,7,none⟩=false/\w.frozen? ⟨g,8,none⟩=false/\w.frozen? ⟨g,9,none⟩=false/\w.frozen? ⟨g,10,none⟩=false/\w.frozen? ⟨g,11,none⟩=false/\w.frozen? ⟨g,12,none⟩=false/\w.frozen? ⟨g,13,none⟩=false/\w.frozen? ⟨g,14,none⟩=false/\w.frozen? ⟨g,15,none⟩=false:=⟨⟨aQ h 0 _ rfl,aQ h 1 _ rfl,aQ h 2 _ rfl,aQ h 3 _ rfl,aQ h 4 _ rfl,aQ h 5 _ rfl,aQ h 6 _ rfl,aQ h 7 _ rfl,aQ h 8 _ rfl,aQ h 9 _ rfl,aQ h 10 _ rfl,aQ h 11 _ rfl,aQ h 12 _ rfl,aQ h 13 _ rfl,aQ h 14 _ rfl,aQ h 15 _ rfl⟩,aR h 0,aR h 1,aR h 2,aR h 3,aR h 4,aR h 5,aR h 6,aR h 7,aR h 8,aR h 9,aR h 10,aR h 11,aR h 12,aR h 13,aR h 14,aR h 15⟩
namespace Cm
theorem OZ{p:Prop}(h:p:=by
 rintro e w' ⟨rfl,rfl⟩;go_wp2;go_ret;exact⟨rfl,rfl⟩):p:=h
def qb:Nat->Nat
 |0=>0
 |1=>4598175219545276416
 |2=>4602678819172646912
 |3=>4604930618986332160
 |_=>4607182418800017408
theorem Pd:∀i j:Fin 5,FloatKind.f64.format.order (qb i.1) (qb j.1)=some (compare i.1 j.1):=by decide +kernel
theorem KK(i j:Nat)(a:i<=4)(hj:j<=4):FloatKind.f64.format.order (qb i) (qb j)=some (compare i j):=Pd ⟨i,qo⟩ ⟨j,qo⟩
theorem MY(i j:Nat)(a:i<=4)(hj:j<=4):(FloatKind.f64.format.order (qb i) (qb j)==some .eq)=(i==j):=by
 rw[KK i j a hj,Bool.eq_iff_iff,bQ,bQ,Option.some.injEq,Nat.compare_eq_eq]
theorem aCQ(i j:Nat)(a:i<=4)(hj:j<=4):(FloatKind.f64.format.order (qb i) (qb j)==some .gt||FloatKind.f64.format.order (qb i) (qb j)==some .eq)=decide (j<=i):=by
 rw[KK i j a hj,Bool.eq_iff_iff,Bool.or_eq_true,bQ,bQ,Option.some.injEq,Option.some.injEq,Nat.compare_eq_eq,Nat.compare_eq_gt,decide_eq_true_eq];omega
theorem Yp:∀i:Fin 5,(FloatKind.f64.decode (qb i.1)).neg=false:=by decide +kernel
theorem Td(i j:Nat)(b:i<=4)(hj:j<=4)(P:Program)(d:Array TypeId)(t:TypeId)(w:World):(Builtin.max_ d t #[.float .f64 (qb i),.float .f64 (qb j)]).run P w=.ok (.float .f64 (qb (max i j))) w:=by
 have c:=Yp ⟨i,qo⟩;simp only[] at c
 rcases Nat.lt_trichotomy i j with h|h|h
 .have a:=KK i j b hj;rw[Nat.compare_eq_lt.2 h] at a;rw[Nat.max_eq_right qo];simp[Builtin.max_,Builtin.max2,a]
 .subst h;have a:=KK i i b hj;rw[Nat.compare_eq_eq.2 rfl] at a;rw[Nat.max_self];simp[Builtin.max_,Builtin.max2,a,c]
 .have a:=KK i j b hj;rw[Nat.compare_eq_gt.2 h] at a;rw[Nat.max_eq_left qo];simp[Builtin.max_,Builtin.max2,a]
def mk(i j:Nat):Value:= .complex .f64 (qb i) (qb j)
def qP(m:Nat×Nat):Nat×Nat:=(m.2,m.1)
def xG(a b:Nat×Nat):Nat×Nat:=(max a.1 b.1,max a.2 b.2)
def rX(m:Nat×Nat):Nat×Nat:=
 if m.2=4 then (0,4) else if m.2=2/\2<=m.1 then (2,2) else if m.2=2 then (0,2) else if m.1=4 then (4,0) else if m.1=2 then (2,0) else (0,0)
def QP(m:Nat×Nat):Prop:=m.1<=4/\m.2<=4
theorem QP.swap{m:Nat×Nat}(h:QP m):QP (qP m):=⟨h.2,h.1⟩
theorem QP.join{a b:Nat×Nat}(h:QP a)(k:QP b):QP (xG a b):=⟨Nat.max_le.2 ⟨h.1,k.1⟩,Nat.max_le.2 ⟨h.2,k.2⟩⟩
theorem xH(a b:Nat)(w:World):Calls prog 276 #[.complex .f64 a b] w fun e w'=>e=.returned (.tuple #[.float .f64 a,.float .f64 b])/\w=w':=by
 go_enter func276,ntmps276;go_wp2;go_ret2
 exact⟨rfl,rfl⟩
theorem Im(a b:Nat)(w:World):Calls prog 277 #[.float .f64 a,.float .f64 b] w fun e w'=>e=.returned (.complex .f64 a b)/\w=w':=by
 go_enter func277,ntmps277;go_wp2;go_ret;exact⟨rfl,rfl⟩
theorem UE(m:Nat×Nat)(w:World):Calls prog 259 #[mk m.1 m.2] w fun e w'=>e=.returned (mk (qP m).1 (qP m).2)/\w=w':=by
 unfold mk qP;simp only[];generalize qb m.1=a;generalize qb m.2=b;go_enter func259,ntmps259;go_wp2_with fail;refine(xH a b w).mono ?_;rintro e w' ⟨rfl,rfl⟩;go_wp2_with fail;refine(Im b a w).mono ?_;exact OZ
theorem wL(m n:Nat×Nat)(hm:QP m)(f:QP n)(w:World):Calls prog 257 #[mk m.1 m.2,mk n.1 n.2] w fun e w'=>e=.returned (mk (xG m n).1 (xG m n).2)/\w=w':=by
 have h1:=Td m.1 n.1 hm.1 f.1 prog;have h2:=Td m.2 n.2 hm.2 f.2 prog;unfold mk xG;simp only[];generalize qb (max m.1 n.1)=g at h1 ⊢;generalize qb (max m.2 n.2)=i at h2 ⊢;generalize qb m.1=a at h1 ⊢;generalize qb m.2=b at h2 ⊢;generalize qb n.1=c at h1 ⊢;generalize qb n.2=d at h2 ⊢;go_enter func257,ntmps257;go_wp2_with fail;refine(xH a b w).mono ?_;rintro e w' ⟨rfl,rfl⟩;go_wp2_with fail;refine(xH c d w).mono ?_;rintro e w' ⟨rfl,rfl⟩;go_wp2_with fail;refine(Im g i w).mono ?_;exact OZ
end Cm
namespace Cm
end Cm
end Go.Proofs.YtbpimcljljlbnaaGreatDoor
