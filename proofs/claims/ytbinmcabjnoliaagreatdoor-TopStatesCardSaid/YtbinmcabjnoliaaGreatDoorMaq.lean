/- Lemmas. -/
import Derived.Test.YtbinmcabjnoliaaGreatDoorMap
namespace Go.Proofs.YtbinmcabjnoliaaGreatDoor
open Go.RowKit
set_option linter.unusedVariables false
set_option linter.unusedSimpArgs false
set_option maxHeartbeats 16000000
open _root_.Go.Proofs.Tryz
set_option maxRecDepth 20000
theorem QCv{p:Prop}(h:p:=by
 have:k=1\/k=2\/k=3\/k=4\/k=5\/k=6\/k=7:=qo
 rcases this with rfl|rfl|rfl|rfl|rfl|rfl|rfl<;>decide +kernel):p:=h
theorem Hs{p:Prop}(h:p:=by
 go_wp2;go_returns;exact⟨by rw[HE.o];rfl,HB1.o⟩):p:=h
theorem KJ{p:Prop}(h:p:=by
 go_enter func65,ntmps65;go_wp2;go_returns;exact⟨rfl,aB _ _⟩):p:=h
theorem ZW(k:Int)(h:k<1\/7<k):cJ k=⟨#[116,105,99,107]⟩:=by unfold cJ;rw[iP h,Xi]
theorem AF(k:Int)(w:World):Calls prog 65 #[.int .i64 k] w (aO (.string (cJ k)) w):=by
 unfold aO;by_cases h:k<1\/7<k
 .rw[ZW k h]
  rcases h with h|h
  .have h1:k<1:=h;exact KJ
  .have h0:¬k<1:=qo;have h1:k > 7:=h;exact KJ
 .have:k=1\/k=2\/k=3\/k=4\/k=5\/k=6\/k=7:=qo;clear h
  rcases this with rfl|rfl|rfl|rfl|rfl|rfl|rfl
  .rw[show cJ 1=⟨#[110,101,119]⟩ by kernel_rfl];exact KJ
  .rw[show cJ 2=⟨#[114,101,97,100]⟩ by kernel_rfl];exact KJ
  .rw[show cJ 3=⟨#[119,114,105,116,101]⟩ by kernel_rfl];exact KJ
  .rw[show cJ 4=⟨#[109,111,118,101]⟩ by kernel_rfl];exact KJ
  .rw[show cJ 5=⟨#[99,108,111,115,101]⟩ by kernel_rfl];exact KJ
  .rw[show cJ 6=⟨#[114,111,108,101]⟩ by kernel_rfl];exact KJ
  .rw[show cJ 7=⟨#[112,111,108,105,99,121]⟩ by kernel_rfl];exact KJ
theorem Cl(k:Int)(w:World):Calls prog 120 #[.int .i64 k] w (aO (.bool (decide (1<=k/\k<=4))) w):=by
 unfold aO;by_cases h:1<=k
 .have h1:decide (k ≥ 1)=true:=dX h;go_enter func120,ntmps120;go_wp2;go_returns;exact⟨bI (by simp[h]),Below.refl _ _⟩
 .have h1:decide (k ≥ 1)=false:=dF h;go_enter func120,ntmps120;go_wp2;go_returns;exact⟨bI qs,Below.refl _ _⟩
theorem mS{s:bY}(h:s.size=0):s=⟨([]:lU).toArray⟩:=by
 apply ByteArray.ext
 exact Array.eq_empty_of_size_eq_zero h
theorem kV{s:bY}(h:s.size≠0):s≠⟨([]:lU).toArray⟩:=fun e=>h (by rw[e];rfl)
theorem DH(s:bY)(b:s.size<=cQ)(w:World):Calls prog 70 #[.string s] w (aO (.bool (mR s)) w):=by
 have a:=aA (oP s (sW b) w);unfold aO mR;by_cases h:s.size=0
 .obtain⟨h1,h2⟩:=fO s [] (mS h);rw[dX h,Bool.true_or];clear h;go_enter func70,ntmps70;exact FX
 .obtain⟨h1,h2⟩:=fH s [] (kV h);rw[dF h,Bool.false_or];clear h;generalize eO s=n at *;go_enter func70,ntmps70;go_wp2_with fail;refine a.o.mono ?_;rintro e w1 ⟨rfl,rfl⟩;exact FX
theorem MU(x:bY)(l:lU):(x.toList==l)=decide (x=⟨l.toArray⟩):=by
 by_cases h:x=⟨l.toArray⟩
 .rw[dX h];exact(fO x l h).1
 .rw[dF h];exact(fH x l h).1
theorem DI(a b:bY)(w:World):Calls prog 9 #[.string a,.string b] w (aO (.bool (gW a b)) w):=by
 unfold aO;by_cases h1:a=zP
 .obtain⟨c,d⟩:=fO a [111,112,101,110] (by rw[h1];exact Gs);rw[show gW a b=decide (b=uX) by unfold gW;rw[iP h1]];clear h1;go_enter func9,ntmps9;go_wp2;go_returns;exact⟨bI (show (b.toList==[119,111,114,107])=decide (b=uX) by rw[MU];unfold uX;rw[CG]),Below.refl _ _⟩
 obtain⟨c,d⟩:=fH a [111,112,101,110] (fun e=>h1 (e.trans Gs.symm));by_cases h2:a=uX
 .obtain⟨f,g⟩:=fO a [119,111,114,107] (by rw[h2];exact CG);rw[show gW a b=decide (b=EL) by unfold gW;rw[iN h1,iP h2]];clear h1 h2;go_enter func9,ntmps9;go_wp2;go_returns;exact⟨bI (show (b.toList==[100,111,110,101])=decide (b=EL) by rw[MU];unfold EL;rw[SU]),Below.refl _ _⟩
 obtain⟨f,g⟩:=fH a [119,111,114,107] (fun e=>h2 (e.trans CG.symm));by_cases h3:a=EL
 .obtain⟨p5,p6⟩:=fO a [100,111,110,101] (by rw[h3];exact SU);rw[show gW a b=(decide (b=uX)||decide (b=lH)) by unfold gW;rw[iN h1,iN h2,iP h3]];clear h1 h2 h3;by_cases h4:b=uX
  .obtain⟨q1,i⟩:=fO b [119,111,114,107] (by rw[h4];exact CG);rw[dX h4,Bool.true_or];clear h4;go_enter func9,ntmps9;exact FX
  .obtain⟨q1,i⟩:=fH b [119,111,114,107] (fun e=>h4 (e.trans CG.symm));rw[dF h4,Bool.false_or];clear h4;go_enter func9,ntmps9;go_wp2;go_returns;exact⟨bI (show (b.toList==[99,108,111,115,101,100])=decide (b=lH) by rw[MU];unfold lH;rw[qR]),Below.refl _ _⟩
 obtain⟨p5,p6⟩:=fH a [100,111,110,101] (fun e=>h3 (e.trans SU.symm));rw[show gW a b=false by unfold gW;rw[iN h1,iN h2,iN h3]];clear h1 h2 h3;go_enter func9,ntmps9;exact FX
theorem Ht{o:Op}(h:o.aDk=false):oA o=decide (o.aDf.size=0):=by unfold oA;rw[iP h]
theorem Cn{o:Op}(h:o.aDk=true):oA o=(decide (1<=o.aCR/\o.aCR<=4)&&(decide (o.aDf.size≠0)&&decide (o.aDf.size<=64))):=by unfold oA;rw[iN (by rw[h];decide)]
theorem Co(o:Op)(w:World):Calls prog 69 #[fF o] w (aO (.bool (oA o)) w):=by
 obtain⟨k,su,i,j,m,⟨v1,v2,v3⟩,l,n,b,r⟩:=o;unfold aO fF cB
 cases r
 .rw[Ht rfl];dsimp only;by_cases a:b.size=0
  .obtain⟨h1,h2⟩:=fO b [] (mS a);rw[dX a];clear a;go_enter func69,ntmps69;go_wp2;go_returns;exact⟨rfl,aB _ _⟩
  .obtain⟨h1,h2⟩:=fH b [] (kV a);rw[dF a];clear a;go_enter func69,ntmps69;go_wp2;go_returns;exact⟨rfl,aB _ _⟩
 .rw[Cn rfl];dsimp only;obtain⟨W0,d⟩:=xE (w.alloc (.cells #[.int .i64 k,.string su,.string i,.string j,.string m,.int .i64 v1,.int .i64 v2,.string v3,.int .i64 l,.string n,.string b,.bool true] 71));have p:Hid (Below w.heap.size w W0):=aA (by rw[d];exact aB _ _);have A:Hid (W0.heap[w.heap.size]? =some (.cells #[.int .i64 k,.string su,.string i,.string j,.string m,.int .i64 v1,.int .i64 v2,.string v3,.int .i64 l,.string n,.string b,.bool true] 71 (0,0))):=aA (by rw[d];exact aK _ _ _ rfl);have q:=aA d;have f:=aA (Cl k W0);unfold aO at f;generalize decide (1<=k/\k<=4)=c at *;clear d;go_enter func69,ntmps69;go_wp2_with fail;rw[<-q.o];refine f.o.mono ?_;rintro e w1 ⟨rfl,g⟩;have HB1:=qB p g;replace A:=qK A g;obtain⟨⟨s,t,y,z,B,C,D,E,F,G,v,x⟩,_⟩:=bO A.o;have H:=aD A.o;clear g f
  cases c
  .go_wp2;go_returns;exact⟨rfl,HB1.o⟩
  .by_cases a:b.size=0
   .obtain⟨h1,h2⟩:=fO b [] (mS a);have HE:Hid (decide (b.size≠0)=false):=aA (dF (fun h=>h a));clear a;exact Hs
   .obtain⟨h1,h2⟩:=fH b [] (kV a);have HE:Hid (decide (b.size≠0)=true):=aA (dX a);clear a;go_wp2;go_returns;exact⟨by rw[HE.o,Bool.true_and,Bool.true_and];exact bI (by rw[Bool.eq_iff_iff,decide_eq_true_iff,decide_eq_true_iff];omega),HB1.o⟩
def MV{α:Type}(R:Rep α)(s:Nat)(e:TypeId)(base:Nat)(v:Value)(l':List α)(p:Addr)(w w':World):Prop:=∃A a w1,aM R s e w1 base (fun _=>False) (.slice A l'.length a) l'/\w.grownBy w1 v.ownBlock/\((Value.slice A l'.length a).ownBlock=v.ownBlock\/∃q,(Value.slice A l'.length a).ownBlock=some q/\w.heap.size<=q)/\w'=w1.setCell p (.slice A l'.length a)
theorem Cp{α:Type}{R:Rep α}{s:Nat}(F:Firm R s){e:TypeId}{w w':World}{base:Nat}{v:Value}{l:List α}(h:aM R s e w base (fun _=>False) v l)(a:Below w.heap.size w w'):aM R s e w' base (fun _=>False) v l:=h.on F a
theorem FZ{w w':World}(h:Below w.heap.size w w')(row:Option Nat):w.grownBy w' row:=⟨h.os,h.tape,h.output,h.size,fun k a _=>h.block k a⟩
theorem xV(s:Sto)(vc vr vn vo vt vu vk vb:Value)(S:(∃a n c,vc=.slice a n c)/\(∃a n c,vr=.slice a n c)/\(∃a n c,vn=.slice a n c)/\(∃a n c,vo=.slice a n c)/\(∃a n c,vt=.slice a n c)/\(∃a n c,vu=.slice a n c)/\(∃a n c,vk=.slice a n c)/\∃a n c,vb=.slice a n c)
 (b i base:Nat)(v:Value)(log:List rS)(actor what:bY)(w:World)(k:aM lE 3 52 w base (fun _=>False) v log)(ab:log.length<=900000)(A:vL ⟨s.aCZ,actor,what⟩)(j:w.cell? ⟨b,i+4,none⟩=some v)(y:w.frozen? ⟨b,i+4,none⟩=false)(t:v.ownBlock≠some b)(R:base<=w.heap.size):
 Calls prog 106 #[.agg (aV s vc vr vn vo vt vu vk vb),.pointer (some ⟨b,i,none⟩),.string actor,.string what] w (fun e w'=>e=.returned (.tuple #[])/\MV lE 3 52 base v (log++[⟨s.aCZ,actor,what⟩]) ⟨b,i+4,none⟩ w w'):=by
 obtain⟨⟨O,Q,P,rfl⟩,⟨ra,rn,rc,rfl⟩,⟨W,Y,X,rfl⟩,⟨Z,on,oc,rfl⟩,⟨ta,tn,tc,rfl⟩,⟨ua,un,uc,rfl⟩,⟨T,V,U,rfl⟩,⟨K,M,L,rfl⟩⟩:=S;obtain⟨la,lc,rfl⟩:=k.slice;have x:b<w.heap.size:=by have:=block_lt_of_cell j;exact this
 obtain⟨W0,f⟩:=xE (w.alloc (.cells (aV s (.slice O Q P) (.slice ra rn rc) (.slice W Y X) (.slice Z on oc) (.slice ta tn tc) (.slice ua un uc) (.slice T V U) (.slice K M L)) 40));have d:Below w.heap.size w W0:=by rw[f];exact aB _ _
 have m:=aA d;have c0:W0.cell? ⟨w.heap.size,0,none⟩=some (.int .i64 s.aCZ):=by rw[f];exact aQ (aK _ _ _ rfl) 0 _ rfl
 have c1:W0.cell? ⟨b,i+4,none⟩=some (.slice la log.length lc):=(World.cell?_of_block (a:=⟨b,i+4,none⟩) (d.block b x)).trans j;have c2:W0.frozen? ⟨b,i+4,none⟩=false:=(World.frozen?_of_block (a:=⟨b,i+4,none⟩) (d.block b x)).trans y;have E:=aA (Cp bS k d);have hz:w.heap.size<W0.heap.size:=by rw[f];simp
 have r:b<W0.heap.size:=qo;have aa:¬b=W0.heap.size:=qo;obtain⟨J,I,D⟩:=aY A f t;unfold aV at *;clear f d k j y A t;go_enter func106,ntmps106;go_upto_region 1 with (fail)
 rw[<-I.o];go_region_law (refine iX (base:=base) Cc bS rfl (.tmp 12) (.tmp 18) rfl _ log rfl (E.o.on bS (aB _ _).drew) W0.heap.size 1 _ _ _ ⟨s.aCZ,actor,what⟩ rfl (aK _ _ _ rfl) ⟨rfl,J.o⟩ qo qe (lT R (lT m.o.size (aB W0 (.cells #[.int .i64 s.aCZ,.string actor,.string what] 52)).drew.size)) ?_;intro l' z B N w9 p l q;have g:=(l.block b (lL r (aB W0 (.cells #[.int .i64 s.aCZ,.string actor,.string what] 52)).drew.size) (fun e=>D.o e.symm)).trans ((aB W0 (.cells #[.int .i64 s.aCZ,.string actor,.string what] 52)).drew.block b r);have d1:=(World.cell?_of_block (a:=⟨b,i+4,none⟩) g).trans c1;have d2:=(World.frozen?_of_block (a:=⟨b,i+4,none⟩) g).trans c2;have G:=aA z.o;have F:=aA p;have H:=aA l;have C:=aA q;clear p l q g z)
 all_goals
  go_wp2;go_returns;unfold MV;rw[<-G.o];have o:=aC m.o (aB W0 (.cells #[.int .i64 s.aCZ,.string actor,.string what] 52)).drew;refine⟨rfl,B,N,w9,F.o,(FZ o _).trans H.o,?_,rfl⟩
  rcases C.o with h|h
  .exact .inl h
  .exact .inr ⟨_,h,o.size⟩
def iB(K:nP)(base B:Nat)(w w':World)(s:Sto):Prop:=∃(L:List Mix) (ro:Option Value) (vc vr vn vo vt vu vk vb:Value),w'.heap[B]? =some (.cells (aV s vc vr vn vo vt vu vk vb) 40 (0,0))/\bC K base w' s L ro vc vr vn vo vt vu vk vb/\aN (fun b=>(b<base/\b≠B)\/K b) w w'
theorem iB.trans{K:nP}{base B:Nat}{a b c:World}{s t:Sto}(h:iB K base B a b s)(k:iB K base B b c t):iB K base B a c t:=by
 obtain⟨_,_,_,_,_,_,_,_,_,_,_,_,h3⟩:=h;obtain⟨L,ro,vc,vr,vn,vo,vt,vu,vk,vb,d,e,f⟩:=k;exact⟨L,ro,vc,vr,vn,vo,vt,vu,vk,vb,d,e,h3.trans f⟩
theorem iB.here{K:nP}{base B:Nat}{a b:World}{s:Sto}(h:iB K base B a b s):iB K base B b b s:=by
 obtain⟨L,ro,vc,vr,vn,vo,vt,vu,vk,vb,h1,h2,h3⟩:=h;exact⟨L,ro,vc,vr,vn,vo,vt,vu,vk,vb,h1,h2,aN.refl _ _⟩
theorem yP{v v':Value}{n:Nat}(h:v'.ownBlock=v.ownBlock\/v'.ownBlock=some n){m:Nat}(hm:m<=n):∀b,v'.ownBlock=some b->v.ownBlock=some b\/m<=b:=fun b a=>by
 rcases h with h|h
 .exact .inl (h▸a)
 .rw[h] at a;injection a with a;exact .inr (a▸hm)
theorem XX{w a w1:World}{o:Option Nat}(b:Below w.heap.size w a)(c:a.grownBy w1 o):w.grownBy w1 o:=(FZ b o).trans c
theorem TW{K:nP}{base B:Nat}{w d c:World}{s:Sto}{L:List Mix}{ro:Option Value}{vc vr vn vo vt vu vk vb:Value}{i:Obj}(f:bC K base d s L ro vc vr vn vo vt vu vk vb)(a:d.heap[B]? =some i)(k:B<base)(n:Below w.heap.size w d){v':Value}{l':List vU}(g:d.grownBy c vr.ownBlock)(l:aM sU 7 183 c base (fun _=>False) v' l')(m:v'.ownBlock=vr.ownBlock\/v'.ownBlock=some d.heap.size):
 Hid (c.heap[B]? =some i)/\Hid (bC K base c {s with aCU:=l'} L ro vc v' vn vo vt vu vk vb)/\Hid (aN (fun b=>(b<base/\b≠B)\/K b) w c):=by
 have j:∀b,b<base->some b≠vr.ownBlock:=fun b a e=>qA ((f.aCU.lt b e.symm).1)
 exact⟨(g.block B (aD a) (j B k)).trans a,f.aDd g l (yP m (lR _)),(aJ n).trans ((cW g).mono (fun b _ a=>a.elim (fun h=>j b h.1) (fun h=>(f.kept b h).2.2.1)))⟩
theorem XY(k:Int):(cJ k).size<=cQ:=by
 by_cases h:k<1\/7<k
 .unfold cJ;rw[iP h];decide +kernel
 .exact QCv
theorem TX{K:nP}{base B:Nat}(o:Op)(v:kF o)(s:Sto)(reason:bY)(G:reason.size<=cQ)(w:World)(a:¬K B)(N:B<base)(hl:s.aCU.length<=990000)(h:iB K base B w w s):
 Calls prog 56 #[.pointer (some ⟨B,0,none⟩),fF o,.string reason] w (fun e w'=>e=.returned (.tuple #[])/\iB K base B w w' (gB s o reason)):=by
 obtain⟨L,ro,vc,vr,vn,vo,vt,vu,vk,vb,E,n,_⟩:=h;obtain⟨ra,rc,rfl⟩:=n.aCU.slice;obtain⟨z,t⟩:∃O:Obj,O=.cells (aV s vc (.slice ra s.aCU.length rc) vn vo vt vu vk vb) 40:=⟨_,rfl⟩;obtain⟨r,C⟩:∃O:Obj,O=.cells (cB o) 71:=⟨_,rfl⟩;rw[<-t] at E;obtain⟨W0,p⟩:=xE (w.alloc r);have A:Below w.heap.size w W0:=by rw[p];exact aB _ _
 have q:Hid (Kq w B w.heap.size z r W0):=aA ⟨A,aE E A,by rw[p];exact aK _ _ _ rfl⟩;have m:Hid (∀(w':World),(w'.heap[B]? =some z/\w'.heap[w.heap.size]? =some r)->w'.cell? ⟨B,0,none⟩=some (.int .i64 s.aCZ)/\w'.cell? ⟨B,2,none⟩=some (.slice ra s.aCU.length rc)/\w'.frozen? ⟨B,2,none⟩=false/\B<w'.heap.size/\w'.cell? ⟨w.heap.size,0,none⟩=some (.int .i64 o.aCR)/\w'.cell? ⟨w.heap.size,1,none⟩=some (.string o.aC6)/\w'.cell? ⟨w.heap.size,2,none⟩=some (.string o.aCX)/\w.heap.size<w'.heap.size):=aA (fun w' S=>by
  have h1:=S.1;have h2:=S.2;rw[t] at h1;rw[C] at h2;exact⟨aQ h1 0 _ rfl,aQ h1 2 _ rfl,aR h1 2,aD h1,aQ h2 0 _ rfl,aQ h2 1 _ rfl,aQ h2 2 _ rfl,aD h2⟩)
 have y:=aA (fun w' (D:Below w.heap.size w w')=>n.on D);have H:=aA (fun w=>AF o.aCR w);unfold aO at H;rw[C] at p;unfold cB at p;have ab:=aA p;have af:base<=w.heap.size:=n.size;have I:Hid (bK ((s.aCU.length:Int)+1)/\bK s.aCZ):=aA ⟨by unfold bK;omega,n.aCZ⟩;have ad:=aA v;have X:Hid (¬some w.heap.size=(Value.slice ra s.aCU.length rc).ownBlock):=aA (fun e=>qA ((n.aCU.lt _ e.symm).2));obtain⟨ae,J,Y⟩:=aY G a t;have ag:IntKind.i64.wrap ((s.aCU.length:Int)+1)=(s.aCU.length:Int)+1:=IntWalk.i64_in _ qo;have V:Hid (EN ⟨s.aCU.length+1,s.aCZ,o.aC6,o.aCX,cJ o.aCR,reason,true⟩):=aA ⟨I.o.1,I.o.2,v.2.1,v.2.2.1,XY o.aCR,G⟩;unfold fF cB at *;clear p A E n t C v G a;obtain⟨c0,c2,f2,f,g,i,j,k⟩:=m.o _ q.o.2;have c:=aA (Kq.on q.o (Below.refl _ _).drew);go_enter func56,ntmps56;go_upto_region 1 with (fail)
 rw[<-ab.o];refine cA 28 [(0,false),(1,false),(2,false),(3,false),(4,false),(5,false),(6,false),(7,false),(8,false),(9,false),(10,false),(11,false),(12,false),(13,false),(14,false),(15,false),(16,false),(17,false),(18,false),(19,false),(20,false),(22,false),(21,true),(23,false),(24,true),(25,true),(26,false),(27,false)] [(28,true)] (fun w'=>w'.heap[B]? =some z/\w'.heap[w.heap.size]? =some r) (by kernel_rfl) (by kernel_rfl) ⟨q.o.2.1,q.o.2.2⟩ ?_;simp only[List.cons_append,List.nil_append]
 repeat (refine cU rfl (fun K a=> ?_);unfold rd;go_simp;refine a _ (fun w1 h1=> ?_) ?_;(· clear a K c0 c2 f2 f g i j k;obtain⟨c0,c2,f2,f,g,i,j,k⟩:=m.o _ h1;unfold rd;go_simp);clear a K)
 refine bG rfl (fun l d=> ?_);unfold mv;go_simp;refine(H.o _).mono ?_;rintro e w_ ⟨rfl,R⟩;replace c:=aA (Kq.on c.o R);refine d _ _ (fun _=>c.o.2) ?_;clear d l R c0 c2 f2 f g i j k;obtain⟨c0,c2,f2,f,g,i,j,k⟩:=m.o _ c.o.2
 (refine cU rfl (fun K a=> ?_);unfold rd;go_simp;refine a _ (fun w1 h1=> ?_) ?_;(· clear a K c0 c2 f2 f g i j k;obtain⟨c0,c2,f2,f,g,i,j,k⟩:=m.o _ h1;unfold rd;go_simp);clear a K)
 refine bG rfl (fun l d=> ?_);unfold mv;go_simp;refine d _ _ (fun _=>(Kq.on c.o (aB _ _)).2) ?_;clear d l;refine bG rfl (fun l d=> ?_);unfold mv;refine iX (base:=base) Rx cT rfl (.tmp 10) (.tmp 30) rfl _ s.aCU rfl (y.o _ (Kq.on c.o (aB _ _)).1).aCU w_.heap.size 1 _ _ _ ⟨s.aCU.length+1,s.aCZ,o.aC6,o.aCX,cJ o.aCR,reason,true⟩ rfl (aK _ _ _ rfl) ⟨rfl,V.o⟩ qo qe (y.o _ (Kq.on c.o (aB _ _)).1).size ?_;intro l' T U c' w9 P F Q;obtain⟨x,Z,aa⟩:=TW (y.o _ (Kq.on c.o (aB _ _)).1) (aE c.o.2.1 (aB _ _)) N (Kq.on c.o (aB _ _)).1 F P Q;have M:=aA ((F.block w.heap.size (aD (aE c.o.2.2 (aB _ _))) X.o).trans (aE c.o.2.2 (aB _ _)));refine d _ _ (fun _=>⟨x.o,M.o⟩) ?_;have W:=aA T.o;clear d l P F Q T c0 c2 f2 f g i j k;obtain⟨c0,c2,f2,f,g,i,j,k⟩:=m.o _ ⟨x.o,M.o⟩
 repeat (refine cU rfl (fun K a=> ?_);unfold rd;go_simp;refine a _ (fun w1 h1=> ?_) ?_;(· clear a K c0 c2 f2 f g i j k;obtain⟨c0,c2,f2,f,g,i,j,k⟩:=m.o _ h1;unfold rd;go_simp);clear a K)
 refine bG rfl (fun l d=> ?_);unfold mv;go_simp;refine d _ _ (fun h=>absurd h qe) ?_;clear d l;unfold cG;go_returns;refine⟨rfl,L,ro,vc,_,vn,vo,vt,vu,vk,vb,?_,bC.off (s:=gB s o reason) (show bC K base w9 (gB s o reason) L ro vc (.slice U l'.length c') vn vo vt vu vk vb from ?_) J.o N,aa.o.trans ((aI _).mono (fun b _ D=>D.elim (fun h=>h.2) (fun h e=>J.o (e▸h))))⟩
 .exact aG (Y.o▸x.o) 2 _
 .have:=Z.o;rw[W.o] at this ⊢;exact this
section
open Pv
def wG(k:Nat):Rep Unit:=fun _ _ cs _=>cs.length=k/\∀v∈cs,v.oneCell'=true
theorem kH(k:Nat):Firm (wG k) k:=⟨fun h _=>h,fun h _=>h,fun h=>h.1,fun h=>h.2,fun h=>h⟩
theorem Zy:dV prog 88 83 1 24:=fQ (z:= .slice none 0 0) underlying88 (by kernel_rfl) rfl qe
abbrev DJ(D:Nat)(a:Value):Obj:= .cells #[.pointer (some ⟨D,0,none⟩),a,.bool false] 118
theorem Hu(J D:Nat)(a:Value)(w:World)(h:w.heap[J]? =some (DJ D a)):Calls prog 35 #[.pointer (some ⟨J,0,none⟩)] w (fun e w'=>e=.returned (.bool false)/\w'=w):=by
 obtain⟨⟨d0,d1,d2⟩,_⟩:=cE h;have b:=aD h;go_enter func35,ntmps35;go_wp2;go_ret;exact⟨rfl,rfl⟩
theorem Uw{w w':World}{B g:Nat}{a:oD}{l:List Value}(h:gY w (fun b=>B<=b/\b<w.heap.size) a l)(d:aN (fun b=>b≠g) w w')(f:g<B):gY w' (fun b=>B<=b/\b<w'.heap.size) a l:=
 (h.aC0 (d.mono fun b _ c e=>qA c.1)).more fun b c=>⟨c.1,lL c.2 d.size⟩
def Ux(J D Q base:Nat)(f i:Nat)(la:oD)(lu:List Unit)(lc:Nat)(w:World)(e:Ending)(w':World):Prop:=
 e=.returned (.int .i64 0)/\∃(l:lU) (A c:oD) (g d:Nat) (a:List Unit),l.length=f+(8+i)/\a.length=lu.length+1/\w'.heap[J]? =some (DJ D (.slice c a.length d))/\w'.heap[D]? =some (oV Q A l.length g l.length)/\gY w' (fun b=>(w.heap.size<=b/\b<w'.heap.size)/\some b≠(Value.slice c a.length d).ownBlock) A (bF l)/\aM (wG 1) 1 83 w' base (fun _=>False) (.slice c a.length d) a/\(∀b,(Value.slice c a.length d).ownBlock=some b->(Value.slice la lu.length lc).ownBlock=some b\/w.heap.size<=b)/\aN (fun b=>b≠J/\b≠D/\some b≠(Value.slice la lu.length lc).ownBlock) w w'
theorem Oh(J D Q bc lc base:Nat)(T la:oD)(lu:List Unit)(sy:Int)(bs:lU)(a:oD)(c:Nat)(p:lU)(w:World)(ab:J≠D)(N:w.heap[J]? =some (DJ D (.slice la lu.length lc)))(hD:w.heap[D]? =some (oV Q T bs.length bc sy))(hG:aM (wG 1) 1 83 w base (fun _=>False) (.slice la lu.length lc) lu)(al:J<base/\D<base/\base<=w.heap.size)(an:lu.length<=900000)(d:Sl w w.heap.size T (bF bs))(hp:gY w (fun b=>b≠D) a (bF p))(h0:0<p.length)(h8:p.length<=8192)(ai:bs.length+(8+p.length)<=Q)(hQ:Q<=900000):
 Calls prog 37 #[.pointer (some ⟨J,0,none⟩),.slice a p.length c] w (Ux J D Q base bs.length p.length la lu lc w):=by
 obtain⟨I,W,x,S,C,r⟩:=hD6 N hD hG (And.intro d hp) (And.intro ai (And.intro h0 (And.intro h8 (And.intro hQ an)))) (And.intro al ab);have h01:¬(p.length=0):=qo;have h81:¬(8192<(p.length:Int)):=qo;have h82:¬(8192<p.length):=qo;obtain⟨⟨j,k,m⟩,_⟩:=cE N;have o:=aD N;clear N hD hG d hp ai hQ an al ab h0 h8;go_enter func37,ntmps37;go_upto_region 5 with (fail)
 refine cA 7 [(0,false),(1,false),(2,false),(3,false),(4,false),(5,true),(6,true)] [(7,true)] (fun w'=>w'.heap[J]? =some (DJ D (.slice la lu.length lc))) (by kernel_rfl) (by kernel_rfl) I.o ?_;simp only[List.cons_append,List.nil_append]
 repeat (refine cU rfl (fun K q=> ?_);unfold rd;go_simp;refine q _ (fun av h1=> ?_) ?_;(· clear q K j k m o;obtain⟨⟨j,k,m⟩,_⟩:=cE h1;have o:=aD h1;unfold rd;go_simp);clear q K)
 have s:Below w.heap.size w w.drew:=(Below.refl _ _).drew;refine bG rfl (fun i g=> ?_);unfold mv;go_simp;refine(Gz a c p w.drew (qA C.o) (S.o.2.lt.on s)).mono ?_;rintro e w1 ⟨f,A1,c1,rfl,hf,aq,_,ae⟩;obtain⟨A,R,a7⟩:=aY (aC s ae) hf aq;refine g _ _ (fun _=>aE I.o A.o) ?_;clear g i hf aq ae s j k m o;refine bG rfl (fun i g=> ?_);unfold mv;go_simp;refine(XH D Q bc T sy bs A1 c1 f w1 (qA C.o) (aE W.o A.o) (S.o.1.on A.o) a7.o (qA R.o) (qD R.o C.o)).mono ?_;rintro e w2 ⟨rfl,⟨l,t,c2,hl,ag,ar⟩,au⟩;have HL:=aA (hl.trans (by rw[R.o]):l.length=bs.length+(8+p.length));have ax:=aA ag;have a8:=aA (ar.more (fun b d=>⟨lT A.o.size d.1,d.2⟩):gY w2 (fun b=>w.heap.size<=b/\b<w2.heap.size) t (bF l));have Z:=aA ((aJ A.o).trans au);have L:=qS I Z.o r.o.2;refine g _ _ (fun _=>L.o) ?_;clear g i hl ag ar au;refine bG rfl (fun i g=> ?_);unfold mv;go_simp;refine g _ _ (fun h=>absurd h qe) ?_;clear g i;unfold cG;obtain⟨⟨j,k,m⟩,_⟩:=cE L.o;have o:=aD L.o;go_upto_region 9 with (fail)
 go_wp2_with fail;refine(OJ D Q l.length c2 t sy w2 ax.o).mono ?_;rintro e n ⟨rfl,ah,O⟩;obtain⟨ay,E,B⟩:=aY ah (Z.o.trans O) (aF L.o O r.o.2);have bb:=aA ((Uw a8.o O (qA (aD W.o))):gY n (fun b=>w.heap.size<=b/\b<n.heap.size) t (bF l));clear ah O j k m o;obtain⟨⟨j,k,m⟩,_⟩:=cE B.o;have o:=aD B.o;go_upto_region 13 with (fail)
 have s:Below n.heap.size n n.drew:=(Below.refl _ _).drew;have bk:=aA s;refine cA 11 [(0,false),(1,false),(2,false),(3,false),(4,false),(5,false),(6,true),(7,true),(8,true),(9,false),(10,false)] [(11,true)] (fun w'=>w'.heap[J]? =some (DJ D (.slice la lu.length lc))) (by kernel_rfl) (by kernel_rfl) B.o ?_;simp only[List.cons_append,List.nil_append]
 repeat (refine cU rfl (fun K q=> ?_);unfold rd;go_simp;refine q _ (fun av h1=> ?_) ?_;(· clear q K j k m o;obtain⟨⟨j,k,m⟩,_⟩:=cE h1;have o:=aD h1;unfold rd;go_simp);clear q K)
 clear j k m o;refine bG rfl (fun i g=> ?_);unfold mv;go_simp;refine(NY a c p.length p rfl n.drew (qA C.o) ((S.o.2.aC0 E.o).lt.on s)).mono ?_;intro e w4 ao;obtain⟨A5,c5,rfl,_,_,af⟩:=qC ao;have V:=aA (aC s af);have Y:=qK B V.o;refine g _ _ (fun _=>Y.o) ?_;clear g i af s ao;refine bG rfl (fun i g=> ?_);unfold mv;go_simp;refine g _ _ (fun _=>aE Y.o (aB _ _)) ?_;clear g i;have H:Hid (Below n.heap.size n (w4.alloc (.cells #[.slice A5 p.length c5] 83))):=qB V (aB _ _);have a1:Hid (aM (wG 1) 1 83 n base (fun _=>False) (.slice la lu.length lc) lu):=aA (x.o.stays (kH 1) E.o (fun b d=>qD ((x.o.lt b d).1) r.o.1) (fun _ h _=>h.elim));refine bG rfl (fun i g=> ?_);unfold mv;refine iX (base:=base) Zy (kH 1) rfl (.tmp 44) (.tmp 47) rfl _ lu rfl (a1.o.on (kH 1) H.o) w4.heap.size 1 _ _ _ () rfl (aK _ _ _ rfl) ⟨rfl,fun v hv=>by rw[List.mem_singleton.1 hv];rfl⟩ (qA C.o) qe (qF H.o.size E.o.size r.o.1) ?_;intro y ak z G P aa aj ad;have be:some J≠(Value.slice la lu.length lc).ownBlock:=fun e=>qD ((x.o.lt J e.symm).1) r.o.1
 have bd:some D≠(Value.slice la lu.length lc).ownBlock:=fun e=>qD ((x.o.lt D e.symm).1) r.o.1
 have F:=aA ((aJ (ok:=fun b=>some b≠(Value.slice la lu.length lc).ownBlock) H.o).trans (cW aj));obtain⟨M,az,X⟩:=aY (aF B.o F.o be) (aF ay.o F.o bd) aa;have a6:Hid (y.length=lu.length+1):=aA (by rw[ak.o,aL];rfl);have U:Hid (∀b,(Value.slice z y.length G).ownBlock=some b->(Value.slice la lu.length lc).ownBlock=some b\/n.heap.size<=b):=aA (fun b d=>by
  rcases ad with h|h
  .exact .inl (h▸d)
  .rw[h] at d;injection d with d
   exact .inr (qA H.o.size))
 have aw:Hid (∀b,(Value.slice z y.length G).ownBlock=some b->(Value.slice la lu.length lc).ownBlock=some b\/w.heap.size<=b):=aA (fun b d=>(U.o b d).imp id (fun h=>lT E.o.size h));refine g _ _ (fun _=>M.o) ?_;clear g i aa aj ad ak;obtain⟨⟨j,k,m⟩,f0,f1,f2⟩:=cE M.o;have o:=aD M.o
 repeat (refine cU rfl (fun K q=> ?_);unfold rd;go_simp;refine q _ (fun av h1=> ?_) ?_;(· clear q K j k m o;obtain⟨⟨j,k,m⟩,_⟩:=cE h1;have o:=aD h1;unfold rd;go_simp);clear q K)
 refine bG rfl (fun i g=> ?_);unfold mv;go_simp;refine g _ _ (fun h=>absurd h qe) ?_;clear g i;unfold cG;go_wp2;go_ret;have bf:=r.o.2;have bg:gY P (fun b=>w.heap.size<=b/\b<n.heap.size) t (bF l):=bb.o.aC0 (F.o.mono fun b _ d e=>qD ((x.o.lt b e.symm).2) d.1);have bh:gY (P.setCell ⟨J,1,none⟩ (.slice z y.length G)) (fun b=>w.heap.size<=b/\b<n.heap.size) t (bF l):=bg.aC0 ((aI _).mono fun b _ d e=>qD d.1 (aD I.o));have bj:(P.setCell ⟨J,1,none⟩ (.slice z y.length G)).heap.size=P.heap.size:=by simp[World.setCell]
 exact⟨rfl,l,t,z,c2,G,y,HL.o,a6.o,aG M.o 1 _,aF az.o (aI _) bf.symm,bh.more (fun b d=>⟨⟨d.1,by rw[bj];exact lL d.2 F.o.size⟩,fun e=>by rcases U.o b e.symm with h|h;(· have:=(x.o.lt b h).2;have:=d.1;omega);(· have:=d.2;omega)⟩),X.o.off (kH 1) (fun h=>h) (fun e=>qD ((X.o.lt _ e).1) r.o.1),aw.o,((E.o.mono fun b _ d=>d.2.1).trans (F.o.mono fun b _ d=>d.2.2)).trans ((aI _).mono fun b _ d=>d.1)⟩
end
namespace Fnv
def Zz:BitVec 64:=14695981039346656037#64
def aAa:BitVec 64:=1099511628211#64
def low:BitVec 64:=255#64
def step(h c:BitVec 64):BitVec 64:=(h ^^^ c) * aAa
def Sj(p:BitVec 64):Nat->BitVec 64
 |0=>Zz
 |n+1=>step (Sj p n) ((p >>> (8 * n))&&& low)
def ZN(h:BitVec 64)(l:lU):BitVec 64:=l.foldl (fun h c=>step h (c.toBitVec.setWidth 64)) h
def aCP(p:BitVec 64)(l:lU):BitVec 64:=ZN (Sj p 8) l
theorem TB(h:BitVec 64)(l:lU)(k:Nat)(a:k<l.length):ZN h (l.take (k+1))=step (ZN h (l.take k)) (l[k].toBitVec.setWidth 64):=by
 rw[List.take_add_one,gE a];unfold ZN;rw[List.foldl_append];rfl
theorem Zk(p:BitVec 64)(n:Nat):(p >>> (8 * n)) >>> 8=p >>> (8 * (n+1)):=by
 rw[<-BitVec.shiftRight_add];rfl
end Fnv
theorem Hv:(14695981039346656037:Int)=n64 Fnv.Zz:=qe
theorem Cq(p:BitVec 64)(j:Nat):n64 (p >>> (8 * j)) / (256:Int)=n64 (p >>> (8 * (j+1))):=by
 rw[show (256:Int)=2 ^ 8 from rfl,Tl,Fnv.Zk]
theorem Hw(p:BitVec 64)(a:oD)(cap n:Nat)(l:lU)(v:l.length=n)(w:World)(B:Nat)(C:l.length<=140737488351232)(o:Sl w B a (bF l)):
 Calls prog 62 #[.int .u64 (n64 p),.slice a n cap] w fun e w'=>e=.returned (.int .u64 (n64 (Fnv.aCP p l)))/\w=w':=by
 subst v;go_enter func62,ntmps62;go_wp2;go_loop [0,5,8] (fun q h i=>∃j:Nat,j<=8/\i=.int .i64 j/\q=.int .u64 (n64 (p >>> (8 * j)))/\h=.int .u64 (n64 (Fnv.Sj p j))) (fun _ _ i=>8 - (intOf i).toNat)
 case atStart=>exact⟨0,qo,rfl,qs,by rw[Hv];rfl⟩
 case round=>
  obtain⟨j,hj,rfl,rfl,rfl⟩:=hrel;by_cases z:j<8
  .have h1:bits .and .u64 (n64 (p >>> (8 * j))) 255=n64 (p >>> (8 * j)&&& Fnv.low):=Tk _ Fnv.low;have h2:=ZA (Fnv.Sj p j) (p >>> (8 * j)&&& Fnv.low);have h3:IntKind.u64.wrap (n64 (Fnv.Sj p j ^^^ (p >>> (8 * j)&&& Fnv.low)) * 1099511628211)=n64 (Fnv.Sj p (j+1)):=ZC _ Fnv.aAa;have h4:=Fk (p >>> (8 * j));go_wp2;go_round
   case rel=>exact⟨j+1,qo,by go_num,by rw[Cq],rfl⟩
   case measure=>simp[intOf];omega
  .obtain rfl:j=8:=qo;generalize r:Fnv.Sj p 8=h;go_wp2;go_loop [5,20] (fun t i=>∃k:Nat,k<=l.length/\i=.int .i64 k/\t=.int .u64 (n64 (Fnv.ZN h (l.take k)))) (fun _ i=>l.length - (intOf i).toNat)
   case atStart=>exact⟨0,Nat.zero_le _,rfl,rfl⟩
   case round=>
    obtain⟨k,A,rfl,rfl⟩:=hrel;by_cases m:k<l.length
    .obtain⟨b,off,rfl,_,g⟩:=o.byte m;have d:=aA (Fnv.TB h l k m);generalize Fnv.ZN h (l.take k)=s at d ⊢;generalize l[k]=c at d g;have f:=Mn c;have D:=ZA;rw[f] at g;have x:=Fk (c.toBitVec.setWidth 64);have y:n64 (c.toBitVec.setWidth 64)<256:=by rw[<-f];have:=c.toNat_lt;omega
     have h3:IntKind.u64.wrap (n64 (s ^^^ c.toBitVec.setWidth 64) * 1099511628211)=n64 (Fnv.step s (c.toBitVec.setWidth 64)):=ZC _ Fnv.aAa;clear o f;go_wp2;go_round
     case rel=>exact⟨k+1,qo,by go_num,by rw[d.o]⟩
     case measure=>simp[intOf];omega
    .obtain rfl:k=l.length:=qo;rw[List.take_length];go_wp2;go_ret;exact⟨by rw[<-r];rfl,rfl⟩
theorem nN{w:World}{g:Nat}{a0 a a2 a3 a4 a5 b c:Value}{t:TypeId}(h:w.heap[g]? =some (.cells #[a0,a,a2,a3,a4,a5,b,c] t (0,0))):(w.cell? ⟨g,0,none⟩=some a0/\w.cell? ⟨g,1,none⟩=some a/\w.cell? ⟨g,2,none⟩=some a2/\w.cell? ⟨g,3,none⟩=some a3/\w.cell? ⟨g,4,none⟩=some a4/\w.cell? ⟨g,5,none⟩=some a5/\w.cell? ⟨g,6,none⟩=some b/\w.cell? ⟨g,7,none⟩=some c)/\w.frozen? ⟨g,0,none⟩=false/\w.frozen? ⟨g,1,none⟩=false/\w.frozen? ⟨g,2,none⟩=false/\w.frozen? ⟨g,3,none⟩=false/\w.frozen? ⟨g,4,none⟩=false/\w.frozen? ⟨g,5,none⟩=false/\w.frozen? ⟨g,6,none⟩=false/\w.frozen? ⟨g,7,none⟩=false:=⟨⟨aQ h 0 _ rfl,aQ h 1 _ rfl,aQ h 2 _ rfl,aQ h 3 _ rfl,aQ h 4 _ rfl,aQ h 5 _ rfl,aQ h 6 _ rfl,aQ h 7 _ rfl⟩,aR h 0,aR h 1,aR h 2,aR h 3,aR h 4,aR h 5,aR h 6,aR h 7⟩
theorem kN{w:World}{g:Nat}{a0 a a2 a3 a4 a5 i j k a9 b c a12 d e f:Value}{t:TypeId}(h:w.heap[g]? =some (.cells #[a0,a,a2,a3,a4,a5,i,j,k,a9,b,c,a12,d,e,f] t (0,0))):(w.cell? ⟨g,0,none⟩=some a0/\w.cell? ⟨g,1,none⟩=some a/\w.cell? ⟨g,2,none⟩=some a2/\w.cell? ⟨g,3,none⟩=some a3/\w.cell? ⟨g,4,none⟩=some a4/\w.cell? ⟨g,5,none⟩=some a5/\w.cell? ⟨g,6,none⟩=some i/\w.cell? ⟨g,7,none⟩=some j/\w.cell? ⟨g,8,none⟩=some k/\w.cell? ⟨g,9,none⟩=some a9/\w.cell? ⟨g,10,none⟩=some b/\w.cell? ⟨g,11,none⟩=some c/\w.cell? ⟨g,12,none⟩=some a12/\w.cell? ⟨g,13,none⟩=some d/\w.cell? ⟨g,14,none⟩=some e/\w.cell? ⟨g,15,none⟩=some f)/\w.frozen? ⟨g,0,none⟩=false/\w.frozen? ⟨g,1,none⟩=false/\w.frozen? ⟨g,2,none⟩=false/\w.frozen? ⟨g,3,none⟩=false/\w.frozen? ⟨g,4,none⟩=false/\w.frozen? ⟨g,5,none⟩=false/\w.frozen? ⟨g,6,none⟩=false/\w.frozen? ⟨g,7,none⟩=false/\w.frozen? ⟨g,8,none⟩=false/\w.frozen? ⟨g,9,none⟩=false/\w.frozen? ⟨g,10,none⟩=false/\w.frozen? ⟨g,11,none⟩=false/\w.frozen? ⟨g,12,none⟩=false/\w.frozen? ⟨g,13,none⟩=false/\w.frozen? ⟨g,14,none⟩=false/\w.frozen? ⟨g,15,none⟩=false:=⟨⟨aQ h 0 _ rfl,aQ h 1 _ rfl,aQ h 2 _ rfl,aQ h 3 _ rfl,aQ h 4 _ rfl,aQ h 5 _ rfl,aQ h 6 _ rfl,aQ h 7 _ rfl,aQ h 8 _ rfl,aQ h 9 _ rfl,aQ h 10 _ rfl,aQ h 11 _ rfl,aQ h 12 _ rfl,aQ h 13 _ rfl,aQ h 14 _ rfl,aQ h 15 _ rfl⟩,aR h 0,aR h 1,aR h 2,aR h 3,aR h 4,aR h 5,aR h 6,aR h 7,aR h 8,aR h 9,aR h 10,aR h 11,aR h 12,aR h 13,aR h 14,aR h 15⟩
namespace Cm
theorem OW{p:Prop}(h:p:=by
 rintro e w' ⟨rfl,rfl⟩;go_wp2;go_ret;exact⟨rfl,rfl⟩):p:=h
def qb:Nat->Nat
 |0=>0
 |1=>4598175219545276416
 |2=>4602678819172646912
 |3=>4604930618986332160
 |_=>4607182418800017408
theorem Oi:∀i j:Fin 5,FloatKind.f64.format.order (qb i.1) (qb j.1)=some (compare i.1 j.1):=by decide +kernel
theorem KK(i j:Nat)(a:i<=4)(hj:j<=4):FloatKind.f64.format.order (qb i) (qb j)=some (compare i j):=Oi ⟨i,qo⟩ ⟨j,qo⟩
theorem MW(i j:Nat)(a:i<=4)(hj:j<=4):(FloatKind.f64.format.order (qb i) (qb j)==some .eq)=(i==j):=by
 rw[KK i j a hj,Bool.eq_iff_iff,bQ,bQ,Option.some.injEq,Nat.compare_eq_eq]
theorem aCx(i j:Nat)(a:i<=4)(hj:j<=4):(FloatKind.f64.format.order (qb i) (qb j)==some .gt||FloatKind.f64.format.order (qb i) (qb j)==some .eq)=decide (j<=i):=by
 rw[KK i j a hj,Bool.eq_iff_iff,Bool.or_eq_true,bQ,bQ,Option.some.injEq,Option.some.injEq,Nat.compare_eq_eq,Nat.compare_eq_gt,decide_eq_true_eq];omega
theorem Xz:∀i:Fin 5,(FloatKind.f64.decode (qb i.1)).neg=false:=by decide +kernel
theorem Sk(i j:Nat)(b:i<=4)(hj:j<=4)(P:Program)(d:Array TypeId)(t:TypeId)(w:World):(Builtin.max_ d t #[.float .f64 (qb i),.float .f64 (qb j)]).run P w=.ok (.float .f64 (qb (max i j))) w:=by
 have c:=Xz ⟨i,qo⟩;simp only[] at c
 rcases Nat.lt_trichotomy i j with h|h|h
 .have a:=KK i j b hj;rw[Nat.compare_eq_lt.2 h] at a;rw[Nat.max_eq_right qo];simp[Builtin.max_,Builtin.max2,a]
 .subst h;have a:=KK i i b hj;rw[Nat.compare_eq_eq.2 rfl] at a;rw[Nat.max_self];simp[Builtin.max_,Builtin.max2,a,c]
 .have a:=KK i j b hj;rw[Nat.compare_eq_gt.2 h] at a;rw[Nat.max_eq_left qo];simp[Builtin.max_,Builtin.max2,a]
def mk(i j:Nat):Value:= .complex .f64 (qb i) (qb j)
def qN(m:Nat×Nat):Nat×Nat:=(m.2,m.1)
def xD(a b:Nat×Nat):Nat×Nat:=(max a.1 b.1,max a.2 b.2)
def rW(m:Nat×Nat):Nat×Nat:=
 if m.2=4 then (0,4) else if m.2=2/\2<=m.1 then (2,2) else if m.2=2 then (0,2) else if m.1=4 then (4,0) else if m.1=2 then (2,0) else (0,0)
def QP(m:Nat×Nat):Prop:=m.1<=4/\m.2<=4
theorem QP.swap{m:Nat×Nat}(h:QP m):QP (qN m):=⟨h.2,h.1⟩
theorem QP.join{a b:Nat×Nat}(h:QP a)(k:QP b):QP (xD a b):=⟨Nat.max_le.2 ⟨h.1,k.1⟩,Nat.max_le.2 ⟨h.2,k.2⟩⟩
theorem xF(a b:Nat)(w:World):Calls prog 273 #[.complex .f64 a b] w fun e w'=>e=.returned (.tuple #[.float .f64 a,.float .f64 b])/\w=w':=by
 go_enter func273,ntmps273;go_wp2;go_ret2
 exact⟨rfl,rfl⟩
theorem Hy(a b:Nat)(w:World):Calls prog 274 #[.float .f64 a,.float .f64 b] w fun e w'=>e=.returned (.complex .f64 a b)/\w=w':=by
 go_enter func274,ntmps274;go_wp2;go_ret;exact⟨rfl,rfl⟩
theorem TY(m:Nat×Nat)(w:World):Calls prog 256 #[mk m.1 m.2] w fun e w'=>e=.returned (mk (qN m).1 (qN m).2)/\w=w':=by
 unfold mk qN;simp only[];generalize qb m.1=a;generalize qb m.2=b;go_enter func256,ntmps256;go_wp2_with fail;refine(xF a b w).mono ?_;rintro e w' ⟨rfl,rfl⟩;go_wp2_with fail;refine(Hy b a w).mono ?_;exact OW
theorem wH(m n:Nat×Nat)(hm:QP m)(f:QP n)(w:World):Calls prog 254 #[mk m.1 m.2,mk n.1 n.2] w fun e w'=>e=.returned (mk (xD m n).1 (xD m n).2)/\w=w':=by
 have h1:=Sk m.1 n.1 hm.1 f.1 prog;have h2:=Sk m.2 n.2 hm.2 f.2 prog;unfold mk xD;simp only[];generalize qb (max m.1 n.1)=g at h1 ⊢;generalize qb (max m.2 n.2)=i at h2 ⊢;generalize qb m.1=a at h1 ⊢;generalize qb m.2=b at h2 ⊢;generalize qb n.1=c at h1 ⊢;generalize qb n.2=d at h2 ⊢;go_enter func254,ntmps254;go_wp2_with fail;refine(xF a b w).mono ?_;rintro e w' ⟨rfl,rfl⟩;go_wp2_with fail;refine(xF c d w).mono ?_;rintro e w' ⟨rfl,rfl⟩;go_wp2_with fail;refine(Hy g i w).mono ?_;exact OW
end Cm
end Go.Proofs.YtbinmcabjnoliaaGreatDoor
