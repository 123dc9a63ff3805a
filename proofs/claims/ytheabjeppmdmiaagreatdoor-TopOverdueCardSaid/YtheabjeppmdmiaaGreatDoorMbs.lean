/- Lemmas. -/
import Derived.Test.YtheabjeppmdmiaaGreatDoorMbq
import Derived.Test.YtheabjeppmdmiaaGreatDoorMbr
import Derived.LaidMore
import Derived.Stop.Joined
import Derived.SliceStrings
namespace Go.Proofs.YtheabjeppmdmiaaGreatDoor
open Go.RowKit
set_option linter.unusedVariables false
set_option linter.unusedSimpArgs false
set_option maxHeartbeats 16000000
open _root_.Go.Proofs.Tryz
set_option maxRecDepth 20000
theorem Uu{p:Prop}(h:p:=by
 injection ho with ho;rw[<-ho];show b.text.size<=_;omega):p:=h
theorem Xu{l:lU}{o:Op}(h:mD l=some o):o.text.size<=l.length:=by
 rw[Bv] at h;have h1:=(sN l).2;have h2:=(Bw (cO l).2).2;have h3:=(sN (kD (cO l).2).2.2).2;generalize (cO (kD (cO l).2).2.2).2=a at *;generalize oN (cO (kD (cO l).2).2.2).1=k at *;generalize e:Us k (cO l).1 (kD (cO l).2).2.1 (kD (cO l).2).1=b at *;have g:b.text.size=0:=by rw[<-e];rfl
 have f:∀o,BJ k b a=some o->o.text.size<=l.length:=by
  intro o ho;unfold BJ at ho;split at ho
  .exact Uu
  split at ho
  .exact Uu
  split at ho
  .rcases d:oZ (cO (cO a).2).2 with _|v
   .rw[d] at ho;cases ho
   .rw[d] at ho;injection ho with ho;rw[<-ho];show b.text.size<=_;omega
  split at ho
  .exact Uu
  split at ho
  .exact Uu
  split at ho
  .injection ho with ho;rw[<-ho];show (bs a).size<=_;rw[cI];omega
  .injection ho with ho;rw[<-ho];omega
 rcases c:BJ k b a with _|x
 .rw[c] at h;cases h
 .rw[c] at h;unfold vO at h;dsimp only at h;split at h
  .injection h with h;rw[<-h];exact f x c
  .cases h
theorem sL.more{w:World}{E D:Nat}{M K:nP}{Q m n b:Nat}{s:Sto}(h:sL w E D M K Q m n s)(a:n<=b):sL w E D M K Q m b s:=by
 obtain⟨J,base,vc,vr,vn,vo,vt,vu,vk,vb,la,lc,lu,h,ra,rc,ru,da,dc,bs,sy,H⟩:=h;exact⟨J,base,vc,vr,vn,vo,vt,vu,vk,vb,la,lc,lu,h,ra,rc,ru,da,dc,bs,sy,{H with rows:=⟨lT H.rows.1 a,lT H.rows.2 a⟩}⟩
theorem sL.rep{w:World}{E D:Nat}{M K:nP}{Q m n:Nat}{s:Sto}(h:sL w E D M K Q m n s)(o:Op)(a:o.text.size<=1000000):OU (bZ s o).2.1:=by
 obtain⟨J,base,vc,vr,vn,vo,vt,vu,vk,vb,la,lc,lu,h,ra,rc,ru,da,dc,bs,sy,H⟩:=h;exact Sn H.sto o a
theorem xW{w w':World}{B:Nat}{o:Obj}(d:B<=w.heap.size)(c:aN (fun b=>b≠w.heap.size) (w.alloc o) w'):Below B w w':=
 ((aJ (ok:=fun b=>b<B) (aB w o)).trans (c.mono fun b _ e=>by show (_:Nat)≠_;omega)).below (B:=B) (fun k a=>⟨qo,a⟩)
def XS(E D:Nat)(M K:nP)(Q m n:Nat)(s:Sto)(q:bY)(w:World)(e:Ending)(w':World):Prop:=
 e=.returned (.string (dQ s q.data.toList).2)/\∃(c K':nP) (a:Nat),sL w' E D c K' Q a (n+1) (dQ s q.data.toList).1/\(∀b,c b->M b\/w.heap.size<=b)/\(∀b,K' b->K b\/w.heap.size<=b)/\aN (fun b=>¬M b) w w'/\m<=a/\a<=m+400+q.size/\(∀o,mD q.data.toList=some o->(bZ s o).2.2.2≠0->a=m)/\(mD q.data.toList=none->a=m)
theorem Nf{s:Sto}{q:lU}(h:mD q=none):dQ s q=(s,Uq):=by unfold dQ;rw[h]
theorem Ng{s:Sto}{q:lU}{o:Op}(h:mD q=some o):dQ s q=((bZ s o).1,FW (bZ s o).2.1):=by unfold dQ;rw[h]
theorem XT{M K:nP}(E D Q m n k:Nat)(s:Sto)(q:bY)(N:q.size<=100000)(w:World)(Y:sL w E D M K Q m n s)(I:Gl w)(W:∀b,M b->6<=b)(U:kW k s)(hk:k<=900000)(hn:n<=800000)(Z:m+400+q.size<=Q)(X:Q<=900000):
 Calls prog 5 #[.pointer (some ⟨E,0,none⟩),.string q] w (XS E D M K Q m n s q w):=by
 obtain⟨S,G,R,d,HQ⟩:=gG (Mr q N w I) Y I (And.intro W (And.intro U (And.intro hk (And.intro hn (And.intro Z X))))) N;obtain⟨F,H⟩:=xE (XS E D M K Q m n s q w);rw[<-H];have P:=aA H;clear Y I W U hk hn Z X N H;go_enter func5,ntmps5;go_wp2_with fail;refine S.o.mono ?_;rintro e w1 ⟨aa,rfl,a⟩;have p:=aA a;have r:=aA aa;clear a aa;obtain⟨OP,z⟩:=xE (mD q.data.toList);rw[<-z] at r;rw[<-z];have f:=aA z;clear z S
 rcases OP with _|o
 .have i:=aA (Nf (s:=s) f.o.symm);have ad:=f;clear r;unfold eY bW;dsimp only[Option.isSome,Option.getD];go_upto_region 2 with (refine dP rfl _ (.tmp 5) (.tmp 10) rfl w1.heap.size _ rfl rfl _ _ (aK _ _ _ rfl) (by kernel_rfl) rfl (by simp[Value.oneCell']) ?_;intro w2 v j)
  have c:=qB p (xW (lR _) j.o);clear v j p;go_wp2;have C:=P.o;subst C;refine⟨by rw[i.o];rfl,M,K,m,?_,fun b a=> .inl a,fun b a=> .inl a,(aJ c.o).mono (fun b a _=>a),lR _,qo,fun o L=>absurd (ad.o.trans L) qs,fun _=>rfl⟩;rw[i.o];exact(G.o.on c.o).more (Nat.le_succ n)
 .have HG:=aA (r.o o rfl);have i:=aA (Ng (s:=s) f.o.symm);unfold eY bW;dsimp only[Option.isSome,Option.getD];go_upto_region 2 with (refine dP rfl _ (.tmp 5) (.tmp 10) rfl w1.heap.size _ rfl rfl _ _ (aK _ _ _ rfl) (by kernel_rfl) rfl (by simp[Value.oneCell']) ?_;intro w2 v j)
  have c:=qB p (xW (lR _) j.o);clear j p r;obtain⟨⟨b0,b1,b2,b3,b4,b5,b6,b7,b8,b9,af,ag⟩,-⟩:=bM v.o;have zb:=aD v.o;have ab:o.text.size<=q.size:=by have:=Xu f.o.symm;rwa [Array.length_toList] at this
  have T:=aA ab;have g:=Bu E D Q m n k s o HG.o w2 (G.o.on c.o) ((R.o.on c.o).aEs) d.o.2.1 d.o.2.2.1 d.o.2.2.2.1 (qA d.o.2.2.2.2.1) d.o.2.2.2.2.2;unfold eY bW at g;have g:=aA g;clear ab;go_wp2_with fail;refine g.o.mono ?_;rintro e w3 ⟨rfl,M',K',m',V,y,x,l,A,J,B⟩;obtain⟨HE,ae,t⟩:=aY V (And.intro y (And.intro x (And.intro l (And.intro A (And.intro J B))))) (G.o.rep o (qD T.o HQ.o));have HA:=aA (Gf (bZ s o).2.1 t.o.mark t.o.val t.o.err t.o.at_ w3 ((R.o.on c.o).stay l (fun b a h=>qA (d.o.1 b h))));clear V y x l A J B g b0 b1 b2 b3 b4 b5 b6 b7 b8 b9 af ag zb;go_wp2_with fail;refine HA.o.mono ?_;rintro e w4 ⟨rfl,a⟩;have O:=aA a;clear a;go_wp2;have C:=P.o;subst C;obtain⟨y,x,l,A,J,B⟩:=ae.o;have hz:=c.o.size;refine⟨by rw[i.o];rfl,M',K',m',?_,fun b a=>(y b a).imp id (fun h=>by omega),fun b a=>(x b a).imp id (fun h=>by omega),?_,A,qA T.o,fun o' L ah=> ?_,fun ai=>absurd (f.o.trans ai) qs⟩
  .rw[i.o];exact HE.o.on O.o
  .exact((aJ c.o).mono (fun b a _=>a)).trans (l.trans ((aJ O.o).mono (fun b a _=>a)))
  .have h1:=f.o.trans L;injection h1 with h1;subst h1;exact B ah
theorem Gi(w:World):Calls prog 52 #[(Value.slice none 0 0)] w fun e w'=>e=.returned (Value.slice none 0 0)/\w'=w:=by
 have heq:=Lib.run_eql_slice_nil (P:=prog) w 75 5 none 0 0 0 0 underlying75;go_enter func52,ntmps52;go_wp2;go_ret;exact⟨rfl,rfl⟩
theorem Gj(w:World):Calls prog 138 #[(Value.slice none 0 0)] w fun e w'=>e=.returned (.tuple #[(Value.slice none 0 0),.bool false])/\w'=w:=by
 go_enter func138,ntmps138;go_wp2;go_ret2
 exact⟨rfl,rfl⟩
theorem So(w:World):Calls prog 87 #[(Value.slice none 0 0)] w fun e w'=>e=.returned (.tuple #[(Value.slice none 0 0),.int .i64 0])/\w'=w:=by
 have a:=aA (Gj w);go_enter func87,ntmps87;go_wp2;go_loopw [4,5] (fun v i wr=>v=(Value.slice none 0 0)/\i=.int .i64 0/\wr=w) (fun _ _ _=>0)
 case atStart=>exact⟨rfl,rfl,rfl⟩
 case round=>
  obtain⟨rfl,rfl,rfl⟩:=hrel;go_wp2_with fail;refine a.o.mono ?_;rintro e w1 ⟨rfl,rfl⟩;go_wp2;go_ret2
  exact⟨rfl,rfl⟩
theorem ZW(Q:Nat)(a:Q<=1000000)(w:World):Calls prog 12 #[.int .i64 Q] w fun e w'=>e=.returned (.tuple #[.pointer (some ⟨w.heap.size,0,none⟩),.int .i64 0])/\w'=w.alloc (pD Q none 0 0 0):=by
 have d1:¬((Q:Int)<0):=qo;have d2:¬((1048576:Int)<(Q:Int)):=qo;go_enter func12,ntmps12;go_wp2;go_ret2
 exact⟨rfl,rfl⟩
theorem Nh(D Q:Nat)(sy:Int)(w:World)(h:w.heap[D]? =some (pD Q none 0 0 sy)):Calls prog 88 #[.pointer (some ⟨D,0,none⟩)] w fun e w'=>e=.returned (Value.slice none 0 0)/\w'=w:=by
 obtain⟨⟨d0,d1,d2,d3,d4⟩,_⟩:=dN h;have b:=aD h;have a:=aA (Gi w);clear h;go_enter func88,ntmps88;go_wp2_with fail;refine a.o.mono ?_;rintro e w1 ⟨rfl,rfl⟩;go_wp2;go_ret;exact⟨rfl,rfl⟩
theorem Sp(D Q m b:Nat)(a:oD)(sy:Int)(w:World)(h:w.heap[D]? =some (pD Q a m b sy)):Calls prog 89 #[.pointer (some ⟨D,0,none⟩)] w fun e w'=>e=.returned (.int .i64 m)/\w'=w:=by
 obtain⟨⟨d0,d1,d2,d3,d4⟩,_⟩:=dN h;have c:=aD h;clear h;go_enter func89,ntmps89;go_wp2;go_ret;exact⟨rfl,rfl⟩
theorem Ni(D Q:Nat)(w:World)(h:w.heap[D]? =some (pD Q none 0 0 0)):Calls prog 35 #[.pointer (some ⟨D,0,none⟩)] w fun e w'=>∃J,w.heap.size<=J/\e=.returned (.tuple #[.pointer (some ⟨J,0,none⟩),.int .i64 0])/\w'.heap[J]? =some (DU D (Value.slice none 0 0))/\w'.heap[D]? =some (pD Q none 0 0 0)/\J<w'.heap.size/\aN (fun b=>b≠D) w w':=by
 obtain⟨c,a,d,g⟩:=dI (Nh D Q 0 w h) (Sp D Q 0 0 none 0 w h) (So w) (PK D Q 0 0 none 0 w h);have j:=aD h;have l:=aA j;clear h j;go_enter func35,ntmps35;go_wp2_with fail;refine c.o.mono ?_;rintro e w1 ⟨rfl,rfl⟩;go_wp2_with fail;refine d.o.mono ?_;rintro e w1 ⟨rfl,rfl⟩;go_wp2_with fail;refine a.o.mono ?_;rintro e w1 ⟨rfl,rfl⟩;go_wp2_with fail;refine g.o.mono ?_;rintro e w2 ⟨rfl,h2,i⟩;have k:=aA h2;have f:=aA i;clear h2 i c a d g;go_wp2;go_ret2
 have m:=f.o.size;have n:=l.o;exact⟨w2.heap.size,m,rfl,aK _ _ _ rfl,aE k.o (aB _ _),qs,f.o.trans (aJ (aB w2 _))⟩
theorem Nj(J D:Nat)(w:World)(h:w.heap[J]? =some (DU D (Value.slice none 0 0))):Calls prog 37 #[.pointer (some ⟨J,0,none⟩)] w fun e w'=>e=.returned (Value.slice none 0 0)/\w'=w:=by
 obtain⟨⟨d0,d1,d2⟩,_⟩:=cG h;have a:=aD h;clear h;go_enter func37,ntmps37;go_wp2;go_loopw [3,11] (fun v i wr=>v=(Value.slice none 0 0)/\i=.int .i64 0/\wr=w) (fun _ _ _=>0)
 case atStart=>exact⟨rfl,rfl,rfl⟩
 case round=>
  obtain⟨rfl,rfl,rfl⟩:=hrel;go_wp2;go_ret;exact⟨rfl,rfl⟩
theorem Nk:xC=⟨#[112,111,108,105,99,121,32,111,112,101,110,32,112,101,114,109,105,116,117,110,108,101,115,115,32,123,32,125]⟩:=by kernel_rfl
def OX(w:World)(e:Ending)(w':World):Prop:=∃vc vr vn vo vt vu vk vb,e=.returned (.agg (aV kM vc vr vn vo vt vu vk vb))/\fD w' (fun b=>w.heap.size<=b) kM vc vr vn vo vt vu vk vb/\Below w.heap.size w w'
theorem Xv(w:World)(p:iA w):Calls prog 36 #[] w (OX w):=by
 obtain⟨W0,f⟩:=xE (w.alloc EJ);have g:Below w.heap.size w W0:=by rw[f];exact aB _ _
 have R:Hid (W0.heap[w.heap.size]? =some EJ):=aA (by rw[f];exact aK _ _ _ rfl);have c:=sG xC W0 (p.on g);unfold vK at c;obtain⟨P,i⟩:=xE (fG xC);rw[<-i] at c;rw[Nk] at c;have t:Hid (kM=⟨0,[],[],[],[],P.1,0⟩):=aA (by rw[i];rfl);obtain⟨c,r,o⟩:=aY c g f;clear g f i p;unfold OX;rw[t.o];go_enter func36,ntmps36;go_upto_region 1 with (fail)
 rw[<-o.o];go_wp2_with fail;refine c.o.mono ?_;rintro e w1 ⟨v,rfl,⟨vt,vr,vk,vo,rfl,hp⟩,a⟩;obtain⟨G,H,rfl,-⟩:=hp.2.2.1.slice;obtain⟨ra,rc,rfl,-⟩:=hp.2.2.2.1.slice;obtain⟨C,D,rfl,-⟩:=hp.2.2.2.2.1.slice;obtain⟨E,F,rfl,-⟩:=hp.2.2.2.2.2.slice;obtain⟨z,s,j⟩:=aY hp a (aE R.o a);clear hp a;go_upto_region 2 with (refine dP rfl _ (.tmp 1) (.tmp 6) rfl w1.heap.size _ rfl rfl _ _ (aK _ _ _ rfl) (by kernel_rfl) rfl (by simp[Value.oneCell']) ?_;intro w2 l m)
 have d:=aA (xW (lR _) m.o);have I:=aA (aD j.o);have A:=aA (z.o.aDQ (aJ d.o));have x:=qK j d.o;obtain⟨⟨T,U,V,W,X,p5,p6⟩,-⟩:=bI l.o;have Z:=aD l.o;clear m;go_wp2_with (refine dP rfl _ (.tmp 0) (.tmp 10) rfl w.heap.size _ rfl rfl _ _ x.o (by kernel_rfl) rfl (by simp[Value.oneCell']) ?_;intro Y y n)
 obtain⟨⟨a0,J,a2,a3,a4,a5,M,N,O,a9,K,L,a12⟩,-⟩:=bS y.o;refine bR (.agg #[.int .i64 0,.slice none 0 0,.slice none 0 0,.slice none 0 0,.slice none 0 0,.string P.1.id,.bool P.1.set,.int .i64 P.1.alg,.slice G P.1.aDR.length H,.slice ra P.1.aDK.length rc,.slice C P.1.aDV.length D,.slice E P.1.aDX.length F,.int .i64 0]) ?_;have Q:w.heap.size<W0.heap.size:=by rw[o.o];simp
 have S:=d.o.size;exact⟨_,_,_,_,_,_,_,_,rfl,⟨XR,XR,aH.nil,aH.nil,aH.nil,aH.nil,(A.o.aDQ (n.o.mono (fun b _ a=>by have:W0.heap.size<=b:=a;show b≠w.heap.size;omega))).more (fun b a=>by have:W0.heap.size<=b:=a;omega),JF,JF,JF⟩,((aJ (ok:=fun b=>b<w.heap.size) (aC r.o (aC s.o d.o))).trans (n.o.mono (fun b _ a=>by have:b<w.heap.size:=a;show b≠w.heap.size;omega))).below (B:=w.heap.size) (fun k q=>⟨q,q⟩)⟩
theorem iA.far{w w':World}{D:Nat}(h:iA w)(a:aN (fun b=>b≠D) w w')(c:6<=D):iA w':=h.stay a (by show 2≠D;omega)
def RP(D Q:Nat)(w:World)(e:Ending)(w':World):Prop:=∃(E J:Nat) (K:nP),e=.returned (.tuple #[.pointer (some ⟨E,0,none⟩),.int .i64 0])/\sL w' E D (fun b=>b=E\/b=J\/b=D) K Q 0 0 kM/\w.heap.size<=E/\w.heap.size<=J/\(∀b,K b->w.heap.size<=b)/\aN (fun b=>b≠D) w w'
theorem Nl(D Q:Nat)(w:World)(h:w.heap[D]? =some (pD Q none 0 0 0))(k:iA w)(p:6<=D):Calls prog 13 #[.pointer (some ⟨D,0,none⟩)] w (RP D Q w):=by
 obtain⟨o,z,A,y⟩:=dI (Ni D Q w h) (aD h) k p;obtain⟨S,s⟩:=xE kM;have g:=aA (fun w1 (k:iA w1)=>Xv w1 k);unfold OX at g;unfold RP;rw[<-s] at g ⊢;clear h k p s;go_enter func13,ntmps13;go_wp2_with fail;refine o.o.mono ?_;rintro e w1 ⟨J,q,rfl,hj,t,r,m⟩;have n:=aA (g.o w1 (A.o.far m y.o));have H1:=aA (And.intro q (And.intro hj (And.intro t (And.intro r m))));clear q hj t r m o g;go_wp2_with fail;refine n.o.mono ?_;rintro e w2 ⟨vc,vr,vn,vo,vt,vu,vk,vb,rfl,x,a⟩;have B:=aA x;have f:=aA a;have c:=Nj J D (w2.alloc (pH J S vc vr vn vo vt vu vk vb (.slice none 0 0) 0)) (aE (aE H1.o.2.1 a) (aB _ _));have v:n64 0=0:=rfl;unfold pH at c;rw[v] at c;have c:=aA c;unfold aV;clear x a n v;go_wp2_with fail;refine c.o.mono ?_;rintro e L ⟨rfl,rfl⟩;clear c;obtain⟨E,d⟩:=xE (w2.alloc (pH J S vc vr vn vo vt vu vk vb (.slice none 0 0) 0));have l:=aA d;unfold pH at d;rw[show n64 0=0 from rfl] at d;rw[<-d];clear d;go_wp2;go_loopw [30] (fun i wr=>i=.int .i64 0/\wr=E) (fun _ _=>0)
 case atStart=>exact⟨rfl,rfl⟩
 case round=>
  obtain⟨rfl,rfl⟩:=hrel;go_wp2;go_ret2
  have j:Below w2.heap.size w2 wr:=by rw[l.o];exact aB _ _
  have K:wr.heap.size=w2.heap.size+1:=by rw[l.o];simp
  have H:=H1.o.2.2.2.2.size;have I:=f.o.size;have G:=z.o;have C:=H1.o.1;have F:=H1.o.2.2.2.1;refine⟨w2.heap.size,J,(fun b=>w1.heap.size<=b/\b<w2.heap.size),rfl,⟨J,wr.heap.size,vc,vr,vn,vo,vt,vu,vk,vb,none,0,[],0,none,0,[],none,0,[],0,?_⟩,qo,C,fun b a=>by omega,(H1.o.2.2.2.2.trans (aJ f.o)).trans (aJ j)⟩;exact {
   eng:=by rw[l.o];exact aK _ _ _ rfl
   jou:=aE (aE H1.o.2.1 f.o) j
   dsk:=aE (aE H1.o.2.2.1 f.o) j
   sto:=B.o.inb.aDQ (aJ j)
   log:=aM.nil
   aEC:=aM.nil
   byt:=jE.nil
   len:=rfl
   lts:=⟨qo,qo,qo,lR _⟩
   nes:=⟨qo,qo,qo⟩
   mem:=⟨.inl rfl,.inr (.inl rfl),.inr (.inr rfl)⟩
   aEv:=fun b a=>by simp[Value.ownBlock] at a
   aEu:=fun b a=>by simp[Value.ownBlock] at a
   kept:=fun b a=>⟨fun h=>by rcases h with h|h|h<;>omega,qo⟩
   low:=fun b a=>by rcases a with h|h|h<;>omega
   rows:=⟨lR _,lR _⟩}
def RQ(Q:Nat)(w:World)(e:Ending)(w':World):Prop:=∃(E D:Nat) (M K:nP),e=.returned (.tuple #[.pointer (some ⟨E,0,none⟩),.pointer (some ⟨D,0,none⟩)])/\sL w' E D M K Q 0 0 kM/\(∀b,M b->w.heap.size<=b)/\(∀b,K b->w.heap.size<=b)/\Below w.heap.size w w'
theorem Nn(Q:Nat)(t:Q<=1000000)(w:World)(o:Gl w)(h6:6<=w.heap.size):Calls prog 4 #[.int .i64 Q] w (RQ Q w):=by
 have i:=aA (ZW Q t w);obtain⟨W0,c⟩:=xE (w.alloc (pD Q none 0 0 0));have j:Below w.heap.size w W0:=by rw[c];exact aB _ _
 have n:=aA (Nl w.heap.size Q W0 (by rw[c];exact aK _ _ _ rfl) (o.on j).aEs h6);have s:Hid (W0.heap.size=w.heap.size+1):=aA (by rw[c];simp);have q:=aA j;rw[<-c] at i;clear j c o h6;unfold RQ;go_enter func4,ntmps4;go_wp2_with fail;refine i.o.mono ?_;rintro e w1 ⟨rfl,rfl⟩;go_wp2_with fail;refine n.o.mono ?_;rintro e w2 ⟨E,J,K,rfl,d,l,m,f,g⟩;have r:=aA (And.intro d (And.intro l (And.intro m (And.intro f g))));clear d l m f g n i;go_wp2;go_ret2
 obtain⟨d,l,m,f,g⟩:=r.o;have v:=s.o;exact⟨E,w.heap.size,_,K,rfl,d,fun b a=>by rcases a with h|h|h<;>omega,fun b a=>qA (f b a),((aJ (ok:=fun b=>b<w.heap.size) q.o).trans (g.mono (fun b _ a=>by have:b<w.heap.size:=a;show b≠w.heap.size;omega))).below (B:=w.heap.size) (fun k p=>⟨p,p⟩)⟩
def Gk:Rep ByteArray:=mS (fun s=>[.string s]) (fun s=>s.size<=maxLen)
theorem Ca:Firm Gk 1:=gH (fun _=>rfl) (fun x v h=>by simp only[List.mem_cons,List.not_mem_nil,or_false] at h;rw[h];rfl)
def sS(a:World)(E D Q m n:Nat)(s:Sto)(w:World):Prop:=∃M K,sL w E D M K Q m n s/\(∀b,M b->a.heap.size<=b)/\Below a.heap.size a w
theorem sS.on{b:World}{E D Q m n:Nat}{s:Sto}{w w':World}(h:sS b E D Q m n s w)(a:Below w.heap.size w w'):sS b E D Q m n s w':=by
 obtain⟨M,K,h1,h2,h3⟩:=h;exact⟨M,K,h1.on a,h2,aC h3 a⟩
theorem sS.below{a:World}{E D Q m n:Nat}{s:Sto}{w:World}(h:sS a E D Q m n s w):Below a.heap.size a w:=by
 obtain⟨M,K,h1,h2,h3⟩:=h;exact h3
def aAA(b:World)(E D Q m n:Nat)(s:Sto)(q:bY)(e:Ending)(w':World):Prop:=
 e=.returned (.string (dQ s q.data.toList).2)/\∃a,sS b E D Q a (n+1) (dQ s q.data.toList).1 w'/\m<=a/\a<=m+400+q.size/\(∀o,mD q.data.toList=some o->(bZ s o).2.2.2≠0->a=m)/\(mD q.data.toList=none->a=m)
theorem Xw{a:World}(r:Gl a)(h6:6<=a.heap.size){E D Q m n k:Nat}{s:Sto}{w:World}(h:sS a E D Q m n s w)(q:bY)(A:q.size<=100000)(g:kW k s)(d:k<=900000)(z:n<=800000)(p:m+400+q.size<=Q)(l:Q<=900000):
 Calls prog 5 #[.pointer (some ⟨E,0,none⟩),.string q] w (aAA a E D Q m n s q):=by
 obtain⟨M,K,h1,h2,h3⟩:=h;refine(XT E D Q m n k s q A w h1 (r.on h3) (fun b c=>qA (h2 b c)) g d z p l).mono ?_;rintro e w' ⟨rfl,f,K',C,i,j,F,o,t,v,x,y⟩;refine⟨rfl,C,⟨f,K',i,fun b c=>(j b c).elim (h2 b) (fun h=>qA h3.size),?_⟩,t,v,x,y⟩
 .exact((aJ (ok:=fun b=>b<a.heap.size) h3).trans (o.mono fun b _ c hm=>by have:=h2 b hm;have G:b<a.heap.size:=c;omega)).below (B:=a.heap.size) (fun k d=>⟨d,d⟩)
theorem XU(Q:Nat)(g:Q<=900000)(w:World)(d:Gl w)(h6:6<=w.heap.size):Calls prog 4 #[.int .i64 Q] w fun e w'=>∃E D,e=.returned (.tuple #[.pointer (some ⟨E,0,none⟩),.pointer (some ⟨D,0,none⟩)])/\sS w E D Q 0 0 kM w':=by
 refine(Nn Q qo w d h6).mono ?_;rintro e w' ⟨E,D,M,K,rfl,a,b,f,c⟩;exact⟨E,D,rfl,M,K,a,b,c⟩
theorem zJ{c:World}(o:Gl c)(h6:6<=c.heap.size){E D Q m n k:Nat}{s i:Sto}{a:bY}{w:World}(h:sS c E D Q m n s w)(q:bY)(l:lU)(d:q.data.toList=l)(g:dQ s l=(i,a))(j:kW k s)(p:k<=900000)(r:n<=800000)(v:m+400+l.length<=Q)(t:Q<=200000)(f:Q<=90000\/l.length<=100000):
 Calls prog 5 #[.pointer (some ⟨E,0,none⟩),.string q] w fun e w'=>e=.returned (.string a)/\∃b,sS c E D Q b (n+1) i w'/\b<=m+400+l.length:=by
 have x:q.size=l.length:=by rw[<-d,Array.length_toList];rfl
 refine(Xw o h6 h q (by rcases f with f|f<;>omega) j p r qo qo).mono ?_;rintro e w' ⟨rfl,b,h1,h2,h3,-⟩;rw[d,g] at h1;rw[d,g];exact⟨rfl,b,h1,qo⟩
theorem uP:str "ok"=⟨#[111,107]⟩:=by kernel_rfl
theorem Xx:str "denied Deny"=⟨#[100,101,110,105,101,100,32,68,101,110,121]⟩:=by kernel_rfl
theorem Xy:str "ok 7"=⟨#[111,107,32,55]⟩:=by kernel_rfl
theorem aDm:(⟨#[97,110,110,32,110,101,119,32,99]⟩:bY).data.toList=cW "ann new c":=by kernel_rfl
theorem aDn:(⟨#[97,110,110,32,119,114,105,116,101,32,99,32,102,32,55]⟩:bY).data.toList=cW "ann write c f 7":=by kernel_rfl
theorem aDo:(⟨#[97,110,110,32,112,111,108,105,99,121,32,112,111,108,105,99,121,32,112,32,102,105,114,115,116,32,123,32,100,101,110,121,32,100,32,119,104,101,110,32,40,97,99,116,105,111,110,46,110,97,109,101,32,61,32,35,119,114,105,116,101,41,59,32,112,101,114,109,105,116,32,114,59,32,125]⟩:bY).data.toList=EI:=by kernel_rfl
theorem aDp:(⟨#[97,110,110,32,119,114,105,116,101,32,99,32,102,32,56]⟩:bY).data.toList=cW "ann write c f 8":=by kernel_rfl
theorem aDq:(⟨#[98,111,98,32,114,101,97,100,32,99,32,102]⟩:bY).data.toList=cW "bob read c f":=by kernel_rfl
theorem ZX:∃s1 s2 a b c,dQ kM (cW "ann new c")=(s1,⟨#[111,107]⟩)/\dQ s1 (cW "ann write c f 7")=(s2,⟨#[111,107]⟩)/\dQ s2 EI=(a,⟨#[111,107]⟩)/\dQ a (cW "ann write c f 8")=(b,⟨#[100,101,110,105,101,100,32,68,101,110,121]⟩)/\dQ b (cW "bob read c f")=(c,⟨#[111,107,32,55]⟩):=
 ⟨XF.1,XG.1,XH.1,XI.1,Ml.1,by rw[<-uP,<-qR.1];rfl,by rw[<-uP,<-qR.2.1];rfl,by rw[<-uP,<-qR.2.2.1];rfl,by rw[<-Xx,<-qR.2.2.2.1];rfl,by rw[<-Xy,<-qR.2.2.2.2];rfl⟩
theorem GD{k:Nat}{s b:Sto}{q:lU}{a:bY}(h:kW k s)(c:dQ s q=(b,a)):kW (k+1) b:=by
 have:=h.line q;rw[c] at this;exact this
theorem Np(w:World)(a:Gl w)(h6:6<=w.heap.size):Calls prog 11 #[] w (lK (.bool true) w):=by
 obtain⟨s1,s2,H,I,M,b,c,d,f,l⟩:=ZX;have o:=aA (XU 4000 qe w a h6);have g:=XE;have i:=GD g b;have j:=GD i c;have k:=GD j d;have n:=GD k f;have y:=aA (fun E D m (hm:m<=0) w1 (h:sS w E D 4000 m 0 kM w1)=>zJ a h6 h _ _ aDm b g qe qe (by rw[show (cW "ann new c").length=9 from rfl];omega) qe (.inl qe));have z:=aA (fun E D m (hm:m<=500) w1 (h:sS w E D 4000 m 1 s1 w1)=>zJ a h6 h _ _ aDn c i qe qe (by rw[show (cW "ann write c f 7").length=15 from rfl];omega) qe (.inl qe));have A:=aA (fun E D m (hm:m<=1000) w1 (h:sS w E D 4000 m 2 s2 w1)=>zJ a h6 h _ _ aDo d j qe qe (by rw[show EI.length=75 from rfl];omega) qe (.inl qe));have B:=aA (fun E D m (hm:m<=1500) w1 (h:sS w E D 4000 m 3 H w1)=>zJ a h6 h _ _ aDp f k qe qe (by rw[show (cW "ann write c f 8").length=15 from rfl];omega) qe (.inl qe));have C:=aA (fun E D m (hm:m<=2000) w1 (h:sS w E D 4000 m 4 I w1)=>zJ a h6 h _ _ aDq l n qe qe (by rw[show (cW "bob read c f").length=12 from rfl];omega) qe (.inl qe));unfold lK;clear a h6 b c d f l g i j k n;go_enter func11,ntmps11;go_wp2_with fail;refine o.o.mono ?_;rintro e w1 ⟨E,D,rfl,h⟩;have H1:=y.o E D 0 qe w1 h;have H1:=aA H1;clear h o;go_wp2_with fail;refine H1.o.mono ?_;rintro e w2 ⟨rfl,m2,h,hm⟩;have r:=aA (z.o E D m2 (by rw[show (cW "ann new c").length=9 from rfl] at hm;omega) w2 h);have F:=aA hm;clear h hm;go_wp2_with fail;refine r.o.mono ?_;rintro e J ⟨rfl,m3,h,hm⟩;have p:Hid (m3<=1000):=aA (by have h2:=F.o;rw[show (cW "ann new c").length=9 from rfl] at h2;rw[show (cW "ann write c f 7").length=15 from rfl] at hm;omega)
 have s:=aA (A.o E D m3 p.o J h);clear h hm;go_wp2_with fail;refine s.o.mono ?_;rintro e K ⟨rfl,m4,h,hm⟩;have q:Hid (m4<=1500):=aA (by have h2:=p.o;rw[show EI.length=75 from rfl] at hm;omega);have t:=aA (B.o E D m4 q.o K h);clear h hm;go_wp2_with fail;refine t.o.mono ?_;rintro e L ⟨rfl,m5,h,hm⟩;have G:Hid (m5<=2000):=aA (by have h2:=q.o;rw[show (cW "ann write c f 8").length=15 from rfl] at hm;omega);have v:=aA (C.o E D m5 G.o L h);clear h hm;go_wp2_with fail;refine v.o.mono ?_;rintro e N ⟨rfl,m6,h,hm⟩;have x:=aA h.below;clear h hm;go_wp2;go_ret;exact⟨rfl,x.o⟩
theorem QCQ{p:Prop}(h:p:=by
 rcases hM b hb with h|h
 .exact h2 b h
 .exact⟨qA h4.size,fun hp=>qA (h3 b hp)⟩):p:=h
theorem QBV{p:Prop}(h:p:=by
 exact((aJ (ok:=fun b=>b<w0.heap.size) h4).trans (hS.mono fun b _ hb hm=>by have:=(h2 b hm).1;have hb':b<w0.heap.size:=hb;omega)).below (B:=w0.heap.size) (fun k hk=>⟨hk,hk⟩)):p:=h
def oS(a:World)(P:nP)(E D Q m n:Nat)(s:Sto)(w:World):Prop:=∃M K,sL w E D M K Q m n s/\(∀b,M b->a.heap.size<=b/\¬P b)/\(∀b,P b->b<w.heap.size)/\Below a.heap.size a w
theorem sS.one{a:World}{E D Q m n:Nat}{s:Sto}{w:World}(h:sS a E D Q m n s w):oS a (fun _=>False) E D Q m n s w:=by
 obtain⟨M,K,h1,h2,h3⟩:=h;exact⟨M,K,h1,fun b c=>⟨h2 b c,id⟩,fun b h=>h.elim,h3⟩
theorem oS.at0{a:World}{P:nP}{E D Q m n:Nat}{s:Sto}{w:World}(h:oS a P E D Q m n s w):sS a E D Q m n s w:=by
 obtain⟨M,K,h1,h2,_,h3⟩:=h;exact⟨M,K,h1,fun b c=>(h2 b c).1,h3⟩
theorem oS.sub{c:World}{P P':nP}{E D Q m n:Nat}{s:Sto}{w:World}(h:oS c P E D Q m n s w)(hp:∀b,P' b->P b):oS c P' E D Q m n s w:=by
 obtain⟨M,K,h1,h2,h3,h4⟩:=h;exact⟨M,K,h1,fun b a=>⟨(h2 b a).1,fun h=>(h2 b a).2 (hp b h)⟩,fun b a=>h3 b (hp b a),h4⟩
theorem oS.on{c:World}{P:nP}{E D Q m n:Nat}{s:Sto}{w w':World}(h:oS c P E D Q m n s w)(a:Below w.heap.size w w'):oS c P E D Q m n s w':=by
 obtain⟨M,K,h1,h2,h3,h4⟩:=h;exact⟨M,K,h1.on a,h2,fun b hp=>lL (h3 b hp) a.size,aC h4 a⟩
theorem oS.grow{c:World}{P:nP}{E D Q m n:Nat}{s:Sto}{w w':World}(h:oS c P E D Q m n s w)(a:Below w.heap.size w w'):oS c (fun b=>P b\/(w.heap.size<=b/\b<w'.heap.size)) E D Q m n s w':=by
 obtain⟨M,K,h1,h2,h3,h4⟩:=h;have d:∀b,M b->b<w.heap.size:=by
  obtain⟨J,base,vc,vr,vn,vo,vt,vu,vk,vb,la,lc,lu,h,ra,rc,ru,da,dc,bs,sy,H⟩:=h1;exact H.low
 exact⟨M,K,h1.on a,fun b hm=>⟨(h2 b hm).1,fun h=>h.elim (h2 b hm).2 (fun h=>qA (d b hm))⟩,fun b hp=>hp.elim (fun h=>lL (h3 b h) a.size) (fun h=>h.2),aC h4 a⟩
theorem Nq{f:World}{P:nP}{E D Q m n:Nat}{s:Sto}{w:World}(h:oS f P E D Q m n s w):Calls prog 8 #[.pointer (some ⟨E,0,none⟩)] w fun e w'=>∃(K:nP) (vc vr vn vo vt vu vk vb:Value),e=.returned (.agg (aV s vc vr vn vo vt vu vk vb))/\fD w' K s vc vr vn vo vt vu vk vb/\oS f (fun b=>P b\/K b) E D Q m n s w'/\Below w.heap.size w w':=by
 obtain⟨M,K,d,h2,h3,h4⟩:=h;have g:=d;obtain⟨J,base,vc,vr,vn,vo,vt,vu,vk,vb,la,lc,lu,h,ra,rc,ru,da,dc,bs,sy,H⟩:=d;refine(Dw E J s vc vr vn vo vt vu vk vb _ h w H.sto H.eng).mono ?_;rintro e w' ⟨rfl,a⟩;exact⟨K,vc,vr,vn,vo,vt,vu,vk,vb,rfl,H.sto.on a,⟨M,K,g.on a,fun b hm=>⟨(h2 b hm).1,fun h=>h.elim (h2 b hm).2 (fun c=>(H.kept b c).1 hm)⟩,fun b hp=>lL (hp.elim (h3 b) (fun c=>(H.kept b c).2)) a.size,aC h4 a⟩,a⟩
theorem KC{w0:World}(j:Gl w0)(h6:6<=w0.heap.size){P:nP}{E D Q m n k:Nat}{s:Sto}{w:World}(h:oS w0 P E D Q m n s w)(q:bY)(x:q.size<=100000)(d:kW k s)(hk:k<=900000)(v:n<=800000)(i:m+400+q.size<=Q)(g:Q<=900000):
 Calls prog 5 #[.pointer (some ⟨E,0,none⟩),.string q] w fun e w'=>e=.returned (.string (dQ s q.data.toList).2)/\∃a,oS w0 P E D Q a (n+1) (dQ s q.data.toList).1 w'/\aN P w w'/\m<=a/\a<=m+400+q.size/\(∀o,mD q.data.toList=some o->(bZ s o).2.2.2≠0->a=m)/\(mD q.data.toList=none->a=m):=by
 obtain⟨M,K,h1,h2,h3,h4⟩:=h;refine(XT E D Q m n k s q x w h1 (j.on h4) (fun b hb=>qA ((h2 b hb).1)) d hk v i g).mono ?_;rintro e w' ⟨rfl,c,K',a,f,hM,y,hS,l,p,r,t⟩;refine⟨rfl,a,⟨c,K',f,fun b hb=> ?_,fun b hp=>lL (h3 b hp) hS.size,?_⟩,hS.mono fun b _ hp hm=>(h2 b hm).2 hp,l,p,r,t⟩
 .exact QCQ
 .exact QBV
theorem own:ownKnob prog.godebug=none:=by kernel_rfl
theorem Xz:laidOutB prog=true:=by kernel_rfl
section
open Go.ChangeShapes Go.WideShapes Go.ChangeAt Go.Deep
def MT:List (String×DataW Unit):=[("math/bits.deBruijn32tab",Rows.laid_math_bits_deBruijn32tab),("math/bits.deBruijn64tab",Rows.laid_math_bits_deBruijn64tab),("internal/strconv.uint64pow10",Rows.laid_internal_strconv_uint64pow10),("strconv.ErrRange",Rows.laid_strconv_ErrRange),("strconv.ErrSyntax",Rows.laid_strconv_ErrSyntax)]
theorem aBa{W:World}(i:W.ShapedOpen prog)(h:laidMetH prog MT W):Gl W/\6<=W.heap.size:=by
 rw[MakeChecks.laidMetH_plain _ _ _ (by kernel_rfl)] at h;obtain⟨H,⟨g0,t0,q,f0,D,q0,z,A,C,x,⟨g1,t1,r,f1,E,q1,f,B,a,y,⟨g2,t2,s,f2,F,I,g,j,o,d,⟨g3,t3,t,f3,G,J,b,l,p,e,_,_⟩,_⟩,_⟩,_⟩,_⟩:=h;obtain rfl:=Option.some.inj ((show prog.globalNamed "strconv.ErrRange"=some 2 by kernel_rfl).symm.trans b);obtain rfl:=Option.some.inj ((show prog.globalNamed "math/bits.deBruijn64tab"=some 5 by kernel_rfl).symm.trans f);have m:(prog.globals[2]?).map (·.type)=some 185:=by kernel_rfl
 obtain rfl:=Option.some.inj (m.symm.trans l);have n:(prog.globals[3]?).map (·.type)=some 326:=by kernel_rfl
 obtain rfl:=Option.some.inj (XK.symm.trans g);obtain rfl:=Option.some.inj (n.symm.trans j);have h6:6<=W.heap.size:=by
  unfold World.var? at a;rw[show prog.globalNamed "math/bits.deBruijn64tab"=some 5 by kernel_rfl] at a
  rcases Nat.lt_or_ge 5 W.heap.size with h2|h2
  .exact h2
  .simp[Array.getElem?_eq_none h2] at a
 refine⟨⟨?_,(laysM220.s1_3 W i),?_⟩,h6⟩
 .obtain⟨w,u,v,c,_,_⟩:=iface_of_trod underlying185 e;have:=World.var?_cell b p 0;rw[Array.eq_one_of_toList c] at this;exact⟨_,by simpa using this,.inr ⟨u,v,rfl⟩⟩
 .unfold Lib.TabIs;rw[o,<-Lib.cells_of_tab (zs:=Lib.pow10Tab) (k:= .u64) underlying326 underlying72 (by kernel_rfl) (by kernel_rfl) d]
section
variable {H:Type} {enc:TypeId×Value->H} {P:Program} {W:World} {sp:Nat->Bool} {held:Bool}
end
theorem OY{H:Type}{enc:TypeId×Value->H}{a:Assume}{C:Checked}{os:Os}{f:FuncId}{fn:Func}{s:ChangeSpec}{conds:List PathCond}{apart fresh handsOn again:Bool}{X:World->Array Value->Prop}
 (k:∀(w w':World) (args:Array Value),w.heap=w'.heap->X w args->X w' args)
 (own:ownKnob C.prog.godebug=none)(started:os.Started)(y:C.prog.inits.idxOf? f=none)(l:C.prog.funcs[f]? =some fn)
 (witness:∃(w:World) (tape:Tape) (i:Input),w.os=os/\(w.forCall tape i).Shaped C.prog/\i.vars=[]/\Input.okWide C.prog (w.forCall tape i) .any w.heap.size f i/\
   ((s.pre enc C.prog fn conds apart (w.forCall tape i).memory i.args/\X (w.forCall tape i).memory i.args)/\sizedMet enc C.prog fn (OpenSpec.ofChange s) apart (w.forCall tape i).memory i.args)/\a.holds C.prog (lone (Frame.enter C.prog f i.args .normal) [] (w.forCall tape i)))
 (d:∀(W:World) (base:Nat) (args:Array Value) (b gs:List (DataW H)) (before:List MemPlace),W.ShapedOpen C.prog->
   (∀(j:Nat) t v,fn.params[j]? =some t->args[j]? =some v->Value.okWide C.prog W .any base t v)->
   DataW.Whole enc C.prog fn.params.toList s.vars apart W args.toList b gs before->X W args->
   Calls C.prog f args W fun e c=>∃v,e=.returned v/\s.post enc C.prog fn apart fresh handsOn again W args v c):
 ReturnsInHanded a C os f .any (fun w args=>(s.pre enc C.prog fn conds apart w args/\X w args)/\sizedMet enc C.prog fn (OpenSpec.ofChange s) apart w args) (s.post enc C.prog fn apart fresh handsOn again):=by
 refine returnsInHanded_of_calls own started y witness ?_;intro w tape i _ p _ n o A;obtain⟨_,_,_,g,m,_,_,_,_,q⟩:=n;have e:g=fn:=Option.some.inj (m.symm.trans l);subst e;obtain⟨⟨⟨b,gs,before,hw,z⟩,x⟩,B⟩:=o;have r:=DataW.Whole.of_heap (w':=w.forCall tape i) (by rfl) hw;refine(d (w.forCall tape i) w.heap.size i.args b gs before p q r (k _ _ _ (by rfl) x)).mono fun e c ⟨v,he,hp⟩=> ?_
 subst he;exact ChangeSpec.post_blind hp
theorem Sq(os:Os)(args:Array Value):laidMetH prog MT ((World.doorLaid prog 400 os).forCall (fun _ _=>0) ⟨#[],args,[]⟩).memory:=
 laidMetH_of_parts3 (fuel:=8) (laidMet_of_run' 8 (by kernel_rfl) (by kernel_rfl)) (by kernel_rfl) (by kernel_rfl)
end
end Go.Proofs.YtheabjeppmdmiaaGreatDoor
