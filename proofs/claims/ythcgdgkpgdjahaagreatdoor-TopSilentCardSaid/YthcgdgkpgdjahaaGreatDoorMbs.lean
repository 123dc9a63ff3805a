/- Lemmas. -/
import Derived.Test.YthcgdgkpgdjahaaGreatDoorMbq
import Derived.Test.YthcgdgkpgdjahaaGreatDoorMbr
namespace Go.Proofs.YthcgdgkpgdjahaaGreatDoor
open Go.RowKit
set_option linter.unusedVariables false
set_option linter.unusedSimpArgs false
set_option maxHeartbeats 16000000
open _root_.Go.Proofs.Tryz
set_option maxRecDepth 20000
theorem Vj{p:Prop}(h:p:=by
 injection ho with ho;rw[<-ho];show b.text.size<=_;omega):p:=h
theorem Yg{l:lU}{o:Op}(h:kQ l=some o):o.text.size<=l.length:=by
 rw[Co] at h;have h1:=(sV l).2;have h2:=(Cp (cO l).2).2;have h3:=(sV (kG (cO l).2).2.2).2;generalize (cO (kG (cO l).2).2.2).2=a at *;generalize oR (cO (kG (cO l).2).2.2).1=k at *;generalize e:Vh k (cO l).1 (kG (cO l).2).2.1 (kG (cO l).2).1=b at *;have g:b.text.size=0:=by rw[<-e];rfl
 have f:∀o,BK k b a=some o->o.text.size<=l.length:=by
  intro o ho;unfold BK at ho;split at ho
  .exact Vj
  split at ho
  .exact Vj
  split at ho
  .rcases d:pC (cO (cO a).2).2 with _|v
   .rw[d] at ho;cases ho
   .rw[d] at ho;injection ho with ho;rw[<-ho];show b.text.size<=_;omega
  split at ho
  .exact Vj
  split at ho
  .exact Vj
  split at ho
  .injection ho with ho;rw[<-ho];show (bs a).size<=_;rw[cH];omega
  .injection ho with ho;rw[<-ho];omega
 rcases c:BK k b a with _|x
 .rw[c] at h;cases h
 .rw[c] at h;unfold vT at h;dsimp only at h;split at h
  .injection h with h;rw[<-h];exact f x c
  .cases h
theorem nQ.more{w:World}{E D:Nat}{M K:nP}{Q m n b:Nat}{s:Sto}(h:nQ w E D M K Q m n s)(a:n<=b):nQ w E D M K Q m b s:=by
 obtain⟨J,base,vc,vr,vn,vo,vt,vu,vk,vb,la,lc,lu,h,ra,rc,ru,da,dc,bs,sy,H⟩:=h;exact⟨J,base,vc,vr,vn,vo,vt,vu,vk,vb,la,lc,lu,h,ra,rc,ru,da,dc,bs,sy,{H with rows:=⟨lT H.rows.1 a,lT H.rows.2 a⟩}⟩
theorem nQ.rep{w:World}{E D:Nat}{M K:nP}{Q m n:Nat}{s:Sto}(h:nQ w E D M K Q m n s)(o:Op)(a:o.text.size<=1000000):OU (bO s o).2.1:=by
 obtain⟨J,base,vc,vr,vn,vo,vt,vu,vk,vb,la,lc,lu,h,ra,rc,ru,da,dc,bs,sy,H⟩:=h;exact Tg H.sto o a
theorem rU{w w':World}{B:Nat}{o:Obj}(d:B<=w.heap.size)(c:aN (fun b=>b≠w.heap.size) (w.alloc o) w'):Below B w w':=
 ((aJ (ok:=fun b=>b<B) (aB w o)).trans (c.mono fun b _ e=>by show (_:Nat)≠_;omega)).below (B:=B) (fun k a=>⟨qo,a⟩)
def YD(E D:Nat)(M K:nP)(Q m n:Nat)(s:Sto)(q:bY)(w:World)(e:Ending)(w':World):Prop:=
 e=.returned (.string (dN s q.data.toList).2)/\∃(c K':nP) (a:Nat),nQ w' E D c K' Q a (n+1) (dN s q.data.toList).1/\(∀b,c b->M b\/w.heap.size<=b)/\(∀b,K' b->K b\/w.heap.size<=b)/\aN (fun b=>¬M b) w w'/\m<=a/\a<=m+400+q.size/\(∀o,kQ q.data.toList=some o->(bO s o).2.2.2≠0->a=m)/\(kQ q.data.toList=none->a=m)
theorem EU{s:Sto}{q:lU}(h:kQ q=none):dN s q=(s,Vf):=by unfold dN;rw[h]
theorem EV{s:Sto}{q:lU}{o:Op}(h:kQ q=some o):dN s q=((bO s o).1,GF (bO s o).2.1):=by unfold dN;rw[h]
theorem YE{M K:nP}(E D Q m n k:Nat)(s:Sto)(q:bY)(N:q.size<=100000)(w:World)(Y:nQ w E D M K Q m n s)(I:Gl w)(W:∀b,M b->6<=b)(U:jD k s)(hk:k<=900000)(hn:n<=800000)(Z:m+400+q.size<=Q)(X:Q<=900000):
 Calls prog 5 #[.pointer (some ⟨E,0,none⟩),.string q] w (YD E D M K Q m n s q w):=by
 obtain⟨S,G,R,d,HQ⟩:=gJ (RS q N w I) Y I (And.intro W (And.intro U (And.intro hk (And.intro hn (And.intro Z X))))) N;obtain⟨F,H⟩:=xE (YD E D M K Q m n s q w);rw[<-H];have P:=aA H;clear Y I W U hk hn Z X N H;go_enter func5,ntmps5;go_wp2_with fail;refine S.o.mono ?_;rintro e w1 ⟨aa,rfl,a⟩;have p:=aA a;have r:=aA aa;clear a aa;obtain⟨OP,z⟩:=xE (kQ q.data.toList);rw[<-z] at r;rw[<-z];have f:=aA z;clear z S
 rcases OP with _|o
 .have i:=aA (EU (s:=s) f.o.symm);have ad:=f;clear r;unfold eZ bX;dsimp only[Option.isSome,Option.getD];go_upto_region 2 with (refine eG rfl _ (.tmp 5) (.tmp 10) rfl w1.heap.size _ rfl rfl _ _ (aK _ _ _ rfl) (by kernel_rfl) rfl (by simp[Value.oneCell']) ?_;intro w2 v j)
  have c:=qB p (rU (lR _) j.o);clear v j p;go_wp2;have C:=P.o;subst C;refine⟨by rw[i.o];rfl,M,K,m,?_,fun b a=> .inl a,fun b a=> .inl a,(aJ c.o).mono (fun b a _=>a),lR _,qo,fun o L=>absurd (ad.o.trans L) qs,fun _=>rfl⟩;rw[i.o];exact(G.o.on c.o).more (Nat.le_succ n)
 .have HG:=aA (r.o o rfl);have i:=aA (EV (s:=s) f.o.symm);unfold eZ bX;dsimp only[Option.isSome,Option.getD];go_upto_region 2 with (refine eG rfl _ (.tmp 5) (.tmp 10) rfl w1.heap.size _ rfl rfl _ _ (aK _ _ _ rfl) (by kernel_rfl) rfl (by simp[Value.oneCell']) ?_;intro w2 v j)
  have c:=qB p (rU (lR _) j.o);clear j p r;obtain⟨⟨b0,b1,b2,b3,b4,b5,b6,b7,b8,b9,af,ag⟩,-⟩:=bK v.o;have zb:=aD v.o;have ab:o.text.size<=q.size:=by have:=Yg f.o.symm;rwa [Array.length_toList] at this
  have T:=aA ab;have g:=Cn E D Q m n k s o HG.o w2 (G.o.on c.o) ((R.o.on c.o).aEI) d.o.2.1 d.o.2.2.1 d.o.2.2.2.1 (qA d.o.2.2.2.2.1) d.o.2.2.2.2.2;unfold eZ bX at g;have g:=aA g;clear ab;go_wp2_with fail;refine g.o.mono ?_;rintro e w3 ⟨rfl,M',K',m',V,y,x,l,A,J,B⟩;obtain⟨HE,ae,t⟩:=aZ V (And.intro y (And.intro x (And.intro l (And.intro A (And.intro J B))))) (G.o.rep o (qD T.o HQ.o));have HA:=aA (Hg (bO s o).2.1 t.o.mark t.o.val t.o.err t.o.at_ w3 ((R.o.on c.o).stay l (fun b a h=>qA (d.o.1 b h))));clear V y x l A J B g b0 b1 b2 b3 b4 b5 b6 b7 b8 b9 af ag zb;go_wp2_with fail;refine HA.o.mono ?_;rintro e w4 ⟨rfl,a⟩;have O:=aA a;clear a;go_wp2;have C:=P.o;subst C;obtain⟨y,x,l,A,J,B⟩:=ae.o;have hz:=c.o.size;refine⟨by rw[i.o];rfl,M',K',m',?_,fun b a=>(y b a).imp id (fun h=>by omega),fun b a=>(x b a).imp id (fun h=>by omega),?_,A,qA T.o,fun o' L ah=> ?_,fun ai=>absurd (f.o.trans ai) qs⟩
  .rw[i.o];exact HE.o.on O.o
  .exact((aJ c.o).mono (fun b a _=>a)).trans (l.trans ((aJ O.o).mono (fun b a _=>a)))
  .have h1:=f.o.trans L;injection h1 with h1;subst h1;exact B ah
theorem Hk(w:World):Calls prog 49 #[(Value.slice none 0 0)] w fun e w'=>e=.returned (Value.slice none 0 0)/\w'=w:=by
 have heq:=Lib.run_eql_slice_nil (P:=prog) w 71 5 none 0 0 0 0 underlying71;go_enter func49,ntmps49;go_wp2;go_ret;exact⟨rfl,rfl⟩
theorem Hl(w:World):Calls prog 116 #[(Value.slice none 0 0)] w fun e w'=>e=.returned (.tuple #[(Value.slice none 0 0),.bool false])/\w'=w:=by
 go_enter func116,ntmps116;go_wp2;go_ret2
 exact⟨rfl,rfl⟩
theorem Th(w:World):Calls prog 61 #[(Value.slice none 0 0)] w fun e w'=>e=.returned (.tuple #[(Value.slice none 0 0),.int .i64 0])/\w'=w:=by
 have a:=aA (Hl w);go_enter func61,ntmps61;go_wp2;go_loopw [4,5] (fun v i wr=>v=(Value.slice none 0 0)/\i=.int .i64 0/\wr=w) (fun _ _ _=>0)
 case atStart=>exact⟨rfl,rfl,rfl⟩
 case round=>
  obtain⟨rfl,rfl,rfl⟩:=hrel;go_wp2_with fail;refine a.o.mono ?_;rintro e w1 ⟨rfl,rfl⟩;go_wp2;go_ret2
  exact⟨rfl,rfl⟩
theorem Ao(Q:Nat)(a:Q<=1000000)(w:World):Calls prog 11 #[.int .i64 Q] w fun e w'=>e=.returned (.tuple #[.pointer (some ⟨w.heap.size,0,none⟩),.int .i64 0])/\w'=w.alloc (pG Q none 0 0 0):=by
 have d1:¬((Q:Int)<0):=qo;have d2:¬((1048576:Int)<(Q:Int)):=qo;go_enter func11,ntmps11;go_wp2;go_ret2
 exact⟨rfl,rfl⟩
theorem Oe(D Q:Nat)(sy:Int)(w:World)(h:w.heap[D]? =some (pG Q none 0 0 sy)):Calls prog 62 #[.pointer (some ⟨D,0,none⟩)] w fun e w'=>e=.returned (Value.slice none 0 0)/\w'=w:=by
 obtain⟨⟨d0,d1,d2,d3,d4⟩,_⟩:=dM h;have b:=aD h;have a:=aA (Hk w);clear h;go_enter func62,ntmps62;go_wp2_with fail;refine a.o.mono ?_;rintro e w1 ⟨rfl,rfl⟩;go_wp2;go_ret;exact⟨rfl,rfl⟩
theorem Ti(D Q m b:Nat)(a:oD)(sy:Int)(w:World)(h:w.heap[D]? =some (pG Q a m b sy)):Calls prog 63 #[.pointer (some ⟨D,0,none⟩)] w fun e w'=>e=.returned (.int .i64 m)/\w'=w:=by
 obtain⟨⟨d0,d1,d2,d3,d4⟩,_⟩:=dM h;have c:=aD h;clear h;go_enter func63,ntmps63;go_wp2;go_ret;exact⟨rfl,rfl⟩
theorem Oh(D Q:Nat)(w:World)(h:w.heap[D]? =some (pG Q none 0 0 0)):Calls prog 25 #[.pointer (some ⟨D,0,none⟩)] w fun e w'=>∃J,w.heap.size<=J/\e=.returned (.tuple #[.pointer (some ⟨J,0,none⟩),.int .i64 0])/\w'.heap[J]? =some (DX D (Value.slice none 0 0))/\w'.heap[D]? =some (pG Q none 0 0 0)/\J<w'.heap.size/\aN (fun b=>b≠D) w w':=by
 obtain⟨c,a,d,g⟩:=dH (Oe D Q 0 w h) (Ti D Q 0 0 none 0 w h) (Th w) (PV D Q 0 0 none 0 w h);have j:=aD h;have l:=aA j;clear h j;go_enter func25,ntmps25;go_wp2_with fail;refine c.o.mono ?_;rintro e w1 ⟨rfl,rfl⟩;go_wp2_with fail;refine d.o.mono ?_;rintro e w1 ⟨rfl,rfl⟩;go_wp2_with fail;refine a.o.mono ?_;rintro e w1 ⟨rfl,rfl⟩;go_wp2_with fail;refine g.o.mono ?_;rintro e w2 ⟨rfl,h2,i⟩;have k:=aA h2;have f:=aA i;clear h2 i c a d g;go_wp2;go_ret2
 have m:=f.o.size;have n:=l.o;exact⟨w2.heap.size,m,rfl,aK _ _ _ rfl,aE k.o (aB _ _),qs,f.o.trans (aJ (aB w2 _))⟩
theorem Oi(J D:Nat)(w:World)(h:w.heap[J]? =some (DX D (Value.slice none 0 0))):Calls prog 27 #[.pointer (some ⟨J,0,none⟩)] w fun e w'=>e=.returned (Value.slice none 0 0)/\w'=w:=by
 obtain⟨⟨d0,d1,d2⟩,_⟩:=cF h;have a:=aD h;clear h;go_enter func27,ntmps27;go_wp2;go_loopw [3,11] (fun v i wr=>v=(Value.slice none 0 0)/\i=.int .i64 0/\wr=w) (fun _ _ _=>0)
 case atStart=>exact⟨rfl,rfl,rfl⟩
 case round=>
  obtain⟨rfl,rfl,rfl⟩:=hrel;go_wp2;go_ret;exact⟨rfl,rfl⟩
theorem Oj:xF=⟨#[112,111,108,105,99,121,32,111,112,101,110,32,112,101,114,109,105,116,117,110,108,101,115,115,32,123,32,125]⟩:=by kernel_rfl
def OX(w:World)(e:Ending)(w':World):Prop:=∃vc vr vn vo vt vu vk vb,e=.returned (.agg (aX jG vc vr vn vo vt vu vk vb))/\fM w' (fun b=>w.heap.size<=b) jG vc vr vn vo vt vu vk vb/\Below w.heap.size w w'
theorem Yh(w:World)(p:iA w):Calls prog 26 #[] w (OX w):=by
 obtain⟨W0,f⟩:=xE (w.alloc EP);have g:Below w.heap.size w W0:=by rw[f];exact aB _ _
 have R:Hid (W0.heap[w.heap.size]? =some EP):=aA (by rw[f];exact aK _ _ _ rfl);have c:=sN xF W0 (p.on g);unfold vP at c;obtain⟨P,i⟩:=xE (fH xF);rw[<-i] at c;rw[Oj] at c;have t:Hid (jG=⟨0,[],[],[],[],P.1,0⟩):=aA (by rw[i];rfl);obtain⟨c,r,o⟩:=aZ c g f;clear g f i p;unfold OX;rw[t.o];go_enter func26,ntmps26;go_upto_region 1 with (fail)
 rw[<-o.o];go_wp2_with fail;refine c.o.mono ?_;rintro e w1 ⟨v,rfl,⟨vt,vr,vk,vo,rfl,hp⟩,a⟩;obtain⟨G,H,rfl,-⟩:=hp.2.2.1.slice;obtain⟨ra,rc,rfl,-⟩:=hp.2.2.2.1.slice;obtain⟨C,D,rfl,-⟩:=hp.2.2.2.2.1.slice;obtain⟨E,F,rfl,-⟩:=hp.2.2.2.2.2.slice;obtain⟨z,s,j⟩:=aZ hp a (aE R.o a);clear hp a;go_upto_region 2 with (refine eG rfl _ (.tmp 1) (.tmp 6) rfl w1.heap.size _ rfl rfl _ _ (aK _ _ _ rfl) (by kernel_rfl) rfl (by simp[Value.oneCell']) ?_;intro w2 l m)
 have d:=aA (rU (lR _) m.o);have I:=aA (aD j.o);have A:=aA (z.o.aDW (aJ d.o));have x:=qK j d.o;obtain⟨⟨T,U,V,W,X,p5,p6⟩,-⟩:=bI l.o;have Z:=aD l.o;clear m;go_wp2_with (refine eG rfl _ (.tmp 0) (.tmp 10) rfl w.heap.size _ rfl rfl _ _ x.o (by kernel_rfl) rfl (by simp[Value.oneCell']) ?_;intro Y y n)
 obtain⟨⟨a0,J,a2,a3,a4,a5,M,N,O,a9,K,L,a12⟩,-⟩:=bW y.o;refine bR (.agg #[.int .i64 0,.slice none 0 0,.slice none 0 0,.slice none 0 0,.slice none 0 0,.string P.1.id,.bool P.1.set,.int .i64 P.1.alg,.slice G P.1.aDY.length H,.slice ra P.1.aDR.length rc,.slice C P.1.aD2.length D,.slice E P.1.aD4.length F,.int .i64 0]) ?_;have Q:w.heap.size<W0.heap.size:=by rw[o.o];simp
 have S:=d.o.size;exact⟨_,_,_,_,_,_,_,_,rfl,⟨YC,YC,aH.nil,aH.nil,aH.nil,aH.nil,(A.o.aDW (n.o.mono (fun b _ a=>by have:W0.heap.size<=b:=a;show b≠w.heap.size;omega))).more (fun b a=>by have:W0.heap.size<=b:=a;omega),JM,JM,JM⟩,((aJ (ok:=fun b=>b<w.heap.size) (aC r.o (aC s.o d.o))).trans (n.o.mono (fun b _ a=>by have:b<w.heap.size:=a;show b≠w.heap.size;omega))).below (B:=w.heap.size) (fun k q=>⟨q,q⟩)⟩
theorem iA.far{w w':World}{D:Nat}(h:iA w)(a:aN (fun b=>b≠D) w w')(c:6<=D):iA w':=h.stay a (by show 2≠D;omega)
def RY(D Q:Nat)(w:World)(e:Ending)(w':World):Prop:=∃(E J:Nat) (K:nP),e=.returned (.tuple #[.pointer (some ⟨E,0,none⟩),.int .i64 0])/\nQ w' E D (fun b=>b=E\/b=J\/b=D) K Q 0 0 jG/\w.heap.size<=E/\w.heap.size<=J/\(∀b,K b->w.heap.size<=b)/\aN (fun b=>b≠D) w w'
theorem Ok(D Q:Nat)(w:World)(h:w.heap[D]? =some (pG Q none 0 0 0))(k:iA w)(p:6<=D):Calls prog 12 #[.pointer (some ⟨D,0,none⟩)] w (RY D Q w):=by
 obtain⟨o,z,A,y⟩:=dH (Oh D Q w h) (aD h) k p;obtain⟨S,s⟩:=xE jG;have g:=aA (fun w1 (k:iA w1)=>Yh w1 k);unfold OX at g;unfold RY;rw[<-s] at g ⊢;clear h k p s;go_enter func12,ntmps12;go_wp2_with fail;refine o.o.mono ?_;rintro e w1 ⟨J,q,rfl,hj,t,r,m⟩;have n:=aA (g.o w1 (A.o.far m y.o));have H1:=aA (And.intro q (And.intro hj (And.intro t (And.intro r m))));clear q hj t r m o g;go_wp2_with fail;refine n.o.mono ?_;rintro e w2 ⟨vc,vr,vn,vo,vt,vu,vk,vb,rfl,x,a⟩;have B:=aA x;have f:=aA a;have c:=Oi J D (w2.alloc (qP J S vc vr vn vo vt vu vk vb (.slice none 0 0) 0)) (aE (aE H1.o.2.1 a) (aB _ _));have v:n64 0=0:=rfl;unfold qP at c;rw[v] at c;have c:=aA c;unfold aX;clear x a n v;go_wp2_with fail;refine c.o.mono ?_;rintro e L ⟨rfl,rfl⟩;clear c;obtain⟨E,d⟩:=xE (w2.alloc (qP J S vc vr vn vo vt vu vk vb (.slice none 0 0) 0));have l:=aA d;unfold qP at d;rw[show n64 0=0 from rfl] at d;rw[<-d];clear d;go_wp2;go_loopw [30] (fun i wr=>i=.int .i64 0/\wr=E) (fun _ _=>0)
 case atStart=>exact⟨rfl,rfl⟩
 case round=>
  obtain⟨rfl,rfl⟩:=hrel;go_wp2;go_ret2
  have j:Below w2.heap.size w2 wr:=by rw[l.o];exact aB _ _
  have K:wr.heap.size=w2.heap.size+1:=by rw[l.o];simp
  have H:=H1.o.2.2.2.2.size;have I:=f.o.size;have G:=z.o;have C:=H1.o.1;have F:=H1.o.2.2.2.1;refine⟨w2.heap.size,J,(fun b=>w1.heap.size<=b/\b<w2.heap.size),rfl,⟨J,wr.heap.size,vc,vr,vn,vo,vt,vu,vk,vb,none,0,[],0,none,0,[],none,0,[],0,?_⟩,qo,C,fun b a=>by omega,(H1.o.2.2.2.2.trans (aJ f.o)).trans (aJ j)⟩;exact {
   eng:=by rw[l.o];exact aK _ _ _ rfl
   jou:=aE (aE H1.o.2.1 f.o) j
   dsk:=aE (aE H1.o.2.2.1 f.o) j
   sto:=B.o.inb.aDW (aJ j)
   log:=aM.nil
   aEJ:=aM.nil
   byt:=jF.nil
   len:=rfl
   lts:=⟨qo,qo,qo,lR _⟩
   nes:=⟨qo,qo,qo⟩
   mem:=⟨.inl rfl,.inr (.inl rfl),.inr (.inr rfl)⟩
   aEB:=fun b a=>by simp[Value.ownBlock] at a
   aEA:=fun b a=>by simp[Value.ownBlock] at a
   kept:=fun b a=>⟨fun h=>by rcases h with h|h|h<;>omega,qo⟩
   low:=fun b a=>by rcases a with h|h|h<;>omega
   rows:=⟨lR _,lR _⟩}
def RZ(Q:Nat)(w:World)(e:Ending)(w':World):Prop:=∃(E D:Nat) (M K:nP),e=.returned (.tuple #[.pointer (some ⟨E,0,none⟩),.pointer (some ⟨D,0,none⟩)])/\nQ w' E D M K Q 0 0 jG/\(∀b,M b->w.heap.size<=b)/\(∀b,K b->w.heap.size<=b)/\Below w.heap.size w w'
theorem SA(Q:Nat)(t:Q<=1000000)(w:World)(o:Gl w)(h6:6<=w.heap.size):Calls prog 4 #[.int .i64 Q] w (RZ Q w):=by
 have i:=aA (Ao Q t w);obtain⟨W0,c⟩:=xE (w.alloc (pG Q none 0 0 0));have j:Below w.heap.size w W0:=by rw[c];exact aB _ _
 have n:=aA (Ok w.heap.size Q W0 (by rw[c];exact aK _ _ _ rfl) (o.on j).aEI h6);have s:Hid (W0.heap.size=w.heap.size+1):=aA (by rw[c];simp);have q:=aA j;rw[<-c] at i;clear j c o h6;unfold RZ;go_enter func4,ntmps4;go_wp2_with fail;refine i.o.mono ?_;rintro e w1 ⟨rfl,rfl⟩;go_wp2_with fail;refine n.o.mono ?_;rintro e w2 ⟨E,J,K,rfl,d,l,m,f,g⟩;have r:=aA (And.intro d (And.intro l (And.intro m (And.intro f g))));clear d l m f g n i;go_wp2;go_ret2
 obtain⟨d,l,m,f,g⟩:=r.o;have v:=s.o;exact⟨E,w.heap.size,_,K,rfl,d,fun b a=>by rcases a with h|h|h<;>omega,fun b a=>qA (f b a),((aJ (ok:=fun b=>b<w.heap.size) q.o).trans (g.mono (fun b _ a=>by have:b<w.heap.size:=a;show b≠w.heap.size;omega))).below (B:=w.heap.size) (fun k p=>⟨p,p⟩)⟩
theorem QBM{p:Prop}(h:p:=by
 have HV:=aA ((HG.o.sl (by rw[HM.o,List.length_map,List.length_take];have:=HN.o;omega) (fun b=>w.heap.size<=b) (fun b h _=>h.elim) (fun b h _=>h) rV));go_wp2;go_ret;exact⟨_,rfl,HV.o,HB.o⟩):p:=h
def OY:Rep ByteArray:=mS (fun s=>[.string s]) (fun s=>s.size<=maxLen)
theorem rV:Firm OY 1:=gK (fun _=>rfl) (fun x v h=>by simp only[List.mem_cons,List.not_mem_nil,or_false] at h;rw[h];rfl)
theorem aBj:dZ prog 22 9 1 16:=fR (z:= .string ByteArray.empty) underlying22 (by kernel_rfl) rfl qe
def OZ(s:bY):ByteArray:=s.extract 0 (min s.size 600)
theorem Ol(s:bY):(OZ s).size<=600:=by unfold OZ;rw[ByteArray.size_extract];omega
def zJ(l:List ByteArray)(n:Nat):List ByteArray:=(l.take n).map OZ
def SB(L:List ByteArray)(w:World)(e:Ending)(w':World):Prop:=∃v,e=.returned v/\aH OY w' (fun b=>w.heap.size<=b) v L/\Below w.heap.size w w'
theorem SW{α β:Type}(f:α->β){l:List α}{k:Nat}(h:k<l.length):(l.take (k+1)).map f=(l.take k).map f++[f l[k]]:=by
 rw[List.take_add_one,gE h,Option.toList_some,List.map_append];rfl
theorem aAJ{α:Type}{R:Rep α}{s:Nat}{e:TypeId}{w:World}{base:Nat}{ok:nP}{v:Value}{l:List α}(h:aM R s e w base ok v l){b:Nat}(a:v.ownBlock=some b):base<=b/\b<w.heap.size:=h.lt b a
theorem Om{ok:nP}(a:oD)(c:Nat)(l:List ByteArray)(I:l.length<=maxLen)(n:Nat)(N:n<=1000)(w:World)(h:∀k (hk:k<l.length),∃b off,a=some ⟨b,off,none⟩/\b<w.heap.size/\w.cell? ⟨b,off+k,none⟩=some (.string l[k])/\l[k].size<=maxLen):Calls prog 8 #[.slice a l.length c,.int .i64 n] w (SB (zJ l n) w):=by
 obtain⟨V,HL,HN⟩:=aZ h I N;obtain⟨L,t⟩:=xE (zJ l n);rw[<-t];have F:=aA t;unfold SB;clear h t N I;go_enter func8,ntmps8;go_wp2;go_loopw [5,6] (fun v i wr=>∃(k:Nat) (m:List ByteArray),k<=n/\k<=l.length/\i=.int .i64 k/\Hid (m=(l.take k).map OZ)/\Hid (aM OY 1 9 wr w.heap.size (fun _=>False) v m)/\Hid (Below w.heap.size w wr)) (fun _ i _=>n - (intOf i).toNat)
 case atStart=>exact⟨0,[],qo,qo,rfl,aA rfl,aA aM.nil,aA (Below.refl _ _)⟩
 case round=>
  obtain⟨k,m,ab,aa,rfl,HM,HG,HB⟩:=hrel;obtain⟨A,W,rfl⟩:=HG.o.slice;by_cases h1:k<l.length
  .have d1:(k:Int)<(l.length:Int):=qo;by_cases h2:k<n
   .have d2:(k:Int)<(n:Int):=qo;obtain⟨b,off,rfl,g,j,C⟩:=V.o k h1;have M:m.length=k:=by rw[HM.o,List.length_map,List.length_take];omega
    have U:=aA M;obtain⟨x,B⟩:=xE (l[k]);rw[<-B] at j C;have Y:min (x.size:Int) 600=((min x.size 600:Nat):Int):=qo;obtain⟨q,z⟩:=xE (min x.size 600);rw[<-z] at Y;have q1:(0:Int)<=(q:Int):=qo;have q2:(q:Int)<=(x.size:Int):=qo;have r:=aA (And.intro B (And.intro z C));have HC:=aA (And.intro g j);have i0:(0:Int)<=(k:Int):=qo;have i1:(k:Int)<(l.length:Int):=d1;clear M B z C;go_upto_region 5 with (fail)
    have E:Hid (Below wr.heap.size wr wr.drew):=aA (Below.refl _ _).drew;have H:b<wr.heap.size:=lL g HB.o.size;have f:wr.drew.cell? ⟨b,off+k,none⟩=some (.string x):=(HB.o.cell (p:=⟨b,off+k,none⟩) g).trans j;have O:(Value.slice A m.length W).ownBlock≠some b:=fun e=>by
     have:=(aAJ HG.o e).1;omega
    have o:=aA (And.intro O H);clear g j O H;refine cD 14 [(0,false),(1,false),(2,false),(3,false),(4,false),(5,false),(6,false),(7,false),(8,false),(9,false),(10,false),(11,false),(12,true),(13,true)] [(14,true)] (fun w'=>w'.cell? ⟨b,off+k,none⟩=some (.string x)) (by decide +kernel) (by decide +kernel) f ?_;simp only[List.cons_append,List.nil_append]
    repeat (refine dG rfl (fun K s=> ?_);unfold rd;go_simp;refine s _ (fun ad h1=> ?_) ?_;(· clear s K f;have f:=h1;unfold rd;go_simp);clear s K)
    have D:=aA (((aB wr.drew (.cells #[.string (x.extract 0 q)] 9)).cell (p:=⟨b,off+k,none⟩) o.o.2).trans f);clear f;refine bJ rfl (fun K1 d=> ?_);unfold mv;go_simp;refine d _ (World.alloc _ (.cells #[.string (x.extract 0 q)] 9)) (fun _=>D.o) ?_;clear d K1;refine bJ rfl (fun K1 d=> ?_);unfold mv;refine jA (base:=w.heap.size) aBj rV rfl (.tmp 18) (.tmp 30) rfl _ m rfl (HG.o.on rV (aC E.o (aB _ _))) wr.heap.size 1 _ _ _ (x.extract 0 q) rfl (aK _ _ _ rfl) ⟨rfl,by show (x.extract 0 q).size<=maxLen;rw[ByteArray.size_extract];have:=r.o.2.2;unfold maxLen at *;omega⟩ (qD U.o HN.o) qe (lT HB.o.size (aB _ _).size) ?_;intro P J A' c' w2 G y Z;have T:Hid (P=(l.take (k+1)).map OZ):=aA (by rw[J.o,HM.o,SW OZ h1,<-r.o.1,r.o.2.1];rfl);have S:=aA G;have Q:=aA (HG.o.below HB.o (ZK (aC E.o (aB _ _)) y) (lR _) HB.o.size);have R:=aA (World.cell?_of_block (a:=⟨b,off+k,none⟩) (y.block b (lL o.o.2 (aB _ _).size) (fun e=>o.o.1 e.symm))▸D.o);clear G y Z J;refine d _ _ (fun _=>R.o) ?_;clear d K1;refine bJ rfl (fun K1 d=> ?_);unfold mv;go_simp;refine d _ _ (fun h=>absurd h qe) ?_;clear d K1;unfold cJ;have q9:IntKind.i64.wrap ((k:Int)+1)=((k+1:Nat):Int):=by rw[IntWalk.i64_in _ (qA HN.o)];omega
    go_wp2;go_roundw
    case rel=>exact⟨k+1,P,qo,qo,by go_num,T,S,Q⟩
    case measure=>simp[intOf];omega
   .have d2:¬((k:Int)<(n:Int)):=qo;have X:L=m:=by
     rw[F.o,HM.o];unfold zJ;rw[show k=n by omega]
    exact QBM
  .have d1:¬((k:Int)<(l.length:Int)):=qo;have X:L=m:=by
    rw[F.o,HM.o];unfold zJ;rw[show k=l.length by omega,List.take_of_length_le (lR _),List.take_of_length_le qo]
   exact QBM
def sY(w0:World)(E D Q m n:Nat)(s:Sto)(w:World):Prop:=∃M K,nQ w E D M K Q m n s/\(∀b,M b->w0.heap.size<=b)/\Below w0.heap.size w0 w
theorem sY.on{w0:World}{E D Q m n:Nat}{s:Sto}{w w':World}(h:sY w0 E D Q m n s w)(a:Below w.heap.size w w'):sY w0 E D Q m n s w':=by
 obtain⟨M,K,h1,h2,h3⟩:=h;exact⟨M,K,h1.on a,h2,aC h3 a⟩
theorem sY.below{w0:World}{E D Q m n:Nat}{s:Sto}{w:World}(h:sY w0 E D Q m n s w):Below w0.heap.size w0 w:=by
 obtain⟨M,K,h1,h2,h3⟩:=h;exact h3
def aAK(w0:World)(E D Q m n:Nat)(s:Sto)(q:bY)(e:Ending)(w':World):Prop:=
 e=.returned (.string (dN s q.data.toList).2)/\∃a,sY w0 E D Q a (n+1) (dN s q.data.toList).1 w'/\m<=a/\a<=m+400+q.size/\(∀o,kQ q.data.toList=some o->(bO s o).2.2.2≠0->a=m)/\(kQ q.data.toList=none->a=m)
theorem Yi{w0:World}(p:Gl w0)(h6:6<=w0.heap.size){E D Q m n k:Nat}{s:Sto}{w:World}(h:sY w0 E D Q m n s w)(q:bY)(z:q.size<=100000)(f:jD k s)(c:k<=900000)(y:n<=800000)(o:m+400+q.size<=Q)(j:Q<=900000):
 Calls prog 5 #[.pointer (some ⟨E,0,none⟩),.string q] w (aAK w0 E D Q m n s q):=by
 obtain⟨M,K,h1,h2,h3⟩:=h;refine(YE E D Q m n k s q z w h1 (p.on h3) (fun b a=>qA (h2 b a)) f c y o j).mono ?_;rintro e w' ⟨rfl,d,K',A,g,i,C,l,r,t,v,x⟩;refine⟨rfl,A,⟨d,K',g,fun b a=>(i b a).elim (h2 b) (fun h=>qA h3.size),?_⟩,r,t,v,x⟩
 .exact((aJ (ok:=fun b=>b<w0.heap.size) h3).trans (l.mono fun b _ a hm=>by have:=h2 b hm;have F:b<w0.heap.size:=a;omega)).below (B:=w0.heap.size) (fun k c=>⟨c,c⟩)
theorem YF(Q:Nat)(g:Q<=900000)(w:World)(d:Gl w)(h6:6<=w.heap.size):Calls prog 4 #[.int .i64 Q] w fun e w'=>∃E D,e=.returned (.tuple #[.pointer (some ⟨E,0,none⟩),.pointer (some ⟨D,0,none⟩)])/\sY w E D Q 0 0 jG w':=by
 refine(SA Q qo w d h6).mono ?_;rintro e w' ⟨E,D,M,K,rfl,a,b,f,c⟩;exact⟨E,D,rfl,M,K,a,b,c⟩
theorem zK{w0:World}(j:Gl w0)(h6:6<=w0.heap.size){E D Q m n k:Nat}{s g:Sto}{a:bY}{w:World}(h:sY w0 E D Q m n s w)(q:bY)(l:lU)(c:q.data.toList=l)(f:dN s l=(g,a))(i:jD k s)(o:k<=900000)(p:n<=800000)(t:m+400+l.length<=Q)(r:Q<=200000)(d:Q<=90000\/l.length<=100000):
 Calls prog 5 #[.pointer (some ⟨E,0,none⟩),.string q] w fun e w'=>e=.returned (.string a)/\∃b,sY w0 E D Q b (n+1) g w'/\b<=m+400+l.length:=by
 have v:q.size=l.length:=by rw[<-c,Array.length_toList];rfl
 refine(Yi j h6 h q (by rcases d with d|d<;>omega) i o p qo qo).mono ?_;rintro e w' ⟨rfl,b,h1,h2,h3,-⟩;rw[c,f] at h1;rw[c,f];exact⟨rfl,b,h1,qo⟩
theorem YG:str "ok"=⟨#[111,107]⟩:=by kernel_rfl
theorem Yj:str "denied Deny"=⟨#[100,101,110,105,101,100,32,68,101,110,121]⟩:=by kernel_rfl
theorem Yk:str "ok 7"=⟨#[111,107,32,55]⟩:=by kernel_rfl
theorem aDw:(⟨#[97,110,110,32,110,101,119,32,99]⟩:bY).data.toList=eL "ann new c":=by kernel_rfl
theorem aDx:(⟨#[97,110,110,32,119,114,105,116,101,32,99,32,102,32,55]⟩:bY).data.toList=eL "ann write c f 7":=by kernel_rfl
theorem aDy:(⟨#[97,110,110,32,112,111,108,105,99,121,32,112,111,108,105,99,121,32,112,32,102,105,114,115,116,32,123,32,100,101,110,121,32,100,32,119,104,101,110,32,40,97,99,116,105,111,110,46,110,97,109,101,32,61,32,35,119,114,105,116,101,41,59,32,112,101,114,109,105,116,32,114,59,32,125]⟩:bY).data.toList=EO:=by kernel_rfl
theorem aDz:(⟨#[97,110,110,32,119,114,105,116,101,32,99,32,102,32,56]⟩:bY).data.toList=eL "ann write c f 8":=by kernel_rfl
theorem aDA:(⟨#[98,111,98,32,114,101,97,100,32,99,32,102]⟩:bY).data.toList=eL "bob read c f":=by kernel_rfl
theorem Aq:∃s1 s2 a b c,dN jG (eL "ann new c")=(s1,⟨#[111,107]⟩)/\dN s1 (eL "ann write c f 7")=(s2,⟨#[111,107]⟩)/\dN s2 EO=(a,⟨#[111,107]⟩)/\dN a (eL "ann write c f 8")=(b,⟨#[100,101,110,105,101,100,32,68,101,110,121]⟩)/\dN b (eL "bob read c f")=(c,⟨#[111,107,32,55]⟩):=
 ⟨sR.1,XR.1,XS.1,XT.1,Nj.1,by rw[<-YG,<-oN.1];rfl,by rw[<-YG,<-oN.2.1];rfl,by rw[<-YG,<-oN.2.2.1];rfl,by rw[<-Yj,<-oN.2.2.2.1];rfl,by rw[<-Yk,<-oN.2.2.2.2];rfl⟩
theorem GJ{k:Nat}{s b:Sto}{q:lU}{a:bY}(h:jD k s)(c:dN s q=(b,a)):jD (k+1) b:=by
 have:=h.line q;rw[c] at this;exact this
theorem On(w:World)(a:Gl w)(h6:6<=w.heap.size):Calls prog 10 #[] w (lN (.bool true) w):=by
 obtain⟨s1,s2,H,I,M,b,c,d,f,l⟩:=Aq;have o:=aA (YF 4000 qe w a h6);have g:=XQ;have i:=GJ g b;have j:=GJ i c;have k:=GJ j d;have n:=GJ k f;have y:=aA (fun E D m (hm:m<=0) w1 (h:sY w E D 4000 m 0 jG w1)=>zK a h6 h _ _ aDw b g qe qe (by rw[show (eL "ann new c").length=9 from rfl];omega) qe (.inl qe));have z:=aA (fun E D m (hm:m<=500) w1 (h:sY w E D 4000 m 1 s1 w1)=>zK a h6 h _ _ aDx c i qe qe (by rw[show (eL "ann write c f 7").length=15 from rfl];omega) qe (.inl qe));have A:=aA (fun E D m (hm:m<=1000) w1 (h:sY w E D 4000 m 2 s2 w1)=>zK a h6 h _ _ aDy d j qe qe (by rw[show EO.length=75 from rfl];omega) qe (.inl qe));have B:=aA (fun E D m (hm:m<=1500) w1 (h:sY w E D 4000 m 3 H w1)=>zK a h6 h _ _ aDz f k qe qe (by rw[show (eL "ann write c f 8").length=15 from rfl];omega) qe (.inl qe));have C:=aA (fun E D m (hm:m<=2000) w1 (h:sY w E D 4000 m 4 I w1)=>zK a h6 h _ _ aDA l n qe qe (by rw[show (eL "bob read c f").length=12 from rfl];omega) qe (.inl qe));unfold lN;clear a h6 b c d f l g i j k n;go_enter func10,ntmps10;go_wp2_with fail;refine o.o.mono ?_;rintro e w1 ⟨E,D,rfl,h⟩;have H1:=y.o E D 0 qe w1 h;have H1:=aA H1;clear h o;go_wp2_with fail;refine H1.o.mono ?_;rintro e w2 ⟨rfl,m2,h,hm⟩;have r:=aA (z.o E D m2 (by rw[show (eL "ann new c").length=9 from rfl] at hm;omega) w2 h);have F:=aA hm;clear h hm;go_wp2_with fail;refine r.o.mono ?_;rintro e J ⟨rfl,m3,h,hm⟩;have p:Hid (m3<=1000):=aA (by have h2:=F.o;rw[show (eL "ann new c").length=9 from rfl] at h2;rw[show (eL "ann write c f 7").length=15 from rfl] at hm;omega)
 have s:=aA (A.o E D m3 p.o J h);clear h hm;go_wp2_with fail;refine s.o.mono ?_;rintro e K ⟨rfl,m4,h,hm⟩;have q:Hid (m4<=1500):=aA (by have h2:=p.o;rw[show EO.length=75 from rfl] at hm;omega);have t:=aA (B.o E D m4 q.o K h);clear h hm;go_wp2_with fail;refine t.o.mono ?_;rintro e L ⟨rfl,m5,h,hm⟩;have G:Hid (m5<=2000):=aA (by have h2:=q.o;rw[show (eL "ann write c f 8").length=15 from rfl] at hm;omega);have v:=aA (C.o E D m5 G.o L h);clear h hm;go_wp2_with fail;refine v.o.mono ?_;rintro e N ⟨rfl,m6,h,hm⟩;have x:=aA h.below;clear h hm;go_wp2;go_ret;exact⟨rfl,x.o⟩
def Oo(w:World)(a:oD)(l:List ByteArray):Prop:=∀k (c:k<l.length),∃b off,a=some ⟨b,off,none⟩/\b<w.heap.size/\w.cell? ⟨b,off+k,none⟩=some (.string l[k])/\l[k].size<=maxLen
def JC(w0:World)(P:nP)(E D Q m n:Nat)(s:Sto)(w:World):Prop:=∃M K,nQ w E D M K Q m n s/\(∀b,M b->w0.heap.size<=b/\¬P b)/\(∀b,P b->b<w.heap.size)/\Below w0.heap.size w0 w
theorem sY.one{w0:World}{E D Q m n:Nat}{s:Sto}{w:World}(h:sY w0 E D Q m n s w):JC w0 (fun _=>False) E D Q m n s w:=by
 obtain⟨M,K,h1,h2,h3⟩:=h;exact⟨M,K,h1,fun b a=>⟨h2 b a,id⟩,fun b h=>h.elim,h3⟩
theorem JC.sub{w0:World}{P c:nP}{E D Q m n:Nat}{s:Sto}{w:World}(h:JC w0 P E D Q m n s w)(hp:∀b,c b->P b):JC w0 c E D Q m n s w:=by
 obtain⟨M,K,h1,h2,h3,h4⟩:=h;exact⟨M,K,h1,fun b a=>⟨(h2 b a).1,fun h=>(h2 b a).2 (hp b h)⟩,fun b a=>h3 b (hp b a),h4⟩
theorem JC.on{w0:World}{P:nP}{E D Q m n:Nat}{s:Sto}{w w':World}(h:JC w0 P E D Q m n s w)(a:Below w.heap.size w w'):JC w0 P E D Q m n s w':=by
 obtain⟨M,K,h1,h2,h3,h4⟩:=h;exact⟨M,K,h1.on a,h2,fun b hp=>lL (h3 b hp) a.size,aC h4 a⟩
theorem JC.grow{w0:World}{P:nP}{E D Q m n:Nat}{s:Sto}{w w':World}(h:JC w0 P E D Q m n s w)(a:Below w.heap.size w w'):JC w0 (fun b=>P b\/(w.heap.size<=b/\b<w'.heap.size)) E D Q m n s w':=by
 obtain⟨M,K,h1,h2,h3,h4⟩:=h;have c:∀b,M b->b<w.heap.size:=by
  obtain⟨J,base,vc,vr,vn,vo,vt,vu,vk,vb,la,lc,lu,h,ra,rc,ru,da,dc,bs,sy,H⟩:=h1;exact H.low
 exact⟨M,K,h1.on a,fun b hm=>⟨(h2 b hm).1,fun h=>h.elim (h2 b hm).2 (fun h=>qA (c b hm))⟩,fun b hp=>hp.elim (fun h=>lL (h3 b h) a.size) (fun h=>h.2),aC h4 a⟩
theorem own:ownKnob prog.godebug=none:=by kernel_rfl
theorem PA:laidOutB prog=true:=by kernel_rfl
end Go.Proofs.YthcgdgkpgdjahaaGreatDoor
