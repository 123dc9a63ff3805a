/- Lemmas. -/
import Derived.Test.YtbinmcabjnoliaaGreatDoorMbq
import Derived.Test.YtbinmcabjnoliaaGreatDoorMbr
namespace Go.Proofs.YtbinmcabjnoliaaGreatDoor
open Go.RowKit
set_option linter.unusedVariables false
set_option linter.unusedSimpArgs false
set_option maxHeartbeats 16000000
open _root_.Go.Proofs.Tryz
set_option maxRecDepth 20000
theorem Ti{p:Prop}(h:p:=by
 injection ho with ho;rw[<-ho];show b.text.size<=_;omega):p:=h
theorem Wf{l:lU}{o:Op}(h:kW l=some o):o.text.size<=l.length:=by
 rw[Av] at h;have h1:=(sI l).2;have h2:=(Aw (cN l).2).2;have h3:=(sI (jV (cN l).2).2.2).2;generalize (cN (jV (cN l).2).2.2).2=a at *;generalize oG (cN (jV (cN l).2).2.2).1=k at *;generalize e:Tg k (cN l).1 (jV (cN l).2).2.1 (jV (cN l).2).1=b at *;have g:b.text.size=0:=by rw[<-e];rfl
 have f:∀o,AW k b a=some o->o.text.size<=l.length:=by
  intro o ho;unfold AW at ho;split at ho
  .exact Ti
  split at ho
  .exact Ti
  split at ho
  .rcases d:oS (cN (cN a).2).2 with _|v
   .rw[d] at ho;cases ho
   .rw[d] at ho;injection ho with ho;rw[<-ho];show b.text.size<=_;omega
  split at ho
  .exact Ti
  split at ho
  .exact Ti
  split at ho
  .injection ho with ho;rw[<-ho];show (bs a).size<=_;rw[cH];omega
  .injection ho with ho;rw[<-ho];omega
 rcases c:AW k b a with _|x
 .rw[c] at h;cases h
 .rw[c] at h;unfold vI at h;dsimp only at h;split at h
  .injection h with h;rw[<-h];exact f x c
  .cases h
theorem sG.more{w:World}{E D:Nat}{M K:nP}{Q m n b:Nat}{s:Sto}(h:sG w E D M K Q m n s)(a:n<=b):sG w E D M K Q m b s:=by
 obtain⟨J,base,vc,vr,vn,vo,vt,vu,vk,vb,la,lc,lu,h,ra,rc,ru,da,dc,bs,sy,H⟩:=h;exact⟨J,base,vc,vr,vn,vo,vt,vu,vk,vb,la,lc,lu,h,ra,rc,ru,da,dc,bs,sy,{H with rows:=⟨lT H.rows.1 a,lT H.rows.2 a⟩}⟩
theorem sG.rep{w:World}{E D:Nat}{M K:nP}{Q m n:Nat}{s:Sto}(h:sG w E D M K Q m n s)(o:Op)(a:o.text.size<=1000000):NQ (cY s o).2.1:=by
 obtain⟨J,base,vc,vr,vn,vo,vt,vu,vk,vb,la,lc,lu,h,ra,rc,ru,da,dc,bs,sy,H⟩:=h;exact Qy H.sto o a
theorem pH{w w':World}{B:Nat}{o:Obj}(d:B<=w.heap.size)(c:aN (fun b=>b≠w.heap.size) (w.alloc o) w'):Below B w w':=
 ((aJ (ok:=fun b=>b<B) (aB w o)).trans (c.mono fun b _ e=>by show (_:Nat)≠_;omega)).below (B:=B) (fun k a=>⟨qo,a⟩)
def WR(E D:Nat)(M K:nP)(Q m n:Nat)(s:Sto)(q:bY)(w:World)(e:Ending)(w':World):Prop:=
 e=.returned (.string (eL s q.data.toList).2)/\∃(c K':nP) (a:Nat),sG w' E D c K' Q a (n+1) (eL s q.data.toList).1/\(∀b,c b->M b\/w.heap.size<=b)/\(∀b,K' b->K b\/w.heap.size<=b)/\aN (fun b=>¬M b) w w'/\m<=a/\a<=m+400+q.size/\(∀o,kW q.data.toList=some o->(cY s o).2.2.2≠0->a=m)/\(kW q.data.toList=none->a=m)
theorem QI{s:Sto}{q:lU}(h:kW q=none):eL s q=(s,Te):=by unfold eL;rw[h]
theorem QJ{s:Sto}{q:lU}{o:Op}(h:kW q=some o):eL s q=((cY s o).1,FG (cY s o).2.1):=by unfold eL;rw[h]
theorem WT{M K:nP}(E D Q m n k:Nat)(s:Sto)(q:bY)(N:q.size<=100000)(w:World)(Y:sG w E D M K Q m n s)(I:Gl w)(W:∀b,M b->6<=b)(U:mG k s)(hk:k<=900000)(hn:n<=800000)(Z:m+400+q.size<=Q)(X:Q<=900000):
 Calls prog 7 #[.pointer (some ⟨E,0,none⟩),.string q] w (WR E D M K Q m n s q w):=by
 obtain⟨S,G,R,d,HQ⟩:=gC (Lj q N w I) Y I (And.intro W (And.intro U (And.intro hk (And.intro hn (And.intro Z X))))) N;obtain⟨F,H⟩:=xE (WR E D M K Q m n s q w);rw[<-H];have P:=aA H;clear Y I W U hk hn Z X N H;go_enter func7,ntmps7;go_wp2_with fail;refine S.o.mono ?_;rintro e w1 ⟨aa,rfl,a⟩;have p:=aA a;have r:=aA aa;clear a aa;obtain⟨OP,z⟩:=xE (kW q.data.toList);rw[<-z] at r;rw[<-z];have f:=aA z;clear z S
 rcases OP with _|o
 .have i:=aA (QI (s:=s) f.o.symm);have ad:=f;clear r;unfold fF cB;dsimp only[Option.isSome,Option.getD];go_upto_region 2 with (refine eI rfl _ (.tmp 5) (.tmp 10) rfl w1.heap.size _ rfl rfl _ _ (aK _ _ _ rfl) (by kernel_rfl) rfl (by simp[Value.oneCell']) ?_;intro w2 v j)
  have c:=qB p (pH (lR _) j.o);clear v j p;go_wp2;have C:=P.o;subst C;refine⟨by rw[i.o];rfl,M,K,m,?_,fun b a=> .inl a,fun b a=> .inl a,(aJ c.o).mono (fun b a _=>a),lR _,qo,fun o L=>absurd (ad.o.trans L) qs,fun _=>rfl⟩;rw[i.o];exact(G.o.on c.o).more (Nat.le_succ n)
 .have HG:=aA (r.o o rfl);have i:=aA (QJ (s:=s) f.o.symm);unfold fF cB;dsimp only[Option.isSome,Option.getD];go_upto_region 2 with (refine eI rfl _ (.tmp 5) (.tmp 10) rfl w1.heap.size _ rfl rfl _ _ (aK _ _ _ rfl) (by kernel_rfl) rfl (by simp[Value.oneCell']) ?_;intro w2 v j)
  have c:=qB p (pH (lR _) j.o);clear j p r;obtain⟨⟨b0,b1,b2,b3,b4,b5,b6,b7,b8,b9,af,ag⟩,-⟩:=bO v.o;have zb:=aD v.o;have ab:o.text.size<=q.size:=by have:=Wf f.o.symm;rwa [Array.length_toList] at this
  have T:=aA ab;have g:=Vx E D Q m n k s o HG.o w2 (G.o.on c.o) ((R.o.on c.o).aDQ) d.o.2.1 d.o.2.2.1 d.o.2.2.2.1 (qA d.o.2.2.2.2.1) d.o.2.2.2.2.2;unfold fF cB at g;have g:=aA g;clear ab;go_wp2_with fail;refine g.o.mono ?_;rintro e w3 ⟨rfl,M',K',m',V,y,x,l,A,J,B⟩;obtain⟨HE,ae,t⟩:=aY V (And.intro y (And.intro x (And.intro l (And.intro A (And.intro J B))))) (G.o.rep o (qD T.o HQ.o));have HA:=aA (Fb (cY s o).2.1 t.o.mark t.o.val t.o.err t.o.at_ w3 ((R.o.on c.o).stay l (fun b a h=>qA (d.o.1 b h))));clear V y x l A J B g b0 b1 b2 b3 b4 b5 b6 b7 b8 b9 af ag zb;go_wp2_with fail;refine HA.o.mono ?_;rintro e w4 ⟨rfl,a⟩;have O:=aA a;clear a;go_wp2;have C:=P.o;subst C;obtain⟨y,x,l,A,J,B⟩:=ae.o;have hz:=c.o.size;refine⟨by rw[i.o];rfl,M',K',m',?_,fun b a=>(y b a).imp id (fun h=>by omega),fun b a=>(x b a).imp id (fun h=>by omega),?_,A,qA T.o,fun o' L ah=> ?_,fun ai=>absurd (f.o.trans ai) qs⟩
  .rw[i.o];exact HE.o.on O.o
  .exact((aJ c.o).mono (fun b a _=>a)).trans (l.trans ((aJ O.o).mono (fun b a _=>a)))
  .have h1:=f.o.trans L;injection h1 with h1;subst h1;exact B ah
theorem Ff(w:World):Calls prog 48 #[(Value.slice none 0 0)] w fun e w'=>e=.returned (Value.slice none 0 0)/\w'=w:=by
 have heq:=Lib.run_eql_slice_nil (P:=prog) w 83 5 none 0 0 0 0 underlying83;go_enter func48,ntmps48;go_wp2;go_ret;exact⟨rfl,rfl⟩
theorem Fg(w:World):Calls prog 79 #[(Value.slice none 0 0)] w fun e w'=>e=.returned (.tuple #[(Value.slice none 0 0),.bool false])/\w'=w:=by
 go_enter func79,ntmps79;go_wp2;go_ret2
 exact⟨rfl,rfl⟩
theorem Qz(w:World):Calls prog 42 #[(Value.slice none 0 0)] w fun e w'=>e=.returned (.tuple #[(Value.slice none 0 0),.int .i64 0])/\w'=w:=by
 have a:=aA (Fg w);go_enter func42,ntmps42;go_wp2;go_loopw [4,5] (fun v i wr=>v=(Value.slice none 0 0)/\i=.int .i64 0/\wr=w) (fun _ _ _=>0)
 case atStart=>exact⟨rfl,rfl,rfl⟩
 case round=>
  obtain⟨rfl,rfl,rfl⟩:=hrel;go_wp2_with fail;refine a.o.mono ?_;rintro e w1 ⟨rfl,rfl⟩;go_wp2;go_ret2
  exact⟨rfl,rfl⟩
theorem YV(Q:Nat)(a:Q<=1000000)(w:World):Calls prog 13 #[.int .i64 Q] w fun e w'=>e=.returned (.tuple #[.pointer (some ⟨w.heap.size,0,none⟩),.int .i64 0])/\w'=w.alloc (oV Q none 0 0 0):=by
 have d1:¬((Q:Int)<0):=qo;have d2:¬((1048576:Int)<(Q:Int)):=qo;go_enter func13,ntmps13;go_wp2;go_ret2
 exact⟨rfl,rfl⟩
theorem Lw(D Q:Nat)(sy:Int)(w:World)(h:w.heap[D]? =some (oV Q none 0 0 sy)):Calls prog 43 #[.pointer (some ⟨D,0,none⟩)] w fun e w'=>e=.returned (Value.slice none 0 0)/\w'=w:=by
 obtain⟨⟨d0,d1,d2,d3,d4⟩,_⟩:=cP h;have b:=aD h;have a:=aA (Ff w);clear h;go_enter func43,ntmps43;go_wp2_with fail;refine a.o.mono ?_;rintro e w1 ⟨rfl,rfl⟩;go_wp2;go_ret;exact⟨rfl,rfl⟩
theorem Ra(D Q m b:Nat)(a:oD)(sy:Int)(w:World)(h:w.heap[D]? =some (oV Q a m b sy)):Calls prog 44 #[.pointer (some ⟨D,0,none⟩)] w fun e w'=>e=.returned (.int .i64 m)/\w'=w:=by
 obtain⟨⟨d0,d1,d2,d3,d4⟩,_⟩:=cP h;have c:=aD h;clear h;go_enter func44,ntmps44;go_wp2;go_ret;exact⟨rfl,rfl⟩
theorem Lx(D Q:Nat)(w:World)(h:w.heap[D]? =some (oV Q none 0 0 0)):Calls prog 20 #[.pointer (some ⟨D,0,none⟩)] w fun e w'=>∃J,w.heap.size<=J/\e=.returned (.tuple #[.pointer (some ⟨J,0,none⟩),.int .i64 0])/\w'.heap[J]? =some (DJ D (Value.slice none 0 0))/\w'.heap[D]? =some (oV Q none 0 0 0)/\J<w'.heap.size/\aN (fun b=>b≠D) w w':=by
 obtain⟨c,a,d,g⟩:=dG (Lw D Q 0 w h) (Ra D Q 0 0 none 0 w h) (Qz w) (OJ D Q 0 0 none 0 w h);have j:=aD h;have l:=aA j;clear h j;go_enter func20,ntmps20;go_wp2_with fail;refine c.o.mono ?_;rintro e w1 ⟨rfl,rfl⟩;go_wp2_with fail;refine d.o.mono ?_;rintro e w1 ⟨rfl,rfl⟩;go_wp2_with fail;refine a.o.mono ?_;rintro e w1 ⟨rfl,rfl⟩;go_wp2_with fail;refine g.o.mono ?_;rintro e w2 ⟨rfl,h2,i⟩;have k:=aA h2;have f:=aA i;clear h2 i c a d g;go_wp2;go_ret2
 have m:=f.o.size;have n:=l.o;exact⟨w2.heap.size,m,rfl,aK _ _ _ rfl,aE k.o (aB _ _),qs,f.o.trans (aJ (aB w2 _))⟩
theorem Ly(J D:Nat)(w:World)(h:w.heap[J]? =some (DJ D (Value.slice none 0 0))):Calls prog 22 #[.pointer (some ⟨J,0,none⟩)] w fun e w'=>e=.returned (Value.slice none 0 0)/\w'=w:=by
 obtain⟨⟨d0,d1,d2⟩,_⟩:=cE h;have a:=aD h;clear h;go_enter func22,ntmps22;go_wp2;go_loopw [3,11] (fun v i wr=>v=(Value.slice none 0 0)/\i=.int .i64 0/\wr=w) (fun _ _ _=>0)
 case atStart=>exact⟨rfl,rfl,rfl⟩
 case round=>
  obtain⟨rfl,rfl,rfl⟩:=hrel;go_wp2;go_ret;exact⟨rfl,rfl⟩
theorem Mb:wU=⟨#[112,111,108,105,99,121,32,111,112,101,110,32,112,101,114,109,105,116,117,110,108,101,115,115,32,123,32,125]⟩:=by kernel_rfl
def NS(w:World)(e:Ending)(w':World):Prop:=∃vc vr vn vo vt vu vk vb,e=.returned (.agg (aV mQ vc vr vn vo vt vu vk vb))/\eZ w' (fun b=>w.heap.size<=b) mQ vc vr vn vo vt vu vk vb/\Below w.heap.size w w'
theorem Wg(w:World)(p:gV w):Calls prog 21 #[] w (NS w):=by
 obtain⟨W0,f⟩:=xE (w.alloc DZ);have g:Below w.heap.size w W0:=by rw[f];exact aB _ _
 have R:Hid (W0.heap[w.heap.size]? =some DZ):=aA (by rw[f];exact aK _ _ _ rfl);have c:=sB wU W0 (p.on g);unfold vE at c;obtain⟨P,i⟩:=xE (fD wU);rw[<-i] at c;rw[Mb] at c;have t:Hid (mQ=⟨0,[],[],[],[],P.1,0⟩):=aA (by rw[i];rfl);obtain⟨c,r,o⟩:=aY c g f;clear g f i p;unfold NS;rw[t.o];go_enter func21,ntmps21;go_upto_region 1 with (fail)
 rw[<-o.o];go_wp2_with fail;refine c.o.mono ?_;rintro e w1 ⟨v,rfl,⟨vt,vr,vk,vo,rfl,hp⟩,a⟩;obtain⟨G,H,rfl,-⟩:=hp.2.2.1.slice;obtain⟨ra,rc,rfl,-⟩:=hp.2.2.2.1.slice;obtain⟨C,D,rfl,-⟩:=hp.2.2.2.2.1.slice;obtain⟨E,F,rfl,-⟩:=hp.2.2.2.2.2.slice;obtain⟨z,s,j⟩:=aY hp a (aE R.o a);clear hp a;go_upto_region 2 with (refine eI rfl _ (.tmp 1) (.tmp 6) rfl w1.heap.size _ rfl rfl _ _ (aK _ _ _ rfl) (by kernel_rfl) rfl (by simp[Value.oneCell']) ?_;intro w2 l m)
 have d:=aA (pH (lR _) m.o);have I:=aA (aD j.o);have A:=aA (z.o.aC0 (aJ d.o));have x:=qK j d.o;obtain⟨⟨T,U,V,W,X,p5,p6⟩,-⟩:=bJ l.o;have Z:=aD l.o;clear m;go_wp2_with (refine eI rfl _ (.tmp 0) (.tmp 10) rfl w.heap.size _ rfl rfl _ _ x.o (by kernel_rfl) rfl (by simp[Value.oneCell']) ?_;intro Y y n)
 obtain⟨⟨a0,J,a2,a3,a4,a5,M,N,O,a9,K,L,a12⟩,-⟩:=bT y.o;refine bR (.agg #[.int .i64 0,.slice none 0 0,.slice none 0 0,.slice none 0 0,.slice none 0 0,.string P.1.id,.bool P.1.set,.int .i64 P.1.alg,.slice G P.1.aC1.length H,.slice ra P.1.aCT.length rc,.slice C P.1.aC5.length D,.slice E P.1.aC7.length F,.int .i64 0]) ?_;have Q:w.heap.size<W0.heap.size:=by rw[o.o];simp
 have S:=d.o.size;exact⟨_,_,_,_,_,_,_,_,rfl,⟨WQ,WQ,aH.nil,aH.nil,aH.nil,aH.nil,(A.o.aC0 (n.o.mono (fun b _ a=>by have:W0.heap.size<=b:=a;show b≠w.heap.size;omega))).more (fun b a=>by have:W0.heap.size<=b:=a;omega),IQ,IQ,IQ⟩,((aJ (ok:=fun b=>b<w.heap.size) (aC r.o (aC s.o d.o))).trans (n.o.mono (fun b _ a=>by have:b<w.heap.size:=a;show b≠w.heap.size;omega))).below (B:=w.heap.size) (fun k q=>⟨q,q⟩)⟩
theorem gV.far{w w':World}{D:Nat}(h:gV w)(a:aN (fun b=>b≠D) w w')(c:6<=D):gV w':=h.stay a (by show 2≠D;omega)
def QK(D Q:Nat)(w:World)(e:Ending)(w':World):Prop:=∃(E J:Nat) (K:nP),e=.returned (.tuple #[.pointer (some ⟨E,0,none⟩),.int .i64 0])/\sG w' E D (fun b=>b=E\/b=J\/b=D) K Q 0 0 mQ/\w.heap.size<=E/\w.heap.size<=J/\(∀b,K b->w.heap.size<=b)/\aN (fun b=>b≠D) w w'
theorem Mc(D Q:Nat)(w:World)(h:w.heap[D]? =some (oV Q none 0 0 0))(k:gV w)(p:6<=D):Calls prog 14 #[.pointer (some ⟨D,0,none⟩)] w (QK D Q w):=by
 obtain⟨o,z,A,y⟩:=dG (Lx D Q w h) (aD h) k p;obtain⟨S,s⟩:=xE mQ;have g:=aA (fun w1 (k:gV w1)=>Wg w1 k);unfold NS at g;unfold QK;rw[<-s] at g ⊢;clear h k p s;go_enter func14,ntmps14;go_wp2_with fail;refine o.o.mono ?_;rintro e w1 ⟨J,q,rfl,hj,t,r,m⟩;have n:=aA (g.o w1 (A.o.far m y.o));have H1:=aA (And.intro q (And.intro hj (And.intro t (And.intro r m))));clear q hj t r m o g;go_wp2_with fail;refine n.o.mono ?_;rintro e w2 ⟨vc,vr,vn,vo,vt,vu,vk,vb,rfl,x,a⟩;have B:=aA x;have f:=aA a;have c:=Ly J D (w2.alloc (oZ J S vc vr vn vo vt vu vk vb (.slice none 0 0) 0)) (aE (aE H1.o.2.1 a) (aB _ _));have v:n64 0=0:=rfl;unfold oZ at c;rw[v] at c;have c:=aA c;unfold aV;clear x a n v;go_wp2_with fail;refine c.o.mono ?_;rintro e L ⟨rfl,rfl⟩;clear c;obtain⟨E,d⟩:=xE (w2.alloc (oZ J S vc vr vn vo vt vu vk vb (.slice none 0 0) 0));have l:=aA d;unfold oZ at d;rw[show n64 0=0 from rfl] at d;rw[<-d];clear d;go_wp2;go_loopw [30] (fun i wr=>i=.int .i64 0/\wr=E) (fun _ _=>0)
 case atStart=>exact⟨rfl,rfl⟩
 case round=>
  obtain⟨rfl,rfl⟩:=hrel;go_wp2;go_ret2
  have j:Below w2.heap.size w2 wr:=by rw[l.o];exact aB _ _
  have K:wr.heap.size=w2.heap.size+1:=by rw[l.o];simp
  have H:=H1.o.2.2.2.2.size;have I:=f.o.size;have G:=z.o;have C:=H1.o.1;have F:=H1.o.2.2.2.1;refine⟨w2.heap.size,J,(fun b=>w1.heap.size<=b/\b<w2.heap.size),rfl,⟨J,wr.heap.size,vc,vr,vn,vo,vt,vu,vk,vb,none,0,[],0,none,0,[],none,0,[],0,?_⟩,qo,C,fun b a=>by omega,(H1.o.2.2.2.2.trans (aJ f.o)).trans (aJ j)⟩;exact {
   eng:=by rw[l.o];exact aK _ _ _ rfl
   jou:=aE (aE H1.o.2.1 f.o) j
   dsk:=aE (aE H1.o.2.2.1 f.o) j
   sto:=B.o.inb.aC0 (aJ j)
   log:=aM.nil
   aDL:=aM.nil
   byt:=gY.nil
   len:=rfl
   lts:=⟨qo,qo,qo,lR _⟩
   nes:=⟨qo,qo,qo⟩
   mem:=⟨.inl rfl,.inr (.inl rfl),.inr (.inr rfl)⟩
   aDE:=fun b a=>by simp[Value.ownBlock] at a
   aDD:=fun b a=>by simp[Value.ownBlock] at a
   kept:=fun b a=>⟨fun h=>by rcases h with h|h|h<;>omega,qo⟩
   low:=fun b a=>by rcases a with h|h|h<;>omega
   rows:=⟨lR _,lR _⟩}
def QL(Q:Nat)(w:World)(e:Ending)(w':World):Prop:=∃(E D:Nat) (M K:nP),e=.returned (.tuple #[.pointer (some ⟨E,0,none⟩),.pointer (some ⟨D,0,none⟩)])/\sG w' E D M K Q 0 0 mQ/\(∀b,M b->w.heap.size<=b)/\(∀b,K b->w.heap.size<=b)/\Below w.heap.size w w'
theorem Md(Q:Nat)(t:Q<=1000000)(w:World)(o:Gl w)(h6:6<=w.heap.size):Calls prog 4 #[.int .i64 Q] w (QL Q w):=by
 have i:=aA (YV Q t w);obtain⟨W0,c⟩:=xE (w.alloc (oV Q none 0 0 0));have j:Below w.heap.size w W0:=by rw[c];exact aB _ _
 have n:=aA (Mc w.heap.size Q W0 (by rw[c];exact aK _ _ _ rfl) (o.on j).aDQ h6);have s:Hid (W0.heap.size=w.heap.size+1):=aA (by rw[c];simp);have q:=aA j;rw[<-c] at i;clear j c o h6;unfold QL;go_enter func4,ntmps4;go_wp2_with fail;refine i.o.mono ?_;rintro e w1 ⟨rfl,rfl⟩;go_wp2_with fail;refine n.o.mono ?_;rintro e w2 ⟨E,J,K,rfl,d,l,m,f,g⟩;have r:=aA (And.intro d (And.intro l (And.intro m (And.intro f g))));clear d l m f g n i;go_wp2;go_ret2
 obtain⟨d,l,m,f,g⟩:=r.o;have v:=s.o;exact⟨E,w.heap.size,_,K,rfl,d,fun b a=>by rcases a with h|h|h<;>omega,fun b a=>qA (f b a),((aJ (ok:=fun b=>b<w.heap.size) q.o).trans (g.mono (fun b _ a=>by have:b<w.heap.size:=a;show b≠w.heap.size;omega))).below (B:=w.heap.size) (fun k p=>⟨p,p⟩)⟩
theorem QBN{p:Prop}(h:p:=by
 have HV:=aA ((HG.o.sl (by rw[HM.o,List.length_map,List.length_take];have:=HN.o;omega) (fun b=>w.heap.size<=b) (fun b h _=>h.elim) (fun b h _=>h) vP));go_wp2;go_ret;exact⟨_,rfl,HV.o,HB.o⟩):p:=h
def Rb:Rep ByteArray:=mJ (fun s=>[.string s]) (fun s=>s.size<=maxLen)
theorem vP:Firm Rb 1:=gD (fun _=>rfl) (fun x v h=>by simp only[List.mem_cons,List.not_mem_nil,or_false] at h;rw[h];rfl)
theorem aAo:dV prog 22 9 1 16:=fQ (z:= .string ByteArray.empty) underlying22 (by kernel_rfl) rfl qe
def NT(s:bY):ByteArray:=s.extract 0 (min s.size 600)
theorem Me(s:bY):(NT s).size<=600:=by unfold NT;rw[ByteArray.size_extract];omega
def yZ(l:List ByteArray)(n:Nat):List ByteArray:=(l.take n).map NT
def QM(L:List ByteArray)(w:World)(e:Ending)(w':World):Prop:=∃v,e=.returned v/\aH Rb w' (fun b=>w.heap.size<=b) v L/\Below w.heap.size w w'
theorem RN{α β:Type}(f:α->β){l:List α}{k:Nat}(h:k<l.length):(l.take (k+1)).map f=(l.take k).map f++[f l[k]]:=by
 rw[List.take_add_one,gE h,Option.toList_some,List.map_append];rfl
theorem Zg{α:Type}{R:Rep α}{s:Nat}{e:TypeId}{w:World}{base:Nat}{ok:nP}{v:Value}{l:List α}(h:aM R s e w base ok v l){b:Nat}(a:v.ownBlock=some b):base<=b/\b<w.heap.size:=h.lt b a
theorem Mf{ok:nP}(a:oD)(c:Nat)(l:List ByteArray)(J:l.length<=maxLen)(n:Nat)(O:n<=1000)(w:World)(h:∀k (hk:k<l.length),∃b off,a=some ⟨b,off,none⟩/\b<w.heap.size/\w.cell? ⟨b,off+k,none⟩=some (.string l[k])/\l[k].size<=maxLen):Calls prog 5 #[.slice a l.length c,.int .i64 n] w (QM (yZ l n) w):=by
 obtain⟨W,HL,HN⟩:=aY h J O;obtain⟨L,y⟩:=xE (yZ l n);rw[<-y];have G:=aA y;unfold QM;clear h y O J;go_enter func5,ntmps5;go_wp2;go_loopw [5,6] (fun v i wr=>∃(k:Nat) (m:List ByteArray),k<=n/\k<=l.length/\i=.int .i64 k/\Hid (m=(l.take k).map NT)/\Hid (aM Rb 1 9 wr w.heap.size (fun _=>False) v m)/\Hid (Below w.heap.size w wr)) (fun _ i _=>n - (intOf i).toNat)
 case atStart=>exact⟨0,[],qo,qo,rfl,aA rfl,aA aM.nil,aA (Below.refl _ _)⟩
 case round=>
  obtain⟨k,m,ad,ab,rfl,HM,HG,HB⟩:=hrel;obtain⟨A,X,rfl⟩:=HG.o.slice;by_cases h1:k<l.length
  .have d1:(k:Int)<(l.length:Int):=qo;by_cases h2:k<n
   .have d2:(k:Int)<(n:Int):=qo;obtain⟨b,off,rfl,j,o,D⟩:=W.o k h1;have N:m.length=k:=by rw[HM.o,List.length_map,List.length_take];omega
    have V:=aA N;obtain⟨x,C⟩:=xE (l[k]);rw[<-C] at o D;have Z:min (x.size:Int) 600=((min x.size 600:Nat):Int):=qo;obtain⟨q,B⟩:=xE (min x.size 600);rw[<-B] at Z;have q1:(0:Int)<=(q:Int):=qo;have q2:(q:Int)<=(x.size:Int):=qo;have s:=aA (And.intro C (And.intro B D));have HC:=aA (And.intro j o);have i0:(0:Int)<=(k:Int):=qo;have i1:(k:Int)<(l.length:Int):=d1;clear N C B D;go_upto_region 5 with (fail)
    have F:Hid (Below wr.heap.size wr wr.drew):=aA (Below.refl _ _).drew;have I:b<wr.heap.size:=lL j HB.o.size;have g:wr.drew.cell? ⟨b,off+k,none⟩=some (.string x):=(HB.o.cell (p:=⟨b,off+k,none⟩) j).trans o;have P:(Value.slice A m.length X).ownBlock≠some b:=fun e=>by
     have:=(Zg HG.o e).1;omega
    have r:=aA (And.intro P I);clear j o P I;refine cA 14 [(0,false),(1,false),(2,false),(3,false),(4,false),(5,false),(6,false),(7,false),(8,false),(9,false),(10,false),(11,false),(12,true),(13,true)] [(14,true)] (fun w'=>w'.cell? ⟨b,off+k,none⟩=some (.string x)) (by decide +kernel) (by decide +kernel) g ?_;simp only[List.cons_append,List.nil_append]
    repeat (refine cU rfl (fun K t=> ?_);unfold rd;go_simp;refine t _ (fun ae h1=> ?_) ?_;(· clear t K g;have g:=h1;unfold rd;go_simp);clear t K)
    have E:=aA (((aB wr.drew (.cells #[.string (x.extract 0 q)] 9)).cell (p:=⟨b,off+k,none⟩) r.o.2).trans g);clear g;refine bG rfl (fun f d=> ?_);unfold mv;go_simp;refine d _ (World.alloc _ (.cells #[.string (x.extract 0 q)] 9)) (fun _=>E.o) ?_;clear d f;refine bG rfl (fun f d=> ?_);unfold mv;refine iX (base:=w.heap.size) aAo vP rfl (.tmp 18) (.tmp 30) rfl _ m rfl (HG.o.on vP (aC F.o (aB _ _))) wr.heap.size 1 _ _ _ (x.extract 0 q) rfl (aK _ _ _ rfl) ⟨rfl,by show (x.extract 0 q).size<=maxLen;rw[ByteArray.size_extract];have:=s.o.2.2;unfold maxLen at *;omega⟩ (qD V.o HN.o) qe (lT HB.o.size (aB _ _).size) ?_;intro Q M A' c' w2 H z aa;have U:Hid (Q=(l.take (k+1)).map NT):=aA (by rw[M.o,HM.o,RN NT h1,<-s.o.1,s.o.2.1];rfl);have T:=aA H;have R:=aA (HG.o.below HB.o (XX (aC F.o (aB _ _)) z) (lR _) HB.o.size);have S:=aA (World.cell?_of_block (a:=⟨b,off+k,none⟩) (z.block b (lL r.o.2 (aB _ _).size) (fun e=>r.o.1 e.symm))▸E.o);clear H z aa M;refine d _ _ (fun _=>S.o) ?_;clear d f;refine bG rfl (fun f d=> ?_);unfold mv;go_simp;refine d _ _ (fun h=>absurd h qe) ?_;clear d f;unfold cG;have q9:IntKind.i64.wrap ((k:Int)+1)=((k+1:Nat):Int):=by rw[IntWalk.i64_in _ (qA HN.o)];omega
    go_wp2;go_roundw
    case rel=>exact⟨k+1,Q,qo,qo,by go_num,U,T,R⟩
    case measure=>simp[intOf];omega
   .have d2:¬((k:Int)<(n:Int)):=qo;have Y:L=m:=by
     rw[G.o,HM.o];unfold yZ;rw[show k=n by omega]
    exact QBN
  .have d1:¬((k:Int)<(l.length:Int)):=qo;have Y:L=m:=by
    rw[G.o,HM.o];unfold yZ;rw[show k=l.length by omega,List.take_of_length_le (lR _),List.take_of_length_le qo]
   exact QBN
def sL(a:World)(E D Q m n:Nat)(s:Sto)(w:World):Prop:=∃M K,sG w E D M K Q m n s/\(∀b,M b->a.heap.size<=b)/\Below a.heap.size a w
theorem sL.on{b:World}{E D Q m n:Nat}{s:Sto}{w w':World}(h:sL b E D Q m n s w)(a:Below w.heap.size w w'):sL b E D Q m n s w':=by
 obtain⟨M,K,h1,h2,h3⟩:=h;exact⟨M,K,h1.on a,h2,aC h3 a⟩
theorem sL.below{a:World}{E D Q m n:Nat}{s:Sto}{w:World}(h:sL a E D Q m n s w):Below a.heap.size a w:=by
 obtain⟨M,K,h1,h2,h3⟩:=h;exact h3
def Zh(b:World)(E D Q m n:Nat)(s:Sto)(q:bY)(e:Ending)(w':World):Prop:=
 e=.returned (.string (eL s q.data.toList).2)/\∃a,sL b E D Q a (n+1) (eL s q.data.toList).1 w'/\m<=a/\a<=m+400+q.size/\(∀o,kW q.data.toList=some o->(cY s o).2.2.2≠0->a=m)/\(kW q.data.toList=none->a=m)
theorem Wh{a:World}(r:Gl a)(h6:6<=a.heap.size){E D Q m n k:Nat}{s:Sto}{w:World}(h:sL a E D Q m n s w)(q:bY)(A:q.size<=100000)(g:mG k s)(d:k<=900000)(z:n<=800000)(p:m+400+q.size<=Q)(l:Q<=900000):
 Calls prog 7 #[.pointer (some ⟨E,0,none⟩),.string q] w (Zh a E D Q m n s q):=by
 obtain⟨M,K,h1,h2,h3⟩:=h;refine(WT E D Q m n k s q A w h1 (r.on h3) (fun b c=>qA (h2 b c)) g d z p l).mono ?_;rintro e w' ⟨rfl,f,K',C,i,j,F,o,t,v,x,y⟩;refine⟨rfl,C,⟨f,K',i,fun b c=>(j b c).elim (h2 b) (fun h=>qA h3.size),?_⟩,t,v,x,y⟩
 .exact((aJ (ok:=fun b=>b<a.heap.size) h3).trans (o.mono fun b _ c hm=>by have:=h2 b hm;have G:b<a.heap.size:=c;omega)).below (B:=a.heap.size) (fun k d=>⟨d,d⟩)
theorem WU(Q:Nat)(g:Q<=900000)(w:World)(d:Gl w)(h6:6<=w.heap.size):Calls prog 4 #[.int .i64 Q] w fun e w'=>∃E D,e=.returned (.tuple #[.pointer (some ⟨E,0,none⟩),.pointer (some ⟨D,0,none⟩)])/\sL w E D Q 0 0 mQ w':=by
 refine(Md Q qo w d h6).mono ?_;rintro e w' ⟨E,D,M,K,rfl,a,b,f,c⟩;exact⟨E,D,rfl,M,K,a,b,c⟩
theorem zD{c:World}(o:Gl c)(h6:6<=c.heap.size){E D Q m n k:Nat}{s i:Sto}{a:bY}{w:World}(h:sL c E D Q m n s w)(q:bY)(l:lU)(d:q.data.toList=l)(g:eL s l=(i,a))(j:mG k s)(p:k<=900000)(r:n<=800000)(v:m+400+l.length<=Q)(t:Q<=200000)(f:Q<=90000\/l.length<=100000):
 Calls prog 7 #[.pointer (some ⟨E,0,none⟩),.string q] w fun e w'=>e=.returned (.string a)/\∃b,sL c E D Q b (n+1) i w'/\b<=m+400+l.length:=by
 have x:q.size=l.length:=by rw[<-d,Array.length_toList];rfl
 refine(Wh o h6 h q (by rcases f with f|f<;>omega) j p r qo qo).mono ?_;rintro e w' ⟨rfl,b,h1,h2,h3,-⟩;rw[d,g] at h1;rw[d,g];exact⟨rfl,b,h1,qo⟩
theorem WV:str "ok"=⟨#[111,107]⟩:=by kernel_rfl
theorem Wi:str "denied Deny"=⟨#[100,101,110,105,101,100,32,68,101,110,121]⟩:=by kernel_rfl
theorem Wj:str "ok 7"=⟨#[111,107,32,55]⟩:=by kernel_rfl
theorem aCB:(⟨#[97,110,110,32,110,101,119,32,99]⟩:bY).data.toList=fA "ann new c":=by kernel_rfl
theorem aCC:(⟨#[97,110,110,32,119,114,105,116,101,32,99,32,102,32,55]⟩:bY).data.toList=fA "ann write c f 7":=by kernel_rfl
theorem aCD:(⟨#[97,110,110,32,112,111,108,105,99,121,32,112,111,108,105,99,121,32,112,32,102,105,114,115,116,32,123,32,100,101,110,121,32,100,32,119,104,101,110,32,40,97,99,116,105,111,110,46,110,97,109,101,32,61,32,35,119,114,105,116,101,41,59,32,112,101,114,109,105,116,32,114,59,32,125]⟩:bY).data.toList=DY:=by kernel_rfl
theorem aCE:(⟨#[97,110,110,32,119,114,105,116,101,32,99,32,102,32,56]⟩:bY).data.toList=fA "ann write c f 8":=by kernel_rfl
theorem aCF:(⟨#[98,111,98,32,114,101,97,100,32,99,32,102]⟩:bY).data.toList=fA "bob read c f":=by kernel_rfl
theorem YW:∃s1 s2 a b c,eL mQ (fA "ann new c")=(s1,⟨#[111,107]⟩)/\eL s1 (fA "ann write c f 7")=(s2,⟨#[111,107]⟩)/\eL s2 DY=(a,⟨#[111,107]⟩)/\eL a (fA "ann write c f 8")=(b,⟨#[100,101,110,105,101,100,32,68,101,110,121]⟩)/\eL b (fA "bob read c f")=(c,⟨#[111,107,32,55]⟩):=
 ⟨WB.1,WC.1,WE.1,WG.1,Ld.1,by rw[<-WV,<-qH.1];rfl,by rw[<-WV,<-qH.2.1];rfl,by rw[<-WV,<-qH.2.2.1];rfl,by rw[<-Wi,<-qH.2.2.2.1];rfl,by rw[<-Wj,<-qH.2.2.2.2];rfl⟩
theorem FL{k:Nat}{s b:Sto}{q:lU}{a:bY}(h:mG k s)(c:eL s q=(b,a)):mG (k+1) b:=by
 have:=h.line q;rw[c] at this;exact this
theorem Mg(w:World)(a:Gl w)(h6:6<=w.heap.size):Calls prog 12 #[] w (lD (.bool true) w):=by
 obtain⟨s1,s2,H,I,M,b,c,d,f,l⟩:=YW;have o:=aA (WU 4000 qe w a h6);have g:=WA;have i:=FL g b;have j:=FL i c;have k:=FL j d;have n:=FL k f;have y:=aA (fun E D m (hm:m<=0) w1 (h:sL w E D 4000 m 0 mQ w1)=>zD a h6 h _ _ aCB b g qe qe (by rw[show (fA "ann new c").length=9 from rfl];omega) qe (.inl qe));have z:=aA (fun E D m (hm:m<=500) w1 (h:sL w E D 4000 m 1 s1 w1)=>zD a h6 h _ _ aCC c i qe qe (by rw[show (fA "ann write c f 7").length=15 from rfl];omega) qe (.inl qe));have A:=aA (fun E D m (hm:m<=1000) w1 (h:sL w E D 4000 m 2 s2 w1)=>zD a h6 h _ _ aCD d j qe qe (by rw[show DY.length=75 from rfl];omega) qe (.inl qe));have B:=aA (fun E D m (hm:m<=1500) w1 (h:sL w E D 4000 m 3 H w1)=>zD a h6 h _ _ aCE f k qe qe (by rw[show (fA "ann write c f 8").length=15 from rfl];omega) qe (.inl qe));have C:=aA (fun E D m (hm:m<=2000) w1 (h:sL w E D 4000 m 4 I w1)=>zD a h6 h _ _ aCF l n qe qe (by rw[show (fA "bob read c f").length=12 from rfl];omega) qe (.inl qe));unfold lD;clear a h6 b c d f l g i j k n;go_enter func12,ntmps12;go_wp2_with fail;refine o.o.mono ?_;rintro e w1 ⟨E,D,rfl,h⟩;have H1:=y.o E D 0 qe w1 h;have H1:=aA H1;clear h o;go_wp2_with fail;refine H1.o.mono ?_;rintro e w2 ⟨rfl,m2,h,hm⟩;have r:=aA (z.o E D m2 (by rw[show (fA "ann new c").length=9 from rfl] at hm;omega) w2 h);have F:=aA hm;clear h hm;go_wp2_with fail;refine r.o.mono ?_;rintro e J ⟨rfl,m3,h,hm⟩;have p:Hid (m3<=1000):=aA (by have h2:=F.o;rw[show (fA "ann new c").length=9 from rfl] at h2;rw[show (fA "ann write c f 7").length=15 from rfl] at hm;omega)
 have s:=aA (A.o E D m3 p.o J h);clear h hm;go_wp2_with fail;refine s.o.mono ?_;rintro e K ⟨rfl,m4,h,hm⟩;have q:Hid (m4<=1500):=aA (by have h2:=p.o;rw[show DY.length=75 from rfl] at hm;omega);have t:=aA (B.o E D m4 q.o K h);clear h hm;go_wp2_with fail;refine t.o.mono ?_;rintro e L ⟨rfl,m5,h,hm⟩;have G:Hid (m5<=2000):=aA (by have h2:=q.o;rw[show (fA "ann write c f 8").length=15 from rfl] at hm;omega);have v:=aA (C.o E D m5 G.o L h);clear h hm;go_wp2_with fail;refine v.o.mono ?_;rintro e N ⟨rfl,m6,h,hm⟩;have x:=aA h.below;clear h hm;go_wp2;go_ret;exact⟨rfl,x.o⟩
def Mh(w:World)(a:oD)(l:List ByteArray):Prop:=∀k (c:k<l.length),∃b off,a=some ⟨b,off,none⟩/\b<w.heap.size/\w.cell? ⟨b,off+k,none⟩=some (.string l[k])/\l[k].size<=maxLen
def uI(a:World)(P:nP)(E D Q m n:Nat)(s:Sto)(w:World):Prop:=∃M K,sG w E D M K Q m n s/\(∀b,M b->a.heap.size<=b/\¬P b)/\(∀b,P b->b<w.heap.size)/\Below a.heap.size a w
theorem sL.one{a:World}{E D Q m n:Nat}{s:Sto}{w:World}(h:sL a E D Q m n s w):uI a (fun _=>False) E D Q m n s w:=by
 obtain⟨M,K,h1,h2,h3⟩:=h;exact⟨M,K,h1,fun b c=>⟨h2 b c,id⟩,fun b h=>h.elim,h3⟩
theorem uI.at0{a:World}{P:nP}{E D Q m n:Nat}{s:Sto}{w:World}(h:uI a P E D Q m n s w):sL a E D Q m n s w:=by
 obtain⟨M,K,h1,h2,_,h3⟩:=h;exact⟨M,K,h1,fun b c=>(h2 b c).1,h3⟩
theorem uI.sub{c:World}{P P':nP}{E D Q m n:Nat}{s:Sto}{w:World}(h:uI c P E D Q m n s w)(hp:∀b,P' b->P b):uI c P' E D Q m n s w:=by
 obtain⟨M,K,h1,h2,h3,h4⟩:=h;exact⟨M,K,h1,fun b a=>⟨(h2 b a).1,fun h=>(h2 b a).2 (hp b h)⟩,fun b a=>h3 b (hp b a),h4⟩
theorem uI.on{c:World}{P:nP}{E D Q m n:Nat}{s:Sto}{w w':World}(h:uI c P E D Q m n s w)(a:Below w.heap.size w w'):uI c P E D Q m n s w':=by
 obtain⟨M,K,h1,h2,h3,h4⟩:=h;exact⟨M,K,h1.on a,h2,fun b hp=>lL (h3 b hp) a.size,aC h4 a⟩
theorem uI.grow{c:World}{P:nP}{E D Q m n:Nat}{s:Sto}{w w':World}(h:uI c P E D Q m n s w)(a:Below w.heap.size w w'):uI c (fun b=>P b\/(w.heap.size<=b/\b<w'.heap.size)) E D Q m n s w':=by
 obtain⟨M,K,h1,h2,h3,h4⟩:=h;have d:∀b,M b->b<w.heap.size:=by
  obtain⟨J,base,vc,vr,vn,vo,vt,vu,vk,vb,la,lc,lu,h,ra,rc,ru,da,dc,bs,sy,H⟩:=h1;exact H.low
 exact⟨M,K,h1.on a,fun b hm=>⟨(h2 b hm).1,fun h=>h.elim (h2 b hm).2 (fun h=>qA (d b hm))⟩,fun b hp=>hp.elim (fun h=>lL (h3 b h) a.size) (fun h=>h.2),aC h4 a⟩
theorem QN{f:World}{P:nP}{E D Q m n:Nat}{s:Sto}{w:World}(h:uI f P E D Q m n s w):Calls prog 6 #[.pointer (some ⟨E,0,none⟩)] w fun e w'=>∃(K:nP) (vc vr vn vo vt vu vk vb:Value),e=.returned (.agg (aV s vc vr vn vo vt vu vk vb))/\eZ w' K s vc vr vn vo vt vu vk vb/\uI f (fun b=>P b\/K b) E D Q m n s w'/\Below w.heap.size w w':=by
 obtain⟨M,K,d,h2,h3,h4⟩:=h;have g:=d;obtain⟨J,base,vc,vr,vn,vo,vt,vu,vk,vb,la,lc,lu,h,ra,rc,ru,da,dc,bs,sy,H⟩:=d;refine(Cu E J s vc vr vn vo vt vu vk vb _ h w H.sto H.eng).mono ?_;rintro e w' ⟨rfl,a⟩;exact⟨K,vc,vr,vn,vo,vt,vu,vk,vb,rfl,H.sto.on a,⟨M,K,g.on a,fun b hm=>⟨(h2 b hm).1,fun h=>h.elim (h2 b hm).2 (fun c=>(H.kept b c).1 hm)⟩,fun b hp=>lL (hp.elim (h3 b) (fun c=>(H.kept b c).2)) a.size,aC h4 a⟩,a⟩
theorem Rc{c:World}(v:Gl c)(h6:6<=c.heap.size){P:nP}{E D Q m n k:Nat}{s:Sto}{w:World}(h:uI c P E D Q m n s w)(q:bY)(F:q.size<=100000)(j:mG k s)(f:k<=900000)(C:n<=800000)(t:m+400+q.size<=Q)(r:Q<=900000):
 Calls prog 7 #[.pointer (some ⟨E,0,none⟩),.string q] w fun e w'=>e=.returned (.string (eL s q.data.toList).2)/\∃a,uI c P E D Q a (n+1) (eL s q.data.toList).1 w'/\aN P w w'/\m<=a/\a<=m+400+q.size/\(∀o,kW q.data.toList=some o->(cY s o).2.2.2≠0->a=m)/\(kW q.data.toList=none->a=m):=by
 obtain⟨M,K,h1,h2,h3,h4⟩:=h;refine(WT E D Q m n k s q F w h1 (v.on h4) (fun b d=>qA ((h2 b d).1)) j f C t r).mono ?_;rintro e w' ⟨rfl,i,K',a,l,p,G,g,x,y,z,A⟩;refine⟨rfl,a,⟨i,K',l,fun b d=> ?_,fun b hp=>lL (h3 b hp) g.size,?_⟩,g.mono fun b _ hp hm=>(h2 b hm).2 hp,x,y,z,A⟩
 .rcases p b d with h|h
  .exact h2 b h
  .exact⟨qA h4.size,fun hp=>qA (h3 b hp)⟩
 .exact((aJ (ok:=fun b=>b<c.heap.size) h4).trans (g.mono fun b _ d hm=>by have:=(h2 b hm).1;have H:b<c.heap.size:=d;omega)).below (B:=c.heap.size) (fun k f=>⟨f,f⟩)
end Go.Proofs.YtbinmcabjnoliaaGreatDoor
