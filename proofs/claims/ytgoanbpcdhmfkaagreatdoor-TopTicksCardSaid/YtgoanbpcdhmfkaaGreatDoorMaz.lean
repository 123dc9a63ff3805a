/-
  THE STATEMENT Rows.TopTicksCardSaid PROVED: for every input bailiff/bailifftop.TopTicks returns true (time goes on by ticks that were permitted alone, by as many as they say; what is kept of a moment has that moment's tick), and the argument reads afterwards as it read before.
  Conditions: none beyond the row's own (it lists five package-level variables of strconv and math/bits; the card ties them to the program's text).
-/
import Derived.Test.YtgoanbpcdhmfkaaGreatDoorMay
import Derived.LaidMore
import Derived.Stop.Joined
import Derived.SliceStrings
import Derived.Test.YtgoanbpcdhmfkaaGreatDoorCards
import Derived.Test.YtgoanbpcdhmfkaaGreatDoorTie
import Derived.SevenTiedAt
namespace Go.Proofs.YtgoanbpcdhmfkaaGreatDoor
open Go.RowKit
set_option linter.unusedVariables false
set_option linter.unusedSimpArgs false
set_option maxHeartbeats 16000000
open _root_.Go.Proofs.Tryz
set_option maxRecDepth 20000
structure NJ (r:Rpl):Prop where
 mark:Cm.QP r.mark
 val:cS r.val
 err:bK r.err
 at_:bK r.at_
theorem xN:cS bD:=⟨by unfold bD bK;simp,by unfold bD bK;simp,Nat.zero_le _⟩
theorem Ew{w:World}{ok:nP}{s:Sto}{vc vr vn vo vt vu vk vb:Value}{N:bY}{c:cF}(h:eZ w ok s vc vr vn vo vt vu vk vb)(a:eT s N=some c)(F:bY):cS (gI c F):=by
 rcases ER s N with ⟨e,_⟩|⟨k,n,_,e⟩
 .rw[e] at a;cases a
 .rw[e] at a;injection a with a;subst a;have g:=h.aCK;obtain⟨o,p,rfl,_⟩:=g.slice;obtain⟨b,off,r,_,_,_,⟨v,x,_,m⟩,_⟩:=aH.at dK g n qe;have i:=m.2.2.2.1;obtain⟨q,t,rfl,_⟩:=i.slice;unfold gI
  rcases d:s.aCK[k].aCP.find? (fun f=>decide (f.1=F)) with _|f
  .rw[d];exact xN
  .rw[d];obtain⟨j,hj,he⟩:=List.getElem_of_mem (List.mem_of_find?_eq_some d);obtain⟨_,_,_,_,_,_,⟨_,l⟩,_⟩:=aH.at bP i hj qe;rw[he] at l;exact l.2
theorem YP(s:Sto)(o:Op):0<=dN s o/\dN s o<=100:=by
 unfold dN iF iQ
 repeat' split
 all_goals exact⟨qe,qe⟩
theorem Lq(g:List Gv)(p:Po):0<=(iE g p).2/\(iE g p).2<=1:=by
 unfold iE rL
 repeat' split
 all_goals first|exact⟨qe,qe⟩|exact⟨Int.le_refl _,by show (0:Int)<=1;decide⟩
theorem qV{n:Int}(h0:0<=n)(h1:n<=1000000):bK n:=by unfold bK;omega
theorem WK:bK 0:=qV (Int.le_refl _) qe
theorem Vy{c:Prop}[Decidable c]{x y:Sto×Rpl×Option Deci×Int}(a:NJ x.2.1)(b:NJ y.2.1):NJ (if c then x else y).2.1:=by
 split
 .exact a
 .exact b
theorem NL{e q:Int}(he:bK e)(a:bK q):NJ {qN with err:=e,at_:=q}:=⟨⟨Nat.zero_le _,Nat.zero_le _⟩,xN,he,a⟩
theorem Qr{w:World}{ok:nP}{s:Sto}{vc vr vn vo vt vu vk vb:Value}(h:eZ w ok s vc vr vn vo vt vu vk vb)(o:Op)(g:o.text.size<=1000000):NJ (cP s o).2.1:=by
 have i:=YP s o;have hp:=WJ o.text g;have j:=Lq (pV s o) s.aCL;have h1:bK (oL s o).1/\bK (oL s o).2:=by
  unfold oL;split
  .exact⟨qV hp.1.1 qo,qV hp.2.1 hp.2.2⟩
  .exact⟨qV i.1 qo,WK⟩
 by_cases a:(oL s o).1≠0
 .rw[LM a];exact NL h1.1 h1.2
 .have b:(oL s o).1=0:=by simpa using a
  by_cases d:(iE (pV s o) s.aCL).2≠0
  .rw[LN b d];exact NL (qV j.1 qo) h1.2
  .rw[LO b rfl (by simpa using d) rfl rfl rfl rfl rfl];refine Vy (NL (e:=6) (qV qe qe) h1.2) ?_
   .refine⟨(vE _ _).1,?_,?_,WK⟩
    .unfold nY;dsimp only;split
     .rcases f:eT s o.aCQ with _|c
      .exact xN
      .exact Ew h f o.aC4
     .exact xN
    .unfold nY;dsimp only;split
     .exact WK
     .exact qV qe qe
theorem Sz{p:Prop}(h:p:=by
 injection ho with ho;rw[<-ho];show b.text.size<=_;omega):p:=h
theorem Vz{l:lU}{o:Op}(h:kW l=some o):o.text.size<=l.length:=by
 rw[Al] at h;have h1:=(sG l).2;have h2:=(Am (cN l).2).2;have h3:=(sG (jW (cN l).2).2.2).2;generalize (cN (jW (cN l).2).2.2).2=a at *;generalize oH (cN (jW (cN l).2).2.2).1=k at *;generalize e:Sx k (cN l).1 (jW (cN l).2).2.1 (jW (cN l).2).1=b at *;have g:b.text.size=0:=by rw[<-e];rfl
 have f:∀o,AS k b a=some o->o.text.size<=l.length:=by
  intro o ho;unfold AS at ho;split at ho
  .exact Sz
  split at ho
  .exact Sz
  split at ho
  .rcases d:oS (cN (cN a).2).2 with _|v
   .rw[d] at ho;cases ho
   .rw[d] at ho;injection ho with ho;rw[<-ho];show b.text.size<=_;omega
  split at ho
  .exact Sz
  split at ho
  .exact Sz
  split at ho
  .injection ho with ho;rw[<-ho];show (bs a).size<=_;rw[cG];omega
  .injection ho with ho;rw[<-ho];omega
 rcases c:AS k b a with _|x
 .rw[c] at h;cases h
 .rw[c] at h;unfold vG at h;dsimp only at h;split at h
  .injection h with h;rw[<-h];exact f x c
  .cases h
theorem sE.more{w:World}{E D:Nat}{M K:nP}{Q m n b:Nat}{s:Sto}(h:sE w E D M K Q m n s)(a:n<=b):sE w E D M K Q m b s:=by
 obtain⟨J,base,vc,vr,vn,vo,vt,vu,vk,vb,la,lc,lu,h,ra,rc,ru,da,dc,bs,sy,H⟩:=h;exact⟨J,base,vc,vr,vn,vo,vt,vu,vk,vb,la,lc,lu,h,ra,rc,ru,da,dc,bs,sy,{H with rows:=⟨lT H.rows.1 a,lT H.rows.2 a⟩}⟩
theorem sE.rep{w:World}{E D:Nat}{M K:nP}{Q m n:Nat}{s:Sto}(h:sE w E D M K Q m n s)(o:Op)(a:o.text.size<=1000000):NJ (cP s o).2.1:=by
 obtain⟨J,base,vc,vr,vn,vo,vt,vu,vk,vb,la,lc,lu,h,ra,rc,ru,da,dc,bs,sy,H⟩:=h;exact Qr H.sto o a
theorem nG{w w':World}{B:Nat}{o:Obj}(d:B<=w.heap.size)(c:aN (fun b=>b≠w.heap.size) (w.alloc o) w'):Below B w w':=
 ((aJ (ok:=fun b=>b<B) (aB w o)).trans (c.mono fun b _ e=>by show (_:Nat)≠_;omega)).below (B:=B) (fun k a=>⟨qo,a⟩)
def WL(E D:Nat)(M K:nP)(Q m n:Nat)(s:Sto)(q:bY)(w:World)(e:Ending)(w':World):Prop:=
 e=.returned (.string (gW s q.data.toList).2)/\∃(c K':nP) (a:Nat),sE w' E D c K' Q a (n+1) (gW s q.data.toList).1/\(∀b,c b->M b\/w.heap.size<=b)/\(∀b,K' b->K b\/w.heap.size<=b)/\aN (fun b=>¬M b) w w'/\m<=a/\a<=m+400+q.size/\(∀o,kW q.data.toList=some o->(cP s o).2.2.2≠0->a=m)/\(kW q.data.toList=none->a=m)
theorem QC{s:Sto}{q:lU}(h:kW q=none):gW s q=(s,Sv):=by unfold gW;rw[h]
theorem QD{s:Sto}{q:lU}{o:Op}(h:kW q=some o):gW s q=((cP s o).1,pO (cP s o).2.1):=by unfold gW;rw[h]
theorem WM{M K:nP}(E D Q m n k:Nat)(s:Sto)(q:bY)(N:q.size<=100000)(w:World)(Y:sE w E D M K Q m n s)(I:Gl w)(W:∀b,M b->6<=b)(U:mH k s)(hk:k<=900000)(hn:n<=800000)(Z:m+400+q.size<=Q)(X:Q<=900000):
 Calls prog 7 #[.pointer (some ⟨E,0,none⟩),.string q] w (WL E D M K Q m n s q w):=by
 obtain⟨S,G,R,d,HQ⟩:=gC (PV q N w I) Y I (And.intro W (And.intro U (And.intro hk (And.intro hn (And.intro Z X))))) N;obtain⟨F,H⟩:=xE (WL E D M K Q m n s q w);rw[<-H];have P:=aA H;clear Y I W U hk hn Z X N H;go_enter func7,ntmps7;go_wp2_with fail;refine S.o.mono ?_;rintro e w1 ⟨aa,rfl,a⟩;have p:=aA a;have r:=aA aa;clear a aa;obtain⟨OP,z⟩:=xE (kW q.data.toList);rw[<-z] at r;rw[<-z];have f:=aA z;clear z S
 rcases OP with _|o
 .have i:=aA (QC (s:=s) f.o.symm);have ad:=f;clear r;unfold fA bZ;dsimp only[Option.isSome,Option.getD];go_upto_region 2 with (refine eC rfl _ (.tmp 5) (.tmp 10) rfl w1.heap.size _ rfl rfl _ _ (aK _ _ _ rfl) (by kernel_rfl) rfl (by simp[Value.oneCell']) ?_;intro w2 v j)
  have c:=qB p (nG (lR _) j.o);clear v j p;go_wp2;have C:=P.o;subst C;refine⟨by rw[i.o];rfl,M,K,m,?_,fun b a=> .inl a,fun b a=> .inl a,(aJ c.o).mono (fun b a _=>a),lR _,qo,fun o L=>absurd (ad.o.trans L) qs,fun _=>rfl⟩;rw[i.o];exact(G.o.on c.o).more (Nat.le_succ n)
 .have HG:=aA (r.o o rfl);have i:=aA (QD (s:=s) f.o.symm);unfold fA bZ;dsimp only[Option.isSome,Option.getD];go_upto_region 2 with (refine eC rfl _ (.tmp 5) (.tmp 10) rfl w1.heap.size _ rfl rfl _ _ (aK _ _ _ rfl) (by kernel_rfl) rfl (by simp[Value.oneCell']) ?_;intro w2 v j)
  have c:=qB p (nG (lR _) j.o);clear j p r;obtain⟨⟨b0,b1,b2,b3,b4,b5,b6,b7,b8,b9,af,ag⟩,-⟩:=bL v.o;have zb:=aD v.o;have ab:o.text.size<=q.size:=by have:=Vz f.o.symm;rwa [Array.length_toList] at this
  have T:=aA ab;have g:=Vr E D Q m n k s o HG.o w2 (G.o.on c.o) ((R.o.on c.o).aDD) d.o.2.1 d.o.2.2.1 d.o.2.2.2.1 (qA d.o.2.2.2.2.1) d.o.2.2.2.2.2;unfold fA bZ at g;have g:=aA g;clear ab;go_wp2_with fail;refine g.o.mono ?_;rintro e w3 ⟨rfl,M',K',m',V,y,x,l,A,J,B⟩;obtain⟨HE,ae,t⟩:=aY V (And.intro y (And.intro x (And.intro l (And.intro A (And.intro J B))))) (G.o.rep o (qD T.o HQ.o));have HA:=aA (Eu (cP s o).2.1 t.o.mark t.o.val t.o.err t.o.at_ w3 ((R.o.on c.o).stay l (fun b a h=>qA (d.o.1 b h))));clear V y x l A J B g b0 b1 b2 b3 b4 b5 b6 b7 b8 b9 af ag zb;go_wp2_with fail;refine HA.o.mono ?_;rintro e w4 ⟨rfl,a⟩;have O:=aA a;clear a;go_wp2;have C:=P.o;subst C;obtain⟨y,x,l,A,J,B⟩:=ae.o;have hz:=c.o.size;refine⟨by rw[i.o];rfl,M',K',m',?_,fun b a=>(y b a).imp id (fun h=>by omega),fun b a=>(x b a).imp id (fun h=>by omega),?_,A,qA T.o,fun o' L ah=> ?_,fun ai=>absurd (f.o.trans ai) qs⟩
  .rw[i.o];exact HE.o.on O.o
  .exact((aJ c.o).mono (fun b a _=>a)).trans (l.trans ((aJ O.o).mono (fun b a _=>a)))
  .have h1:=f.o.trans L;injection h1 with h1;subst h1;exact B ah
theorem Ex(w:World):Calls prog 48 #[(Value.slice none 0 0)] w fun e w'=>e=.returned (Value.slice none 0 0)/\w'=w:=by
 have heq:=Lib.run_eql_slice_nil (P:=prog) w 80 5 none 0 0 0 0 underlying80;go_enter func48,ntmps48;go_wp2;go_ret;exact⟨rfl,rfl⟩
theorem Ey(w:World):Calls prog 76 #[(Value.slice none 0 0)] w fun e w'=>e=.returned (.tuple #[(Value.slice none 0 0),.bool false])/\w'=w:=by
 go_enter func76,ntmps76;go_wp2;go_ret2
 exact⟨rfl,rfl⟩
theorem Qs(w:World):Calls prog 42 #[(Value.slice none 0 0)] w fun e w'=>e=.returned (.tuple #[(Value.slice none 0 0),.int .i64 0])/\w'=w:=by
 have a:=aA (Ey w);go_enter func42,ntmps42;go_wp2;go_loopw [4,5] (fun v i wr=>v=(Value.slice none 0 0)/\i=.int .i64 0/\wr=w) (fun _ _ _=>0)
 case atStart=>exact⟨rfl,rfl,rfl⟩
 case round=>
  obtain⟨rfl,rfl,rfl⟩:=hrel;go_wp2_with fail;refine a.o.mono ?_;rintro e w1 ⟨rfl,rfl⟩;go_wp2;go_ret2
  exact⟨rfl,rfl⟩
theorem YQ(Q:Nat)(a:Q<=1000000)(w:World):Calls prog 10 #[.int .i64 Q] w fun e w'=>e=.returned (.tuple #[.pointer (some ⟨w.heap.size,0,none⟩),.int .i64 0])/\w'=w.alloc (oV Q none 0 0 0):=by
 have d1:¬((Q:Int)<0):=qo;have d2:¬((1048576:Int)<(Q:Int)):=qo;go_enter func10,ntmps10;go_wp2;go_ret2
 exact⟨rfl,rfl⟩
theorem Lr(D Q:Nat)(sy:Int)(w:World)(h:w.heap[D]? =some (oV Q none 0 0 sy)):Calls prog 43 #[.pointer (some ⟨D,0,none⟩)] w fun e w'=>e=.returned (Value.slice none 0 0)/\w'=w:=by
 obtain⟨⟨d0,d1,d2,d3,d4⟩,_⟩:=dJ h;have b:=aD h;have a:=aA (Ex w);clear h;go_enter func43,ntmps43;go_wp2_with fail;refine a.o.mono ?_;rintro e w1 ⟨rfl,rfl⟩;go_wp2;go_ret;exact⟨rfl,rfl⟩
theorem Qt(D Q m b:Nat)(a:oD)(sy:Int)(w:World)(h:w.heap[D]? =some (oV Q a m b sy)):Calls prog 44 #[.pointer (some ⟨D,0,none⟩)] w fun e w'=>e=.returned (.int .i64 m)/\w'=w:=by
 obtain⟨⟨d0,d1,d2,d3,d4⟩,_⟩:=dJ h;have c:=aD h;clear h;go_enter func44,ntmps44;go_wp2;go_ret;exact⟨rfl,rfl⟩
theorem Ls(D Q:Nat)(w:World)(h:w.heap[D]? =some (oV Q none 0 0 0)):Calls prog 20 #[.pointer (some ⟨D,0,none⟩)] w fun e w'=>∃J,w.heap.size<=J/\e=.returned (.tuple #[.pointer (some ⟨J,0,none⟩),.int .i64 0])/\w'.heap[J]? =some (DG D (Value.slice none 0 0))/\w'.heap[D]? =some (oV Q none 0 0 0)/\J<w'.heap.size/\aN (fun b=>b≠D) w w':=by
 obtain⟨c,a,d,g⟩:=dD (Lr D Q 0 w h) (Qt D Q 0 0 none 0 w h) (Qs w) (OC D Q 0 0 none 0 w h);have j:=aD h;have l:=aA j;clear h j;go_enter func20,ntmps20;go_wp2_with fail;refine c.o.mono ?_;rintro e w1 ⟨rfl,rfl⟩;go_wp2_with fail;refine d.o.mono ?_;rintro e w1 ⟨rfl,rfl⟩;go_wp2_with fail;refine a.o.mono ?_;rintro e w1 ⟨rfl,rfl⟩;go_wp2_with fail;refine g.o.mono ?_;rintro e w2 ⟨rfl,h2,i⟩;have k:=aA h2;have f:=aA i;clear h2 i c a d g;go_wp2;go_ret2
 have m:=f.o.size;have n:=l.o;exact⟨w2.heap.size,m,rfl,aK _ _ _ rfl,aE k.o (aB _ _),qs,f.o.trans (aJ (aB w2 _))⟩
theorem Lt(J D:Nat)(w:World)(h:w.heap[J]? =some (DG D (Value.slice none 0 0))):Calls prog 22 #[.pointer (some ⟨J,0,none⟩)] w fun e w'=>e=.returned (Value.slice none 0 0)/\w'=w:=by
 obtain⟨⟨d0,d1,d2⟩,_⟩:=cD h;have a:=aD h;clear h;go_enter func22,ntmps22;go_wp2;go_loopw [3,11] (fun v i wr=>v=(Value.slice none 0 0)/\i=.int .i64 0/\wr=w) (fun _ _ _=>0)
 case atStart=>exact⟨rfl,rfl,rfl⟩
 case round=>
  obtain⟨rfl,rfl,rfl⟩:=hrel;go_wp2;go_ret;exact⟨rfl,rfl⟩
theorem Lu:wU=⟨#[112,111,108,105,99,121,32,111,112,101,110,32,112,101,114,109,105,116,117,110,108,101,115,115,32,123,32,125]⟩:=by kernel_rfl
def NM(w:World)(e:Ending)(w':World):Prop:=∃vc vr vn vo vt vu vk vb,e=.returned (.agg (aV mQ vc vr vn vo vt vu vk vb))/\eZ w' (fun b=>w.heap.size<=b) mQ vc vr vn vo vt vu vk vb/\Below w.heap.size w w'
theorem Wa(w:World)(p:gU w):Calls prog 21 #[] w (NM w):=by
 obtain⟨W0,f⟩:=xE (w.alloc DV);have g:Below w.heap.size w W0:=by rw[f];exact aB _ _
 have R:Hid (W0.heap[w.heap.size]? =some DV):=aA (by rw[f];exact aK _ _ _ rfl);have c:=rZ wU W0 (p.on g);unfold vC at c;obtain⟨P,i⟩:=xE (fD wU);rw[<-i] at c;rw[Lu] at c;have t:Hid (mQ=⟨0,[],[],[],[],P.1,0⟩):=aA (by rw[i];rfl);obtain⟨c,r,o⟩:=aY c g f;clear g f i p;unfold NM;rw[t.o];go_enter func21,ntmps21;go_upto_region 1 with (fail)
 rw[<-o.o];go_wp2_with fail;refine c.o.mono ?_;rintro e w1 ⟨v,rfl,⟨vt,vr,vk,vo,rfl,hp⟩,a⟩;obtain⟨G,H,rfl,-⟩:=hp.2.2.1.slice;obtain⟨ra,rc,rfl,-⟩:=hp.2.2.2.1.slice;obtain⟨C,D,rfl,-⟩:=hp.2.2.2.2.1.slice;obtain⟨E,F,rfl,-⟩:=hp.2.2.2.2.2.slice;obtain⟨z,s,j⟩:=aY hp a (aE R.o a);clear hp a;go_upto_region 2 with (refine eC rfl _ (.tmp 1) (.tmp 6) rfl w1.heap.size _ rfl rfl _ _ (aK _ _ _ rfl) (by kernel_rfl) rfl (by simp[Value.oneCell']) ?_;intro w2 l m)
 have d:=aA (nG (lR _) m.o);have I:=aA (aD j.o);have A:=aA (z.o.aCT (aJ d.o));have x:=qK j d.o;obtain⟨⟨T,U,V,W,X,p5,p6⟩,-⟩:=bI l.o;have Z:=aD l.o;clear m;go_wp2_with (refine eC rfl _ (.tmp 0) (.tmp 10) rfl w.heap.size _ rfl rfl _ _ x.o (by kernel_rfl) rfl (by simp[Value.oneCell']) ?_;intro Y y n)
 obtain⟨⟨a0,J,a2,a3,a4,a5,M,N,O,a9,K,L,a12⟩,-⟩:=bS y.o;refine bR (.agg #[.int .i64 0,.slice none 0 0,.slice none 0 0,.slice none 0 0,.slice none 0 0,.string P.1.id,.bool P.1.set,.int .i64 P.1.alg,.slice G P.1.aCU.length H,.slice ra P.1.aCM.length rc,.slice C P.1.aCY.length D,.slice E P.1.aC0.length F,.int .i64 0]) ?_;have Q:w.heap.size<W0.heap.size:=by rw[o.o];simp
 have S:=d.o.size;exact⟨_,_,_,_,_,_,_,_,rfl,⟨WK,WK,aH.nil,aH.nil,aH.nil,aH.nil,(A.o.aCT (n.o.mono (fun b _ a=>by have:W0.heap.size<=b:=a;show b≠w.heap.size;omega))).more (fun b a=>by have:W0.heap.size<=b:=a;omega)⟩,((aJ (ok:=fun b=>b<w.heap.size) (aC r.o (aC s.o d.o))).trans (n.o.mono (fun b _ a=>by have:b<w.heap.size:=a;show b≠w.heap.size;omega))).below (B:=w.heap.size) (fun k q=>⟨q,q⟩)⟩
theorem gU.far{w w':World}{D:Nat}(h:gU w)(a:aN (fun b=>b≠D) w w')(c:6<=D):gU w':=h.stay a (by show 2≠D;omega)
def QE(D Q:Nat)(w:World)(e:Ending)(w':World):Prop:=∃(E J:Nat) (K:nP),e=.returned (.tuple #[.pointer (some ⟨E,0,none⟩),.int .i64 0])/\sE w' E D (fun b=>b=E\/b=J\/b=D) K Q 0 0 mQ/\w.heap.size<=E/\w.heap.size<=J/\(∀b,K b->w.heap.size<=b)/\aN (fun b=>b≠D) w w'
theorem Lv(D Q:Nat)(w:World)(h:w.heap[D]? =some (oV Q none 0 0 0))(k:gU w)(p:6<=D):Calls prog 11 #[.pointer (some ⟨D,0,none⟩)] w (QE D Q w):=by
 obtain⟨o,z,A,y⟩:=dD (Ls D Q w h) (aD h) k p;obtain⟨S,s⟩:=xE mQ;have g:=aA (fun w1 (k:gU w1)=>Wa w1 k);unfold NM at g;unfold QE;rw[<-s] at g ⊢;clear h k p s;go_enter func11,ntmps11;go_wp2_with fail;refine o.o.mono ?_;rintro e w1 ⟨J,q,rfl,hj,t,r,m⟩;have n:=aA (g.o w1 (A.o.far m y.o));have H1:=aA (And.intro q (And.intro hj (And.intro t (And.intro r m))));clear q hj t r m o g;go_wp2_with fail;refine n.o.mono ?_;rintro e w2 ⟨vc,vr,vn,vo,vt,vu,vk,vb,rfl,x,a⟩;have B:=aA x;have f:=aA a;have c:=Lt J D (w2.alloc (oZ J S vc vr vn vo vt vu vk vb (.slice none 0 0) 0)) (aE (aE H1.o.2.1 a) (aB _ _));have v:n64 0=0:=rfl;unfold oZ at c;rw[v] at c;have c:=aA c;unfold aV;clear x a n v;go_wp2_with fail;refine c.o.mono ?_;rintro e L ⟨rfl,rfl⟩;clear c;obtain⟨E,d⟩:=xE (w2.alloc (oZ J S vc vr vn vo vt vu vk vb (.slice none 0 0) 0));have l:=aA d;unfold oZ at d;rw[show n64 0=0 from rfl] at d;rw[<-d];clear d;go_wp2;go_loopw [30] (fun i wr=>i=.int .i64 0/\wr=E) (fun _ _=>0)
 case atStart=>exact⟨rfl,rfl⟩
 case round=>
  obtain⟨rfl,rfl⟩:=hrel;go_wp2;go_ret2
  have j:Below w2.heap.size w2 wr:=by rw[l.o];exact aB _ _
  have K:wr.heap.size=w2.heap.size+1:=by rw[l.o];simp
  have H:=H1.o.2.2.2.2.size;have I:=f.o.size;have G:=z.o;have C:=H1.o.1;have F:=H1.o.2.2.2.1;refine⟨w2.heap.size,J,(fun b=>w1.heap.size<=b/\b<w2.heap.size),rfl,⟨J,wr.heap.size,vc,vr,vn,vo,vt,vu,vk,vb,none,0,[],0,none,0,[],none,0,[],0,?_⟩,qo,C,fun b a=>by omega,(H1.o.2.2.2.2.trans (aJ f.o)).trans (aJ j)⟩;exact {
   eng:=by rw[l.o];exact aK _ _ _ rfl
   jou:=aE (aE H1.o.2.1 f.o) j
   dsk:=aE (aE H1.o.2.2.1 f.o) j
   sto:=B.o.inb.aCT (aJ j)
   log:=aM.nil
   aDO:=aM.nil
   byt:=iY.nil
   len:=rfl
   lts:=⟨qo,qo,qo,lR _⟩
   nes:=⟨qo,qo,qo⟩
   mem:=⟨.inl rfl,.inr (.inl rfl),.inr (.inr rfl)⟩
   aDH:=fun b a=>by simp[Value.ownBlock] at a
   aDI:=fun b a=>by simp[Value.ownBlock] at a
   kept:=fun b a=>⟨fun h=>by rcases h with h|h|h<;>omega,qo⟩
   low:=fun b a=>by rcases a with h|h|h<;>omega
   rows:=⟨lR _,lR _⟩}
def QF(Q:Nat)(w:World)(e:Ending)(w':World):Prop:=∃(E D:Nat) (M K:nP),e=.returned (.tuple #[.pointer (some ⟨E,0,none⟩),.pointer (some ⟨D,0,none⟩)])/\sE w' E D M K Q 0 0 mQ/\(∀b,M b->w.heap.size<=b)/\(∀b,K b->w.heap.size<=b)/\Below w.heap.size w w'
theorem Lw(Q:Nat)(t:Q<=1000000)(w:World)(o:Gl w)(h6:6<=w.heap.size):Calls prog 4 #[.int .i64 Q] w (QF Q w):=by
 have i:=aA (YQ Q t w);obtain⟨W0,c⟩:=xE (w.alloc (oV Q none 0 0 0));have j:Below w.heap.size w W0:=by rw[c];exact aB _ _
 have n:=aA (Lv w.heap.size Q W0 (by rw[c];exact aK _ _ _ rfl) (o.on j).aDD h6);have s:Hid (W0.heap.size=w.heap.size+1):=aA (by rw[c];simp);have q:=aA j;rw[<-c] at i;clear j c o h6;unfold QF;go_enter func4,ntmps4;go_wp2_with fail;refine i.o.mono ?_;rintro e w1 ⟨rfl,rfl⟩;go_wp2_with fail;refine n.o.mono ?_;rintro e w2 ⟨E,J,K,rfl,d,l,m,f,g⟩;have r:=aA (And.intro d (And.intro l (And.intro m (And.intro f g))));clear d l m f g n i;go_wp2;go_ret2
 obtain⟨d,l,m,f,g⟩:=r.o;have v:=s.o;exact⟨E,w.heap.size,_,K,rfl,d,fun b a=>by rcases a with h|h|h<;>omega,fun b a=>qA (f b a),((aJ (ok:=fun b=>b<w.heap.size) q.o).trans (g.mono (fun b _ a=>by have:b<w.heap.size:=a;show b≠w.heap.size;omega))).below (B:=w.heap.size) (fun k p=>⟨p,p⟩)⟩
theorem QBL{p:Prop}(h:p:=by
 have HV:=aA ((HG.o.sl (by rw[HM.o,List.length_map,List.length_take];have:=HN.o;omega) (fun b=>w.heap.size<=b) (fun b h _=>h.elim) (fun b h _=>h) vO));go_wp2;go_ret;exact⟨_,rfl,HV.o,HB.o⟩):p:=h
def Qu:Rep ByteArray:=mK (fun s=>[.string s]) (fun s=>s.size<=maxLen)
theorem vO:Firm Qu 1:=gD (fun _=>rfl) (fun x v h=>by simp only[List.mem_cons,List.not_mem_nil,or_false] at h;rw[h];rfl)
theorem aAi:dV prog 22 9 1 16:=fP (z:= .string ByteArray.empty) underlying22 (by kernel_rfl) rfl qe
def NN(s:bY):ByteArray:=s.extract 0 (min s.size 600)
theorem Lx(s:bY):(NN s).size<=600:=by unfold NN;rw[ByteArray.size_extract];omega
def yX(l:List ByteArray)(n:Nat):List ByteArray:=(l.take n).map NN
def QG(L:List ByteArray)(w:World)(e:Ending)(w':World):Prop:=∃v,e=.returned v/\aH Qu w' (fun b=>w.heap.size<=b) v L/\Below w.heap.size w w'
theorem RF{α β:Type}(f:α->β){l:List α}{k:Nat}(h:k<l.length):(l.take (k+1)).map f=(l.take k).map f++[f l[k]]:=by
 rw[List.take_add_one,gE h,Option.toList_some,List.map_append];rfl
theorem Za{α:Type}{R:Rep α}{s:Nat}{e:TypeId}{w:World}{base:Nat}{ok:nP}{v:Value}{l:List α}(h:aM R s e w base ok v l){b:Nat}(a:v.ownBlock=some b):base<=b/\b<w.heap.size:=h.lt b a
theorem Ly{ok:nP}(a:oD)(c:Nat)(l:List ByteArray)(J:l.length<=maxLen)(n:Nat)(O:n<=1000)(w:World)(h:∀k (hk:k<l.length),∃b off,a=some ⟨b,off,none⟩/\b<w.heap.size/\w.cell? ⟨b,off+k,none⟩=some (.string l[k])/\l[k].size<=maxLen):Calls prog 5 #[.slice a l.length c,.int .i64 n] w (QG (yX l n) w):=by
 obtain⟨W,HL,HN⟩:=aY h J O;obtain⟨L,y⟩:=xE (yX l n);rw[<-y];have G:=aA y;unfold QG;clear h y O J;go_enter func5,ntmps5;go_wp2;go_loopw [5,6] (fun v i wr=>∃(k:Nat) (m:List ByteArray),k<=n/\k<=l.length/\i=.int .i64 k/\Hid (m=(l.take k).map NN)/\Hid (aM Qu 1 9 wr w.heap.size (fun _=>False) v m)/\Hid (Below w.heap.size w wr)) (fun _ i _=>n - (intOf i).toNat)
 case atStart=>exact⟨0,[],qo,qo,rfl,aA rfl,aA aM.nil,aA (Below.refl _ _)⟩
 case round=>
  obtain⟨k,m,ad,ab,rfl,HM,HG,HB⟩:=hrel;obtain⟨A,X,rfl⟩:=HG.o.slice;by_cases h1:k<l.length
  .have d1:(k:Int)<(l.length:Int):=qo;by_cases h2:k<n
   .have d2:(k:Int)<(n:Int):=qo;obtain⟨b,off,rfl,j,o,D⟩:=W.o k h1;have N:m.length=k:=by rw[HM.o,List.length_map,List.length_take];omega
    have V:=aA N;obtain⟨x,C⟩:=xE (l[k]);rw[<-C] at o D;have Z:min (x.size:Int) 600=((min x.size 600:Nat):Int):=qo;obtain⟨q,B⟩:=xE (min x.size 600);rw[<-B] at Z;have q1:(0:Int)<=(q:Int):=qo;have q2:(q:Int)<=(x.size:Int):=qo;have s:=aA (And.intro C (And.intro B D));have HC:=aA (And.intro j o);have i0:(0:Int)<=(k:Int):=qo;have i1:(k:Int)<(l.length:Int):=d1;clear N C B D;go_upto_region 5 with (fail)
    have F:Hid (Below wr.heap.size wr wr.drew):=aA (Below.refl _ _).drew;have I:b<wr.heap.size:=lL j HB.o.size;have g:wr.drew.cell? ⟨b,off+k,none⟩=some (.string x):=(HB.o.cell (p:=⟨b,off+k,none⟩) j).trans o;have P:(Value.slice A m.length X).ownBlock≠some b:=fun e=>by
     have:=(Za HG.o e).1;omega
    have r:=aA (And.intro P I);clear j o P I;refine cC 14 [(0,false),(1,false),(2,false),(3,false),(4,false),(5,false),(6,false),(7,false),(8,false),(9,false),(10,false),(11,false),(12,true),(13,true)] [(14,true)] (fun w'=>w'.cell? ⟨b,off+k,none⟩=some (.string x)) (by decide +kernel) (by decide +kernel) g ?_;simp only[List.cons_append,List.nil_append]
    repeat (refine dG rfl (fun K t=> ?_);unfold rd;go_simp;refine t _ (fun ae h1=> ?_) ?_;(· clear t K g;have g:=h1;unfold rd;go_simp);clear t K)
    have E:=aA (((aB wr.drew (.cells #[.string (x.extract 0 q)] 9)).cell (p:=⟨b,off+k,none⟩) r.o.2).trans g);clear g;refine bJ rfl (fun f d=> ?_);unfold mv;go_simp;refine d _ (World.alloc _ (.cells #[.string (x.extract 0 q)] 9)) (fun _=>E.o) ?_;clear d f;refine bJ rfl (fun f d=> ?_);unfold mv;refine iV (base:=w.heap.size) aAi vO rfl (.tmp 18) (.tmp 30) rfl _ m rfl (HG.o.on vO (aC F.o (aB _ _))) wr.heap.size 1 _ _ _ (x.extract 0 q) rfl (aK _ _ _ rfl) ⟨rfl,by show (x.extract 0 q).size<=maxLen;rw[ByteArray.size_extract];have:=s.o.2.2;unfold maxLen at *;omega⟩ (qD V.o HN.o) qe (lT HB.o.size (aB _ _).size) ?_;intro Q M A' c' w2 H z aa;have U:Hid (Q=(l.take (k+1)).map NN):=aA (by rw[M.o,HM.o,RF NN h1,<-s.o.1,s.o.2.1];rfl);have T:=aA H;have R:=aA (HG.o.below HB.o (XR (aC F.o (aB _ _)) z) (lR _) HB.o.size);have S:=aA (World.cell?_of_block (a:=⟨b,off+k,none⟩) (z.block b (lL r.o.2 (aB _ _).size) (fun e=>r.o.1 e.symm))▸E.o);clear H z aa M;refine d _ _ (fun _=>S.o) ?_;clear d f;refine bJ rfl (fun f d=> ?_);unfold mv;go_simp;refine d _ _ (fun h=>absurd h qe) ?_;clear d f;unfold cI;have q9:IntKind.i64.wrap ((k:Int)+1)=((k+1:Nat):Int):=by rw[IntWalk.i64_in _ (qA HN.o)];omega
    go_wp2;go_roundw
    case rel=>exact⟨k+1,Q,qo,qo,by go_num,U,T,R⟩
    case measure=>simp[intOf];omega
   .have d2:¬((k:Int)<(n:Int)):=qo;have Y:L=m:=by
     rw[G.o,HM.o];unfold yX;rw[show k=n by omega]
    exact QBL
  .have d1:¬((k:Int)<(l.length:Int)):=qo;have Y:L=m:=by
    rw[G.o,HM.o];unfold yX;rw[show k=l.length by omega,List.take_of_length_le (lR _),List.take_of_length_le qo]
   exact QBL
def sJ(a:World)(E D Q m n:Nat)(s:Sto)(w:World):Prop:=∃M K,sE w E D M K Q m n s/\(∀b,M b->a.heap.size<=b)/\Below a.heap.size a w
theorem sJ.on{b:World}{E D Q m n:Nat}{s:Sto}{w w':World}(h:sJ b E D Q m n s w)(a:Below w.heap.size w w'):sJ b E D Q m n s w':=by
 obtain⟨M,K,h1,h2,h3⟩:=h;exact⟨M,K,h1.on a,h2,aC h3 a⟩
theorem sJ.below{a:World}{E D Q m n:Nat}{s:Sto}{w:World}(h:sJ a E D Q m n s w):Below a.heap.size a w:=by
 obtain⟨M,K,h1,h2,h3⟩:=h;exact h3
def Zb(b:World)(E D Q m n:Nat)(s:Sto)(q:bY)(e:Ending)(w':World):Prop:=
 e=.returned (.string (gW s q.data.toList).2)/\∃a,sJ b E D Q a (n+1) (gW s q.data.toList).1 w'/\m<=a/\a<=m+400+q.size/\(∀o,kW q.data.toList=some o->(cP s o).2.2.2≠0->a=m)/\(kW q.data.toList=none->a=m)
theorem Wb{a:World}(r:Gl a)(h6:6<=a.heap.size){E D Q m n k:Nat}{s:Sto}{w:World}(h:sJ a E D Q m n s w)(q:bY)(A:q.size<=100000)(g:mH k s)(d:k<=900000)(z:n<=800000)(p:m+400+q.size<=Q)(l:Q<=900000):
 Calls prog 7 #[.pointer (some ⟨E,0,none⟩),.string q] w (Zb a E D Q m n s q):=by
 obtain⟨M,K,h1,h2,h3⟩:=h;refine(WM E D Q m n k s q A w h1 (r.on h3) (fun b c=>qA (h2 b c)) g d z p l).mono ?_;rintro e w' ⟨rfl,f,K',C,i,j,F,o,t,v,x,y⟩;refine⟨rfl,C,⟨f,K',i,fun b c=>(j b c).elim (h2 b) (fun h=>qA h3.size),?_⟩,t,v,x,y⟩
 .exact((aJ (ok:=fun b=>b<a.heap.size) h3).trans (o.mono fun b _ c hm=>by have:=h2 b hm;have G:b<a.heap.size:=c;omega)).below (B:=a.heap.size) (fun k d=>⟨d,d⟩)
theorem WN(Q:Nat)(g:Q<=900000)(w:World)(d:Gl w)(h6:6<=w.heap.size):Calls prog 4 #[.int .i64 Q] w fun e w'=>∃E D,e=.returned (.tuple #[.pointer (some ⟨E,0,none⟩),.pointer (some ⟨D,0,none⟩)])/\sJ w E D Q 0 0 mQ w':=by
 refine(Lw Q qo w d h6).mono ?_;rintro e w' ⟨E,D,M,K,rfl,a,b,f,c⟩;exact⟨E,D,rfl,M,K,a,b,c⟩
theorem yY{c:World}(j:Gl c)(h6:6<=c.heap.size){E D Q m n k:Nat}{s g:Sto}{a:bY}{w:World}(h:sJ c E D Q m n s w)(q:bY)(l:lU)(d:q.data.toList=l)(f:gW s l=(g,a))(i:mH k s)(o:k<=900000)(p:n<=800000)(t:m+400+l.length<=Q)(r:Q<=90000):
 Calls prog 7 #[.pointer (some ⟨E,0,none⟩),.string q] w fun e w'=>e=.returned (.string a)/\∃b,sJ c E D Q b (n+1) g w'/\b<=m+400+l.length:=by
 have v:q.size=l.length:=by rw[<-d,Array.length_toList];rfl
 refine(Wb j h6 h q qo i o p qo qo).mono ?_;rintro e w' ⟨rfl,b,h1,h2,h3,-⟩;rw[d,f] at h1;rw[d,f];exact⟨rfl,b,h1,qo⟩
theorem DZ:str "ok"=⟨#[111,107]⟩:=by kernel_rfl
theorem Wc:str "denied Deny"=⟨#[100,101,110,105,101,100,32,68,101,110,121]⟩:=by kernel_rfl
theorem Wd:str "ok 7"=⟨#[111,107,32,55]⟩:=by kernel_rfl
theorem aCu:(⟨#[97,110,110,32,110,101,119,32,99]⟩:bY).data.toList=eM "ann new c":=by kernel_rfl
theorem aCv:(⟨#[97,110,110,32,119,114,105,116,101,32,99,32,102,32,55]⟩:bY).data.toList=eM "ann write c f 7":=by kernel_rfl
theorem aCw:(⟨#[97,110,110,32,112,111,108,105,99,121,32,112,111,108,105,99,121,32,112,32,102,105,114,115,116,32,123,32,100,101,110,121,32,100,32,119,104,101,110,32,40,97,99,116,105,111,110,46,110,97,109,101,32,61,32,35,119,114,105,116,101,41,59,32,112,101,114,109,105,116,32,114,59,32,125]⟩:bY).data.toList=DU:=by kernel_rfl
theorem aCx:(⟨#[97,110,110,32,119,114,105,116,101,32,99,32,102,32,56]⟩:bY).data.toList=eM "ann write c f 8":=by kernel_rfl
theorem aCy:(⟨#[98,111,98,32,114,101,97,100,32,99,32,102]⟩:bY).data.toList=eM "bob read c f":=by kernel_rfl
theorem YR:∃s1 s2 a b c,gW mQ (eM "ann new c")=(s1,⟨#[111,107]⟩)/\gW s1 (eM "ann write c f 7")=(s2,⟨#[111,107]⟩)/\gW s2 DU=(a,⟨#[111,107]⟩)/\gW a (eM "ann write c f 8")=(b,⟨#[100,101,110,105,101,100,32,68,101,110,121]⟩)/\gW b (eM "bob read c f")=(c,⟨#[111,107,32,55]⟩):=
 ⟨VW.1,VX.1,VY.1,VZ.1,Kx.1,by rw[<-DZ,<-qI.1];rfl,by rw[<-DZ,<-qI.2.1];rfl,by rw[<-DZ,<-qI.2.2.1];rfl,by rw[<-Wc,<-qI.2.2.2.1];rfl,by rw[<-Wd,<-qI.2.2.2.2];rfl⟩
theorem FG{k:Nat}{s b:Sto}{q:lU}{a:bY}(h:mH k s)(c:gW s q=(b,a)):mH (k+1) b:=by
 have:=h.line q;rw[c] at this;exact this
theorem Mb(w:World)(a:Gl w)(h6:6<=w.heap.size):Calls prog 9 #[] w (lD (.bool true) w):=by
 obtain⟨s1,s2,H,I,M,b,c,d,f,l⟩:=YR;have o:=aA (WN 4000 qe w a h6);have g:=VV;have i:=FG g b;have j:=FG i c;have k:=FG j d;have n:=FG k f;have y:=aA (fun E D m (hm:m<=0) w1 (h:sJ w E D 4000 m 0 mQ w1)=>yY a h6 h _ _ aCu b g qe qe (by rw[show (eM "ann new c").length=9 from rfl];omega) qe);have z:=aA (fun E D m (hm:m<=500) w1 (h:sJ w E D 4000 m 1 s1 w1)=>yY a h6 h _ _ aCv c i qe qe (by rw[show (eM "ann write c f 7").length=15 from rfl];omega) qe);have A:=aA (fun E D m (hm:m<=1000) w1 (h:sJ w E D 4000 m 2 s2 w1)=>yY a h6 h _ _ aCw d j qe qe (by rw[show DU.length=75 from rfl];omega) qe);have B:=aA (fun E D m (hm:m<=1500) w1 (h:sJ w E D 4000 m 3 H w1)=>yY a h6 h _ _ aCx f k qe qe (by rw[show (eM "ann write c f 8").length=15 from rfl];omega) qe);have C:=aA (fun E D m (hm:m<=2000) w1 (h:sJ w E D 4000 m 4 I w1)=>yY a h6 h _ _ aCy l n qe qe (by rw[show (eM "bob read c f").length=12 from rfl];omega) qe);unfold lD;clear a h6 b c d f l g i j k n;go_enter func9,ntmps9;go_wp2_with fail;refine o.o.mono ?_;rintro e w1 ⟨E,D,rfl,h⟩;have H1:=y.o E D 0 qe w1 h;have H1:=aA H1;clear h o;go_wp2_with fail;refine H1.o.mono ?_;rintro e w2 ⟨rfl,m2,h,hm⟩;have r:=aA (z.o E D m2 (by rw[show (eM "ann new c").length=9 from rfl] at hm;omega) w2 h);have F:=aA hm;clear h hm;go_wp2_with fail;refine r.o.mono ?_;rintro e J ⟨rfl,m3,h,hm⟩;have p:Hid (m3<=1000):=aA (by have h2:=F.o;rw[show (eM "ann new c").length=9 from rfl] at h2;rw[show (eM "ann write c f 7").length=15 from rfl] at hm;omega);have s:=aA (A.o E D m3 p.o J h)
 clear h hm;go_wp2_with fail;refine s.o.mono ?_;rintro e K ⟨rfl,m4,h,hm⟩;have q:Hid (m4<=1500):=aA (by have h2:=p.o;rw[show DU.length=75 from rfl] at hm;omega);have t:=aA (B.o E D m4 q.o K h);clear h hm;go_wp2_with fail;refine t.o.mono ?_;rintro e L ⟨rfl,m5,h,hm⟩;have G:Hid (m5<=2000):=aA (by have h2:=q.o;rw[show (eM "ann write c f 8").length=15 from rfl] at hm;omega);have v:=aA (C.o E D m5 G.o L h);clear h hm;go_wp2_with fail;refine v.o.mono ?_;rintro e N ⟨rfl,m6,h,hm⟩;have x:=aA h.below;clear h hm;go_wp2;go_ret;exact⟨rfl,x.o⟩
def Mc(w:World)(a:oD)(l:List ByteArray):Prop:=∀k (c:k<l.length),∃b off,a=some ⟨b,off,none⟩/\b<w.heap.size/\w.cell? ⟨b,off+k,none⟩=some (.string l[k])/\l[k].size<=maxLen
def uH(a:World)(P:nP)(E D Q m n:Nat)(s:Sto)(w:World):Prop:=∃M K,sE w E D M K Q m n s/\(∀b,M b->a.heap.size<=b/\¬P b)/\(∀b,P b->b<w.heap.size)/\Below a.heap.size a w
theorem sJ.one{a:World}{E D Q m n:Nat}{s:Sto}{w:World}(h:sJ a E D Q m n s w):uH a (fun _=>False) E D Q m n s w:=by
 obtain⟨M,K,h1,h2,h3⟩:=h;exact⟨M,K,h1,fun b c=>⟨h2 b c,id⟩,fun b h=>h.elim,h3⟩
theorem uH.at0{a:World}{P:nP}{E D Q m n:Nat}{s:Sto}{w:World}(h:uH a P E D Q m n s w):sJ a E D Q m n s w:=by
 obtain⟨M,K,h1,h2,_,h3⟩:=h;exact⟨M,K,h1,fun b c=>(h2 b c).1,h3⟩
theorem uH.sub{c:World}{P P':nP}{E D Q m n:Nat}{s:Sto}{w:World}(h:uH c P E D Q m n s w)(hp:∀b,P' b->P b):uH c P' E D Q m n s w:=by
 obtain⟨M,K,h1,h2,h3,h4⟩:=h;exact⟨M,K,h1,fun b a=>⟨(h2 b a).1,fun h=>(h2 b a).2 (hp b h)⟩,fun b a=>h3 b (hp b a),h4⟩
theorem uH.on{c:World}{P:nP}{E D Q m n:Nat}{s:Sto}{w w':World}(h:uH c P E D Q m n s w)(a:Below w.heap.size w w'):uH c P E D Q m n s w':=by
 obtain⟨M,K,h1,h2,h3,h4⟩:=h;exact⟨M,K,h1.on a,h2,fun b hp=>lL (h3 b hp) a.size,aC h4 a⟩
theorem uH.grow{c:World}{P:nP}{E D Q m n:Nat}{s:Sto}{w w':World}(h:uH c P E D Q m n s w)(a:Below w.heap.size w w'):uH c (fun b=>P b\/(w.heap.size<=b/\b<w'.heap.size)) E D Q m n s w':=by
 obtain⟨M,K,h1,h2,h3,h4⟩:=h;have d:∀b,M b->b<w.heap.size:=by
  obtain⟨J,base,vc,vr,vn,vo,vt,vu,vk,vb,la,lc,lu,h,ra,rc,ru,da,dc,bs,sy,H⟩:=h1;exact H.low
 exact⟨M,K,h1.on a,fun b hm=>⟨(h2 b hm).1,fun h=>h.elim (h2 b hm).2 (fun h=>qA (d b hm))⟩,fun b hp=>hp.elim (fun h=>lL (h3 b h) a.size) (fun h=>h.2),aC h4 a⟩
theorem QH{f:World}{P:nP}{E D Q m n:Nat}{s:Sto}{w:World}(h:uH f P E D Q m n s w):Calls prog 6 #[.pointer (some ⟨E,0,none⟩)] w fun e w'=>∃(K:nP) (vc vr vn vo vt vu vk vb:Value),e=.returned (.agg (aV s vc vr vn vo vt vu vk vb))/\eZ w' K s vc vr vn vo vt vu vk vb/\uH f (fun b=>P b\/K b) E D Q m n s w'/\Below w.heap.size w w':=by
 obtain⟨M,K,d,h2,h3,h4⟩:=h;have g:=d;obtain⟨J,base,vc,vr,vn,vo,vt,vu,vk,vb,la,lc,lu,h,ra,rc,ru,da,dc,bs,sy,H⟩:=d;refine(Cn E J s vc vr vn vo vt vu vk vb _ h w H.sto H.eng).mono ?_;rintro e w' ⟨rfl,a⟩;exact⟨K,vc,vr,vn,vo,vt,vu,vk,vb,rfl,H.sto.on a,⟨M,K,g.on a,fun b hm=>⟨(h2 b hm).1,fun h=>h.elim (h2 b hm).2 (fun c=>(H.kept b c).1 hm)⟩,fun b hp=>lL (hp.elim (h3 b) (fun c=>(H.kept b c).2)) a.size,aC h4 a⟩,a⟩
theorem Qv{c:World}(v:Gl c)(h6:6<=c.heap.size){P:nP}{E D Q m n k:Nat}{s:Sto}{w:World}(h:uH c P E D Q m n s w)(q:bY)(F:q.size<=100000)(j:mH k s)(f:k<=900000)(C:n<=800000)(t:m+400+q.size<=Q)(r:Q<=900000):
 Calls prog 7 #[.pointer (some ⟨E,0,none⟩),.string q] w fun e w'=>e=.returned (.string (gW s q.data.toList).2)/\∃a,uH c P E D Q a (n+1) (gW s q.data.toList).1 w'/\aN P w w'/\m<=a/\a<=m+400+q.size/\(∀o,kW q.data.toList=some o->(cP s o).2.2.2≠0->a=m)/\(kW q.data.toList=none->a=m):=by
 obtain⟨M,K,h1,h2,h3,h4⟩:=h;refine(WM E D Q m n k s q F w h1 (v.on h4) (fun b d=>qA ((h2 b d).1)) j f C t r).mono ?_;rintro e w' ⟨rfl,i,K',a,l,p,G,g,x,y,z,A⟩;refine⟨rfl,a,⟨i,K',l,fun b d=> ?_,fun b hp=>lL (h3 b hp) g.size,?_⟩,g.mono fun b _ hp hm=>(h2 b hm).2 hp,x,y,z,A⟩
 .rcases p b d with h|h
  .exact h2 b h
  .exact⟨qA h4.size,fun hp=>qA (h3 b hp)⟩
 .exact((aJ (ok:=fun b=>b<c.heap.size) h4).trans (g.mono fun b _ d hm=>by have:=(h2 b hm).1;have H:b<c.heap.size:=d;omega)).below (B:=c.heap.size) (fun k f=>⟨f,f⟩)
theorem own:ownKnob prog.godebug=none:=by kernel_rfl
theorem We:laidOutB prog=true:=by kernel_rfl
section
open Go.ChangeShapes Go.WideShapes Go.ChangeAt Go.Deep
def LW:List (String×DataW Unit):=[("math/bits.deBruijn32tab",Rows.laid_math_bits_deBruijn32tab),("math/bits.deBruijn64tab",Rows.laid_math_bits_deBruijn64tab),("internal/strconv.uint64pow10",Rows.laid_internal_strconv_uint64pow10),("strconv.ErrRange",Rows.laid_strconv_ErrRange),("strconv.ErrSyntax",Rows.laid_strconv_ErrSyntax)]
theorem aAj{W:World}(i:W.ShapedOpen prog)(h:laidMetH prog LW W):Gl W/\6<=W.heap.size:=by
 rw[MakeChecks.laidMetH_plain _ _ _ (by kernel_rfl)] at h;obtain⟨H,⟨g0,t0,q,f0,D,q0,z,A,C,x,⟨g1,t1,r,f1,E,q1,f,B,a,y,⟨g2,t2,s,f2,F,I,g,j,o,d,⟨g3,t3,t,f3,G,J,b,l,p,e,_,_⟩,_⟩,_⟩,_⟩,_⟩:=h;obtain rfl:=Option.some.inj ((show prog.globalNamed "strconv.ErrRange"=some 2 by kernel_rfl).symm.trans b);obtain rfl:=Option.some.inj ((show prog.globalNamed "math/bits.deBruijn64tab"=some 5 by kernel_rfl).symm.trans f);have m:(prog.globals[2]?).map (·.type)=some 106:=by kernel_rfl
 obtain rfl:=Option.some.inj (m.symm.trans l);have n:(prog.globals[3]?).map (·.type)=some 305:=by kernel_rfl
 obtain rfl:=Option.some.inj (WB.symm.trans g);obtain rfl:=Option.some.inj (n.symm.trans j);have h6:6<=W.heap.size:=by
  unfold World.var? at a;rw[show prog.globalNamed "math/bits.deBruijn64tab"=some 5 by kernel_rfl] at a
  rcases Nat.lt_or_ge 5 W.heap.size with h2|h2
  .exact h2
  .simp[Array.getElem?_eq_none h2] at a
 refine⟨⟨?_,(laysM220.s1_3 W i),?_⟩,h6⟩
 .obtain⟨w,u,v,c,_,_⟩:=iface_of_trod underlying106 e;have:=World.var?_cell b p 0;rw[Array.eq_one_of_toList c] at this;exact⟨_,by simpa using this,.inr ⟨u,v,rfl⟩⟩
 .unfold Lib.TabIs;rw[o,<-Lib.cells_of_tab (zs:=Lib.pow10Tab) (k:= .u64) underlying305 underlying64 (by kernel_rfl) (by kernel_rfl) d]
section
variable {H:Type} {enc:TypeId×Value->H} {P:Program} {W:World} {sp:Nat->Bool} {held:Bool}
theorem Ez{r:Reach}{b0:Nat}{t e:TypeId}{v:Value}{d:DataW H}{p:List MemPlace}(n:P.underlying t=some (.slice e))(he:P.underlying e=some .string)(s:P.cellsOf e=1)
 (D:Value.okWide P W r b0 t v)(h:DataW.Trod enc P W 0 sp held t v d p):
 ∃(a:oD) (cap:Nat) (l:List ByteArray),v=.slice a l.length cap/\l.length<=maxLen/\Mc W a l:=by
 obtain⟨a0,len,cap,rfl⟩:=okWide_slice n D;obtain⟨fuel,B⟩:=h
 rcases open_strings n he s B with ⟨f,_⟩|⟨a,J,F,j,f,_,I,hm,E,_,A,C⟩
 .simp[Value.cells] at f;obtain⟨rfl,rfl,rfl⟩:=f;exact⟨none,0,[],rfl,qs,fun k g=>absurd g qs⟩
 .simp[Value.cells] at f;obtain⟨rfl,rfl,rfl⟩:=f;have hlen:len<=j.length:=by rw[E];split<;>omega
  have m:(j.take len).length=len:=by rw[List.length_take];omega
  refine⟨some a,cap,j.take len,by rw[m],qo,fun k g=> ?_⟩;have G:k<len:=qo;have w:Sl W W.heap.size (some a) ((j.take len).map Value.string):=Sl.of_cells fun i x c=>by
   simp only[List.getElem?_map,List.getElem?_take] at c;split at c
   .rw[gE qo] at c;simp only[Option.map_some,Option.some.injEq] at c;subst c;rw[A i qo,List.getD_eq_getElem?_getD,gE qo];rfl
   .simp at c
  obtain⟨b,off,q,y,z⟩:=w (by intro o;have:=congrArg List.length o;simp only[List.length_map,m,List.length_nil] at this;omega);exact⟨b,off,q,y,z k _ (by rw[List.getElem?_map,gE g];rfl),C _ (List.mem_of_mem_take (List.getElem_mem g))⟩
end
theorem NO{H:Type}{enc:TypeId×Value->H}{a:Assume}{C:Checked}{os:Os}{f:FuncId}{fn:Func}{s:ChangeSpec}{conds:List PathCond}{apart fresh handsOn again:Bool}{X:World->Array Value->Prop}
 (k:∀(w w':World) (args:Array Value),w.heap=w'.heap->X w args->X w' args)
 (own:ownKnob C.prog.godebug=none)(started:os.Started)(y:C.prog.inits.idxOf? f=none)(l:C.prog.funcs[f]? =some fn)
 (witness:∃(w:World) (tape:Tape) (i:Input),w.os=os/\(w.forCall tape i).Shaped C.prog/\i.vars=[]/\Input.okWide C.prog (w.forCall tape i) .any w.heap.size f i/\
   ((s.pre enc C.prog fn conds apart (w.forCall tape i).memory i.args/\X (w.forCall tape i).memory i.args)/\sizedMet enc C.prog fn (OpenSpec.ofChange s) apart (w.forCall tape i).memory i.args)/\a.holds C.prog (lone (Frame.enter C.prog f i.args .normal) [] (w.forCall tape i)))
 (d:∀(W:World) (base:Nat) (args:Array Value) (b gs:List (DataW H)) (before:List MemPlace),W.ShapedOpen C.prog->
   (∀(j:Nat) t v,fn.params[j]? =some t->args[j]? =some v->Value.okWide C.prog W .any base t v)->
   DataW.Whole enc C.prog fn.params.toList s.vars apart W args.toList b gs before->X W args->
   Calls C.prog f args W fun e c=>∃v,e=.returned v/\s.post enc C.prog fn apart fresh handsOn again W args v c):
 ReturnsInHanded a C os f .any (fun w args=>(s.pre enc C.prog fn conds apart w args/\X w args)/\sizedMet enc C.prog fn (OpenSpec.ofChange s) apart w args) (s.post enc C.prog fn apart fresh handsOn again):=by
 refine returnsInHanded_of_calls own started y witness ?_;intro w tape i _ p _ n o A;obtain⟨_,_,_,g,m,_,_,_,_,q⟩:=n;have e:g=fn:=Option.some.inj (m.symm.trans l);subst e;obtain⟨⟨⟨b,gs,before,hw,z⟩,x⟩,B⟩:=o;have r:=DataW.Whole.of_heap (w':=w.forCall tape i) (by rfl) hw;refine(d (w.forCall tape i) w.heap.size i.args b gs before p q r (k _ _ _ (by rfl) x)).mono fun e c ⟨v,he,hp⟩=> ?_
 subst he;exact ChangeSpec.post_blind hp
theorem Qw(os:Os)(args:Array Value):laidMetH prog LW ((World.doorLaid prog 400 os).forCall (fun _ _=>0) ⟨#[],args,[]⟩).memory:=
 laidMetH_of_parts3 (fuel:=8) (laidMet_of_run' 8 (by kernel_rfl) (by kernel_rfl)) (by kernel_rfl) (by kernel_rfl)
end
theorem QCt{p:Prop}(h:p:=by
 go_quiet (fail)
 go_wp2;go_roundw
 case rel=>exact⟨p+1,qo,by go_num,aA (fI HP11.o ⟨_,rfl⟩)⟩
 case measure=>simp[intOf];omega):p:=h
theorem Ar{p:Prop}(h:p:=by
 go_wp2;go_meet;exact⟨rfl,by rw[h0.o]⟩):p:=h
theorem RG(a:oD)(c:Nat)(l:List ByteArray)(hl:l.length<=maxLen)(w:World)(hs:Mc w a l)(hg:Gl w)(h6:6<=w.heap.size):Calls prog 3 #[.slice a l.length c] w fun e w'=>e=.returned (.bool true)/\Below w.heap.size w w':=by
 have HF:=aA (WN 200000 qe w hg h6);have ck:=aA (fun w' (d:Below w.heap.size w w')=>Mb w' (hg.on d) (lT h6 d.size));obtain⟨HG,H6,HS,cq⟩:=dD hg h6 hs hl;clear hg h6 hs hl;go_enter func3,ntmps3;go_wp2_with fail;refine HF.o.mono ?_;rintro e w1 ⟨E,D,rfl,f⟩;have bd:=aA f;have aw:=f.below;have bj:=aA (Ly (ok:=fun _=>True) a c l cq.o 40 qe w1 (fun k hk=>by
  obtain⟨b,off,h1,h2,h3,h4⟩:=HS.o k hk;exact⟨b,off,h1,lL h2 aw.size,(aw.cell (p:=⟨b,off+k,none⟩) h2).trans h3,h4⟩))
 clear f aw HF;go_wp2_with fail;refine bj.o.mono ?_;rintro e w2 ⟨v,rfl,n,d⟩;obtain⟨L,hL⟩:=xE (yX l 40);rw[<-hL] at n;have N:Hid (L.length<=40/\∀x∈L,x.size<=600):=aA (by
  rw[hL];unfold yX;refine⟨by rw[List.length_map,List.length_take];omega,fun x hx=> ?_⟩;obtain⟨y,_,rfl⟩:=List.mem_map.1 hx;exact Lx y)
 obtain⟨la,lc,rfl,-⟩:=n.slice;obtain⟨cj,cr,dh⟩:=aY (bd.o.one.grow d) (aH.inb vO n) d;clear d n hL bd bj;go_wp2;go_loopw [26] (fun i wr=>∃(k m:Nat) (s:Sto),k<=L.length/\i=.int .i64 k/\Hid (uH w (fun b=>w1.heap.size<=b/\b<w2.heap.size) E D 200000 m k s wr)/\Hid (m<=1000 * k)/\Hid (mH k s)/\Hid (aN (fun b=>w1.heap.size<=b/\b<w2.heap.size) w2 wr)) (fun i _=>L.length - (intOf i).toNat)
 case atStart=>exact⟨0,0,mQ,qo,rfl,aA (cj.o.sub fun b d=> .inr d),aA qo,aA VV,aA (aJ (Below.refl _ _))⟩
 case round=>
  obtain⟨k,m,s,hk,rfl,HE,HM,HB,ar⟩:=hrel;by_cases b6:k<L.length
  .have ct:=aA (aH.aCT vO cr.o ((ar.o).mono fun b _ d=>by exact⟨d.1,d.2⟩));obtain⟨b,off,r,rfl,dn,dp,⟨rfl,b5⟩,hc⟩:=aH.at vO ct.o b6 qe;obtain⟨q,U⟩:=xE (L[k]);rw[<-U] at b5 hc;have df:=hc 0 _ rfl;rw[Nat.mul_one,Nat.add_zero] at df;have b9:q.size<=600:=by rw[U];exact N.o.2 _ (List.getElem_mem b6)
   have HQ:=aA b9;have bq:=aA (QH HE.o);have cy:(k:Int)<(L.length:Int):=qo;clear hc b5 U b9;go_wp2_with fail;refine bq.o.mono ?_;rintro e w3 ⟨K,vc,vr,vn,vo,vt,vu,vk,vb,rfl,J,f,S⟩;obtain⟨ca,cc,ra,rc,na,nc,oa,oc,ta,tc,ua,uc,ka,kc,ba,bc,rfl,-,rfl,-,rfl,-,rfl,-,rfl,-,rfl,-,rfl,-,rfl,-⟩:=J.sl;have a8:=aA f;have Y:=aA S;unfold aV;clear J f S bq;go_upto_region 8 with (refine eC rfl _ (.tmp 7) (.tmp 31) rfl w3.heap.size _ rfl rfl _ _ (aK _ _ _ rfl) (by kernel_rfl) rfl (by simp[Value.oneCell']) ?_;intro w4 ao bs)
   have ah:=aA (nG (lR _) bs.o);have bb:=aA (a8.o.grow ah.o);have cx:=aA (aD ao.o);have bg:=aA (Qv HG.o H6.o bb.o q (qA HQ.o) HB.o (qA N.o.1) (qA N.o.1) (qF HQ.o HM.o N.o.1) qe);clear bs;go_wp2_with fail;refine bg.o.mono ?_;rintro e w5 ⟨rfl,m5,hA5,au,-,b7,-⟩;obtain⟨bl,cu,bt⟩:=aY (aF ao.o au (.inr ⟨lR _,cx.o⟩)) b7 au;obtain⟨t,ht⟩:=xE ((gW s q.data.toList).1);obtain⟨Q,av⟩:=xE ((gW s q.data.toList).2);rw[<-ht] at hA5;rw[<-av];obtain⟨cg,HT,bu⟩:=aY hA5 (And.intro ht av) (QH hA5);clear hA5 au b7 ht av bg ao;go_wp2_with fail;refine bu.o.mono ?_;rintro e w6 ⟨K6,ep,tr,tn,to_,tt,tu,tk,tb,rfl,J,f,ax⟩;obtain⟨dk,dm,ek,el,ed,ee,ef,eg,en,eo,er,et,eb,ec,di,dj,rfl,-,rfl,-,rfl,-,rfl,-,rfl,-,rfl,-,rfl,-,rfl,-⟩:=J.sl;obtain⟨bz,ag,bf,bm⟩:=dD J f ax (aE bl.o ax);unfold aV;clear J f ax bu bl;go_upto_region 10 with (refine eC rfl _ (.tmp 9) (.tmp 36) rfl w6.heap.size _ rfl rfl _ _ (aK _ _ _ rfl) (by kernel_rfl) rfl (by simp[Value.oneCell']) ?_;intro w7 bo bw)
   have z:=aA (nG (lR _) bw.o);have G:=aA (PV q (qA HQ.o) w7 (HG.o.on (aC ag.o.at0.below z.o)));clear bw;go_wp2_with fail;refine G.o.mono ?_;rintro e w8 ⟨b1,rfl,ae⟩;obtain⟨H,R⟩:=xE (kW q.data.toList);rw[<-R] at b1;rw[<-R];have P:Hid (t.aCR=s.aCR+(if H.isSome=true/\(H.getD IJ).aCJ=8/\Q=str "ok" then (H.getD IJ).aC6 else 0)):=aA (by
    rw[HT.o.1,HT.o.2]
    rcases H with _|o
    .rw[QC R.symm,iN (fun h=>by simp at h)];simp
    .rw[QD R.symm];have:=Kw s o;simpa using this)
   obtain⟨Z,bn,bp⟩:=aY ae (aE (aE bm.o z.o) ae) (aE bo.o ae);obtain⟨O,hO⟩:=xE (H.getD IJ);obtain⟨a7,hI⟩:=xE H.isSome;rw[<-hO,<-hI] at P ⊢;unfold fA bZ;clear b1 ae R G bm bo hO hI;go_upto_region 11 with (refine eC rfl _ (.tmp 10) (.tmp 40) rfl w8.heap.size _ rfl rfl _ _ (aK _ _ _ rfl) (by kernel_rfl) rfl (by simp[Value.oneCell']) ?_;intro V aq bx)
   have A:=aA (nG (lR _) bx.o);clear bx;obtain⟨⟨b0,-,-,-,-,-,-,-,b8,-,-,-⟩,-⟩:=bL aq.o;have zb:=aD aq.o;obtain⟨B,hB⟩:∃B:Bool,B=(a7&&decide (O.aCJ=8)&&decide (Q=str "ok")):=⟨_,rfl⟩;obtain⟨ad,ay⟩:=xE ((if B=true then O.aC6 else 0));have P:Hid (t.aCR=s.aCR+ad):=aA (by
    rw[P.o,ay,hB]
    cases a7<;>simp)
   have ai:=aA ay;have M:=aA hB;clear ay hB;go_upto_region 12 with (fail)
   go_cut [51] from 42 to 50 (fun v w'=>w'=V/\v=.bool B)
   case first=>
    cases a7
    .have h0:Hid (B=false):=aA (M.o.trans (by rw[Bool.false_and,Bool.false_and]));exact Ar
    .by_cases h8:O.aCJ=8
     .have e8:(O.aCJ==(8:Int))=true:=bQ.2 h8;by_cases I:Q=str "ok"
      .have h0:Hid (B=true):=aA (M.o.trans (by rw[dX h8,dX I];rfl));obtain⟨d1,e1⟩:=fN Q [111,107] (I.trans DZ);clear h8 I;exact Ar
      .have h0:Hid (B=false):=aA (M.o.trans (by rw[dX h8,dF I];rfl));obtain⟨d1,e1⟩:=fG Q [111,107] (fun e=>I (e.trans DZ.symm));clear h8 I;exact Ar
     .have e8:(O.aCJ==(8:Int))=false:=bN.2 h8;have h0:Hid (B=false):=aA (M.o.trans (by rw[dF h8,Bool.and_false,Bool.false_and]));clear h8;exact Ar
   case rest=>
    obtain⟨hw,n⟩:=hcut;subst n;rw[hw];clear hw;go_upto_if 51 with (fail)
    go_cut [12] from 27 to 53 (fun v w'=>w'=V/\v=.int .i64 ad)
    case first=>
     cases B
     .have h0:=aA (ai.o.trans (iN qe));exact Ar
     .have h0:=aA (ai.o.trans (iP rfl));exact Ar
    case rest=>
     obtain⟨hw,n⟩:=hcut;subst n;rw[hw];clear hw;have a6:=P.o;have A7:=qK bn A.o;have X:=qK bp A.o;have cw:Hid (aN (fun b=>w1.heap.size<=b/\b<w2.heap.size) w2 V):=aA (ar.o.trans ((aJ Y.o).trans ((aJ ah.o).trans ((bt.o.mono fun b _ d=> .inl (.inl d)).trans ((aJ bf.o).trans ((aJ z.o).trans ((aJ Z.o).trans (aJ A.o))))))));have ch:=aA ((ag.o.sub (P':=fun b=>w1.heap.size<=b/\b<w2.heap.size) fun b d=> .inl (.inl (.inl d))).on (aC (aC z.o Z.o) A.o));have F:Hid (mH (k+1) t):=aA (by rw[HT.o.1];exact HB.o.line _);have cm:=aA (aH.on dK bz.o.aCK (aC (aC z.o Z.o) A.o));have db:=HB.o.ok.1.aCR;have dc:=F.o.ok.1.aCR;have dd:IntKind.i64.wrap (s.aCR+ad)=t.aCR:=by rw[IntWalk.i64_in _ qo];omega
     have de:wrap64 (s.aCR+ad)=t.aCR:=by rw[IntWalk.wrap64_in _ qo];omega
     obtain⟨⟨a0,-,-,-,-,-,-,-,-,-,-,-,-⟩,-⟩:=bS A7.o;obtain⟨⟨c0,c1,-,-,-,-,-,-,-,-,-,-,-⟩,-⟩:=bS X.o;have z7:=aD A7.o;have z9:=aD X.o;clear bn bp ag bz Y ah bt bf z Z A ar a8 bb cg P HT aq b0 b8 zb db dc a6 ai M;have cv:=aA F.o.ok.1.each;go_wp2;go_loopw [64] (fun i wr=>∃j:Nat,j<=t.aCK.length/\i=.int .i64 j/\Hid (Below V.heap.size V wr)) (fun i _=>t.aCK.length - (intOf i).toNat)
     case atStart=>exact⟨0,qo,rfl,aA (Below.refl _ _)⟩
     case round=>
      obtain⟨j,hj,rfl,HJ⟩:=hrel;clear a0 c0 c1 z7 z9 dd de;by_cases az:j<t.aCK.length
      .have cz:(j:Int)<(t.aCK.length:Int):=qo;obtain⟨b2,eh,r2,rfl,_,dq,⟨vf,vl,rfl,T⟩,g⟩:=aH.at dK (aH.on dK cm.o HJ.o) az qe;obtain⟨fa,fc,rfl,_⟩:=T.2.2.2.1.slice;obtain⟨ga,gc,rfl,_⟩:=T.2.2.2.2.slice;have al:=aA (cv.o _ (List.getElem_mem az));have aj:=aA (List.getElem_mem az);obtain⟨C,hC⟩:=xE (t.aCK[j]);rw[<-hC] at T g al aj;obtain⟨W,x1,x2,x3,x4⟩:=FM g;rw[Nat.add_zero] at W;have cp:=aA T.2.2.2.2;clear g T hC;go_upto_region 19 with (refine eC rfl _ (.tmp 14) (.tmp 67) rfl wr.heap.size _ rfl rfl _ _ (aK _ _ _ rfl) (by kernel_rfl) rfl (by simp[Value.oneCell']) ?_;intro cd aa ab)
       have be:=aA (nG (lR _) ab.o);have ak:=qB HJ be.o;obtain⟨⟨-,-,-,-,y4⟩,-⟩:=dJ aa.o;have zy:=aD aa.o;have bh:=aA (aH.on bW cp.o be.o);clear W x1 x2 x3 x4 ab;go_wp2;go_loopw [71] (fun i wr=>∃p:Nat,p<=C.log.length/\i=.int .i64 p/\Hid (Below cd.heap.size cd wr)) (fun i _=>C.log.length - (intOf i).toNat)
       case atStart=>exact⟨0,qo,rfl,aA (Below.refl _ _)⟩
       case round=>
        obtain⟨p,hp,rfl,G⟩:=hrel;clear y4 zy;by_cases a1:p<C.log.length
        .have da:(p:Int)<(C.log.length:Int):=qo;obtain⟨b3,ei,r3,rfl,_,dr,⟨rfl,du⟩,g⟩:=aH.at bW (aH.on bW bh.o G.o) a1 qe;obtain⟨W,x1,x2⟩:=cR3 g;rw[Nat.add_zero] at W;clear g;go_upto_region 22 with (refine eC rfl _ (.tmp 16) (.tmp 75) rfl wr.heap.size _ rfl rfl _ _ (aK _ _ _ rfl) (by kernel_rfl) rfl (by simp[Value.oneCell']) ?_;intro eu bk br)
         have cl:=aA (nG (lR _) br.o);have HP11:=qB G cl.o;obtain⟨⟨c0,-,-,-,-,-,-,-,-,-,-,-,-⟩,-⟩:=bS (aE X.o (aC ak.o HP11.o));obtain⟨⟨-,-,-,-,y4⟩,-⟩:=dJ (aE aa.o HP11.o);obtain⟨⟨h0,-,-⟩,-⟩:=cD bk.o;have z9:=aD (aE X.o (aC ak.o HP11.o));have zy:=aD (aE aa.o HP11.o);have zh:=aD bk.o;have a6:=al.o.aDs _ (List.getElem_mem a1);have f1:decide (C.log[p].aCR<(0:Int))=false:=dF qo;have f2:decide (C.log[p].aCR > t.aCR)=false:=dF qo;clear W x1 x2 br a6;simp only[Act.put];by_cases af:0<p
         .obtain⟨q,U⟩:∃q,q+1=p:=⟨p - 1,qo⟩;have cb:q<C.log.length:=qo;obtain⟨b4,ej,r4,e4,_,ds,⟨rfl,dv⟩,g⟩:=aH.at bW (aH.on bW bh.o HP11.o) cb qe;injection e4 with e5;injection e5 with e6 e7;subst e6 e7;have g0:=g 0 _ rfl;rw[Nat.add_zero] at g0;have f3:decide ((p:Int) > (0:Int))=true:=dX qo;have f5:decide (0<p)=true:=dX af;have c7:=(List.pairwise_iff_getElem.1 al.o.order) q p cb a1 qo;have f4:decide (C.log[p].aCR<C.log[q].aCR)=false:=dF qo;have c6:C.log.length<=256:=(sZ.1 F.o.ok.2).2.2 _ aj.o;have dz:IntKind.i64.wrap ((p:Int) - 1)=(q:Int):=by rw[IntWalk.i64_in _ qo];omega
          have ea:wrap64 ((p:Int) - 1)=(q:Int):=by rw[IntWalk.wrap64_in _ qo];omega
          have dy:(q:Int)<(C.log.length:Int):=qo;have dx:(0:Int)<=(q:Int):=qo;generalize C.log[q]=dw at *;generalize C.log[p]=c8 at *;clear g c7 U af;exact QCt
         .have f3:decide ((p:Int) > (0:Int))=false:=dF qo;have f5:decide (0<p)=false:=dF af;clear af;have c6:C.log.length<=256:=(sZ.1 F.o.ok.2).2.2 _ aj.o;generalize C.log[p]=c8 at *;exact QCt
        .have da:¬((p:Int)<(C.log.length:Int)):=qo;have cn:=qB ak G.o;have dt:=F.o.ok.1.few;go_wp2;go_roundw
         case rel=>exact⟨j+1,qo,by go_num,cn⟩
         case measure=>simp[intOf];omega
      .have cz:¬((j:Int)<(t.aCK.length:Int)):=qo;have cf:=aA (ch.o.on HJ.o);have ab:=aA (cw.o.trans (aJ HJ.o));have h40:=N.o.1;have hm:m5<=1000 * (k+1):=qF cu.o HM.o HQ.o;go_wp2;go_roundw
       case rel=>exact⟨k+1,m5,t,qo,by go_num,cf,aA hm,F,ab⟩
       case measure=>simp[intOf];omega
  .have cy:¬((k:Int)<(L.length:Int)):=qo;go_wp2_with fail;refine(ck.o _ HE.o.at0.below).mono ?_;rintro e w3 ⟨rfl,S⟩;have Y:=aA (aC HE.o.at0.below S);clear S;go_wp2;go_returns;exact⟨rfl,Y.o⟩
section
namespace topTicks
open Go.ChangeShapes Go.WideShapes Go.ChangeAt
set_option maxRecDepth 100000 in
theorem Zc(os:Os)(started:os.Started)(H:Type)(enc:TypeId×Value->H):
 ReturnsInHanded {} checked os 3 .any (fun w args=>(Rows.topTicksSpec.pre enc prog f3 [] false w args/\laidMetH prog LW w)/\sizedMet enc prog f3 (OpenSpec.ofChange Rows.topTicksSpec) false w args)
  (Rows.topTicksSpec.post enc prog f3 false true false false):=by
 refine NO (C:=checked) (X:=fun w _=>laidMetH prog LW w) (fun _ _ _ r h=>h.of_heap r) own started (by kernel_rfl) func3
  (ChangeSpec.witness_shaped (enc:=enc) (C:=checked) (os:=os) (X:=fun w _=>laidMetH prog LW w) false (World.doorLaid prog 400 os) #[.slice none 0 0] 8 rfl (World.shaped_of_RefB (by kernel_rfl) (by kernel_rfl)) (by kernel_rfl) (by kernel_rfl) (by kernel_rfl) (Qw os _)) ?_
 intro W base args i gs before y d b k;have c:∀(j:Nat) t v,f3.params[j]? =some t->args[j]? =some v->Value.okWide prog W .any base t v:=d;have n:=b;obtain⟨p,q,hA0,l,rfl,J,K⟩:=b;have hA:DataW.TrodAll enc prog W 0 (fun _=>true) true f3.params.toList args.toList i p:=hA0;rw[params3] at hA c;obtain⟨v0,L,d0,G,B,q0,I,rfl,rfl,h0,D⟩:=trodAll_cons hA;obtain⟨rfl,rfl,rfl⟩:=trodAll_nil D;obtain rfl:args=#[v0]:=by cases args;simp_all
 obtain⟨rfl,rfl⟩:=trodVars_none l;have f:=h0;have A:∀x∈B,x.block<W.heap.size:=by obtain⟨m,hm⟩:=f;exact DataW.trod_lt m _ _ _ hm
 obtain⟨a0,g,z,rfl,s,E⟩:=Ez underlying22 underlying9 (by kernel_rfl) (c 0 22 v0 rfl rfl) h0;obtain⟨o,h6⟩:=aAj y k;clear hA0 d;refine(RG a0 g z s W E o h6).mono fun e F ⟨he,a⟩=> ?_
 subst he;exact⟨_,rfl,_,_,_,[],_,[],n,trodAll_mk1 (shut_bool underlying4 _),(trodAll_cons_mk (Below.trod We (by kernel_rfl) (of_decide_eq_true (by kernel_rfl)) f a A) trodAll_mk0),rfl,a.frame _,fun h=>by cases h⟩
set_option maxRecDepth 100000 in
theorem Zd:joinedFacts checked.prog 3 f3 Rows.topTicksSpec Rows.topTicksRow=true:=by
 unfold joinedFacts;simp only[Bool.and_eq_true]
 repeat' apply And.intro
 all_goals (as_aux_lemma=>kernel_rfl)
set_option maxRecDepth 100000 in
theorem aCz:Rows.TopTicksSaid:=
 OpenClaim.holds_of_wide 3 f3 rfl rfl rfl rfl rfl rfl rfl ⟨rfl,rfl,rfl,rfl,rfl⟩ rfl rfl rfl rfl rfl (by as_aux_lemma=>kernel_rfl) func3 Zd
  (of_decide_eq_true (by as_aux_lemma=>kernel_rfl)) (by unfold Func.isWrapper;first|(rw[iP (by decide +kernel)];kernel_rfl)|(rw[iN (by decide +kernel)];exact⟨rfl,rfl⟩))
  (fun os started H enc _=>Zc os started H enc)
theorem proved:Rows.TopTicksCardSaid:=
 Claim7.holds_tied_plain_at .later [] [.data,.data,.data,.sentinel,.sentinel] true _ true
  aCz (fun _ h=>by cases h) (by as_aux_lemma=>kernel_rfl) (fun _ h=>by cases h) topTicks_row_tie rfl ⟨rfl,rfl⟩ (by as_aux_lemma=>kernel_rfl) rfl
  (fun f fn c d=>by
    obtain rfl:f=3:=Option.some.inj ((show prog.funcNamed Rows.topTicksRow.func=some 3 by kernel_rfl).symm.trans c) |>.symm;obtain rfl:fn=f3:=(Option.some.inj (func3.symm.trans d)).symm;exact⟨by as_aux_lemma=>kernel_rfl,fun j t a=>by
     rw[params3] at a;have hm:t∈[22]:=by simpa using Array.mem_of_getElem? a
     have b:([22].all fun u=> !prog.wantsStandIn u)=true:=by kernel_rfl
     exact(show prog.wantsStandIn t=false by simpa using List.all_eq_true.1 b t hm)⟩)
  (by as_aux_lemma=>kernel_rfl)
#print axioms proved
end topTicks
end
end Go.Proofs.YtgoanbpcdhmfkaaGreatDoor
