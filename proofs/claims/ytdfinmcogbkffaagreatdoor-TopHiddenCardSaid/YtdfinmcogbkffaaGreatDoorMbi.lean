/- Lemmas. -/
import Derived.Test.YtdfinmcogbkffaaGreatDoorMbh
namespace Go.Proofs.YtdfinmcogbkffaaGreatDoor
open Go.RowKit
set_option linter.unusedVariables false
set_option linter.unusedSimpArgs false
set_option maxHeartbeats 16000000
open _root_.Go.Proofs.Tryz
set_option maxRecDepth 20000
theorem WE:dY prog 54 173 3 32:=fQ (z:= .agg #[.int .i64 0,.int .i64 0,.string ByteArray.empty]) underlying54 (by kernel_rfl) rfl qe
theorem sH(m n:Mk):((m.1,m.2)==n)=decide (m=n):=by rw[Bool.eq_iff_iff];simp
def wT(l:List Ob)(w:World)(e:Ending)(w':World):Prop:=∃v,e=.returned v/\aH jZ w' (fun b=>w.heap.size<=b) v l/\Below w.heap.size w w'
theorem ZD{α:Type}(p:α->Bool)(l:List α)(k:Nat)(a:k<l.length):(l.take (k+1)).filter p=(l.take k).filter p++(if p l[k]=true then [l[k]] else []):=by
 rw[List.take_succ_eq_append_getElem a,List.filter_append]
 congr 1
 by_cases h:p l[k]=true
 .rw[iP h,List.filter_cons_of_pos h];rfl
 .rw[iN h,List.filter_cons_of_neg (by simpa using h)];rfl
theorem ZE{α:Type}(p:α->Bool)(l:List α)(k:Nat):((l.take k).filter p).length<=k:=by
 have h1:=List.length_filter_le p (l.take k);have h2:(l.take k).length<=k:=List.length_take_le _ _;omega
theorem yE{ok:nP}(v:Value)(l:List Ob)(m:Mk)(hm:Cm.QP m)(w:World)(h:aH jZ w ok v l):Calls prog 225 #[v,.complex .f64 (Cm.qb m.1) (Cm.qb m.2)] w (wT (gQ l m) w):=by
 obtain⟨a,c,rfl,aj⟩:=h.slice;have HS:=aA h;obtain⟨P,J⟩:∃P,decide (m=(4,0))=P:=⟨_,rfl⟩;obtain⟨D,H⟩:∃D,decide (m=(0,4))=D:=⟨_,rfl⟩;have E:((FloatKind.f64.format.order (Cm.qb m.1) 4607182418800017408==some .eq)&&(FloatKind.f64.format.order (Cm.qb m.2) 0==some .eq))=P:=(Cm.iW m.1 m.2 4 0 hm qe qe).trans ((sH m (4,0)).trans J);have G:((FloatKind.f64.format.order (Cm.qb m.1) 0==some .eq)&&(FloatKind.f64.format.order (Cm.qb m.2) 4607182418800017408==some .eq))=D:=(Cm.iW m.1 m.2 0 4 hm qe qe).trans ((sH m (0,4)).trans H);obtain⟨F,I⟩:∃F:Ob->Bool,F=(fun o=>(decide (o.on=1)&&P)||(decide (o.on=2)&&D)):=⟨_,rfl⟩;have HR:Hid (gQ l m=l.filter F):=aA (by unfold gQ;rw[I,J,H]);have HF:=aA (show ∀x,F x=((decide (x.on=1)&&P)||(decide (x.on=2)&&D)) from fun x=>by rw[I]);generalize Cm.qb m.1=ma at *;generalize Cm.qb m.2=mb at *;have Q:=aA aj;clear h J H I hm;unfold wT;rw[HR.o];have E1:=aA E;have E2:=aA G;clear E G
 rcases P with _|_<;>rcases D with _|_
 all_goals
  have E:=E1.o;have G:=E2.o;go_enter func225,ntmps225;go_wp2;go_loopw [5,10] (fun v i wr=>∃(k:Nat) (t:oD) (n y:Nat) (st:List Ob),k<=l.length/\i=.int .i64 k/\v=.slice t n y/\Hid (st=(l.take k).filter F)/\Hid (aM jZ 3 173 wr w.heap.size (fun b=>w.heap.size<=b) (.slice t n y) st)/\Hid (Below w.heap.size w wr)) (fun _ i _=>l.length - (intOf i).toNat)
  case atStart=>exact⟨0,none,0,0,[],qo,rfl,rfl,aA qs,aA aM.nil,aA (Below.refl _ _)⟩
  case round=>
   obtain⟨k,t,n,y,st,hk,rfl,rfl,e,p,g⟩:=hrel;by_cases Y:k<l.length
   .have ai:(k:Int)<(l.length:Int):=qo;obtain⟨b,off,r,rfl,_,ao,⟨rfl,V⟩,U⟩:=aH.at aO (HS.o.on aO g.o) Y qe;obtain⟨x0,x1,x2⟩:=cR3 U;rw[Nat.add_zero] at x0;obtain⟨j,d,ae,ag,S,ak⟩:=hD6 (ZD F l k Y) (HF.o l[k]) V (ZE F l k) g.o.size hk;clear U V;generalize hx:l[k]=x at *;clear hx;have N:=qB g (aB wr (.cells #[.int .i64 x.on,.int .i64 x.aDy,.string x.arg] 173));obtain⟨aa,R,A⟩:=aY (aC N.o (aB _ (.cells #[.int .i64 x.on,.int .i64 x.aDy,.string x.arg] 173))) (aK (wr.alloc (.cells #[.int .i64 x.on,.int .i64 x.aDy,.string x.arg] 173)) (.cells #[.int .i64 x.on,.int .i64 x.aDy,.string x.arg] 173) (wr.heap.size+1) qs) (p.o.on aO (aB wr (.cells #[.int .i64 x.on,.int .i64 x.aDy,.string x.arg] 173)));have z:=aA (A.o.on aO (aB _ (.cells #[.int .i64 x.on,.int .i64 x.aDy,.string x.arg] 173)));have af:Hid (st.length<=1000000):=aA (by rw[e.o];have:=ag.o;have:=Q.o;omega);obtain⟨q,K⟩:∃q,decide (x.on=1)=q:=⟨_,rfl⟩;obtain⟨s,L⟩:∃s,decide (x.on=2)=s:=⟨_,rfl⟩;rw[K,L] at d;have al:(x.on==1)=q:=K;have an:(x.on==2)=s:=L;clear K L
    rcases q with _|_<;>rcases s with _|_
    all_goals first
     |(have f:F x=false:=d.o
       have C:Hid (st=(l.take (k+1)).filter F):=aA (by rw[j.o,iN (by rw[f];decide),List.append_nil];exact e.o);clear j f d R z p;go_wp2;go_roundw
       case rel=>exact⟨k+1,t,n,y,st,qo,by go_num,rfl,C,A,N⟩
       case measure=>simp[intOf];omega)
     |(have f:F x=true:=d.o
       have C:=aA (by rw[j.o,iP f,<-e.o]:(l.take (k+1)).filter F=st++[x]);clear j f d p A;go_wp2_with (at_builtin;refine cA (base:=w.heap.size) WE aO rfl (.tmp 30) (.tmp 32) rfl _ st rfl z.o (wr.heap.size+1) 1 _ _ _ x rfl R.o ⟨rfl,ae.o⟩ af.o qo (by have:=S.o;simp only[World.size_alloc];omega) ?_;intro l' X Z c2 w9 T W ah;have ad:=aA T;have ab:=aA (z.o.below aa.o W (lR _) (by have:=S.o;simp only[World.size_alloc];omega));have B:=aA X.o;clear T W ah X)
       go_roundw
       case rel=>exact⟨k+1,Z,l'.length,c2,l',qo,by go_num,rfl,aA (by rw[B.o,C.o]),ad,ab⟩
       case measure=>simp[intOf];omega)
   .have ai:¬(k:Int)<(l.length:Int):=qo;obtain rfl:k=l.length:=qo;have O:Hid (st=l.filter F):=aA (by have:=e.o;rwa [List.take_of_length_le (lR _)] at this);have B:Hid (st.length<=1000000):=aA (by rw[O.o];have h1:=List.length_filter_le F l;have:=Q.o;omega);clear e;go_wp2;go_returns;rw[<-O.o];refine⟨_,rfl,?_,g.o⟩;exact p.o.sl B.o _ (fun b M _=>M) (fun b M _=>M) aO
theorem QCa{p:Prop}(h:p:=by
 refine⟨_,rfl,?_,oA HB1.o (Nat.le_succ _)⟩;exact aH.more aO (aH.aDH aO HS1.o (((aI _).trans (aI _)).mono fun k _ hk=>hk.2)) (fun b hb=>hb.1)):p:=h
theorem Uk{p:Prop}(h:p:=by
 go_enter func221,ntmps221;go_wp2;refine bR (.agg #[.complex .f64 0 0,.slice none 0 0]) ?_;exact tJ rfl (aC (aB _ _) (aB _ _)) rfl rfl):p:=h
theorem QBa{p:Prop}(h:p:=by
 cases deny
 .go_enter func221,ntmps221;go_wp2_with fail;refine(HIP.o _).mono ?_;rintro e w1 ⟨rfl,rfl⟩;go_wp2;refine bR (.agg #[.complex .f64 4602678819172646912 0,.slice none 0 0]) ?_;exact tJ rfl (aC (aB _ _) (aB _ _)) rfl rfl
 .go_enter func221,ntmps221;go_wp2_with fail;refine(HID.o _).mono ?_;rintro e w1 ⟨rfl,rfl⟩;go_wp2;refine bR (.agg #[.complex .f64 0 4602678819172646912,.slice none 0 0]) ?_;exact tJ rfl (aC (aB _ _) (aB _ _)) rfl rfl):p:=h
def mZ(r:Mk×List Ob)(w:World)(e:Ending)(w':World):Prop:=∃vo,e=.returned (.agg #[.complex .f64 (Cm.qb r.1.1) (Cm.qb r.1.2),vo])/\aH jZ w' (fun b=>w.heap.size<=b) vo r.2/\Below w.heap.size w w'
theorem tJ{r:Mk×List Ob}{a b:Nat}{w w':World}(c:r=((a,b),[]))(h:Below w.heap.size w w'){x y:Nat}(d:Cm.qb a=x)(e:Cm.qb b=y):mZ r w (.returned (.agg #[.complex .f64 x y,.slice none 0 0])) w':=by
 subst c d e;exact⟨_,rfl,aH.nil,h⟩
theorem oA{W w:World}{g:Nat}{a b:Value}(h:Below W.heap.size W w)(c:W.heap.size<=g):Below W.heap.size W ((w.setCell ⟨g,0,none⟩ a).setCell ⟨g,1,none⟩ b):=(h.setCell c _).setCell c _
theorem uL(p:Addr)(x y:Nat)(w:World):(store p (.complex .f64 x y)).run prog w=stored prog w p (.complex .f64 x y) .plain:=run_store prog w p _ _ rfl
theorem Fk{ok:nP}(r:Ru)(p m i:oD)(s q o n j:Nat)(t c:Nat)(G:t<=2)(E:c<=2)(w:World)(D:aH jZ w ok (.slice i r.aDP.length j) r.aDP):
 Calls prog 221 #[.agg #[.string r.id,.bool r.aEa,.slice p s q,.slice m o n,.slice i r.aDP.length j],.int .i64 t,.int .i64 c] w (mZ (EI r t c) w):=by
 have x:=aA (aC (aB w (.cells #[.string r.id,.bool r.aEa,.slice p s q,.slice m o n,.slice i r.aDP.length j] 260)) (aB _ (.cells #[.complex .f64 0 0,.slice none 0 0] 87)));have B:=aA (D.on aO x.o);have C:Hid (((w.alloc (.cells #[.string r.id,.bool r.aEa,.slice p s q,.slice m o n,.slice i r.aDP.length j] 260)).alloc (.cells #[.complex .f64 0 0,.slice none 0 0] 87)).heap[w.heap.size+1]? =some (.cells #[.complex .f64 0 0,.slice none 0 0] 87 (0,0))):=aA (aK (w.alloc (.cells #[.string r.id,.bool r.aEa,.slice p s q,.slice m o n,.slice i r.aDP.length j] 260)) (.cells #[.complex .f64 0 0,.slice none 0 0] 87) _ qs);have HIP:Hid (∀w,Calls prog 224 #[.complex .f64 4607182418800017408 0] w fun e w'=>e=.returned (.complex .f64 4602678819172646912 0)/\w=w'):=aA (fun w=>Cm.aBD (4,0) ⟨qe,qe⟩ w);have HID:Hid (∀w,Calls prog 224 #[.complex .f64 0 4607182418800017408] w fun e w'=>e=.returned (.complex .f64 0 4602678819172646912)/\w=w'):=aA (fun w=>Cm.aBD (0,4) ⟨qe,qe⟩ w);have A:Hid (∀w ok v l,aH jZ w ok v l->Calls prog 225 #[v,.complex .f64 4607182418800017408 0] w (wT (gQ l (4,0)) w)):=aA (fun w ok v l h=>yE v l (4,0) ⟨qe,qe⟩ w h);have z:Hid (∀w ok v l,aH jZ w ok v l->Calls prog 225 #[v,.complex .f64 0 4607182418800017408] w (wT (gQ l (0,4)) w)):=aA (fun w ok v l h=>yE v l (0,4) ⟨qe,qe⟩ w h);unfold wT at A z;have J:=uL;obtain⟨id,deny,target,cond,obls⟩:=r;simp only at *;clear D;have H:t=0\/t=1\/t=2:=qo;have F:c=0\/c=1\/c=2:=qo;clear G E
 rcases H with rfl|rfl|rfl
 .show Calls prog _ #[_,.int .i64 0,_] w _
  cases deny
  .exact Uk
  .exact Uk
 .show Calls prog _ #[_,.int .i64 1,_] w _;exact QBa
 .rcases F with rfl|rfl|rfl
  .show Calls prog _ #[_,.int .i64 2,.int .i64 0] w _
   cases deny
   .exact Uk
   .exact Uk
  .show Calls prog _ #[_,.int .i64 2,.int .i64 1] w _;exact QBa
  .show Calls prog _ #[_,.int .i64 2,.int .i64 2] w _
   cases deny
   .have f:=aA (A.o _ _ _ _ B.o);go_enter func221,ntmps221;go_wp2_with fail;refine f.o.mono ?_;rintro e w1 ⟨v,rfl,d,a⟩;obtain⟨y,vc,rfl,_⟩:=d.slice;have HB1:=qB x a;have HS1:=aA (d.more aO (ok':=fun b=>w.heap.size<=b/\b≠w.heap.size+1) (fun b hb=>by simp only[World.size_alloc] at hb;exact⟨qo,qo⟩));have g:=qK C a;obtain⟨⟨u0,u1⟩,_⟩:=fL g.o;have I:=aD g.o;clear d a f;go_wp2;refine bR (.agg #[.complex .f64 4607182418800017408 0,.slice y (gQ obls (4,0)).length vc]) ?_;exact QCa
   .have f:=aA (z.o _ _ _ _ B.o);go_enter func221,ntmps221;go_wp2_with fail;refine f.o.mono ?_;rintro e w1 ⟨v,rfl,d,a⟩;obtain⟨y,vc,rfl,_⟩:=d.slice;have HB1:=qB x a;have HS1:=aA (d.more aO (ok':=fun b=>w.heap.size<=b/\b≠w.heap.size+1) (fun b hb=>by simp only[World.size_alloc] at hb;exact⟨qo,qo⟩));have g:=qK C a;obtain⟨⟨u0,u1⟩,_⟩:=fL g.o;have I:=aD g.o;clear d a f;go_wp2;refine bR (.agg #[.complex .f64 0 4607182418800017408,.slice y (gQ obls (0,4)).length vc]) ?_;exact QCa
theorem LJ{α:Type}(f:α->Nat):∀(l:List α) (n:Nat),n<=2->l.foldl (fun out x=>min out (f x)) n<=2
 | [],n,h=>h
 |x::l,n,h=>LJ f l _ (lT (Nat.min_le_left _ _) h)
theorem Bg(g:List Gv)(t:Ta):rP g t<=2:=LJ _ t 2 (lR _)
theorem Rh(g:List Gv)(l:List No):tQ g l<=2:=by
 unfold tQ;split
 .decide
 dsimp only;split
 .decide
 split<;>decide
def Kp(w:World)(p q:Nat)(a b:Obj)(w':World):Prop:=Below w.heap.size w w'/\w'.heap[p]? =some a/\w'.heap[q]? =some b
theorem Kp.on{w w' d:World}{p q:Nat}{b c:Obj}(h:Kp w p q b c w')(a:Below w'.heap.size w' d):Kp w p q b c d:=⟨aC h.1 a,aE h.2.1 a,aE h.2.2 a⟩
theorem LK(w:World)(a b:Obj):Kp w w.heap.size (w.heap.size+1) a b ((w.alloc a).alloc b):=
 ⟨aC (aB w a) (aB _ b),aE (aK w a _ rfl) (aB _ b),aK (w.alloc a) b _ qs⟩
theorem Lm{ok ok':nP}(r:Ru)(vt vc vo:Value)(R:Value)(g:List Gv)(w:World)(y:rS w ok' r vt vc vo)(h:aH jQ w ok R g):
 Calls prog 178 #[.agg #[.string r.id,.bool r.aEa,vt,vc,vo],R] w (mZ (gZ g r) w):=by
 obtain⟨J,gc,rfl,_⟩:=h.slice;obtain⟨o,q,rfl,_⟩:=y.2.1.slice;obtain⟨m,n,rfl,_⟩:=y.2.2.1.slice;obtain⟨s,x,rfl,_⟩:=y.2.2.2.slice;have D:=aA y;have H:=aA h;obtain⟨f,P⟩:∃f:Obj,f=.cells #[.string r.id,.bool r.aEa,.slice o r.aDJ.length q,.slice m r.cond.length n,.slice s r.aDP.length x] 260:=⟨_,rfl⟩;obtain⟨j,Q⟩:∃j:Obj,j=.cells #[.complex .f64 0 0,.slice none 0 0] 87:=⟨_,rfl⟩;obtain⟨T,A,C⟩:=aY ((LK w f j).on ((Below.refl _ _).drew)) P Q;have I:Hid (∀w',Kp w w.heap.size (w.heap.size+1) f j w'->Calls prog 177 #[.slice o r.aDJ.length q,.slice J g.length gc] w' (aP (.int .i64 (rP g r.aDJ:Nat)) w')):=aA (fun w' l=>Aj _ _ _ g w' (D.o.2.1.aDH aS (aJ l.1)) (H.o.on bZ l.1));have F:Hid (∀w',Kp w w.heap.size (w.heap.size+1) f j w'->Calls prog 222 #[.slice m r.cond.length n,.slice J g.length gc] w' (aP (.int .i64 (tQ g r.cond:Nat)) w')):=aA (fun w' l=>Lj _ _ _ g w' (D.o.2.2.1.aDH dQ (aJ l.1)) (H.o.on bZ l.1));have G:Hid (∀w',Kp w w.heap.size (w.heap.size+1) f j w'->Calls prog 221 #[.agg #[.string r.id,.bool r.aEa,.slice o r.aDJ.length q,.slice m r.cond.length n,.slice s r.aDP.length x],.int .i64 (rP g r.aDJ:Nat),.int .i64 (tQ g r.cond:Nat)] w' (mZ (gZ g r) w')):=aA (fun w' l=>Fk r o m s _ q _ n x _ _ (Bg _ _) (Rh _ _) w' (D.o.2.2.2.aDH aO (aJ l.1)));unfold aP at I F;unfold mZ at G;have z:Hid (∀w',Kp w w.heap.size (w.heap.size+1) f j w'->(w'.cell? ⟨w.heap.size,0,none⟩=some (.string r.id)/\w'.cell? ⟨w.heap.size,1,none⟩=some (.bool r.aEa)/\w'.cell? ⟨w.heap.size,2,none⟩=some (.slice o r.aDJ.length q)/\w'.cell? ⟨w.heap.size,3,none⟩=some (.slice m r.cond.length n)/\w'.cell? ⟨w.heap.size,4,none⟩=some (.slice s r.aDP.length x))):=aA (fun w' l=>by
  have h1:=l.2.1;rw[A.o] at h1;obtain⟨⟨a,b,c,d,e⟩,_⟩:=dM h1;exact⟨a,b,c,d,e⟩)
 have S:Hid (∀w',Kp w w.heap.size (w.heap.size+1) f j w'->(w'.cell? ⟨w.heap.size+1,0,none⟩=some (.complex .f64 0 0)/\w'.cell? ⟨w.heap.size+1,1,none⟩=some (.slice none 0 0)/\w'.frozen? ⟨w.heap.size+1,0,none⟩=false/\w'.frozen? ⟨w.heap.size+1,1,none⟩=false/\w.heap.size+1<w'.heap.size)):=aA (fun w' l=>by
  have h1:=l.2.2;rw[C.o] at h1;obtain⟨⟨a,b⟩,c,d⟩:=fL h1;exact⟨a,b,c,d,aD h1⟩)
 have W:Hid (∀w',Kp w w.heap.size (w.heap.size+1) f j w'->∀b,w'.heap.size<=b->w.heap.size<=b/\b≠w.heap.size+1):=aA (fun w' l b L=>by
  have:=aD l.2.2;exact⟨qo,qo⟩)
 have Y:Hid (∀(w':World) (a b:Value),Kp w w.heap.size (w.heap.size+1) f j w'->(((w'.setCell ⟨w.heap.size+1,0,none⟩ a).setCell ⟨w.heap.size+1,1,none⟩ b).cell? ⟨w.heap.size,0,none⟩=some (.string r.id)/\((w'.setCell ⟨w.heap.size+1,0,none⟩ a).setCell ⟨w.heap.size+1,1,none⟩ b).cell? ⟨w.heap.size,1,none⟩=some (.bool r.aEa)/\((w'.setCell ⟨w.heap.size+1,0,none⟩ a).setCell ⟨w.heap.size+1,1,none⟩ b).cell? ⟨w.heap.size,2,none⟩=some (.slice o r.aDJ.length q)/\((w'.setCell ⟨w.heap.size+1,0,none⟩ a).setCell ⟨w.heap.size+1,1,none⟩ b).cell? ⟨w.heap.size,3,none⟩=some (.slice m r.cond.length n)/\((w'.setCell ⟨w.heap.size+1,0,none⟩ a).setCell ⟨w.heap.size+1,1,none⟩ b).cell? ⟨w.heap.size,4,none⟩=some (.slice s r.aDP.length x))):=aA (fun w' a b l=>by
  have h1:=bE (b':=w.heap.size+1) (i:=1) (v:=b) (bE (b':=w.heap.size+1) (i:=0) (v:=a) l.2.1 qo) qo;rw[A.o] at h1;obtain⟨⟨a,b,c,d,e⟩,_⟩:=dM h1;exact⟨a,b,c,d,e⟩)
 have K:=z.o _ T.o;rw[A.o,C.o] at K;generalize rP g r.aDJ=t at *;generalize tQ g r.cond=c at *;generalize gZ g r=res at *;have ae:=uL;clear h y P Q;go_enter func178,ntmps178;go_wp2;rw[<-A.o,<-C.o] at K ⊢;go_region_held3 (fun w'=>w'.cell? ⟨w.heap.size,0,none⟩=some (.string r.id)/\w'.cell? ⟨w.heap.size,1,none⟩=some (.bool r.aEa)/\w'.cell? ⟨w.heap.size,2,none⟩=some (.slice o r.aDJ.length q)/\w'.cell? ⟨w.heap.size,3,none⟩=some (.slice m r.cond.length n)/\w'.cell? ⟨w.heap.size,4,none⟩=some (.slice s r.aDP.length x))
  (first|assumption |exact Y.o _ _ _ (Hid.o (p:=Kp w w.heap.size (w.heap.size+1) f j _) (by assumption)))
  ((first
    |(go_at_call 177;refine(I.o _ (Hid.o (p:=Kp w w.heap.size (w.heap.size+1) f j _) (by assumption))).mono ?_;rintro e wa ⟨rfl,M⟩;have U:=aA (Kp.on (Hid.o (p:=Kp w w.heap.size (w.heap.size+1) f j _) (by assumption)) M);have aa:=z.o _ U.o;clear M)
    |(go_at_call 222;refine(F.o _ (Hid.o (p:=Kp w w.heap.size (w.heap.size+1) f j _) (by assumption))).mono ?_;rintro e wc ⟨rfl,N⟩;have V:=aA (Kp.on (Hid.o (p:=Kp w w.heap.size (w.heap.size+1) f j _) (by assumption)) N);have ab:=z.o _ V.o;clear N)
    |(go_at_call 221;refine(G.o _ (Hid.o (p:=Kp w w.heap.size (w.heap.size+1) f j _) (by assumption))).mono ?_;rintro e we ⟨v,rfl,E,O⟩;obtain⟨Z,vc,rfl,_⟩:=E.slice;have B:=aA (Kp.on (Hid.o (p:=Kp w w.heap.size (w.heap.size+1) f j _) (by assumption)) O);have ad:=z.o _ B.o;have X:=aA (aH.more (ok':=fun b=>w.heap.size<=b/\b≠w.heap.size+1) aO E (W.o _ (Hid.o (p:=Kp w w.heap.size (w.heap.size+1) f j _) (by assumption))));have hu:=S.o _ B.o;obtain⟨u0,u1,f0,f1,zu⟩:=hu;clear O E)))
 all_goals
  go_wp2;refine bR (.agg #[.complex .f64 (Cm.qb res.1.1) (Cm.qb res.1.2),.slice Z res.2.length vc]) ?_;refine⟨_,rfl,?_,oA B.o.1 (Nat.le_succ _)⟩;exact aH.more aO (aH.aDH aO X.o (((aI _).trans (aI _)).mono fun k _ l=>l.2)) (fun b L=>L.1)
def Ul(m:Mk):List Value:=[.complex .f64 (Cm.qb m.1) (Cm.qb m.2)]
def aAc(m:Mk):Prop:=Cm.fA m=true
def MkR:Rep Mk:=mN Ul aAc
theorem Ln:Firm MkR 1:=gF (fun _=>rfl) (fun x v h=>by simp only[Ul,List.mem_cons,List.not_mem_nil,or_false] at h;rcases h with rfl;rfl)
theorem DY{m:Mk}(h:Cm.fA m=true):m=(0,0)\/m=(4,0)\/m=(0,4)\/m=(2,0)\/m=(0,2)\/m=(2,2):=by
 unfold Cm.fA at h;by_cases h0:m=(0,0);exact .inl h0;by_cases h1:m=(4,0);exact .inr (.inl h1);by_cases h2:m=(0,4);exact .inr (.inr (.inl h2));by_cases h3:m=(2,0);exact .inr (.inr (.inr (.inl h3)));by_cases h4:m=(0,2);exact .inr (.inr (.inr (.inr (.inl h4))));by_cases h5:m=(2,2);exact .inr (.inr (.inr (.inr (.inr h5))));rw[iN h0,iN h1,iN h2,iN h3,iN h4,iN h5] at h
 cases h
theorem yZ{m:Mk}(h:Cm.fA m=true):Cm.QP m:=by
 rcases DY h with rfl|rfl|rfl|rfl|rfl|rfl<;>exact⟨qe,qe⟩
theorem LL(m:Mk):Cm.fA (SE m)=true:=by
 unfold SE;split;rfl;split;rfl;split;rfl;split;rfl;split<;>rfl
theorem Fl{m:Mk}(h:Cm.fA m=true):Cm.fA (Ca m)=true:=by
 rcases DY h with rfl|rfl|rfl|rfl|rfl|rfl<;>rfl
theorem GX{m:Mk}(h:Cm.fA m=true):Cm.fA (tY m)=true:=by
 rcases DY h with rfl|rfl|rfl|rfl|rfl|rfl<;>rfl
theorem Fm{j m:Mk}(hj:Cm.fA j=true)(h:Cm.fA m=true):Cm.fA (EJ j m)=true:=by
 unfold EJ;split;exact h;split;exact hj;rfl
theorem GY:∀(l:List Mk) (j:Mk),Cm.fA j=true->(∀m∈l,Cm.fA m=true)->Cm.fA (l.foldl EJ j)=true
 | [],j,hj,_=>hj
 |m::l,j,hj,h=>GY l _ (Fm hj (h m (List.mem_cons_self ..))) (fun x a=>h x (List.mem_cons_of_mem _ a))
theorem QJ(alg:Int)(l:List Mk)(h:∀m∈l,Cm.fA m=true):Cm.fA (BW alg l)=true:=by
 unfold BW;split;exact LL _;split;exact Fl (LL _);split
 .unfold BV
  cases a:l.find? (fun m=>decide (m≠(0,0))) with
  |none=>rfl
  |some m=>exact h m (List.mem_of_find?_eq_some a)
 split
 .unfold SG;split
  .exact GY l _ rfl h
  .rfl
 split
 .unfold rC;split<;>rfl
 split
 .unfold rC;split<;>rfl
 rfl
theorem aAW:Cm.mL 4=EJ:=by
 funext j m
 show (bif j==(0,0) then m else bif m==(0,0) then j else (2,2))=_;unfold EJ;by_cases h1:j=(0,0)
 .rw[iP h1,bQ.2 h1];rfl
 .rw[iN h1,bN.2 h1];by_cases h2:m=(0,0)
  .rw[iP h2,bQ.2 h2];rfl
  .rw[iN h2,bN.2 h2];rfl
theorem wU(a b:Mk):(a==b)=decide (a=b):=by rw[Bool.eq_iff_iff];simp
theorem aAX:Cm.LH=SF:=by
 funext m
 unfold Cm.LH SF;rw[wU,wU,wU,Bool.or_assoc]
theorem aAe(l:List Mk):Cm.yY l=BV l:=by
 unfold Cm.yY BV
 congr 2
 funext m
 unfold Cm.pG;rw[wU,<-decide_not]
theorem Bh(l:List Mk)(m o:Mk):Cm.pQ l m o=rC l m o:=by
 unfold Cm.pQ rC Cm.VY;have e:(fun x:Mk=>o==x)=fun x=>decide (x=o):=by funext x;rw[wU,Bool.eq_iff_iff];simp[eq_comm]
 rw[e]
 cases l.any (fun x=>decide (x=o))<;>rfl
theorem Xd(alg:Int)(l:List Mk)(h:∀m∈l,Cm.fA m=true):(Cm.jB alg l).1=BW alg l:=by
 have ha:l.all Cm.fA=true:=List.all_eq_true.2 h;by_cases h1:1<=alg/\alg<=6
 .have:alg=1\/alg=2\/alg=3\/alg=4\/alg=5\/alg=6:=qo;unfold Cm.jB;rw[iP ⟨ha,h1.1,h1.2⟩]
  rcases this with rfl|rfl|rfl|rfl|rfl|rfl
  .rfl
  .rfl
  .show Cm.yY l=BV l;exact aAe l
  .show Cm.AT l=SG l;unfold Cm.AT SG;rw[aAW,aAX]
   cases l.all SF<;>rfl
  .show Cm.pQ l (0,4) (4,0)=rC l (0,4) (4,0);exact Bh _ _ _
  .show Cm.pQ l (4,0) (0,4)=rC l (4,0) (0,4);exact Bh _ _ _
 .unfold Cm.jB BW;rw[iN (fun h=>h1 h.2),iN qo,iN qo,iN qo,iN qo,iN qo,iN qo]
theorem WG{w:World}{ok:nP}:∀{l:List Mk} {cs:List Value},aW (MkR w ok) cs l->cs=Cm.vm l
 | [],_,h=>h
 |m::l,_,⟨r,t,e,hr,ht⟩=>by rw[e,hr.1,WG ht];rfl
theorem aDe:dY prog 314 30 1 16:=fQ (z:= .complex .f64 0 0) underlying314 (by kernel_rfl) rfl qe
abbrev Rs:=Mk×List Ob
def ReP(w:World)(ok:nP)(r:Rs)(vo:Value):Prop:=Cm.fA r.1=true/\aH jZ w ok vo r.2
def Lo:Rep Rs:=fun w ok cs r=>∃vo,cs=[.complex .f64 (Cm.qb r.1.1) (Cm.qb r.1.2),vo]/\ReP w ok r vo
theorem kN:Firm Lo 2:={
 aDH:=fun⟨vo,e,h⟩ b=>⟨vo,e,h.1,aH.aDH aO h.2 b⟩
 more:=fun⟨vo,e,h⟩ c=>⟨vo,e,h.1,aH.more aO h.2 c⟩
 len:=fun⟨vo,e,h⟩=>by rw[e];rfl
 one:=fun⟨vo,e,h⟩=>by
  intro v a;rw[e] at a;simp only[List.mem_cons,List.not_mem_nil,or_false] at a
  rcases a with rfl|rfl
  .rfl
  .exact kU h.2
 inb:=fun⟨vo,e,h⟩=>⟨vo,e,h.1,aH.inb aO h.2⟩}
theorem aAf:dY prog 264 87 2 40:=fQ (z:= .agg #[.complex .f64 0 0,.slice none 0 0]) underlying264 (by kernel_rfl) rfl qe
section
variable {α:Type} {R:Rep α} {s:Nat} {P:Program} {w:World} {t e:TypeId} {bytes:Nat} {base:Nat} {ok ok':nP}
theorem Lp(E:dY P t e s bytes)(F:Firm R s){o:Oper}{a:Act}{K:Act->World->Prop}{Q:Exit->Act->World->Prop}(g x:Operand)
 (z:o.op=.call {callee:= .builtin .append,args:=#[g,x],argTypes:=#[t,t]})
 (v:Value)(l:List α)(B:a.eval g=v)(m:aM R s e w base ok v l)
 (i:Value)(y:List α)(C:a.eval x=i)(D:aH R w (fun b=>ok b/\b<w.heap.size/\some b≠v.ownBlock) i y)
 (h63:l.length+y.length<=1000000)(p:bytes<=10000)(n:base<=w.heap.size)
 (h:∀l',Hid (l'=l++y)->∀c d w',aM R s e w' base ok (.slice c l'.length d) l'->w.grownBy w' v.ownBlock->((Value.slice c l'.length d).ownBlock=v.ownBlock\/(Value.slice c l'.length d).ownBlock=some w.heap.size)->K (a.put o.dst (.slice c l'.length d)) w'):o.wp P a w K Q:=by
 obtain⟨xs,A,q⟩:=m;obtain⟨j,k,cs,rfl,h1,h2,_⟩:=D;refine SU E g x z base v l.length xs B A j y.length k cs C (h2.len (fun _ _ f=>F.len f)) h1.lt (h2.aD7 (fun _ _ f=>F.one f)) (by unfold maxLen;omega) ?_ n fun c d w' h3 h4 h5=> ?_
 .calc (l.length+y.length) * bytes<=(1000000+1) * 10000:=Nat.mul_le_mul qo p
   _<=140737488355328:=qe
 .have r:(l++y).length=l.length+y.length:=aL;have:=h _ rfl c d w';rw[r] at this;exact this (aM.put F q h2 h3 h4 h5) h4 h5
theorem AU(E:dY P t e s bytes)(F:Firm R s){ops:Array Oper}{rest:List Oper}{o:Oper}{a:Act}{Q:Exit->Act->World->Prop}(n:o.guard=none)(f x:Operand)
 (q:o.op=.call {callee:= .builtin .append,args:=#[f,x],argTypes:=#[t,t]})
 (v:Value)(l:List α)(r:a.eval f=v)(i:aM R s e w base ok v l)
 (g:Value)(y:List α)(z:a.eval x=g)(A:aH R w (fun b=>ok b/\b<w.heap.size/\some b≠v.ownBlock) g y)
 (h63:l.length+y.length<=1000000)(m:bytes<=10000)(k:base<=w.heap.size)
 (h:∀l',Hid (l'=l++y)->∀c d w',aM R s e w' base ok (.slice c l'.length d) l'->w.grownBy w' v.ownBlock->((Value.slice c l'.length d).ownBlock=v.ownBlock\/(Value.slice c l'.length d).ownBlock=some w.heap.size)->wpList P ops Q rest (a.put o.dst (.slice c l'.length d)) w'):wpList P ops Q (o::rest) a w:=
 wpList_plain n fun _ j=>Lp E F f x q v l r i g y z A h63 m k fun l' p c d w' h2 h3 h4=>j _ _ (h l' p c d w' h2 h3 h4)
end
end Go.Proofs.YtdfinmcogbkffaaGreatDoor
