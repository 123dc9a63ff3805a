/- Lemmas. -/
import Derived.Test.YtbinmcabjnoliaaGreatDoorMbh
namespace Go.Proofs.YtbinmcabjnoliaaGreatDoor
open Go.RowKit
set_option linter.unusedVariables false
set_option linter.unusedSimpArgs false
set_option maxHeartbeats 16000000
open _root_.Go.Proofs.Tryz
set_option maxRecDepth 20000
theorem VM:dV prog 36 194 3 32:=fQ (z:= .agg #[.int .i64 0,.int .i64 0,.string ByteArray.empty]) underlying36 (by kernel_rfl) rfl qe
theorem sD(m n:Mk):((m.1,m.2)==n)=decide (m=n):=by rw[Bool.eq_iff_iff];simp
def wM(l:List Ob)(w:World)(e:Ending)(w':World):Prop:=∃v,e=.returned v/\aH jU w' (fun b=>w.heap.size<=b) v l/\Below w.heap.size w w'
theorem YJ{α:Type}(p:α->Bool)(l:List α)(k:Nat)(a:k<l.length):(l.take (k+1)).filter p=(l.take k).filter p++(if p l[k]=true then [l[k]] else []):=by
 rw[List.take_succ_eq_append_getElem a,List.filter_append]
 congr 1
 by_cases h:p l[k]=true
 .rw[iP h,List.filter_cons_of_pos h];rfl
 .rw[iN h,List.filter_cons_of_neg (by simpa using h)];rfl
theorem YK{α:Type}(p:α->Bool)(l:List α)(k:Nat):((l.take k).filter p).length<=k:=by
 have h1:=List.length_filter_le p (l.take k);have h2:(l.take k).length<=k:=List.length_take_le _ _;omega
theorem yA{ok:nP}(v:Value)(l:List Ob)(m:Mk)(hm:Cm.QP m)(w:World)(h:aH jU w ok v l):Calls prog 233 #[v,.complex .f64 (Cm.qb m.1) (Cm.qb m.2)] w (wM (gO l m) w):=by
 obtain⟨a,c,rfl,aj⟩:=h.slice;have HS:=aA h;obtain⟨P,J⟩:∃P,decide (m=(4,0))=P:=⟨_,rfl⟩;obtain⟨D,H⟩:∃D,decide (m=(0,4))=D:=⟨_,rfl⟩;have E:((FloatKind.f64.format.order (Cm.qb m.1) 4607182418800017408==some .eq)&&(FloatKind.f64.format.order (Cm.qb m.2) 0==some .eq))=P:=(Cm.iU m.1 m.2 4 0 hm qe qe).trans ((sD m (4,0)).trans J);have G:((FloatKind.f64.format.order (Cm.qb m.1) 0==some .eq)&&(FloatKind.f64.format.order (Cm.qb m.2) 4607182418800017408==some .eq))=D:=(Cm.iU m.1 m.2 0 4 hm qe qe).trans ((sD m (0,4)).trans H);obtain⟨F,I⟩:∃F:Ob->Bool,F=(fun o=>(decide (o.on=1)&&P)||(decide (o.on=2)&&D)):=⟨_,rfl⟩;have HR:Hid (gO l m=l.filter F):=aA (by unfold gO;rw[I,J,H]);have HF:=aA (show ∀x,F x=((decide (x.on=1)&&P)||(decide (x.on=2)&&D)) from fun x=>by rw[I]);generalize Cm.qb m.1=ma at *;generalize Cm.qb m.2=mb at *;have Q:=aA aj;clear h J H I hm;unfold wM;rw[HR.o];have E1:=aA E;have E2:=aA G;clear E G
 rcases P with _|_<;>rcases D with _|_
 all_goals
  have E:=E1.o;have G:=E2.o;go_enter func233,ntmps233;go_wp2;go_loopw [5,10] (fun v i wr=>∃(k:Nat) (t:oD) (n y:Nat) (st:List Ob),k<=l.length/\i=.int .i64 k/\v=.slice t n y/\Hid (st=(l.take k).filter F)/\Hid (aM jU 3 194 wr w.heap.size (fun b=>w.heap.size<=b) (.slice t n y) st)/\Hid (Below w.heap.size w wr)) (fun _ i _=>l.length - (intOf i).toNat)
  case atStart=>exact⟨0,none,0,0,[],qo,rfl,rfl,aA qs,aA aM.nil,aA (Below.refl _ _)⟩
  case round=>
   obtain⟨k,t,n,y,st,hk,rfl,rfl,e,p,g⟩:=hrel;by_cases Y:k<l.length
   .have ai:(k:Int)<(l.length:Int):=qo;obtain⟨b,off,r,rfl,_,ao,⟨rfl,V⟩,U⟩:=aH.at aP (HS.o.on aP g.o) Y qe;obtain⟨x0,x1,x2⟩:=cR3 U;rw[Nat.add_zero] at x0;obtain⟨j,d,ae,ag,S,ak⟩:=hD6 (YJ F l k Y) (HF.o l[k]) V (YK F l k) g.o.size hk;clear U V;generalize hx:l[k]=x at *;clear hx;have N:=qB g (aB wr (.cells #[.int .i64 x.on,.int .i64 x.aCR,.string x.arg] 194));obtain⟨aa,R,A⟩:=aY (aC N.o (aB _ (.cells #[.int .i64 x.on,.int .i64 x.aCR,.string x.arg] 194))) (aK (wr.alloc (.cells #[.int .i64 x.on,.int .i64 x.aCR,.string x.arg] 194)) (.cells #[.int .i64 x.on,.int .i64 x.aCR,.string x.arg] 194) (wr.heap.size+1) qs) (p.o.on aP (aB wr (.cells #[.int .i64 x.on,.int .i64 x.aCR,.string x.arg] 194)));have z:=aA (A.o.on aP (aB _ (.cells #[.int .i64 x.on,.int .i64 x.aCR,.string x.arg] 194)));have af:Hid (st.length<=1000000):=aA (by rw[e.o];have:=ag.o;have:=Q.o;omega);obtain⟨q,K⟩:∃q,decide (x.on=1)=q:=⟨_,rfl⟩;obtain⟨s,L⟩:∃s,decide (x.on=2)=s:=⟨_,rfl⟩;rw[K,L] at d;have al:(x.on==1)=q:=K;have an:(x.on==2)=s:=L;clear K L
    rcases q with _|_<;>rcases s with _|_
    all_goals first
     |(have f:F x=false:=d.o
       have C:Hid (st=(l.take (k+1)).filter F):=aA (by rw[j.o,iN (by rw[f];decide),List.append_nil];exact e.o);clear j f d R z p;go_wp2;go_roundw
       case rel=>exact⟨k+1,t,n,y,st,qo,by go_num,rfl,C,A,N⟩
       case measure=>simp[intOf];omega)
     |(have f:F x=true:=d.o
       have C:=aA (by rw[j.o,iP f,<-e.o]:(l.take (k+1)).filter F=st++[x]);clear j f d p A;go_wp2_with (at_builtin;refine cC (base:=w.heap.size) VM aP rfl (.tmp 30) (.tmp 32) rfl _ st rfl z.o (wr.heap.size+1) 1 _ _ _ x rfl R.o ⟨rfl,ae.o⟩ af.o qo (by have:=S.o;simp only[World.size_alloc];omega) ?_;intro l' X Z c2 w9 T W ah;have ad:=aA T;have ab:=aA (z.o.below aa.o W (lR _) (by have:=S.o;simp only[World.size_alloc];omega));have B:=aA X.o;clear T W ah X)
       go_roundw
       case rel=>exact⟨k+1,Z,l'.length,c2,l',qo,by go_num,rfl,aA (by rw[B.o,C.o]),ad,ab⟩
       case measure=>simp[intOf];omega)
   .have ai:¬(k:Int)<(l.length:Int):=qo;obtain rfl:k=l.length:=qo;have O:Hid (st=l.filter F):=aA (by have:=e.o;rwa [List.take_of_length_le (lR _)] at this);have B:Hid (st.length<=1000000):=aA (by rw[O.o];have h1:=List.length_filter_le F l;have:=Q.o;omega);clear e;go_wp2;go_returns;rw[<-O.o];refine⟨_,rfl,?_,g.o⟩;exact p.o.sl B.o _ (fun b M _=>M) (fun b M _=>M) aP
theorem QBY{p:Prop}(h:p:=by
 refine⟨_,rfl,?_,nW HB1.o (Nat.le_succ _)⟩;exact aH.more aP (aH.aC0 aP HS1.o (((aI _).trans (aI _)).mono fun k _ hk=>hk.2)) (fun b hb=>hb.1)):p:=h
theorem Sy{p:Prop}(h:p:=by
 go_enter func229,ntmps229;go_wp2;refine bR (.agg #[.complex .f64 0 0,.slice none 0 0]) ?_;exact tE rfl (aC (aB _ _) (aB _ _)) rfl rfl):p:=h
theorem QBa{p:Prop}(h:p:=by
 cases deny
 .go_enter func229,ntmps229;go_wp2_with fail;refine(HIP.o _).mono ?_;rintro e w1 ⟨rfl,rfl⟩;go_wp2;refine bR (.agg #[.complex .f64 4602678819172646912 0,.slice none 0 0]) ?_;exact tE rfl (aC (aB _ _) (aB _ _)) rfl rfl
 .go_enter func229,ntmps229;go_wp2_with fail;refine(HID.o _).mono ?_;rintro e w1 ⟨rfl,rfl⟩;go_wp2;refine bR (.agg #[.complex .f64 0 4602678819172646912,.slice none 0 0]) ?_;exact tE rfl (aC (aB _ _) (aB _ _)) rfl rfl):p:=h
def mW(r:Mk×List Ob)(w:World)(e:Ending)(w':World):Prop:=∃vo,e=.returned (.agg #[.complex .f64 (Cm.qb r.1.1) (Cm.qb r.1.2),vo])/\aH jU w' (fun b=>w.heap.size<=b) vo r.2/\Below w.heap.size w w'
theorem tE{r:Mk×List Ob}{a b:Nat}{w w':World}(c:r=((a,b),[]))(h:Below w.heap.size w w'){x y:Nat}(d:Cm.qb a=x)(e:Cm.qb b=y):mW r w (.returned (.agg #[.complex .f64 x y,.slice none 0 0])) w':=by
 subst c d e;exact⟨_,rfl,aH.nil,h⟩
theorem nW{W w:World}{g:Nat}{a b:Value}(h:Below W.heap.size W w)(c:W.heap.size<=g):Below W.heap.size W ((w.setCell ⟨g,0,none⟩ a).setCell ⟨g,1,none⟩ b):=(h.setCell c _).setCell c _
theorem uE(p:Addr)(x y:Nat)(w:World):(store p (.complex .f64 x y)).run prog w=stored prog w p (.complex .f64 x y) .plain:=run_store prog w p _ _ rfl
theorem El{ok:nP}(r:Ru)(p m i:oD)(s q o n j:Nat)(t c:Nat)(G:t<=2)(E:c<=2)(w:World)(D:aH jU w ok (.slice i r.aC7.length j) r.aC7):
 Calls prog 229 #[.agg #[.string r.id,.bool r.aDs,.slice p s q,.slice m o n,.slice i r.aC7.length j],.int .i64 t,.int .i64 c] w (mW (EF r t c) w):=by
 have x:=aA (aC (aB w (.cells #[.string r.id,.bool r.aDs,.slice p s q,.slice m o n,.slice i r.aC7.length j] 269)) (aB _ (.cells #[.complex .f64 0 0,.slice none 0 0] 124)));have B:=aA (D.on aP x.o);have C:Hid (((w.alloc (.cells #[.string r.id,.bool r.aDs,.slice p s q,.slice m o n,.slice i r.aC7.length j] 269)).alloc (.cells #[.complex .f64 0 0,.slice none 0 0] 124)).heap[w.heap.size+1]? =some (.cells #[.complex .f64 0 0,.slice none 0 0] 124 (0,0))):=aA (aK (w.alloc (.cells #[.string r.id,.bool r.aDs,.slice p s q,.slice m o n,.slice i r.aC7.length j] 269)) (.cells #[.complex .f64 0 0,.slice none 0 0] 124) _ qs);have HIP:Hid (∀w,Calls prog 232 #[.complex .f64 4607182418800017408 0] w fun e w'=>e=.returned (.complex .f64 4602678819172646912 0)/\w=w'):=aA (fun w=>Cm.aAY (4,0) ⟨qe,qe⟩ w);have HID:Hid (∀w,Calls prog 232 #[.complex .f64 0 4607182418800017408] w fun e w'=>e=.returned (.complex .f64 0 4602678819172646912)/\w=w'):=aA (fun w=>Cm.aAY (0,4) ⟨qe,qe⟩ w);have A:Hid (∀w ok v l,aH jU w ok v l->Calls prog 233 #[v,.complex .f64 4607182418800017408 0] w (wM (gO l (4,0)) w)):=aA (fun w ok v l h=>yA v l (4,0) ⟨qe,qe⟩ w h);have z:Hid (∀w ok v l,aH jU w ok v l->Calls prog 233 #[v,.complex .f64 0 4607182418800017408] w (wM (gO l (0,4)) w)):=aA (fun w ok v l h=>yA v l (0,4) ⟨qe,qe⟩ w h);unfold wM at A z;have J:=uE;obtain⟨id,deny,target,cond,obls⟩:=r;simp only at *;clear D;have H:t=0\/t=1\/t=2:=qo;have F:c=0\/c=1\/c=2:=qo;clear G E
 rcases H with rfl|rfl|rfl
 .show Calls prog _ #[_,.int .i64 0,_] w _
  cases deny
  .exact Sy
  .exact Sy
 .show Calls prog _ #[_,.int .i64 1,_] w _;exact QBa
 .rcases F with rfl|rfl|rfl
  .show Calls prog _ #[_,.int .i64 2,.int .i64 0] w _
   cases deny
   .exact Sy
   .exact Sy
  .show Calls prog _ #[_,.int .i64 2,.int .i64 1] w _;exact QBa
  .show Calls prog _ #[_,.int .i64 2,.int .i64 2] w _
   cases deny
   .have f:=aA (A.o _ _ _ _ B.o);go_enter func229,ntmps229;go_wp2_with fail;refine f.o.mono ?_;rintro e w1 ⟨v,rfl,d,a⟩;obtain⟨y,vc,rfl,_⟩:=d.slice;have HB1:=qB x a;have HS1:=aA (d.more aP (ok':=fun b=>w.heap.size<=b/\b≠w.heap.size+1) (fun b hb=>by simp only[World.size_alloc] at hb;exact⟨qo,qo⟩));have g:=qK C a;obtain⟨⟨u0,u1⟩,_⟩:=fK g.o;have I:=aD g.o;clear d a f;go_wp2;refine bR (.agg #[.complex .f64 4607182418800017408 0,.slice y (gO obls (4,0)).length vc]) ?_;exact QBY
   .have f:=aA (z.o _ _ _ _ B.o);go_enter func229,ntmps229;go_wp2_with fail;refine f.o.mono ?_;rintro e w1 ⟨v,rfl,d,a⟩;obtain⟨y,vc,rfl,_⟩:=d.slice;have HB1:=qB x a;have HS1:=aA (d.more aP (ok':=fun b=>w.heap.size<=b/\b≠w.heap.size+1) (fun b hb=>by simp only[World.size_alloc] at hb;exact⟨qo,qo⟩));have g:=qK C a;obtain⟨⟨u0,u1⟩,_⟩:=fK g.o;have I:=aD g.o;clear d a f;go_wp2;refine bR (.agg #[.complex .f64 0 4607182418800017408,.slice y (gO obls (0,4)).length vc]) ?_;exact QBY
theorem LF{α:Type}(f:α->Nat):∀(l:List α) (n:Nat),n<=2->l.foldl (fun out x=>min out (f x)) n<=2
 | [],n,h=>h
 |x::l,n,h=>LF f l _ (lT (Nat.min_le_left _ _) h)
theorem Al(g:List Gv)(t:Ta):xP g t<=2:=LF _ t 2 (lR _)
theorem Qa(g:List Gv)(l:List No):tK g l<=2:=by
 unfold tK;split
 .decide
 dsimp only;split
 .decide
 split<;>decide
def Kp(w:World)(p q:Nat)(a b:Obj)(w':World):Prop:=Below w.heap.size w w'/\w'.heap[p]? =some a/\w'.heap[q]? =some b
theorem Kp.on{w w' d:World}{p q:Nat}{b c:Obj}(h:Kp w p q b c w')(a:Below w'.heap.size w' d):Kp w p q b c d:=⟨aC h.1 a,aE h.2.1 a,aE h.2.2 a⟩
theorem LG(w:World)(a b:Obj):Kp w w.heap.size (w.heap.size+1) a b ((w.alloc a).alloc b):=
 ⟨aC (aB w a) (aB _ b),aE (aK w a _ rfl) (aB _ b),aK (w.alloc a) b _ qs⟩
theorem Ke{ok ok':nP}(r:Ru)(vt vc vo:Value)(R:Value)(g:List Gv)(w:World)(y:rN w ok' r vt vc vo)(h:aH jM w ok R g):
 Calls prog 190 #[.agg #[.string r.id,.bool r.aDs,vt,vc,vo],R] w (mW (iC g r) w):=by
 obtain⟨J,gc,rfl,_⟩:=h.slice;obtain⟨o,q,rfl,_⟩:=y.2.1.slice;obtain⟨m,n,rfl,_⟩:=y.2.2.1.slice;obtain⟨s,x,rfl,_⟩:=y.2.2.2.slice;have D:=aA y;have H:=aA h;obtain⟨f,P⟩:∃f:Obj,f=.cells #[.string r.id,.bool r.aDs,.slice o r.aC1.length q,.slice m r.cond.length n,.slice s r.aC7.length x] 269:=⟨_,rfl⟩;obtain⟨j,Q⟩:∃j:Obj,j=.cells #[.complex .f64 0 0,.slice none 0 0] 124:=⟨_,rfl⟩;obtain⟨T,A,C⟩:=aY ((LG w f j).on ((Below.refl _ _).drew)) P Q;have I:Hid (∀w',Kp w w.heap.size (w.heap.size+1) f j w'->Calls prog 189 #[.slice o r.aC1.length q,.slice J g.length gc] w' (aO (.int .i64 (xP g r.aC1:Nat)) w')):=aA (fun w' l=>ZQ _ _ _ g w' (D.o.2.1.aC0 aS (aJ l.1)) (H.o.on bZ l.1));have F:Hid (∀w',Kp w w.heap.size (w.heap.size+1) f j w'->Calls prog 230 #[.slice m r.cond.length n,.slice J g.length gc] w' (aO (.int .i64 (tK g r.cond:Nat)) w')):=aA (fun w' l=>Kb _ _ _ g w' (D.o.2.2.1.aC0 dP (aJ l.1)) (H.o.on bZ l.1));have G:Hid (∀w',Kp w w.heap.size (w.heap.size+1) f j w'->Calls prog 229 #[.agg #[.string r.id,.bool r.aDs,.slice o r.aC1.length q,.slice m r.cond.length n,.slice s r.aC7.length x],.int .i64 (xP g r.aC1:Nat),.int .i64 (tK g r.cond:Nat)] w' (mW (iC g r) w')):=aA (fun w' l=>El r o m s _ q _ n x _ _ (Al _ _) (Qa _ _) w' (D.o.2.2.2.aC0 aP (aJ l.1)));unfold aO at I F;unfold mW at G;have z:Hid (∀w',Kp w w.heap.size (w.heap.size+1) f j w'->(w'.cell? ⟨w.heap.size,0,none⟩=some (.string r.id)/\w'.cell? ⟨w.heap.size,1,none⟩=some (.bool r.aDs)/\w'.cell? ⟨w.heap.size,2,none⟩=some (.slice o r.aC1.length q)/\w'.cell? ⟨w.heap.size,3,none⟩=some (.slice m r.cond.length n)/\w'.cell? ⟨w.heap.size,4,none⟩=some (.slice s r.aC7.length x))):=aA (fun w' l=>by
  have h1:=l.2.1;rw[A.o] at h1;obtain⟨⟨a,b,c,d,e⟩,_⟩:=cP h1;exact⟨a,b,c,d,e⟩)
 have S:Hid (∀w',Kp w w.heap.size (w.heap.size+1) f j w'->(w'.cell? ⟨w.heap.size+1,0,none⟩=some (.complex .f64 0 0)/\w'.cell? ⟨w.heap.size+1,1,none⟩=some (.slice none 0 0)/\w'.frozen? ⟨w.heap.size+1,0,none⟩=false/\w'.frozen? ⟨w.heap.size+1,1,none⟩=false/\w.heap.size+1<w'.heap.size)):=aA (fun w' l=>by
  have h1:=l.2.2;rw[C.o] at h1;obtain⟨⟨a,b⟩,c,d⟩:=fK h1;exact⟨a,b,c,d,aD h1⟩)
 have W:Hid (∀w',Kp w w.heap.size (w.heap.size+1) f j w'->∀b,w'.heap.size<=b->w.heap.size<=b/\b≠w.heap.size+1):=aA (fun w' l b L=>by
  have:=aD l.2.2;exact⟨qo,qo⟩)
 have Y:Hid (∀(w':World) (a b:Value),Kp w w.heap.size (w.heap.size+1) f j w'->(((w'.setCell ⟨w.heap.size+1,0,none⟩ a).setCell ⟨w.heap.size+1,1,none⟩ b).cell? ⟨w.heap.size,0,none⟩=some (.string r.id)/\((w'.setCell ⟨w.heap.size+1,0,none⟩ a).setCell ⟨w.heap.size+1,1,none⟩ b).cell? ⟨w.heap.size,1,none⟩=some (.bool r.aDs)/\((w'.setCell ⟨w.heap.size+1,0,none⟩ a).setCell ⟨w.heap.size+1,1,none⟩ b).cell? ⟨w.heap.size,2,none⟩=some (.slice o r.aC1.length q)/\((w'.setCell ⟨w.heap.size+1,0,none⟩ a).setCell ⟨w.heap.size+1,1,none⟩ b).cell? ⟨w.heap.size,3,none⟩=some (.slice m r.cond.length n)/\((w'.setCell ⟨w.heap.size+1,0,none⟩ a).setCell ⟨w.heap.size+1,1,none⟩ b).cell? ⟨w.heap.size,4,none⟩=some (.slice s r.aC7.length x))):=aA (fun w' a b l=>by
  have h1:=bE (b':=w.heap.size+1) (i:=1) (v:=b) (bE (b':=w.heap.size+1) (i:=0) (v:=a) l.2.1 qo) qo;rw[A.o] at h1;obtain⟨⟨a,b,c,d,e⟩,_⟩:=cP h1;exact⟨a,b,c,d,e⟩)
 have K:=z.o _ T.o;rw[A.o,C.o] at K;generalize xP g r.aC1=t at *;generalize tK g r.cond=c at *;generalize iC g r=res at *;have ae:=uE;clear h y P Q;go_enter func190,ntmps190;go_wp2;rw[<-A.o,<-C.o] at K ⊢;go_region_held3 (fun w'=>w'.cell? ⟨w.heap.size,0,none⟩=some (.string r.id)/\w'.cell? ⟨w.heap.size,1,none⟩=some (.bool r.aDs)/\w'.cell? ⟨w.heap.size,2,none⟩=some (.slice o r.aC1.length q)/\w'.cell? ⟨w.heap.size,3,none⟩=some (.slice m r.cond.length n)/\w'.cell? ⟨w.heap.size,4,none⟩=some (.slice s r.aC7.length x))
  (first|assumption |exact Y.o _ _ _ (Hid.o (p:=Kp w w.heap.size (w.heap.size+1) f j _) (by assumption)))
  ((first
    |(go_at_call 189;refine(I.o _ (Hid.o (p:=Kp w w.heap.size (w.heap.size+1) f j _) (by assumption))).mono ?_;rintro e wa ⟨rfl,M⟩;have U:=aA (Kp.on (Hid.o (p:=Kp w w.heap.size (w.heap.size+1) f j _) (by assumption)) M);have aa:=z.o _ U.o;clear M)
    |(go_at_call 230;refine(F.o _ (Hid.o (p:=Kp w w.heap.size (w.heap.size+1) f j _) (by assumption))).mono ?_;rintro e wc ⟨rfl,N⟩;have V:=aA (Kp.on (Hid.o (p:=Kp w w.heap.size (w.heap.size+1) f j _) (by assumption)) N);have ab:=z.o _ V.o;clear N)
    |(go_at_call 229;refine(G.o _ (Hid.o (p:=Kp w w.heap.size (w.heap.size+1) f j _) (by assumption))).mono ?_;rintro e we ⟨v,rfl,E,O⟩;obtain⟨Z,vc,rfl,_⟩:=E.slice;have B:=aA (Kp.on (Hid.o (p:=Kp w w.heap.size (w.heap.size+1) f j _) (by assumption)) O);have ad:=z.o _ B.o;have X:=aA (aH.more (ok':=fun b=>w.heap.size<=b/\b≠w.heap.size+1) aP E (W.o _ (Hid.o (p:=Kp w w.heap.size (w.heap.size+1) f j _) (by assumption))));have hu:=S.o _ B.o;obtain⟨u0,u1,f0,f1,zu⟩:=hu;clear O E)))
 all_goals
  go_wp2;refine bR (.agg #[.complex .f64 (Cm.qb res.1.1) (Cm.qb res.1.2),.slice Z res.2.length vc]) ?_;refine⟨_,rfl,?_,nW B.o.1 (Nat.le_succ _)⟩;exact aH.more aP (aH.aC0 aP X.o (((aI _).trans (aI _)).mono fun k _ l=>l.2)) (fun b L=>L.1)
def Sz(m:Mk):List Value:=[.complex .f64 (Cm.qb m.1) (Cm.qb m.2)]
def Yp(m:Mk):Prop:=Cm.fM m=true
def Yq:Rep Mk:=mJ Sz Yp
theorem Kf:Firm Yq 1:=gD (fun _=>rfl) (fun x v h=>by simp only[Sz,List.mem_cons,List.not_mem_nil,or_false] at h;rcases h with rfl;rfl)
theorem DX{m:Mk}(h:Cm.fM m=true):m=(0,0)\/m=(4,0)\/m=(0,4)\/m=(2,0)\/m=(0,2)\/m=(2,2):=by
 unfold Cm.fM at h;by_cases h0:m=(0,0);exact .inl h0;by_cases h1:m=(4,0);exact .inr (.inl h1);by_cases h2:m=(0,4);exact .inr (.inr (.inl h2));by_cases h3:m=(2,0);exact .inr (.inr (.inr (.inl h3)));by_cases h4:m=(0,2);exact .inr (.inr (.inr (.inr (.inl h4))));by_cases h5:m=(2,2);exact .inr (.inr (.inr (.inr (.inr h5))));rw[iN h0,iN h1,iN h2,iN h3,iN h4,iN h5] at h
 cases h
theorem yW{m:Mk}(h:Cm.fM m=true):Cm.QP m:=by
 rcases DX h with rfl|rfl|rfl|rfl|rfl|rfl<;>exact⟨qe,qe⟩
theorem LH(m:Mk):Cm.fM (RO m)=true:=by
 unfold RO;split;rfl;split;rfl;split;rfl;split;rfl;split<;>rfl
theorem Em{m:Mk}(h:Cm.fM m=true):Cm.fM (Bc m)=true:=by
 rcases DX h with rfl|rfl|rfl|rfl|rfl|rfl<;>rfl
theorem GW{m:Mk}(h:Cm.fM m=true):Cm.fM (tR m)=true:=by
 rcases DX h with rfl|rfl|rfl|rfl|rfl|rfl<;>rfl
theorem En{j m:Mk}(hj:Cm.fM j=true)(h:Cm.fM m=true):Cm.fM (EG j m)=true:=by
 unfold EG;split;exact h;split;exact hj;rfl
theorem GX:∀(l:List Mk) (j:Mk),Cm.fM j=true->(∀m∈l,Cm.fM m=true)->Cm.fM (l.foldl EG j)=true
 | [],j,hj,_=>hj
 |m::l,j,hj,h=>GX l _ (En hj (h m (List.mem_cons_self ..))) (fun x a=>h x (List.mem_cons_of_mem _ a))
theorem PQ(alg:Int)(l:List Mk)(h:∀m∈l,Cm.fM m=true):Cm.fM (BU alg l)=true:=by
 unfold BU;split;exact LH _;split;exact Em (LH _);split
 .unfold BS
  cases a:l.find? (fun m=>decide (m≠(0,0))) with
  |none=>rfl
  |some m=>exact h m (List.mem_of_find?_eq_some a)
 split
 .unfold RQ;split
  .exact GX l _ rfl h
  .rfl
 split
 .unfold qY;split<;>rfl
 split
 .unfold qY;split<;>rfl
 rfl
theorem aAh:Cm.mH 4=EG:=by
 funext j m
 show (bif j==(0,0) then m else bif m==(0,0) then j else (2,2))=_;unfold EG;by_cases h1:j=(0,0)
 .rw[iP h1,bQ.2 h1];rfl
 .rw[iN h1,bN.2 h1];by_cases h2:m=(0,0)
  .rw[iP h2,bQ.2 h2];rfl
  .rw[iN h2,bN.2 h2];rfl
theorem wN(a b:Mk):(a==b)=decide (a=b):=by rw[Bool.eq_iff_iff];simp
theorem aAi:Cm.LC=RP:=by
 funext m
 unfold Cm.LC RP;rw[wN,wN,wN,Bool.or_assoc]
theorem Yr(l:List Mk):Cm.yV l=BS l:=by
 unfold Cm.yV BS
 congr 2
 funext m
 unfold Cm.pE;rw[wN,<-decide_not]
theorem Am(l:List Mk)(m o:Mk):Cm.pN l m o=qY l m o:=by
 unfold Cm.pN qY Cm.VH;have e:(fun x:Mk=>o==x)=fun x=>decide (x=o):=by funext x;rw[wN,Bool.eq_iff_iff];simp[eq_comm]
 rw[e]
 cases l.any (fun x=>decide (x=o))<;>rfl
theorem Vr(alg:Int)(l:List Mk)(h:∀m∈l,Cm.fM m=true):(Cm.iZ alg l).1=BU alg l:=by
 have ha:l.all Cm.fM=true:=List.all_eq_true.2 h;by_cases h1:1<=alg/\alg<=6
 .have:alg=1\/alg=2\/alg=3\/alg=4\/alg=5\/alg=6:=qo;unfold Cm.iZ;rw[iP ⟨ha,h1.1,h1.2⟩]
  rcases this with rfl|rfl|rfl|rfl|rfl|rfl
  .rfl
  .rfl
  .show Cm.yV l=BS l;exact Yr l
  .show Cm.AR l=RQ l;unfold Cm.AR RQ;rw[aAh,aAi]
   cases l.all RP<;>rfl
  .show Cm.pN l (0,4) (4,0)=qY l (0,4) (4,0);exact Am _ _ _
  .show Cm.pN l (4,0) (0,4)=qY l (4,0) (0,4);exact Am _ _ _
 .unfold Cm.iZ BU;rw[iN (fun h=>h1 h.2),iN qo,iN qo,iN qo,iN qo,iN qo,iN qo]
theorem VN{w:World}{ok:nP}:∀{l:List Mk} {cs:List Value},aX (Yq w ok) cs l->cs=Cm.vm l
 | [],_,h=>h
 |m::l,_,⟨r,t,e,hr,ht⟩=>by rw[e,hr.1,VN ht];rfl
theorem aCz:dV prog 320 76 1 16:=fQ (z:= .complex .f64 0 0) underlying320 (by kernel_rfl) rfl qe
abbrev Rs:=Mk×List Ob
def ReP(w:World)(ok:nP)(r:Rs)(vo:Value):Prop:=Cm.fM r.1=true/\aH jU w ok vo r.2
def Kg:Rep Rs:=fun w ok cs r=>∃vo,cs=[.complex .f64 (Cm.qb r.1.1) (Cm.qb r.1.2),vo]/\ReP w ok r vo
theorem kI:Firm Kg 2:={
 aC0:=fun⟨vo,e,h⟩ b=>⟨vo,e,h.1,aH.aC0 aP h.2 b⟩
 more:=fun⟨vo,e,h⟩ c=>⟨vo,e,h.1,aH.more aP h.2 c⟩
 len:=fun⟨vo,e,h⟩=>by rw[e];rfl
 one:=fun⟨vo,e,h⟩=>by
  intro v a;rw[e] at a;simp only[List.mem_cons,List.not_mem_nil,or_false] at a
  rcases a with rfl|rfl
  .rfl
  .exact kT h.2
 inb:=fun⟨vo,e,h⟩=>⟨vo,e,h.1,aH.inb aP h.2⟩}
theorem Ys:dV prog 275 124 2 40:=fQ (z:= .agg #[.complex .f64 0 0,.slice none 0 0]) underlying275 (by kernel_rfl) rfl qe
section
variable {α:Type} {R:Rep α} {s:Nat} {P:Program} {w:World} {t e:TypeId} {bytes:Nat} {base:Nat} {ok ok':nP}
theorem Kh(E:dV P t e s bytes)(F:Firm R s){o:Oper}{a:Act}{K:Act->World->Prop}{Q:Exit->Act->World->Prop}(g x:Operand)
 (z:o.op=.call {callee:= .builtin .append,args:=#[g,x],argTypes:=#[t,t]})
 (v:Value)(l:List α)(B:a.eval g=v)(m:aM R s e w base ok v l)
 (i:Value)(y:List α)(C:a.eval x=i)(D:aH R w (fun b=>ok b/\b<w.heap.size/\some b≠v.ownBlock) i y)
 (h63:l.length+y.length<=1000000)(p:bytes<=10000)(n:base<=w.heap.size)
 (h:∀l',Hid (l'=l++y)->∀c d w',aM R s e w' base ok (.slice c l'.length d) l'->w.grownBy w' v.ownBlock->((Value.slice c l'.length d).ownBlock=v.ownBlock\/(Value.slice c l'.length d).ownBlock=some w.heap.size)->K (a.put o.dst (.slice c l'.length d)) w'):o.wp P a w K Q:=by
 obtain⟨xs,A,q⟩:=m;obtain⟨j,k,cs,rfl,h1,h2,_⟩:=D;refine SD E g x z base v l.length xs B A j y.length k cs C (h2.len (fun _ _ f=>F.len f)) h1.lt (h2.aDp (fun _ _ f=>F.one f)) (by unfold maxLen;omega) ?_ n fun c d w' h3 h4 h5=> ?_
 .calc (l.length+y.length) * bytes<=(1000000+1) * 10000:=Nat.mul_le_mul qo p
   _<=140737488355328:=qe
 .have r:(l++y).length=l.length+y.length:=aL;have:=h _ rfl c d w';rw[r] at this;exact this (aM.put F q h2 h3 h4 h5) h4 h5
theorem AU(E:dV P t e s bytes)(F:Firm R s){ops:Array Oper}{rest:List Oper}{o:Oper}{a:Act}{Q:Exit->Act->World->Prop}(n:o.guard=none)(f x:Operand)
 (q:o.op=.call {callee:= .builtin .append,args:=#[f,x],argTypes:=#[t,t]})
 (v:Value)(l:List α)(r:a.eval f=v)(i:aM R s e w base ok v l)
 (g:Value)(y:List α)(z:a.eval x=g)(A:aH R w (fun b=>ok b/\b<w.heap.size/\some b≠v.ownBlock) g y)
 (h63:l.length+y.length<=1000000)(m:bytes<=10000)(k:base<=w.heap.size)
 (h:∀l',Hid (l'=l++y)->∀c d w',aM R s e w' base ok (.slice c l'.length d) l'->w.grownBy w' v.ownBlock->((Value.slice c l'.length d).ownBlock=v.ownBlock\/(Value.slice c l'.length d).ownBlock=some w.heap.size)->wpList P ops Q rest (a.put o.dst (.slice c l'.length d)) w'):wpList P ops Q (o::rest) a w:=
 wpList_plain n fun _ j=>Kh E F f x q v l r i g y z A h63 m k fun l' p c d w' h2 h3 h4=>j _ _ (h l' p c d w' h2 h3 h4)
end
theorem QBe{p:Prop}(h:p:=by
 have hk1:¬(k:Int)<(c.aCW.length:Int):=qo;obtain rfl:k=c.aCW.length:=qo;rw[List.take_of_length_le (lR _)] at HN2 HG HPL;go_wp2;go_returns;refine⟨_,rfl,?_,aC HB0.o HB.o⟩;rw[LI,HTE.o,HPP.o];have e:=HN2.o;subst e;exact HG.o.sl (by rw[aL];have h1:=HPLEN.o;have h2:=HPL.o;have h3:=HFL.o;omega) _ (fun b hb _=>lT HB0.o.size hb) (fun b hb _=>lT HB0.o.size hb) bZ):p:=h
theorem QBd{p:Prop}(h:p:=by
 have d14:decide ((f1.size:Int)<=14)=false:=dF qo;have HE:Hid (cV (c.aCW.take (k+1))=cV (c.aCW.take k)):=aA (by have:=HST.o;rwa [iN h14] at this);have HB3:=qB HB HBF.o;have HG3:=aA (HG.o.on bZ HBF.o);clear HST h14;go_wp2;go_roundw
 case rel=>exact⟨k+1,n2,a',c',qo,by go_num,rfl,aA (by rw[HN2.o,HE.o]),aA (by rw[HE.o];exact HG3.o),HB3⟩
 case measure=>simp[intOf];omega):p:=h
def VO(L:List Gv)(w:World)(e:Ending)(w':World):Prop:=∃v,e=.returned v/\aH jM w' (fun b=>w.heap.size<=b) v L/\Below w.heap.size w w'
theorem mX{lo:Nat}{a:World}{L:List (Nat×V3)}{o:Obj}{b:Nat}{v:V3}{cat:Int}{c:bY}(h:eK lo a L)(hm:(b,v)∈L)(e:bK cat)(f:c.size<=cQ)(g:cS v):
 jM (a.alloc o) (fun x=>lo<=x/\x<(a.alloc o).heap.size/\x≠a.heap.size) [.int .i64 cat,.string c,.slice (some ⟨b,0,none⟩) 1 1] (cat,c,[v]):=by
 have d:=(h.2 _ hm).2;have i:=aD d;exact⟨_,rfl,e,f,Vm (aE d (aB _ _)) ⟨(h.2 _ hm).1,by rw[World.size_alloc];omega,by show b≠_;omega⟩ g⟩
theorem kR{w:World}{ok:nP}{a b c:Value}{g:Gv}{t:List Value}{l:List Gv}(h:jM w ok [a,b,c] g)(d:aX (jM w ok) t l):aX (jM w ok) (a::b::c::t) (g::l):=⟨[a,b,c],t,rfl,h,d⟩
theorem iY{x:Int}(h: -1000<=x/\x<=1000000):bK x:=by unfold bK;omega
theorem pO{s:bY}(h:s.size<=cQ):cS (5,0,s):=⟨iY (x:=5) qo,iY (x:=0) qo,h⟩
def cV(l:List oH):List Gv:=(l.filter (fun f=>decide (f.1.size<=14))).map (fun f=>((3,(⟨#[102,95]⟩:bY)++f.1,[f.2]):Gv))
theorem BR{l:List oH}{k:Nat}(a:k<l.length):cV (l.take (k+1))=if l[k].1.size<=14 then cV (l.take k)++[(3,(⟨#[102,95]⟩:bY)++l[k].1,[l[k].2])] else cV (l.take k):=by
 unfold cV;rw[List.take_succ_eq_append_getElem a,List.filter_append,List.map_append];by_cases h:l[k].1.size<=14
 .rw[iP h,List.filter_cons_of_pos (by simpa using h)];rfl
 .rw[iN h,List.filter_cons_of_neg (by simpa using h)];simp
theorem wO(l:List oH)(k:Nat):(cV (l.take k)).length<=k:=by
 unfold cV;rw[List.length_map];exact lT (List.length_filter_le _ _) (List.length_take_le _ _)
def uF(c:cF)(t:V3):List Gv:=[(3,⟨#[105,100]⟩,[(5,0,c.id)]),(3,⟨#[111,119,110,101,114]⟩,[(5,0,c.aDj)]),(3,⟨#[115,116,97,116,101]⟩,[(5,0,c.aDa)]),(3,⟨#[101,118,101,110,116,115]⟩,[(2,(c.log.length:Int),⟨#[]⟩)]),(3,⟨#[116,111,111,107]⟩,[t])]
def qG(c:cF):List Gv:=match c.log.getLast? with |some h=>[(3,⟨#[108,97,115,116]⟩,[(5,0,h.aDo)])]|none=>[]
theorem LI(c:cF)(N:bY):nJ c N=uF c (cI (c.log.any (fun h=>decide (h.aDo=N))))++qG c++cV c.aCW:=by
 unfold nJ uF qG cV rU CJ;rw[Xj,Ua,Ub,Nk,Xk,Xl,aCj];rfl
theorem YL{ok:nP}(c:cF)(vf vl:Value)(N:bY)(bf:c.aCW.length<=999000)(w:World)(h:oT w ok c vf vl):Calls prog 100 #[.agg #[.string c.id,.string c.aDj,.string c.aDa,vf,vl],.string N] w (VO (nJ c N) w):=by
 obtain⟨fa,fc,rfl,bh⟩:=h.2.2.2.1.slice;obtain⟨la,lc,rfl,bj⟩:=h.2.2.2.2.slice;obtain⟨W0,ai⟩:=xE (w.alloc (.cells (oW c fa fc la lc) 46));have HB0:Hid (Below w.heap.size w W0):=aA (by rw[ai];exact aB _ _);have A:Hid (W0.heap[w.heap.size]? =some (.cells (oW c fa fc la lc) 46 (0,0))):=aA (by rw[ai];exact aK _ _ _ rfl);have bd:=aA ai;have l:Hid (∀w',Below W0.heap.size W0 w'->w'.cell? ⟨w.heap.size,0,none⟩=some (.string c.id)/\w'.cell? ⟨w.heap.size,1,none⟩=some (.string c.aDj)/\w'.cell? ⟨w.heap.size,2,none⟩=some (.string c.aDa)/\w'.cell? ⟨w.heap.size,3,none⟩=some (.slice fa c.aCW.length fc)/\w'.cell? ⟨w.heap.size,4,none⟩=some (.slice la c.log.length lc)):=aA (fun w' hb=>(cP (aE A.o hb)).1);have ad:Hid (∀w',Below W0.heap.size W0 w'->Calls prog 151 #[.agg #[.string c.id,.string c.aDj,.string c.aDa,.slice fa c.aCW.length fc,.slice la c.log.length lc],.string N] w' (aO (dD (cI (c.log.any (fun h=>decide (h.aDo=N))))) w')):=aA (fun w' hb=>Jr c _ _ N w' (h.aC0 (aJ (aC HB0.o hb))));have W:=aA h;obtain⟨tk,ah⟩:∃tk,cI (c.log.any (fun h=>decide (h.aDo=N)))=tk:=⟨_,rfl⟩;rw[ah] at ad;have HTE:=aA ah;obtain⟨t1,t2,t3⟩:=tk;unfold aO dD at ad;have bc:=aA (Below.refl W0.heap.size W0);have a:=aA (Below.refl W0.heap.size W0).drew;have HG:Hid (eK W0.heap.size W0.drew []):=aA (eK.nil (lR _));have bm:=l.o _ bc.o;obtain⟨y,S2,S5,be,S6,S4⟩:=hD6 (iY (show -1000<=(3:Int)/\(3:Int)<=1000000 by omega)) (show (⟨#[105,100]⟩:bY).size<=cQ by decide) (show (⟨#[111,119,110,101,114]⟩:bY).size<=cQ by decide) (show (⟨#[115,116,97,116,101]⟩:bY).size<=cQ by decide) (show (⟨#[101,118,101,110,116,115]⟩:bY).size<=cQ by decide) (show (⟨#[116,111,111,107]⟩:bY).size<=cQ by decide)
 have GE:Hid (cS (2,(c.log.length:Int),⟨#[]⟩)):=aA ⟨iY (x:=2) qo,iY (x:=(c.log.length:Int)) qo,show (⟨#[]⟩:bY).size<=cQ by decide⟩;have GT:Hid (cS (t1,t2,t3)):=aA (by rw[<-ah];exact nR _);clear h ai ah;go_enter func100,ntmps100;go_upto_region 1 with (fail)
 rw[<-bd.o];go_cut [5] from 9 to 35 (fun v w'=>∃(a1:oD) (Y c1:Nat),v=.slice a1 Y c1/\Hid (Y=5)/\Hid (aM jM 3 177 w' W0.heap.size (fun b=>W0.heap.size<=b) (.slice a1 Y c1) (uF c (t1,t2,t3)))/\Hid (Below W0.heap.size W0 w'))
 case first=>
  go_region_held3 (fun w'=>w'.cell? ⟨w.heap.size,0,none⟩=some (.string c.id)/\w'.cell? ⟨w.heap.size,1,none⟩=some (.string c.aDj)/\w'.cell? ⟨w.heap.size,2,none⟩=some (.string c.aDa)/\w'.cell? ⟨w.heap.size,3,none⟩=some (.slice fa c.aCW.length fc)/\w'.cell? ⟨w.heap.size,4,none⟩=some (.slice la c.log.length lc))
   (first|assumption |exact l.o _ a.o|exact l.o _ (aC a.o (aB _ _))|exact l.o _ (aC (aC a.o (aB _ _)) (aB _ _)))
   ((first
     |(go_at_call 98;refine(vO _ _).mono ?_;rintro e M ⟨rfl,J⟩;(first|replace HG:=aA (eK.on HG.o J)|replace HG:=aA (eK.push HG.o J)|replace HG:=aA (eK.aDS HG.o J));(first|replace a:=aA (aC a.o J)|replace a:=aA (aC (aC a.o (aB _ _)) J)|replace a:=aA (aC (aC (aC a.o (aB _ _)) (aB _ _)) J));have hS:=l.o _ a.o;clear J)
     |(go_at_call 99;refine(nD _ _ _ _ _ _).mono ?_;rintro e g ⟨rfl,I⟩;(first|replace HG:=aA (eK.on HG.o I)|replace HG:=aA (eK.push HG.o I)|replace HG:=aA (eK.aDS HG.o I));(first|replace a:=aA (aC a.o I)|replace a:=aA (aC (aC a.o (aB _ _)) I)|replace a:=aA (aC (aC (aC a.o (aB _ _)) (aB _ _)) I));have hS:=l.o _ a.o;clear I)
     |(go_at_call 151;(first|refine(ad.o _ a.o).mono ?_|refine(ad.o _ (aC a.o (aB _ _))).mono ?_|refine(ad.o _ (aC (aC a.o (aB _ _)) (aB _ _))).mono ?_);rintro e wt ⟨rfl,K⟩;(first|replace HG:=aA (eK.on HG.o K)|replace HG:=aA (eK.push HG.o K)|replace HG:=aA (eK.aDS HG.o K));(first|replace a:=aA (aC a.o K)|replace a:=aA (aC (aC a.o (aB _ _)) K)|replace a:=aA (aC (aC (aC a.o (aB _ _)) (aB _ _)) K));have hS:=l.o _ a.o;clear K)))
  all_goals
   clear hS;go_wp2;go_meet;exact⟨_,5,5,rfl,aA rfl,aA (aM.many bZ qe rfl qe (aK _ _ _ rfl) a.o.size (kR (mX HG.o qs y.o (S2.o) (pO W.o.1)) (kR (mX HG.o qs y.o (S5.o) (pO W.o.2.1)) (kR (mX HG.o qs y.o (be.o) (pO W.o.2.2.1)) (kR (mX HG.o qs y.o (S6.o) GE.o) (kR (mX HG.o qs y.o (S4.o) GT.o) rfl))))) qe),aA (aC a.o (aB _ _))⟩
 case rest=>
  obtain⟨a1,Y,c1,hv,ab,aa,G⟩:=hcut;subst hv;have HFL:=aA bf;have ba:=aA (l.o _ G.o);obtain⟨s0,s1,s2,s3,s4⟩:=ba.o;have zs:=aD (aE A.o G.o);by_cases ax:c.log.length=0
  .have bg:¬(c.log.length:Int) > 0:=qo;obtain⟨P,B⟩:∃P,uF c (t1,t2,t3)++qG c=P:=⟨_,rfl⟩;have HPP:=aA B;have a6:qG c=[]:=by unfold qG;rw[List.eq_nil_of_length_eq_zero ax];rfl
   rw[a6,List.append_nil] at B;rw[B] at aa;have V:Hid (Y=P.length):=aA (by rw[ab.o,<-B];rfl);have HPLEN:Hid (P.length<=6):=aA (by rw[<-V.o,ab.o];omega);have an:=aA aa.o;have aj:=aA G.o;clear B a6 aa ab G ax;go_wp2;go_loopw [5,8,57] (fun v _ i wr=>∃(k n2:Nat) (a':oD) (c':Nat),k<=c.aCW.length/\i=.int .i64 k/\v=.slice a' n2 c'/\Hid (n2=(P++cV (c.aCW.take k)).length)/\Hid (aM jM 3 177 wr W0.heap.size (fun b=>W0.heap.size<=b) (.slice a' n2 c') (P++cV (c.aCW.take k)))/\Hid (Below W0.heap.size W0 wr)) (fun _ _ i _=>c.aCW.length - (intOf i).toNat)
   case atStart=>exact⟨0,Y,a1,c1,Nat.zero_le _,rfl,rfl,aA (by rw[V.o];simp[cV]),aA (by rw[show P++cV (c.aCW.take 0)=P by simp[cV]];have h:=an.o;have e:=V.o;exact h),aj⟩
   case round=>
    obtain⟨k,n2,a',c',hk,rfl,rfl,HN2,HG,HB⟩:=hrel;have HPL:=aA (wO c.aCW k);have bb:=aA (l.o _ HB.o);by_cases af:k<c.aCW.length
    .have hk1:(k:Int)<(c.aCW.length:Int):=qo;obtain⟨b,off,r,rfl,_,az,⟨rfl,D⟩,C⟩:=aH.at bL (aH.on bL W.o.2.2.2.1 (aC HB0.o HB.o)) af qe;obtain⟨O,x1,x2,x3⟩:=SG C;rw[Nat.add_zero] at O;have HST:=aA (BR af);have al:=aA D;clear C D;generalize c.aCW[k]=f at *;obtain⟨f1,f2,f3,f4⟩:=f;dsimp only at O x1 x2 x3 HST;have HBF:=aA (aB wr (.cells #[.string f1,.int .i64 f2,.int .i64 f3,.string f4] 57));by_cases h14:f1.size<=14
     .have d14:decide ((f1.size:Int)<=14)=true:=dX qo;have HE:Hid (cV (c.aCW.take (k+1))=cV (c.aCW.take k)++[(3,(⟨#[102,95]⟩:bY)++f1,[(f2,f3,f4)])]):=aA (by have:=HST.o;rwa [iP h14] at this);have aw:Hid (((⟨#[102,95]⟩:bY)++f1).size<=cQ):=aA (by
       rw[ByteArray.size_append,show (⟨#[102,95]⟩:bY).size=2 from rfl];have hb:1000<=cQ:=qe;omega)
      have ao:Hid (cS (f2,f3,f4)):=aA al.o.2;obtain⟨n,T,av⟩:=aY (aC HBF.o (aB _ (.cells #[.int .i64 f2,.int .i64 f3,.string f4] 55))) HG.o.lt (World.size_alloc wr (.cells #[.string f1,.int .i64 f2,.int .i64 f3,.string f4] 57));have h15:¬9223372036854775807<2+f1.size:=qo;clear HST h14;go_wp2_with fail;refine(nD _ _ _ _ _ _).mono ?_;rintro e g ⟨rfl,d⟩;obtain⟨HB3,Q,X,HG3⟩:=dG (aC (aC HB.o n.o) d) (eK.push (lo:=wr.heap.size) (L:=[]) (eK.nil HBF.o.size) d) HB.o.size (HG.o.on bZ (aC n.o d));obtain⟨R,U,q⟩:=aY (mX (o:= .cells #[.int .i64 3,.string ((⟨#[102,95]⟩:bY)++f1),.slice (some ⟨wr.heap.size+1,0,none⟩) 1 1] 177) (b:=wr.heap.size+1) Q.o (by rw[<-av.o];simp) y.o aw.o ao.o) (aK g (.cells #[.int .i64 3,.string ((⟨#[102,95]⟩:bY)++f1),.slice (some ⟨wr.heap.size+1,0,none⟩) 1 1] 177) g.heap.size qs) (aB g (.cells #[.int .i64 3,.string ((⟨#[102,95]⟩:bY)++f1),.slice (some ⟨wr.heap.size+1,0,none⟩) 1 1] 177));have s:=aA (HG3.o.on bZ q.o);have j:=qB HB3 q.o;have ar:Hid ((P++cV (c.aCW.take k)).length<=1000000):=aA (by rw[aL];have h1:=HPLEN.o;have h2:=HPL.o;have h3:=HFL.o;omega);clear d n HG O x1 x2 x3 HG3 HB3;go_wp2_with (at_builtin;refine cC (base:=W0.heap.size) IT bZ rfl (.tmp 65) (.tmp 73) rfl _ (P++cV (c.aCW.take k)) rfl s.o g.heap.size 1 _ _ _ (3,(⟨#[102,95]⟩:bY)++f1,[(f2,f3,f4)]) rfl U.o (by have h:=R.o;obtain⟨vb,e1,h1,h2,h3⟩:=h;exact⟨vb,e1,h1,h2,aH.more bH h3 fun x p=>⟨lT X.o p.1,p.2.1,fun e=>absurd (T.o x e.symm).2 (Nat.not_lt.2 p.1)⟩⟩) ar.o qo j.o.size ?_;intro l' F A' c2 w9 z E ae;have S:=aA z;have t:=aA (s.o.below j.o E (lR _) j.o.size);have H:=aA F.o;clear z E ae F)
      have Z:Hid (l'=P++cV (c.aCW.take (k+1))):=aA (by rw[H.o,HE.o,List.append_assoc]);go_roundw
      case rel=>exact⟨k+1,l'.length,A',c2,qo,by go_num,rfl,aA (by rw[Z.o]),aA (by have h:=S.o;have e:=Z.o;subst e;exact h),t⟩
      case measure=>simp[intOf];omega
     .exact QBd
    .exact QBe
  .have bg:(c.log.length:Int) > 0:=qo;obtain⟨m,hm⟩:∃m,c.log.length=m+1:=⟨c.log.length - 1,qo⟩;have a7:m<c.log.length:=qo;have bk:(c.log.length:Int) - 1=(m:Int):=qo;have bl:(m:Int)<(c.log.length:Int):=qo;obtain⟨b,off,r,rfl,_,az,⟨rfl,D⟩,C⟩:=aH.at bS (aH.on bS W.o.2.2.2.2 (aC HB0.o G.o)) a7 qe;have y1:=C 1 _ rfl;have ay:Hid (qG c=[(3,⟨#[108,97,115,116]⟩,[(5,0,c.log[m].aDo)])]):=aA (by unfold qG;rw[List.getLast?_eq_getElem?,show c.log.length - 1=m by omega,gE a7]);have a8:=aA D.2.1;clear C D hm ax;generalize c.log[m].aDo=ac at *;obtain⟨P,B⟩:∃P,uF c (t1,t2,t3)++qG c=P:=⟨_,rfl⟩;have HPP:=aA B;have au:Hid ((uF c (t1,t2,t3)).length=5):=aA rfl;clear B;go_wp2_with fail;refine(vO _ _).mono ?_;rintro e M ⟨rfl,d⟩;have ak:=qB G d;have aq:=aA (aa.o.on bZ d);have T:=aA aq.o.lt;clear d G aa s0 s1 s2 s3 s4 zs y1;go_wp2_with fail;refine(nD _ _ _ _ _ _).mono ?_;rintro e g ⟨rfl,d⟩;have n:=aA (aB M (.cells #[.int .i64 5,.int .i64 0,.string ac] 55));obtain⟨HB3,Q,X,HG3⟩:=dG (aC (aC ak.o n.o) d) (eK.push (lo:=M.heap.size) (L:=[]) (eK.nil (lR _)) d) ak.o.size (aq.o.on bZ (aC n.o d));obtain⟨R,U,q⟩:=aY (mX (o:= .cells #[.int .i64 3,.string (⟨#[108,97,115,116]⟩:bY),.slice (some ⟨M.heap.size,0,none⟩) 1 1] 177) (b:=M.heap.size) Q.o qs y.o (show (⟨#[108,97,115,116]⟩:bY).size<=cQ by decide) (pO a8.o)) (aK g (.cells #[.int .i64 3,.string (⟨#[108,97,115,116]⟩:bY),.slice (some ⟨M.heap.size,0,none⟩) 1 1] 177) g.heap.size qs) (aB g (.cells #[.int .i64 3,.string (⟨#[108,97,115,116]⟩:bY),.slice (some ⟨M.heap.size,0,none⟩) 1 1] 177))
   have s:=aA (HG3.o.on bZ q.o);have j:=qB HB3 q.o;obtain⟨s0,s1,s2,s3,s4⟩:=l.o _ j.o;clear d n aq ak HG3 HB3;go_wp2_with (at_builtin;refine cC (base:=W0.heap.size) IT bZ rfl (.tmp 41) (.tmp 52) rfl _ (uF c (t1,t2,t3)) (by rw[ab.o];rfl) s.o g.heap.size 1 _ _ _ (3,(⟨#[108,97,115,116]⟩:bY),[(5,0,ac)]) rfl U.o (by have h:=R.o;obtain⟨vb,e1,h1,h2,h3⟩:=h;exact⟨vb,e1,h1,h2,aH.more bH h3 fun x p=>⟨lT X.o p.1,p.2.1,fun e=>absurd (T.o x e.symm).2 (Nat.not_lt.2 p.1)⟩⟩) (by rw[au.o];omega) qo j.o.size ?_;intro l' F A' c2 w9 z E ae;have S:=aA z;have t:=aA (s.o.below j.o E (lR _) j.o.size);have H:=aA F.o;obtain⟨q0,q1,q2,q3,q4⟩:=l.o _ t.o;have zq:=aD (aE A.o t.o);clear z E ae F)
   have ag:Hid (l'=P):=aA (by rw[H.o,<-HPP.o,ay.o]);have V:Hid (l'.length=P.length):=aA (by rw[ag.o]);have HPLEN:Hid (P.length<=6):=aA (by rw[<-ag.o,H.o,aL,au.o];simp);have an:Hid (aM jM 3 177 w9 W0.heap.size (fun b=>W0.heap.size<=b) (.slice A' l'.length c2) P):=aA (by have h:=S.o;have e:=ag.o;subst e;exact h);have aj:=aA t.o;clear S t s j R U q Q X T H ag ay au ab s0 s1 s2 s3 s4;go_loopw [5,8,57] (fun v _ i wr=>∃(k n2:Nat) (a':oD) (c':Nat),k<=c.aCW.length/\i=.int .i64 k/\v=.slice a' n2 c'/\Hid (n2=(P++cV (c.aCW.take k)).length)/\Hid (aM jM 3 177 wr W0.heap.size (fun b=>W0.heap.size<=b) (.slice a' n2 c') (P++cV (c.aCW.take k)))/\Hid (Below W0.heap.size W0 wr)) (fun _ _ i _=>c.aCW.length - (intOf i).toNat)
   case atStart=>exact⟨0,l'.length,A',c2,Nat.zero_le _,rfl,rfl,aA (by rw[V.o];simp[cV]),aA (by rw[show P++cV (c.aCW.take 0)=P by simp[cV]];have h:=an.o;have e:=V.o;exact h),aj⟩
   case round=>
    obtain⟨k,n2,a',c',hk,rfl,rfl,HN2,HG,HB⟩:=hrel;have HPL:=aA (wO c.aCW k);have bb:=aA (l.o _ HB.o);by_cases af:k<c.aCW.length
    .have hk1:(k:Int)<(c.aCW.length:Int):=qo;obtain⟨b,off,r,rfl,_,az,⟨rfl,D⟩,C⟩:=aH.at bL (aH.on bL W.o.2.2.2.1 (aC HB0.o HB.o)) af qe;obtain⟨O,x1,x2,x3⟩:=SG C;rw[Nat.add_zero] at O;have HST:=aA (BR af);have al:=aA D;clear C D;generalize c.aCW[k]=f at *;obtain⟨f1,f2,f3,f4⟩:=f;dsimp only at O x1 x2 x3 HST;have HBF:=aA (aB wr (.cells #[.string f1,.int .i64 f2,.int .i64 f3,.string f4] 57));by_cases h14:f1.size<=14
     .have d14:decide ((f1.size:Int)<=14)=true:=dX qo;have HE:Hid (cV (c.aCW.take (k+1))=cV (c.aCW.take k)++[(3,(⟨#[102,95]⟩:bY)++f1,[(f2,f3,f4)])]):=aA (by have:=HST.o;rwa [iP h14] at this);have aw:Hid (((⟨#[102,95]⟩:bY)++f1).size<=cQ):=aA (by
       rw[ByteArray.size_append,show (⟨#[102,95]⟩:bY).size=2 from rfl];have hb:1000<=cQ:=qe;omega)
      have ao:Hid (cS (f2,f3,f4)):=aA al.o.2;obtain⟨n,T,av⟩:=aY (aC HBF.o (aB _ (.cells #[.int .i64 f2,.int .i64 f3,.string f4] 55))) HG.o.lt (World.size_alloc wr (.cells #[.string f1,.int .i64 f2,.int .i64 f3,.string f4] 57));have h15:¬9223372036854775807<2+f1.size:=qo;clear HST h14;go_wp2_with fail;refine(nD _ _ _ _ _ _).mono ?_;rintro e g ⟨rfl,d⟩;obtain⟨HB3,Q,X,HG3⟩:=dG (aC (aC HB.o n.o) d) (eK.push (lo:=wr.heap.size) (L:=[]) (eK.nil HBF.o.size) d) HB.o.size (HG.o.on bZ (aC n.o d));obtain⟨R,U,q⟩:=aY (mX (o:= .cells #[.int .i64 3,.string ((⟨#[102,95]⟩:bY)++f1),.slice (some ⟨wr.heap.size+1,0,none⟩) 1 1] 177) (b:=wr.heap.size+1) Q.o (by rw[<-av.o];simp) y.o aw.o ao.o) (aK g (.cells #[.int .i64 3,.string ((⟨#[102,95]⟩:bY)++f1),.slice (some ⟨wr.heap.size+1,0,none⟩) 1 1] 177) g.heap.size qs) (aB g (.cells #[.int .i64 3,.string ((⟨#[102,95]⟩:bY)++f1),.slice (some ⟨wr.heap.size+1,0,none⟩) 1 1] 177));have s:=aA (HG3.o.on bZ q.o);have j:=qB HB3 q.o;have ar:Hid ((P++cV (c.aCW.take k)).length<=1000000):=aA (by rw[aL];have h1:=HPLEN.o;have h2:=HPL.o;have h3:=HFL.o;omega);clear d n HG O x1 x2 x3 HG3 HB3;go_wp2_with (at_builtin;refine cC (base:=W0.heap.size) IT bZ rfl (.tmp 65) (.tmp 73) rfl _ (P++cV (c.aCW.take k)) rfl s.o g.heap.size 1 _ _ _ (3,(⟨#[102,95]⟩:bY)++f1,[(f2,f3,f4)]) rfl U.o (by have h:=R.o;obtain⟨vb,e1,h1,h2,h3⟩:=h;exact⟨vb,e1,h1,h2,aH.more bH h3 fun x p=>⟨lT X.o p.1,p.2.1,fun e=>absurd (T.o x e.symm).2 (Nat.not_lt.2 p.1)⟩⟩) ar.o qo j.o.size ?_;intro l9 F A9 c9 bn z E ae;have S:=aA z;have t:=aA (s.o.below j.o E (lR _) j.o.size);have H:=aA F.o;clear z E ae F)
      have Z:Hid (l9=P++cV (c.aCW.take (k+1))):=aA (by rw[H.o,HE.o,List.append_assoc]);go_roundw
      case rel=>exact⟨k+1,l9.length,A9,c9,qo,by go_num,rfl,aA (by rw[Z.o]),aA (by have h:=S.o;have e:=Z.o;subst e;exact h),t⟩
      case measure=>simp[intOf];omega
     .exact QBd
    .exact QBe
end Go.Proofs.YtbinmcabjnoliaaGreatDoor
