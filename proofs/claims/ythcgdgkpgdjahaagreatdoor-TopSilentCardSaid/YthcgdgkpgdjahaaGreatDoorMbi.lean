/- Lemmas. -/
import Derived.Test.YthcgdgkpgdjahaaGreatDoorMbh
namespace Go.Proofs.YthcgdgkpgdjahaaGreatDoor
open Go.RowKit
set_option linter.unusedVariables false
set_option linter.unusedSimpArgs false
set_option maxHeartbeats 16000000
open _root_.Go.Proofs.Tryz
set_option maxRecDepth 20000
theorem QBX{p:Prop}(h:p:=by
 refine⟨_,rfl,?_,oH HB1.o (Nat.le_succ _)⟩;exact aH.more aO (aH.aDW aO HS1.o (((aI _).trans (aI _)).mono fun k _ hk=>hk.2)) (fun b hb=>hb.1)):p:=h
theorem Va{p:Prop}(h:p:=by
 go_enter func227,ntmps227;go_wp2;refine bR (.agg #[.complex .f64 0 0,.slice none 0 0]) ?_;exact tQ rfl (aC (aB _ _) (aB _ _)) rfl rfl):p:=h
theorem QBa{p:Prop}(h:p:=by
 cases deny
 .go_enter func227,ntmps227;go_wp2_with fail;refine(HIP.o _).mono ?_;rintro e w1 ⟨rfl,rfl⟩;go_wp2;refine bR (.agg #[.complex .f64 4602678819172646912 0,.slice none 0 0]) ?_;exact tQ rfl (aC (aB _ _) (aB _ _)) rfl rfl
 .go_enter func227,ntmps227;go_wp2_with fail;refine(HID.o _).mono ?_;rintro e w1 ⟨rfl,rfl⟩;go_wp2;refine bR (.agg #[.complex .f64 0 4602678819172646912,.slice none 0 0]) ?_;exact tQ rfl (aC (aB _ _) (aB _ _)) rfl rfl):p:=h
def nG(r:Mk×List Ob)(w:World)(e:Ending)(w':World):Prop:=∃vo,e=.returned (.agg #[.complex .f64 (Cm.qb r.1.1) (Cm.qb r.1.2),vo])/\aH kE w' (fun b=>w.heap.size<=b) vo r.2/\Below w.heap.size w w'
theorem tQ{r:Mk×List Ob}{a b:Nat}{w w':World}(c:r=((a,b),[]))(h:Below w.heap.size w w'){x y:Nat}(d:Cm.qb a=x)(e:Cm.qb b=y):nG r w (.returned (.agg #[.complex .f64 x y,.slice none 0 0])) w':=by
 subst c d e;exact⟨_,rfl,aH.nil,h⟩
theorem oH{W w:World}{g:Nat}{a b:Value}(h:Below W.heap.size W w)(c:W.heap.size<=g):Below W.heap.size W ((w.setCell ⟨g,0,none⟩ a).setCell ⟨g,1,none⟩ b):=(h.setCell c _).setCell c _
theorem uR(p:Addr)(x y:Nat)(w:World):(store p (.complex .f64 x y)).run prog w=stored prog w p (.complex .f64 x y) .plain:=run_store prog w p _ _ rfl
theorem Gh{ok:nP}(r:Ru)(p m i:oD)(s q o n j:Nat)(t c:Nat)(G:t<=2)(E:c<=2)(w:World)(D:aH kE w ok (.slice i r.aD4.length j) r.aD4):
 Calls prog 227 #[.agg #[.string r.id,.bool r.aEp,.slice p s q,.slice m o n,.slice i r.aD4.length j],.int .i64 t,.int .i64 c] w (nG (EY r t c) w):=by
 have x:=aA (aC (aB w (.cells #[.string r.id,.bool r.aEp,.slice p s q,.slice m o n,.slice i r.aD4.length j] 269)) (aB _ (.cells #[.complex .f64 0 0,.slice none 0 0] 96)));have B:=aA (D.on aO x.o);have C:Hid (((w.alloc (.cells #[.string r.id,.bool r.aEp,.slice p s q,.slice m o n,.slice i r.aD4.length j] 269)).alloc (.cells #[.complex .f64 0 0,.slice none 0 0] 96)).heap[w.heap.size+1]? =some (.cells #[.complex .f64 0 0,.slice none 0 0] 96 (0,0))):=aA (aK (w.alloc (.cells #[.string r.id,.bool r.aEp,.slice p s q,.slice m o n,.slice i r.aD4.length j] 269)) (.cells #[.complex .f64 0 0,.slice none 0 0] 96) _ qs);have HIP:Hid (∀w,Calls prog 230 #[.complex .f64 4607182418800017408 0] w fun e w'=>e=.returned (.complex .f64 4602678819172646912 0)/\w=w'):=aA (fun w=>Cm.aBU (4,0) ⟨qe,qe⟩ w);have HID:Hid (∀w,Calls prog 230 #[.complex .f64 0 4607182418800017408] w fun e w'=>e=.returned (.complex .f64 0 4602678819172646912)/\w=w'):=aA (fun w=>Cm.aBU (0,4) ⟨qe,qe⟩ w);have A:Hid (∀w ok v l,aH kE w ok v l->Calls prog 231 #[v,.complex .f64 4607182418800017408 0] w (wX (gV l (4,0)) w)):=aA (fun w ok v l h=>yH v l (4,0) ⟨qe,qe⟩ w h);have z:Hid (∀w ok v l,aH kE w ok v l->Calls prog 231 #[v,.complex .f64 0 4607182418800017408] w (wX (gV l (0,4)) w)):=aA (fun w ok v l h=>yH v l (0,4) ⟨qe,qe⟩ w h);unfold wX at A z;have J:=uR;obtain⟨id,deny,target,cond,obls⟩:=r;simp only at *;clear D;have H:t=0\/t=1\/t=2:=qo;have F:c=0\/c=1\/c=2:=qo;clear G E
 rcases H with rfl|rfl|rfl
 .show Calls prog _ #[_,.int .i64 0,_] w _
  cases deny
  .exact Va
  .exact Va
 .show Calls prog _ #[_,.int .i64 1,_] w _;exact QBa
 .rcases F with rfl|rfl|rfl
  .show Calls prog _ #[_,.int .i64 2,.int .i64 0] w _
   cases deny
   .exact Va
   .exact Va
  .show Calls prog _ #[_,.int .i64 2,.int .i64 1] w _;exact QBa
  .show Calls prog _ #[_,.int .i64 2,.int .i64 2] w _
   cases deny
   .have f:=aA (A.o _ _ _ _ B.o);go_enter func227,ntmps227;go_wp2_with fail;refine f.o.mono ?_;rintro e w1 ⟨v,rfl,d,a⟩;obtain⟨y,vc,rfl,_⟩:=d.slice;have HB1:=qB x a;have HS1:=aA (d.more aO (ok':=fun b=>w.heap.size<=b/\b≠w.heap.size+1) (fun b hb=>by simp only[World.size_alloc] at hb;exact⟨qo,qo⟩));have g:=qK C a;obtain⟨⟨u0,u1⟩,_⟩:=fL g.o;have I:=aD g.o;clear d a f;go_wp2;refine bR (.agg #[.complex .f64 4607182418800017408 0,.slice y (gV obls (4,0)).length vc]) ?_;exact QBX
   .have f:=aA (z.o _ _ _ _ B.o);go_enter func227,ntmps227;go_wp2_with fail;refine f.o.mono ?_;rintro e w1 ⟨v,rfl,d,a⟩;obtain⟨y,vc,rfl,_⟩:=d.slice;have HB1:=qB x a;have HS1:=aA (d.more aO (ok':=fun b=>w.heap.size<=b/\b≠w.heap.size+1) (fun b hb=>by simp only[World.size_alloc] at hb;exact⟨qo,qo⟩));have g:=qK C a;obtain⟨⟨u0,u1⟩,_⟩:=fL g.o;have I:=aD g.o;clear d a f;go_wp2;refine bR (.agg #[.complex .f64 0 4607182418800017408,.slice y (gV obls (0,4)).length vc]) ?_;exact QBX
theorem MB{α:Type}(f:α->Nat):∀(l:List α) (n:Nat),n<=2->l.foldl (fun out x=>min out (f x)) n<=2
 | [],n,h=>h
 |x::l,n,h=>MB f l _ (lT (Nat.min_le_left _ _) h)
theorem Cd(g:List Gv)(t:Ta):xX g t<=2:=MB _ t 2 (lR _)
theorem Se(g:List Gv)(l:List No):tX g l<=2:=by
 unfold tX;split
 .decide
 dsimp only;split
 .decide
 split<;>decide
def Kp(w:World)(p q:Nat)(a b:Obj)(w':World):Prop:=Below w.heap.size w w'/\w'.heap[p]? =some a/\w'.heap[q]? =some b
theorem Kp.on{w w' d:World}{p q:Nat}{b c:Obj}(h:Kp w p q b c w')(a:Below w'.heap.size w' d):Kp w p q b c d:=⟨aC h.1 a,aE h.2.1 a,aE h.2.2 a⟩
theorem MC(w:World)(a b:Obj):Kp w w.heap.size (w.heap.size+1) a b ((w.alloc a).alloc b):=
 ⟨aC (aB w a) (aB _ b),aE (aK w a _ rfl) (aB _ b),aK (w.alloc a) b _ qs⟩
theorem Mm{ok ok':nP}(r:Ru)(vt vc vo:Value)(R:Value)(g:List Gv)(w:World)(y:sC w ok' r vt vc vo)(h:aH jW w ok R g):
 Calls prog 187 #[.agg #[.string r.id,.bool r.aEp,vt,vc,vo],R] w (nG (iF g r) w):=by
 obtain⟨J,gc,rfl,_⟩:=h.slice;obtain⟨o,q,rfl,_⟩:=y.2.1.slice;obtain⟨m,n,rfl,_⟩:=y.2.2.1.slice;obtain⟨s,x,rfl,_⟩:=y.2.2.2.slice;have D:=aA y;have H:=aA h;obtain⟨f,P⟩:∃f:Obj,f=.cells #[.string r.id,.bool r.aEp,.slice o r.aDY.length q,.slice m r.cond.length n,.slice s r.aD4.length x] 269:=⟨_,rfl⟩;obtain⟨j,Q⟩:∃j:Obj,j=.cells #[.complex .f64 0 0,.slice none 0 0] 96:=⟨_,rfl⟩;obtain⟨T,A,C⟩:=aZ ((MC w f j).on ((Below.refl _ _).drew)) P Q;have I:Hid (∀w',Kp w w.heap.size (w.heap.size+1) f j w'->Calls prog 186 #[.slice o r.aDY.length q,.slice J g.length gc] w' (aP (.int .i64 (xX g r.aDY:Nat)) w')):=aA (fun w' l=>Bi _ _ _ g w' (D.o.2.1.aDW aS (aJ l.1)) (H.o.on cA l.1));have F:Hid (∀w',Kp w w.heap.size (w.heap.size+1) f j w'->Calls prog 228 #[.slice m r.cond.length n,.slice J g.length gc] w' (aP (.int .i64 (tX g r.cond:Nat)) w')):=aA (fun w' l=>Mi _ _ _ g w' (D.o.2.2.1.aDW dQ (aJ l.1)) (H.o.on cA l.1));have G:Hid (∀w',Kp w w.heap.size (w.heap.size+1) f j w'->Calls prog 227 #[.agg #[.string r.id,.bool r.aEp,.slice o r.aDY.length q,.slice m r.cond.length n,.slice s r.aD4.length x],.int .i64 (xX g r.aDY:Nat),.int .i64 (tX g r.cond:Nat)] w' (nG (iF g r) w')):=aA (fun w' l=>Gh r o m s _ q _ n x _ _ (Cd _ _) (Se _ _) w' (D.o.2.2.2.aDW aO (aJ l.1)));unfold aP at I F;unfold nG at G;have z:Hid (∀w',Kp w w.heap.size (w.heap.size+1) f j w'->(w'.cell? ⟨w.heap.size,0,none⟩=some (.string r.id)/\w'.cell? ⟨w.heap.size,1,none⟩=some (.bool r.aEp)/\w'.cell? ⟨w.heap.size,2,none⟩=some (.slice o r.aDY.length q)/\w'.cell? ⟨w.heap.size,3,none⟩=some (.slice m r.cond.length n)/\w'.cell? ⟨w.heap.size,4,none⟩=some (.slice s r.aD4.length x))):=aA (fun w' l=>by
  have h1:=l.2.1;rw[A.o] at h1;obtain⟨⟨a,b,c,d,e⟩,_⟩:=dM h1;exact⟨a,b,c,d,e⟩)
 have S:Hid (∀w',Kp w w.heap.size (w.heap.size+1) f j w'->(w'.cell? ⟨w.heap.size+1,0,none⟩=some (.complex .f64 0 0)/\w'.cell? ⟨w.heap.size+1,1,none⟩=some (.slice none 0 0)/\w'.frozen? ⟨w.heap.size+1,0,none⟩=false/\w'.frozen? ⟨w.heap.size+1,1,none⟩=false/\w.heap.size+1<w'.heap.size)):=aA (fun w' l=>by
  have h1:=l.2.2;rw[C.o] at h1;obtain⟨⟨a,b⟩,c,d⟩:=fL h1;exact⟨a,b,c,d,aD h1⟩)
 have W:Hid (∀w',Kp w w.heap.size (w.heap.size+1) f j w'->∀b,w'.heap.size<=b->w.heap.size<=b/\b≠w.heap.size+1):=aA (fun w' l b L=>by
  have:=aD l.2.2;exact⟨qo,qo⟩)
 have Y:Hid (∀(w':World) (a b:Value),Kp w w.heap.size (w.heap.size+1) f j w'->(((w'.setCell ⟨w.heap.size+1,0,none⟩ a).setCell ⟨w.heap.size+1,1,none⟩ b).cell? ⟨w.heap.size,0,none⟩=some (.string r.id)/\((w'.setCell ⟨w.heap.size+1,0,none⟩ a).setCell ⟨w.heap.size+1,1,none⟩ b).cell? ⟨w.heap.size,1,none⟩=some (.bool r.aEp)/\((w'.setCell ⟨w.heap.size+1,0,none⟩ a).setCell ⟨w.heap.size+1,1,none⟩ b).cell? ⟨w.heap.size,2,none⟩=some (.slice o r.aDY.length q)/\((w'.setCell ⟨w.heap.size+1,0,none⟩ a).setCell ⟨w.heap.size+1,1,none⟩ b).cell? ⟨w.heap.size,3,none⟩=some (.slice m r.cond.length n)/\((w'.setCell ⟨w.heap.size+1,0,none⟩ a).setCell ⟨w.heap.size+1,1,none⟩ b).cell? ⟨w.heap.size,4,none⟩=some (.slice s r.aD4.length x))):=aA (fun w' a b l=>by
  have h1:=bE (b':=w.heap.size+1) (i:=1) (v:=b) (bE (b':=w.heap.size+1) (i:=0) (v:=a) l.2.1 qo) qo;rw[A.o] at h1;obtain⟨⟨a,b,c,d,e⟩,_⟩:=dM h1;exact⟨a,b,c,d,e⟩)
 have K:=z.o _ T.o;rw[A.o,C.o] at K;generalize xX g r.aDY=t at *;generalize tX g r.cond=c at *;generalize iF g r=res at *;have ae:=uR;clear h y P Q;go_enter func187,ntmps187;go_wp2;rw[<-A.o,<-C.o] at K ⊢;go_region_held3 (fun w'=>w'.cell? ⟨w.heap.size,0,none⟩=some (.string r.id)/\w'.cell? ⟨w.heap.size,1,none⟩=some (.bool r.aEp)/\w'.cell? ⟨w.heap.size,2,none⟩=some (.slice o r.aDY.length q)/\w'.cell? ⟨w.heap.size,3,none⟩=some (.slice m r.cond.length n)/\w'.cell? ⟨w.heap.size,4,none⟩=some (.slice s r.aD4.length x))
  (first|assumption |exact Y.o _ _ _ (Hid.o (p:=Kp w w.heap.size (w.heap.size+1) f j _) (by assumption)))
  ((first
    |(go_at_call 186;refine(I.o _ (Hid.o (p:=Kp w w.heap.size (w.heap.size+1) f j _) (by assumption))).mono ?_;rintro e wa ⟨rfl,M⟩;have U:=aA (Kp.on (Hid.o (p:=Kp w w.heap.size (w.heap.size+1) f j _) (by assumption)) M);have aa:=z.o _ U.o;clear M)
    |(go_at_call 228;refine(F.o _ (Hid.o (p:=Kp w w.heap.size (w.heap.size+1) f j _) (by assumption))).mono ?_;rintro e wc ⟨rfl,N⟩;have V:=aA (Kp.on (Hid.o (p:=Kp w w.heap.size (w.heap.size+1) f j _) (by assumption)) N);have ab:=z.o _ V.o;clear N)
    |(go_at_call 227;refine(G.o _ (Hid.o (p:=Kp w w.heap.size (w.heap.size+1) f j _) (by assumption))).mono ?_;rintro e we ⟨v,rfl,E,O⟩;obtain⟨Z,vc,rfl,_⟩:=E.slice;have B:=aA (Kp.on (Hid.o (p:=Kp w w.heap.size (w.heap.size+1) f j _) (by assumption)) O);have ad:=z.o _ B.o;have X:=aA (aH.more (ok':=fun b=>w.heap.size<=b/\b≠w.heap.size+1) aO E (W.o _ (Hid.o (p:=Kp w w.heap.size (w.heap.size+1) f j _) (by assumption))));have hu:=S.o _ B.o;obtain⟨u0,u1,f0,f1,zu⟩:=hu;clear O E)))
 all_goals
  go_wp2;refine bR (.agg #[.complex .f64 (Cm.qb res.1.1) (Cm.qb res.1.2),.slice Z res.2.length vc]) ?_;refine⟨_,rfl,?_,oH B.o.1 (Nat.le_succ _)⟩;exact aH.more aO (aH.aDW aO X.o (((aI _).trans (aI _)).mono fun k _ l=>l.2)) (fun b L=>L.1)
def Vb(m:Mk):List Value:=[.complex .f64 (Cm.qb m.1) (Cm.qb m.2)]
def aAs(m:Mk):Prop:=Cm.fE m=true
def MkR:Rep Mk:=mS Vb aAs
theorem Mn:Firm MkR 1:=gK (fun _=>rfl) (fun x v h=>by simp only[Vb,List.mem_cons,List.not_mem_nil,or_false] at h;rcases h with rfl;rfl)
theorem EL{m:Mk}(h:Cm.fE m=true):m=(0,0)\/m=(4,0)\/m=(0,4)\/m=(2,0)\/m=(0,2)\/m=(2,2):=by
 unfold Cm.fE at h;by_cases h0:m=(0,0);exact .inl h0;by_cases h1:m=(4,0);exact .inr (.inl h1);by_cases h2:m=(0,4);exact .inr (.inr (.inl h2));by_cases h3:m=(2,0);exact .inr (.inr (.inr (.inl h3)));by_cases h4:m=(0,2);exact .inr (.inr (.inr (.inr (.inl h4))));by_cases h5:m=(2,2);exact .inr (.inr (.inr (.inr (.inr h5))));rw[iN h0,iN h1,iN h2,iN h3,iN h4,iN h5] at h
 cases h
theorem zG{m:Mk}(h:Cm.fE m=true):Cm.QP m:=by
 rcases EL h with rfl|rfl|rfl|rfl|rfl|rfl<;>exact⟨qe,qe⟩
theorem MD(m:Mk):Cm.fE (SX m)=true:=by
 unfold SX;split;rfl;split;rfl;split;rfl;split;rfl;split<;>rfl
theorem Gi{m:Mk}(h:Cm.fE m=true):Cm.fE (Cx m)=true:=by
 rcases EL h with rfl|rfl|rfl|rfl|rfl|rfl<;>rfl
theorem IT{m:Mk}(h:Cm.fE m=true):Cm.fE (uE m)=true:=by
 rcases EL h with rfl|rfl|rfl|rfl|rfl|rfl<;>rfl
theorem Gj{j m:Mk}(hj:Cm.fE j=true)(h:Cm.fE m=true):Cm.fE (EZ j m)=true:=by
 unfold EZ;split;exact h;split;exact hj;rfl
theorem IU:∀(l:List Mk) (j:Mk),Cm.fE j=true->(∀m∈l,Cm.fE m=true)->Cm.fE (l.foldl EZ j)=true
 | [],j,hj,_=>hj
 |m::l,j,hj,h=>IU l _ (Gj hj (h m (List.mem_cons_self ..))) (fun x a=>h x (List.mem_cons_of_mem _ a))
theorem QZ(alg:Int)(l:List Mk)(h:∀m∈l,Cm.fE m=true):Cm.fE (CH alg l)=true:=by
 unfold CH;split;exact MD _;split;exact Gi (MD _);split
 .unfold CG
  cases a:l.find? (fun m=>decide (m≠(0,0))) with
  |none=>rfl
  |some m=>exact h m (List.mem_of_find?_eq_some a)
 split
 .unfold SZ;split
  .exact IU l _ rfl h
  .rfl
 split
 .unfold rM;split<;>rfl
 split
 .unfold rM;split<;>rfl
 rfl
theorem aBc:Cm.mQ 4=EZ:=by
 funext j m
 show (bif j==(0,0) then m else bif m==(0,0) then j else (2,2))=_;unfold EZ;by_cases h1:j=(0,0)
 .rw[iP h1,bQ.2 h1];rfl
 .rw[iN h1,bN.2 h1];by_cases h2:m=(0,0)
  .rw[iP h2,bQ.2 h2];rfl
  .rw[iN h2,bN.2 h2];rfl
theorem wY(a b:Mk):(a==b)=decide (a=b):=by rw[Bool.eq_iff_iff];simp
theorem aBd:Cm.LZ=SY:=by
 funext m
 unfold Cm.LZ SY;rw[wY,wY,wY,Bool.or_assoc]
theorem aAu(l:List Mk):Cm.zF l=CG l:=by
 unfold Cm.zF CG
 congr 2
 funext m
 unfold Cm.pO;rw[wY,<-decide_not]
theorem Ce(l:List Mk)(m o:Mk):Cm.pY l m o=rM l m o:=by
 unfold Cm.pY rM Cm.WU;have e:(fun x:Mk=>o==x)=fun x=>decide (x=o):=by funext x;rw[wY,Bool.eq_iff_iff];simp[eq_comm]
 rw[e]
 cases l.any (fun x=>decide (x=o))<;>rfl
theorem Xs(alg:Int)(l:List Mk)(h:∀m∈l,Cm.fE m=true):(Cm.jC alg l).1=CH alg l:=by
 have ha:l.all Cm.fE=true:=List.all_eq_true.2 h;by_cases h1:1<=alg/\alg<=6
 .have:alg=1\/alg=2\/alg=3\/alg=4\/alg=5\/alg=6:=qo;unfold Cm.jC;rw[iP ⟨ha,h1.1,h1.2⟩]
  rcases this with rfl|rfl|rfl|rfl|rfl|rfl
  .rfl
  .rfl
  .show Cm.zF l=CG l;exact aAu l
  .show Cm.BH l=SZ l;unfold Cm.BH SZ;rw[aBc,aBd]
   cases l.all SY<;>rfl
  .show Cm.pY l (0,4) (4,0)=rM l (0,4) (4,0);exact Ce _ _ _
  .show Cm.pY l (4,0) (0,4)=rM l (4,0) (0,4);exact Ce _ _ _
 .unfold Cm.jC CH;rw[iN (fun h=>h1 h.2),iN qo,iN qo,iN qo,iN qo,iN qo,iN qo]
theorem XC{w:World}{ok:nP}:∀{l:List Mk} {cs:List Value},aW (MkR w ok) cs l->cs=Cm.vm l
 | [],_,h=>h
 |m::l,_,⟨r,t,e,hr,ht⟩=>by rw[e,hr.1,XC ht];rfl
theorem aDu:dZ prog 320 35 1 16:=fR (z:= .complex .f64 0 0) underlying320 (by kernel_rfl) rfl qe
abbrev Rs:=Mk×List Ob
def ReP(w:World)(ok:nP)(r:Rs)(vo:Value):Prop:=Cm.fE r.1=true/\aH kE w ok vo r.2
def Mo:Rep Rs:=fun w ok cs r=>∃vo,cs=[.complex .f64 (Cm.qb r.1.1) (Cm.qb r.1.2),vo]/\ReP w ok r vo
theorem kU:Firm Mo 2:={
 aDW:=fun⟨vo,e,h⟩ b=>⟨vo,e,h.1,aH.aDW aO h.2 b⟩
 more:=fun⟨vo,e,h⟩ c=>⟨vo,e,h.1,aH.more aO h.2 c⟩
 len:=fun⟨vo,e,h⟩=>by rw[e];rfl
 one:=fun⟨vo,e,h⟩=>by
  intro v a;rw[e] at a;simp only[List.mem_cons,List.not_mem_nil,or_false] at a
  rcases a with rfl|rfl
  .rfl
  .exact lD h.2
 inb:=fun⟨vo,e,h⟩=>⟨vo,e,h.1,aH.inb aO h.2⟩}
theorem aAv:dZ prog 273 96 2 40:=fR (z:= .agg #[.complex .f64 0 0,.slice none 0 0]) underlying273 (by kernel_rfl) rfl qe
section
variable {α:Type} {R:Rep α} {s:Nat} {P:Program} {w:World} {t e:TypeId} {bytes:Nat} {base:Nat} {ok ok':nP}
theorem Mp(E:dZ P t e s bytes)(F:Firm R s){o:Oper}{a:Act}{K:Act->World->Prop}{Q:Exit->Act->World->Prop}(g x:Operand)
 (z:o.op=.call {callee:= .builtin .append,args:=#[g,x],argTypes:=#[t,t]})
 (v:Value)(l:List α)(B:a.eval g=v)(m:aM R s e w base ok v l)
 (i:Value)(y:List α)(C:a.eval x=i)(D:aH R w (fun b=>ok b/\b<w.heap.size/\some b≠v.ownBlock) i y)
 (h63:l.length+y.length<=1000000)(p:bytes<=10000)(n:base<=w.heap.size)
 (h:∀l',Hid (l'=l++y)->∀c d w',aM R s e w' base ok (.slice c l'.length d) l'->w.grownBy w' v.ownBlock->((Value.slice c l'.length d).ownBlock=v.ownBlock\/(Value.slice c l'.length d).ownBlock=some w.heap.size)->K (a.put o.dst (.slice c l'.length d)) w'):o.wp P a w K Q:=by
 obtain⟨xs,A,q⟩:=m;obtain⟨j,k,cs,rfl,h1,h2,_⟩:=D;refine TN E g x z base v l.length xs B A j y.length k cs C (h2.len (fun _ _ f=>F.len f)) h1.lt (h2.aEl (fun _ _ f=>F.one f)) (by unfold maxLen;omega) ?_ n fun c d w' h3 h4 h5=> ?_
 .calc (l.length+y.length) * bytes<=(1000000+1) * 10000:=Nat.mul_le_mul qo p
   _<=140737488355328:=qe
 .have r:(l++y).length=l.length+y.length:=aL;have:=h _ rfl c d w';rw[r] at this;exact this (aM.put F q h2 h3 h4 h5) h4 h5
theorem BI(E:dZ P t e s bytes)(F:Firm R s){ops:Array Oper}{rest:List Oper}{o:Oper}{a:Act}{Q:Exit->Act->World->Prop}(n:o.guard=none)(f x:Operand)
 (q:o.op=.call {callee:= .builtin .append,args:=#[f,x],argTypes:=#[t,t]})
 (v:Value)(l:List α)(r:a.eval f=v)(i:aM R s e w base ok v l)
 (g:Value)(y:List α)(z:a.eval x=g)(A:aH R w (fun b=>ok b/\b<w.heap.size/\some b≠v.ownBlock) g y)
 (h63:l.length+y.length<=1000000)(m:bytes<=10000)(k:base<=w.heap.size)
 (h:∀l',Hid (l'=l++y)->∀c d w',aM R s e w' base ok (.slice c l'.length d) l'->w.grownBy w' v.ownBlock->((Value.slice c l'.length d).ownBlock=v.ownBlock\/(Value.slice c l'.length d).ownBlock=some w.heap.size)->wpList P ops Q rest (a.put o.dst (.slice c l'.length d)) w'):wpList P ops Q (o::rest) a w:=
 wpList_plain n fun _ j=>Mp E F f x q v l r i g y z A h63 m k fun l' p c d w' h2 h3 h4=>j _ _ (h l' p c d w' h2 h3 h4)
end
theorem QBe{p:Prop}(h:p:=by
 have hk1:¬(k:Int)<(c.aDT.length:Int):=qo;obtain rfl:k=c.aDT.length:=qo;rw[List.take_of_length_le (lR _)] at HN2 HG HPL;go_wp2;go_returns;refine⟨_,rfl,?_,aC HB0.o HB.o⟩;rw[ME,HTE.o,HPP.o];have e:=HN2.o;subst e;exact HG.o.sl (by rw[aL];have h1:=HPLEN.o;have h2:=HPL.o;have h3:=HFL.o;omega) _ (fun b hb _=>lT HB0.o.size hb) (fun b hb _=>lT HB0.o.size hb) cA):p:=h
theorem QBd{p:Prop}(h:p:=by
 have d14:decide ((f1.size:Int)<=14)=false:=dF qo;have HE:Hid (cW (c.aDT.take (k+1))=cW (c.aDT.take k)):=aA (by have:=HST.o;rwa [iN h14] at this);have HB3:=qB HB HBF.o;have HG3:=aA (HG.o.on cA HBF.o);clear HST h14;go_wp2;go_roundw
 case rel=>exact⟨k+1,n2,a',c',qo,by go_num,rfl,aA (by rw[HN2.o,HE.o]),aA (by rw[HE.o];exact HG3.o),HB3⟩
 case measure=>simp[intOf];omega):p:=h
def XD(L:List Gv)(w:World)(e:Ending)(w':World):Prop:=∃v,e=.returned v/\aH jW w' (fun b=>w.heap.size<=b) v L/\Below w.heap.size w w'
theorem nH{lo:Nat}{a:World}{L:List (Nat×V3)}{o:Obj}{b:Nat}{v:V3}{cat:Int}{c:bY}(h:eP lo a L)(hm:(b,v)∈L)(e:bL cat)(f:c.size<=cQ)(g:cS v):
 jW (a.alloc o) (fun x=>lo<=x/\x<(a.alloc o).heap.size/\x≠a.heap.size) [.int .i64 cat,.string c,.slice (some ⟨b,0,none⟩) 1 1] (cat,c,[v]):=by
 have d:=(h.2 _ hm).2;have i:=aD d;exact⟨_,rfl,e,f,Xn (aE d (aB _ _)) ⟨(h.2 _ hm).1,by rw[World.size_alloc];omega,by show b≠_;omega⟩ g⟩
theorem lC{w:World}{ok:nP}{a b c:Value}{g:Gv}{t:List Value}{l:List Gv}(h:jW w ok [a,b,c] g)(d:aW (jW w ok) t l):aW (jW w ok) (a::b::c::t) (g::l):=⟨[a,b,c],t,rfl,h,d⟩
theorem jB{x:Int}(h: -1000<=x/\x<=1000000):bL x:=by unfold bL;omega
theorem pZ{s:bY}(h:s.size<=cQ):cS (5,0,s):=⟨jB (x:=5) qo,jB (x:=0) qo,h⟩
def cW(l:List qE):List Gv:=(l.filter (fun f=>decide (f.1.size<=14))).map (fun f=>((3,(⟨#[102,95]⟩:bY)++f.1,[f.2]):Gv))
theorem CE{l:List qE}{k:Nat}(a:k<l.length):cW (l.take (k+1))=if l[k].1.size<=14 then cW (l.take k)++[(3,(⟨#[102,95]⟩:bY)++l[k].1,[l[k].2])] else cW (l.take k):=by
 unfold cW;rw[List.take_succ_eq_append_getElem a,List.filter_append,List.map_append];by_cases h:l[k].1.size<=14
 .rw[iP h,List.filter_cons_of_pos (by simpa using h)];rfl
 .rw[iN h,List.filter_cons_of_neg (by simpa using h)];simp
theorem wZ(l:List qE)(k:Nat):(cW (l.take k)).length<=k:=by
 unfold cW;rw[List.length_map];exact lT (List.length_filter_le _ _) (List.length_take_le _ _)
def uS(c:cB)(t:V3):List Gv:=[(3,⟨#[105,100]⟩,[(5,0,c.id)]),(3,⟨#[111,119,110,101,114]⟩,[(5,0,c.aEg)]),(3,⟨#[115,116,97,116,101]⟩,[(5,0,c.aD9)]),(3,⟨#[101,118,101,110,116,115]⟩,[(2,(c.log.length:Int),⟨#[]⟩)]),(3,⟨#[116,111,111,107]⟩,[t])]
def qW(c:cB):List Gv:=match c.log.getLast? with |some h=>[(3,⟨#[108,97,115,116]⟩,[(5,0,h.aEn)])]|none=>[]
theorem ME(c:cB)(N:bY):nW c N=uS c (cI (c.log.any (fun h=>decide (h.aEn=N))))++qW c++cW c.aDT:=by
 unfold nW uS qW cW sH CY;rw[Zm,Wb,Wc,Py,Zn,Zo,aDe];rfl
theorem ZZ{ok:nP}(c:cB)(vf vl:Value)(N:bY)(bf:c.aDT.length<=999000)(w:World)(h:pD w ok c vf vl):Calls prog 83 #[.agg #[.string c.id,.string c.aEg,.string c.aD9,vf,vl],.string N] w (XD (nW c N) w):=by
 obtain⟨fa,fc,rfl,bh⟩:=h.2.2.2.1.slice;obtain⟨la,lc,rfl,bj⟩:=h.2.2.2.2.slice;obtain⟨W0,ai⟩:=xE (w.alloc (.cells (pH c fa fc la lc) 113));have HB0:Hid (Below w.heap.size w W0):=aA (by rw[ai];exact aB _ _);have A:Hid (W0.heap[w.heap.size]? =some (.cells (pH c fa fc la lc) 113 (0,0))):=aA (by rw[ai];exact aK _ _ _ rfl);have bd:=aA ai;have l:Hid (∀w',Below W0.heap.size W0 w'->w'.cell? ⟨w.heap.size,0,none⟩=some (.string c.id)/\w'.cell? ⟨w.heap.size,1,none⟩=some (.string c.aEg)/\w'.cell? ⟨w.heap.size,2,none⟩=some (.string c.aD9)/\w'.cell? ⟨w.heap.size,3,none⟩=some (.slice fa c.aDT.length fc)/\w'.cell? ⟨w.heap.size,4,none⟩=some (.slice la c.log.length lc)):=aA (fun w' hb=>(dM (aE A.o hb)).1);have ad:Hid (∀w',Below W0.heap.size W0 w'->Calls prog 142 #[.agg #[.string c.id,.string c.aEg,.string c.aD9,.slice fa c.aDT.length fc,.slice la c.log.length lc],.string N] w' (aP (dC (cI (c.log.any (fun h=>decide (h.aEn=N))))) w')):=aA (fun w' hb=>Lw c _ _ N w' (h.aDW (aJ (aC HB0.o hb))));have W:=aA h;obtain⟨tk,ah⟩:∃tk,cI (c.log.any (fun h=>decide (h.aEn=N)))=tk:=⟨_,rfl⟩;rw[ah] at ad;have HTE:=aA ah;obtain⟨t1,t2,t3⟩:=tk;unfold aP dC at ad;have bc:=aA (Below.refl W0.heap.size W0);have a:=aA (Below.refl W0.heap.size W0).drew;have HG:Hid (eP W0.heap.size W0.drew []):=aA (eP.nil (lR _));have bm:=l.o _ bc.o;obtain⟨y,S2,S5,be,S6,S4⟩:=hD6 (jB (show -1000<=(3:Int)/\(3:Int)<=1000000 by omega)) (show (⟨#[105,100]⟩:bY).size<=cQ by decide) (show (⟨#[111,119,110,101,114]⟩:bY).size<=cQ by decide) (show (⟨#[115,116,97,116,101]⟩:bY).size<=cQ by decide) (show (⟨#[101,118,101,110,116,115]⟩:bY).size<=cQ by decide) (show (⟨#[116,111,111,107]⟩:bY).size<=cQ by decide)
 have GE:Hid (cS (2,(c.log.length:Int),⟨#[]⟩)):=aA ⟨jB (x:=2) qo,jB (x:=(c.log.length:Int)) qo,show (⟨#[]⟩:bY).size<=cQ by decide⟩;have GT:Hid (cS (t1,t2,t3)):=aA (by rw[<-ah];exact oB _);clear h ai ah;go_enter func83,ntmps83;go_upto_region 1 with (fail)
 rw[<-bd.o];go_cut [5] from 9 to 35 (fun v w'=>∃(a1:oD) (Y c1:Nat),v=.slice a1 Y c1/\Hid (Y=5)/\Hid (aM jW 3 160 w' W0.heap.size (fun b=>W0.heap.size<=b) (.slice a1 Y c1) (uS c (t1,t2,t3)))/\Hid (Below W0.heap.size W0 w'))
 case first=>
  go_region_held3 (fun w'=>w'.cell? ⟨w.heap.size,0,none⟩=some (.string c.id)/\w'.cell? ⟨w.heap.size,1,none⟩=some (.string c.aEg)/\w'.cell? ⟨w.heap.size,2,none⟩=some (.string c.aD9)/\w'.cell? ⟨w.heap.size,3,none⟩=some (.slice fa c.aDT.length fc)/\w'.cell? ⟨w.heap.size,4,none⟩=some (.slice la c.log.length lc))
   (first|assumption |exact l.o _ a.o|exact l.o _ (aC a.o (aB _ _))|exact l.o _ (aC (aC a.o (aB _ _)) (aB _ _)))
   ((first
     |(go_at_call 81;refine(vZ _ _).mono ?_;rintro e M ⟨rfl,J⟩;(first|replace HG:=aA (eP.on HG.o J)|replace HG:=aA (eP.push HG.o J)|replace HG:=aA (eP.aEO HG.o J));(first|replace a:=aA (aC a.o J)|replace a:=aA (aC (aC a.o (aB _ _)) J)|replace a:=aA (aC (aC (aC a.o (aB _ _)) (aB _ _)) J));have hS:=l.o _ a.o;clear J)
     |(go_at_call 82;refine(nN _ _ _ _ _ _).mono ?_;rintro e g ⟨rfl,I⟩;(first|replace HG:=aA (eP.on HG.o I)|replace HG:=aA (eP.push HG.o I)|replace HG:=aA (eP.aEO HG.o I));(first|replace a:=aA (aC a.o I)|replace a:=aA (aC (aC a.o (aB _ _)) I)|replace a:=aA (aC (aC (aC a.o (aB _ _)) (aB _ _)) I));have hS:=l.o _ a.o;clear I)
     |(go_at_call 142;(first|refine(ad.o _ a.o).mono ?_|refine(ad.o _ (aC a.o (aB _ _))).mono ?_|refine(ad.o _ (aC (aC a.o (aB _ _)) (aB _ _))).mono ?_);rintro e wt ⟨rfl,K⟩;(first|replace HG:=aA (eP.on HG.o K)|replace HG:=aA (eP.push HG.o K)|replace HG:=aA (eP.aEO HG.o K));(first|replace a:=aA (aC a.o K)|replace a:=aA (aC (aC a.o (aB _ _)) K)|replace a:=aA (aC (aC (aC a.o (aB _ _)) (aB _ _)) K));have hS:=l.o _ a.o;clear K)))
  all_goals
   clear hS;go_wp2;go_meet;exact⟨_,5,5,rfl,aA rfl,aA (aM.many cA qe rfl qe (aK _ _ _ rfl) a.o.size (lC (nH HG.o qs y.o (S2.o) (pZ W.o.1)) (lC (nH HG.o qs y.o (S5.o) (pZ W.o.2.1)) (lC (nH HG.o qs y.o (be.o) (pZ W.o.2.2.1)) (lC (nH HG.o qs y.o (S6.o) GE.o) (lC (nH HG.o qs y.o (S4.o) GT.o) rfl))))) qe),aA (aC a.o (aB _ _))⟩
 case rest=>
  obtain⟨a1,Y,c1,hv,ab,aa,G⟩:=hcut;subst hv;have HFL:=aA bf;have ba:=aA (l.o _ G.o);obtain⟨s0,s1,s2,s3,s4⟩:=ba.o;have zs:=aD (aE A.o G.o);by_cases ax:c.log.length=0
  .have bg:¬(c.log.length:Int) > 0:=qo;obtain⟨P,B⟩:∃P,uS c (t1,t2,t3)++qW c=P:=⟨_,rfl⟩;have HPP:=aA B;have a6:qW c=[]:=by unfold qW;rw[List.eq_nil_of_length_eq_zero ax];rfl
   rw[a6,List.append_nil] at B;rw[B] at aa;have V:Hid (Y=P.length):=aA (by rw[ab.o,<-B];rfl);have HPLEN:Hid (P.length<=6):=aA (by rw[<-V.o,ab.o];omega);have an:=aA aa.o;have aj:=aA G.o;clear B a6 aa ab G ax;go_wp2;go_loopw [5,8,57] (fun v _ i wr=>∃(k n2:Nat) (a':oD) (c':Nat),k<=c.aDT.length/\i=.int .i64 k/\v=.slice a' n2 c'/\Hid (n2=(P++cW (c.aDT.take k)).length)/\Hid (aM jW 3 160 wr W0.heap.size (fun b=>W0.heap.size<=b) (.slice a' n2 c') (P++cW (c.aDT.take k)))/\Hid (Below W0.heap.size W0 wr)) (fun _ _ i _=>c.aDT.length - (intOf i).toNat)
   case atStart=>exact⟨0,Y,a1,c1,Nat.zero_le _,rfl,rfl,aA (by rw[V.o];simp[cW]),aA (by rw[show P++cW (c.aDT.take 0)=P by simp[cW]];have h:=an.o;have e:=V.o;exact h),aj⟩
   case round=>
    obtain⟨k,n2,a',c',hk,rfl,rfl,HN2,HG,HB⟩:=hrel;have HPL:=aA (wZ c.aDT k);have bb:=aA (l.o _ HB.o);by_cases af:k<c.aDT.length
    .have hk1:(k:Int)<(c.aDT.length:Int):=qo;obtain⟨b,off,r,rfl,_,az,⟨rfl,D⟩,C⟩:=aH.at bS (aH.on bS W.o.2.2.2.1 (aC HB0.o HB.o)) af qe;obtain⟨O,x1,x2,x3⟩:=Ib C;rw[Nat.add_zero] at O;have HST:=aA (CE af);have al:=aA D;clear C D;generalize c.aDT[k]=f at *;obtain⟨f1,f2,f3,f4⟩:=f;dsimp only at O x1 x2 x3 HST;have HBF:=aA (aB wr (.cells #[.string f1,.int .i64 f2,.int .i64 f3,.string f4] 185));by_cases h14:f1.size<=14
     .have d14:decide ((f1.size:Int)<=14)=true:=dX qo;have HE:Hid (cW (c.aDT.take (k+1))=cW (c.aDT.take k)++[(3,(⟨#[102,95]⟩:bY)++f1,[(f2,f3,f4)])]):=aA (by have:=HST.o;rwa [iP h14] at this);have aw:Hid (((⟨#[102,95]⟩:bY)++f1).size<=cQ):=aA (by
       rw[ByteArray.size_append,show (⟨#[102,95]⟩:bY).size=2 from rfl];have hb:1000<=cQ:=qe;omega)
      have ao:Hid (cS (f2,f3,f4)):=aA al.o.2;obtain⟨n,T,av⟩:=aZ (aC HBF.o (aB _ (.cells #[.int .i64 f2,.int .i64 f3,.string f4] 30))) HG.o.lt (World.size_alloc wr (.cells #[.string f1,.int .i64 f2,.int .i64 f3,.string f4] 185));have h15:¬9223372036854775807<2+f1.size:=qo;clear HST h14;go_wp2_with fail;refine(nN _ _ _ _ _ _).mono ?_;rintro e g ⟨rfl,d⟩;obtain⟨HB3,Q,X,HG3⟩:=dH (aC (aC HB.o n.o) d) (eP.push (lo:=wr.heap.size) (L:=[]) (eP.nil HBF.o.size) d) HB.o.size (HG.o.on cA (aC n.o d));obtain⟨R,U,q⟩:=aZ (nH (o:= .cells #[.int .i64 3,.string ((⟨#[102,95]⟩:bY)++f1),.slice (some ⟨wr.heap.size+1,0,none⟩) 1 1] 160) (b:=wr.heap.size+1) Q.o (by rw[<-av.o];simp) y.o aw.o ao.o) (aK g (.cells #[.int .i64 3,.string ((⟨#[102,95]⟩:bY)++f1),.slice (some ⟨wr.heap.size+1,0,none⟩) 1 1] 160) g.heap.size qs) (aB g (.cells #[.int .i64 3,.string ((⟨#[102,95]⟩:bY)++f1),.slice (some ⟨wr.heap.size+1,0,none⟩) 1 1] 160));have s:=aA (HG3.o.on cA q.o);have j:=qB HB3 q.o;have ar:Hid ((P++cW (c.aDT.take k)).length<=1000000):=aA (by rw[aL];have h1:=HPLEN.o;have h2:=HPL.o;have h3:=HFL.o;omega);clear d n HG O x1 x2 x3 HG3 HB3;go_wp2_with (at_builtin;refine cC (base:=W0.heap.size) JO cA rfl (.tmp 65) (.tmp 73) rfl _ (P++cW (c.aDT.take k)) rfl s.o g.heap.size 1 _ _ _ (3,(⟨#[102,95]⟩:bY)++f1,[(f2,f3,f4)]) rfl U.o (by have h:=R.o;obtain⟨vb,e1,h1,h2,h3⟩:=h;exact⟨vb,e1,h1,h2,aH.more bG h3 fun x p=>⟨lT X.o p.1,p.2.1,fun e=>absurd (T.o x e.symm).2 (Nat.not_lt.2 p.1)⟩⟩) ar.o qo j.o.size ?_;intro l' F A' c2 w9 z E ae;have S:=aA z;have t:=aA (s.o.below j.o E (lR _) j.o.size);have H:=aA F.o;clear z E ae F)
      have Z:Hid (l'=P++cW (c.aDT.take (k+1))):=aA (by rw[H.o,HE.o,List.append_assoc]);go_roundw
      case rel=>exact⟨k+1,l'.length,A',c2,qo,by go_num,rfl,aA (by rw[Z.o]),aA (by have h:=S.o;have e:=Z.o;subst e;exact h),t⟩
      case measure=>simp[intOf];omega
     .exact QBd
    .exact QBe
  .have bg:(c.log.length:Int) > 0:=qo;obtain⟨m,hm⟩:∃m,c.log.length=m+1:=⟨c.log.length - 1,qo⟩;have a7:m<c.log.length:=qo;have bk:(c.log.length:Int) - 1=(m:Int):=qo;have bl:(m:Int)<(c.log.length:Int):=qo;obtain⟨b,off,r,rfl,_,az,⟨rfl,D⟩,C⟩:=aH.at cE (aH.on cE W.o.2.2.2.2 (aC HB0.o G.o)) a7 qe;have y1:=C 1 _ rfl;have ay:Hid (qW c=[(3,⟨#[108,97,115,116]⟩,[(5,0,c.log[m].aEn)])]):=aA (by unfold qW;rw[List.getLast?_eq_getElem?,show c.log.length - 1=m by omega,gE a7]);have a8:=aA D.2.1;clear C D hm ax;generalize c.log[m].aEn=ac at *;obtain⟨P,B⟩:∃P,uS c (t1,t2,t3)++qW c=P:=⟨_,rfl⟩;have HPP:=aA B;have au:Hid ((uS c (t1,t2,t3)).length=5):=aA rfl;clear B;go_wp2_with fail;refine(vZ _ _).mono ?_;rintro e M ⟨rfl,d⟩;have ak:=qB G d;have aq:=aA (aa.o.on cA d);have T:=aA aq.o.lt;clear d G aa s0 s1 s2 s3 s4 zs y1;go_wp2_with fail;refine(nN _ _ _ _ _ _).mono ?_;rintro e g ⟨rfl,d⟩;have n:=aA (aB M (.cells #[.int .i64 5,.int .i64 0,.string ac] 30));obtain⟨HB3,Q,X,HG3⟩:=dH (aC (aC ak.o n.o) d) (eP.push (lo:=M.heap.size) (L:=[]) (eP.nil (lR _)) d) ak.o.size (aq.o.on cA (aC n.o d));obtain⟨R,U,q⟩:=aZ (nH (o:= .cells #[.int .i64 3,.string (⟨#[108,97,115,116]⟩:bY),.slice (some ⟨M.heap.size,0,none⟩) 1 1] 160) (b:=M.heap.size) Q.o qs y.o (show (⟨#[108,97,115,116]⟩:bY).size<=cQ by decide) (pZ a8.o)) (aK g (.cells #[.int .i64 3,.string (⟨#[108,97,115,116]⟩:bY),.slice (some ⟨M.heap.size,0,none⟩) 1 1] 160) g.heap.size qs) (aB g (.cells #[.int .i64 3,.string (⟨#[108,97,115,116]⟩:bY),.slice (some ⟨M.heap.size,0,none⟩) 1 1] 160))
   have s:=aA (HG3.o.on cA q.o);have j:=qB HB3 q.o;obtain⟨s0,s1,s2,s3,s4⟩:=l.o _ j.o;clear d n aq ak HG3 HB3;go_wp2_with (at_builtin;refine cC (base:=W0.heap.size) JO cA rfl (.tmp 41) (.tmp 52) rfl _ (uS c (t1,t2,t3)) (by rw[ab.o];rfl) s.o g.heap.size 1 _ _ _ (3,(⟨#[108,97,115,116]⟩:bY),[(5,0,ac)]) rfl U.o (by have h:=R.o;obtain⟨vb,e1,h1,h2,h3⟩:=h;exact⟨vb,e1,h1,h2,aH.more bG h3 fun x p=>⟨lT X.o p.1,p.2.1,fun e=>absurd (T.o x e.symm).2 (Nat.not_lt.2 p.1)⟩⟩) (by rw[au.o];omega) qo j.o.size ?_;intro l' F A' c2 w9 z E ae;have S:=aA z;have t:=aA (s.o.below j.o E (lR _) j.o.size);have H:=aA F.o;obtain⟨q0,q1,q2,q3,q4⟩:=l.o _ t.o;have zq:=aD (aE A.o t.o);clear z E ae F)
   have ag:Hid (l'=P):=aA (by rw[H.o,<-HPP.o,ay.o]);have V:Hid (l'.length=P.length):=aA (by rw[ag.o]);have HPLEN:Hid (P.length<=6):=aA (by rw[<-ag.o,H.o,aL,au.o];simp);have an:Hid (aM jW 3 160 w9 W0.heap.size (fun b=>W0.heap.size<=b) (.slice A' l'.length c2) P):=aA (by have h:=S.o;have e:=ag.o;subst e;exact h);have aj:=aA t.o;clear S t s j R U q Q X T H ag ay au ab s0 s1 s2 s3 s4;go_loopw [5,8,57] (fun v _ i wr=>∃(k n2:Nat) (a':oD) (c':Nat),k<=c.aDT.length/\i=.int .i64 k/\v=.slice a' n2 c'/\Hid (n2=(P++cW (c.aDT.take k)).length)/\Hid (aM jW 3 160 wr W0.heap.size (fun b=>W0.heap.size<=b) (.slice a' n2 c') (P++cW (c.aDT.take k)))/\Hid (Below W0.heap.size W0 wr)) (fun _ _ i _=>c.aDT.length - (intOf i).toNat)
   case atStart=>exact⟨0,l'.length,A',c2,Nat.zero_le _,rfl,rfl,aA (by rw[V.o];simp[cW]),aA (by rw[show P++cW (c.aDT.take 0)=P by simp[cW]];have h:=an.o;have e:=V.o;exact h),aj⟩
   case round=>
    obtain⟨k,n2,a',c',hk,rfl,rfl,HN2,HG,HB⟩:=hrel;have HPL:=aA (wZ c.aDT k);have bb:=aA (l.o _ HB.o);by_cases af:k<c.aDT.length
    .have hk1:(k:Int)<(c.aDT.length:Int):=qo;obtain⟨b,off,r,rfl,_,az,⟨rfl,D⟩,C⟩:=aH.at bS (aH.on bS W.o.2.2.2.1 (aC HB0.o HB.o)) af qe;obtain⟨O,x1,x2,x3⟩:=Ib C;rw[Nat.add_zero] at O;have HST:=aA (CE af);have al:=aA D;clear C D;generalize c.aDT[k]=f at *;obtain⟨f1,f2,f3,f4⟩:=f;dsimp only at O x1 x2 x3 HST;have HBF:=aA (aB wr (.cells #[.string f1,.int .i64 f2,.int .i64 f3,.string f4] 185));by_cases h14:f1.size<=14
     .have d14:decide ((f1.size:Int)<=14)=true:=dX qo;have HE:Hid (cW (c.aDT.take (k+1))=cW (c.aDT.take k)++[(3,(⟨#[102,95]⟩:bY)++f1,[(f2,f3,f4)])]):=aA (by have:=HST.o;rwa [iP h14] at this);have aw:Hid (((⟨#[102,95]⟩:bY)++f1).size<=cQ):=aA (by
       rw[ByteArray.size_append,show (⟨#[102,95]⟩:bY).size=2 from rfl];have hb:1000<=cQ:=qe;omega)
      have ao:Hid (cS (f2,f3,f4)):=aA al.o.2;obtain⟨n,T,av⟩:=aZ (aC HBF.o (aB _ (.cells #[.int .i64 f2,.int .i64 f3,.string f4] 30))) HG.o.lt (World.size_alloc wr (.cells #[.string f1,.int .i64 f2,.int .i64 f3,.string f4] 185));have h15:¬9223372036854775807<2+f1.size:=qo;clear HST h14;go_wp2_with fail;refine(nN _ _ _ _ _ _).mono ?_;rintro e g ⟨rfl,d⟩;obtain⟨HB3,Q,X,HG3⟩:=dH (aC (aC HB.o n.o) d) (eP.push (lo:=wr.heap.size) (L:=[]) (eP.nil HBF.o.size) d) HB.o.size (HG.o.on cA (aC n.o d));obtain⟨R,U,q⟩:=aZ (nH (o:= .cells #[.int .i64 3,.string ((⟨#[102,95]⟩:bY)++f1),.slice (some ⟨wr.heap.size+1,0,none⟩) 1 1] 160) (b:=wr.heap.size+1) Q.o (by rw[<-av.o];simp) y.o aw.o ao.o) (aK g (.cells #[.int .i64 3,.string ((⟨#[102,95]⟩:bY)++f1),.slice (some ⟨wr.heap.size+1,0,none⟩) 1 1] 160) g.heap.size qs) (aB g (.cells #[.int .i64 3,.string ((⟨#[102,95]⟩:bY)++f1),.slice (some ⟨wr.heap.size+1,0,none⟩) 1 1] 160));have s:=aA (HG3.o.on cA q.o);have j:=qB HB3 q.o;have ar:Hid ((P++cW (c.aDT.take k)).length<=1000000):=aA (by rw[aL];have h1:=HPLEN.o;have h2:=HPL.o;have h3:=HFL.o;omega);clear d n HG O x1 x2 x3 HG3 HB3;go_wp2_with (at_builtin;refine cC (base:=W0.heap.size) JO cA rfl (.tmp 65) (.tmp 73) rfl _ (P++cW (c.aDT.take k)) rfl s.o g.heap.size 1 _ _ _ (3,(⟨#[102,95]⟩:bY)++f1,[(f2,f3,f4)]) rfl U.o (by have h:=R.o;obtain⟨vb,e1,h1,h2,h3⟩:=h;exact⟨vb,e1,h1,h2,aH.more bG h3 fun x p=>⟨lT X.o p.1,p.2.1,fun e=>absurd (T.o x e.symm).2 (Nat.not_lt.2 p.1)⟩⟩) ar.o qo j.o.size ?_;intro l9 F A9 c9 bn z E ae;have S:=aA z;have t:=aA (s.o.below j.o E (lR _) j.o.size);have H:=aA F.o;clear z E ae F)
      have Z:Hid (l9=P++cW (c.aDT.take (k+1))):=aA (by rw[H.o,HE.o,List.append_assoc]);go_roundw
      case rel=>exact⟨k+1,l9.length,A9,c9,qo,by go_num,rfl,aA (by rw[Z.o]),aA (by have h:=S.o;have e:=Z.o;subst e;exact h),t⟩
      case measure=>simp[intOf];omega
     .exact QBd
    .exact QBe
end Go.Proofs.YthcgdgkpgdjahaaGreatDoor
