/- Lemmas. -/
import Derived.Test.YtbpimcljljlbnaaGreatDoorMbg
import Derived.Test.YtbpimcljljlbnaaGreatDoorMar
namespace Go.Proofs.YtbpimcljljlbnaaGreatDoor
open Go.RowKit
set_option linter.unusedVariables false
set_option linter.unusedSimpArgs false
set_option maxHeartbeats 16000000
open _root_.Go.Proofs.Tryz
set_option maxRecDepth 20000
theorem Kr{ok ok':nP}(o:Value)(l:List No)(n:Value)(g:List Gv)(w:World)(m:aH JM w ok' o l)(h:aH jM w ok n g):Calls prog 240 #[o,n] w (aN (.int .i64 (tO g l:Nat)) w):=by
 have d:=aA (Eu o l n g w m h);obtain⟨J,gc,rfl,_⟩:=h.slice;obtain⟨la,lc,rfl,K⟩:=m.slice;unfold aN;unfold Ax at d;clear h m;by_cases i:l=[]
 .subst i;have b:Hid (tO g []=2):=aA (iP rfl);rw[b.o];clear d;go_enter func240,ntmps240;exact FX
 have L:((l.length:Int)==0)=false:=bN.2 (fun h=>i (List.eq_nil_of_length_eq_zero qo));have b:=aA (show tO g l=if (jG (nR g l).1 (nR g l).2).is 1=true then 2 else if (jG (nR g l).1 (nR g l).2).is 0=true then 0 else 1 from iN i);obtain⟨R,E⟩:∃R,tO g l=R:=⟨_,rfl⟩;rw[E] at b ⊢;clear i E;generalize nR g l=r at *;obtain⟨v,e⟩:=r;simp only at d b;have k:=aA (fun w'=>tC none 0 0 [] v e 1 w');have j:=aA (fun w'=>tC none 0 0 [] v e 0 w');unfold aN at k j;have D:(jG v e).is 1=It.is ⟨[],v,e⟩ 1:=rfl;have C:(jG v e).is 0=It.is ⟨[],v,e⟩ 0:=rfl;rw[D,C] at b;generalize It.is ⟨[],v,e⟩ 1=p at *;generalize It.is ⟨[],v,e⟩ 0=q at *;clear D C;unfold dD at d;go_enter func240,ntmps240;go_wp2_with fail;refine d.o.mono ?_;rintro e w1 ⟨rfl,_,a⟩;obtain⟨I,G,c⟩:=aY a (aC (aC a (aB w1 (.cells #[.int .i64 v.1,.int .i64 v.2.1,.string v.2.2] 56))) (aB _ (.cells #[.slice none 0 0,.int .i64 v.1,.int .i64 v.2.1,.string v.2.2,.int .i64 e] 356))) (aK (w1.alloc (.cells #[.int .i64 v.1,.int .i64 v.2.1,.string v.2.2] 56)) (.cells #[.slice none 0 0,.int .i64 v.1,.int .i64 v.2.1,.string v.2.2,.int .i64 e] 356) (w1.heap.size+1) qs);clear a d;go_wp2_with fail;refine(k.o _).mono ?_;rintro H w2 ⟨rfl,a⟩;have s:=qB G a;replace c:=qK c a;obtain⟨⟨x,y,z,A,B⟩,_⟩:=dN c.o;have F:=aD c.o;clear a k
 cases p
 .go_wp2_with fail;refine(j.o _).mono ?_;rintro H M ⟨rfl,a⟩;have t:=qB s a
  try clear x y z A B F
  replace c:=qK c a;obtain⟨⟨x,y,z,A,B⟩,_⟩:=dN c.o;have F:=aD c.o;clear a j
  cases q
  .have f:Hid (R=1):=b.o;go_wp2;go_returns;exact⟨by rw[f.o];rfl,t.o⟩
  .have f:Hid (R=0):=b.o;go_wp2;go_returns;exact⟨by rw[f.o];rfl,t.o⟩
 .have f:Hid (R=2):=b.o;go_wp2;go_returns;exact⟨by rw[f.o];rfl,s.o⟩
namespace Cm
section
variable {α:Type}
def qG(p:α->Bool)(l:List α)(k:Nat):Prop:=∀(i:Nat) (h:i<l.length),i<k->p l[i]=false
theorem GS(p:α->Bool)(l:List α):qG p l 0:=fun i h a=>by omega
theorem GU{p:α->Bool}{l:List α}{k:Nat}(h:qG p l k)(e:k<l.length)(hp:p l[k]=false):qG p l (k+1):=fun i a d=>by
 rcases Nat.lt_or_ge i k with b|c
 .exact h i a b
 .obtain rfl:i=k:=qo;exact hp
def sC(p:α->Bool)(l:List α):Int:=if l.findIdx p<l.length then (l.findIdx p:Int) else -1
theorem Ay{p:α->Bool}{l:List α}{k:Nat}(h:qG p l k)(a:k<l.length)(hp:p l[k]=true):sC p l=k:=by
 have:l.findIdx p=k:=(List.findIdx_eq a).2 ⟨hp,fun j hj=>h j qo hj⟩;unfold sC;rw[this,iP a]
theorem Ql{p:α->Bool}{l:List α}{k:Nat}(h:qG p l k)(a:k<l.length)(hp:p l[k]=true):l.find? p=some l[k]:=by
 rw[List.find?_eq_some_iff_getElem];exact⟨hp,k,a,rfl,fun j hj=>by rw[h j qo hj];rfl⟩
theorem Ev{p:α->Bool}{l:List α}(h:qG p l l.length):∀x∈l,p x=false:=fun x b=>by
 obtain⟨i,a,rfl⟩:=List.getElem_of_mem b;exact h i a a
theorem Qm{p:α->Bool}{l:List α}(h:qG p l l.length):sC p l= -1:=by
 have:l.findIdx p=l.length:=List.findIdx_eq_length_of_false (Ev h);unfold sC;rw[this,iN qo]
theorem PU(p:α->Bool)(l:List α):(∃k,∃h:k<l.length,sC p l=k/\p l[k]=true/\qG p l k)\/(sC p l= -1/\∀x∈l,p x=false):=by
 by_cases h:l.findIdx p<l.length
 .refine .inl ⟨l.findIdx p,h,by unfold sC;rw[iP h],List.findIdx_getElem,fun i c a=> ?_⟩;have:=(List.findIdx_eq (i:=l.findIdx p) (p:=p) h).1 rfl;exact this.2 i a
 .refine .inr ⟨by unfold sC;rw[iN h],fun x b=> ?_⟩;have:=List.findIdx_eq_length.1 (Nat.le_antisymm (List.findIdx_le_length) (Nat.not_lt.1 h));exact this x b
end
def pG(m:Nat×Nat):Bool:= !(m==(0,0))
def LB(m:Nat×Nat):Bool:=(m==(0,0))||(m==(4,0))||(m==(0,4))
def mH(k:Nat)(j m:Nat×Nat):Nat×Nat:=
 match k with
 |3=>bif j==(0,0) then m else j
 |4=>bif j==(0,0) then m else bif m==(0,0) then j else (2,2)
 |_=>xG j m
def yV(l:List (Nat×Nat)):Nat×Nat:=(l.find? pG).getD (0,0)
def AW(l:List (Nat×Nat)):Nat×Nat:=bif l.all LB then l.foldl (mH 4) (0,0) else (2,2)
def VN(m:Nat×Nat)(l:List (Nat×Nat)):Bool:=l.any (m== ·)
def pO(l:List (Nat×Nat))(m other:Nat×Nat):Nat×Nat:=bif VN other l then other else m
def fX(l:List (Nat×Nat)):Nat×Nat:=l.foldl xG (0,0)
def Ze(k:Nat)(l:List (Nat×Nat)):Nat×Nat:=
 match k with
 |1=>rX (fX l)
 |2=>qP (rX (qP (fX l)))
 |3=>yV l
 |4=>AW l
 |5=>pO l (0,4) (4,0)
 |_=>pO l (4,0) (0,4)
def DX(l:List (Nat×Nat)):Prop:=∀m∈l,QP m
theorem DX.at{l:List (Nat×Nat)}(h:DX l){i:Nat}(a:i<l.length):QP l[i]:=h _ (List.getElem_mem a)
theorem NI{f:Nat×Nat->Nat×Nat->Nat×Nat}(c:∀a b,QP a->QP b->QP (f a b)):∀(l:List (Nat×Nat)) (a:Nat×Nat),QP a->DX l->QP (l.foldl f a)
 | [],_,ha,_=>ha
 |m::l,a,ha,h=>NI c l _ (c _ _ ha (h _ (List.mem_cons_self ..))) fun x d=>h x (List.mem_cons_of_mem _ d)
theorem QP.zero:QP (0,0):=⟨qe,qe⟩
theorem QP.half:QP (2,2):=⟨qe,qe⟩
theorem Wd(k:Nat){j m:Nat×Nat}(hj:QP j)(hm:QP m):QP (mH k j m):=by
 unfold mH;split
 .cases (j==(0,0))<;>assumption
 .cases (j==(0,0))
  .cases (m==(0,0))
   .exact QP.half
   .exact hj
  .exact hm
 .exact hj.join hm
theorem VO{l:List (Nat×Nat)}(h:DX l):QP (fX l):=NI (fun _ _=>QP.join) l _ QP.zero h
theorem PV{β:Type}(f:β->Nat×Nat->β)(a:β)(l:List (Nat×Nat))(k:Nat)(b:k<l.length):(l.take (k+1)).foldl f a=f ((l.take k).foldl f a) l[k]:=by
 rw[List.take_succ_eq_append_getElem b,List.foldl_append];rfl
theorem YS(m:Nat×Nat)(hm:QP m)(w:World):Calls prog 279 #[.complex .f64 (qb m.1) (qb m.2)] w fun e w'=>e=.returned (.bool (pG m))/\w=w':=
 UH _ _ (m==(0,0)) w (iT m.1 m.2 0 0 hm qe qe)
theorem Qn(m:Nat×Nat)(hm:QP m)(w:World):Calls prog 280 #[.complex .f64 (qb m.1) (qb m.2)] w fun e w'=>e=.returned (.bool (LB m))/\w=w':=
 Ip _ _ _ _ _ w (iT m.1 m.2 0 0 hm qe qe) (iT m.1 m.2 4 0 hm qe qe) (iT m.1 m.2 0 4 hm qe qe)
theorem JA(k:Nat)(h1:1<=k)(h6:k<=6)(j m:Nat×Nat)(hj:QP j)(hm:QP m)(w:World):
 Calls prog 281 #[.int .i64 k,.complex .f64 (qb j.1) (qb j.2),.complex .f64 (qb m.1) (qb m.2)] w fun e w'=>e=.returned (.complex .f64 (qb (mH k j m).1) (qb (mH k j m).2))/\w=w':=by
 obtain rfl|rfl|rfl|rfl|rfl|rfl:k=1\/k=2\/k=3\/k=4\/k=5\/k=6:=qo
 .exact xI 1 qo _ _ _ _ _ _ w (wL j m hj hm)
 .exact xI 2 qo _ _ _ _ _ _ w (wL j m hj hm)
 .have h:=Df _ _ (qb m.1) (qb m.2) _ w (iT j.1 j.2 0 0 hj qe qe);refine h.mono fun e w' a=>⟨a.1.trans ?_,a.2⟩
  unfold mH;show Ending.returned (bif (j==(0,0)) then _ else _)=_
  cases (j==(0,0))<;>rfl
 .have h:=Iq _ _ (qb m.1) (qb m.2) _ _ w (iT j.1 j.2 0 0 hj qe qe) (iT m.1 m.2 0 0 hm qe qe);refine h.mono fun e w' a=>⟨a.1.trans ?_,a.2⟩
  unfold mH;show Ending.returned (bif (j==(0,0)) then _ else bif (m==(0,0)) then _ else _)=_
  cases (j==(0,0))<;>cases (m==(0,0))<;>rfl
 .exact xI 5 qo _ _ _ _ _ _ w (wL j m hj hm)
 .exact xI 6 qo _ _ _ _ _ _ w (wL j m hj hm)
end Cm
namespace Cm
theorem QCY{p:Prop}(h:p:=by
 go_wp2;go_round
 case rel=>exact⟨k+1,qo,by go_num,H1.o⟩
 case measure=>simp[intOf];omega):p:=h
theorem QCK{p:Prop}(h:p:=by
 obtain rfl:k=l.length:=qo;have H0:=aA (Qm hno);clear hno;go_wp2;go_ret;exact⟨by rw[H0.o];rfl,rfl⟩):p:=h
theorem Ew(a:oD)(c n:Nat)(l:List (Nat×Nat))(q:l.length=n)(w:World)(B:Nat)(p:n<=maxLen)(j:DX l)(m:Sl w B a (vm l)):
 Calls prog 278 #[.slice a n c,.func (.func 279) #[] #[]] w fun e w'=>e=.returned (.int .i64 (sC pG l))/\w=w':=by
 subst q;unfold maxLen at p;have o:=aA j;clear j;go_enter func278,ntmps278;go_wp2;go_loop [8] (fun i=>∃k:Nat,k<=l.length/\i=.int .i64 k/\qG pG l k) (fun i=>l.length - (intOf i).toNat)
 case atStart=>exact⟨0,Nat.zero_le _,rfl,GS _ _⟩
 case round=>
  obtain⟨k,r,rfl,hno⟩:=hrel;by_cases f:k<l.length
  .obtain⟨b,off,rfl,_,g⟩:=m.mark f;have hA:=aA (YS l[k] (o.o.at f) w);have h0:=aA (fun h=>Ay hno f h);have h1:=aA (fun h=>GU hno f h);clear m hno;generalize qb l[k].1=x at g hA;generalize qb l[k].2=y at g hA
   rcases d:pG l[k] with _|_
   .rw[d] at hA h0 h1;have H1:=aA (h1.o rfl);clear h0 h1 d;go_wp2_with fail;refine hA.o.mono ?_;rintro e w' ⟨rfl,rfl⟩;exact QCY
   .rw[d] at hA h0 h1;have H0:=aA (h0.o rfl);clear h0 h1 d;go_wp2_with fail;refine hA.o.mono ?_;rintro e w' ⟨rfl,rfl⟩;go_wp2;go_ret;exact⟨by rw[H0.o];rfl,rfl⟩
  .exact QCK
theorem We(a b:Nat×Nat):(((a.1,a.2):Nat×Nat)==(b.1,b.2))=(a==b):=rfl
theorem OH(a:oD)(c n:Nat)(l:List (Nat×Nat))(r:l.length=n)(m:Nat×Nat)(w:World)(B:Nat)(q:n<=maxLen)(hm:QP m)(j:DX l)(p:Sl w B a (vm l)):
 Calls prog 291 #[.slice a n c,.complex .f64 (qb m.1) (qb m.2)] w fun e w'=>e=.returned (.int .i64 (sC (m== ·) l))/\w=w':=by
 subst r;unfold maxLen at q;have g:=aA (fun (k:Nat) (h:k<l.length)=>(iT m.1 m.2 l[k].1 l[k].2 hm (j.at h).1 (j.at h).2).trans (We m l[k]));clear j;generalize hu:qb m.1=u at g ⊢;generalize s:qb m.2=v at g ⊢;clear hu s hm;go_enter func291,ntmps291;go_wp2;go_loop [8] (fun i=>∃k:Nat,k<=l.length/\i=.int .i64 k/\qG (m== ·) l k) (fun i=>l.length - (intOf i).toNat)
 case atStart=>exact⟨0,Nat.zero_le _,rfl,GS _ _⟩
 case round=>
  obtain⟨k,t,rfl,hno⟩:=hrel;by_cases f:k<l.length
  .obtain⟨b,off,rfl,_,o⟩:=p.mark f;have he:=g.o k f;have h0:=aA (fun h=>Ay hno f h);have h1:=aA (fun h=>GU hno f h);clear p hno;generalize qb l[k].1=x at o he;generalize qb l[k].2=y at o he
   rcases d:(m==l[k]) with _|_
   .rw[d] at he h0 h1;have H1:=aA (h1.o rfl);clear h0 h1 d;exact QCY
   .rw[d] at he h0 h1;have H0:=aA (h0.o rfl);clear h0 h1 d;go_wp2;go_ret;exact⟨by rw[H0.o];rfl,rfl⟩
  .exact QCK
theorem Ex(m:Nat×Nat)(l:List (Nat×Nat)):(∃k:Nat,sC (m== ·) l=k/\VN m l=true)\/(sC (m== ·) l= -1/\VN m l=false):=by
 rcases PU (m== ·) l with ⟨k,a,h1,h2,_⟩|⟨h1,h2⟩
 .exact .inl ⟨k,h1,List.any_eq_true.2 ⟨l[k],List.getElem_mem a,h2⟩⟩
 .exact .inr ⟨h1,List.any_eq_false.2 fun x b=>by rw[h2 x b];decide⟩
theorem VP(a:oD)(c n:Nat)(l:List (Nat×Nat))(d:l.length=n)(m:Nat×Nat)(w:World)(B:Nat)(b:n<=maxLen)(hm:QP m)(f:DX l)(g:Sl w B a (vm l)):
 Calls prog 282 #[.slice a n c,.complex .f64 (qb m.1) (qb m.2)] w fun e w'=>e=.returned (.bool (VN m l))/\w=w':=by
 have h:=OH a c n l d m w B b hm f g;clear hm
 rcases Ex m l with ⟨k,h1,h2⟩|⟨h1,h2⟩
 all_goals
  rw[h1] at h;rw[h2];have H:=aA h;clear h h1 h2 g f d b;generalize qb m.1=u at H ⊢;generalize qb m.2=v at H ⊢;go_enter func282,ntmps282;go_wp2_with fail;refine H.o.mono ?_;exact OZ
theorem LC(a:oD)(c n:Nat)(l:List (Nat×Nat))(f:l.length=n)(m o:Nat×Nat)(w:World)(B:Nat)(b:n<=maxLen)(hm:QP m)(g:QP o)(i:DX l)(j:Sl w B a (vm l)):
 Calls prog 262 #[.slice a n c,.complex .f64 (qb m.1) (qb m.2),.complex .f64 (qb o.1) (qb o.2)] w fun e w'=>e=.returned (.complex .f64 (qb (pO l m o).1) (qb (pO l m o).2))/\w=w':=by
 have H:=aA (VP a c n l f o w B b g i j);unfold pO;clear j i b hm g
 rcases d:VN o l with _|_
 all_goals
  rw[d] at H;simp only[cond_true,cond_false];clear d f;generalize qb m.1=u at H ⊢;generalize qb m.2=v at H ⊢;generalize qb o.1=x at H ⊢;generalize qb o.2=y at H ⊢;go_enter func262,ntmps262;go_wp2_with fail;refine H.o.mono ?_;exact OZ
theorem VQ(l:List (Nat×Nat)):(∃k,∃h:k<l.length,sC pG l=k/\yV l=l[k])\/(sC pG l= -1/\yV l=(0,0)):=by
 unfold yV
 rcases PU pG l with ⟨k,a,h1,h2,h3⟩|⟨h1,h2⟩
 .exact .inl ⟨k,a,h1,by rw[Ql h3 a h2];rfl⟩
 .refine .inr ⟨h1,?_⟩;rw[List.find?_eq_none.2 fun x b=>by rw[h2 x b];decide];rfl
theorem Ks(a:oD)(c n:Nat)(l:List (Nat×Nat))(i:l.length=n)(w:World)(B:Nat)(f:n<=maxLen)(j:DX l)(d:Sl w B a (vm l)):
 Calls prog 260 #[.slice a n c] w fun e w'=>e=.returned (.complex .f64 (qb (yV l).1) (qb (yV l).2))/\w=w':=by
 have h:=Ew a c n l i w B f j d;subst i;clear j;unfold maxLen at f
 rcases VQ l with ⟨k,m,h1,h2⟩|⟨h1,h2⟩
 .rw[h1] at h;rw[h2];obtain⟨b,off,rfl,_,g⟩:=d.mark m;have H:=aA h;have o:(0:Int)<=(k:Int):=qo;clear h h1 h2 d;generalize qb l[k].1=x at g ⊢;generalize qb l[k].2=y at g ⊢;go_enter func260,ntmps260;go_wp2_with fail;refine H.o.mono ?_;exact OZ
 .rw[h1] at h;rw[h2];have H:=aA h;clear h h1 h2 d;go_enter func260,ntmps260;go_wp2_with fail;refine H.o.mono ?_;exact OZ
end Cm
namespace Cm
theorem QBy{p:Prop}(h:p:=by
 rw[hb] at hA h1 h2;have H1:=aA (h1.o rfl);clear h1 h2 hb;go_wp2_with fail;refine hA.o.mono ?_;rintro e w' ⟨rfl,rfl⟩;go_wp2_with fail;refine hB.o.mono ?_;rintro e w' ⟨rfl,rfl⟩;go_wp2;go_round
 case rel=>exact⟨k+1,qo,by go_num,H1.o,by rw[HJ.o]⟩
 case measure=>simp[intOf];omega):p:=h
theorem Kt{p:Prop}(h:p:=by
 go_wp2_with fail;refine h1.o.mono ?_;rintro e w' ⟨rfl,rfl⟩;go_wp2;go_ret2
 exact⟨by rw[HR.o];rfl,rfl⟩):p:=h
theorem VS{p:Nat×Nat->Bool}{l:List (Nat×Nat)}{k:Nat}(h:(l.take k).all p=true)(a:k<l.length)(hp:p l[k]=true):(l.take (k+1)).all p=true:=by
 rw[List.take_succ_eq_append_getElem a,List.all_append,h];simp[hp]
theorem Az{p:Nat×Nat->Bool}{l:List (Nat×Nat)}{k:Nat}(a:k<l.length)(hp:p l[k]=false):l.all p=false:=by
 rw[List.all_eq_false];exact⟨l[k],List.getElem_mem a,by rw[hp];decide⟩
theorem Qo(a:oD)(c n:Nat)(l:List (Nat×Nat))(z:l.length=n)(w:World)(B:Nat)(t:n<=maxLen)(r:DX l)(s:Sl w B a (vm l)):
 Calls prog 261 #[.slice a n c] w fun e w'=>e=.returned (.complex .f64 (qb (AW l).1) (qb (AW l).2))/\w=w':=by
 subst z;unfold maxLen at t;have j:=aA r;clear r;go_enter func261,ntmps261;go_wp2;go_loop [3,8] (fun v i=>∃k:Nat,k<=l.length/\i=.int .i64 k/\(l.take k).all LB=true/\v=.complex .f64 (qb ((l.take k).foldl (mH 4) (0,0)).1) (qb ((l.take k).foldl (mH 4) (0,0)).2)) (fun _ i=>l.length - (intOf i).toNat)
 case atStart=>exact⟨0,Nat.zero_le _,rfl,qs,rfl⟩
 case round=>
  obtain⟨k,D,rfl,f,rfl⟩:=hrel;by_cases d:k<l.length
  .obtain⟨b,off,rfl,_,q⟩:=s.mark d;have hA:=aA (Qn l[k] (j.o.at d) w);have p:=NI (fun _ _=>Wd 4) (l.take k) (0,0) QP.zero (fun x A=>j.o x (List.mem_of_mem_take A));have hB:=aA (JA 4 qe qe _ l[k] p (j.o.at d) w);have m:=aA (PV (mH 4) (0,0) l k d);have h1:=aA (fun h=>VS f d h);have h2:Hid (LB l[k]=false->AW l=(2,2)):=fun h=>by unfold AW;rw[Az d h];rfl
   clear s f p;generalize (l.take k).foldl (mH 4) (0,0)=J at hB m ⊢;rw[show (mH 4 J l[k])=((l.take (k+1)).foldl (mH 4) (0,0)) from m.o.symm] at hB;clear m;generalize o:(l.take (k+1)).foldl (mH 4) (0,0)=C at hB ⊢;have HJ:=aA o;clear o;generalize qb l[k].1=x at q hA hB;generalize qb l[k].2=y at q hA hB
   rcases hb:LB l[k] with _|_
   .rw[hb] at hA h1 h2;have g:=aA (h2.o rfl);clear h1 h2 hb;go_wp2_with fail;refine hA.o.mono ?_;rintro e w' ⟨rfl,rfl⟩;go_wp2;go_ret;exact⟨by rw[g.o];rfl,rfl⟩
   .exact QBy
  .obtain rfl:k=l.length:=qo;rw[List.take_length] at f ⊢;have g:Hid (AW l=l.foldl (mH 4) (0,0)):=by unfold AW;rw[f];rfl
   clear f;generalize l.foldl (mH 4) (0,0)=J at g ⊢;go_wp2;go_ret;exact⟨by rw[g.o];rfl,rfl⟩
def iY(alg:Int)(l:List (Nat×Nat)):(Nat×Nat)×Int:=
 if l.all eY=true/\1<=alg/\alg<=6 then (Ze alg.toNat l,0) else ((0,0),1)
def mkE(r:(Nat×Nat)×Int):Value:= .tuple #[.complex .f64 (qb r.1.1) (qb r.1.2),.int .i64 r.2]
theorem Qp{alg:Int}{l:List (Nat×Nat)}(h:l.all eY=false):iY alg l=((0,0),1):=by
 unfold iY;rw[iN (by rw[h];simp)]
theorem Wf{alg:Int}{l:List (Nat×Nat)}(h:alg<1\/6<alg):iY alg l=((0,0),1):=by
 unfold iY;rw[iN qo]
theorem Qq{l:List (Nat×Nat)}(k:Nat)(h1:1<=k)(h6:k<=6)(h:l.all eY=true):iY (k:Int) l=(Ze k l,0):=by
 unfold iY;rw[iP ⟨h,qo,qo⟩];rfl
theorem Ai(alg:Int)(a:oD)(c n:Nat)(l:List (Nat×Nat))(E:l.length=n)(w:World)(B:Nat)(r:n<=maxLen)(z:DX l)(f:Sl w B a (vm l)):
 Calls prog 241 #[.int .i64 alg,.slice a n c] w fun e w'=>e=.returned (mkE (iY alg l))/\w=w':=by
 subst E;have d:=aA z;have p:=aA r;unfold maxLen at r;clear z;go_enter func241,ntmps241;go_wp2;go_loop [6,11] (fun v i=>∃k:Nat,k<=l.length/\i=.int .i64 k/\(l.take k).all eY=true/\v=.complex .f64 (qb (fX (l.take k)).1) (qb (fX (l.take k)).2)) (fun _ i=>l.length - (intOf i).toNat)
 case atStart=>exact⟨0,Nat.zero_le _,rfl,qs,rfl⟩
 case round=>
  obtain⟨k,D,rfl,o,rfl⟩:=hrel;by_cases m:k<l.length
  .obtain⟨b,off,rfl,_,s⟩:=f.mark m;have hA:Hid (Calls prog 256 #[.complex .f64 (qb l[k].1) (qb l[k].2)] w fun e w'=>e=.returned (.bool (eY l[k]))/\w=w'):=aA (De l[k] (d.o.at m) w);have g:=VO (l:=l.take k) (fun x F=>d.o x (List.mem_of_mem_take F));have A:Hid (fX (l.take (k+1))=xG (fX (l.take k)) l[k]):=aA (PV xG (0,0) l k m);have hB:Hid (Calls prog 257 #[.complex .f64 (qb (fX (l.take k)).1) (qb (fX (l.take k)).2),.complex .f64 (qb l[k].1) (qb l[k].2)] w fun e w'=>e=.returned (.complex .f64 (qb (fX (l.take (k+1))).1) (qb (fX (l.take (k+1))).2))/\w=w'):=by
    rw[A.o];exact wL _ _ g (d.o.at m) w
   have h1:=aA (fun h=>VS o m h);have h2:Hid (eY l[k]=false->iY alg l=((0,0),1)):=fun h=>Qp (Az m h)
   clear f o g A;generalize fX (l.take k)=J at hB ⊢;generalize q:fX (l.take (k+1))=I at hB ⊢;have HJ:=aA q;clear q;generalize qb l[k].1=x at s hA hB;generalize qb l[k].2=y at s hA hB
   rcases hb:eY l[k] with _|_
   .rw[hb] at hA h1 h2;have C:=aA (h2.o rfl);clear h1 h2 hb hB;go_wp2_with fail;refine hA.o.mono ?_;rintro e w' ⟨rfl,rfl⟩;go_wp2;go_ret2
    exact⟨by rw[C.o];rfl,rfl⟩
   .exact QBy
  .obtain rfl:k=l.length:=qo;rw[List.take_length] at o ⊢;have j:=aA o;have g:=aA (VO d.o);clear o D m;by_cases t:1<=alg/\alg<=6
   .obtain⟨K,rfl⟩:∃K:Nat,alg=(K:Int):=⟨alg.toNat,qo⟩;obtain⟨S,R⟩:=t;have HR:=aA (Qq (l:=l) K qo qo j.o);obtain rfl|rfl|rfl|rfl|rfl|rfl:K=1\/K=2\/K=3\/K=4\/K=5\/K=6:=qo
    .have h1:=aA (UF (fX l) g.o w);unfold mk at h1;clear f d j g;generalize qb (fX l).1=G at h1 ⊢;generalize qb (fX l).2=H at h1 ⊢;exact Kt
    .have h1:=aA (UE (fX l) w);have h2:=aA (UF (qP (fX l)) g.o.swap w);have h3:=aA (UE (rX (qP (fX l))) w);unfold mk at h1 h2 h3;clear f d j g;generalize qb (fX l).1=G at h1 ⊢;generalize qb (fX l).2=H at h1 ⊢;generalize qb (qP (fX l)).1=t1 at h1 h2;generalize qb (qP (fX l)).2=t2 at h1 h2;generalize qb (rX (qP (fX l))).1=T at h2 h3;generalize qb (rX (qP (fX l))).2=U at h2 h3;go_wp2_with fail;refine h1.o.mono ?_;rintro e w' ⟨rfl,rfl⟩;go_wp2_with fail;refine h2.o.mono ?_;rintro e w' ⟨rfl,rfl⟩;go_wp2_with fail;refine h3.o.mono ?_;rintro e w' ⟨rfl,rfl⟩;go_wp2;go_ret2
     exact⟨by rw[HR.o];rfl,rfl⟩
    .have h1:=aA (Ks a c _ l rfl w B p.o d.o f);clear f d j g;exact Kt
    .have h1:=aA (Qo a c _ l rfl w B p.o d.o f);clear f d j g;exact Kt
    .have h1:Hid (Calls prog 262 #[.slice a l.length c,.complex .f64 0 4607182418800017408,.complex .f64 4607182418800017408 0] w fun e w'=>e=.returned (.complex .f64 (qb (pO l (0,4) (4,0)).1) (qb (pO l (0,4) (4,0)).2))/\w=w'):=LC a c _ l rfl (0,4) (4,0) w B p.o ⟨qe,qe⟩ ⟨qe,qe⟩ d.o f;clear f d j g;exact Kt
    .have h1:Hid (Calls prog 262 #[.slice a l.length c,.complex .f64 4607182418800017408 0,.complex .f64 0 4607182418800017408] w fun e w'=>e=.returned (.complex .f64 (qb (pO l (4,0) (0,4)).1) (qb (pO l (4,0) (0,4)).2))/\w=w'):=LC a c _ l rfl (4,0) (0,4) w B p.o ⟨qe,qe⟩ ⟨qe,qe⟩ d.o f;clear f d j g;exact Kt
   .have HR:=aA (Wf (l:=l) (alg:=alg) qo);have L:(alg==1)=false:=by simp;omega
    have M:(alg==2)=false:=by simp;omega
    have N:(alg==3)=false:=by simp;omega
    have O:(alg==4)=false:=by simp;omega
    have P:(alg==5)=false:=by simp;omega
    have Q:(alg==6)=false:=by simp;omega
    clear t f d j g;go_wp2;go_ret2
    exact⟨by rw[HR.o];rfl,rfl⟩
end Cm
theorem VT:dV prog 33 197 3 32:=fP (z:= .agg #[.int .i64 0,.int .i64 0,.string ByteArray.empty]) underlying33 (by kernel_rfl) rfl qe
theorem sD(m n:Mk):((m.1,m.2)==n)=decide (m=n):=by rw[Bool.eq_iff_iff];simp
def wQ(l:List Ob)(w:World)(e:Ending)(w':World):Prop:=∃v,e=.returned v/\aH jU w' (fun b=>w.heap.size<=b) v l/\Below w.heap.size w w'
theorem YT{α:Type}(p:α->Bool)(l:List α)(k:Nat)(a:k<l.length):(l.take (k+1)).filter p=(l.take k).filter p++(if p l[k]=true then [l[k]] else []):=by
 rw[List.take_succ_eq_append_getElem a,List.filter_append]
 congr 1
 by_cases h:p l[k]=true
 .rw[iP h,List.filter_cons_of_pos h];rfl
 .rw[iN h,List.filter_cons_of_neg (by simpa using h)];rfl
theorem YU{α:Type}(p:α->Bool)(l:List α)(k:Nat):((l.take k).filter p).length<=k:=by
 have h1:=List.length_filter_le p (l.take k);have h2:(l.take k).length<=k:=List.length_take_le _ _;omega
theorem yB{ok:nP}(v:Value)(l:List Ob)(m:Mk)(hm:Cm.QP m)(w:World)(h:aH jU w ok v l):Calls prog 243 #[v,.complex .f64 (Cm.qb m.1) (Cm.qb m.2)] w (wQ (gP l m) w):=by
 obtain⟨a,c,rfl,aj⟩:=h.slice;have HS:=aA h;obtain⟨P,J⟩:∃P,decide (m=(4,0))=P:=⟨_,rfl⟩;obtain⟨D,H⟩:∃D,decide (m=(0,4))=D:=⟨_,rfl⟩;have E:((FloatKind.f64.format.order (Cm.qb m.1) 4607182418800017408==some .eq)&&(FloatKind.f64.format.order (Cm.qb m.2) 0==some .eq))=P:=(Cm.iT m.1 m.2 4 0 hm qe qe).trans ((sD m (4,0)).trans J);have G:((FloatKind.f64.format.order (Cm.qb m.1) 0==some .eq)&&(FloatKind.f64.format.order (Cm.qb m.2) 4607182418800017408==some .eq))=D:=(Cm.iT m.1 m.2 0 4 hm qe qe).trans ((sD m (0,4)).trans H);obtain⟨F,I⟩:∃F:Ob->Bool,F=(fun o=>(decide (o.on=1)&&P)||(decide (o.on=2)&&D)):=⟨_,rfl⟩;have HR:Hid (gP l m=l.filter F):=aA (by unfold gP;rw[I,J,H]);have HF:=aA (show ∀x,F x=((decide (x.on=1)&&P)||(decide (x.on=2)&&D)) from fun x=>by rw[I]);generalize Cm.qb m.1=ma at *;generalize Cm.qb m.2=mb at *;have Q:=aA aj;clear h J H I hm;unfold wQ;rw[HR.o];have E1:=aA E;have E2:=aA G;clear E G
 rcases P with _|_<;>rcases D with _|_
 all_goals
  have E:=E1.o;have G:=E2.o;go_enter func243,ntmps243;go_wp2;go_loopw [5,10] (fun v i wr=>∃(k:Nat) (t:oD) (n y:Nat) (st:List Ob),k<=l.length/\i=.int .i64 k/\v=.slice t n y/\Hid (st=(l.take k).filter F)/\Hid (aM jU 3 197 wr w.heap.size (fun b=>w.heap.size<=b) (.slice t n y) st)/\Hid (Below w.heap.size w wr)) (fun _ i _=>l.length - (intOf i).toNat)
  case atStart=>exact⟨0,none,0,0,[],qo,rfl,rfl,aA qs,aA aM.nil,aA (Below.refl _ _)⟩
  case round=>
   obtain⟨k,t,n,y,st,hk,rfl,rfl,e,p,g⟩:=hrel;by_cases Y:k<l.length
   .have ai:(k:Int)<(l.length:Int):=qo;obtain⟨b,off,r,rfl,_,ao,⟨rfl,V⟩,U⟩:=aH.at aP (HS.o.on aP g.o) Y qe;obtain⟨x0,x1,x2⟩:=cR3 U;rw[Nat.add_zero] at x0;obtain⟨j,d,ae,ag,S,ak⟩:=hD6 (YT F l k Y) (HF.o l[k]) V (YU F l k) g.o.size hk;clear U V;generalize hx:l[k]=x at *;clear hx;have N:=qB g (aB wr (.cells #[.int .i64 x.on,.int .i64 x.aDe,.string x.arg] 197));obtain⟨aa,R,A⟩:=aY (aC N.o (aB _ (.cells #[.int .i64 x.on,.int .i64 x.aDe,.string x.arg] 197))) (aK (wr.alloc (.cells #[.int .i64 x.on,.int .i64 x.aDe,.string x.arg] 197)) (.cells #[.int .i64 x.on,.int .i64 x.aDe,.string x.arg] 197) (wr.heap.size+1) qs) (p.o.on aP (aB wr (.cells #[.int .i64 x.on,.int .i64 x.aDe,.string x.arg] 197)));have z:=aA (A.o.on aP (aB _ (.cells #[.int .i64 x.on,.int .i64 x.aDe,.string x.arg] 197)));have af:Hid (st.length<=1000000):=aA (by rw[e.o];have:=ag.o;have:=Q.o;omega);obtain⟨q,K⟩:∃q,decide (x.on=1)=q:=⟨_,rfl⟩;obtain⟨s,L⟩:∃s,decide (x.on=2)=s:=⟨_,rfl⟩;rw[K,L] at d;have al:(x.on==1)=q:=K;have an:(x.on==2)=s:=L;clear K L
    rcases q with _|_<;>rcases s with _|_
    all_goals first
     |(have f:F x=false:=d.o
       have C:Hid (st=(l.take (k+1)).filter F):=aA (by rw[j.o,iN (by rw[f];decide),List.append_nil];exact e.o);clear j f d R z p;go_wp2;go_roundw
       case rel=>exact⟨k+1,t,n,y,st,qo,by go_num,rfl,C,A,N⟩
       case measure=>simp[intOf];omega)
     |(have f:F x=true:=d.o
       have C:=aA (by rw[j.o,iP f,<-e.o]:(l.take (k+1)).filter F=st++[x]);clear j f d p A;go_wp2_with (at_builtin;refine cC (base:=w.heap.size) VT aP rfl (.tmp 30) (.tmp 32) rfl _ st rfl z.o (wr.heap.size+1) 1 _ _ _ x rfl R.o ⟨rfl,ae.o⟩ af.o qo (by have:=S.o;simp only[World.size_alloc];omega) ?_;intro l' X Z c2 w9 T W ah;have ad:=aA T;have ab:=aA (z.o.below aa.o W (lR _) (by have:=S.o;simp only[World.size_alloc];omega));have B:=aA X.o;clear T W ah X)
       go_roundw
       case rel=>exact⟨k+1,Z,l'.length,c2,l',qo,by go_num,rfl,aA (by rw[B.o,C.o]),ad,ab⟩
       case measure=>simp[intOf];omega)
   .have ai:¬(k:Int)<(l.length:Int):=qo;obtain rfl:k=l.length:=qo;have O:Hid (st=l.filter F):=aA (by have:=e.o;rwa [List.take_of_length_le (lR _)] at this);have B:Hid (st.length<=1000000):=aA (by rw[O.o];have h1:=List.length_filter_le F l;have:=Q.o;omega);clear e;go_wp2;go_returns;rw[<-O.o];refine⟨_,rfl,?_,g.o⟩;exact p.o.sl B.o _ (fun b M _=>M) (fun b M _=>M) aP
end Go.Proofs.YtbpimcljljlbnaaGreatDoor
