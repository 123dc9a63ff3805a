/- Lemmas. -/
import Derived.Test.YtgoanbpcdhmfkaaGreatDoorMas
import Derived.Test.YtgoanbpcdhmfkaaGreatDoorMar
namespace Go.Proofs.YtgoanbpcdhmfkaaGreatDoor
open Go.RowKit
set_option linter.unusedVariables false
set_option linter.unusedSimpArgs false
set_option maxHeartbeats 16000000
open _root_.Go.Proofs.Tryz
set_option maxRecDepth 20000
theorem Jv{ok ok':nP}(o:Value)(l:List No)(n:Value)(g:List Gv)(w:World)(m:aH JG w ok' o l)(h:aH jN w ok n g):Calls prog 233 #[o,n] w (aP (.int .i64 (tJ g l:Nat)) w):=by
 have d:=aA (Ea o l n g w m h);obtain⟨J,gc,rfl,_⟩:=h.slice;obtain⟨la,lc,rfl,K⟩:=m.slice;unfold aP;unfold Ab at d;clear h m;by_cases i:l=[]
 .subst i;have b:Hid (tJ g []=2):=aA (iP rfl);rw[b.o];clear d;go_enter func233,ntmps233;exact FT
 have L:((l.length:Int)==0)=false:=bN.2 (fun h=>i (List.eq_nil_of_length_eq_zero qo));have b:=aA (show tJ g l=if (jH (nU g l).1 (nU g l).2).is 1=true then 2 else if (jH (nU g l).1 (nU g l).2).is 0=true then 0 else 1 from iN i);obtain⟨R,E⟩:∃R,tJ g l=R:=⟨_,rfl⟩;rw[E] at b ⊢;clear i E;generalize nU g l=r at *;obtain⟨v,e⟩:=r;simp only at d b;have k:=aA (fun w'=>tB none 0 0 [] v e 1 w');have j:=aA (fun w'=>tB none 0 0 [] v e 0 w');unfold aP at k j;have D:(jH v e).is 1=It.is ⟨[],v,e⟩ 1:=rfl;have C:(jH v e).is 0=It.is ⟨[],v,e⟩ 0:=rfl;rw[D,C] at b;generalize It.is ⟨[],v,e⟩ 1=p at *;generalize It.is ⟨[],v,e⟩ 0=q at *;clear D C;unfold dB at d;go_enter func233,ntmps233;go_wp2_with fail;refine d.o.mono ?_;rintro e w1 ⟨rfl,_,a⟩;obtain⟨I,G,c⟩:=aY a (aC (aC a (aB w1 (.cells #[.int .i64 v.1,.int .i64 v.2.1,.string v.2.2] 44))) (aB _ (.cells #[.slice none 0 0,.int .i64 v.1,.int .i64 v.2.1,.string v.2.2,.int .i64 e] 351))) (aK (w1.alloc (.cells #[.int .i64 v.1,.int .i64 v.2.1,.string v.2.2] 44)) (.cells #[.slice none 0 0,.int .i64 v.1,.int .i64 v.2.1,.string v.2.2,.int .i64 e] 351) (w1.heap.size+1) qs);clear a d;go_wp2_with fail;refine(k.o _).mono ?_;rintro H w2 ⟨rfl,a⟩;have s:=qB G a;replace c:=qK c a;obtain⟨⟨x,y,z,A,B⟩,_⟩:=dJ c.o;have F:=aD c.o;clear a k
 cases p
 .go_wp2_with fail;refine(j.o _).mono ?_;rintro H M ⟨rfl,a⟩;have t:=qB s a
  try clear x y z A B F
  replace c:=qK c a;obtain⟨⟨x,y,z,A,B⟩,_⟩:=dJ c.o;have F:=aD c.o;clear a j
  cases q
  .have f:Hid (R=1):=b.o;go_wp2;go_returns;exact⟨by rw[f.o];rfl,t.o⟩
  .have f:Hid (R=0):=b.o;go_wp2;go_returns;exact⟨by rw[f.o];rfl,t.o⟩
 .have f:Hid (R=2):=b.o;go_wp2;go_returns;exact⟨by rw[f.o];rfl,s.o⟩
namespace Cm
section
variable {α:Type}
def qG(p:α->Bool)(l:List α)(k:Nat):Prop:=∀(i:Nat) (h:i<l.length),i<k->p l[i]=false
theorem GL(p:α->Bool)(l:List α):qG p l 0:=fun i h a=>by omega
theorem GM{p:α->Bool}{l:List α}{k:Nat}(h:qG p l k)(e:k<l.length)(hp:p l[k]=false):qG p l (k+1):=fun i a d=>by
 rcases Nat.lt_or_ge i k with b|c
 .exact h i a b
 .obtain rfl:i=k:=qo;exact hp
def sA(p:α->Bool)(l:List α):Int:=if l.findIdx p<l.length then (l.findIdx p:Int) else -1
theorem Ac{p:α->Bool}{l:List α}{k:Nat}(h:qG p l k)(a:k<l.length)(hp:p l[k]=true):sA p l=k:=by
 have:l.findIdx p=k:=(List.findIdx_eq a).2 ⟨hp,fun j hj=>h j qo hj⟩;unfold sA;rw[this,iP a]
theorem Pl{p:α->Bool}{l:List α}{k:Nat}(h:qG p l k)(a:k<l.length)(hp:p l[k]=true):l.find? p=some l[k]:=by
 rw[List.find?_eq_some_iff_getElem];exact⟨hp,k,a,rfl,fun j hj=>by rw[h j qo hj];rfl⟩
theorem Eb{p:α->Bool}{l:List α}(h:qG p l l.length):∀x∈l,p x=false:=fun x b=>by
 obtain⟨i,a,rfl⟩:=List.getElem_of_mem b;exact h i a a
theorem Pm{p:α->Bool}{l:List α}(h:qG p l l.length):sA p l= -1:=by
 have:l.findIdx p=l.length:=List.findIdx_eq_length_of_false (Eb h);unfold sA;rw[this,iN qo]
theorem PF(p:α->Bool)(l:List α):(∃k,∃h:k<l.length,sA p l=k/\p l[k]=true/\qG p l k)\/(sA p l= -1/\∀x∈l,p x=false):=by
 by_cases h:l.findIdx p<l.length
 .refine .inl ⟨l.findIdx p,h,by unfold sA;rw[iP h],List.findIdx_getElem,fun i c a=> ?_⟩;have:=(List.findIdx_eq (i:=l.findIdx p) (p:=p) h).1 rfl;exact this.2 i a
 .refine .inr ⟨by unfold sA;rw[iN h],fun x b=> ?_⟩;have:=List.findIdx_eq_length.1 (Nat.le_antisymm (List.findIdx_le_length) (Nat.not_lt.1 h));exact this x b
end
def pE(m:Nat×Nat):Bool:= !(m==(0,0))
def KW(m:Nat×Nat):Bool:=(m==(0,0))||(m==(4,0))||(m==(0,4))
def mI(k:Nat)(j m:Nat×Nat):Nat×Nat:=
 match k with
 |3=>bif j==(0,0) then m else j
 |4=>bif j==(0,0) then m else bif m==(0,0) then j else (2,2)
 |_=>xC j m
def yT(l:List (Nat×Nat)):Nat×Nat:=(l.find? pE).getD (0,0)
def AQ(l:List (Nat×Nat)):Nat×Nat:=bif l.all KW then l.foldl (mI 4) (0,0) else (2,2)
def VC(m:Nat×Nat)(l:List (Nat×Nat)):Bool:=l.any (m== ·)
def pM(l:List (Nat×Nat))(m other:Nat×Nat):Nat×Nat:=bif VC other l then other else m
def fW(l:List (Nat×Nat)):Nat×Nat:=l.foldl xC (0,0)
def Yh(k:Nat)(l:List (Nat×Nat)):Nat×Nat:=
 match k with
 |1=>rV (fW l)
 |2=>qO (rV (qO (fW l)))
 |3=>yT l
 |4=>AQ l
 |5=>pM l (0,4) (4,0)
 |_=>pM l (4,0) (0,4)
def DS(l:List (Nat×Nat)):Prop:=∀m∈l,QP m
theorem DS.at{l:List (Nat×Nat)}(h:DS l){i:Nat}(a:i<l.length):QP l[i]:=h _ (List.getElem_mem a)
theorem MY{f:Nat×Nat->Nat×Nat->Nat×Nat}(c:∀a b,QP a->QP b->QP (f a b)):∀(l:List (Nat×Nat)) (a:Nat×Nat),QP a->DS l->QP (l.foldl f a)
 | [],_,ha,_=>ha
 |m::l,a,ha,h=>MY c l _ (c _ _ ha (h _ (List.mem_cons_self ..))) fun x d=>h x (List.mem_cons_of_mem _ d)
theorem QP.zero:QP (0,0):=⟨qe,qe⟩
theorem QP.half:QP (2,2):=⟨qe,qe⟩
theorem Vg(k:Nat){j m:Nat×Nat}(hj:QP j)(hm:QP m):QP (mI k j m):=by
 unfold mI;split
 .cases (j==(0,0))<;>assumption
 .cases (j==(0,0))
  .cases (m==(0,0))
   .exact QP.half
   .exact hj
  .exact hm
 .exact hj.join hm
theorem VD{l:List (Nat×Nat)}(h:DS l):QP (fW l):=MY (fun _ _=>QP.join) l _ QP.zero h
theorem PG{β:Type}(f:β->Nat×Nat->β)(a:β)(l:List (Nat×Nat))(k:Nat)(b:k<l.length):(l.take (k+1)).foldl f a=f ((l.take k).foldl f a) l[k]:=by
 rw[List.take_succ_eq_append_getElem b,List.foldl_append];rfl
theorem YD(m:Nat×Nat)(hm:QP m)(w:World):Calls prog 274 #[.complex .f64 (qb m.1) (qb m.2)] w fun e w'=>e=.returned (.bool (pE m))/\w=w':=
 TW _ _ (m==(0,0)) w (iS m.1 m.2 0 0 hm qe qe)
theorem Pn(m:Nat×Nat)(hm:QP m)(w:World):Calls prog 275 #[.complex .f64 (qb m.1) (qb m.2)] w fun e w'=>e=.returned (.bool (KW m))/\w=w':=
 Hs _ _ _ _ _ w (iS m.1 m.2 0 0 hm qe qe) (iS m.1 m.2 4 0 hm qe qe) (iS m.1 m.2 0 4 hm qe qe)
theorem IW(k:Nat)(h1:1<=k)(h6:k<=6)(j m:Nat×Nat)(hj:QP j)(hm:QP m)(w:World):
 Calls prog 276 #[.int .i64 k,.complex .f64 (qb j.1) (qb j.2),.complex .f64 (qb m.1) (qb m.2)] w fun e w'=>e=.returned (.complex .f64 (qb (mI k j m).1) (qb (mI k j m).2))/\w=w':=by
 obtain rfl|rfl|rfl|rfl|rfl|rfl:k=1\/k=2\/k=3\/k=4\/k=5\/k=6:=qo
 .exact xF 1 qo _ _ _ _ _ _ w (wH j m hj hm)
 .exact xF 2 qo _ _ _ _ _ _ w (wH j m hj hm)
 .have h:=Cl _ _ (qb m.1) (qb m.2) _ w (iS j.1 j.2 0 0 hj qe qe);refine h.mono fun e w' a=>⟨a.1.trans ?_,a.2⟩
  unfold mI;show Ending.returned (bif (j==(0,0)) then _ else _)=_
  cases (j==(0,0))<;>rfl
 .have h:=Ht _ _ (qb m.1) (qb m.2) _ _ w (iS j.1 j.2 0 0 hj qe qe) (iS m.1 m.2 0 0 hm qe qe);refine h.mono fun e w' a=>⟨a.1.trans ?_,a.2⟩
  unfold mI;show Ending.returned (bif (j==(0,0)) then _ else bif (m==(0,0)) then _ else _)=_
  cases (j==(0,0))<;>cases (m==(0,0))<;>rfl
 .exact xF 5 qo _ _ _ _ _ _ w (wH j m hj hm)
 .exact xF 6 qo _ _ _ _ _ _ w (wH j m hj hm)
end Cm
namespace Cm
theorem QCW{p:Prop}(h:p:=by
 go_wp2;go_round
 case rel=>exact⟨k+1,qo,by go_num,H1.o⟩
 case measure=>simp[intOf];omega):p:=h
theorem QCJ{p:Prop}(h:p:=by
 obtain rfl:k=l.length:=qo;have H0:=aA (Pm hno);clear hno;go_wp2;go_ret;exact⟨by rw[H0.o];rfl,rfl⟩):p:=h
theorem Ec(a:oD)(c n:Nat)(l:List (Nat×Nat))(q:l.length=n)(w:World)(B:Nat)(p:n<=maxLen)(j:DS l)(m:Sl w B a (vm l)):
 Calls prog 273 #[.slice a n c,.func (.func 274) #[] #[]] w fun e w'=>e=.returned (.int .i64 (sA pE l))/\w=w':=by
 subst q;unfold maxLen at p;have o:=aA j;clear j;go_enter func273,ntmps273;go_wp2;go_loop [8] (fun i=>∃k:Nat,k<=l.length/\i=.int .i64 k/\qG pE l k) (fun i=>l.length - (intOf i).toNat)
 case atStart=>exact⟨0,Nat.zero_le _,rfl,GL _ _⟩
 case round=>
  obtain⟨k,r,rfl,hno⟩:=hrel;by_cases f:k<l.length
  .obtain⟨b,off,rfl,_,g⟩:=m.mark f;have hA:=aA (YD l[k] (o.o.at f) w);have h0:=aA (fun h=>Ac hno f h);have h1:=aA (fun h=>GM hno f h);clear m hno;generalize qb l[k].1=x at g hA;generalize qb l[k].2=y at g hA
   rcases d:pE l[k] with _|_
   .rw[d] at hA h0 h1;have H1:=aA (h1.o rfl);clear h0 h1 d;go_wp2_with fail;refine hA.o.mono ?_;rintro e w' ⟨rfl,rfl⟩;exact QCW
   .rw[d] at hA h0 h1;have H0:=aA (h0.o rfl);clear h0 h1 d;go_wp2_with fail;refine hA.o.mono ?_;rintro e w' ⟨rfl,rfl⟩;go_wp2;go_ret;exact⟨by rw[H0.o];rfl,rfl⟩
  .exact QCJ
theorem Vh(a b:Nat×Nat):(((a.1,a.2):Nat×Nat)==(b.1,b.2))=(a==b):=rfl
theorem NV(a:oD)(c n:Nat)(l:List (Nat×Nat))(r:l.length=n)(m:Nat×Nat)(w:World)(B:Nat)(q:n<=maxLen)(hm:QP m)(j:DS l)(p:Sl w B a (vm l)):
 Calls prog 286 #[.slice a n c,.complex .f64 (qb m.1) (qb m.2)] w fun e w'=>e=.returned (.int .i64 (sA (m== ·) l))/\w=w':=by
 subst r;unfold maxLen at q;have g:=aA (fun (k:Nat) (h:k<l.length)=>(iS m.1 m.2 l[k].1 l[k].2 hm (j.at h).1 (j.at h).2).trans (Vh m l[k]));clear j;generalize hu:qb m.1=u at g ⊢;generalize s:qb m.2=v at g ⊢;clear hu s hm;go_enter func286,ntmps286;go_wp2;go_loop [8] (fun i=>∃k:Nat,k<=l.length/\i=.int .i64 k/\qG (m== ·) l k) (fun i=>l.length - (intOf i).toNat)
 case atStart=>exact⟨0,Nat.zero_le _,rfl,GL _ _⟩
 case round=>
  obtain⟨k,t,rfl,hno⟩:=hrel;by_cases f:k<l.length
  .obtain⟨b,off,rfl,_,o⟩:=p.mark f;have he:=g.o k f;have h0:=aA (fun h=>Ac hno f h);have h1:=aA (fun h=>GM hno f h);clear p hno;generalize qb l[k].1=x at o he;generalize qb l[k].2=y at o he
   rcases d:(m==l[k]) with _|_
   .rw[d] at he h0 h1;have H1:=aA (h1.o rfl);clear h0 h1 d;exact QCW
   .rw[d] at he h0 h1;have H0:=aA (h0.o rfl);clear h0 h1 d;go_wp2;go_ret;exact⟨by rw[H0.o];rfl,rfl⟩
  .exact QCJ
theorem Ed(m:Nat×Nat)(l:List (Nat×Nat)):(∃k:Nat,sA (m== ·) l=k/\VC m l=true)\/(sA (m== ·) l= -1/\VC m l=false):=by
 rcases PF (m== ·) l with ⟨k,a,h1,h2,_⟩|⟨h1,h2⟩
 .exact .inl ⟨k,h1,List.any_eq_true.2 ⟨l[k],List.getElem_mem a,h2⟩⟩
 .exact .inr ⟨h1,List.any_eq_false.2 fun x b=>by rw[h2 x b];decide⟩
theorem VE(a:oD)(c n:Nat)(l:List (Nat×Nat))(d:l.length=n)(m:Nat×Nat)(w:World)(B:Nat)(b:n<=maxLen)(hm:QP m)(f:DS l)(g:Sl w B a (vm l)):
 Calls prog 277 #[.slice a n c,.complex .f64 (qb m.1) (qb m.2)] w fun e w'=>e=.returned (.bool (VC m l))/\w=w':=by
 have h:=NV a c n l d m w B b hm f g;clear hm
 rcases Ed m l with ⟨k,h1,h2⟩|⟨h1,h2⟩
 all_goals
  rw[h1] at h;rw[h2];have H:=aA h;clear h h1 h2 g f d b;generalize qb m.1=u at H ⊢;generalize qb m.2=v at H ⊢;go_enter func277,ntmps277;go_wp2_with fail;refine H.o.mono ?_;exact ON
theorem KX(a:oD)(c n:Nat)(l:List (Nat×Nat))(f:l.length=n)(m o:Nat×Nat)(w:World)(B:Nat)(b:n<=maxLen)(hm:QP m)(g:QP o)(i:DS l)(j:Sl w B a (vm l)):
 Calls prog 257 #[.slice a n c,.complex .f64 (qb m.1) (qb m.2),.complex .f64 (qb o.1) (qb o.2)] w fun e w'=>e=.returned (.complex .f64 (qb (pM l m o).1) (qb (pM l m o).2))/\w=w':=by
 have H:=aA (VE a c n l f o w B b g i j);unfold pM;clear j i b hm g
 rcases d:VC o l with _|_
 all_goals
  rw[d] at H;simp only[cond_true,cond_false];clear d f;generalize qb m.1=u at H ⊢;generalize qb m.2=v at H ⊢;generalize qb o.1=x at H ⊢;generalize qb o.2=y at H ⊢;go_enter func257,ntmps257;go_wp2_with fail;refine H.o.mono ?_;exact ON
theorem VF(l:List (Nat×Nat)):(∃k,∃h:k<l.length,sA pE l=k/\yT l=l[k])\/(sA pE l= -1/\yT l=(0,0)):=by
 unfold yT
 rcases PF pE l with ⟨k,a,h1,h2,h3⟩|⟨h1,h2⟩
 .exact .inl ⟨k,a,h1,by rw[Pl h3 a h2];rfl⟩
 .refine .inr ⟨h1,?_⟩;rw[List.find?_eq_none.2 fun x b=>by rw[h2 x b];decide];rfl
theorem Jw(a:oD)(c n:Nat)(l:List (Nat×Nat))(i:l.length=n)(w:World)(B:Nat)(f:n<=maxLen)(j:DS l)(d:Sl w B a (vm l)):
 Calls prog 255 #[.slice a n c] w fun e w'=>e=.returned (.complex .f64 (qb (yT l).1) (qb (yT l).2))/\w=w':=by
 have h:=Ec a c n l i w B f j d;subst i;clear j;unfold maxLen at f
 rcases VF l with ⟨k,m,h1,h2⟩|⟨h1,h2⟩
 .rw[h1] at h;rw[h2];obtain⟨b,off,rfl,_,g⟩:=d.mark m;have H:=aA h;have o:(0:Int)<=(k:Int):=qo;clear h h1 h2 d;generalize qb l[k].1=x at g ⊢;generalize qb l[k].2=y at g ⊢;go_enter func255,ntmps255;go_wp2_with fail;refine H.o.mono ?_;exact ON
 .rw[h1] at h;rw[h2];have H:=aA h;clear h h1 h2 d;go_enter func255,ntmps255;go_wp2_with fail;refine H.o.mono ?_;exact ON
end Cm
namespace Cm
theorem QBw{p:Prop}(h:p:=by
 rw[hb] at hA h1 h2;have H1:=aA (h1.o rfl);clear h1 h2 hb;go_wp2_with fail;refine hA.o.mono ?_;rintro e w' ⟨rfl,rfl⟩;go_wp2_with fail;refine hB.o.mono ?_;rintro e w' ⟨rfl,rfl⟩;go_wp2;go_round
 case rel=>exact⟨k+1,qo,by go_num,H1.o,by rw[HJ.o]⟩
 case measure=>simp[intOf];omega):p:=h
theorem Jx{p:Prop}(h:p:=by
 go_wp2_with fail;refine h1.o.mono ?_;rintro e w' ⟨rfl,rfl⟩;go_wp2;go_ret2
 exact⟨by rw[HR.o];rfl,rfl⟩):p:=h
theorem VG{p:Nat×Nat->Bool}{l:List (Nat×Nat)}{k:Nat}(h:(l.take k).all p=true)(a:k<l.length)(hp:p l[k]=true):(l.take (k+1)).all p=true:=by
 rw[List.take_succ_eq_append_getElem a,List.all_append,h];simp[hp]
theorem Ad{p:Nat×Nat->Bool}{l:List (Nat×Nat)}{k:Nat}(a:k<l.length)(hp:p l[k]=false):l.all p=false:=by
 rw[List.all_eq_false];exact⟨l[k],List.getElem_mem a,by rw[hp];decide⟩
theorem Pp(a:oD)(c n:Nat)(l:List (Nat×Nat))(z:l.length=n)(w:World)(B:Nat)(t:n<=maxLen)(r:DS l)(s:Sl w B a (vm l)):
 Calls prog 256 #[.slice a n c] w fun e w'=>e=.returned (.complex .f64 (qb (AQ l).1) (qb (AQ l).2))/\w=w':=by
 subst z;unfold maxLen at t;have j:=aA r;clear r;go_enter func256,ntmps256;go_wp2;go_loop [3,8] (fun v i=>∃k:Nat,k<=l.length/\i=.int .i64 k/\(l.take k).all KW=true/\v=.complex .f64 (qb ((l.take k).foldl (mI 4) (0,0)).1) (qb ((l.take k).foldl (mI 4) (0,0)).2)) (fun _ i=>l.length - (intOf i).toNat)
 case atStart=>exact⟨0,Nat.zero_le _,rfl,qs,rfl⟩
 case round=>
  obtain⟨k,D,rfl,f,rfl⟩:=hrel;by_cases d:k<l.length
  .obtain⟨b,off,rfl,_,q⟩:=s.mark d;have hA:=aA (Pn l[k] (j.o.at d) w);have p:=MY (fun _ _=>Vg 4) (l.take k) (0,0) QP.zero (fun x A=>j.o x (List.mem_of_mem_take A));have hB:=aA (IW 4 qe qe _ l[k] p (j.o.at d) w);have m:=aA (PG (mI 4) (0,0) l k d);have h1:=aA (fun h=>VG f d h);have h2:Hid (KW l[k]=false->AQ l=(2,2)):=fun h=>by unfold AQ;rw[Ad d h];rfl
   clear s f p;generalize (l.take k).foldl (mI 4) (0,0)=J at hB m ⊢;rw[show (mI 4 J l[k])=((l.take (k+1)).foldl (mI 4) (0,0)) from m.o.symm] at hB;clear m;generalize o:(l.take (k+1)).foldl (mI 4) (0,0)=C at hB ⊢;have HJ:=aA o;clear o;generalize qb l[k].1=x at q hA hB;generalize qb l[k].2=y at q hA hB
   rcases hb:KW l[k] with _|_
   .rw[hb] at hA h1 h2;have g:=aA (h2.o rfl);clear h1 h2 hb;go_wp2_with fail;refine hA.o.mono ?_;rintro e w' ⟨rfl,rfl⟩;go_wp2;go_ret;exact⟨by rw[g.o];rfl,rfl⟩
   .exact QBw
  .obtain rfl:k=l.length:=qo;rw[List.take_length] at f ⊢;have g:Hid (AQ l=l.foldl (mI 4) (0,0)):=by unfold AQ;rw[f];rfl
   clear f;generalize l.foldl (mI 4) (0,0)=J at g ⊢;go_wp2;go_ret;exact⟨by rw[g.o];rfl,rfl⟩
def iX(alg:Int)(l:List (Nat×Nat)):(Nat×Nat)×Int:=
 if l.all fL=true/\1<=alg/\alg<=6 then (Yh alg.toNat l,0) else ((0,0),1)
def mkE(r:(Nat×Nat)×Int):Value:= .tuple #[.complex .f64 (qb r.1.1) (qb r.1.2),.int .i64 r.2]
theorem Pq{alg:Int}{l:List (Nat×Nat)}(h:l.all fL=false):iX alg l=((0,0),1):=by
 unfold iX;rw[iN (by rw[h];simp)]
theorem Vi{alg:Int}{l:List (Nat×Nat)}(h:alg<1\/6<alg):iX alg l=((0,0),1):=by
 unfold iX;rw[iN qo]
theorem Pr{l:List (Nat×Nat)}(k:Nat)(h1:1<=k)(h6:k<=6)(h:l.all fL=true):iX (k:Int) l=(Yh k l,0):=by
 unfold iX;rw[iP ⟨h,qo,qo⟩];rfl
theorem ZO(alg:Int)(a:oD)(c n:Nat)(l:List (Nat×Nat))(E:l.length=n)(w:World)(B:Nat)(r:n<=maxLen)(z:DS l)(f:Sl w B a (vm l)):
 Calls prog 234 #[.int .i64 alg,.slice a n c] w fun e w'=>e=.returned (mkE (iX alg l))/\w=w':=by
 subst E;have d:=aA z;have p:=aA r;unfold maxLen at r;clear z;go_enter func234,ntmps234;go_wp2;go_loop [6,11] (fun v i=>∃k:Nat,k<=l.length/\i=.int .i64 k/\(l.take k).all fL=true/\v=.complex .f64 (qb (fW (l.take k)).1) (qb (fW (l.take k)).2)) (fun _ i=>l.length - (intOf i).toNat)
 case atStart=>exact⟨0,Nat.zero_le _,rfl,qs,rfl⟩
 case round=>
  obtain⟨k,D,rfl,o,rfl⟩:=hrel;by_cases m:k<l.length
  .obtain⟨b,off,rfl,_,s⟩:=f.mark m;have hA:Hid (Calls prog 251 #[.complex .f64 (qb l[k].1) (qb l[k].2)] w fun e w'=>e=.returned (.bool (fL l[k]))/\w=w'):=aA (Ck l[k] (d.o.at m) w);have g:=VD (l:=l.take k) (fun x F=>d.o x (List.mem_of_mem_take F));have A:Hid (fW (l.take (k+1))=xC (fW (l.take k)) l[k]):=aA (PG xC (0,0) l k m);have hB:Hid (Calls prog 252 #[.complex .f64 (qb (fW (l.take k)).1) (qb (fW (l.take k)).2),.complex .f64 (qb l[k].1) (qb l[k].2)] w fun e w'=>e=.returned (.complex .f64 (qb (fW (l.take (k+1))).1) (qb (fW (l.take (k+1))).2))/\w=w'):=by
    rw[A.o];exact wH _ _ g (d.o.at m) w
   have h1:=aA (fun h=>VG o m h);have h2:Hid (fL l[k]=false->iX alg l=((0,0),1)):=fun h=>Pq (Ad m h)
   clear f o g A;generalize fW (l.take k)=J at hB ⊢;generalize q:fW (l.take (k+1))=I at hB ⊢;have HJ:=aA q;clear q;generalize qb l[k].1=x at s hA hB;generalize qb l[k].2=y at s hA hB
   rcases hb:fL l[k] with _|_
   .rw[hb] at hA h1 h2;have C:=aA (h2.o rfl);clear h1 h2 hb hB;go_wp2_with fail;refine hA.o.mono ?_;rintro e w' ⟨rfl,rfl⟩;go_wp2;go_ret2
    exact⟨by rw[C.o];rfl,rfl⟩
   .exact QBw
  .obtain rfl:k=l.length:=qo;rw[List.take_length] at o ⊢;have j:=aA o;have g:=aA (VD d.o);clear o D m;by_cases t:1<=alg/\alg<=6
   .obtain⟨K,rfl⟩:∃K:Nat,alg=(K:Int):=⟨alg.toNat,qo⟩;obtain⟨S,R⟩:=t;have HR:=aA (Pr (l:=l) K qo qo j.o);obtain rfl|rfl|rfl|rfl|rfl|rfl:K=1\/K=2\/K=3\/K=4\/K=5\/K=6:=qo
    .have h1:=aA (TU (fW l) g.o w);unfold mk at h1;clear f d j g;generalize qb (fW l).1=G at h1 ⊢;generalize qb (fW l).2=H at h1 ⊢;exact Jx
    .have h1:=aA (TT (fW l) w);have h2:=aA (TU (qO (fW l)) g.o.swap w);have h3:=aA (TT (rV (qO (fW l))) w);unfold mk at h1 h2 h3;clear f d j g;generalize qb (fW l).1=G at h1 ⊢;generalize qb (fW l).2=H at h1 ⊢;generalize qb (qO (fW l)).1=t1 at h1 h2;generalize qb (qO (fW l)).2=t2 at h1 h2;generalize qb (rV (qO (fW l))).1=T at h2 h3;generalize qb (rV (qO (fW l))).2=U at h2 h3;go_wp2_with fail;refine h1.o.mono ?_;rintro e w' ⟨rfl,rfl⟩;go_wp2_with fail;refine h2.o.mono ?_;rintro e w' ⟨rfl,rfl⟩;go_wp2_with fail;refine h3.o.mono ?_;rintro e w' ⟨rfl,rfl⟩;go_wp2;go_ret2
     exact⟨by rw[HR.o];rfl,rfl⟩
    .have h1:=aA (Jw a c _ l rfl w B p.o d.o f);clear f d j g;exact Jx
    .have h1:=aA (Pp a c _ l rfl w B p.o d.o f);clear f d j g;exact Jx
    .have h1:Hid (Calls prog 257 #[.slice a l.length c,.complex .f64 0 4607182418800017408,.complex .f64 4607182418800017408 0] w fun e w'=>e=.returned (.complex .f64 (qb (pM l (0,4) (4,0)).1) (qb (pM l (0,4) (4,0)).2))/\w=w'):=KX a c _ l rfl (0,4) (4,0) w B p.o ⟨qe,qe⟩ ⟨qe,qe⟩ d.o f;clear f d j g;exact Jx
    .have h1:Hid (Calls prog 257 #[.slice a l.length c,.complex .f64 4607182418800017408 0,.complex .f64 0 4607182418800017408] w fun e w'=>e=.returned (.complex .f64 (qb (pM l (4,0) (0,4)).1) (qb (pM l (4,0) (0,4)).2))/\w=w'):=KX a c _ l rfl (4,0) (0,4) w B p.o ⟨qe,qe⟩ ⟨qe,qe⟩ d.o f;clear f d j g;exact Jx
   .have HR:=aA (Vi (l:=l) (alg:=alg) qo);have L:(alg==1)=false:=by simp;omega
    have M:(alg==2)=false:=by simp;omega
    have N:(alg==3)=false:=by simp;omega
    have O:(alg==4)=false:=by simp;omega
    have P:(alg==5)=false:=by simp;omega
    have Q:(alg==6)=false:=by simp;omega
    clear t f d j g;go_wp2;go_ret2
    exact⟨by rw[HR.o];rfl,rfl⟩
end Cm
theorem VH:dV prog 36 191 3 32:=fP (z:= .agg #[.int .i64 0,.int .i64 0,.string ByteArray.empty]) underlying36 (by kernel_rfl) rfl qe
theorem sB(m n:Mk):((m.1,m.2)==n)=decide (m=n):=by rw[Bool.eq_iff_iff];simp
def wM(l:List Ob)(w:World)(e:Ending)(w':World):Prop:=∃v,e=.returned v/\aH jU w' (fun b=>w.heap.size<=b) v l/\Below w.heap.size w w'
theorem YE{α:Type}(p:α->Bool)(l:List α)(k:Nat)(a:k<l.length):(l.take (k+1)).filter p=(l.take k).filter p++(if p l[k]=true then [l[k]] else []):=by
 rw[List.take_succ_eq_append_getElem a,List.filter_append]
 congr 1
 by_cases h:p l[k]=true
 .rw[iP h,List.filter_cons_of_pos h];rfl
 .rw[iN h,List.filter_cons_of_neg (by simpa using h)];rfl
theorem YF{α:Type}(p:α->Bool)(l:List α)(k:Nat):((l.take k).filter p).length<=k:=by
 have h1:=List.length_filter_le p (l.take k);have h2:(l.take k).length<=k:=List.length_take_le _ _;omega
theorem xZ{ok:nP}(v:Value)(l:List Ob)(m:Mk)(hm:Cm.QP m)(w:World)(h:aH jU w ok v l):Calls prog 236 #[v,.complex .f64 (Cm.qb m.1) (Cm.qb m.2)] w (wM (gO l m) w):=by
 obtain⟨a,c,rfl,aj⟩:=h.slice;have HS:=aA h;obtain⟨P,J⟩:∃P,decide (m=(4,0))=P:=⟨_,rfl⟩;obtain⟨D,H⟩:∃D,decide (m=(0,4))=D:=⟨_,rfl⟩;have E:((FloatKind.f64.format.order (Cm.qb m.1) 4607182418800017408==some .eq)&&(FloatKind.f64.format.order (Cm.qb m.2) 0==some .eq))=P:=(Cm.iS m.1 m.2 4 0 hm qe qe).trans ((sB m (4,0)).trans J);have G:((FloatKind.f64.format.order (Cm.qb m.1) 0==some .eq)&&(FloatKind.f64.format.order (Cm.qb m.2) 4607182418800017408==some .eq))=D:=(Cm.iS m.1 m.2 0 4 hm qe qe).trans ((sB m (0,4)).trans H);obtain⟨F,I⟩:∃F:Ob->Bool,F=(fun o=>(decide (o.on=1)&&P)||(decide (o.on=2)&&D)):=⟨_,rfl⟩;have HR:Hid (gO l m=l.filter F):=aA (by unfold gO;rw[I,J,H]);have HF:=aA (show ∀x,F x=((decide (x.on=1)&&P)||(decide (x.on=2)&&D)) from fun x=>by rw[I]);generalize Cm.qb m.1=ma at *;generalize Cm.qb m.2=mb at *;have Q:=aA aj;clear h J H I hm;unfold wM;rw[HR.o];have E1:=aA E;have E2:=aA G;clear E G
 rcases P with _|_<;>rcases D with _|_
 all_goals
  have E:=E1.o;have G:=E2.o;go_enter func236,ntmps236;go_wp2;go_loopw [5,10] (fun v i wr=>∃(k:Nat) (t:oD) (n y:Nat) (st:List Ob),k<=l.length/\i=.int .i64 k/\v=.slice t n y/\Hid (st=(l.take k).filter F)/\Hid (aM jU 3 191 wr w.heap.size (fun b=>w.heap.size<=b) (.slice t n y) st)/\Hid (Below w.heap.size w wr)) (fun _ i _=>l.length - (intOf i).toNat)
  case atStart=>exact⟨0,none,0,0,[],qo,rfl,rfl,aA qs,aA aM.nil,aA (Below.refl _ _)⟩
  case round=>
   obtain⟨k,t,n,y,st,hk,rfl,rfl,e,p,g⟩:=hrel;by_cases Y:k<l.length
   .have ai:(k:Int)<(l.length:Int):=qo;obtain⟨b,off,r,rfl,_,ao,⟨rfl,V⟩,U⟩:=aH.at aO (HS.o.on aO g.o) Y qe;obtain⟨x0,x1,x2⟩:=cR3 U;rw[Nat.add_zero] at x0;obtain⟨j,d,ae,ag,S,ak⟩:=hD6 (YE F l k Y) (HF.o l[k]) V (YF F l k) g.o.size hk;clear U V;generalize hx:l[k]=x at *;clear hx;have N:=qB g (aB wr (.cells #[.int .i64 x.on,.int .i64 x.aCJ,.string x.arg] 191));obtain⟨aa,R,A⟩:=aY (aC N.o (aB _ (.cells #[.int .i64 x.on,.int .i64 x.aCJ,.string x.arg] 191))) (aK (wr.alloc (.cells #[.int .i64 x.on,.int .i64 x.aCJ,.string x.arg] 191)) (.cells #[.int .i64 x.on,.int .i64 x.aCJ,.string x.arg] 191) (wr.heap.size+1) qs) (p.o.on aO (aB wr (.cells #[.int .i64 x.on,.int .i64 x.aCJ,.string x.arg] 191)));have z:=aA (A.o.on aO (aB _ (.cells #[.int .i64 x.on,.int .i64 x.aCJ,.string x.arg] 191)));have af:Hid (st.length<=1000000):=aA (by rw[e.o];have:=ag.o;have:=Q.o;omega);obtain⟨q,K⟩:∃q,decide (x.on=1)=q:=⟨_,rfl⟩;obtain⟨s,L⟩:∃s,decide (x.on=2)=s:=⟨_,rfl⟩;rw[K,L] at d;have al:(x.on==1)=q:=K;have an:(x.on==2)=s:=L;clear K L
    rcases q with _|_<;>rcases s with _|_
    all_goals first
     |(have f:F x=false:=d.o
       have C:Hid (st=(l.take (k+1)).filter F):=aA (by rw[j.o,iN (by rw[f];decide),List.append_nil];exact e.o);clear j f d R z p;go_wp2;go_roundw
       case rel=>exact⟨k+1,t,n,y,st,qo,by go_num,rfl,C,A,N⟩
       case measure=>simp[intOf];omega)
     |(have f:F x=true:=d.o
       have C:=aA (by rw[j.o,iP f,<-e.o]:(l.take (k+1)).filter F=st++[x]);clear j f d p A;go_wp2_with (at_builtin;refine cB (base:=w.heap.size) VH aO rfl (.tmp 30) (.tmp 32) rfl _ st rfl z.o (wr.heap.size+1) 1 _ _ _ x rfl R.o ⟨rfl,ae.o⟩ af.o qo (by have:=S.o;simp only[World.size_alloc];omega) ?_;intro l' X Z c2 w9 T W ah;have ad:=aA T;have ab:=aA (z.o.below aa.o W (lR _) (by have:=S.o;simp only[World.size_alloc];omega));have B:=aA X.o;clear T W ah X)
       go_roundw
       case rel=>exact⟨k+1,Z,l'.length,c2,l',qo,by go_num,rfl,aA (by rw[B.o,C.o]),ad,ab⟩
       case measure=>simp[intOf];omega)
   .have ai:¬(k:Int)<(l.length:Int):=qo;obtain rfl:k=l.length:=qo;have O:Hid (st=l.filter F):=aA (by have:=e.o;rwa [List.take_of_length_le (lR _)] at this);have B:Hid (st.length<=1000000):=aA (by rw[O.o];have h1:=List.length_filter_le F l;have:=Q.o;omega);clear e;go_wp2;go_returns;rw[<-O.o];refine⟨_,rfl,?_,g.o⟩;exact p.o.sl B.o _ (fun b M _=>M) (fun b M _=>M) aO
theorem QBX{p:Prop}(h:p:=by
 refine⟨_,rfl,?_,nX HB1.o (Nat.le_succ _)⟩;exact aH.more aO (aH.aCT aO HS1.o (((aI _).trans (aI _)).mono fun k _ hk=>hk.2)) (fun b hb=>hb.1)):p:=h
theorem Sq{p:Prop}(h:p:=by
 go_enter func232,ntmps232;go_wp2;refine bR (.agg #[.complex .f64 0 0,.slice none 0 0]) ?_;exact tD rfl (aC (aB _ _) (aB _ _)) rfl rfl):p:=h
theorem QAZ{p:Prop}(h:p:=by
 cases deny
 .go_enter func232,ntmps232;go_wp2_with fail;refine(HIP.o _).mono ?_;rintro e w1 ⟨rfl,rfl⟩;go_wp2;refine bR (.agg #[.complex .f64 4602678819172646912 0,.slice none 0 0]) ?_;exact tD rfl (aC (aB _ _) (aB _ _)) rfl rfl
 .go_enter func232,ntmps232;go_wp2_with fail;refine(HID.o _).mono ?_;rintro e w1 ⟨rfl,rfl⟩;go_wp2;refine bR (.agg #[.complex .f64 0 4602678819172646912,.slice none 0 0]) ?_;exact tD rfl (aC (aB _ _) (aB _ _)) rfl rfl):p:=h
def mX(r:Mk×List Ob)(w:World)(e:Ending)(w':World):Prop:=∃vo,e=.returned (.agg #[.complex .f64 (Cm.qb r.1.1) (Cm.qb r.1.2),vo])/\aH jU w' (fun b=>w.heap.size<=b) vo r.2/\Below w.heap.size w w'
theorem tD{r:Mk×List Ob}{a b:Nat}{w w':World}(c:r=((a,b),[]))(h:Below w.heap.size w w'){x y:Nat}(d:Cm.qb a=x)(e:Cm.qb b=y):mX r w (.returned (.agg #[.complex .f64 x y,.slice none 0 0])) w':=by
 subst c d e;exact⟨_,rfl,aH.nil,h⟩
theorem nX{W w:World}{g:Nat}{a b:Value}(h:Below W.heap.size W w)(c:W.heap.size<=g):Below W.heap.size W ((w.setCell ⟨g,0,none⟩ a).setCell ⟨g,1,none⟩ b):=(h.setCell c _).setCell c _
theorem uD(p:Addr)(x y:Nat)(w:World):(store p (.complex .f64 x y)).run prog w=stored prog w p (.complex .f64 x y) .plain:=run_store prog w p _ _ rfl
theorem Ee{ok:nP}(r:Ru)(p m i:oD)(s q o n j:Nat)(t c:Nat)(G:t<=2)(E:c<=2)(w:World)(D:aH jU w ok (.slice i r.aC0.length j) r.aC0):
 Calls prog 232 #[.agg #[.string r.id,.bool r.aDl,.slice p s q,.slice m o n,.slice i r.aC0.length j],.int .i64 t,.int .i64 c] w (mX (EC r t c) w):=by
 have x:=aA (aC (aB w (.cells #[.string r.id,.bool r.aDl,.slice p s q,.slice m o n,.slice i r.aC0.length j] 276)) (aB _ (.cells #[.complex .f64 0 0,.slice none 0 0] 124)));have B:=aA (D.on aO x.o);have C:Hid (((w.alloc (.cells #[.string r.id,.bool r.aDl,.slice p s q,.slice m o n,.slice i r.aC0.length j] 276)).alloc (.cells #[.complex .f64 0 0,.slice none 0 0] 124)).heap[w.heap.size+1]? =some (.cells #[.complex .f64 0 0,.slice none 0 0] 124 (0,0))):=aA (aK (w.alloc (.cells #[.string r.id,.bool r.aDl,.slice p s q,.slice m o n,.slice i r.aC0.length j] 276)) (.cells #[.complex .f64 0 0,.slice none 0 0] 124) _ qs);have HIP:Hid (∀w,Calls prog 235 #[.complex .f64 4607182418800017408 0] w fun e w'=>e=.returned (.complex .f64 4602678819172646912 0)/\w=w'):=aA (fun w=>Cm.aAS (4,0) ⟨qe,qe⟩ w);have HID:Hid (∀w,Calls prog 235 #[.complex .f64 0 4607182418800017408] w fun e w'=>e=.returned (.complex .f64 0 4602678819172646912)/\w=w'):=aA (fun w=>Cm.aAS (0,4) ⟨qe,qe⟩ w);have A:Hid (∀w ok v l,aH jU w ok v l->Calls prog 236 #[v,.complex .f64 4607182418800017408 0] w (wM (gO l (4,0)) w)):=aA (fun w ok v l h=>xZ v l (4,0) ⟨qe,qe⟩ w h);have z:Hid (∀w ok v l,aH jU w ok v l->Calls prog 236 #[v,.complex .f64 0 4607182418800017408] w (wM (gO l (0,4)) w)):=aA (fun w ok v l h=>xZ v l (0,4) ⟨qe,qe⟩ w h);unfold wM at A z;have J:=uD;obtain⟨id,deny,target,cond,obls⟩:=r;simp only at *;clear D;have H:t=0\/t=1\/t=2:=qo;have F:c=0\/c=1\/c=2:=qo;clear G E
 rcases H with rfl|rfl|rfl
 .show Calls prog _ #[_,.int .i64 0,_] w _
  cases deny
  .exact Sq
  .exact Sq
 .show Calls prog _ #[_,.int .i64 1,_] w _;exact QAZ
 .rcases F with rfl|rfl|rfl
  .show Calls prog _ #[_,.int .i64 2,.int .i64 0] w _
   cases deny
   .exact Sq
   .exact Sq
  .show Calls prog _ #[_,.int .i64 2,.int .i64 1] w _;exact QAZ
  .show Calls prog _ #[_,.int .i64 2,.int .i64 2] w _
   cases deny
   .have f:=aA (A.o _ _ _ _ B.o);go_enter func232,ntmps232;go_wp2_with fail;refine f.o.mono ?_;rintro e w1 ⟨v,rfl,d,a⟩;obtain⟨y,vc,rfl,_⟩:=d.slice;have HB1:=qB x a;have HS1:=aA (d.more aO (ok':=fun b=>w.heap.size<=b/\b≠w.heap.size+1) (fun b hb=>by simp only[World.size_alloc] at hb;exact⟨qo,qo⟩));have g:=qK C a;obtain⟨⟨u0,u1⟩,_⟩:=fJ g.o;have I:=aD g.o;clear d a f;go_wp2;refine bR (.agg #[.complex .f64 4607182418800017408 0,.slice y (gO obls (4,0)).length vc]) ?_;exact QBX
   .have f:=aA (z.o _ _ _ _ B.o);go_enter func232,ntmps232;go_wp2_with fail;refine f.o.mono ?_;rintro e w1 ⟨v,rfl,d,a⟩;obtain⟨y,vc,rfl,_⟩:=d.slice;have HB1:=qB x a;have HS1:=aA (d.more aO (ok':=fun b=>w.heap.size<=b/\b≠w.heap.size+1) (fun b hb=>by simp only[World.size_alloc] at hb;exact⟨qo,qo⟩));have g:=qK C a;obtain⟨⟨u0,u1⟩,_⟩:=fJ g.o;have I:=aD g.o;clear d a f;go_wp2;refine bR (.agg #[.complex .f64 0 4607182418800017408,.slice y (gO obls (0,4)).length vc]) ?_;exact QBX
theorem KY{α:Type}(f:α->Nat):∀(l:List α) (n:Nat),n<=2->l.foldl (fun out x=>min out (f x)) n<=2
 | [],n,h=>h
 |x::l,n,h=>KY f l _ (lT (Nat.min_le_left _ _) h)
theorem Ae(g:List Gv)(t:Ta):xO g t<=2:=KY _ t 2 (lR _)
theorem Ps(g:List Gv)(l:List No):tJ g l<=2:=by
 unfold tJ;split
 .decide
 dsimp only;split
 .decide
 split<;>decide
def Kp(w:World)(p q:Nat)(a b:Obj)(w':World):Prop:=Below w.heap.size w w'/\w'.heap[p]? =some a/\w'.heap[q]? =some b
theorem Kp.on{w w' d:World}{p q:Nat}{b c:Obj}(h:Kp w p q b c w')(a:Below w'.heap.size w' d):Kp w p q b c d:=⟨aC h.1 a,aE h.2.1 a,aE h.2.2 a⟩
theorem KZ(w:World)(a b:Obj):Kp w w.heap.size (w.heap.size+1) a b ((w.alloc a).alloc b):=
 ⟨aC (aB w a) (aB _ b),aE (aK w a _ rfl) (aB _ b),aK (w.alloc a) b _ qs⟩
theorem Jy{ok ok':nP}(r:Ru)(vt vc vo:Value)(R:Value)(g:List Gv)(w:World)(y:rN w ok' r vt vc vo)(h:aH jN w ok R g):
 Calls prog 199 #[.agg #[.string r.id,.bool r.aDl,vt,vc,vo],R] w (mX (iA g r) w):=by
 obtain⟨J,gc,rfl,_⟩:=h.slice;obtain⟨o,q,rfl,_⟩:=y.2.1.slice;obtain⟨m,n,rfl,_⟩:=y.2.2.1.slice;obtain⟨s,x,rfl,_⟩:=y.2.2.2.slice;have D:=aA y;have H:=aA h;obtain⟨f,P⟩:∃f:Obj,f=.cells #[.string r.id,.bool r.aDl,.slice o r.aCU.length q,.slice m r.cond.length n,.slice s r.aC0.length x] 276:=⟨_,rfl⟩;obtain⟨j,Q⟩:∃j:Obj,j=.cells #[.complex .f64 0 0,.slice none 0 0] 124:=⟨_,rfl⟩;obtain⟨T,A,C⟩:=aY ((KZ w f j).on ((Below.refl _ _).drew)) P Q;have I:Hid (∀w',Kp w w.heap.size (w.heap.size+1) f j w'->Calls prog 198 #[.slice o r.aCU.length q,.slice J g.length gc] w' (aP (.int .i64 (xO g r.aCU:Nat)) w')):=aA (fun w' l=>ZJ _ _ _ g w' (D.o.2.1.aCT aS (aJ l.1)) (H.o.on cA l.1));have F:Hid (∀w',Kp w w.heap.size (w.heap.size+1) f j w'->Calls prog 233 #[.slice m r.cond.length n,.slice J g.length gc] w' (aP (.int .i64 (tJ g r.cond:Nat)) w')):=aA (fun w' l=>Jv _ _ _ g w' (D.o.2.2.1.aCT dQ (aJ l.1)) (H.o.on cA l.1));have G:Hid (∀w',Kp w w.heap.size (w.heap.size+1) f j w'->Calls prog 232 #[.agg #[.string r.id,.bool r.aDl,.slice o r.aCU.length q,.slice m r.cond.length n,.slice s r.aC0.length x],.int .i64 (xO g r.aCU:Nat),.int .i64 (tJ g r.cond:Nat)] w' (mX (iA g r) w')):=aA (fun w' l=>Ee r o m s _ q _ n x _ _ (Ae _ _) (Ps _ _) w' (D.o.2.2.2.aCT aO (aJ l.1)));unfold aP at I F;unfold mX at G;have z:Hid (∀w',Kp w w.heap.size (w.heap.size+1) f j w'->(w'.cell? ⟨w.heap.size,0,none⟩=some (.string r.id)/\w'.cell? ⟨w.heap.size,1,none⟩=some (.bool r.aDl)/\w'.cell? ⟨w.heap.size,2,none⟩=some (.slice o r.aCU.length q)/\w'.cell? ⟨w.heap.size,3,none⟩=some (.slice m r.cond.length n)/\w'.cell? ⟨w.heap.size,4,none⟩=some (.slice s r.aC0.length x))):=aA (fun w' l=>by
  have h1:=l.2.1;rw[A.o] at h1;obtain⟨⟨a,b,c,d,e⟩,_⟩:=dJ h1;exact⟨a,b,c,d,e⟩)
 have S:Hid (∀w',Kp w w.heap.size (w.heap.size+1) f j w'->(w'.cell? ⟨w.heap.size+1,0,none⟩=some (.complex .f64 0 0)/\w'.cell? ⟨w.heap.size+1,1,none⟩=some (.slice none 0 0)/\w'.frozen? ⟨w.heap.size+1,0,none⟩=false/\w'.frozen? ⟨w.heap.size+1,1,none⟩=false/\w.heap.size+1<w'.heap.size)):=aA (fun w' l=>by
  have h1:=l.2.2;rw[C.o] at h1;obtain⟨⟨a,b⟩,c,d⟩:=fJ h1;exact⟨a,b,c,d,aD h1⟩)
 have W:Hid (∀w',Kp w w.heap.size (w.heap.size+1) f j w'->∀b,w'.heap.size<=b->w.heap.size<=b/\b≠w.heap.size+1):=aA (fun w' l b L=>by
  have:=aD l.2.2;exact⟨qo,qo⟩)
 have Y:Hid (∀(w':World) (a b:Value),Kp w w.heap.size (w.heap.size+1) f j w'->(((w'.setCell ⟨w.heap.size+1,0,none⟩ a).setCell ⟨w.heap.size+1,1,none⟩ b).cell? ⟨w.heap.size,0,none⟩=some (.string r.id)/\((w'.setCell ⟨w.heap.size+1,0,none⟩ a).setCell ⟨w.heap.size+1,1,none⟩ b).cell? ⟨w.heap.size,1,none⟩=some (.bool r.aDl)/\((w'.setCell ⟨w.heap.size+1,0,none⟩ a).setCell ⟨w.heap.size+1,1,none⟩ b).cell? ⟨w.heap.size,2,none⟩=some (.slice o r.aCU.length q)/\((w'.setCell ⟨w.heap.size+1,0,none⟩ a).setCell ⟨w.heap.size+1,1,none⟩ b).cell? ⟨w.heap.size,3,none⟩=some (.slice m r.cond.length n)/\((w'.setCell ⟨w.heap.size+1,0,none⟩ a).setCell ⟨w.heap.size+1,1,none⟩ b).cell? ⟨w.heap.size,4,none⟩=some (.slice s r.aC0.length x))):=aA (fun w' a b l=>by
  have h1:=bE (b':=w.heap.size+1) (i:=1) (v:=b) (bE (b':=w.heap.size+1) (i:=0) (v:=a) l.2.1 qo) qo;rw[A.o] at h1;obtain⟨⟨a,b,c,d,e⟩,_⟩:=dJ h1;exact⟨a,b,c,d,e⟩)
 have K:=z.o _ T.o;rw[A.o,C.o] at K;generalize xO g r.aCU=t at *;generalize tJ g r.cond=c at *;generalize iA g r=res at *;have ae:=uD;clear h y P Q;go_enter func199,ntmps199;go_wp2;rw[<-A.o,<-C.o] at K ⊢;go_region_held3 (fun w'=>w'.cell? ⟨w.heap.size,0,none⟩=some (.string r.id)/\w'.cell? ⟨w.heap.size,1,none⟩=some (.bool r.aDl)/\w'.cell? ⟨w.heap.size,2,none⟩=some (.slice o r.aCU.length q)/\w'.cell? ⟨w.heap.size,3,none⟩=some (.slice m r.cond.length n)/\w'.cell? ⟨w.heap.size,4,none⟩=some (.slice s r.aC0.length x))
  (first|assumption |exact Y.o _ _ _ (Hid.o (p:=Kp w w.heap.size (w.heap.size+1) f j _) (by assumption)))
  ((first
    |(go_at_call 198;refine(I.o _ (Hid.o (p:=Kp w w.heap.size (w.heap.size+1) f j _) (by assumption))).mono ?_;rintro e wa ⟨rfl,M⟩;have U:=aA (Kp.on (Hid.o (p:=Kp w w.heap.size (w.heap.size+1) f j _) (by assumption)) M);have aa:=z.o _ U.o;clear M)
    |(go_at_call 233;refine(F.o _ (Hid.o (p:=Kp w w.heap.size (w.heap.size+1) f j _) (by assumption))).mono ?_;rintro e wc ⟨rfl,N⟩;have V:=aA (Kp.on (Hid.o (p:=Kp w w.heap.size (w.heap.size+1) f j _) (by assumption)) N);have ab:=z.o _ V.o;clear N)
    |(go_at_call 232;refine(G.o _ (Hid.o (p:=Kp w w.heap.size (w.heap.size+1) f j _) (by assumption))).mono ?_;rintro e we ⟨v,rfl,E,O⟩;obtain⟨Z,vc,rfl,_⟩:=E.slice;have B:=aA (Kp.on (Hid.o (p:=Kp w w.heap.size (w.heap.size+1) f j _) (by assumption)) O);have ad:=z.o _ B.o;have X:=aA (aH.more (ok':=fun b=>w.heap.size<=b/\b≠w.heap.size+1) aO E (W.o _ (Hid.o (p:=Kp w w.heap.size (w.heap.size+1) f j _) (by assumption))));have hu:=S.o _ B.o;obtain⟨u0,u1,f0,f1,zu⟩:=hu;clear O E)))
 all_goals
  go_wp2;refine bR (.agg #[.complex .f64 (Cm.qb res.1.1) (Cm.qb res.1.2),.slice Z res.2.length vc]) ?_;refine⟨_,rfl,?_,nX B.o.1 (Nat.le_succ _)⟩;exact aH.more aO (aH.aCT aO X.o (((aI _).trans (aI _)).mono fun k _ l=>l.2)) (fun b L=>L.1)
def Sr(m:Mk):List Value:=[.complex .f64 (Cm.qb m.1) (Cm.qb m.2)]
def Yi(m:Mk):Prop:=Cm.fL m=true
def Yj:Rep Mk:=mK Sr Yi
theorem Jz:Firm Yj 1:=gD (fun _=>rfl) (fun x v h=>by simp only[Sr,List.mem_cons,List.not_mem_nil,or_false] at h;rcases h with rfl;rfl)
theorem DT{m:Mk}(h:Cm.fL m=true):m=(0,0)\/m=(4,0)\/m=(0,4)\/m=(2,0)\/m=(0,2)\/m=(2,2):=by
 unfold Cm.fL at h;by_cases h0:m=(0,0);exact .inl h0;by_cases h1:m=(4,0);exact .inr (.inl h1);by_cases h2:m=(0,4);exact .inr (.inr (.inl h2));by_cases h3:m=(2,0);exact .inr (.inr (.inr (.inl h3)));by_cases h4:m=(0,2);exact .inr (.inr (.inr (.inr (.inl h4))));by_cases h5:m=(2,2);exact .inr (.inr (.inr (.inr (.inr h5))));rw[iN h0,iN h1,iN h2,iN h3,iN h4,iN h5] at h
 cases h
theorem yU{m:Mk}(h:Cm.fL m=true):Cm.QP m:=by
 rcases DT h with rfl|rfl|rfl|rfl|rfl|rfl<;>exact⟨qe,qe⟩
theorem LA(m:Mk):Cm.fL (RH m)=true:=by
 unfold RH;split;rfl;split;rfl;split;rfl;split;rfl;split<;>rfl
theorem Ef{m:Mk}(h:Cm.fL m=true):Cm.fL (Av m)=true:=by
 rcases DT h with rfl|rfl|rfl|rfl|rfl|rfl<;>rfl
theorem GP{m:Mk}(h:Cm.fL m=true):Cm.fL (tQ m)=true:=by
 rcases DT h with rfl|rfl|rfl|rfl|rfl|rfl<;>rfl
theorem Eg{j m:Mk}(hj:Cm.fL j=true)(h:Cm.fL m=true):Cm.fL (ED j m)=true:=by
 unfold ED;split;exact h;split;exact hj;rfl
theorem GQ:∀(l:List Mk) (j:Mk),Cm.fL j=true->(∀m∈l,Cm.fL m=true)->Cm.fL (l.foldl ED j)=true
 | [],j,hj,_=>hj
 |m::l,j,hj,h=>GQ l _ (Eg hj (h m (List.mem_cons_self ..))) (fun x a=>h x (List.mem_cons_of_mem _ a))
theorem PH(alg:Int)(l:List Mk)(h:∀m∈l,Cm.fL m=true):Cm.fL (BP alg l)=true:=by
 unfold BP;split;exact LA _;split;exact Ef (LA _);split
 .unfold BO
  cases a:l.find? (fun m=>decide (m≠(0,0))) with
  |none=>rfl
  |some m=>exact h m (List.mem_of_find?_eq_some a)
 split
 .unfold RJ;split
  .exact GQ l _ rfl h
  .rfl
 split
 .unfold qY;split<;>rfl
 split
 .unfold qY;split<;>rfl
 rfl
theorem aAb:Cm.mI 4=ED:=by
 funext j m
 show (bif j==(0,0) then m else bif m==(0,0) then j else (2,2))=_;unfold ED;by_cases h1:j=(0,0)
 .rw[iP h1,bQ.2 h1];rfl
 .rw[iN h1,bN.2 h1];by_cases h2:m=(0,0)
  .rw[iP h2,bQ.2 h2];rfl
  .rw[iN h2,bN.2 h2];rfl
theorem wN(a b:Mk):(a==b)=decide (a=b):=by rw[Bool.eq_iff_iff];simp
theorem aAc:Cm.KW=RI:=by
 funext m
 unfold Cm.KW RI;rw[wN,wN,wN,Bool.or_assoc]
theorem Yk(l:List Mk):Cm.yT l=BO l:=by
 unfold Cm.yT BO
 congr 2
 funext m
 unfold Cm.pE;rw[wN,<-decide_not]
theorem Af(l:List Mk)(m o:Mk):Cm.pM l m o=qY l m o:=by
 unfold Cm.pM qY Cm.VC;have e:(fun x:Mk=>o==x)=fun x=>decide (x=o):=by funext x;rw[wN,Bool.eq_iff_iff];simp[eq_comm]
 rw[e]
 cases l.any (fun x=>decide (x=o))<;>rfl
theorem Vj(alg:Int)(l:List Mk)(h:∀m∈l,Cm.fL m=true):(Cm.iX alg l).1=BP alg l:=by
 have ha:l.all Cm.fL=true:=List.all_eq_true.2 h;by_cases h1:1<=alg/\alg<=6
 .have:alg=1\/alg=2\/alg=3\/alg=4\/alg=5\/alg=6:=qo;unfold Cm.iX;rw[iP ⟨ha,h1.1,h1.2⟩]
  rcases this with rfl|rfl|rfl|rfl|rfl|rfl
  .rfl
  .rfl
  .show Cm.yT l=BO l;exact Yk l
  .show Cm.AQ l=RJ l;unfold Cm.AQ RJ;rw[aAb,aAc]
   cases l.all RI<;>rfl
  .show Cm.pM l (0,4) (4,0)=qY l (0,4) (4,0);exact Af _ _ _
  .show Cm.pM l (4,0) (0,4)=qY l (4,0) (0,4);exact Af _ _ _
 .unfold Cm.iX BP;rw[iN (fun h=>h1 h.2),iN qo,iN qo,iN qo,iN qo,iN qo,iN qo]
theorem VI{w:World}{ok:nP}:∀{l:List Mk} {cs:List Value},aX (Yj w ok) cs l->cs=Cm.vm l
 | [],_,h=>h
 |m::l,_,⟨r,t,e,hr,ht⟩=>by rw[e,hr.1,VI ht];rfl
theorem aCs:dV prog 326 69 1 16:=fP (z:= .complex .f64 0 0) underlying326 (by kernel_rfl) rfl qe
abbrev Rs:=Mk×List Ob
def ReP(w:World)(ok:nP)(r:Rs)(vo:Value):Prop:=Cm.fL r.1=true/\aH jU w ok vo r.2
def Ka:Rep Rs:=fun w ok cs r=>∃vo,cs=[.complex .f64 (Cm.qb r.1.1) (Cm.qb r.1.2),vo]/\ReP w ok r vo
theorem kK:Firm Ka 2:={
 aCT:=fun⟨vo,e,h⟩ b=>⟨vo,e,h.1,aH.aCT aO h.2 b⟩
 more:=fun⟨vo,e,h⟩ c=>⟨vo,e,h.1,aH.more aO h.2 c⟩
 len:=fun⟨vo,e,h⟩=>by rw[e];rfl
 one:=fun⟨vo,e,h⟩=>by
  intro v a;rw[e] at a;simp only[List.mem_cons,List.not_mem_nil,or_false] at a
  rcases a with rfl|rfl
  .rfl
  .exact kU h.2
 inb:=fun⟨vo,e,h⟩=>⟨vo,e,h.1,aH.inb aO h.2⟩}
theorem Yl:dV prog 282 124 2 40:=fP (z:= .agg #[.complex .f64 0 0,.slice none 0 0]) underlying282 (by kernel_rfl) rfl qe
section
variable {α:Type} {R:Rep α} {s:Nat} {P:Program} {w:World} {t e:TypeId} {bytes:Nat} {base:Nat} {ok ok':nP}
theorem Kb(E:dV P t e s bytes)(F:Firm R s){o:Oper}{a:Act}{K:Act->World->Prop}{Q:Exit->Act->World->Prop}(g x:Operand)
 (z:o.op=.call {callee:= .builtin .append,args:=#[g,x],argTypes:=#[t,t]})
 (v:Value)(l:List α)(B:a.eval g=v)(m:aM R s e w base ok v l)
 (i:Value)(y:List α)(C:a.eval x=i)(D:aH R w (fun b=>ok b/\b<w.heap.size/\some b≠v.ownBlock) i y)
 (h63:l.length+y.length<=1000000)(p:bytes<=10000)(n:base<=w.heap.size)
 (h:∀l',Hid (l'=l++y)->∀c d w',aM R s e w' base ok (.slice c l'.length d) l'->w.grownBy w' v.ownBlock->((Value.slice c l'.length d).ownBlock=v.ownBlock\/(Value.slice c l'.length d).ownBlock=some w.heap.size)->K (a.put o.dst (.slice c l'.length d)) w'):o.wp P a w K Q:=by
 obtain⟨xs,A,q⟩:=m;obtain⟨j,k,cs,rfl,h1,h2,_⟩:=D;refine RY E g x z base v l.length xs B A j y.length k cs C (h2.len (fun _ _ f=>F.len f)) h1.lt (h2.aDh (fun _ _ f=>F.one f)) (by unfold maxLen;omega) ?_ n fun c d w' h3 h4 h5=> ?_
 .calc (l.length+y.length) * bytes<=(1000000+1) * 10000:=Nat.mul_le_mul qo p
   _<=140737488355328:=qe
 .have r:(l++y).length=l.length+y.length:=aL;have:=h _ rfl c d w';rw[r] at this;exact this (aM.put F q h2 h3 h4 h5) h4 h5
theorem AR(E:dV P t e s bytes)(F:Firm R s){ops:Array Oper}{rest:List Oper}{o:Oper}{a:Act}{Q:Exit->Act->World->Prop}(n:o.guard=none)(f x:Operand)
 (q:o.op=.call {callee:= .builtin .append,args:=#[f,x],argTypes:=#[t,t]})
 (v:Value)(l:List α)(r:a.eval f=v)(i:aM R s e w base ok v l)
 (g:Value)(y:List α)(z:a.eval x=g)(A:aH R w (fun b=>ok b/\b<w.heap.size/\some b≠v.ownBlock) g y)
 (h63:l.length+y.length<=1000000)(m:bytes<=10000)(k:base<=w.heap.size)
 (h:∀l',Hid (l'=l++y)->∀c d w',aM R s e w' base ok (.slice c l'.length d) l'->w.grownBy w' v.ownBlock->((Value.slice c l'.length d).ownBlock=v.ownBlock\/(Value.slice c l'.length d).ownBlock=some w.heap.size)->wpList P ops Q rest (a.put o.dst (.slice c l'.length d)) w'):wpList P ops Q (o::rest) a w:=
 wpList_plain n fun _ j=>Kb E F f x q v l r i g y z A h63 m k fun l' p c d w' h2 h3 h4=>j _ _ (h l' p c d w' h2 h3 h4)
end
theorem QBd{p:Prop}(h:p:=by
 have hk1:¬(k:Int)<(c.aCP.length:Int):=qo;obtain rfl:k=c.aCP.length:=qo;rw[List.take_of_length_le (lR _)] at HN2 HG HPL;go_wp2;go_returns;refine⟨_,rfl,?_,aC HB0.o HB.o⟩;rw[LB,HTE.o,HPP.o];have e:=HN2.o;subst e;exact HG.o.sl (by rw[aL];have h1:=HPLEN.o;have h2:=HPL.o;have h3:=HFL.o;omega) _ (fun b hb _=>lT HB0.o.size hb) (fun b hb _=>lT HB0.o.size hb) cA):p:=h
theorem QBc{p:Prop}(h:p:=by
 have d14:decide ((f1.size:Int)<=14)=false:=dF qo;have HE:Hid (cU (c.aCP.take (k+1))=cU (c.aCP.take k)):=aA (by have:=HST.o;rwa [iN h14] at this);have HB3:=qB HB HBF.o;have HG3:=aA (HG.o.on cA HBF.o);clear HST h14;go_wp2;go_roundw
 case rel=>exact⟨k+1,n2,a',c',qo,by go_num,rfl,aA (by rw[HN2.o,HE.o]),aA (by rw[HE.o];exact HG3.o),HB3⟩
 case measure=>simp[intOf];omega):p:=h
def VJ(L:List Gv)(w:World)(e:Ending)(w':World):Prop:=∃v,e=.returned v/\aH jN w' (fun b=>w.heap.size<=b) v L/\Below w.heap.size w w'
theorem mY{lo:Nat}{a:World}{L:List (Nat×V3)}{o:Obj}{b:Nat}{v:V3}{cat:Int}{c:bY}(h:eJ lo a L)(hm:(b,v)∈L)(e:bK cat)(f:c.size<=cQ)(g:cS v):
 jN (a.alloc o) (fun x=>lo<=x/\x<(a.alloc o).heap.size/\x≠a.heap.size) [.int .i64 cat,.string c,.slice (some ⟨b,0,none⟩) 1 1] (cat,c,[v]):=by
 have d:=(h.2 _ hm).2;have i:=aD d;exact⟨_,rfl,e,f,Ve (aE d (aB _ _)) ⟨(h.2 _ hm).1,by rw[World.size_alloc];omega,by show b≠_;omega⟩ g⟩
theorem kR{w:World}{ok:nP}{a b c:Value}{g:Gv}{t:List Value}{l:List Gv}(h:jN w ok [a,b,c] g)(d:aX (jN w ok) t l):aX (jN w ok) (a::b::c::t) (g::l):=⟨[a,b,c],t,rfl,h,d⟩
theorem iW{x:Int}(h: -1000<=x/\x<=1000000):bK x:=by unfold bK;omega
theorem pN{s:bY}(h:s.size<=cQ):cS (5,0,s):=⟨iW (x:=5) qo,iW (x:=0) qo,h⟩
def cU(l:List pQ):List Gv:=(l.filter (fun f=>decide (f.1.size<=14))).map (fun f=>((3,(⟨#[102,95]⟩:bY)++f.1,[f.2]):Gv))
theorem BM{l:List pQ}{k:Nat}(a:k<l.length):cU (l.take (k+1))=if l[k].1.size<=14 then cU (l.take k)++[(3,(⟨#[102,95]⟩:bY)++l[k].1,[l[k].2])] else cU (l.take k):=by
 unfold cU;rw[List.take_succ_eq_append_getElem a,List.filter_append,List.map_append];by_cases h:l[k].1.size<=14
 .rw[iP h,List.filter_cons_of_pos (by simpa using h)];rfl
 .rw[iN h,List.filter_cons_of_neg (by simpa using h)];simp
theorem wO(l:List pQ)(k:Nat):(cU (l.take k)).length<=k:=by
 unfold cU;rw[List.length_map];exact lT (List.length_filter_le _ _) (List.length_take_le _ _)
def uE(c:cF)(t:V3):List Gv:=[(3,⟨#[105,100]⟩,[(5,0,c.id)]),(3,⟨#[111,119,110,101,114]⟩,[(5,0,c.aDb)]),(3,⟨#[115,116,97,116,101]⟩,[(5,0,c.aC5)]),(3,⟨#[101,118,101,110,116,115]⟩,[(2,(c.log.length:Int),⟨#[]⟩)]),(3,⟨#[116,111,111,107]⟩,[t])]
def qH(c:cF):List Gv:=match c.log.getLast? with |some h=>[(3,⟨#[108,97,115,116]⟩,[(5,0,h.aDj)])]|none=>[]
theorem LB(c:cF)(N:bY):nL c N=uE c (cH (c.log.any (fun h=>decide (h.aDj=N))))++qH c++cU c.aCP:=by
 unfold nL uE qH cU rT CF;rw[Xc,Ts,Tt,Nc,Xd,Xe,aCc];rfl
theorem YG{ok:nP}(c:cF)(vf vl:Value)(N:bY)(bf:c.aCP.length<=999000)(w:World)(h:oT w ok c vf vl):Calls prog 98 #[.agg #[.string c.id,.string c.aDb,.string c.aC5,vf,vl],.string N] w (VJ (nL c N) w):=by
 obtain⟨fa,fc,rfl,bh⟩:=h.2.2.2.1.slice;obtain⟨la,lc,rfl,bj⟩:=h.2.2.2.2.slice;obtain⟨W0,ai⟩:=xE (w.alloc (.cells (oW c fa fc la lc) 52));have HB0:Hid (Below w.heap.size w W0):=aA (by rw[ai];exact aB _ _);have A:Hid (W0.heap[w.heap.size]? =some (.cells (oW c fa fc la lc) 52 (0,0))):=aA (by rw[ai];exact aK _ _ _ rfl);have bd:=aA ai;have l:Hid (∀w',Below W0.heap.size W0 w'->w'.cell? ⟨w.heap.size,0,none⟩=some (.string c.id)/\w'.cell? ⟨w.heap.size,1,none⟩=some (.string c.aDb)/\w'.cell? ⟨w.heap.size,2,none⟩=some (.string c.aC5)/\w'.cell? ⟨w.heap.size,3,none⟩=some (.slice fa c.aCP.length fc)/\w'.cell? ⟨w.heap.size,4,none⟩=some (.slice la c.log.length lc)):=aA (fun w' hb=>(dJ (aE A.o hb)).1);have ad:Hid (∀w',Below W0.heap.size W0 w'->Calls prog 159 #[.agg #[.string c.id,.string c.aDb,.string c.aC5,.slice fa c.aCP.length fc,.slice la c.log.length lc],.string N] w' (aP (dB (cH (c.log.any (fun h=>decide (h.aDj=N))))) w')):=aA (fun w' hb=>Jl c _ _ N w' (h.aCT (aJ (aC HB0.o hb))));have W:=aA h;obtain⟨tk,ah⟩:∃tk,cH (c.log.any (fun h=>decide (h.aDj=N)))=tk:=⟨_,rfl⟩;rw[ah] at ad;have HTE:=aA ah;obtain⟨t1,t2,t3⟩:=tk;unfold aP dB at ad;have bc:=aA (Below.refl W0.heap.size W0);have a:=aA (Below.refl W0.heap.size W0).drew;have HG:Hid (eJ W0.heap.size W0.drew []):=aA (eJ.nil (lR _));have bm:=l.o _ bc.o;obtain⟨y,S2,S5,be,S6,S4⟩:=hD6 (iW (show -1000<=(3:Int)/\(3:Int)<=1000000 by omega)) (show (⟨#[105,100]⟩:bY).size<=cQ by decide) (show (⟨#[111,119,110,101,114]⟩:bY).size<=cQ by decide) (show (⟨#[115,116,97,116,101]⟩:bY).size<=cQ by decide) (show (⟨#[101,118,101,110,116,115]⟩:bY).size<=cQ by decide) (show (⟨#[116,111,111,107]⟩:bY).size<=cQ by decide)
 have GE:Hid (cS (2,(c.log.length:Int),⟨#[]⟩)):=aA ⟨iW (x:=2) qo,iW (x:=(c.log.length:Int)) qo,show (⟨#[]⟩:bY).size<=cQ by decide⟩;have GT:Hid (cS (t1,t2,t3)):=aA (by rw[<-ah];exact nS _);clear h ai ah;go_enter func98,ntmps98;go_upto_region 1 with (fail)
 rw[<-bd.o];go_cut [5] from 9 to 35 (fun v w'=>∃(a1:oD) (Y c1:Nat),v=.slice a1 Y c1/\Hid (Y=5)/\Hid (aM jN 3 173 w' W0.heap.size (fun b=>W0.heap.size<=b) (.slice a1 Y c1) (uE c (t1,t2,t3)))/\Hid (Below W0.heap.size W0 w'))
 case first=>
  go_region_held3 (fun w'=>w'.cell? ⟨w.heap.size,0,none⟩=some (.string c.id)/\w'.cell? ⟨w.heap.size,1,none⟩=some (.string c.aDb)/\w'.cell? ⟨w.heap.size,2,none⟩=some (.string c.aC5)/\w'.cell? ⟨w.heap.size,3,none⟩=some (.slice fa c.aCP.length fc)/\w'.cell? ⟨w.heap.size,4,none⟩=some (.slice la c.log.length lc))
   (first|assumption |exact l.o _ a.o|exact l.o _ (aC a.o (aB _ _))|exact l.o _ (aC (aC a.o (aB _ _)) (aB _ _)))
   ((first
     |(go_at_call 96;refine(vM _ _).mono ?_;rintro e M ⟨rfl,J⟩;(first|replace HG:=aA (eJ.on HG.o J)|replace HG:=aA (eJ.push HG.o J)|replace HG:=aA (eJ.aDG HG.o J));(first|replace a:=aA (aC a.o J)|replace a:=aA (aC (aC a.o (aB _ _)) J)|replace a:=aA (aC (aC (aC a.o (aB _ _)) (aB _ _)) J));have hS:=l.o _ a.o;clear J)
     |(go_at_call 97;refine(nE _ _ _ _ _ _).mono ?_;rintro e g ⟨rfl,I⟩;(first|replace HG:=aA (eJ.on HG.o I)|replace HG:=aA (eJ.push HG.o I)|replace HG:=aA (eJ.aDG HG.o I));(first|replace a:=aA (aC a.o I)|replace a:=aA (aC (aC a.o (aB _ _)) I)|replace a:=aA (aC (aC (aC a.o (aB _ _)) (aB _ _)) I));have hS:=l.o _ a.o;clear I)
     |(go_at_call 159;(first|refine(ad.o _ a.o).mono ?_|refine(ad.o _ (aC a.o (aB _ _))).mono ?_|refine(ad.o _ (aC (aC a.o (aB _ _)) (aB _ _))).mono ?_);rintro e wt ⟨rfl,K⟩;(first|replace HG:=aA (eJ.on HG.o K)|replace HG:=aA (eJ.push HG.o K)|replace HG:=aA (eJ.aDG HG.o K));(first|replace a:=aA (aC a.o K)|replace a:=aA (aC (aC a.o (aB _ _)) K)|replace a:=aA (aC (aC (aC a.o (aB _ _)) (aB _ _)) K));have hS:=l.o _ a.o;clear K)))
  all_goals
   clear hS;go_wp2;go_meet;exact⟨_,5,5,rfl,aA rfl,aA (aM.many cA qe rfl qe (aK _ _ _ rfl) a.o.size (kR (mY HG.o qs y.o (S2.o) (pN W.o.1)) (kR (mY HG.o qs y.o (S5.o) (pN W.o.2.1)) (kR (mY HG.o qs y.o (be.o) (pN W.o.2.2.1)) (kR (mY HG.o qs y.o (S6.o) GE.o) (kR (mY HG.o qs y.o (S4.o) GT.o) rfl))))) qe),aA (aC a.o (aB _ _))⟩
 case rest=>
  obtain⟨a1,Y,c1,hv,ab,aa,G⟩:=hcut;subst hv;have HFL:=aA bf;have ba:=aA (l.o _ G.o);obtain⟨s0,s1,s2,s3,s4⟩:=ba.o;have zs:=aD (aE A.o G.o);by_cases ax:c.log.length=0
  .have bg:¬(c.log.length:Int) > 0:=qo;obtain⟨P,B⟩:∃P,uE c (t1,t2,t3)++qH c=P:=⟨_,rfl⟩;have HPP:=aA B;have a6:qH c=[]:=by unfold qH;rw[List.eq_nil_of_length_eq_zero ax];rfl
   rw[a6,List.append_nil] at B;rw[B] at aa;have V:Hid (Y=P.length):=aA (by rw[ab.o,<-B];rfl);have HPLEN:Hid (P.length<=6):=aA (by rw[<-V.o,ab.o];omega);have an:=aA aa.o;have aj:=aA G.o;clear B a6 aa ab G ax;go_wp2;go_loopw [5,8,57] (fun v _ i wr=>∃(k n2:Nat) (a':oD) (c':Nat),k<=c.aCP.length/\i=.int .i64 k/\v=.slice a' n2 c'/\Hid (n2=(P++cU (c.aCP.take k)).length)/\Hid (aM jN 3 173 wr W0.heap.size (fun b=>W0.heap.size<=b) (.slice a' n2 c') (P++cU (c.aCP.take k)))/\Hid (Below W0.heap.size W0 wr)) (fun _ _ i _=>c.aCP.length - (intOf i).toNat)
   case atStart=>exact⟨0,Y,a1,c1,Nat.zero_le _,rfl,rfl,aA (by rw[V.o];simp[cU]),aA (by rw[show P++cU (c.aCP.take 0)=P by simp[cU]];have h:=an.o;have e:=V.o;exact h),aj⟩
   case round=>
    obtain⟨k,n2,a',c',hk,rfl,rfl,HN2,HG,HB⟩:=hrel;have HPL:=aA (wO c.aCP k);have bb:=aA (l.o _ HB.o);by_cases af:k<c.aCP.length
    .have hk1:(k:Int)<(c.aCP.length:Int):=qo;obtain⟨b,off,r,rfl,_,az,⟨rfl,D⟩,C⟩:=aH.at bP (aH.on bP W.o.2.2.2.1 (aC HB0.o HB.o)) af qe;obtain⟨O,x1,x2,x3⟩:=Fm C;rw[Nat.add_zero] at O;have HST:=aA (BM af);have al:=aA D;clear C D;generalize c.aCP[k]=f at *;obtain⟨f1,f2,f3,f4⟩:=f;dsimp only at O x1 x2 x3 HST;have HBF:=aA (aB wr (.cells #[.string f1,.int .i64 f2,.int .i64 f3,.string f4] 196));by_cases h14:f1.size<=14
     .have d14:decide ((f1.size:Int)<=14)=true:=dX qo;have HE:Hid (cU (c.aCP.take (k+1))=cU (c.aCP.take k)++[(3,(⟨#[102,95]⟩:bY)++f1,[(f2,f3,f4)])]):=aA (by have:=HST.o;rwa [iP h14] at this);have aw:Hid (((⟨#[102,95]⟩:bY)++f1).size<=cQ):=aA (by
       rw[ByteArray.size_append,show (⟨#[102,95]⟩:bY).size=2 from rfl];have hb:1000<=cQ:=qe;omega)
      have ao:Hid (cS (f2,f3,f4)):=aA al.o.2;obtain⟨n,T,av⟩:=aY (aC HBF.o (aB _ (.cells #[.int .i64 f2,.int .i64 f3,.string f4] 44))) HG.o.lt (World.size_alloc wr (.cells #[.string f1,.int .i64 f2,.int .i64 f3,.string f4] 196));have h15:¬9223372036854775807<2+f1.size:=qo;clear HST h14;go_wp2_with fail;refine(nE _ _ _ _ _ _).mono ?_;rintro e g ⟨rfl,d⟩;obtain⟨HB3,Q,X,HG3⟩:=dD (aC (aC HB.o n.o) d) (eJ.push (lo:=wr.heap.size) (L:=[]) (eJ.nil HBF.o.size) d) HB.o.size (HG.o.on cA (aC n.o d));obtain⟨R,U,q⟩:=aY (mY (o:= .cells #[.int .i64 3,.string ((⟨#[102,95]⟩:bY)++f1),.slice (some ⟨wr.heap.size+1,0,none⟩) 1 1] 173) (b:=wr.heap.size+1) Q.o (by rw[<-av.o];simp) y.o aw.o ao.o) (aK g (.cells #[.int .i64 3,.string ((⟨#[102,95]⟩:bY)++f1),.slice (some ⟨wr.heap.size+1,0,none⟩) 1 1] 173) g.heap.size qs) (aB g (.cells #[.int .i64 3,.string ((⟨#[102,95]⟩:bY)++f1),.slice (some ⟨wr.heap.size+1,0,none⟩) 1 1] 173));have s:=aA (HG3.o.on cA q.o);have j:=qB HB3 q.o;have ar:Hid ((P++cU (c.aCP.take k)).length<=1000000):=aA (by rw[aL];have h1:=HPLEN.o;have h2:=HPL.o;have h3:=HFL.o;omega);clear d n HG O x1 x2 x3 HG3 HB3;go_wp2_with (at_builtin;refine cB (base:=W0.heap.size) IL cA rfl (.tmp 65) (.tmp 73) rfl _ (P++cU (c.aCP.take k)) rfl s.o g.heap.size 1 _ _ _ (3,(⟨#[102,95]⟩:bY)++f1,[(f2,f3,f4)]) rfl U.o (by have h:=R.o;obtain⟨vb,e1,h1,h2,h3⟩:=h;exact⟨vb,e1,h1,h2,aH.more bG h3 fun x p=>⟨lT X.o p.1,p.2.1,fun e=>absurd (T.o x e.symm).2 (Nat.not_lt.2 p.1)⟩⟩) ar.o qo j.o.size ?_;intro l' F A' c2 w9 z E ae;have S:=aA z;have t:=aA (s.o.below j.o E (lR _) j.o.size);have H:=aA F.o;clear z E ae F)
      have Z:Hid (l'=P++cU (c.aCP.take (k+1))):=aA (by rw[H.o,HE.o,List.append_assoc]);go_roundw
      case rel=>exact⟨k+1,l'.length,A',c2,qo,by go_num,rfl,aA (by rw[Z.o]),aA (by have h:=S.o;have e:=Z.o;subst e;exact h),t⟩
      case measure=>simp[intOf];omega
     .exact QBc
    .exact QBd
  .have bg:(c.log.length:Int) > 0:=qo;obtain⟨m,hm⟩:∃m,c.log.length=m+1:=⟨c.log.length - 1,qo⟩;have a7:m<c.log.length:=qo;have bk:(c.log.length:Int) - 1=(m:Int):=qo;have bl:(m:Int)<(c.log.length:Int):=qo;obtain⟨b,off,r,rfl,_,az,⟨rfl,D⟩,C⟩:=aH.at bW (aH.on bW W.o.2.2.2.2 (aC HB0.o G.o)) a7 qe;have y1:=C 1 _ rfl;have ay:Hid (qH c=[(3,⟨#[108,97,115,116]⟩,[(5,0,c.log[m].aDj)])]):=aA (by unfold qH;rw[List.getLast?_eq_getElem?,show c.log.length - 1=m by omega,gE a7]);have a8:=aA D.2.1;clear C D hm ax;generalize c.log[m].aDj=ac at *;obtain⟨P,B⟩:∃P,uE c (t1,t2,t3)++qH c=P:=⟨_,rfl⟩;have HPP:=aA B;have au:Hid ((uE c (t1,t2,t3)).length=5):=aA rfl;clear B;go_wp2_with fail;refine(vM _ _).mono ?_;rintro e M ⟨rfl,d⟩;have ak:=qB G d;have aq:=aA (aa.o.on cA d);have T:=aA aq.o.lt;clear d G aa s0 s1 s2 s3 s4 zs y1;go_wp2_with fail;refine(nE _ _ _ _ _ _).mono ?_;rintro e g ⟨rfl,d⟩;have n:=aA (aB M (.cells #[.int .i64 5,.int .i64 0,.string ac] 44));obtain⟨HB3,Q,X,HG3⟩:=dD (aC (aC ak.o n.o) d) (eJ.push (lo:=M.heap.size) (L:=[]) (eJ.nil (lR _)) d) ak.o.size (aq.o.on cA (aC n.o d));obtain⟨R,U,q⟩:=aY (mY (o:= .cells #[.int .i64 3,.string (⟨#[108,97,115,116]⟩:bY),.slice (some ⟨M.heap.size,0,none⟩) 1 1] 173) (b:=M.heap.size) Q.o qs y.o (show (⟨#[108,97,115,116]⟩:bY).size<=cQ by decide) (pN a8.o)) (aK g (.cells #[.int .i64 3,.string (⟨#[108,97,115,116]⟩:bY),.slice (some ⟨M.heap.size,0,none⟩) 1 1] 173) g.heap.size qs) (aB g (.cells #[.int .i64 3,.string (⟨#[108,97,115,116]⟩:bY),.slice (some ⟨M.heap.size,0,none⟩) 1 1] 173))
   have s:=aA (HG3.o.on cA q.o);have j:=qB HB3 q.o;obtain⟨s0,s1,s2,s3,s4⟩:=l.o _ j.o;clear d n aq ak HG3 HB3;go_wp2_with (at_builtin;refine cB (base:=W0.heap.size) IL cA rfl (.tmp 41) (.tmp 52) rfl _ (uE c (t1,t2,t3)) (by rw[ab.o];rfl) s.o g.heap.size 1 _ _ _ (3,(⟨#[108,97,115,116]⟩:bY),[(5,0,ac)]) rfl U.o (by have h:=R.o;obtain⟨vb,e1,h1,h2,h3⟩:=h;exact⟨vb,e1,h1,h2,aH.more bG h3 fun x p=>⟨lT X.o p.1,p.2.1,fun e=>absurd (T.o x e.symm).2 (Nat.not_lt.2 p.1)⟩⟩) (by rw[au.o];omega) qo j.o.size ?_;intro l' F A' c2 w9 z E ae;have S:=aA z;have t:=aA (s.o.below j.o E (lR _) j.o.size);have H:=aA F.o;obtain⟨q0,q1,q2,q3,q4⟩:=l.o _ t.o;have zq:=aD (aE A.o t.o);clear z E ae F)
   have ag:Hid (l'=P):=aA (by rw[H.o,<-HPP.o,ay.o]);have V:Hid (l'.length=P.length):=aA (by rw[ag.o]);have HPLEN:Hid (P.length<=6):=aA (by rw[<-ag.o,H.o,aL,au.o];simp);have an:Hid (aM jN 3 173 w9 W0.heap.size (fun b=>W0.heap.size<=b) (.slice A' l'.length c2) P):=aA (by have h:=S.o;have e:=ag.o;subst e;exact h);have aj:=aA t.o;clear S t s j R U q Q X T H ag ay au ab s0 s1 s2 s3 s4;go_loopw [5,8,57] (fun v _ i wr=>∃(k n2:Nat) (a':oD) (c':Nat),k<=c.aCP.length/\i=.int .i64 k/\v=.slice a' n2 c'/\Hid (n2=(P++cU (c.aCP.take k)).length)/\Hid (aM jN 3 173 wr W0.heap.size (fun b=>W0.heap.size<=b) (.slice a' n2 c') (P++cU (c.aCP.take k)))/\Hid (Below W0.heap.size W0 wr)) (fun _ _ i _=>c.aCP.length - (intOf i).toNat)
   case atStart=>exact⟨0,l'.length,A',c2,Nat.zero_le _,rfl,rfl,aA (by rw[V.o];simp[cU]),aA (by rw[show P++cU (c.aCP.take 0)=P by simp[cU]];have h:=an.o;have e:=V.o;exact h),aj⟩
   case round=>
    obtain⟨k,n2,a',c',hk,rfl,rfl,HN2,HG,HB⟩:=hrel;have HPL:=aA (wO c.aCP k);have bb:=aA (l.o _ HB.o);by_cases af:k<c.aCP.length
    .have hk1:(k:Int)<(c.aCP.length:Int):=qo;obtain⟨b,off,r,rfl,_,az,⟨rfl,D⟩,C⟩:=aH.at bP (aH.on bP W.o.2.2.2.1 (aC HB0.o HB.o)) af qe;obtain⟨O,x1,x2,x3⟩:=Fm C;rw[Nat.add_zero] at O;have HST:=aA (BM af);have al:=aA D;clear C D;generalize c.aCP[k]=f at *;obtain⟨f1,f2,f3,f4⟩:=f;dsimp only at O x1 x2 x3 HST;have HBF:=aA (aB wr (.cells #[.string f1,.int .i64 f2,.int .i64 f3,.string f4] 196));by_cases h14:f1.size<=14
     .have d14:decide ((f1.size:Int)<=14)=true:=dX qo;have HE:Hid (cU (c.aCP.take (k+1))=cU (c.aCP.take k)++[(3,(⟨#[102,95]⟩:bY)++f1,[(f2,f3,f4)])]):=aA (by have:=HST.o;rwa [iP h14] at this);have aw:Hid (((⟨#[102,95]⟩:bY)++f1).size<=cQ):=aA (by
       rw[ByteArray.size_append,show (⟨#[102,95]⟩:bY).size=2 from rfl];have hb:1000<=cQ:=qe;omega)
      have ao:Hid (cS (f2,f3,f4)):=aA al.o.2;obtain⟨n,T,av⟩:=aY (aC HBF.o (aB _ (.cells #[.int .i64 f2,.int .i64 f3,.string f4] 44))) HG.o.lt (World.size_alloc wr (.cells #[.string f1,.int .i64 f2,.int .i64 f3,.string f4] 196));have h15:¬9223372036854775807<2+f1.size:=qo;clear HST h14;go_wp2_with fail;refine(nE _ _ _ _ _ _).mono ?_;rintro e g ⟨rfl,d⟩;obtain⟨HB3,Q,X,HG3⟩:=dD (aC (aC HB.o n.o) d) (eJ.push (lo:=wr.heap.size) (L:=[]) (eJ.nil HBF.o.size) d) HB.o.size (HG.o.on cA (aC n.o d));obtain⟨R,U,q⟩:=aY (mY (o:= .cells #[.int .i64 3,.string ((⟨#[102,95]⟩:bY)++f1),.slice (some ⟨wr.heap.size+1,0,none⟩) 1 1] 173) (b:=wr.heap.size+1) Q.o (by rw[<-av.o];simp) y.o aw.o ao.o) (aK g (.cells #[.int .i64 3,.string ((⟨#[102,95]⟩:bY)++f1),.slice (some ⟨wr.heap.size+1,0,none⟩) 1 1] 173) g.heap.size qs) (aB g (.cells #[.int .i64 3,.string ((⟨#[102,95]⟩:bY)++f1),.slice (some ⟨wr.heap.size+1,0,none⟩) 1 1] 173));have s:=aA (HG3.o.on cA q.o);have j:=qB HB3 q.o;have ar:Hid ((P++cU (c.aCP.take k)).length<=1000000):=aA (by rw[aL];have h1:=HPLEN.o;have h2:=HPL.o;have h3:=HFL.o;omega);clear d n HG O x1 x2 x3 HG3 HB3;go_wp2_with (at_builtin;refine cB (base:=W0.heap.size) IL cA rfl (.tmp 65) (.tmp 73) rfl _ (P++cU (c.aCP.take k)) rfl s.o g.heap.size 1 _ _ _ (3,(⟨#[102,95]⟩:bY)++f1,[(f2,f3,f4)]) rfl U.o (by have h:=R.o;obtain⟨vb,e1,h1,h2,h3⟩:=h;exact⟨vb,e1,h1,h2,aH.more bG h3 fun x p=>⟨lT X.o p.1,p.2.1,fun e=>absurd (T.o x e.symm).2 (Nat.not_lt.2 p.1)⟩⟩) ar.o qo j.o.size ?_;intro l9 F A9 c9 bn z E ae;have S:=aA z;have t:=aA (s.o.below j.o E (lR _) j.o.size);have H:=aA F.o;clear z E ae F)
      have Z:Hid (l9=P++cU (c.aCP.take (k+1))):=aA (by rw[H.o,HE.o,List.append_assoc]);go_roundw
      case rel=>exact⟨k+1,l9.length,A9,c9,qo,by go_num,rfl,aA (by rw[Z.o]),aA (by have h:=S.o;have e:=Z.o;subst e;exact h),t⟩
      case measure=>simp[intOf];omega
     .exact QBc
    .exact QBd
end Go.Proofs.YtgoanbpcdhmfkaaGreatDoor
