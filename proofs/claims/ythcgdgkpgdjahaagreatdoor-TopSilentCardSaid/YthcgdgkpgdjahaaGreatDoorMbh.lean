/- Lemmas. -/
import Derived.Test.YthcgdgkpgdjahaaGreatDoorMbg
namespace Go.Proofs.YthcgdgkpgdjahaaGreatDoor
open Go.RowKit
set_option linter.unusedVariables false
set_option linter.unusedSimpArgs false
set_option maxHeartbeats 16000000
open _root_.Go.Proofs.Tryz
set_option maxRecDepth 20000
theorem Mi{ok ok':nP}(o:Value)(l:List No)(n:Value)(g:List Gv)(w:World)(m:aH KJ w ok' o l)(h:aH jW w ok n g):Calls prog 228 #[o,n] w (aP (.int .i64 (tX g l:Nat)) w):=by
 have d:=aA (Gd o l n g w m h);obtain⟨J,gc,rfl,_⟩:=h.slice;obtain⟨la,lc,rfl,K⟩:=m.slice;unfold aP;unfold Ca at d;clear h m;by_cases i:l=[]
 .subst i;have b:Hid (tX g []=2):=aA (iP rfl);rw[b.o];clear d;go_enter func228,ntmps228;exact GY
 have L:((l.length:Int)==0)=false:=bN.2 (fun h=>i (List.eq_nil_of_length_eq_zero qo));have b:=aA (show tX g l=if (jP (oE g l).1 (oE g l).2).is 1=true then 2 else if (jP (oE g l).1 (oE g l).2).is 0=true then 0 else 1 from iN i);obtain⟨R,E⟩:∃R,tX g l=R:=⟨_,rfl⟩;rw[E] at b ⊢;clear i E;generalize oE g l=r at *;obtain⟨v,e⟩:=r;simp only at d b;have k:=aA (fun w'=>tO none 0 0 [] v e 1 w');have j:=aA (fun w'=>tO none 0 0 [] v e 0 w');unfold aP at k j;have D:(jP v e).is 1=It.is ⟨[],v,e⟩ 1:=rfl;have C:(jP v e).is 0=It.is ⟨[],v,e⟩ 0:=rfl;rw[D,C] at b;generalize It.is ⟨[],v,e⟩ 1=p at *;generalize It.is ⟨[],v,e⟩ 0=q at *;clear D C;unfold dC at d;go_enter func228,ntmps228;go_wp2_with fail;refine d.o.mono ?_;rintro e w1 ⟨rfl,_,a⟩;obtain⟨I,G,c⟩:=aZ a (aC (aC a (aB w1 (.cells #[.int .i64 v.1,.int .i64 v.2.1,.string v.2.2] 30))) (aB _ (.cells #[.slice none 0 0,.int .i64 v.1,.int .i64 v.2.1,.string v.2.2,.int .i64 e] 352))) (aK (w1.alloc (.cells #[.int .i64 v.1,.int .i64 v.2.1,.string v.2.2] 30)) (.cells #[.slice none 0 0,.int .i64 v.1,.int .i64 v.2.1,.string v.2.2,.int .i64 e] 352) (w1.heap.size+1) qs);clear a d;go_wp2_with fail;refine(k.o _).mono ?_;rintro H w2 ⟨rfl,a⟩;have s:=qB G a;replace c:=qK c a;obtain⟨⟨x,y,z,A,B⟩,_⟩:=dM c.o;have F:=aD c.o;clear a k
 cases p
 .go_wp2_with fail;refine(j.o _).mono ?_;rintro H M ⟨rfl,a⟩;have t:=qB s a
  try clear x y z A B F
  replace c:=qK c a;obtain⟨⟨x,y,z,A,B⟩,_⟩:=dM c.o;have F:=aD c.o;clear a j
  cases q
  .have f:Hid (R=1):=b.o;go_wp2;go_returns;exact⟨by rw[f.o];rfl,t.o⟩
  .have f:Hid (R=0):=b.o;go_wp2;go_returns;exact⟨by rw[f.o];rfl,t.o⟩
 .have f:Hid (R=2):=b.o;go_wp2;go_returns;exact⟨by rw[f.o];rfl,s.o⟩
namespace Cm
section
variable {α:Type}
def qV(p:α->Bool)(l:List α)(k:Nat):Prop:=∀(i:Nat) (h:i<l.length),i<k->p l[i]=false
theorem IQ(p:α->Bool)(l:List α):qV p l 0:=fun i h a=>by omega
theorem IS{p:α->Bool}{l:List α}{k:Nat}(h:qV p l k)(e:k<l.length)(hp:p l[k]=false):qV p l (k+1):=fun i a d=>by
 rcases Nat.lt_or_ge i k with b|c
 .exact h i a b
 .obtain rfl:i=k:=qo;exact hp
def sO(p:α->Bool)(l:List α):Int:=if l.findIdx p<l.length then (l.findIdx p:Int) else -1
theorem Cb{p:α->Bool}{l:List α}{k:Nat}(h:qV p l k)(a:k<l.length)(hp:p l[k]=true):sO p l=k:=by
 have:l.findIdx p=k:=(List.findIdx_eq a).2 ⟨hp,fun j hj=>h j qo hj⟩;unfold sO;rw[this,iP a]
theorem Ry{p:α->Bool}{l:List α}{k:Nat}(h:qV p l k)(a:k<l.length)(hp:p l[k]=true):l.find? p=some l[k]:=by
 rw[List.find?_eq_some_iff_getElem];exact⟨hp,k,a,rfl,fun j hj=>by rw[h j qo hj];rfl⟩
theorem Ge{p:α->Bool}{l:List α}(h:qV p l l.length):∀x∈l,p x=false:=fun x b=>by
 obtain⟨i,a,rfl⟩:=List.getElem_of_mem b;exact h i a a
theorem Rz{p:α->Bool}{l:List α}(h:qV p l l.length):sO p l= -1:=by
 have:l.findIdx p=l.length:=List.findIdx_eq_length_of_false (Ge h);unfold sO;rw[this,iN qo]
theorem QX(p:α->Bool)(l:List α):(∃k,∃h:k<l.length,sO p l=k/\p l[k]=true/\qV p l k)\/(sO p l= -1/\∀x∈l,p x=false):=by
 by_cases h:l.findIdx p<l.length
 .refine .inl ⟨l.findIdx p,h,by unfold sO;rw[iP h],List.findIdx_getElem,fun i c a=> ?_⟩;have:=(List.findIdx_eq (i:=l.findIdx p) (p:=p) h).1 rfl;exact this.2 i a
 .refine .inr ⟨by unfold sO;rw[iN h],fun x b=> ?_⟩;have:=List.findIdx_eq_length.1 (Nat.le_antisymm (List.findIdx_le_length) (Nat.not_lt.1 h));exact this x b
end
def pO(m:Nat×Nat):Bool:= !(m==(0,0))
def LZ(m:Nat×Nat):Bool:=(m==(0,0))||(m==(4,0))||(m==(0,4))
def mQ(k:Nat)(j m:Nat×Nat):Nat×Nat:=
 match k with
 |3=>bif j==(0,0) then m else j
 |4=>bif j==(0,0) then m else bif m==(0,0) then j else (2,2)
 |_=>xN j m
def zF(l:List (Nat×Nat)):Nat×Nat:=(l.find? pO).getD (0,0)
def BH(l:List (Nat×Nat)):Nat×Nat:=bif l.all LZ then l.foldl (mQ 4) (0,0) else (2,2)
def WU(m:Nat×Nat)(l:List (Nat×Nat)):Bool:=l.any (m== ·)
def pY(l:List (Nat×Nat))(m other:Nat×Nat):Nat×Nat:=bif WU other l then other else m
def fZ(l:List (Nat×Nat)):Nat×Nat:=l.foldl xN (0,0)
def aAr(k:Nat)(l:List (Nat×Nat)):Nat×Nat:=
 match k with
 |1=>sJ (fZ l)
 |2=>rD (sJ (rD (fZ l)))
 |3=>zF l
 |4=>BH l
 |5=>pY l (0,4) (4,0)
 |_=>pY l (4,0) (0,4)
def EK(l:List (Nat×Nat)):Prop:=∀m∈l,QP m
theorem EK.at{l:List (Nat×Nat)}(h:EK l){i:Nat}(a:i<l.length):QP l[i]:=h _ (List.getElem_mem a)
theorem OK{f:Nat×Nat->Nat×Nat->Nat×Nat}(c:∀a b,QP a->QP b->QP (f a b)):∀(l:List (Nat×Nat)) (a:Nat×Nat),QP a->EK l->QP (l.foldl f a)
 | [],_,ha,_=>ha
 |m::l,a,ha,h=>OK c l _ (c _ _ ha (h _ (List.mem_cons_self ..))) fun x d=>h x (List.mem_cons_of_mem _ d)
theorem QP.zero:QP (0,0):=⟨qe,qe⟩
theorem QP.half:QP (2,2):=⟨qe,qe⟩
theorem Xp(k:Nat){j m:Nat×Nat}(hj:QP j)(hm:QP m):QP (mQ k j m):=by
 unfold mQ;split
 .cases (j==(0,0))<;>assumption
 .cases (j==(0,0))
  .cases (m==(0,0))
   .exact QP.half
   .exact hj
  .exact hm
 .exact hj.join hm
theorem WV{l:List (Nat×Nat)}(h:EK l):QP (fZ l):=OK (fun _ _=>QP.join) l _ QP.zero h
theorem QY{β:Type}(f:β->Nat×Nat->β)(a:β)(l:List (Nat×Nat))(k:Nat)(b:k<l.length):(l.take (k+1)).foldl f a=f ((l.take k).foldl f a) l[k]:=by
 rw[List.take_succ_eq_append_getElem b,List.foldl_append];rfl
theorem ZW(m:Nat×Nat)(hm:QP m)(w:World):Calls prog 274 #[.complex .f64 (qb m.1) (qb m.2)] w fun e w'=>e=.returned (.bool (pO m))/\w=w':=
 VL _ _ (m==(0,0)) w (iX m.1 m.2 0 0 hm qe qe)
theorem Sa(m:Nat×Nat)(hm:QP m)(w:World):Calls prog 275 #[.complex .f64 (qb m.1) (qb m.2)] w fun e w'=>e=.returned (.bool (LZ m))/\w=w':=
 Kd _ _ _ _ _ w (iX m.1 m.2 0 0 hm qe qe) (iX m.1 m.2 4 0 hm qe qe) (iX m.1 m.2 0 4 hm qe qe)
theorem JX(k:Nat)(h1:1<=k)(h6:k<=6)(j m:Nat×Nat)(hj:QP j)(hm:QP m)(w:World):
 Calls prog 276 #[.int .i64 k,.complex .f64 (qb j.1) (qb j.2),.complex .f64 (qb m.1) (qb m.2)] w fun e w'=>e=.returned (.complex .f64 (qb (mQ k j m).1) (qb (mQ k j m).2))/\w=w':=by
 obtain rfl|rfl|rfl|rfl|rfl|rfl:k=1\/k=2\/k=3\/k=4\/k=5\/k=6:=qo
 .exact xP 1 qo _ _ _ _ _ _ w (wS j m hj hm)
 .exact xP 2 qo _ _ _ _ _ _ w (wS j m hj hm)
 .have h:=En _ _ (qb m.1) (qb m.2) _ w (iX j.1 j.2 0 0 hj qe qe);refine h.mono fun e w' a=>⟨a.1.trans ?_,a.2⟩
  unfold mQ;show Ending.returned (bif (j==(0,0)) then _ else _)=_
  cases (j==(0,0))<;>rfl
 .have h:=Ke _ _ (qb m.1) (qb m.2) _ _ w (iX j.1 j.2 0 0 hj qe qe) (iX m.1 m.2 0 0 hm qe qe);refine h.mono fun e w' a=>⟨a.1.trans ?_,a.2⟩
  unfold mQ;show Ending.returned (bif (j==(0,0)) then _ else bif (m==(0,0)) then _ else _)=_
  cases (j==(0,0))<;>cases (m==(0,0))<;>rfl
 .exact xP 5 qo _ _ _ _ _ _ w (wS j m hj hm)
 .exact xP 6 qo _ _ _ _ _ _ w (wS j m hj hm)
end Cm
namespace Cm
theorem QCV{p:Prop}(h:p:=by
 go_wp2;go_round
 case rel=>exact⟨k+1,qo,by go_num,H1.o⟩
 case measure=>simp[intOf];omega):p:=h
theorem QCI{p:Prop}(h:p:=by
 obtain rfl:k=l.length:=qo;have H0:=aA (Rz hno);clear hno;go_wp2;go_ret;exact⟨by rw[H0.o];rfl,rfl⟩):p:=h
theorem Gf(a:oD)(c n:Nat)(l:List (Nat×Nat))(q:l.length=n)(w:World)(B:Nat)(p:n<=maxLen)(j:EK l)(m:Sl w B a (vm l)):
 Calls prog 273 #[.slice a n c,.func (.func 274) #[] #[]] w fun e w'=>e=.returned (.int .i64 (sO pO l))/\w=w':=by
 subst q;unfold maxLen at p;have o:=aA j;clear j;go_enter func273,ntmps273;go_wp2;go_loop [8] (fun i=>∃k:Nat,k<=l.length/\i=.int .i64 k/\qV pO l k) (fun i=>l.length - (intOf i).toNat)
 case atStart=>exact⟨0,Nat.zero_le _,rfl,IQ _ _⟩
 case round=>
  obtain⟨k,r,rfl,hno⟩:=hrel;by_cases f:k<l.length
  .obtain⟨b,off,rfl,_,g⟩:=m.mark f;have hA:=aA (ZW l[k] (o.o.at f) w);have h0:=aA (fun h=>Cb hno f h);have h1:=aA (fun h=>IS hno f h);clear m hno;generalize qb l[k].1=x at g hA;generalize qb l[k].2=y at g hA
   rcases d:pO l[k] with _|_
   .rw[d] at hA h0 h1;have H1:=aA (h1.o rfl);clear h0 h1 d;go_wp2_with fail;refine hA.o.mono ?_;rintro e w' ⟨rfl,rfl⟩;exact QCV
   .rw[d] at hA h0 h1;have H0:=aA (h0.o rfl);clear h0 h1 d;go_wp2_with fail;refine hA.o.mono ?_;rintro e w' ⟨rfl,rfl⟩;go_wp2;go_ret;exact⟨by rw[H0.o];rfl,rfl⟩
  .exact QCI
theorem Xq(a b:Nat×Nat):(((a.1,a.2):Nat×Nat)==(b.1,b.2))=(a==b):=rfl
theorem PM(a:oD)(c n:Nat)(l:List (Nat×Nat))(r:l.length=n)(m:Nat×Nat)(w:World)(B:Nat)(q:n<=maxLen)(hm:QP m)(j:EK l)(p:Sl w B a (vm l)):
 Calls prog 286 #[.slice a n c,.complex .f64 (qb m.1) (qb m.2)] w fun e w'=>e=.returned (.int .i64 (sO (m== ·) l))/\w=w':=by
 subst r;unfold maxLen at q;have g:=aA (fun (k:Nat) (h:k<l.length)=>(iX m.1 m.2 l[k].1 l[k].2 hm (j.at h).1 (j.at h).2).trans (Xq m l[k]));clear j;generalize hu:qb m.1=u at g ⊢;generalize s:qb m.2=v at g ⊢;clear hu s hm;go_enter func286,ntmps286;go_wp2;go_loop [8] (fun i=>∃k:Nat,k<=l.length/\i=.int .i64 k/\qV (m== ·) l k) (fun i=>l.length - (intOf i).toNat)
 case atStart=>exact⟨0,Nat.zero_le _,rfl,IQ _ _⟩
 case round=>
  obtain⟨k,t,rfl,hno⟩:=hrel;by_cases f:k<l.length
  .obtain⟨b,off,rfl,_,o⟩:=p.mark f;have he:=g.o k f;have h0:=aA (fun h=>Cb hno f h);have h1:=aA (fun h=>IS hno f h);clear p hno;generalize qb l[k].1=x at o he;generalize qb l[k].2=y at o he
   rcases d:(m==l[k]) with _|_
   .rw[d] at he h0 h1;have H1:=aA (h1.o rfl);clear h0 h1 d;exact QCV
   .rw[d] at he h0 h1;have H0:=aA (h0.o rfl);clear h0 h1 d;go_wp2;go_ret;exact⟨by rw[H0.o];rfl,rfl⟩
  .exact QCI
theorem Gg(m:Nat×Nat)(l:List (Nat×Nat)):(∃k:Nat,sO (m== ·) l=k/\WU m l=true)\/(sO (m== ·) l= -1/\WU m l=false):=by
 rcases QX (m== ·) l with ⟨k,a,h1,h2,_⟩|⟨h1,h2⟩
 .exact .inl ⟨k,h1,List.any_eq_true.2 ⟨l[k],List.getElem_mem a,h2⟩⟩
 .exact .inr ⟨h1,List.any_eq_false.2 fun x b=>by rw[h2 x b];decide⟩
theorem WY(a:oD)(c n:Nat)(l:List (Nat×Nat))(d:l.length=n)(m:Nat×Nat)(w:World)(B:Nat)(b:n<=maxLen)(hm:QP m)(f:EK l)(g:Sl w B a (vm l)):
 Calls prog 277 #[.slice a n c,.complex .f64 (qb m.1) (qb m.2)] w fun e w'=>e=.returned (.bool (WU m l))/\w=w':=by
 have h:=PM a c n l d m w B b hm f g;clear hm
 rcases Gg m l with ⟨k,h1,h2⟩|⟨h1,h2⟩
 all_goals
  rw[h1] at h;rw[h2];have H:=aA h;clear h h1 h2 g f d b;generalize qb m.1=u at H ⊢;generalize qb m.2=v at H ⊢;go_enter func277,ntmps277;go_wp2_with fail;refine H.o.mono ?_;exact QH
theorem MA(a:oD)(c n:Nat)(l:List (Nat×Nat))(f:l.length=n)(m o:Nat×Nat)(w:World)(B:Nat)(b:n<=maxLen)(hm:QP m)(g:QP o)(i:EK l)(j:Sl w B a (vm l)):
 Calls prog 257 #[.slice a n c,.complex .f64 (qb m.1) (qb m.2),.complex .f64 (qb o.1) (qb o.2)] w fun e w'=>e=.returned (.complex .f64 (qb (pY l m o).1) (qb (pY l m o).2))/\w=w':=by
 have H:=aA (WY a c n l f o w B b g i j);unfold pY;clear j i b hm g
 rcases d:WU o l with _|_
 all_goals
  rw[d] at H;simp only[cond_true,cond_false];clear d f;generalize qb m.1=u at H ⊢;generalize qb m.2=v at H ⊢;generalize qb o.1=x at H ⊢;generalize qb o.2=y at H ⊢;go_enter func257,ntmps257;go_wp2_with fail;refine H.o.mono ?_;exact QH
theorem WZ(l:List (Nat×Nat)):(∃k,∃h:k<l.length,sO pO l=k/\zF l=l[k])\/(sO pO l= -1/\zF l=(0,0)):=by
 unfold zF
 rcases QX pO l with ⟨k,a,h1,h2,h3⟩|⟨h1,h2⟩
 .exact .inl ⟨k,a,h1,by rw[Ry h3 a h2];rfl⟩
 .refine .inr ⟨h1,?_⟩;rw[List.find?_eq_none.2 fun x b=>by rw[h2 x b];decide];rfl
theorem Mj(a:oD)(c n:Nat)(l:List (Nat×Nat))(i:l.length=n)(w:World)(B:Nat)(f:n<=maxLen)(j:EK l)(d:Sl w B a (vm l)):
 Calls prog 255 #[.slice a n c] w fun e w'=>e=.returned (.complex .f64 (qb (zF l).1) (qb (zF l).2))/\w=w':=by
 have h:=Gf a c n l i w B f j d;subst i;clear j;unfold maxLen at f
 rcases WZ l with ⟨k,m,h1,h2⟩|⟨h1,h2⟩
 .rw[h1] at h;rw[h2];obtain⟨b,off,rfl,_,g⟩:=d.mark m;have H:=aA h;have o:(0:Int)<=(k:Int):=qo;clear h h1 h2 d;generalize qb l[k].1=x at g ⊢;generalize qb l[k].2=y at g ⊢;go_enter func255,ntmps255;go_wp2_with fail;refine H.o.mono ?_;exact QH
 .rw[h1] at h;rw[h2];have H:=aA h;clear h h1 h2 d;go_enter func255,ntmps255;go_wp2_with fail;refine H.o.mono ?_;exact QH
end Cm
namespace Cm
theorem QBx{p:Prop}(h:p:=by
 rw[hb] at hA h1 h2;have H1:=aA (h1.o rfl);clear h1 h2 hb;go_wp2_with fail;refine hA.o.mono ?_;rintro e w' ⟨rfl,rfl⟩;go_wp2_with fail;refine hB.o.mono ?_;rintro e w' ⟨rfl,rfl⟩;go_wp2;go_round
 case rel=>exact⟨k+1,qo,by go_num,H1.o,by rw[HJ.o]⟩
 case measure=>simp[intOf];omega):p:=h
theorem Ml{p:Prop}(h:p:=by
 go_wp2_with fail;refine h1.o.mono ?_;rintro e w' ⟨rfl,rfl⟩;go_wp2;go_ret2
 exact⟨by rw[HR.o];rfl,rfl⟩):p:=h
theorem XA{p:Nat×Nat->Bool}{l:List (Nat×Nat)}{k:Nat}(h:(l.take k).all p=true)(a:k<l.length)(hp:p l[k]=true):(l.take (k+1)).all p=true:=by
 rw[List.take_succ_eq_append_getElem a,List.all_append,h];simp[hp]
theorem Cc{p:Nat×Nat->Bool}{l:List (Nat×Nat)}{k:Nat}(a:k<l.length)(hp:p l[k]=false):l.all p=false:=by
 rw[List.all_eq_false];exact⟨l[k],List.getElem_mem a,by rw[hp];decide⟩
theorem Sb(a:oD)(c n:Nat)(l:List (Nat×Nat))(z:l.length=n)(w:World)(B:Nat)(t:n<=maxLen)(r:EK l)(s:Sl w B a (vm l)):
 Calls prog 256 #[.slice a n c] w fun e w'=>e=.returned (.complex .f64 (qb (BH l).1) (qb (BH l).2))/\w=w':=by
 subst z;unfold maxLen at t;have j:=aA r;clear r;go_enter func256,ntmps256;go_wp2;go_loop [3,8] (fun v i=>∃k:Nat,k<=l.length/\i=.int .i64 k/\(l.take k).all LZ=true/\v=.complex .f64 (qb ((l.take k).foldl (mQ 4) (0,0)).1) (qb ((l.take k).foldl (mQ 4) (0,0)).2)) (fun _ i=>l.length - (intOf i).toNat)
 case atStart=>exact⟨0,Nat.zero_le _,rfl,qs,rfl⟩
 case round=>
  obtain⟨k,D,rfl,f,rfl⟩:=hrel;by_cases d:k<l.length
  .obtain⟨b,off,rfl,_,q⟩:=s.mark d;have hA:=aA (Sa l[k] (j.o.at d) w);have p:=OK (fun _ _=>Xp 4) (l.take k) (0,0) QP.zero (fun x A=>j.o x (List.mem_of_mem_take A));have hB:=aA (JX 4 qe qe _ l[k] p (j.o.at d) w);have m:=aA (QY (mQ 4) (0,0) l k d);have h1:=aA (fun h=>XA f d h);have h2:Hid (LZ l[k]=false->BH l=(2,2)):=fun h=>by unfold BH;rw[Cc d h];rfl
   clear s f p;generalize (l.take k).foldl (mQ 4) (0,0)=J at hB m ⊢;rw[show (mQ 4 J l[k])=((l.take (k+1)).foldl (mQ 4) (0,0)) from m.o.symm] at hB;clear m;generalize o:(l.take (k+1)).foldl (mQ 4) (0,0)=C at hB ⊢;have HJ:=aA o;clear o;generalize qb l[k].1=x at q hA hB;generalize qb l[k].2=y at q hA hB
   rcases hb:LZ l[k] with _|_
   .rw[hb] at hA h1 h2;have g:=aA (h2.o rfl);clear h1 h2 hb;go_wp2_with fail;refine hA.o.mono ?_;rintro e w' ⟨rfl,rfl⟩;go_wp2;go_ret;exact⟨by rw[g.o];rfl,rfl⟩
   .exact QBx
  .obtain rfl:k=l.length:=qo;rw[List.take_length] at f ⊢;have g:Hid (BH l=l.foldl (mQ 4) (0,0)):=by unfold BH;rw[f];rfl
   clear f;generalize l.foldl (mQ 4) (0,0)=J at g ⊢;go_wp2;go_ret;exact⟨by rw[g.o];rfl,rfl⟩
def jC(alg:Int)(l:List (Nat×Nat)):(Nat×Nat)×Int:=
 if l.all fE=true/\1<=alg/\alg<=6 then (aAr alg.toNat l,0) else ((0,0),1)
def mkE(r:(Nat×Nat)×Int):Value:= .tuple #[.complex .f64 (qb r.1.1) (qb r.1.2),.int .i64 r.2]
theorem Sc{alg:Int}{l:List (Nat×Nat)}(h:l.all fE=false):jC alg l=((0,0),1):=by
 unfold jC;rw[iN (by rw[h];simp)]
theorem Xr{alg:Int}{l:List (Nat×Nat)}(h:alg<1\/6<alg):jC alg l=((0,0),1):=by
 unfold jC;rw[iN qo]
theorem Sd{l:List (Nat×Nat)}(k:Nat)(h1:1<=k)(h6:k<=6)(h:l.all fE=true):jC (k:Int) l=(aAr k l,0):=by
 unfold jC;rw[iP ⟨h,qo,qo⟩];rfl
theorem Bn(alg:Int)(a:oD)(c n:Nat)(l:List (Nat×Nat))(E:l.length=n)(w:World)(B:Nat)(r:n<=maxLen)(z:EK l)(f:Sl w B a (vm l)):
 Calls prog 229 #[.int .i64 alg,.slice a n c] w fun e w'=>e=.returned (mkE (jC alg l))/\w=w':=by
 subst E;have d:=aA z;have p:=aA r;unfold maxLen at r;clear z;go_enter func229,ntmps229;go_wp2;go_loop [6,11] (fun v i=>∃k:Nat,k<=l.length/\i=.int .i64 k/\(l.take k).all fE=true/\v=.complex .f64 (qb (fZ (l.take k)).1) (qb (fZ (l.take k)).2)) (fun _ i=>l.length - (intOf i).toNat)
 case atStart=>exact⟨0,Nat.zero_le _,rfl,qs,rfl⟩
 case round=>
  obtain⟨k,D,rfl,o,rfl⟩:=hrel;by_cases m:k<l.length
  .obtain⟨b,off,rfl,_,s⟩:=f.mark m;have hA:Hid (Calls prog 251 #[.complex .f64 (qb l[k].1) (qb l[k].2)] w fun e w'=>e=.returned (.bool (fE l[k]))/\w=w'):=aA (Em l[k] (d.o.at m) w);have g:=WV (l:=l.take k) (fun x F=>d.o x (List.mem_of_mem_take F));have A:Hid (fZ (l.take (k+1))=xN (fZ (l.take k)) l[k]):=aA (QY xN (0,0) l k m);have hB:Hid (Calls prog 252 #[.complex .f64 (qb (fZ (l.take k)).1) (qb (fZ (l.take k)).2),.complex .f64 (qb l[k].1) (qb l[k].2)] w fun e w'=>e=.returned (.complex .f64 (qb (fZ (l.take (k+1))).1) (qb (fZ (l.take (k+1))).2))/\w=w'):=by
    rw[A.o];exact wS _ _ g (d.o.at m) w
   have h1:=aA (fun h=>XA o m h);have h2:Hid (fE l[k]=false->jC alg l=((0,0),1)):=fun h=>Sc (Cc m h)
   clear f o g A;generalize fZ (l.take k)=J at hB ⊢;generalize q:fZ (l.take (k+1))=I at hB ⊢;have HJ:=aA q;clear q;generalize qb l[k].1=x at s hA hB;generalize qb l[k].2=y at s hA hB
   rcases hb:fE l[k] with _|_
   .rw[hb] at hA h1 h2;have C:=aA (h2.o rfl);clear h1 h2 hb hB;go_wp2_with fail;refine hA.o.mono ?_;rintro e w' ⟨rfl,rfl⟩;go_wp2;go_ret2
    exact⟨by rw[C.o];rfl,rfl⟩
   .exact QBx
  .obtain rfl:k=l.length:=qo;rw[List.take_length] at o ⊢;have j:=aA o;have g:=aA (WV d.o);clear o D m;by_cases t:1<=alg/\alg<=6
   .obtain⟨K,rfl⟩:∃K:Nat,alg=(K:Int):=⟨alg.toNat,qo⟩;obtain⟨S,R⟩:=t;have HR:=aA (Sd (l:=l) K qo qo j.o);obtain rfl|rfl|rfl|rfl|rfl|rfl:K=1\/K=2\/K=3\/K=4\/K=5\/K=6:=qo
    .have h1:=aA (VJ (fZ l) g.o w);unfold mk at h1;clear f d j g;generalize qb (fZ l).1=G at h1 ⊢;generalize qb (fZ l).2=H at h1 ⊢;exact Ml
    .have h1:=aA (VI (fZ l) w);have h2:=aA (VJ (rD (fZ l)) g.o.swap w);have h3:=aA (VI (sJ (rD (fZ l))) w);unfold mk at h1 h2 h3;clear f d j g;generalize qb (fZ l).1=G at h1 ⊢;generalize qb (fZ l).2=H at h1 ⊢;generalize qb (rD (fZ l)).1=t1 at h1 h2;generalize qb (rD (fZ l)).2=t2 at h1 h2;generalize qb (sJ (rD (fZ l))).1=T at h2 h3;generalize qb (sJ (rD (fZ l))).2=U at h2 h3;go_wp2_with fail;refine h1.o.mono ?_;rintro e w' ⟨rfl,rfl⟩;go_wp2_with fail;refine h2.o.mono ?_;rintro e w' ⟨rfl,rfl⟩;go_wp2_with fail;refine h3.o.mono ?_;rintro e w' ⟨rfl,rfl⟩;go_wp2;go_ret2
     exact⟨by rw[HR.o];rfl,rfl⟩
    .have h1:=aA (Mj a c _ l rfl w B p.o d.o f);clear f d j g;exact Ml
    .have h1:=aA (Sb a c _ l rfl w B p.o d.o f);clear f d j g;exact Ml
    .have h1:Hid (Calls prog 257 #[.slice a l.length c,.complex .f64 0 4607182418800017408,.complex .f64 4607182418800017408 0] w fun e w'=>e=.returned (.complex .f64 (qb (pY l (0,4) (4,0)).1) (qb (pY l (0,4) (4,0)).2))/\w=w'):=MA a c _ l rfl (0,4) (4,0) w B p.o ⟨qe,qe⟩ ⟨qe,qe⟩ d.o f;clear f d j g;exact Ml
    .have h1:Hid (Calls prog 257 #[.slice a l.length c,.complex .f64 4607182418800017408 0,.complex .f64 0 4607182418800017408] w fun e w'=>e=.returned (.complex .f64 (qb (pY l (4,0) (0,4)).1) (qb (pY l (4,0) (0,4)).2))/\w=w'):=MA a c _ l rfl (4,0) (0,4) w B p.o ⟨qe,qe⟩ ⟨qe,qe⟩ d.o f;clear f d j g;exact Ml
   .have HR:=aA (Xr (l:=l) (alg:=alg) qo);have L:(alg==1)=false:=by simp;omega
    have M:(alg==2)=false:=by simp;omega
    have N:(alg==3)=false:=by simp;omega
    have O:(alg==4)=false:=by simp;omega
    have P:(alg==5)=false:=by simp;omega
    have Q:(alg==6)=false:=by simp;omega
    clear t f d j g;go_wp2;go_ret2
    exact⟨by rw[HR.o];rfl,rfl⟩
end Cm
theorem XB:dZ prog 58 180 3 32:=fR (z:= .agg #[.int .i64 0,.int .i64 0,.string ByteArray.empty]) underlying58 (by kernel_rfl) rfl qe
theorem sP(m n:Mk):((m.1,m.2)==n)=decide (m=n):=by rw[Bool.eq_iff_iff];simp
def wX(l:List Ob)(w:World)(e:Ending)(w':World):Prop:=∃v,e=.returned v/\aH kE w' (fun b=>w.heap.size<=b) v l/\Below w.heap.size w w'
theorem ZX{α:Type}(p:α->Bool)(l:List α)(k:Nat)(a:k<l.length):(l.take (k+1)).filter p=(l.take k).filter p++(if p l[k]=true then [l[k]] else []):=by
 rw[List.take_succ_eq_append_getElem a,List.filter_append]
 congr 1
 by_cases h:p l[k]=true
 .rw[iP h,List.filter_cons_of_pos h];rfl
 .rw[iN h,List.filter_cons_of_neg (by simpa using h)];rfl
theorem ZY{α:Type}(p:α->Bool)(l:List α)(k:Nat):((l.take k).filter p).length<=k:=by
 have h1:=List.length_filter_le p (l.take k);have h2:(l.take k).length<=k:=List.length_take_le _ _;omega
theorem yH{ok:nP}(v:Value)(l:List Ob)(m:Mk)(hm:Cm.QP m)(w:World)(h:aH kE w ok v l):Calls prog 231 #[v,.complex .f64 (Cm.qb m.1) (Cm.qb m.2)] w (wX (gV l m) w):=by
 obtain⟨a,c,rfl,aj⟩:=h.slice;have HS:=aA h;obtain⟨P,J⟩:∃P,decide (m=(4,0))=P:=⟨_,rfl⟩;obtain⟨D,H⟩:∃D,decide (m=(0,4))=D:=⟨_,rfl⟩;have E:((FloatKind.f64.format.order (Cm.qb m.1) 4607182418800017408==some .eq)&&(FloatKind.f64.format.order (Cm.qb m.2) 0==some .eq))=P:=(Cm.iX m.1 m.2 4 0 hm qe qe).trans ((sP m (4,0)).trans J);have G:((FloatKind.f64.format.order (Cm.qb m.1) 0==some .eq)&&(FloatKind.f64.format.order (Cm.qb m.2) 4607182418800017408==some .eq))=D:=(Cm.iX m.1 m.2 0 4 hm qe qe).trans ((sP m (0,4)).trans H);obtain⟨F,I⟩:∃F:Ob->Bool,F=(fun o=>(decide (o.on=1)&&P)||(decide (o.on=2)&&D)):=⟨_,rfl⟩;have HR:Hid (gV l m=l.filter F):=aA (by unfold gV;rw[I,J,H]);have HF:=aA (show ∀x,F x=((decide (x.on=1)&&P)||(decide (x.on=2)&&D)) from fun x=>by rw[I]);generalize Cm.qb m.1=ma at *;generalize Cm.qb m.2=mb at *;have Q:=aA aj;clear h J H I hm;unfold wX;rw[HR.o];have E1:=aA E;have E2:=aA G;clear E G
 rcases P with _|_<;>rcases D with _|_
 all_goals
  have E:=E1.o;have G:=E2.o;go_enter func231,ntmps231;go_wp2;go_loopw [5,10] (fun v i wr=>∃(k:Nat) (t:oD) (n y:Nat) (st:List Ob),k<=l.length/\i=.int .i64 k/\v=.slice t n y/\Hid (st=(l.take k).filter F)/\Hid (aM kE 3 180 wr w.heap.size (fun b=>w.heap.size<=b) (.slice t n y) st)/\Hid (Below w.heap.size w wr)) (fun _ i _=>l.length - (intOf i).toNat)
  case atStart=>exact⟨0,none,0,0,[],qo,rfl,rfl,aA qs,aA aM.nil,aA (Below.refl _ _)⟩
  case round=>
   obtain⟨k,t,n,y,st,hk,rfl,rfl,e,p,g⟩:=hrel;by_cases Y:k<l.length
   .have ai:(k:Int)<(l.length:Int):=qo;obtain⟨b,off,r,rfl,_,ao,⟨rfl,V⟩,U⟩:=aH.at aO (HS.o.on aO g.o) Y qe;obtain⟨x0,x1,x2⟩:=cR3 U;rw[Nat.add_zero] at x0;obtain⟨j,d,ae,ag,S,ak⟩:=hD6 (ZX F l k Y) (HF.o l[k]) V (ZY F l k) g.o.size hk;clear U V;generalize hx:l[k]=x at *;clear hx;have N:=qB g (aB wr (.cells #[.int .i64 x.on,.int .i64 x.aDN,.string x.arg] 180));obtain⟨aa,R,A⟩:=aZ (aC N.o (aB _ (.cells #[.int .i64 x.on,.int .i64 x.aDN,.string x.arg] 180))) (aK (wr.alloc (.cells #[.int .i64 x.on,.int .i64 x.aDN,.string x.arg] 180)) (.cells #[.int .i64 x.on,.int .i64 x.aDN,.string x.arg] 180) (wr.heap.size+1) qs) (p.o.on aO (aB wr (.cells #[.int .i64 x.on,.int .i64 x.aDN,.string x.arg] 180)));have z:=aA (A.o.on aO (aB _ (.cells #[.int .i64 x.on,.int .i64 x.aDN,.string x.arg] 180)));have af:Hid (st.length<=1000000):=aA (by rw[e.o];have:=ag.o;have:=Q.o;omega);obtain⟨q,K⟩:∃q,decide (x.on=1)=q:=⟨_,rfl⟩;obtain⟨s,L⟩:∃s,decide (x.on=2)=s:=⟨_,rfl⟩;rw[K,L] at d;have al:(x.on==1)=q:=K;have an:(x.on==2)=s:=L;clear K L
    rcases q with _|_<;>rcases s with _|_
    all_goals first
     |(have f:F x=false:=d.o
       have C:Hid (st=(l.take (k+1)).filter F):=aA (by rw[j.o,iN (by rw[f];decide),List.append_nil];exact e.o);clear j f d R z p;go_wp2;go_roundw
       case rel=>exact⟨k+1,t,n,y,st,qo,by go_num,rfl,C,A,N⟩
       case measure=>simp[intOf];omega)
     |(have f:F x=true:=d.o
       have C:=aA (by rw[j.o,iP f,<-e.o]:(l.take (k+1)).filter F=st++[x]);clear j f d p A;go_wp2_with (at_builtin;refine cC (base:=w.heap.size) XB aO rfl (.tmp 30) (.tmp 32) rfl _ st rfl z.o (wr.heap.size+1) 1 _ _ _ x rfl R.o ⟨rfl,ae.o⟩ af.o qo (by have:=S.o;simp only[World.size_alloc];omega) ?_;intro l' X Z c2 w9 T W ah;have ad:=aA T;have ab:=aA (z.o.below aa.o W (lR _) (by have:=S.o;simp only[World.size_alloc];omega));have B:=aA X.o;clear T W ah X)
       go_roundw
       case rel=>exact⟨k+1,Z,l'.length,c2,l',qo,by go_num,rfl,aA (by rw[B.o,C.o]),ad,ab⟩
       case measure=>simp[intOf];omega)
   .have ai:¬(k:Int)<(l.length:Int):=qo;obtain rfl:k=l.length:=qo;have O:Hid (st=l.filter F):=aA (by have:=e.o;rwa [List.take_of_length_le (lR _)] at this);have B:Hid (st.length<=1000000):=aA (by rw[O.o];have h1:=List.length_filter_le F l;have:=Q.o;omega);clear e;go_wp2;go_returns;rw[<-O.o];refine⟨_,rfl,?_,g.o⟩;exact p.o.sl B.o _ (fun b M _=>M) (fun b M _=>M) aO
end Go.Proofs.YthcgdgkpgdjahaaGreatDoor
