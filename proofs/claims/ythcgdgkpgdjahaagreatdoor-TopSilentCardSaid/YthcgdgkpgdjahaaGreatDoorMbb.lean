/- Lemmas. -/
import Derived.Test.YthcgdgkpgdjahaaGreatDoorMba
namespace Go.Proofs.YthcgdgkpgdjahaaGreatDoor
open Go.RowKit
set_option linter.unusedVariables false
set_option linter.unusedSimpArgs false
set_option maxHeartbeats 16000000
open _root_.Go.Proofs.Tryz
set_option maxRecDepth 20000
theorem QCD{p:Prop}(h:p:=by
 go_enter func265,ntmps265;go_wp2;go_ret;exact⟨rfl,rfl⟩):p:=h
theorem II(a:At)(d:CI a)(w:World):Calls prog 282 #[oQ a] w (aP (.bool (yN a)) w):=by
 unfold aP oQ yN;have c:=aA (fun w=>oZ a.name (by have:=d.2;unfold cQ at this;unfold maxLen;omega) w);generalize eT a.name=b at *;go_enter func282,ntmps282;go_wp2_with (go_at_call 56;refine(c.o _).mono ?_;rintro e w' ⟨rfl,rfl⟩)
 all_goals go_returns
 all_goals exact⟨bH (by rw[Bool.eq_iff_iff];simp[*]<;>(intros;omega)),by go_grown⟩
theorem WI(n:Nat)(w:World):Calls prog 265 #[.int .i64 n] w (fun e w'=>e=.returned (.int .i64 (oP n))/\w=w'):=by
 unfold oP;by_cases h0:n=0
 .rw[iP h0];have d:((n:Int)==0)=true:=bQ.2 qo;clear h0;exact QCD
 .rw[iN h0];have d:((n:Int)==0)=false:=bN.2 qo;by_cases h8:8<n
  .rw[iP h8];have d8:decide ((n:Int) > 8)=true:=dX qo;clear h0 h8;exact QCD
  .rw[iN h8];have d8:decide ((n:Int) > 8)=false:=dF qo;clear h0 h8;exact QCD
theorem WJ(m:Ma)(g:uF m)(w:World):Calls prog 281 #[kX m] w (aP (.bool (tC m)) w):=by
 unfold aP kX tC;have a:=aA (fun w=>II m.aEe g.1 w);have j:=aA (fun w=>nU m.val.1 m.val.2.1 m.val.2.2 (by have:=g.2.2.2.2;unfold cQ at this;unfold maxLen;omega) w);unfold aP oQ at a;unfold lN at j;generalize yN m.aEe=b at *;have e:aT m.val=aT (m.val.1,m.val.2.1,m.val.2.2):=rfl;rw[e];generalize aT (m.val.1,m.val.2.1,m.val.2.2)=c at *;clear e g;obtain⟨w0,o⟩:=xE (w.alloc (.cells (KS m) 279));have l:=aA (aK w (.cells (KS m) 279) _ rfl);clear o;go_enter func281,ntmps281;go_wp2_with fail;refine(a.o _).mono ?_;rintro e w1 ⟨rfl,f⟩;have i:=qK l f;have d:=aA (aC (aB w _) f);obtain⟨⟨q,r,s,t,v,x,y⟩,_⟩:=bI i.o;have p:=aD i.o;clear f a
 cases b
 .go_wp2;go_returns;exact⟨rfl,d.o⟩
 .go_wp2_with (go_at_call 59;refine(j.o _).mono ?_;rintro e w2 ⟨rfl,k⟩;have n:=qB d k;clear k)
  all_goals go_returns
  all_goals first
   |exact⟨bH (by rw[Bool.eq_iff_iff];simp[*]<;>(intros;omega)),n.o⟩
   |exact⟨bH (by rw[Bool.eq_iff_iff];simp[*]<;>(intros;omega)),d.o⟩
theorem Ut{p:Prop}(h:p:=by
 go_wp2;go_roundw
 case rel=>exact⟨k+1,qo,by go_num,HR2,HB2⟩
 case measure=>simp[intOf];omega):p:=h
theorem Uu{p:Prop}(h:p:=by
 have hk1:¬(k:Int)<(l.length:Int):=qo;obtain rfl:k=l.length:=qo;have HE:=aA (Li HR.o);clear HR;go_wp2;go_returns;exact⟨by rw[HE.o];rfl,HB.o⟩):p:=h
theorem LR{α:Type}(f:α->Int)(l:List α)(k:Nat)(a:k<l.length):gL f (l.drop k)=if f l[k]≠0 then f l[k] else gL f (l.drop (k+1)):=by
 rw[List.drop_eq_getElem_cons a];rfl
theorem xS{α:Type}{f:α->Int}{l:List α}{k:Nat}{R:Int}(a:k<l.length)(h:gL f (l.drop k)=R)(h1:f l[k]≠0):R=f l[k]:=by
 rw[<-h,LR f l k a,iP h1]
theorem BC{α:Type}{f:α->Int}{l:List α}{k:Nat}{R:Int}(b:k<l.length)(h:gL f (l.drop k)=R)(h1:f l[k]=0):gL f (l.drop (k+1))=R:=by
 rw[<-h,LR f l k b,iN (fun a=>a h1)]
theorem Li{α:Type}{f:α->Int}{l:List α}{R:Int}(h:gL f (l.drop l.length)=R):R=0:=by
 rw[<-h,List.drop_length];rfl
theorem Lj{ok:nP}(v:Value)(l:List Ma)(w:World)(h:aH sB w ok v l):Calls prog 266 #[v] w (aP (.int .i64 (rX l)) w):=by
 obtain⟨a,c,rfl,I⟩:=h.slice;have y:=aA h;clear h;unfold aP rX;have o:=aA (WI l.length w);by_cases h0:oP l.length≠0
 .rw[iP h0];have d:(oP l.length != 0)=true:=bne_iff_ne.2 h0;clear h0;generalize oP l.length=F at *;go_enter func266,ntmps266;go_wp2_with fail;refine o.o.mono ?_;rintro e w1 ⟨rfl,rfl⟩;exact GY
 rw[iN h0];have h0:oP l.length=0:=by simpa using h0
 rw[h0] at o;clear h0;obtain⟨res,q⟩:=xE (gL (fun m=>if tC m then 0 else 1) l);rw[<-q];have HR0:Hid (gL (fun m=>if tC m then 0 else 1) (l.drop 0)=res):=aA (by rw[List.drop_zero];exact q.symm);clear q;go_enter func266,ntmps266;go_wp2_with fail;refine o.o.mono ?_;rintro e w1 ⟨rfl,rfl⟩;clear o;go_wp2;go_loopw [14] (fun i wr=>∃k:Nat,k<=l.length/\i=.int .i64 k/\Hid (gL (fun m=>if tC m then 0 else 1) (l.drop k)=res)/\Hid (Below w.heap.size w wr)) (fun i _=>l.length - (intOf i).toNat)
 case atStart=>exact Bd
 case round=>
  clear HR0;obtain⟨k,H,rfl,HR,HB⟩:=hrel;by_cases p:k<l.length
  .have hk1:(k:Int)<(l.length:Int):=qo;obtain⟨b,off,r,rfl,_,G,⟨rfl,t⟩,s⟩:=aH.at eV (y.o.on eV HB.o) p qe;obtain⟨x,z,A,B,C,D,E⟩:=CW s;rw[Nat.add_zero] at x;have n:=aA (fun h1=>xS p HR.o h1);have j:=aA (fun h1=>BC p HR.o h1);have f:=aA (fun w=>WJ l[k] t w);unfold aP kX at f;clear s HR t;generalize l[k]=m at *
   cases hm:tC m
   .rw[hm] at f n;have HE:=aA (n.o qe);clear n j hm;go_wp2_with fail;refine(f.o _).mono ?_;rintro e w2 ⟨rfl,g⟩;have HB2:=aA (aC (aC HB.o (aB _ _)) g);clear g f;exact GZ
   .rw[hm] at f j;have HR2:=aA (j.o qe);clear n j hm;go_wp2_with fail;refine(f.o _).mono ?_;rintro e w2 ⟨rfl,g⟩;have HB2:=aA (aC (aC HB.o (aB _ _)) g);clear g f x z A B C D E;exact Ut
  .exact Uu
theorem Lk{ok:nP}(v:Value)(l:List (List Ma))(w:World)(h:aH (rows sB) w ok v l):Calls prog 247 #[v] w (aP (.int .i64 (rY l)) w):=by
 obtain⟨a,c,rfl,C⟩:=h.slice;have y:=aA h;clear h;unfold aP rY;have j:=aA (WI l.length w);by_cases h0:oP l.length≠0
 .rw[iP h0];have d:(oP l.length != 0)=true:=bne_iff_ne.2 h0;clear h0;generalize oP l.length=z at *;go_enter func247,ntmps247;go_wp2_with fail;refine j.o.mono ?_;rintro e w1 ⟨rfl,rfl⟩;exact GY
 rw[iN h0];have h0:oP l.length=0:=by simpa using h0
 rw[h0] at j;clear h0;obtain⟨res,q⟩:=xE (gL rX l);rw[<-q];have HR0:Hid (gL rX (l.drop 0)=res):=aA (by rw[List.drop_zero];exact q.symm);clear q;go_enter func247,ntmps247;go_wp2_with fail;refine j.o.mono ?_;rintro e w1 ⟨rfl,rfl⟩;clear j;go_wp2;go_loopw [15] (fun i wr=>∃k:Nat,k<=l.length/\i=.int .i64 k/\Hid (gL rX (l.drop k)=res)/\Hid (Below w.heap.size w wr)) (fun i _=>l.length - (intOf i).toNat)
 case atStart=>exact Bd
 case round=>
  clear HR0;obtain⟨k,B,rfl,HR,HB⟩:=hrel;by_cases p:k<l.length
  .have hk1:(k:Int)<(l.length:Int):=qo;obtain⟨b,off,r,rfl,_,A,⟨D,rfl,s⟩,x⟩:=aH.at dO (y.o.on dO HB.o) p qe;obtain⟨E,F,rfl,_⟩:=s.slice;have t:=x 0 _ rfl;rw[Nat.add_zero,Nat.mul_one] at t;have o:=aA (fun h1=>xS p HR.o h1);have n:=aA (fun h1=>BC p HR.o h1);have f:=aA (Lj _ l[k] wr s);unfold aP at f;clear x HR s;by_cases he:rX l[k]=0
   .have HR2:=aA (n.o he);rw[he] at f;clear o n he;generalize l[k]=m at *;go_wp2_with fail;refine f.o.mono ?_;rintro e w2 ⟨rfl,g⟩;have HB2:=qB HB g;clear g f t;exact Ut
   .have HE:=aA (o.o he);have d2:(rX l[k] != 0)=true:=bne_iff_ne.2 he;clear o n he;generalize l[k]=m at *;generalize rX m=em at *;go_wp2_with fail;refine f.o.mono ?_;rintro e w2 ⟨rfl,g⟩;have HB2:=qB HB g;clear g f t;exact GZ
  .exact Uu
theorem LS{ok:nP}(v:Value)(l:List (List (List Ma)))(w:World)(h:aH (rows (rows sB)) w ok v l):Calls prog 223 #[v] w (aP (.int .i64 (fC l)) w):=by
 obtain⟨a,c,rfl,A⟩:=h.slice;have x:=aA h;clear h;unfold aP fC;by_cases h0:8<l.length
 .rw[iP h0];have d:decide ((l.length:Int) > 8)=true:=dX qo;clear h0;go_enter func223,ntmps223;exact GY
 rw[iN h0];have d:decide ((l.length:Int) > 8)=false:=dF qo;clear h0;obtain⟨res,p⟩:=xE (gL rY l);rw[<-p];have HR0:Hid (gL rY (l.drop 0)=res):=aA (by rw[List.drop_zero];exact p.symm);clear p;go_enter func223,ntmps223;go_wp2;go_loopw [11] (fun i wr=>∃k:Nat,k<=l.length/\i=.int .i64 k/\Hid (gL rY (l.drop k)=res)/\Hid (Below w.heap.size w wr)) (fun i _=>l.length - (intOf i).toNat)
 case atStart=>exact Bd
 case round=>
  clear HR0;obtain⟨k,z,rfl,HR,HB⟩:=hrel;by_cases o:k<l.length
  .have hk1:(k:Int)<(l.length:Int):=qo;obtain⟨b,off,r,rfl,_,y,⟨B,rfl,q⟩,t⟩:=aH.at aS (x.o.on aS HB.o) o qe;obtain⟨C,D,rfl,_⟩:=q.slice;have s:=t 0 _ rfl;rw[Nat.add_zero,Nat.mul_one] at s;have n:=aA (fun h1=>xS o HR.o h1);have j:=aA (fun h1=>BC o HR.o h1);have f:=aA (Lk _ l[k] wr q);unfold aP at f;clear t HR q;by_cases he:rY l[k]=0
   .have HR2:=aA (j.o he);rw[he] at f;clear n j he;generalize l[k]=m at *;go_wp2_with fail;refine f.o.mono ?_;rintro e w2 ⟨rfl,g⟩;have HB2:=qB HB g;clear g f s;exact Ut
   .have HE:=aA (n.o he);have d2:(rY l[k] != 0)=true:=bne_iff_ne.2 he;clear n j he;generalize l[k]=m at *;generalize rY m=em at *;go_wp2_with fail;refine f.o.mono ?_;rintro e w2 ⟨rfl,g⟩;have HB2:=qB HB g;clear g f s;exact GZ
  .exact Uu
theorem Ll{p:Prop}(h:p:=by
 go_wp2;go_returns;exact⟨by rw[HE.o];rfl,aC HB.o (aB _ _)⟩):p:=h
theorem WK{ok:nP}(v:Value)(l:List Ob)(w:World)(h:aH kE w ok v l):Calls prog 224 #[v] w (aP (.int .i64 (lK l)) w):=by
 obtain⟨a,c,rfl,N⟩:=h.slice;have D:=aA h;clear h;unfold aP lK;by_cases h0:8<l.length
 .rw[iP h0];have d:decide ((l.length:Int) > 8)=true:=dX qo;clear h0;go_enter func224,ntmps224;exact GY
 rw[iN h0];have d:decide ((l.length:Int) > 8)=false:=dF qo;clear h0;obtain⟨f,t⟩:∃f:Ob->Int,f=(fun o:Ob=>if (1<=o.on/\o.on<=2)/\(1<=o.aDN/\o.aDN<=4)/\eT o.arg=true then (0:Int) else 1):=⟨_,rfl⟩;rw[<-t];have j:Hid (∀o:Ob,¬((1<=o.on/\o.on<=2)/\(1<=o.aDN/\o.aDN<=4)/\eT o.arg=true)->f o=1):=aA (fun o h=>by rw[t];exact iN h);have n:Hid (∀o:Ob,((1<=o.on/\o.on<=2)/\(1<=o.aDN/\o.aDN<=4)/\eT o.arg=true)->f o=0):=aA (fun o h=>by rw[t];exact iP h);clear t;obtain⟨res,z⟩:=xE (gL f l);rw[<-z];have HR0:Hid (gL f (l.drop 0)=res):=aA (by rw[List.drop_zero];exact z.symm);clear z;go_enter func224,ntmps224;go_wp2;go_loopw [10] (fun i wr=>∃k:Nat,k<=l.length/\i=.int .i64 k/\Hid (gL f (l.drop k)=res)/\Hid (Below w.heap.size w wr)) (fun i _=>l.length - (intOf i).toNat)
 case atStart=>exact Bd
 case round=>
  clear HR0;obtain⟨k,M,rfl,HR,HB⟩:=hrel;by_cases y:k<l.length
  .have hk1:(k:Int)<(l.length:Int):=qo;obtain⟨b,off,r,rfl,_,L,⟨rfl,B⟩,A⟩:=aH.at aO (D.o.on aO HB.o) y qe;obtain⟨C,J,K⟩:=cR3 A;rw[Nat.add_zero] at C;have m:=aA (fun h1=>xS y HR.o h1);have p:=aA (fun h1=>BC y HR.o h1);have s:=aA (fun w=>oZ l[k].arg (by have:=B.2.2;unfold cQ at this;unfold maxLen;omega) w);clear A HR B;generalize l[k]=o at *;by_cases h1:o.on<1
   .have HE:Hid (res=1):=aA (by
     have g:=j.o o (by rintro⟨x,a2,_⟩;omega);rw[m.o (by rw[g];decide),g])
    clear m p n j;have E:decide (o.on<1)=true:=dX qo;clear h1;exact Ll
   have E:decide (o.on<1)=false:=dF qo;by_cases h2:2<o.on
   .have HE:Hid (res=1):=aA (by
     have g:=j.o o (by rintro⟨x,a2,_⟩;omega);rw[m.o (by rw[g];decide),g])
    clear m p n j;have F:decide (o.on > 2)=true:=dX qo;clear h2;exact Ll
   have F:decide (o.on > 2)=false:=dF qo;by_cases h3:o.aDN<1
   .have HE:Hid (res=1):=aA (by
     have g:=j.o o (by rintro⟨x,a2,_⟩;omega);rw[m.o (by rw[g];decide),g])
    clear m p n j;have G:decide (o.aDN<1)=true:=dX qo;clear h3;exact Ll
   have G:decide (o.aDN<1)=false:=dF qo;by_cases h4:4<o.aDN
   .have HE:Hid (res=1):=aA (by
     have g:=j.o o (by rintro⟨x,a2,_⟩;omega);rw[m.o (by rw[g];decide),g])
    clear m p n j;have H:decide (o.aDN > 4)=true:=dX qo;clear h4;exact Ll
   have H:decide (o.aDN > 4)=false:=dF qo
   cases q:eT o.arg
   .have I:=q;rw[q] at s;have HE:Hid (res=1):=aA (by
     have g:=j.o o (by rintro⟨_,_,a3⟩;rw[q] at a3;cases a3);rw[m.o (by rw[g];decide),g])
    clear m p n j;clear q I h1 h2 h3 h4;go_wp2_with fail;refine(s.o _).mono ?_;rintro e w2 ⟨rfl,rfl⟩;clear s;exact Ll
   .rw[q] at s;have HR2:=aA (p.o (n.o o ⟨⟨qo,qo⟩,⟨qo,qo⟩,q⟩));have HB2:=qB HB (aB _ (.cells #[.int .i64 o.on,.int .i64 o.aDN,.string o.arg] 180));clear q h1 h2 h3 h4 m p n j;go_wp2_with fail;refine(s.o _).mono ?_;rintro e w2 ⟨rfl,rfl⟩;clear s C J K;exact Ut
  .exact Uu
theorem QDe{p:Prop}(h:p:=by
 go_wp2
 all_goals go_returns
 all_goals exact⟨bH (by rw[Bool.eq_iff_iff];simp[*]),HB.o⟩):p:=h
theorem IJ(b:bY):b=ByteArray.empty↔b.toList=[]:=by
 rw[Lib.toList_data];constructor
 .rintro rfl;rfl
 .intro h
  apply ByteArray.ext
  apply Array.ext'
  rw[h];rfl
theorem WL(v:V3):(decide (v=aY))=decide (v.1=0/\v.2.1=0/\v.2.2.toList=[]):=by
 obtain⟨a,b,c⟩:=v;rw[Bool.eq_iff_iff];simp[aY,<-IJ]
theorem WM(v:At):(decide (v=uX))=decide (v.cat=0/\v.name.toList=[]/\v.aEm=false):=by
 obtain⟨a,b,c⟩:=v;rw[Bool.eq_iff_iff];simp[uX,<-IJ]
theorem Fl(n:No)(i:oY n)(w:World):Calls prog 268 #[jS n] w (aP (.bool (rE n)) w):=by
 unfold aP jS rE;have f:=aA (fun w=>II n.aEe i.2.2 w);have g:=aA (fun w=>nU n.val.1 n.val.2.1 n.val.2.2 (by have:=i.2.1.2.2;unfold cQ at this;unfold maxLen;omega) w);unfold aP oQ at f;unfold lN at g;generalize yN n.aEe=b at *;have e:aT n.val=aT (n.val.1,n.val.2.1,n.val.2.2):=rfl;rw[e];generalize aT (n.val.1,n.val.2.1,n.val.2.2)=c at *;clear e i;have j:=aA (aK w (.cells (iS n) 292) _ rfl);have k:=aA (aB w (.cells (iS n) 292));by_cases h1:n.op=1
 .rw[iP h1];have d1:(n.op==1)=true:=bQ.2 h1;clear h1 f;rw[WM];go_enter func268,ntmps268;go_wp2_with fail;refine(g.o _).mono ?_;rintro e w1 ⟨rfl,a⟩;have d:=qK j a;have HB:=qB k a;obtain⟨⟨m,o,p,q,r,s,t⟩,_⟩:=bI d.o;have l:=aD d.o;clear a g
  cases c
  .go_wp2;go_returns;exact⟨rfl,HB.o⟩
  .exact QDe
 rw[iN h1];have d1:(n.op==1)=false:=bN.2 h1;clear h1 g;by_cases h2:n.op=2
 .rw[iP h2];have d2:(n.op==2)=true:=bQ.2 h2;clear h2;rw[WL];go_enter func268,ntmps268;go_wp2_with fail;refine(f.o _).mono ?_;rintro e w1 ⟨rfl,a⟩;have d:=qK j a;have HB:=qB k a;obtain⟨⟨m,o,p,q,r,s,t⟩,_⟩:=bI d.o;have l:=aD d.o;clear a f
  cases b
  .go_wp2;go_returns;exact⟨rfl,HB.o⟩
  .exact QDe
 rw[iN h2];have d2:(n.op==2)=false:=bN.2 h2;clear h2 f;rw[WL,WM];go_enter func268,ntmps268;go_wp2
 all_goals go_returns
 all_goals exact⟨bH (by rw[Bool.eq_iff_iff];simp[*]),aB _ _⟩
theorem QBG{p:Prop}(h:p:=by
 have B0:=aA (aK w (.cells #[.bool true] 4) _ rfl);have HB0:=aA (aB w (.cells #[.bool true] 4));go_enter func267,ntmps267;go_wp2;go_returns;exact⟨_,rfl,HB0.o,xT (l:=[true]) B0.o (lR _) rfl rfl qe⟩):p:=h
theorem Uv{p:Prop}(h:p:=by
 go_enter func267,ntmps267;go_wp2;go_returns;exact⟨_,rfl,Below.refl _ _,aH.nil⟩):p:=h
theorem IK(w:World)(ok:nP):∀l:List Bool,aW (DS w ok) (l.map Value.bool) l
 | []=>rfl
 |x::l=>⟨[.bool x],l.map Value.bool,rfl,⟨rfl,trivial⟩,IK w ok l⟩
theorem xT{w:World}{ok:nP}{b:Nat}{cs:Array Value}{e:TypeId}{fr:Nat×Nat}{l:List Bool}{c n:Nat}(d:w.heap[b]? =some (.cells cs e fr))(j:ok b)(f:cs.toList=l.map Value.bool)(g:l.length=n)(k:n<=1000000):aH DS w ok (.slice (some ⟨b,0,none⟩) n c) l:=by
 refine⟨_,c,l.map Value.bool,by rw[g],fun _=>⟨b,0,rfl,j,fun i x a=> ?_⟩,IK w ok l,qo⟩;rw[<-f] at a;simp only[World.cell?,d,Nat.zero_add];simpa using a
def ED(op:Int)(w:World)(e:Ending)(w':World):Prop:=
 ∃v,e=.returned (.tuple #[v,.bool (mX op).isSome])/\Below w.heap.size w w'/\aH DS w' (fun b=>w.heap.size<=b) v ((mX op).getD [])
theorem Lm(op:Int)(w:World):Calls prog 267 #[.int .i64 op] w (ED op w):=by
 unfold ED mX;by_cases h1:op=1
 .subst h1;rw[iP (.inl rfl)];exact Uv
 by_cases h2:op=2
 .subst h2;rw[iP (.inr rfl)];exact Uv
 rw[iN qo];have d1:(op==1)=false:=bN.2 h1;have d2:(op==2)=false:=bN.2 h2;clear h1 h2;by_cases h1:op=3
 .subst h1;rw[iP (.inl rfl)];exact QBG
 by_cases h2:op=4
 .subst h2;rw[iP (.inr rfl)];exact QBG
 rw[iN qo];have d3:(op==3)=false:=bN.2 h1;have d4:(op==4)=false:=bN.2 h2;clear h1 h2;by_cases h1:op=5
 .subst h1;rw[iP rfl];have B0:=aA (aK w (.cells #[.bool true,.bool false] 4) _ rfl);have HB0:=aA (aB w (.cells #[.bool true,.bool false] 4));go_enter func267,ntmps267;go_wp2;go_returns;exact⟨_,rfl,HB0.o,xT (l:=[true,false]) B0.o (lR _) rfl rfl qe⟩
 rw[iN h1];have d5:(op==5)=false:=bN.2 h1;clear h1;by_cases h1:op=11
 .subst h1;rw[iP rfl];have B0:=aA (aK w (.cells #[.bool false] 4) _ rfl);have HB0:=aA (aB w (.cells #[.bool false] 4));go_enter func267,ntmps267;go_wp2;go_returns;exact⟨_,rfl,HB0.o,xT (l:=[false]) B0.o (lR _) rfl rfl qe⟩
 rw[iN h1];have d11:(op==11)=false:=bN.2 h1;clear h1;by_cases h1:6<=op
 .have d6:decide (op ≥ 6)=true:=dX h1;by_cases h2:op<=13
  .rw[iP ⟨h1,h2⟩];have d7:decide (op<=13)=true:=dX h2;clear h1 h2;have B0:=aA (aK w (.cells #[.bool false,.bool false] 4) _ rfl);have HB0:=aA (aB w (.cells #[.bool false,.bool false] 4));go_enter func267,ntmps267;go_wp2;go_returns;exact⟨_,rfl,HB0.o,xT (l:=[false,false]) B0.o (lR _) rfl rfl qe⟩
  .rw[iN (fun h=>h2 h.2)];have d7:decide (op<=13)=false:=dF h2;clear h1 h2;exact Uv
 .rw[iN (fun h=>h1 h.1)];have d6:decide (op ≥ 6)=false:=dF h1;clear h1;exact Uv
theorem QCy{p:Prop}(h:p:=by
 go_wp2;go_returns;rw[HE.o];exact⟨_,rfl,HB.o.mono hbase,aM.nil⟩):p:=h
theorem Uw:dZ prog 346 4 1 1:=fR (z:= .bool false) underlying346 (by kernel_rfl) rfl qe
def JW(l:List Bool)(n:No)(base:Nat)(w:World)(e:Ending)(w':World):Prop:=
 ∃v,e=.returned (.tuple #[v,.bool (lI l n).isSome])/\Below base w w'/\aM DS 1 4 w' base (fun _=>True) v ((lI l n).getD [])
theorem Fm{l m:List Bool}{a k:Nat}(h1:a+k<l.length)(h2:k<m.length):(l.drop (a+k)=m.drop k)↔(l[a+k]=m[k]/\l.drop (a+(k+1))=m.drop (k+1)):=by
 rw[List.drop_eq_getElem_cons h1,List.drop_eq_getElem_cons h2,List.cons.injEq];rfl
theorem Fo{l:List Bool}{n:No}(h:mX n.op=none):lI l n=none:=by unfold lI;rw[h]
theorem EE{l m:List Bool}{n:No}(h:mX n.op=some m)(h2:¬(rE n=true/\m.length<=l.length/\l.drop (l.length - m.length)=m)):lI l n=none:=by unfold lI;rw[h];exact iN h2
theorem Fp{l m:List Bool}{n:No}{q:Nat}(a:l.length=q+m.length)(h:mX n.op=some m)(h1:rE n=true)(h2:l.drop q=m):lI l n=some (l.take q++[decide (n.op=2)]):=by
 have e:l.length - m.length=q:=qo;unfold lI;rw[h];simp only[e];exact iP ⟨h1,qo,h2⟩
theorem JX(v:Value)(l:List Bool)(n:No)(ag:oY n)(base:Nat)(w:World)(h:aM DS 1 4 w base (fun _=>True) v l)(au:l.length<=100)(hbase:base<=w.heap.size):Calls prog 248 #[v,jS n] w (JW l n base w):=by
 obtain⟨a,c,rfl⟩:=h.slice;have G:=aA h;have N:=aA (fun w=>Lm n.op w);have K:=aA (fun w=>Fl n ag w);unfold ED at N;unfold aP jS at K;unfold JW jS;have B0:=aA (aK w (.cells (iS n) 292) _ rfl);have ad:=aA (aB w (.cells (iS n) 292));clear h;go_enter func248,ntmps248;go_wp2_with fail;refine(N.o _).mono ?_;rintro e w1 ⟨wv,rfl,o,ab⟩;obtain⟨C,HB,y⟩:=aZ (aE B0.o o) (aC ad.o o) ab;obtain⟨⟨x0,x1,x2,x3,x4,x5,x6⟩,_⟩:=bI C.o;have hz:=aD C.o;clear o ab N
 cases hw:mX n.op with
 |none=>
  have HE:=aA (Fo (l:=l) hw);simp only[Option.isSome_none];clear hw;exact QCy
 |some m=>
  simp only[Option.isSome_some];rw[hw] at y;simp only[Option.getD_some] at y;go_wp2_with fail;refine(K.o _).mono ?_;rintro e w2 ⟨rfl,o⟩;obtain⟨HB,D,y⟩:=aZ (aC HB.o o) (aE C.o o) (y.o.on jX o);clear x0 x1 x2 x3 x4 x5 x6 hz C o K;obtain⟨⟨x0,x1,x2,x3,x4,x5,x6⟩,_⟩:=bI D.o;have hz:=aD D.o;obtain⟨wa,wc,rfl,av⟩:=y.o.slice
  cases B:rE n with
  |false=>
   have HE:=aA (EE (l:=l) hw (fun h=>by rw[B] at h;exact absurd h.1 qe));clear hw B;exact QCy
  |true=>
   by_cases hlen:l.length<m.length
   .have HE:=aA (EE (l:=l) hw (fun h=>by omega));have d:decide ((l.length:Int)<(m.length:Int))=true:=dX qo;clear hw B;exact QCy
   obtain⟨q,Q⟩:∃q,l.length=q+m.length:=⟨l.length - m.length,qo⟩;have d:decide ((l.length:Int)<(m.length:Int))=false:=dF qo;have d2:IntKind.i64.wrap ((l.length:Int) - (m.length:Int))=(q:Int):=by rw[IntWalk.i64_in _ qo];omega
   have E:=aA (fun (hd:¬(l.drop q=m))=>EE (l:=l) (n:=n) hw (fun h=>by rw[show l.length - m.length=q by omega] at h;exact hd h.2.2));have H:=aA (Fp Q hw B);have f:=aA Q;clear hw B Q;obtain⟨res,R⟩:∃res:Prop,res=(l.drop q=m):=⟨_,rfl⟩;rw[<-R] at E H;have af:Hid (aH DS w2 (fun _=>True) (.slice a l.length c) l):=aA ((G.o.on jX HB.o).sl qo _ (fun _ _ _=>trivial) (fun _ _ _=>trivial) jX);have V:Hid ((l.drop (q+0)=m.drop 0)=res):=aA (by rw[Nat.add_zero,List.drop_zero];exact R.symm);clear R;have d3:wrap64 ((l.length:Int) - (m.length:Int))=(q:Int):=by have:=f.o;rw[IntWalk.wrap64_in _ qo];omega
   go_wp2;go_loopw [38] (fun i wr=>∃k:Nat,k<=m.length/\i=.int .i64 k/\Hid ((l.drop (q+k)=m.drop k)=res)/\wr=w2) (fun i _=>m.length - (intOf i).toNat)
   case atStart=>exact⟨0,Nat.zero_le _,rfl,V,rfl⟩
   case round=>
    clear V;obtain⟨k,hk,rfl,x,rfl⟩:=hrel;by_cases Z:k<m.length
    .have ai:(k:Int)<(m.length:Int):=qo;obtain⟨j,hj⟩:=xE (q+k);have ah:j<l.length:=qA f.o;have aq:(j:Int)<(l.length:Int):=qo;have ao:(0:Int)<=(j:Int):=qo;have e1:IntKind.i64.wrap ((q:Int)+(k:Int))=(j:Int):=by rw[IntWalk.i64_in _ qo];omega
     obtain⟨b,off,r,rfl,_,ak,⟨rfl,_⟩,X⟩:=aH.at jX y.o Z qe;have y0:=X 0 _ rfl;rw[Nat.add_zero,Nat.mul_one] at y0;obtain⟨b',aw,r,rfl,_,al,⟨rfl,_⟩,Y⟩:=aH.at jX af.o ah qe;have z0:=Y 0 _ rfl;rw[Nat.add_zero,Nat.mul_one] at z0;have s:=aA (Fm (l:=l) (m:=m) (a:=q) (k:=k) (qA f.o) Z);have U:=aA (fun (hx:q+k<l.length)=>(by subst hj;rfl:l[q+k]=l[j]));clear X Y;rw[U.o _] at s;clear U;generalize l[j]=u at *;generalize m[k]=t at *;by_cases S:u=t
     .subst S;have ae:Hid ((l.drop (q+(k+1))=m.drop (k+1))=res):=aA (by rw[<-x.o];exact propext ⟨fun h=>s.o.2 ⟨rfl,h⟩,fun h=>(s.o.1 h).2⟩);clear s x hj
      cases u
      all_goals
       go_wp2;go_roundw
       case rel=>exact⟨k+1,qo,by go_num,ae,by trivial⟩
       case measure=>simp[intOf];omega
     .have HE:=aA (E.o (by rw[<-x.o];exact fun h=>S (s.o.1 h).1));clear s x hj E H
      cases u<;>cases t
      all_goals first
       |exact absurd rfl S
       |(go_wp2
         go_returns;rw[HE.o];exact⟨_,rfl,HB.o.mono hbase,aM.nil⟩)
    .have ai:¬(k:Int)<(m.length:Int):=qo;have hr:res:=by rw[<-x.o,List.drop_eq_nil_of_le (qA f.o),List.drop_eq_nil_of_le qo]
     have HE:=aA (H.o hr);clear x hr E H;obtain⟨aj,ar,an⟩:=G.o.place;have HC:=aA ((G.o.on jX HB.o).cut jX q (qA f.o));have g:=aA ((aB wr (.cells #[.bool (n.op==2)] 4)).drew);have W:Hid ((wr.alloc (.cells #[.bool (n.op==2)] 4)).drew.heap[wr.heap.size]? =some (.cells #[.bool (n.op==2)] 4 (0,0))):=aA (aK wr (.cells #[.bool (n.op==2)] 4) _ rfl);have F:=aA (HC.o.on jX g.o);have I:base<=wr.heap.size:=lT hbase HB.o.size;have aa:(l.take q).length=q:=by have:=f.o;rw[List.length_take];omega
     have q0:(0:Int)<=(q:Int):=qo;have q1:(q:Int)<=(c:Int):=qA f.o;have q2:(q:Int)<=(l.length:Int):=qA f.o;have T:=aA ((aC HB.o g.o).mono hbase)
     rcases aj with ⟨rfl,rfl⟩|⟨ga,rfl⟩
     .obtain rfl:l=[]:=List.eq_nil_of_length_eq_zero qo;obtain rfl:q=0:=by have:=f.o;simp only[List.length_nil] at this;omega
      have z:=qK D g.o;have M:Hid (some w.heap.size≠(Value.slice none 0 0).ownBlock):=aA (fun h=>(by cases (show some w.heap.size=none from h)));go_wp2;go_region_held3 (fun w'=>w'.cell? ⟨w.heap.size,0,none⟩=some (.int .i64 n.op)) (first|go_keep|assumption) ((refine jA Uw jX (by rfl) (.tmp 54) (.tmp 58) (by rfl) _ (([]:List Bool).take 0) (by rfl) F.o wr.heap.size 1 _ _ _ (n.op==2) (by rfl) W.o ⟨rfl,trivial⟩ (by rw[aa];omega) qe (lT I g.o.size) ?_;intro l' P A' c' w9 A p O;have L:=aA A;have J:=aA (F.o.below T.o p (lR _) (lT I g.o.size));have x9:=(bI ((p.block w.heap.size (aD z.o) M.o).trans z.o)).1.1;clear A p O))
      go_wp2;go_returns;rw[HE.o,<-NY,<-P.o];exact⟨_,rfl,J.o,L.o⟩
     .have z:=qK D g.o;have M:Hid (some w.heap.size≠(Value.slice (some ⟨ga,0,none⟩) q c).ownBlock):=aA (fun h=>qA ((G.o.lt w.heap.size h.symm).2));go_wp2;go_region_held3 (fun w'=>w'.cell? ⟨w.heap.size,0,none⟩=some (.int .i64 n.op)) (first|go_keep|assumption) ((refine jA Uw jX (by rfl) (.tmp 54) (.tmp 58) (by rfl) _ (l.take q) (by rfl) F.o wr.heap.size 1 _ _ _ (n.op==2) (by rfl) W.o ⟨rfl,trivial⟩ (by rw[aa];omega) qe (lT I g.o.size) ?_;intro l' P A' c' w9 A p O;have L:=aA A;have J:=aA (F.o.below T.o p (lR _) (lT I g.o.size));have x9:=(bI ((p.block w.heap.size (aD z.o) M.o).trans z.o)).1.1;clear A p O))
      go_wp2;go_returns;rw[HE.o,<-NY,<-P.o];exact⟨_,rfl,J.o,L.o⟩
end Go.Proofs.YthcgdgkpgdjahaaGreatDoor
