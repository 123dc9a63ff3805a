/- Lemmas. -/
import Derived.Test.YtlfngkelmbdehaaGreatDoorMbb
import Derived.Maps.OwnOps
import Derived.Maps.OwnSet
namespace Go.Proofs.YtlfngkelmbdehaaGreatDoor
open Go.RowKit
set_option linter.unusedVariables false
set_option linter.unusedSimpArgs false
set_option maxHeartbeats 16000000
open _root_.Go.Proofs.Tryz
set_option maxRecDepth 20000
theorem QDd{p:Prop}(h:p:=by
 go_wp2
 all_goals go_returns
 all_goals exact⟨bH (by rw[Bool.eq_iff_iff];simp[*]),HB.o⟩):p:=h
theorem GD(b:bY):b=ByteArray.empty↔b.toList=[]:=by
 rw[Lib.toList_data];constructor
 .rintro rfl;rfl
 .intro h
  apply ByteArray.ext
  apply Array.ext'
  rw[h];rfl
theorem US(v:V3):(decide (v=bD))=decide (v.1=0/\v.2.1=0/\v.2.2.toList=[]):=by
 obtain⟨a,b,c⟩:=v;rw[Bool.eq_iff_iff];simp[bD,<-GD]
theorem UT(v:At):(decide (v=uH))=decide (v.cat=0/\v.name.toList=[]/\v.aDc=false):=by
 obtain⟨a,b,c⟩:=v;rw[Bool.eq_iff_iff];simp[uH,<-GD]
theorem Di(n:No)(i:oM n)(w:World):Calls prog 268 #[jJ n] w (aP (.bool (qN n)) w):=by
 unfold aP jJ qN;have f:=aA (fun w=>GB n.aC3 i.2.2 w);have g:=aA (fun w=>nG n.val.1 n.val.2.1 n.val.2.2 (by have:=i.2.1.2.2;unfold cP at this;unfold maxLen;omega) w);unfold aP oF at f;unfold lB at g;generalize xZ n.aC3=b at *;have e:aT n.val=aT (n.val.1,n.val.2.1,n.val.2.2):=rfl;rw[e];generalize aT (n.val.1,n.val.2.1,n.val.2.2)=c at *;clear e i;have j:=aA (aK w (.cells (iO n) 301) _ rfl);have k:=aA (aB w (.cells (iO n) 301));by_cases h1:n.op=1
 .rw[iP h1];have d1:(n.op==1)=true:=bQ.2 h1;clear h1 f;rw[UT];go_enter func268,ntmps268;go_wp2_with fail;refine(g.o _).mono ?_;rintro e w1 ⟨rfl,a⟩;have d:=qK j a;have HB:=qB k a;obtain⟨⟨m,o,p,q,r,s,t⟩,_⟩:=bI d.o;have l:=aD d.o;clear a g
  cases c
  .go_wp2;go_returns;exact⟨rfl,HB.o⟩
  .exact QDd
 rw[iN h1];have d1:(n.op==1)=false:=bN.2 h1;clear h1 g;by_cases h2:n.op=2
 .rw[iP h2];have d2:(n.op==2)=true:=bQ.2 h2;clear h2;rw[US];go_enter func268,ntmps268;go_wp2_with fail;refine(f.o _).mono ?_;rintro e w1 ⟨rfl,a⟩;have d:=qK j a;have HB:=qB k a;obtain⟨⟨m,o,p,q,r,s,t⟩,_⟩:=bI d.o;have l:=aD d.o;clear a f
  cases b
  .go_wp2;go_returns;exact⟨rfl,HB.o⟩
  .exact QDd
 rw[iN h2];have d2:(n.op==2)=false:=bN.2 h2;clear h2 f;rw[US,UT];go_enter func268,ntmps268;go_wp2
 all_goals go_returns
 all_goals exact⟨bH (by rw[Bool.eq_iff_iff];simp[*]),aB _ _⟩
theorem QBF{p:Prop}(h:p:=by
 have B0:=aA (aK w (.cells #[.bool true] 4) _ rfl);have HB0:=aA (aB w (.cells #[.bool true] 4));go_enter func267,ntmps267;go_wp2;go_returns;exact⟨_,rfl,HB0.o,xG (l:=[true]) B0.o (lR _) rfl rfl qe⟩):p:=h
theorem Sh{p:Prop}(h:p:=by
 go_enter func267,ntmps267;go_wp2;go_returns;exact⟨_,rfl,Below.refl _ _,aH.nil⟩):p:=h
theorem GF(w:World)(ok:nP):∀l:List Bool,aX (CY w ok) (l.map Value.bool) l
 | []=>rfl
 |x::l=>⟨[.bool x],l.map Value.bool,rfl,⟨rfl,trivial⟩,GF w ok l⟩
theorem xG{w:World}{ok:nP}{b:Nat}{cs:Array Value}{e:TypeId}{fr:Nat×Nat}{l:List Bool}{c n:Nat}(d:w.heap[b]? =some (.cells cs e fr))(j:ok b)(f:cs.toList=l.map Value.bool)(g:l.length=n)(k:n<=1000000):aH CY w ok (.slice (some ⟨b,0,none⟩) n c) l:=by
 refine⟨_,c,l.map Value.bool,by rw[g],fun _=>⟨b,0,rfl,j,fun i x a=> ?_⟩,GF w ok l,qo⟩;rw[<-f] at a;simp only[World.cell?,d,Nat.zero_add];simpa using a
def DJ(op:Int)(w:World)(e:Ending)(w':World):Prop:=
 ∃v,e=.returned (.tuple #[v,.bool (mL op).isSome])/\Below w.heap.size w w'/\aH CY w' (fun b=>w.heap.size<=b) v ((mL op).getD [])
theorem Iz(op:Int)(w:World):Calls prog 267 #[.int .i64 op] w (DJ op w):=by
 unfold DJ mL;by_cases h1:op=1
 .subst h1;rw[iP (.inl rfl)];exact Sh
 by_cases h2:op=2
 .subst h2;rw[iP (.inr rfl)];exact Sh
 rw[iN qo];have d1:(op==1)=false:=bN.2 h1;have d2:(op==2)=false:=bN.2 h2;clear h1 h2;by_cases h1:op=3
 .subst h1;rw[iP (.inl rfl)];exact QBF
 by_cases h2:op=4
 .subst h2;rw[iP (.inr rfl)];exact QBF
 rw[iN qo];have d3:(op==3)=false:=bN.2 h1;have d4:(op==4)=false:=bN.2 h2;clear h1 h2;by_cases h1:op=5
 .subst h1;rw[iP rfl];have B0:=aA (aK w (.cells #[.bool true,.bool false] 4) _ rfl);have HB0:=aA (aB w (.cells #[.bool true,.bool false] 4));go_enter func267,ntmps267;go_wp2;go_returns;exact⟨_,rfl,HB0.o,xG (l:=[true,false]) B0.o (lR _) rfl rfl qe⟩
 rw[iN h1];have d5:(op==5)=false:=bN.2 h1;clear h1;by_cases h1:op=11
 .subst h1;rw[iP rfl];have B0:=aA (aK w (.cells #[.bool false] 4) _ rfl);have HB0:=aA (aB w (.cells #[.bool false] 4));go_enter func267,ntmps267;go_wp2;go_returns;exact⟨_,rfl,HB0.o,xG (l:=[false]) B0.o (lR _) rfl rfl qe⟩
 rw[iN h1];have d11:(op==11)=false:=bN.2 h1;clear h1;by_cases h1:6<=op
 .have d6:decide (op ≥ 6)=true:=dX h1;by_cases h2:op<=13
  .rw[iP ⟨h1,h2⟩];have d7:decide (op<=13)=true:=dX h2;clear h1 h2;have B0:=aA (aK w (.cells #[.bool false,.bool false] 4) _ rfl);have HB0:=aA (aB w (.cells #[.bool false,.bool false] 4));go_enter func267,ntmps267;go_wp2;go_returns;exact⟨_,rfl,HB0.o,xG (l:=[false,false]) B0.o (lR _) rfl rfl qe⟩
  .rw[iN (fun h=>h2 h.2)];have d7:decide (op<=13)=false:=dF h2;clear h1 h2;exact Sh
 .rw[iN (fun h=>h1 h.1)];have d6:decide (op ≥ 6)=false:=dF h1;clear h1;exact Sh
theorem Xy{p:Prop}(h:p:=by
 go_wp2;go_returns;rw[HE.o];exact⟨_,rfl,HB.o.mono hbase,aM.nil⟩):p:=h
theorem Si:dV prog 345 4 1 1:=fO (z:= .bool false) underlying345 (by kernel_rfl) rfl qe
def IU(l:List Bool)(n:No)(base:Nat)(w:World)(e:Ending)(w':World):Prop:=
 ∃v,e=.returned (.tuple #[v,.bool (kY l n).isSome])/\Below base w w'/\aM CY 1 4 w' base (fun _=>True) v ((kY l n).getD [])
theorem Dj{l m:List Bool}{a k:Nat}(h1:a+k<l.length)(h2:k<m.length):(l.drop (a+k)=m.drop k)↔(l[a+k]=m[k]/\l.drop (a+(k+1))=m.drop (k+1)):=by
 rw[List.drop_eq_getElem_cons h1,List.drop_eq_getElem_cons h2,List.cons.injEq];rfl
theorem Dk{l:List Bool}{n:No}(h:mL n.op=none):kY l n=none:=by unfold kY;rw[h]
theorem DK{l m:List Bool}{n:No}(h:mL n.op=some m)(h2:¬(qN n=true/\m.length<=l.length/\l.drop (l.length - m.length)=m)):kY l n=none:=by unfold kY;rw[h];exact iN h2
theorem Dl{l m:List Bool}{n:No}{q:Nat}(a:l.length=q+m.length)(h:mL n.op=some m)(h1:qN n=true)(h2:l.drop q=m):kY l n=some (l.take q++[decide (n.op=2)]):=by
 have e:l.length - m.length=q:=qo;unfold kY;rw[h];simp only[e];exact iP ⟨h1,qo,h2⟩
theorem IV(v:Value)(l:List Bool)(n:No)(ag:oM n)(base:Nat)(w:World)(h:aM CY 1 4 w base (fun _=>True) v l)(au:l.length<=100)(hbase:base<=w.heap.size):Calls prog 248 #[v,jJ n] w (IU l n base w):=by
 obtain⟨a,c,rfl⟩:=h.slice;have G:=aA h;have N:=aA (fun w=>Iz n.op w);have K:=aA (fun w=>Di n ag w);unfold DJ at N;unfold aP jJ at K;unfold IU jJ;have B0:=aA (aK w (.cells (iO n) 301) _ rfl);have ad:=aA (aB w (.cells (iO n) 301));clear h;go_enter func248,ntmps248;go_wp2_with fail;refine(N.o _).mono ?_;rintro e w1 ⟨wv,rfl,o,ab⟩;obtain⟨C,HB,y⟩:=aY (aE B0.o o) (aC ad.o o) ab;obtain⟨⟨x0,x1,x2,x3,x4,x5,x6⟩,_⟩:=bI C.o;have hz:=aD C.o;clear o ab N
 cases hw:mL n.op with
 |none=>
  have HE:=aA (Dk (l:=l) hw);simp only[Option.isSome_none];clear hw;exact Xy
 |some m=>
  simp only[Option.isSome_some];rw[hw] at y;simp only[Option.getD_some] at y;go_wp2_with fail;refine(K.o _).mono ?_;rintro e w2 ⟨rfl,o⟩;obtain⟨HB,D,y⟩:=aY (aC HB.o o) (aE C.o o) (y.o.on jN o);clear x0 x1 x2 x3 x4 x5 x6 hz C o K;obtain⟨⟨x0,x1,x2,x3,x4,x5,x6⟩,_⟩:=bI D.o;have hz:=aD D.o;obtain⟨wa,wc,rfl,av⟩:=y.o.slice
  cases B:qN n with
  |false=>
   have HE:=aA (DK (l:=l) hw (fun h=>by rw[B] at h;exact absurd h.1 qe));clear hw B;exact Xy
  |true=>
   by_cases hlen:l.length<m.length
   .have HE:=aA (DK (l:=l) hw (fun h=>by omega));have d:decide ((l.length:Int)<(m.length:Int))=true:=dX qo;clear hw B;exact Xy
   obtain⟨q,Q⟩:∃q,l.length=q+m.length:=⟨l.length - m.length,qo⟩;have d:decide ((l.length:Int)<(m.length:Int))=false:=dF qo;have d2:IntKind.i64.wrap ((l.length:Int) - (m.length:Int))=(q:Int):=by rw[IntWalk.i64_in _ qo];omega
   have E:=aA (fun (hd:¬(l.drop q=m))=>DK (l:=l) (n:=n) hw (fun h=>by rw[show l.length - m.length=q by omega] at h;exact hd h.2.2));have H:=aA (Dl Q hw B);have f:=aA Q;clear hw B Q;obtain⟨res,R⟩:∃res:Prop,res=(l.drop q=m):=⟨_,rfl⟩;rw[<-R] at E H;have af:Hid (aH CY w2 (fun _=>True) (.slice a l.length c) l):=aA ((G.o.on jN HB.o).sl qo _ (fun _ _ _=>trivial) (fun _ _ _=>trivial) jN);have V:Hid ((l.drop (q+0)=m.drop 0)=res):=aA (by rw[Nat.add_zero,List.drop_zero];exact R.symm);clear R;have d3:wrap64 ((l.length:Int) - (m.length:Int))=(q:Int):=by have:=f.o;rw[IntWalk.wrap64_in _ qo];omega
   go_wp2;go_loopw [38] (fun i wr=>∃k:Nat,k<=m.length/\i=.int .i64 k/\Hid ((l.drop (q+k)=m.drop k)=res)/\wr=w2) (fun i _=>m.length - (intOf i).toNat)
   case atStart=>exact⟨0,Nat.zero_le _,rfl,V,rfl⟩
   case round=>
    clear V;obtain⟨k,hk,rfl,x,rfl⟩:=hrel;by_cases Z:k<m.length
    .have ai:(k:Int)<(m.length:Int):=qo;obtain⟨j,hj⟩:=xE (q+k);have ah:j<l.length:=qA f.o;have aq:(j:Int)<(l.length:Int):=qo;have ao:(0:Int)<=(j:Int):=qo;have e1:IntKind.i64.wrap ((q:Int)+(k:Int))=(j:Int):=by rw[IntWalk.i64_in _ qo];omega
     obtain⟨b,off,r,rfl,_,ak,⟨rfl,_⟩,X⟩:=aH.at jN y.o Z qe;have y0:=X 0 _ rfl;rw[Nat.add_zero,Nat.mul_one] at y0;obtain⟨b',aw,r,rfl,_,al,⟨rfl,_⟩,Y⟩:=aH.at jN af.o ah qe;have z0:=Y 0 _ rfl;rw[Nat.add_zero,Nat.mul_one] at z0;have s:=aA (Dj (l:=l) (m:=m) (a:=q) (k:=k) (qA f.o) Z);have U:=aA (fun (hx:q+k<l.length)=>(by subst hj;rfl:l[q+k]=l[j]));clear X Y;rw[U.o _] at s;clear U;generalize l[j]=u at *;generalize m[k]=t at *;by_cases S:u=t
     .subst S;have ae:Hid ((l.drop (q+(k+1))=m.drop (k+1))=res):=aA (by rw[<-x.o];exact propext ⟨fun h=>s.o.2 ⟨rfl,h⟩,fun h=>(s.o.1 h).2⟩);clear s x hj
      cases u
      all_goals
       go_wp2;go_roundw
       case rel=>exact⟨k+1,qo,by go_num,ae,by trivial⟩
       case measure=>simp[intOf];omega
     .have HE:=aA (E.o (by rw[<-x.o];exact fun h=>S (s.o.1 h).1));clear s x hj E H
      cases u<;>cases t
      all_goals first
       |exact absurd rfl S
       |(go_wp2
         go_returns;rw[HE.o];exact⟨_,rfl,HB.o.mono hbase,aM.nil⟩)
    .have ai:¬(k:Int)<(m.length:Int):=qo;have hr:res:=by rw[<-x.o,List.drop_eq_nil_of_le (qA f.o),List.drop_eq_nil_of_le qo]
     have HE:=aA (H.o hr);clear x hr E H;obtain⟨aj,ar,an⟩:=G.o.place;have HC:=aA ((G.o.on jN HB.o).cut jN q (qA f.o));have g:=aA ((aB wr (.cells #[.bool (n.op==2)] 4)).drew);have W:Hid ((wr.alloc (.cells #[.bool (n.op==2)] 4)).drew.heap[wr.heap.size]? =some (.cells #[.bool (n.op==2)] 4 (0,0))):=aA (aK wr (.cells #[.bool (n.op==2)] 4) _ rfl);have F:=aA (HC.o.on jN g.o);have I:base<=wr.heap.size:=lT hbase HB.o.size;have aa:(l.take q).length=q:=by have:=f.o;rw[List.length_take];omega
     have q0:(0:Int)<=(q:Int):=qo;have q1:(q:Int)<=(c:Int):=qA f.o;have q2:(q:Int)<=(l.length:Int):=qA f.o;have T:=aA ((aC HB.o g.o).mono hbase)
     rcases aj with ⟨rfl,rfl⟩|⟨ga,rfl⟩
     .obtain rfl:l=[]:=List.eq_nil_of_length_eq_zero qo;obtain rfl:q=0:=by have:=f.o;simp only[List.length_nil] at this;omega
      have z:=qK D g.o;have M:Hid (some w.heap.size≠(Value.slice none 0 0).ownBlock):=aA (fun h=>(by cases (show some w.heap.size=none from h)));go_wp2;go_region_held3 (fun w'=>w'.cell? ⟨w.heap.size,0,none⟩=some (.int .i64 n.op)) (first|go_keep|assumption) ((refine iV Si jN (by rfl) (.tmp 54) (.tmp 58) (by rfl) _ (([]:List Bool).take 0) (by rfl) F.o wr.heap.size 1 _ _ _ (n.op==2) (by rfl) W.o ⟨rfl,trivial⟩ (by rw[aa];omega) qe (lT I g.o.size) ?_;intro l' P A' c' w9 A p O;have L:=aA A;have J:=aA (F.o.below T.o p (lR _) (lT I g.o.size));have x9:=(bI ((p.block w.heap.size (aD z.o) M.o).trans z.o)).1.1;clear A p O))
      go_wp2;go_returns;rw[HE.o,<-MK,<-P.o];exact⟨_,rfl,J.o,L.o⟩
     .have z:=qK D g.o;have M:Hid (some w.heap.size≠(Value.slice (some ⟨ga,0,none⟩) q c).ownBlock):=aA (fun h=>qA ((G.o.lt w.heap.size h.symm).2));go_wp2;go_region_held3 (fun w'=>w'.cell? ⟨w.heap.size,0,none⟩=some (.int .i64 n.op)) (first|go_keep|assumption) ((refine iV Si jN (by rfl) (.tmp 54) (.tmp 58) (by rfl) _ (l.take q) (by rfl) F.o wr.heap.size 1 _ _ _ (n.op==2) (by rfl) W.o ⟨rfl,trivial⟩ (by rw[aa];omega) qe (lT I g.o.size) ?_;intro l' P A' c' w9 A p O;have L:=aA A;have J:=aA (F.o.below T.o p (lR _) (lT I g.o.size));have x9:=(bI ((p.block w.heap.size (aD z.o) M.o).trans z.o)).1.1;clear A p O))
      go_wp2;go_returns;rw[HE.o,<-MK,<-P.o];exact⟨_,rfl,J.o,L.o⟩
theorem Sj{p:Prop}(h:p:=by
 go_wp2;go_returns;exact⟨by rw[HV.o];rfl,HB.o⟩):p:=h
theorem Ja{l r:List Bool}{n:No}(h:kY l n=some r):r.length<=l.length+1:=by
 unfold kY at h
 cases hw:mL n.op with
 |none=>rw[hw] at h;cases h
 |some m=>
  rw[hw] at h;simp only at h;by_cases a:qN n=true/\m.length<=l.length/\l.drop (l.length - m.length)=m
  .rw[iP a] at h;injection h with h;rw[<-h,aL,List.length_take,List.length_singleton];omega
  .rw[iN a] at h;cases h
theorem Jb{l:List No}{lm:List Bool}{res:Option (List Bool)}(h:iK (l.drop l.length) lm=res):res=some lm:=by
 rw[<-h,List.drop_length];rfl
theorem Dm{l:List No}{k:Nat}{lm:List Bool}{res:Option (List Bool)}(a:k<l.length)(h:iK (l.drop k) lm=res)(h1:kY lm l[k]=none):res=none:=by
 rw[<-h,List.drop_eq_getElem_cons a];simp only[iK,h1]
theorem Dn{l:List No}{k:Nat}{lm r:List Bool}{res:Option (List Bool)}(a:k<l.length)(h:iK (l.drop k) lm=res)(h1:kY lm l[k]=some r):iK (l.drop (k+1)) r=res:=by
 rw[<-h,List.drop_eq_getElem_cons a];simp only[iK,h1]
def EU(n:Nat):Option (List Bool)->Int
 |none=>1
 |some made=>if 0<n/\made≠[false] then 1 else 0
theorem Dp(l:List No):kZ l=if 32<l.length then 6 else EU l.length (iK l []):=by
 unfold kZ EU
 cases iK l []<;>rfl
theorem GG{ok:nP}(v:Value)(l:List No)(w:World)(h:aH JF w ok v l):Calls prog 230 #[v] w (aP (.int .i64 (kZ l)) w):=by
 obtain⟨a,c,rfl,T⟩:=h.slice;have M:=aA h;clear h;unfold aP;rw[Dp];by_cases h0:32<l.length
 .rw[iP h0];have d:decide ((l.length:Int) > 32)=true:=dX qo;clear h0;go_enter func230,ntmps230;exact FR
 rw[iN h0];have d:decide ((l.length:Int) > 32)=false:=dF qo;have S:l.length<=32:=qo;clear h0;obtain⟨res,z⟩:=xE (iK l []);rw[<-z];have B:Hid (iK (l.drop 0) []=res):=aA (by rw[List.drop_zero];exact z.symm);clear z;go_enter func230,ntmps230;go_wp2;go_loopw [3,12] (fun vm i wr=>∃(k:Nat) (lm:List Bool),k<=l.length/\lm.length<=k/\i=.int .i64 k/\Hid (iK (l.drop k) lm=res)/\Hid (aM CY 1 4 wr w.heap.size (fun _=>True) vm lm)/\Hid (Below w.heap.size w wr)) (fun vm i _=>l.length - (intOf i).toNat)
 case atStart=>exact⟨0,[],Nat.zero_le _,Nat.zero_le _,rfl,B,aA aM.nil,aA (Below.refl _ _)⟩
 case round=>
  clear B;obtain⟨k,lm,R,U,rfl,g,p,HB⟩:=hrel;by_cases y:k<l.length
  .have P:(k:Int)<(l.length:Int):=qo;obtain⟨b,off,r,rfl,_,O,⟨rfl,D⟩,m⟩:=aH.at dO (M.o.on dO HB.o) y qe;obtain⟨o,E,F,G,H,I,J⟩:=CA m;rw[Nat.add_zero] at o;have s:=aA (fun h1=>Dm y g.o h1);have t:=aA (fun r h1=>Dn (r:=r) y g.o h1);have f:=aA (IV _ lm l[k] D w.heap.size _ (p.o.on jN (aB wr (.cells #[.int .i64 l[k].op,.int .i64 l[k].val.1,.int .i64 l[k].val.2.1,.string l[k].val.2.2,.int .i64 l[k].aC3.cat,.string l[k].aC3.name,.bool l[k].aC3.aDc] 301))) qo (by rw[World.size_alloc];exact lT HB.o.size (Nat.le_succ _)));unfold IU jJ at f;clear m g D;generalize l[k]=n at *
   cases he:kY lm n with
   |none=>
    have HE:=aA (s.o he);rw[he] at f;simp only[Option.isSome_none,Option.getD_none] at f;clear s t he;go_wp2_with fail;refine f.o.mono ?_;rintro e w2 ⟨v2,rfl,j,q⟩;have HB2:=aA ((HB.o.alloc HB.o.size (.cells (iO n) 301)).trans j);clear j q f o E F G H I J;exact FT
   |some r=>
    have L:=aA (t.o r he);have V:=Ja he;rw[he] at f;simp only[Option.isSome_some,Option.getD_some] at f;clear s t he;go_wp2_with fail;refine f.o.mono ?_;rintro e w2 ⟨v2,rfl,j,q⟩;have HB2:=aA ((HB.o.alloc HB.o.size (.cells (iO n) 301)).trans j);have K:=aA q;clear j q f o E F G H I J;go_wp2;go_roundw
    case rel=>exact⟨k+1,r,qo,qo,by go_num,L,K,HB2⟩
    case measure=>simp[intOf];omega
  .have P:¬(k:Int)<(l.length:Int):=qo;obtain rfl:k=l.length:=qo;obtain rfl:=Jb g.o;clear g;obtain⟨W,vc,rfl⟩:=p.o.slice;have C:=aA (p.o.sl qo (fun _=>True) (fun _ _ _=>trivial) (fun _ _ _=>trivial) jN);by_cases A:0<l.length
   .have Q:(0:Int)<(l.length:Int):=qo;by_cases h1:lm.length=1
    .obtain⟨x,rfl⟩:∃x,lm=[x]:=List.length_eq_one_iff.1 h1;obtain⟨b,off,r,rfl,_,O,⟨rfl,_⟩,m⟩:=aH.at jN (k:=0) C.o (Nat.lt_succ_self _) qe;have o:=m 0 _ rfl;simp only[Nat.zero_mul,Nat.add_zero,List.getElem_cons_zero] at o;clear m;have N:(([x]:List Bool).length)=1:=rfl;rw[N] at p C ⊢
     cases x
     .have HV:Hid (EU l.length (some [false])=0):=aA (iN qs);exact Sj
     .have HV:Hid (EU l.length (some [true])=1):=aA (iP ⟨A,qs⟩);exact Sj
    .have HV:Hid (EU l.length (some lm)=1):=aA (iP ⟨A,fun h=>h1 (by rw[h];rfl)⟩);have h2:¬(lm.length:Int)=1:=qo;have h3:((lm.length:Int) != 1)=true:=bne_iff_ne.2 h2;exact Sj
   .have Q:¬(0:Int)<(l.length:Int):=qo;have HV:Hid (EU l.length (some lm)=0):=aA (iN (fun h=>A h.1));exact Sj
section
open Go.Maps
theorem MT{w w':World}(h:Below w.heap.size w w')(row:Option Nat):w.grownBy w' row:=⟨h.os,h.tape,h.output,h.size,fun k a _=>h.block k a⟩
theorem Dq{s t:bY}(h:s.data.toList=t.data.toList):s=t:=ByteArray.ext (Array.ext' h)
theorem wG:Keyed prog 9:=string_keyed underlying9
theorem DL(w:World):(zeroValue 342).run prog w=.ok (.agg #[]) w:=by kernel_rfl
def NW(w:World)(mb g:Nat)(s:WS):Prop:=
 w.heap[g]? =some (.cells #[.map (some mb),.int .i64 (s.aCH:Nat)] 239 (0,0))/\mb≠g/\∃D:DataW Unit,w.ownsMap prog 9 unitElem mb s.met.length D/\∀t:bY,Maps.has D (.string t.data.toList)=s.met.any (fun u=>decide (u=t))
theorem NW.lt{w:World}{mb g:Nat}{s:WS}(h:NW w mb g s):g<w.heap.size:=(Array.getElem?_eq_some_iff.1 h.1).1
theorem NW.ltm{w:World}{mb g:Nat}{s:WS}(h:NW w mb g s):mb<w.heap.size:=by
 obtain⟨_,_,D,h1,_⟩:=h;exact h1.lt
theorem NW.on{w w':World}{mb g:Nat}{s:WS}(h:NW w mb g s)(a:Below w.heap.size w w'):NW w' mb g s:=by
 have b:=h.lt;obtain⟨h1,h2,D,h3,h4⟩:=h;exact⟨(a.block g b).trans h1,h2,D,h3.kept (MT a none) qs,h4⟩
theorem Ux{l:List ByteArray}{s t:bY}{D:DataW Unit}(h:∀t:bY,Maps.has D (.string t.data.toList)=l.any (fun u=>decide (u=t)))(b:Tidy D):Maps.has (D.put (.string s.data.toList) (.agg [])) (.string t.data.toList)=(s::l).any (fun u=>decide (u=t)):=by
 rw[List.any_cons];by_cases a:s=t
 .subst a;rw[has_put_same (k:= .string s.data.toList) b.isMap True.intro];simp
 .rw[has_put_other (by intro e;injection e with e;exact a (Dq e.symm)),h t,dF a,Bool.false_or]
def oH(w:World)(mb g:Nat)(s:WS)(v:Value)(e:Ending)(w':World):Prop:=e=.returned v/\NW w' mb g s/\aN (fun b=>b≠g/\b≠mb) w w'
theorem zU(n:bY)(d:n.size<=cP)(mb g:Nat)(s:WS)(hm:s.met.length<=1000000)(w:World)(h:NW w mb g s):Calls prog 227 #[.pointer (some ⟨g,0,none⟩),.string n] w (oH w mb g (gM n s).2 (.bool (gM n s).1)):=by
 have p:=h.lt;have F:=h.ltm;have H:=aA h;obtain⟨h1,h2,D,h3,h4⟩:=h;obtain⟨⟨c0,c1⟩,f0,f1⟩:=fH h1;have f:=aA (fun w=>oN n (by unfold cP at d;unfold maxLen;omega) w);have i:keyOf prog 9 (.string n)=some (.string n.data.toList):=WideMaps.keyOf_string_mk underlying9 (by unfold cP at d;unfold maxLen;omega);obtain⟨c,j,a⟩:=aY (h4 n) h3 (aB w (.cells #[] 342));unfold oH gM;by_cases b:s.met.any (fun t=>decide (t=n))=true
 .rw[iP (.inl b)];have A:Maps.has D (.string n.data.toList)=true:=by rw[c.o];exact b
  clear h1 h3 h4 b c d hm;go_enter func227,ntmps227;go_wp2_with (at_lookup;refine wpList_lookup_own_unit _ rfl _ _ 237 rfl 9 342 wG underlying237 (DL _) mb s.met.length D rfl j.o _ (.string n.data.toList) rfl i ?_)
  go_returns;exact⟨rfl,H.o.on a.o,aJ a.o⟩
 have A:Maps.has D (.string n.data.toList)=false:=by rw[c.o];exact eq_false_of_ne_true b
 cases l:eL n
 .rw[iP (.inr rfl)];rw[l] at f;clear h1 h3 h4 b c d hm;go_enter func227,ntmps227;go_wp2_with (first
   |(at_lookup;refine wpList_lookup_own_unit _ rfl _ _ 237 rfl 9 342 wG underlying237 (DL _) mb s.met.length D rfl j.o _ (.string n.data.toList) rfl i ?_)
   |(go_at_call 37;refine(f.o _).mono ?_;rintro e w2 ⟨rfl,rfl⟩))
  go_returns;exact⟨rfl,H.o.on a.o,aJ a.o⟩
 rw[iN (fun h=>h.elim (fun h=>b h) (fun h=>by cases h))];rw[l] at f;obtain⟨B,x,y⟩:=aY (h3.tidy wG) h4 hm;obtain⟨I,G⟩:=xE (w.alloc (.cells #[] 342));obtain⟨v,r,J⟩:=aY (h3.alloc (.cells #[] 342)) (aE h1 a.o) (⟨p,F⟩:g<w.heap.size/\mb<w.heap.size);clear h1 h3 h4 b c d hm l G I;go_enter func227,ntmps227;go_wp2_with (first
  |(at_lookup;refine wpList_lookup_own_unit _ rfl _ _ 237 rfl 9 342 wG underlying237 (DL _) mb s.met.length D rfl j.o _ (.string n.data.toList) rfl i ?_)
  |(go_at_call 37;refine(f.o _).mono ?_;rintro e w2 ⟨rfl,rfl⟩)
  |(at_mapUpdate;refine wpList_mapUpdate_own _ rfl _ _ _ 237 rfl 9 342 wG underlying237 (unitElem (H:=Unit)) mb s.met.length D rfl v.o (by have:=y.o;unfold maxLen;omega) _ _ _ rfl rfl i _ [] unitElem_mk ?_;intro K q o;have z:=aA q;have m:=aA o;clear q o))
 go_returns;have C:=(m.o.block g (lL p a.o.size) (fun e=>h2 (by injection e with e;exact e.symm))).trans r.o;refine⟨rfl,⟨C,h2,_,z.o,fun t=>Ux x.o B.o⟩,?_⟩;exact(aJ a.o).trans ((cU m.o).mono fun k _ E=>fun e=>E.2 (by injection e))
end
theorem xS(n:bY)(s:WS):(gM n s).2.aCH=s.aCH:=by
 unfold gM;by_cases h:s.met.any (fun t=>decide (t=n))=true\/eL n=false
 .rw[iP h]
 .rw[iN h]
theorem OU(n:bY)(s:WS):(gM n s).2.met.length<=s.met.length+1:=by
 unfold gM;by_cases h:s.met.any (fun t=>decide (t=n))=true\/eL n=false
 .rw[iP h];exact Nat.le_succ _
 .rw[iN h];exact lR _
theorem Jc{r:Ru}{s s1:WS}(h:gM r.id s=(false,s1)):fQ r s=(1,s1):=by
 unfold fQ;rw[h];rfl
theorem Dr{r:Ru}{s s1:WS}(h:gM r.id s=(true,s1))(h1:64<s1.aCH+1):fQ r s=(6,{s1 with aCH:=s1.aCH+1}):=by
 unfold fQ;rw[h];simp only[Bool.true_eq_false,if_false,iP h1]
theorem UU{r:Ru}{s s1:WS}(h:gM r.id s=(true,s1))(h1:¬64<s1.aCH+1)(h2:eW r.aCO≠0):fQ r s=(eW r.aCO,{s1 with aCH:=s1.aCH+1}):=by
 unfold fQ;rw[h];simp only[Bool.true_eq_false,if_false,iN h1,iP h2]
theorem Ds{r:Ru}{s s1:WS}(h:gM r.id s=(true,s1))(h1:¬64<s1.aCH+1)(h2:eW r.aCO=0)(h3:kZ r.cond≠0):fQ r s=(kZ r.cond,{s1 with aCH:=s1.aCH+1}):=by
 unfold fQ;rw[h];simp only[Bool.true_eq_false,if_false,iN h1,h2,ne_eq,not_true_eq_false,iP h3]
theorem Dt{r:Ru}{s s1:WS}(h:gM r.id s=(true,s1))(h1:¬64<s1.aCH+1)(h2:eW r.aCO=0)(h3:kZ r.cond=0):fQ r s=(lA r.aCU,{s1 with aCH:=s1.aCH+1}):=by
 unfold fQ;rw[h];simp only[Bool.true_eq_false,if_false,iN h1,h2,h3,ne_eq,not_true_eq_false]
theorem NW.more{w:World}{mb g q:Nat}{s:WS}(h:NW w mb g s)(b:q=s.aCH+1):NW (w.setCell ⟨g,1,none⟩ (.int .i64 (q:Nat))) mb g {s with aCH:=s.aCH+1}:=by
 obtain⟨h1,h2,D,h3,h4⟩:=h;subst b;refine⟨aG h1 1 _,h2,D,?_,h4⟩;exact h3.kept (row:=some g) ⟨rfl,rfl,rfl,by simp[World.setCell],fun k c a=>Below.heap_setCell _ _ _ _ (fun e=>a (by rw[e]))⟩ (fun e=>h2 (by injection e))
theorem iB{w:World}{g mb i:Nat}(v:Value):aN (fun b=>b≠g/\b≠mb) w (w.setCell ⟨g,i,none⟩ v):=(aI v).mono fun k _ h=>h.1
theorem Jd{ok:nP}(r:Ru)(vt vc vo:Value)(mb g:Nat)(s:WS)(hm:s.met.length<=1000000)(hr:s.aCH<=1000000)(w:World)(h:NW w mb g s)(hp:rL w ok r vt vc vo)(ho:∀b,ok b->b≠g/\b≠mb):Calls prog 196 #[.pointer (some ⟨g,0,none⟩),.agg #[.string r.id,.bool r.aDf,vt,vc,vo]] w (oH w mb g (fQ r s).2 (.int .i64 (fQ r s).1)):=by
 have ai:=h.lt;have aj:=h.ltm;obtain⟨Y,Z,rfl,_⟩:=hp.2.1.slice;obtain⟨T,U,rfl,_⟩:=hp.2.2.1.slice;obtain⟨W,X,rfl,_⟩:=hp.2.2.2.slice;obtain⟨n,p,t,v,D⟩:=gB (zU r.id hp.1 mb g s hm _ (h.on (aB w (.cells #[.string r.id,.bool r.aDf,.slice Y r.aCO.length Z,.slice T r.cond.length U,.slice W r.aCU.length X] 277)))) (aK w (.cells #[.string r.id,.bool r.aDf,.slice Y r.aCO.length Z,.slice T r.cond.length U,.slice W r.aCU.length X] 277) _ rfl) (aB w (.cells #[.string r.id,.bool r.aDf,.slice Y r.aCO.length Z,.slice T r.cond.length U,.slice W r.aCU.length X] 277)) hp ho;have ad:=xS r.id s;unfold oH;unfold oH at n;obtain⟨ah,s1,o⟩:∃a b,gM r.id s=(a,b):=⟨_,_,rfl⟩;rw[o] at n ad;simp only at n ad;clear h hp ho
 cases ah
 .rw[Jc o];simp only;clear o;go_enter func196,ntmps196;go_wp2_with fail;refine n.o.mono ?_;rintro e w1 ⟨rfl,f,j⟩;have k:=qS p j ⟨qo,qo⟩;have m:=aA ((aJ t.o).trans j);have F:=aA (v.o.aCM (m.o.mono fun b _ l=>D.o b l));obtain⟨⟨y,z,A,B,C⟩,_⟩:=dL k.o;have x:=aD k.o;have V:=f.lt;have E:=aA f;obtain⟨⟨c0,c1⟩,f0,f1⟩:=fH f.1;clear f j n v p t;go_wp2;go_returns;exact⟨rfl,E.o,m.o⟩
 obtain⟨q,hq⟩:=xE (s1.aCH+1);have e1:IntKind.i64.wrap ((s1.aCH:Int)+1)=(q:Int):=by rw[IntWalk.i64_in _ qo];omega
 have H:=aA hq;clear hq ad;by_cases h64:64<q
 .rw[Dr o (qA H.o)];simp only;clear o;have d:decide ((q:Int) > 64)=true:=dX qo;go_enter func196,ntmps196;go_wp2_with fail;refine n.o.mono ?_;rintro e w1 ⟨rfl,f,j⟩;have k:=qS p j ⟨qo,qo⟩;have m:=aA ((aJ t.o).trans j);have F:=aA (v.o.aCM (m.o.mono fun b _ l=>D.o b l));obtain⟨⟨y,z,A,B,C⟩,_⟩:=dL k.o;have x:=aD k.o;have V:=f.lt;have E:=aA f;obtain⟨⟨c0,c1⟩,f0,f1⟩:=fH f.1;clear f j n v p t;have L:=aA (E.o.more H.o);have K:=aA (m.o.trans (iB (g:=g) (mb:=mb) (i:=1) (.int .i64 (q:Nat))));have G:=aA (F.o.aCM ((iB (g:=g) (mb:=mb) (i:=1) (.int .i64 (q:Nat))).mono fun b _ l=>D.o b l));have P:=qS k (iB (g:=g) (mb:=mb) (i:=1) (.int .i64 (q:Nat))) ⟨qo,qo⟩;go_wp2;go_returns;exact⟨rfl,L.o,K.o⟩
 have d:decide ((q:Int) > 64)=false:=dF qo;have I:=aA (fun w h=>KO (ok:=ok) (.slice Y r.aCO.length Z) r.aCO w h);unfold aP at I;by_cases J:eW r.aCO=0
 case neg=>
  rw[UU o (qA H.o) J];simp only;clear o;have d2:(eW r.aCO != 0)=true:=bne_iff_ne.2 J;clear J;generalize eW r.aCO=te at *;go_enter func196,ntmps196;go_wp2_with fail;refine n.o.mono ?_;rintro e w1 ⟨rfl,f,j⟩;have k:=qS p j ⟨qo,qo⟩;have m:=aA ((aJ t.o).trans j);have F:=aA (v.o.aCM (m.o.mono fun b _ l=>D.o b l));obtain⟨⟨y,z,A,B,C⟩,_⟩:=dL k.o;have x:=aD k.o;have V:=f.lt;have E:=aA f;obtain⟨⟨c0,c1⟩,f0,f1⟩:=fH f.1;clear f j n v p t;have L:=aA (E.o.more H.o);have K:=aA (m.o.trans (iB (g:=g) (mb:=mb) (i:=1) (.int .i64 (q:Nat))));have G:=aA (F.o.aCM ((iB (g:=g) (mb:=mb) (i:=1) (.int .i64 (q:Nat))).mono fun b _ l=>D.o b l));have P:=qS k (iB (g:=g) (mb:=mb) (i:=1) (.int .i64 (q:Nat))) ⟨qo,qo⟩;go_wp2_with fail;refine(I.o _ G.o.2.1).mono ?_;rintro e w3 ⟨rfl,c⟩;have R:=aA (L.o.on c);have Q:=aA (K.o.trans (aJ c));clear c I;go_wp2;go_returns;exact⟨rfl,R.o,Q.o⟩
 have N:=aA (fun w h=>GG (ok:=ok) (.slice T r.cond.length U) r.cond w h);unfold aP at N;rw[J] at I;by_cases O:kZ r.cond=0
 case neg=>
  rw[Ds o (qA H.o) J O];simp only;clear o;have d2:(kZ r.cond != 0)=true:=bne_iff_ne.2 O;clear J O;generalize kZ r.cond=te at *;go_enter func196,ntmps196;go_wp2_with fail;refine n.o.mono ?_;rintro e w1 ⟨rfl,f,j⟩;have k:=qS p j ⟨qo,qo⟩;have m:=aA ((aJ t.o).trans j);have F:=aA (v.o.aCM (m.o.mono fun b _ l=>D.o b l));obtain⟨⟨y,z,A,B,C⟩,_⟩:=dL k.o;have x:=aD k.o;have V:=f.lt;have E:=aA f;obtain⟨⟨c0,c1⟩,f0,f1⟩:=fH f.1;clear f j n v p t;have L:=aA (E.o.more H.o);have K:=aA (m.o.trans (iB (g:=g) (mb:=mb) (i:=1) (.int .i64 (q:Nat))));have G:=aA (F.o.aCM ((iB (g:=g) (mb:=mb) (i:=1) (.int .i64 (q:Nat))).mono fun b _ l=>D.o b l));have P:=qS k (iB (g:=g) (mb:=mb) (i:=1) (.int .i64 (q:Nat))) ⟨qo,qo⟩;go_wp2_with fail;refine(I.o _ G.o.2.1).mono ?_;rintro e w3 ⟨rfl,c⟩;obtain⟨R,Q,S,M⟩:=dC (L.o.on c) (K.o.trans (aJ c)) (G.o.aCM (aJ c)) (aE P.o c);clear y z A B C x c I;obtain⟨⟨y,z,A,B,C⟩,_⟩:=dL M.o;have x:=aD M.o;go_wp2_with fail;refine(N.o _ S.o.2.2.1).mono ?_;rintro e w4 ⟨rfl,c⟩;have ab:=aA (R.o.on c);have aa:=aA (Q.o.trans (aJ c));clear c N;go_wp2;go_returns;exact⟨rfl,ab.o,aa.o⟩
 rw[O] at N;have HL:=aA (fun w h=>UR (ok:=ok) (.slice W r.aCU.length X) r.aCU w h);unfold aP at HL;rw[Dt o (qA H.o) J O];simp only;clear o J O;generalize lA r.aCU=oe at *;go_enter func196,ntmps196;go_wp2_with fail;refine n.o.mono ?_;rintro e w1 ⟨rfl,f,j⟩;have k:=qS p j ⟨qo,qo⟩;have m:=aA ((aJ t.o).trans j);have F:=aA (v.o.aCM (m.o.mono fun b _ l=>D.o b l));obtain⟨⟨y,z,A,B,C⟩,_⟩:=dL k.o;have x:=aD k.o;have V:=f.lt;have E:=aA f;obtain⟨⟨c0,c1⟩,f0,f1⟩:=fH f.1;clear f j n v p t;have L:=aA (E.o.more H.o);have K:=aA (m.o.trans (iB (g:=g) (mb:=mb) (i:=1) (.int .i64 (q:Nat))));have G:=aA (F.o.aCM ((iB (g:=g) (mb:=mb) (i:=1) (.int .i64 (q:Nat))).mono fun b _ l=>D.o b l));have P:=qS k (iB (g:=g) (mb:=mb) (i:=1) (.int .i64 (q:Nat))) ⟨qo,qo⟩;go_wp2_with fail;refine(I.o _ G.o.2.1).mono ?_;rintro e w3 ⟨rfl,c⟩;obtain⟨R,Q,S,M⟩:=dC (L.o.on c) (K.o.trans (aJ c)) (G.o.aCM (aJ c)) (aE P.o c);clear y z A B C x c I;obtain⟨⟨y,z,A,B,C⟩,_⟩:=dL M.o;have x:=aD M.o;go_wp2_with fail;refine(N.o _ S.o.2.2.1).mono ?_;rintro e w4 ⟨rfl,c⟩;obtain⟨ab,aa,af,B4⟩:=dC (R.o.on c) (Q.o.trans (aJ c)) (S.o.aCM (aJ c)) (aE M.o c);clear y z A B C x c N;obtain⟨⟨y,z,A,B,C⟩,_⟩:=dL B4.o;have x:=aD B4.o;go_wp2_with fail;refine(HL.o _ af.o.2.2.2).mono ?_;rintro e w5 ⟨rfl,c⟩;have ag:=aA (ab.o.on c);have ae:=aA (aa.o.trans (aJ c));clear c HL;go_wp2;go_returns;exact⟨rfl,ag.o,ae.o⟩
end Go.Proofs.YtlfngkelmbdehaaGreatDoor
