/-
  THE STATEMENT Rows.TopLockedCardSaid PROVED: for every input bailiff/bailifftop.TopLocked returns true (under a policy that denies all nothing changes any more but by break-glass, and what breaks it is reviewed), and the argument reads afterwards as it read before.
  Conditions: none beyond the row's own (it lists five package-level variables of strconv and math/bits; the card ties them to the program's text).
-/
import Derived.Test.YtbpimcljljlbnaaGreatDoorMbs
import Derived.Test.YtbpimcljljlbnaaGreatDoorCards
import Derived.Test.YtbpimcljljlbnaaGreatDoorTie
import Derived.SevenTiedAt
namespace Go.Proofs.YtbpimcljljlbnaaGreatDoor
open Go.RowKit
set_option linter.unusedVariables false
set_option linter.unusedSimpArgs false
set_option maxHeartbeats 16000000
open _root_.Go.Proofs.Tryz
set_option maxRecDepth 20000
theorem aCZ:(⟨#[98,111,115,115,32,110,101,119,32,99]⟩:bY).data.toList=dA "boss new c":=by kernel_rfl
theorem aC0:(⟨#[98,111,115,115,32,119,114,105,116,101,32,99,32,102,32,49]⟩:bY).data.toList=dA "boss write c f 1":=by kernel_rfl
theorem aC1(T:bY):(⟨#[98,111,115,115,32,112,111,108,105,99,121,32]⟩++T:bY).data.toList=dA "boss policy "++T.data.toList:=by
 rw[ByteArray.data_append,Array.toList_append];rfl
theorem Mx(T:bY)(t:T.size<=1000)(s:Sto)(v:AY T.data.toList=(s,⟨#[111,107]⟩))(w:World)(a:Gl w)(h6:6<=w.heap.size):Calls prog 4 #[.string T] w fun e w'=>∃E D m,e=.returned (.pointer (some ⟨E,0,none⟩))/\pS w E D 200000 m 3 s w'/\m<=3000/\lG 3 s:=by
 have n:=aA (XG 200000 qe w a h6);have b:fB kW (dA "boss new c")=(LV.1,⟨#[111,107]⟩):=by rw[<-zE,<-LX.1];rfl
 have c:fB LV.1 (dA "boss write c f 1")=(LW.1,⟨#[111,107]⟩):=by rw[<-zE,<-LX.2];rfl
 have d:fB LW.1 (dA "boss policy "++T.data.toList)=(s,⟨#[111,107]⟩):=v;generalize LW.1=s2 at *;generalize LV.1=s1 at *;have f:=WM;have g:=tM f b;have i:=tM g c;have x:=aA (tM i d);have j:Hid ((dA "boss policy "++T.data.toList).length<=1012):=aA (by
  have h1:T.data.toList.length<=1000:=by rw[Array.length_toList];exact t
  have h2:(dA "boss policy ").length=12:=by kernel_rfl
  rw[aL,h2];omega)
 have C:¬((⟨#[98,111,115,115,32,112,111,108,105,99,121,32]⟩:bY).size+T.size > 9223372036854775807):=by
  have:(⟨#[98,111,115,115,32,112,111,108,105,99,121,32]⟩:bY).size=12:=by kernel_rfl
  omega
 have o:=aA (fun E D m (hm:m<=0) w1 (h:pS w E D 200000 m 0 kW w1)=>rH a h6 h _ _ aCZ b f qe qe (by rw[show (dA "boss new c").length=10 from rfl];omega) qe (.inr (by rw[show (dA "boss new c").length=10 from rfl];omega)));have p:=aA (fun E D m (hm:m<=500) w1 (h:pS w E D 200000 m 1 s1 w1)=>rH a h6 h _ _ aC0 c g qe qe (by rw[show (dA "boss write c f 1").length=16 from rfl];omega) qe (.inr (by rw[show (dA "boss write c f 1").length=16 from rfl];omega)));have q:=aA (fun E D m (hm:m<=1000) w1 (h:pS w E D 200000 m 2 s2 w1)=>rH a h6 h _ _ (aC1 T) d i qe qe (qA j.o) qe (.inr (qA j.o)));clear a h6 b c d f g i v t;go_enter func4,ntmps4;go_wp2_with fail;refine n.o.mono ?_;rintro e w1 ⟨E,D,rfl,h⟩;have H1:=aA (o.o E D 0 qe w1 h);clear h n o;go_wp2_with fail;refine H1.o.mono ?_;rintro e w2 ⟨rfl,m2,h,hm⟩;have k:=aA (p.o E D m2 (by rw[show (dA "boss new c").length=10 from rfl] at hm;omega) w2 h);have z:Hid (m2<=500):=aA (by rw[show (dA "boss new c").length=10 from rfl] at hm;omega);clear h hm p H1;go_wp2_with fail;refine k.o.mono ?_;rintro e B ⟨rfl,m3,h,hm⟩;have r:Hid (m3<=1000):=aA (by have h2:=z.o;rw[show (dA "boss write c f 1").length=16 from rfl] at hm;omega);have l:=aA (q.o E D m3 r.o B h);clear h hm q k;go_wp2_with fail;refine l.o.mono ?_;rintro e F ⟨rfl,m4,h,hm⟩;have A:Hid (m4<=3000):=aA (by have h2:=r.o;have h3:=j.o;omega);have y:=aA h;clear h hm l;go_wp2;go_ret;exact⟨E,D,m4,rfl,y.o,A.o,x.o⟩
theorem Zz{p:Prop}(h:p:=by
 go_wp2;go_returns;exact⟨by rw[HF.o];rfl,Below.refl _ _⟩):p:=h
theorem QCc{p:Prop}(h:p:=by
 exact⟨0,qo,rfl,aA (fun i _ _ h=>absurd h qo),aA (Below.refl _ _)⟩):p:=h
theorem QAP{p:Prop}(h:p:=by
 clear HR;go_wp2;go_returns;exact⟨by rw[HF.o];rfl,HB.o⟩):p:=h
theorem QAo{p:Prop}(h:p:=by
 obtain⟨g,hg⟩:=xE (decide (l[k]=m[k]));rw[<-hg] at hne;have HG:=aA hg;have HST:Hid (l[k]=m[k]->∀i (hi:i<l.length) (hj:i<m.length),i<k+1->l[i]=m[i]):=aA (fun e i hi hj h=>by
  rcases Nat.lt_or_ge i k with h1|h1
  .exact HR.o i hi hj h1
  .obtain rfl:i=k:=qo;exact e)
 have HNE:Hid (l[k]≠m[k]->decide (l=m)=false):=aA (fun e=>dF (fun h=>e (by simp only[h])));clear hcl hcm hgd hgd2 hg HR;generalize l[k]=y at *;generalize m[k]=z at *;go_wp2;go_quiet (fail)
 have HB':=aA (fK HB.o ⟨nq,rfl⟩);clear hne
 cases g
 .have HF:=aA (HNE.o (of_decide_eq_false HG.o.symm));go_wp2;go_returns;exact⟨by rw[HF.o];rfl,HB'.o⟩
 .have HF:=aA (HST.o (of_decide_eq_true HG.o.symm));go_wp2;go_roundw
  case rel=>exact⟨k+1,qo,by go_num,HF,HB'⟩
  case measure=>simp[intOf];omega):p:=h
theorem gY.take{w:World}{ok:nP}{a:oD}{xs:List Value}(h:gY w ok a xs)(n:Nat):gY w ok a (xs.take n):=fun g=>by
 obtain⟨b,off,e,d,f⟩:=h (by rintro rfl;exact g qs);refine⟨b,off,e,d,fun i x c=>f i x ?_⟩;rw[List.getElem?_take] at c;split at c
 .exact c
 .cases c
theorem aH.take{α:Type}{R:Rep α}{s:Nat}(F:Firm R s){w:World}{ok:nP}{a:oD}{n c:Nat}{l:List α}(h:aH R w ok (.slice a n c) l){k:Nat}(d:k<=l.length)(b:Nat):aH R w ok (.slice a k b) (l.take k):=by
 obtain⟨i,c2,cs,e,h1,h2,h3⟩:=h;injection e with f _ _;subst f;exact⟨a,b,cs.take (k * s),by rw[List.length_take,Nat.min_eq_left d],h1.take _,(h2.split (fun r x g=>F.len g) k d).1,by rw[List.length_take];omega⟩
theorem gY.drop{w:World}{ok:nP}{a:oD}{xs:List Value}(h:gY w ok a xs)(k:Nat):gY w ok (a.map (·.add k)) (xs.drop k):=fun g=>by
 obtain⟨b,off,e,d,f⟩:=h (by rintro rfl;exact g qs);refine⟨b,off+k,by rw[e];simp[Addr.add],d,fun i x c=> ?_⟩;rw[List.getElem?_drop] at c;rw[Nat.add_assoc];exact f _ _ c
theorem aH.drop{α:Type}{R:Rep α}{s:Nat}(F:Firm R s){w:World}{ok:nP}{a:oD}{n c:Nat}{l:List α}(h:aH R w ok (.slice a n c) l){k:Nat}(i:k<=l.length)(m:l.length<=c)(d:Nat):aH R w ok (.slice (if c=k then a else a.map (·.add (k * s))) (l.length - k) d) (l.drop k):=by
 obtain⟨j,c2,cs,e,h1,h2,h3⟩:=h;injection e with g _ _;subst g;have f:=(h2.split (fun r x b=>F.len b) k i).2;refine⟨_,d,cs.drop (k * s),by rw[List.length_drop],?_,f,by rw[List.length_drop];omega⟩;split
 .rename_i o;have h4:=f.len (fun r x b=>F.len b);rw[show (l.drop k).length=0 by rw[List.length_drop];omega,Nat.zero_mul] at h4;rw[List.eq_nil_of_length_eq_zero h4];exact gY.nil
 .exact h1.drop _
theorem NY{α:Type}{l m:List α}(h:l.length=m.length)(a:∀i (b:i<l.length) (hj:i<m.length),l[i]=m[i]):l=m:=List.ext_getElem h a
theorem My(x y:rT)(w:World):Sem.run prog (binOp .neq 77 (.agg #[.int .i64 x.aDm,.string x.aDK,.string x.aEa]) (.agg #[.int .i64 y.aDm,.string y.aDK,.string y.aEa])) w=.ok (.bool (!decide (x=y))) w:=by
 obtain⟨b,c,d⟩:=x;obtain⟨e,f,g⟩:=y;have u3:=underlying3;have a3:=isAgg3;have z3:=sizeOf3;have u9:=underlying9;have a9:=isAgg9;have z9:=sizeOf9;have a:prog.underlying 77=some (.struct (prog.fieldsOf 77)):=by kernel_rfl
 have hp:prog.stoodInHeld 77=false:=by kernel_rfl
 rw[run_neq_struct,show (10000:Nat)=9999+1 from rfl,run_equalIn_agg w 9999 77 _ _ a hp];simp only[Program.fieldsOf,underlying77];go_simp;by_cases h0:b=e<;>by_cases h1:c=f<;>by_cases h2:d=g<;>simp[h0,h1,h2,rV]
theorem ZJ{ok ok':nP}(v u:Value)(l m:List rT)(w:World)(h:aH lF w ok v l)(f:aH lF w ok' u m):Calls prog 16 #[v,u] w (aN (.bool (decide (l=m))) w):=by
 obtain⟨a,c,rfl,_⟩:=h.slice;obtain⟨b,d,rfl,_⟩:=f.slice;have n:=aA h;have o:=aA f;clear h f;unfold aN;by_cases hlen:l.length=m.length
 .have p:((l.length:Int) != (m.length:Int))=false:=by rw[hlen];simp
  have j:=aA hlen;clear hlen;go_enter func16,ntmps16;go_wp2;go_loopw [5] (fun i wr=>∃k:Nat,k<=l.length/\i=.int .i64 k/\Hid (∀i (hi:i<l.length) (hj:i<m.length),i<k->l[i]=m[i])/\Hid (Below w.heap.size w wr)) (fun i _=>l.length - (intOf i).toNat)
  case atStart=>exact QCc
  case round=>
   obtain⟨k,D,rfl,HR,HB⟩:=hrel;by_cases s:k<l.length
   .have t:k<m.length:=qA j.o;have q:(k:Int)<(l.length:Int):=qo;have E:(k:Int)<(m.length:Int):=qo;obtain⟨b1,off,r,rfl,_,B,⟨rfl,hgd⟩,hcl⟩:=aH.at bV (n.o.on bV HB.o) s qe;obtain⟨b2,F,G,rfl,_,C,⟨rfl,hgd2⟩,hcm⟩:=aH.at bV (o.o.on bV HB.o) t qe;obtain⟨x,H,I⟩:=cR3 hcl;obtain⟨A,J,K⟩:=cR3 hcm;rw[Nat.add_zero] at x A;have hne:=My l[k] m[k];exact QAo
   .have q:¬(k:Int)<(l.length:Int):=qo;obtain rfl:k=l.length:=qo;have HF:=aA (dX (NY j.o (fun i hi hj=>HR.o i hi hj hi)));exact QAP
 .have p:((l.length:Int) != (m.length:Int))=true:=by simp;omega
  have HF:=aA (dF (show ¬l=m from fun h=>hlen (by rw[h])));clear hlen;go_enter func16,ntmps16;exact Zz
theorem Mz(x y:oI)(w:World):Sem.run prog (binOp .neq 74 (.agg #[.string x.1,.int .i64 x.2.1,.int .i64 x.2.2.1,.string x.2.2.2]) (.agg #[.string y.1,.int .i64 y.2.1,.int .i64 y.2.2.1,.string y.2.2.2])) w=.ok (.bool (!decide (x=y))) w:=by
 obtain⟨k,a,b,c⟩:=x;obtain⟨l,d,e,f⟩:=y;have u3:=underlying3;have a3:=isAgg3;have z3:=sizeOf3;have u9:=underlying9;have a9:=isAgg9;have z9:=sizeOf9;have g:prog.underlying 74=some (.struct (prog.fieldsOf 74)):=by kernel_rfl
 have hp:prog.stoodInHeld 74=false:=by kernel_rfl
 have m:=isAgg56;have o:=sizeOf56;have i:prog.underlying 56=some (.struct (prog.fieldsOf 56)):=by kernel_rfl
 have j:prog.stoodInHeld 56=false:=by kernel_rfl
 have n:∀w,Sem.run prog (Op.equalIn 9999 56 (.agg #[.int .i64 a,.int .i64 b,.string c]) (.agg #[.int .i64 d,.int .i64 e,.string f])) w=.ok (decide (a=d/\b=e/\c=f)) w:=fun w=>by
  rw[show (9999:Nat)=9998+1 from rfl,run_equalIn_agg w 9998 56 _ _ i j];simp only[Program.fieldsOf,underlying56];go_simp;by_cases h1:a=d<;>by_cases h2:b=e<;>by_cases h3:c=f<;>simp[h1,h2,h3,rV]
 rw[run_neq_struct,show (10000:Nat)=9999+1 from rfl,run_equalIn_agg w 9999 74 _ _ g hp];simp only[Program.fieldsOf,underlying74];go_simp;by_cases h0:k=l<;>by_cases h1:a=d<;>by_cases h2:b=e<;>by_cases h3:c=f<;>simp[h0,h1,h2,h3,rV]
theorem ZK{ok ok':nP}(v u:Value)(l m:List oI)(w:World)(h:aH kO w ok v l)(f:aH kO w ok' u m):Calls prog 15 #[v,u] w (aN (.bool (decide (l=m))) w):=by
 obtain⟨a,c,rfl,_⟩:=h.slice;obtain⟨b,d,rfl,_⟩:=f.slice;have n:=aA h;have o:=aA f;clear h f;unfold aN;by_cases hlen:l.length=m.length
 .have p:((l.length:Int) != (m.length:Int))=false:=by rw[hlen];simp
  have j:=aA hlen;clear hlen;go_enter func15,ntmps15;go_wp2;go_loopw [5] (fun i wr=>∃k:Nat,k<=l.length/\i=.int .i64 k/\Hid (∀i (hi:i<l.length) (hj:i<m.length),i<k->l[i]=m[i])/\Hid (Below w.heap.size w wr)) (fun i _=>l.length - (intOf i).toNat)
  case atStart=>exact QCc
  case round=>
   obtain⟨k,D,rfl,HR,HB⟩:=hrel;by_cases s:k<l.length
   .have t:k<m.length:=qA j.o;have q:(k:Int)<(l.length:Int):=qo;have E:(k:Int)<(m.length:Int):=qo;obtain⟨b1,off,r,rfl,_,B,⟨rfl,hgd⟩,hcl⟩:=aH.at bO (n.o.on bO HB.o) s qe;obtain⟨b2,F,G,rfl,_,C,⟨rfl,hgd2⟩,hcm⟩:=aH.at bO (o.o.on bO HB.o) t qe;obtain⟨x,H,I,J⟩:=SL hcl;obtain⟨A,K,L,M⟩:=SL hcm;rw[Nat.add_zero] at x A;have hne:=Mz l[k] m[k];exact QAo
   .have q:¬(k:Int)<(l.length:Int):=qo;obtain rfl:k=l.length:=qo;have HF:=aA (dX (NY j.o (fun i hi hj=>HR.o i hi hj hi)));exact QAP
 .have p:((l.length:Int) != (m.length:Int))=true:=by simp;omega
  have HF:=aA (dF (show ¬l=m from fun h=>hlen (by rw[h])));clear hlen;go_enter func15,ntmps15;exact Zz
theorem JL(a:bY):(a.toList != a.toList)=false:=by simp
theorem RS{ok ok':nP}(v u:Value)(l:List cF)(w:World)(h:aH oE w ok v l)(Q:aH oE w ok' u l):Calls prog 8 #[v,u] w (aN (.bool true) w):=by
 obtain⟨a,c,rfl,hl⟩:=h.slice;obtain⟨b,d,rfl,_⟩:=Q.slice;have HS:=aA h;have HT:=aA Q;clear h Q;unfold aN;go_enter func8,ntmps8;go_wp2;go_loopw [13] (fun i wr=>∃k:Nat,k<=l.length/\i=.int .i64 k/\Hid (Below w.heap.size w wr)) (fun i _=>l.length - (intOf i).toNat)
 case atStart=>exact⟨0,qo,rfl,aA (Below.refl _ _)⟩
 case round=>
  obtain⟨k,hk,rfl,M⟩:=hrel;by_cases ad:k<l.length
  .have ag:(k:Int)<(l.length:Int):=qo;obtain⟨b1,off,r,rfl,_,H,⟨vf,vl,rfl,J⟩,E⟩:=aH.at dI (HS.o.on dI M.o) ad qe;obtain⟨b2,A,r2,rfl,_,I,⟨ah,ai,rfl,L⟩,F⟩:=aH.at dI (HT.o.on dI M.o) ad qe;obtain⟨T,V,rfl,-⟩:=J.2.2.2.1.slice;obtain⟨X,gc,rfl,-⟩:=J.2.2.2.2.slice;obtain⟨U,W,rfl,-⟩:=L.2.2.2.1.slice;obtain⟨Y,Z,rfl,-⟩:=L.2.2.2.2.slice;have R:Hid (∀w',Below wr.heap.size wr w'->Calls prog 15 #[.slice T l[k].aDi.length V,.slice U l[k].aDi.length W] w' (aN (.bool true) w')):=aA (fun w' f=>by
    have:=ZK _ _ _ _ w' (J.2.2.2.1.on bO f) (L.2.2.2.1.on bO f);rwa [dX rfl] at this)
   have S:Hid (∀w',Below wr.heap.size wr w'->Calls prog 16 #[.slice X l[k].log.length gc,.slice Y l[k].log.length Z] w' (aN (.bool true) w')):=aA (fun w' f=>by
    have:=ZJ _ _ _ _ w' (J.2.2.2.2.on bV f) (L.2.2.2.2.on bV f);rwa [dX rfl] at this)
   have D:Hid (∀w',Below wr.heap.size wr w'->w'.cell? ⟨b1,off+k * 5,none⟩=some (.string l[k].id)/\w'.cell? ⟨b1,off+k * 5+1,none⟩=some (.string l[k].aDE)/\w'.cell? ⟨b1,off+k * 5+2,none⟩=some (.string l[k].aDx)/\w'.cell? ⟨b1,off+k * 5+3,none⟩=some (.slice T l[k].aDi.length V)/\w'.cell? ⟨b1,off+k * 5+4,none⟩=some (.slice X l[k].log.length gc)/\w'.cell? ⟨b2,A+k * 5,none⟩=some (.string l[k].id)/\w'.cell? ⟨b2,A+k * 5+1,none⟩=some (.string l[k].aDE)/\w'.cell? ⟨b2,A+k * 5+2,none⟩=some (.string l[k].aDx)/\w'.cell? ⟨b2,A+k * 5+3,none⟩=some (.slice U l[k].aDi.length W)/\w'.cell? ⟨b2,A+k * 5+4,none⟩=some (.slice Y l[k].log.length Z)):=aA (fun w' f=>⟨(f.cell (p:=⟨b1,off+k * 5+0,none⟩) H).trans (E 0 _ rfl),(f.cell (p:=⟨b1,off+k * 5+1,none⟩) H).trans (E 1 _ rfl),(f.cell (p:=⟨b1,off+k * 5+2,none⟩) H).trans (E 2 _ rfl),(f.cell (p:=⟨b1,off+k * 5+3,none⟩) H).trans (E 3 _ rfl),(f.cell (p:=⟨b1,off+k * 5+4,none⟩) H).trans (E 4 _ rfl),(f.cell (p:=⟨b2,A+k * 5+0,none⟩) I).trans (F 0 _ rfl),(f.cell (p:=⟨b2,A+k * 5+1,none⟩) I).trans (F 1 _ rfl),(f.cell (p:=⟨b2,A+k * 5+2,none⟩) I).trans (F 2 _ rfl),(f.cell (p:=⟨b2,A+k * 5+3,none⟩) I).trans (F 3 _ rfl),(f.cell (p:=⟨b2,A+k * 5+4,none⟩) I).trans (F 4 _ rfl)⟩);have e0:=JL l[k].id;have e1:=JL l[k].aDE;have e2:=JL l[k].aDx;unfold aN at R S;have P:=aA ((Below.refl wr.heap.size wr).drew);obtain⟨j,m,n,o,q,s,t,x,y,z⟩:=D.o _ (Below.refl _ _);clear E F J L;generalize l[k]=C at *;go_upto_region 6 with (fail)
   refine cA 64 [(0,false),(1,false),(2,false),(3,false),(4,false),(5,false),(6,false),(7,false),(8,false),(9,false),(10,false),(11,false),(12,false),(13,false),(14,false),(15,false),(16,false),(17,false),(18,false),(19,false),(20,false),(21,false),(22,false),(23,false),(24,false),(25,false),(26,false),(27,false),(28,false),(29,false),(30,false),(31,false),(32,false),(33,false),(34,false),(35,false),(36,false),(37,false),(38,false),(39,false),(40,false),(41,false),(42,false),(43,false),(44,false),(45,false),(46,false),(47,false),(48,true),(49,false),(50,false),(51,false),(52,false),(53,false),(54,false),(55,false),(56,false),(57,false),(58,false),(59,false),(60,false),(61,false),(62,true),(63,false)] [(64,true)] (fun w'=>Below wr.heap.size wr w') (by decide +kernel) (by decide +kernel) P.o ?_;simp only[List.cons_append,List.nil_append]
   repeat (refine cU rfl (fun K g=> ?_);unfold rd;go_simp;refine g _ (fun ae h1=> ?_) ?_;(· clear g K j m n o q s t x y z;obtain⟨j,m,n,o,q,s,t,x,y,z⟩:=D.o _ h1;unfold rd;go_simp);clear g K)
   refine bG rfl (fun G B=> ?_);unfold mv;go_simp;refine(R.o _ P.o).mono ?_;rintro e w1 ⟨rfl,aa⟩;have N:=qB P aa;refine B _ _ (fun _=>N.o) ?_;clear B G aa j m n o q s t x y z;obtain⟨j,m,n,o,q,s,t,x,y,z⟩:=D.o _ N.o
   repeat (refine cU rfl (fun K g=> ?_);unfold rd;go_simp;refine g _ (fun ae h1=> ?_) ?_;(· clear g K j m n o q s t x y z;obtain⟨j,m,n,o,q,s,t,x,y,z⟩:=D.o _ h1;unfold rd;go_simp);clear g K)
   refine bG rfl (fun G B=> ?_);unfold mv;go_simp;refine(S.o _ N.o).mono ?_;rintro e w2 ⟨rfl,ab⟩;have O:=qB N ab;refine B _ _ (fun _=>O.o) ?_;clear B G ab j m n o q s t x y z;obtain⟨j,m,n,o,q,s,t,x,y,z⟩:=D.o _ O.o
   repeat (refine cU rfl (fun K g=> ?_);unfold rd;go_simp;refine g _ (fun ae h1=> ?_) ?_;(· clear g K j m n o q s t x y z;obtain⟨j,m,n,o,q,s,t,x,y,z⟩:=D.o _ h1;unfold rd;go_simp);clear g K)
   refine bG rfl (fun G B=> ?_);unfold mv;go_simp;refine B _ _ (fun h=>absurd h qe) ?_;clear B G j m n o q s t x y z;unfold cG;have af:=qB M O.o;go_wp2;go_roundw
   case rel=>exact⟨k+1,qo,by go_num,af⟩
   case measure=>simp[intOf];omega
  .have ag:¬(k:Int)<(l.length:Int):=qo;go_wp2;go_returns;exact⟨rfl,M.o⟩
theorem Na(x y:uV)(w:World):Sem.run prog (binOp .neq 44 (.agg #[.string x.1,.string x.2]) (.agg #[.string y.1,.string y.2])) w=.ok (.bool (!decide (x=y))) w:=by
 obtain⟨b,c⟩:=x;obtain⟨d,e⟩:=y;have u3:=underlying3;have a3:=isAgg3;have z3:=sizeOf3;have u9:=underlying9;have a9:=isAgg9;have z9:=sizeOf9;have a:prog.underlying 44=some (.struct (prog.fieldsOf 44)):=by kernel_rfl
 have hp:prog.stoodInHeld 44=false:=by kernel_rfl
 rw[run_neq_struct,show (10000:Nat)=9999+1 from rfl,run_equalIn_agg w 9999 44 _ _ a hp];simp only[Program.fieldsOf,underlying44];go_simp;by_cases h0:b=d<;>by_cases h1:c=e<;>simp[h0,h1,rV]
theorem ZL{ok ok':nP}(v u:Value)(l m:List uV)(w:World)(h:aH oU w ok v l)(f:aH oU w ok' u m):Calls prog 9 #[v,u] w (aN (.bool (decide (l=m))) w):=by
 obtain⟨a,c,rfl,_⟩:=h.slice;obtain⟨b,d,rfl,_⟩:=f.slice;have n:=aA h;have o:=aA f;clear h f;unfold aN;by_cases hlen:l.length=m.length
 .have p:((l.length:Int) != (m.length:Int))=false:=by rw[hlen];simp
  have j:=aA hlen;clear hlen;go_enter func9,ntmps9;go_wp2;go_loopw [5] (fun i wr=>∃k:Nat,k<=l.length/\i=.int .i64 k/\Hid (∀i (hi:i<l.length) (hj:i<m.length),i<k->l[i]=m[i])/\Hid (Below w.heap.size w wr)) (fun i _=>l.length - (intOf i).toNat)
  case atStart=>exact QCc
  case round=>
   obtain⟨k,D,rfl,HR,HB⟩:=hrel;by_cases s:k<l.length
   .have t:k<m.length:=qA j.o;have q:(k:Int)<(l.length:Int):=qo;have E:(k:Int)<(m.length:Int):=qo;obtain⟨b1,off,r,rfl,_,B,⟨rfl,hgd⟩,hcl⟩:=aH.at cN (n.o.on cN HB.o) s qe;obtain⟨b2,F,G,rfl,_,C,⟨rfl,hgd2⟩,hcm⟩:=aH.at cN (o.o.on cN HB.o) t qe;have x:=hcl 0 _ rfl;have H:=hcl 1 _ rfl;have A:=hcm 0 _ rfl;have I:=hcm 1 _ rfl;rw[Nat.add_zero] at x A;have hne:=Na l[k] m[k];exact QAo
   .have q:¬(k:Int)<(l.length:Int):=qo;obtain rfl:k=l.length:=qo;have HF:=aA (dX (NY j.o (fun i hi hj=>HR.o i hi hj hi)));exact QAP
 .have p:((l.length:Int) != (m.length:Int))=true:=by simp;omega
  have HF:=aA (dF (show ¬l=m from fun h=>hlen (by rw[h])));clear hlen;go_enter func9,ntmps9;exact Zz
theorem Fy:(⟨#[112,111,108,105,99,121,32,112,32,100,101,110,121,117,110,108,101,115,115,32,123,32,125]⟩:bY).data.toList=tH:=by kernel_rfl
theorem Nb:str "glass"=⟨#[103,108,97,115,115]⟩:=by kernel_rfl
theorem ZM{s:Sto}(hp:s.aDd=tG)(a:s.aDp=[])(q:lU):(fB s q).1=s/\(fB s q).2≠str "glass":=by
 rcases h:kX q with _|o
 .rw[QL h];exact⟨rfl,by show Fg≠str "glass";decide +kernel⟩
 .rw[QM h];exact WK o hp a
theorem NZ(a:oD)(c:Nat)(l:List ByteArray)(hl:l.length<=maxLen)(w:World)(hs:Mw w a l)(C:Gl w)(h6:6<=w.heap.size):Calls prog 3 #[.slice a l.length c] w fun e w'=>e=.returned (.bool true)/\Below w.heap.size w w':=by
 obtain⟨s,h1,h2,h3,h4⟩:∃s,AY tH=(s,⟨#[111,107]⟩)/\s.aDd=tG/\s.aDp=[]/\s.aDf=[]:=⟨(AY tH).1,by rw[<-zE,<-tT.1],tT.2.1,tT.2.2.1,tT.2.2.2⟩;have HF:=aA (Mx _ (by decide +kernel) s (Fy▸h1) w C h6);have bl:=aA (ZM h2 h3);have bu:Hid (s.aDf=[]):=aA h4;clear h1 h2 h3 h4;have bg:=aA (fun w' (d:Below w.heap.size w w')=>Mv w' (C.on d) (lT h6 d.size));obtain⟨HG,H6,HS,bm⟩:=dG C h6 hs hl;clear C h6 hs hl;go_enter func3,ntmps3;go_wp2_with fail;refine HF.o.mono ?_;rintro e w1 ⟨E,D,m0,rfl,f,a8,ar⟩;obtain⟨bp,bh,ah⟩:=aY a8 ar (QR f.one);clear f a8 ar HF;go_wp2_with fail;refine ah.o.mono ?_;rintro e w3 ⟨K,vc,vr,vn,vo,vt,vu,vk,vb,rfl,g,f,bz⟩;obtain⟨ca,cc,ra,rc,na,nc,oa,oc,ta,tc,ua,uc,ka,kc,ba,bc,rfl,-,rfl,-,rfl,-,rfl,-,rfl,-,rfl,-,rfl,-,rfl,-⟩:=g.sl;have al:=aA g;have aa:=aA f;unfold aV;clear g f bz ah;go_upto_region 5 with (refine fA rfl _ (.tmp 4) (.tmp 12) rfl w3.heap.size _ rfl rfl _ _ (aK _ _ _ rfl) (by kernel_rfl) rfl (by simp[Value.oneCell']) ?_;intro w4 U aj)
 have ad:=aA (uM (lR _) aj.o);have O:=aA (aa.o.grow ad.o);have bx:=aA (aD U.o);have ag:=aA (Mu (ok:=fun _=>True) a c l bm.o 40 qe w4 (fun k hk=>by
  obtain⟨b,off,h1,h2,h3,h4⟩:=HS.o k hk;have aw:=O.o.at0.below;exact⟨b,off,h1,lL h2 aw.size,(aw.cell (p:=⟨b,off+k,none⟩) h2).trans h3,h4⟩))
 clear aj;go_wp2_with fail;refine ag.o.mono ?_;rintro e w5 ⟨v,rfl,F,d⟩;obtain⟨L,Z⟩:=xE (zD l 40);rw[<-Z] at F;have A:Hid (L.length<=40/\∀x∈L,x.size<=600):=aA (by
  rw[Z];unfold zD;refine⟨by rw[List.length_map,List.length_take];omega,fun x hx=> ?_⟩;obtain⟨y,_,rfl⟩:=List.mem_map.1 hx;exact Mt y)
 obtain⟨la,lc,rfl,-⟩:=F.slice;obtain⟨P,be,bs,br,bt⟩:∃P:nP,Hid (sL w P E D 200000 m0 3 s w5)/\Hid (∀b,K b->P b)/\Hid (P w3.heap.size)/\Hid (∀b,w4.heap.size<=b/\b<w5.heap.size->P b):=
  ⟨_,aA (O.o.grow d),aA (fun b d=> .inl (.inl (.inr d))),aA (.inl (.inr ⟨lR _,bx.o⟩)),aA (fun b d=> .inr d)⟩
 obtain⟨bn,b4,AS,aq⟩:=dG (aH.inb vS F) d (aE U.o d) ((al.o.on ad.o).on d);clear d F Z ag O aa al U;go_wp2;go_loopw [16] (fun i wr=>∃(k m:Nat),k<=L.length/\i=.int .i64 k/\Hid (sL w P E D 200000 m (k+3) s wr)/\Hid (m<=3000+1000 * k)/\Hid (lG (k+3) s)/\Hid (aO P w5 wr)) (fun i _=>L.length - (intOf i).toNat)
 case atStart=>exact⟨0,m0,qo,rfl,be,aA (qA bp.o),bh,aA (aJ (Below.refl _ _))⟩
 case round=>
  obtain⟨k,m,hk,rfl,HE,HM,HB,B⟩:=hrel;by_cases a7:k<L.length
  .have bo:=aA (aH.aDl vS bn.o ((B.o).mono fun b _ d=>by exact bt.o b ⟨d.1,d.2⟩));obtain⟨b,off,r,rfl,b9,cb,⟨rfl,a6⟩,hc⟩:=aH.at vS bo.o a7 qe;obtain⟨q,hq⟩:=xE (L[k]);rw[<-hq] at a6 hc;have bd:=hc 0 _ rfl;rw[Nat.mul_one,Nat.add_zero] at bd;have bb:q.size<=600:=by rw[hq];exact A.o.2 _ (List.getElem_mem a7)
   have T:=aA bb;have af:=aA (Rv HG.o H6.o HE.o q (qA T.o) HB.o (qA A.o.1) (qA A.o.1) (qF T.o HM.o A.o.1) qe);have b0:(k:Int)<(L.length:Int):=qo;clear hc a6 hq bb;go_wp2_with fail;refine af.o.mono ?_;rintro e w6 ⟨rfl,m6,hA6,au,-,b1,-⟩;obtain⟨X,Y⟩:=bl.o q.data.toList;rw[X] at hA6;have bk:Hid (lG (k+1+3) s):=aA (by have:=HB.o.line q.data.toList;rw[X] at this;exact this.more qo);obtain⟨an,av⟩:=xE ((fB s q.data.toList).2);rw[<-av] at Y ⊢;obtain⟨d1,d2⟩:=fI an [103,108,97,115,115] (fun e=>Y (e.trans Nb.symm));have bf:=aA hA6;have bw:=aA (B.o.trans au);have bq:Hid (m6<=3000+1000 * (k+1)):=aA (qD HM.o T.o);have h40:=A.o.1;clear X Y av hA6 au b1 af bd;go_wp2;go_roundw
   case rel=>exact⟨k+1,m6,qo,by go_num,bf,bq,bk,bw⟩
   case measure=>simp[intOf];omega
  .have b0:¬((k:Int)<(L.length:Int)):=qo;have ai:=aA (QR HE.o);go_wp2_with fail;refine ai.o.mono ?_;rintro e w7 ⟨K7,cp,tr,tn,to_,tt,tu,tk,tb,rfl,g,f,az⟩;obtain⟨b7,b8,ck,cl,ch,cj,b2,b3,cm,cn,cq,cr,cf,cg,b5,b6,rfl,-,rfl,-,rfl,-,rfl,-,rfl,-,rfl,-,rfl,-,rfl,-⟩:=g.sl;obtain⟨ao,ab,Q⟩:=aY g f az;unfold aV;clear g f az ai;go_upto_region 12 with (refine fA rfl _ (.tmp 7) (.tmp 26) rfl w7.heap.size _ rfl rfl _ _ (aK _ _ _ rfl) (by kernel_rfl) rfl (by simp[Value.oneCell']) ?_;intro M t ak)
   have z:=aA (uM (lR _) ak.o);have j:=aA (aE (aE (aF AS.o B.o br.o) Q.o) z.o);have V:=aA (((aq.o.aDl (B.o.mono fun b _ d=>bs.o b d)).on Q.o).on z.o);have W:=aA (ao.o.on z.o);have R:=aA (RS _ _ s.aDc M V.o.aDc W.o.aDc);have S:Hid (∀w',Below M.heap.size M w'->Calls prog 9 #[.slice oa s.aDp.length oc,.slice b2 s.aDp.length b3] w' (aN (.bool true) w')):=aA (fun w' d=>by
    have:=ZL _ _ _ _ w' (V.o.aDp.on cN d) (W.o.aDp.on cN d);rwa [dX rfl] at this)
   have ae:Hid (Below w.heap.size w M):=aA (aC ab.o.at0.below z.o);have cd:s.aDf.length=0:=by rw[bu.o];rfl
   obtain⟨⟨G,s1,s2,I,J,-,-,-,-,-,-,-,H⟩,-⟩:=bP j.o;obtain⟨⟨t0,t1,t2,t3,t4,-,-,-,-,-,-,-,t12⟩,-⟩:=bP t.o;have zs:=aD j.o;have N:=aD t.o;unfold aN at R S;clear ak ao aq V W Q z ab AS;go_wp2_with fail;refine R.o.mono ?_;rintro e w9 ⟨rfl,a1⟩;have o:=aA a1;clear a1 R G s1 s2 I J H t0 t1 t2 t3 t4 t12 zs N;obtain⟨⟨G,s1,s2,I,J,-,-,-,-,-,-,-,H⟩,-⟩:=bP (aE j.o o.o);obtain⟨⟨t0,t1,t2,t3,t4,-,-,-,-,-,-,-,t12⟩,-⟩:=bP (aE t.o o.o);have zs:=aD (aE j.o o.o);have N:=aD (aE t.o o.o);go_wp2_with fail;refine(S.o _ o.o).mono ?_;rintro e ct ⟨rfl,ax⟩;have n:=qB o ax;clear ax S G s1 s2 I J H t0 t1 t2 t3 t4 t12 zs N;obtain⟨⟨G,s1,s2,I,J,-,-,-,-,-,-,-,H⟩,-⟩:=bP (aE j.o n.o);obtain⟨⟨t0,t1,t2,t3,t4,-,-,-,-,-,-,-,t12⟩,-⟩:=bP (aE t.o n.o);have zs:=aD (aE j.o n.o);have N:=aD (aE t.o n.o);go_wp2_with fail;refine(bg.o _ (aC ae.o n.o)).mono ?_;rintro e cu ⟨rfl,ay⟩;have bj:=aA (aC (aC ae.o n.o) ay);clear ay;go_wp2;go_returns;exact⟨rfl,bj.o⟩
section
namespace topLocked
open Go.ChangeShapes Go.WideShapes Go.ChangeAt
set_option maxRecDepth 100000 in
theorem aAd(os:Os)(started:os.Started)(H:Type)(enc:TypeId×Value->H):
 ReturnsInHanded {} checked os 3 .any (fun w args=>(Rows.topLockedSpec.pre enc prog f3 [] false w args/\laidMetH prog ME w)/\sizedMet enc prog f3 (OpenSpec.ofChange Rows.topLockedSpec) false w args)
  (Rows.topLockedSpec.post enc prog f3 false true false false):=by
 refine NX (C:=checked) (X:=fun w _=>laidMetH prog ME w) (fun _ _ _ r h=>h.of_heap r) own started (by kernel_rfl) func3
  (ChangeSpec.witness_shaped (enc:=enc) (C:=checked) (os:=os) (X:=fun w _=>laidMetH prog ME w) false (World.doorLaid prog 400 os) #[.slice none 0 0] 8 rfl (World.shaped_of_RefB (by kernel_rfl) (by kernel_rfl)) (by kernel_rfl) (by kernel_rfl) (by kernel_rfl) (Rw os _)) ?_
 intro W base args i gs before y d b k;have c:∀(j:Nat) t v,f3.params[j]? =some t->args[j]? =some v->Value.okWide prog W .any base t v:=d;have n:=b;obtain⟨p,q,hA0,l,rfl,J,K⟩:=b;have hA:DataW.TrodAll enc prog W 0 (fun _=>true) true f3.params.toList args.toList i p:=hA0;rw[params3] at hA c;obtain⟨v0,L,d0,G,B,q0,I,rfl,rfl,h0,D⟩:=trodAll_cons hA;obtain⟨rfl,rfl,rfl⟩:=trodAll_nil D;obtain rfl:args=#[v0]:=by cases args;simp_all
 obtain⟨rfl,rfl⟩:=trodVars_none l;have f:=h0;have A:∀x∈B,x.block<W.heap.size:=by obtain⟨m,hm⟩:=f;exact DataW.trod_lt m _ _ _ hm
 obtain⟨a0,g,z,rfl,s,E⟩:=Fx underlying22 underlying9 (by kernel_rfl) (c 0 22 v0 rfl rfl) h0;obtain⟨o,h6⟩:=aAK y k;clear hA0 d;refine(NZ a0 g z s W E o h6).mono fun e F ⟨he,a⟩=> ?_
 subst he;exact⟨_,rfl,_,_,_,[],_,[],n,trodAll_mk1 (shut_bool underlying4 _),(trodAll_cons_mk (Below.trod Xb (by kernel_rfl) (of_decide_eq_true (by kernel_rfl)) f a A) trodAll_mk0),rfl,a.frame _,fun h=>by cases h⟩
set_option maxRecDepth 100000 in
theorem aAe:joinedFacts checked.prog 3 f3 Rows.topLockedSpec Rows.topLockedRow=true:=by
 unfold joinedFacts;simp only[Bool.and_eq_true]
 repeat' apply And.intro
 all_goals (as_aux_lemma=>kernel_rfl)
set_option maxRecDepth 100000 in
theorem aC2:Rows.TopLockedSaid:=
 OpenClaim.holds_of_wide 3 f3 rfl rfl rfl rfl rfl rfl rfl ⟨rfl,rfl,rfl,rfl,rfl⟩ rfl rfl rfl rfl rfl (by as_aux_lemma=>kernel_rfl) func3 aAe
  (of_decide_eq_true (by as_aux_lemma=>kernel_rfl)) (by unfold Func.isWrapper;first|(rw[iP (by decide +kernel)];kernel_rfl)|(rw[iN (by decide +kernel)];exact⟨rfl,rfl⟩))
  (fun os started H enc _=>aAd os started H enc)
theorem proved:Rows.TopLockedCardSaid:=
 Claim7.holds_tied_plain_at .later [] [.data,.data,.data,.sentinel,.sentinel] true _ true
  aC2 (fun _ h=>by cases h) (by as_aux_lemma=>kernel_rfl) (fun _ h=>by cases h) topLocked_row_tie rfl ⟨rfl,rfl⟩ (by as_aux_lemma=>kernel_rfl) rfl
  (fun f fn c d=>by
    obtain rfl:f=3:=Option.some.inj ((show prog.funcNamed Rows.topLockedRow.func=some 3 by kernel_rfl).symm.trans c) |>.symm;obtain rfl:fn=f3:=(Option.some.inj (func3.symm.trans d)).symm;exact⟨by as_aux_lemma=>kernel_rfl,fun j t a=>by
     rw[params3] at a;have hm:t∈[22]:=by simpa using Array.mem_of_getElem? a
     have b:([22].all fun u=> !prog.wantsStandIn u)=true:=by kernel_rfl
     exact(show prog.wantsStandIn t=false by simpa using List.all_eq_true.1 b t hm)⟩)
  (by as_aux_lemma=>kernel_rfl)
#print axioms proved
end topLocked
end
end Go.Proofs.YtbpimcljljlbnaaGreatDoor
