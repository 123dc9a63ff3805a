/- Lemmas. -/
import Derived.Test.YtgoanbpcdhmfkaaGreatDoorMab
import Derived.KernelRfl
import Derived.Laws.Cover2
import Derived.Laws.StructEq
import Derived.Laws.Tables
import Derived.Laws.BytesArg
import Derived.Lib.AtoiAllCases
import Derived.Test.YtgoanbpcdhmfkaaGreatDoorShelf
namespace Go.Proofs.YtgoanbpcdhmfkaaGreatDoor
open Go.RowKit
set_option linter.unusedVariables false
set_option linter.unusedSimpArgs false
set_option maxHeartbeats 16000000
open _root_.Go.Proofs.Tryz
set_option maxRecDepth 20000
theorem bH{a b:Bool}(h:a=b):Ending.returned (.bool a)=.returned (.bool b):=by rw[h]
theorem Tn(a b:bY):decide (a=b)=decide (a.toList=b.toList):=by rw[<-jD,Bool.eq_iff_iff,bQ,decide_eq_true_eq]
theorem oQ{L:List Tok}{p:PS}(s:bY)(hp:p.at_<L.length)(f:L.length<=5000)(g:Nat)(w:World)(h:PW L w g p):
 Calls prog 192 #[.pointer (some ⟨g,0,none⟩),.string s] w (aP (.bool (cL L s p)) w):=by
 have a:=aA (gH hp f g w h);have H:=aA h;clear h;unfold aP cL;unfold gY at a;generalize aU L p=t at *;go_enter func192,ntmps192;go_wp2_with fail;refine(a.o).mono ?_;rintro e w1 ⟨rfl,b⟩;have h1:=H.o.on b;obtain⟨A,c,c0,c1,c2,c3,c4,i⟩:=h1.cells;have j:=h1.lt;have d:=aA b;clear a b h1 i c0 c1 c2 c4;go_wp2
 all_goals go_returns
 all_goals exact⟨bH (by rw[Tn,Bool.eq_iff_iff];simp[*]),d.o.alloc d.o.size _⟩
theorem eL{L:List Tok}{p:PS}(T:Toks L)(s:bY)(hp:p.at_<L.length)(g:Nat)(w:World)(h:PW L w g p):
 Calls prog 189 #[.pointer (some ⟨g,0,none⟩),.string s] w (eR L g w (.bool (kL L s p).1) (kL L s p).2):=by
 have j:=T.len;have f:=aA (oQ s hp j g w h);have H:=aA h;clear h;unfold eR kL;generalize i:cL L s p=b at *
 cases b
 .rw[iN qe];clear i;go_enter func189,ntmps189;go_wp2_with fail;refine(f.o).mono ?_;rintro e w1 ⟨rfl,a⟩;have d:=aA a;clear a f;go_wp2;go_returns;exact⟨rfl,H.o.on d.o,aJ d.o⟩
 .rw[iP rfl];clear i;go_enter func189,ntmps189;go_wp2_with fail;refine(f.o).mono ?_;rintro e w1 ⟨rfl,a⟩;have h1:=H.o.on a;obtain⟨A,c,c0,c1,c2,c3,c4,k⟩:=h1.cells;have f1:=h1.free 1;have l:=h1.lt;have H1:=aA h1;have d:=aA a;have m:(0:Int)<=p.at_:=qo;have i2:(p.at_:Int)<=5000:=qo;clear a f k h1 c0 c2 c3 c4 H;go_wp2;go_returns;refine⟨rfl,H1.o.stay (aI _) fun A c h=> ?_,(aJ d.o).trans (aI _)⟩;rw[aG h 1 _];rfl
theorem mF{L:List Tok}{p:PS}(T:Toks L)(s:bY)(hp:p.at_<L.length)(g:Nat)(w:World)(h:PW L w g p):
 Calls prog 143 #[.pointer (some ⟨g,0,none⟩),.string s] w (eR L g w (.tuple #[]) (eH L s p)):=by
 have n:=T.len;have a:=aA (eL T s hp g w h);unfold eR;have e:eH L s p=if (kL L s p).1 then (kL L s p).2 else dM L (kL L s p).2:=by
  unfold eH kL;by_cases d:cL L s p=true
  .rw[iP d,iP d];rfl
  .rw[iN d,iN d];rfl
 rw[e];have i:=aA (SA T s hp).lt;clear e h;generalize kL L s p=r at *;obtain⟨b,q⟩:=r;simp only at a i ⊢
 cases b
 .rw[iN qe];go_enter func143,ntmps143;go_wp2_with fail;refine(a.o).mono ?_;rintro e w1 ⟨rfl,h1,c⟩;have j:=aA (lQ i.o n g w1 h1);have f:=aA c;clear a h1 c;go_wp2_with fail;refine(j.o).mono ?_;rintro e w2 ⟨rfl,h2,k⟩;have l:=aA h2;have m:=aA (f.o.trans k);clear j h2 k;go_wp2;go_returns;exact⟨rfl,l.o,m.o⟩
 .rw[iP rfl];go_enter func143,ntmps143;go_wp2_with fail;refine(a.o).mono ?_;rintro e w1 ⟨rfl,h1,c⟩;have H1:=aA h1;have f:=aA c;clear a h1 c;go_wp2;go_returns;exact⟨rfl,H1.o,f.o⟩
abbrev oC(t:Tok):Array Value:=#[.int .i64 t.aCJ,.int .i64 t.at_,.int .i64 t.num,.string t.str]
theorem rB{L:List Tok}{p:PS}(T:Toks L)(hp:p.at_<L.length)(g:Nat)(w:World)(h:PW L w g p):
 Calls prog 141 #[.pointer (some ⟨g,0,none⟩)] w (eR L g w (.string (bT L p).1) (bT L p).2):=by
 have o:=T.len;have i:=aA (gH hp o g w h);have H:=aA h;have b:=aA (jC T hp).lt;clear h;unfold eR;unfold bT at b ⊢;dsimp only at b ⊢;unfold gY at i;have l:=fun w h=>lQ hp o g w h
 have k:(dM L p).bad≠0:=lO 5 _ qe p;have l:=aA l;generalize aU L p=t at *;generalize dM L p=q at *;by_cases f:t.aCJ=1
 .have b0:(t.aCJ != 1)=false:=by rw[f];rfl
  rw[iN (show ¬t.aCJ≠1 from fun h=>h f)] at b ⊢;clear l k f;by_cases d:p.bad=0
  .rw[iN (fun h=>h d)] at b ⊢;have B:=aA d;go_enter func141,ntmps141;go_wp2_with fail;refine(i.o).mono ?_;rintro e w1 ⟨rfl,a⟩;have h1:=H.o.on a;have H1:=aA h1;have x:=aA a;obtain⟨A,c,c0,c1,c2,c3,c4,j⟩:=h1.cells;have f1:=h1.free 1;have r:=h1.lt;have z:=aA r;rw[d] at c3;have C:(0:Int)<=p.at_:=qo;have i2:(p.at_:Int)<=5000:=qo;clear a j h1 c0 c2 c4 H d;go_wp2;go_returns;refine⟨rfl,H1.o.stay ((aI _).trans (aJ (aB _ _))) fun A c h=> ?_,(aJ x.o).trans ((aI _).trans (aJ (aB _ _)))⟩;rw[Below.heap_alloc _ _ _ (by simpa [World.setCell] using z.o),aG h 1 _];rfl
  .rw[iP d] at b ⊢;have b1:(p.bad != 0)=true:=bne_iff_ne.2 d;clear d;go_enter func141,ntmps141;go_wp2_with fail;refine(i.o).mono ?_;rintro e w1 ⟨rfl,a⟩;have h1:=H.o.on a;have m:=aA (h1.on (aB w1 (.cells (oC t) 104)));have n:=aA (aC a (aB w1 (.cells (oC t) 104)));obtain⟨A,c,c0,c1,c2,c3,c4,j⟩:=h1.cells;have r:=h1.lt;clear a j h1 c0 c1 c2 c4 H;go_wp2;go_returns;exact⟨rfl,m.o,aJ n.o⟩
 .have b0:(t.aCJ != 1)=true:=bne_iff_ne.2 f;rw[iP f] at b ⊢;rw[iP k] at b ⊢;have b1:(q.bad != 0)=true:=bne_iff_ne.2 k;clear f k;go_enter func141,ntmps141;go_wp2_with fail;refine(i.o).mono ?_;rintro e w1 ⟨rfl,a⟩;have h1:=H.o.on a;have m:=aA (h1.on (aB w1 (.cells (oC t) 104)));have n:=aA (aC a (aB w1 (.cells (oC t) 104)));clear a h1 H;go_wp2_with fail;refine(l.o _ m.o).mono ?_;rintro e w2 ⟨rfl,h2,s⟩;obtain⟨A,c,c0,c1,c2,c3,c4,j⟩:=h2.cells;have v:=aA h2;have y:=aA ((aJ n.o).trans s);clear j h2 s c0 c1 c2 c4 i;go_wp2;go_returns;exact⟨rfl,v.o,y.o⟩
theorem rC{p:Prop}(h:p:=by
 go_wp2;go_ret;exact⟨by rw[HE.o];rfl,rfl⟩):p:=h
theorem eS(c:UInt8):bA c=true↔48<=(c.toNat:Int)/\(c.toNat:Int)<=57:=by unfold bA;rw[Bool.and_eq_true,decide_eq_true_eq,decide_eq_true_eq];omega
theorem iM(c:UInt8)(w:World):Calls prog 130 #[.int .u8 (c.toNat:Int)] w fun e w'=>e=.returned (.bool (bA c))/\w=w':=by
 have a:=aA (eS c);by_cases h1:48<=(c.toNat:Int)
 .by_cases h2:(c.toNat:Int)<=57
  .have HE:Hid (bA c=true):=aA (a.o.2 ⟨h1,h2⟩);have d1:decide ((c.toNat:Int) ≥ 48)=true:=dX h1;have d2:decide ((c.toNat:Int)<=57)=true:=dX h2;go_enter func130,ntmps130;exact rC
  .have HE:Hid (bA c=false):=aA (by rw[Bool.eq_false_iff];intro h;exact h2 (a.o.1 h).2);have d1:decide ((c.toNat:Int) ≥ 48)=true:=dX h1;have d2:decide ((c.toNat:Int)<=57)=false:=dF h2;go_enter func130,ntmps130;exact rC
 .have HE:Hid (bA c=false):=aA (by rw[Bool.eq_false_iff];intro h;exact h1 (a.o.1 h).1);have d1:decide ((c.toNat:Int) ≥ 48)=false:=dF h1;go_enter func130,ntmps130;exact rC
theorem Mp(c:UInt8):iJ c=((decide (97<=(c.toNat:Int))&&decide ((c.toNat:Int)<=122))||bA c||decide ((c.toNat:Int)=95)):=by
 unfold iJ yC;have a:decide (97<=c.toNat)=decide (97<=(c.toNat:Int)):=decide_eq_decide.2 qo;have b:decide (c.toNat<=122)=decide ((c.toNat:Int)<=122):=decide_eq_decide.2 qo;have d:decide (c.toNat=95)=decide ((c.toNat:Int)=95):=decide_eq_decide.2 qo;rw[a,b,d]
theorem WO(c:UInt8)(w:World):Calls prog 182 #[.int .u8 (c.toNat:Int)] w fun e w'=>e=.returned (.bool (iJ c))/\w=w':=by
 have b:=aA (iM c w);have a:=aA (Mp c);by_cases h1:97<=(c.toNat:Int)/\(c.toNat:Int)<=122
 .have HE:Hid (iJ c=true):=aA (by rw[a.o,dX h1.1,dX h1.2];rfl);have d1:decide ((c.toNat:Int) ≥ 97)=true:=dX h1.1;have d2:decide ((c.toNat:Int)<=122)=true:=dX h1.2;clear b a;go_enter func182,ntmps182;exact rC
 .have f:Hid ((decide (97<=(c.toNat:Int))&&decide ((c.toNat:Int)<=122))=false):=aA (by rw[Bool.eq_false_iff];intro h;rw[Bool.and_eq_true,decide_eq_true_eq,decide_eq_true_eq] at h;exact h1 h);rw[f.o,Bool.false_or] at a;have d:Hid (((c.toNat:Int) ≥ 97/\¬(c.toNat:Int)<=122)\/¬(c.toNat:Int) ≥ 97):=aA qo;clear h1 f;generalize bA c=dg at *
  rcases d.o with ⟨h3,h4⟩|h3
  all_goals
   first|(have d1:decide ((c.toNat:Int) ≥ 97)=true:=dX h3;have d2:decide ((c.toNat:Int)<=122)=false:=dF h4)|(have d1:decide ((c.toNat:Int) ≥ 97)=false:=dF h3)
   cases dg
   .by_cases h5:(c.toNat:Int)=95
    .have HE:Hid (iJ c=true):=aA (by rw[a.o,dX h5];rfl);have d5:((c.toNat:Int)==95)=true:=bQ.2 h5;clear a d h5;go_enter func182,ntmps182;go_wp2_with fail;refine b.o.mono ?_;rintro e w' ⟨rfl,rfl⟩;exact rC
    .have HE:Hid (iJ c=false):=aA (by rw[a.o,dF h5];rfl);have d5:((c.toNat:Int)==95)=false:=bN.2 h5;clear a d h5;go_enter func182,ntmps182;go_wp2_with fail;refine b.o.mono ?_;rintro e w' ⟨rfl,rfl⟩;exact rC
   .have HE:Hid (iJ c=true):=aA (by rw[a.o];rfl);clear a d;go_enter func182,ntmps182;go_wp2_with fail;refine b.o.mono ?_;rintro e w' ⟨rfl,rfl⟩;exact rC
theorem QBq{p:Prop}(h:p:=by
 cases d
 .go_wp2_with fail;refine HC.o.mono ?_;rintro e w' ⟨rfl,rfl⟩;go_wp2;go_ret;exact⟨by rw[HS.o qs];rfl,rfl⟩
 .go_wp2_with fail;refine HC.o.mono ?_;rintro e w' ⟨rfl,rfl⟩;go_wp2;go_round
  case rel=>exact⟨k+1,qo,by go_num,aA (HG.o qs)⟩
  case measure=>simp[intOf];omega):p:=h
theorem Fs(p:UInt8->Bool)(l:lU):cK p l<=l.length:=by
 unfold cK;exact(List.takeWhile_sublist p).length_le
theorem SE{p:UInt8->Bool}{l:lU}{k:Nat}(a:k<l.length)(h:cK p l=k+cK p (l.drop k))(hp:p l[k]=true):cK p l=(k+1)+cK p (l.drop (k+1)):=by
 rw[h,List.drop_eq_getElem_cons a];unfold cK;rw[List.takeWhile_cons_of_pos hp,List.length_cons];omega
theorem SF{p:UInt8->Bool}{l:lU}{k:Nat}(a:k<l.length)(h:cK p l=k+cK p (l.drop k))(hp:p l[k]=false):cK p l=k:=by
 rw[h,List.drop_eq_getElem_cons a];unfold cK;rw[List.takeWhile_cons_of_neg (by rw[hp];decide)];rfl
theorem YW{p:UInt8->Bool}{l:lU}(h:cK p l=l.length+cK p (l.drop l.length)):cK p l=l.length:=by
 rw[h,List.drop_of_length_le (lR _)];rfl
theorem Mq(s:bY)(f:s.size<=maxLen)(w:World):Calls prog 181 #[.string s,.func (.func 130) #[] #[]] w fun e w'=>e=.returned (.int .i64 (cK bA s.data.toList:Nat))/\w=w':=by
 unfold maxLen at f;have b:Hid (s.data.toList.length=s.size):=aA (by rw[Array.length_toList];rfl);go_enter func181,ntmps181;go_wp2;go_loop [5] (fun i=>∃k:Nat,k<=s.size/\i=.int .i64 k/\Hid (cK bA s.data.toList=k+cK bA (s.data.toList.drop k))) (fun i=>s.size - (intOf i).toNat)
 case atStart=>exact⟨0,qo,rfl,aA qs⟩
 case round=>
  obtain⟨k,g,rfl,a⟩:=hrel;by_cases c:k<s.size
  .have HC:=aA (iM s[k] w);have HG:Hid (bA s[k]=true->cK bA s.data.toList=(k+1)+cK bA (s.data.toList.drop (k+1))):=aA (fun h=>SE (by rw[b.o];exact c) a.o h);have HS:Hid (bA s[k]=false->cK bA s.data.toList=k):=aA (fun h=>SF (by rw[b.o];exact c) a.o h);clear a;generalize bA s[k]=d at *;exact QBq
  .obtain rfl:k=s.size:=qo;have HE:Hid (cK bA s.data.toList=s.size):=aA (by have:=a.o;rw[<-b.o] at this ⊢;exact YW this);clear a;exact rC
theorem Mr(s:bY)(f:s.size<=maxLen)(w:World):Calls prog 181 #[.string s,.func (.func 182) #[] #[]] w fun e w'=>e=.returned (.int .i64 (cK iJ s.data.toList:Nat))/\w=w':=by
 unfold maxLen at f;have b:Hid (s.data.toList.length=s.size):=aA (by rw[Array.length_toList];rfl);go_enter func181,ntmps181;go_wp2;go_loop [5] (fun i=>∃k:Nat,k<=s.size/\i=.int .i64 k/\Hid (cK iJ s.data.toList=k+cK iJ (s.data.toList.drop k))) (fun i=>s.size - (intOf i).toNat)
 case atStart=>exact⟨0,qo,rfl,aA qs⟩
 case round=>
  obtain⟨k,g,rfl,a⟩:=hrel;by_cases c:k<s.size
  .have HC:=aA (WO s[k] w);have HG:Hid (iJ s[k]=true->cK iJ s.data.toList=(k+1)+cK iJ (s.data.toList.drop (k+1))):=aA (fun h=>SE (by rw[b.o];exact c) a.o h);have HS:Hid (iJ s[k]=false->cK iJ s.data.toList=k):=aA (fun h=>SF (by rw[b.o];exact c) a.o h);clear a;generalize iJ s[k]=d at *;exact QBq
  .obtain rfl:k=s.size:=qo;have HE:Hid (cK iJ s.data.toList=s.size):=aA (by have:=a.o;rw[<-b.o] at this ⊢;exact YW this);clear a;exact rC
theorem EG(s:bY)(n:Nat):s.extract 0 n=bs (s.data.toList.take n):=by
 apply ByteArray.ext
 apply Array.ext'
 rw[kS];simp
theorem FK(s:bY)(g:s.size<=maxLen)(w:World):Calls prog 129 #[.string s] w fun e w'=>e=.returned (.string (bs (fZ s.data.toList)))/\w=w':=by
 have c:=aA (Mr s g w);have hle:=Fs iJ s.data.toList;have f:s.data.toList.length=s.size:=by rw[Array.length_toList];rfl
 rw[f] at hle;have a:Hid (bs (fZ s.data.toList)=if eK (s.extract 0 (cK iJ s.data.toList))=true then s.extract 0 (cK iJ s.data.toList) else ByteArray.empty):=aA (by
  unfold fZ;dsimp only;rw[<-EG];by_cases h:eK (s.extract 0 (cK iJ s.data.toList))=true
  .rw[iP h,iP h,<-EG]
  .rw[iN h,iN h];rfl)
 clear f;unfold maxLen at g;generalize cK iJ s.data.toList=n at *;have i:(s.extract 0 n).size<=maxLen:=by rw[ByteArray.size_extract];unfold maxLen;omega
 have d:=aA (fun w=>oP (s.extract 0 n) i w);have h1:(0:Int)<=(n:Int):=qo;have h2:(n:Int)<=(s.size:Int):=qo;clear i;go_enter func129,ntmps129;go_wp2_with fail;refine c.o.mono ?_;rintro e w' ⟨rfl,rfl⟩;go_wp2_with fail;refine(d.o w).mono ?_;rintro e w' ⟨rfl,rfl⟩;generalize eK (s.extract 0 n)=b at *
 cases b
 .have HE:Hid (bs (fZ s.data.toList)=ByteArray.empty):=aA (by have:=a.o;rwa [iN qs] at this);clear a d c;exact rC
 .have HE:Hid (bs (fZ s.data.toList)=s.extract 0 n):=aA (by have:=a.o;rwa [iP qs] at this);clear a d c;exact rC
theorem Ft(c:UInt8):fC c=(((decide (32<=(c.toNat:Int))&&decide ((c.toNat:Int)<=126))&&decide ((c.toNat:Int)≠34))&&decide ((c.toNat:Int)≠92)):=by
 unfold fC;have a:decide (32<=c.toNat)=decide (32<=(c.toNat:Int)):=decide_eq_decide.2 qo;have b:decide (c.toNat<=126)=decide ((c.toNat:Int)<=126):=decide_eq_decide.2 qo;have d:decide (c.toNat≠34)=decide ((c.toNat:Int)≠34):=decide_eq_decide.2 qo;have e:decide (c.toNat≠92)=decide ((c.toNat:Int)≠92):=decide_eq_decide.2 qo;rw[a,b,d,e]
theorem BY(c:UInt8)(w:World):Calls prog 183 #[.int .u8 (c.toNat:Int)] w fun e w'=>e=.returned (.bool (fC c))/\w=w':=by
 have a:=aA (Ft c);by_cases h1:32<=(c.toNat:Int)
 .have d1:decide ((c.toNat:Int) ≥ 32)=true:=dX h1;by_cases h2:(c.toNat:Int)<=126
  .have d2:decide ((c.toNat:Int)<=126)=true:=dX h2;by_cases h3:(c.toNat:Int)=34
   .have HE:Hid (fC c=false):=aA (by rw[a.o,dF (show ¬(c.toNat:Int)≠34 from fun h=>h h3),Bool.and_false];rfl);have d3:((c.toNat:Int) != 34)=false:=by rw[bne_eq_false_iff_eq];exact h3
    clear a h1 h2 h3;go_enter func183,ntmps183;exact rC
   .have d3:((c.toNat:Int) != 34)=true:=bne_iff_ne.2 h3;by_cases h4:(c.toNat:Int)=92
    .have HE:Hid (fC c=false):=aA (by rw[a.o,dF (show ¬(c.toNat:Int)≠92 from fun h=>h h4),Bool.and_false]);have d4:((c.toNat:Int) != 92)=false:=by rw[bne_eq_false_iff_eq];exact h4
     clear a h1 h2 h3 h4;go_enter func183,ntmps183;exact rC
    .have HE:Hid (fC c=true):=aA (by rw[a.o,dX h1,dX h2,dX h3,dX h4];rfl);have d4:((c.toNat:Int) != 92)=true:=bne_iff_ne.2 h4;clear a h1 h2 h3 h4;go_enter func183,ntmps183;exact rC
  .have d2:decide ((c.toNat:Int)<=126)=false:=dF h2;have HE:Hid (fC c=false):=aA (by rw[a.o,d2,Bool.and_false];rfl);clear a h1 h2;go_enter func183,ntmps183;exact rC
 .have d1:decide ((c.toNat:Int) ≥ 32)=false:=dF h1;have HE:Hid (fC c=false):=aA (by rw[a.o,dF h1];rfl);clear a h1;go_enter func183,ntmps183;exact rC
theorem Rd{p:Prop}(h:p:=by
 go_wp2;go_ret2
 exact⟨by rw[HE.o];rfl,0,rfl⟩):p:=h
theorem MD(n:Int)(h1:0<=n)(h2:n<256):IntKind.u8.wrap n=n:=IntWalk.u8_in n ⟨h1,qo⟩
theorem Fu{c:UInt8}(h:bA c=true):fB c=(c.toNat:Int) - 48:=by unfold fB;rw[iP h]
theorem Fv{c:UInt8}(h:bA c=false)(h1:97<=(c.toNat:Int))(h2:(c.toNat:Int)<=102):fB c=(c.toNat:Int) - 97+10:=by
 unfold fB;rw[h,iN qe,dX (show 97<=c.toNat by omega),dX (show c.toNat<=102 by omega)];rfl
theorem SG{c:UInt8}(h:bA c=false)(h1:¬(97<=(c.toNat:Int)/\(c.toNat:Int)<=102)):fB c= -1:=by
 unfold fB;have:(decide (97<=c.toNat)&&decide (c.toNat<=102))=false:=by
  rw[Bool.eq_false_iff];intro h2;rw[Bool.and_eq_true,decide_eq_true_eq,decide_eq_true_eq] at h2;exact h1 ⟨qo,qo⟩
 rw[h,iN qe,this];rfl
theorem YX(c:UInt8): -1<=fB c/\fB c<=15:=by
 cases a:bA c
 .by_cases h:97<=(c.toNat:Int)/\(c.toNat:Int)<=102
  .rw[Fv a h.1 h.2];omega
  .rw[SG a h];omega
 .rw[Fu a];have:=(eS c).1 a;omega
theorem zI(c:UInt8)(w:World):Calls prog 222 #[.int .u8 (c.toNat:Int)] w fun e w'=>e=.returned (.int .i64 (fB c))/\w=w':=by
 have b:=aA (iM c w)
 cases a:bA c
 .rw[a] at b;by_cases h1:97<=(c.toNat:Int)
  .have d1:decide ((c.toNat:Int) ≥ 97)=true:=dX h1;by_cases h2:(c.toNat:Int)<=102
   .have d2:decide ((c.toNat:Int)<=102)=true:=dX h2;have HE:=aA (Fv a h1 h2);have q1:IntKind.u8.wrap ((c.toNat:Int) - 97)=(c.toNat:Int) - 97:=MD _ qo qo;have d:IntKind.i64.wrap ((c.toNat:Int) - 97)=(c.toNat:Int) - 97:=IntWalk.i64_in _ qo;have g:IntKind.i64.wrap ((c.toNat:Int) - 97+10)=(c.toNat:Int) - 97+10:=IntWalk.i64_in _ qo;clear a h1 h2;go_enter func222,ntmps222;go_wp2_with fail;refine b.o.mono ?_;rintro e w' ⟨rfl,rfl⟩;exact rC
   .have d2:decide ((c.toNat:Int)<=102)=false:=dF h2;have HE:=aA (SG a (fun h=>h2 h.2));clear a h1 h2;go_enter func222,ntmps222;go_wp2_with fail;refine b.o.mono ?_;rintro e w' ⟨rfl,rfl⟩;exact rC
  .have d1:decide ((c.toNat:Int) ≥ 97)=false:=dF h1;have HE:=aA (SG a (fun h=>h1 h.1));clear a h1;go_enter func222,ntmps222;go_wp2_with fail;refine b.o.mono ?_;rintro e w' ⟨rfl,rfl⟩;exact rC
 .rw[a] at b;have HE:=aA (Fu a);have f:=(eS c).1 a;have q1:IntKind.u8.wrap ((c.toNat:Int) - 48)=(c.toNat:Int) - 48:=MD _ qo qo;have d:IntKind.i64.wrap ((c.toNat:Int) - 48)=(c.toNat:Int) - 48:=IntWalk.i64_in _ qo;clear a;go_enter func222,ntmps222;go_wp2_with fail;refine b.o.mono ?_;rintro e w' ⟨rfl,rfl⟩;exact rC
def qR(l:lU):UInt8×Bool:=
 match l with
 |a::b::c::_=>
  if a.toNat=92/\0<=fB b/\0<=fB c then (UInt8.ofNat (16 * (fB b).toNat+(fB c).toNat), !fC (UInt8.ofNat (16 * (fB b).toNat+(fB c).toNat)))
  else (0,false)
 |_=>(0,false)
theorem YY(l:lU):IB l=if (qR l).2=true then some (qR l).1 else none:=by
 match l with
 | []=>rfl
 | [_]=>rfl
 | [_,_]=>rfl
 |a::b::c::r=>
  by_cases h:a.toNat=92/\0<=fB b/\0<=fB c
  .have d:qR (a::b::c::r)=(UInt8.ofNat (16 * (fB b).toNat+(fB c).toNat), !fC (UInt8.ofNat (16 * (fB b).toNat+(fB c).toNat))):=iP h;have e:IB (a::b::c::r)=if fC (UInt8.ofNat (16 * (fB b).toNat+(fB c).toNat))=true then none else some (UInt8.ofNat (16 * (fB b).toNat+(fB c).toNat)):=iP h
   rw[d,e]
   cases fC (UInt8.ofNat (16 * (fB b).toNat+(fB c).toNat))<;>rfl
  .have d:qR (a::b::c::r)=(0,false):=iN h;have e:IB (a::b::c::r)=none:=iN h;rw[d,e];rfl
theorem Bc{l:lU}(h:3<=l.length):∃r,l=l[0] ::l[1] ::l[2] ::r:=by
 match l,h with
 |a::b::c::r,_=>exact⟨r,rfl⟩
theorem JH{l:lU}(h:l.length<3):qR l=(0,false):=by
 match l,h with
 | [],_=>rfl
 | [_],_=>rfl
 | [_,_],_=>rfl
theorem YZ{s:bY}(h:3<=s.size):qR s.data.toList=if s[0].toNat=92/\0<=fB s[1]/\0<=fB s[2] then (UInt8.ofNat (16 * (fB s[1]).toNat+(fB s[2]).toNat), !fC (UInt8.ofNat (16 * (fB s[1]).toNat+(fB s[2]).toNat))) else (0,false):=by
 have d:3<=s.data.toList.length:=by rw[Array.length_toList];exact h
 obtain⟨r,e⟩:=Bc d;have a:s.data.toList[0]=s[0]:=rfl;have b:s.data.toList[1]=s[1]:=rfl;have c:s.data.toList[2]=s[2]:=rfl;rw[e,a,b,c];rfl
theorem To{s:bY}(h:3<=s.size)(a:¬(s[0].toNat=92/\0<=fB s[1]/\0<=fB s[2])):qR s.data.toList=(0,false):=by rw[YZ h,iN a]
theorem Bd(s:bY)(C:s.size<=maxLen)(w:World):Calls prog 184 #[.string s] w fun e w'=>e=.returned (.tuple #[.int .u8 ((qR s.data.toList).1.toNat:Int),.bool (qR s.data.toList).2])/\∃n,w'=w.drewN n:=by
 unfold maxLen at C;by_cases h3:3<=s.size
 .have d3:decide ((s.size:Int)<3)=false:=dF qo;obtain⟨d,c,H1,g⟩:=dD (YZ h3) (To h3) (zI s[1] w) (zI s[2] w);have y:=YX s[1];have z:=YX s[2];have i0:(0:Int)<(s.size:Int):=qo;have D:(1:Int)<(s.size:Int):=qo;have i2:(2:Int)<(s.size:Int):=qo;by_cases h0:s[0].toNat=92
  .have d0:((s[0].toNat:Int) != 92)=false:=by rw[bne_eq_false_iff_eq];omega
   have B:s.data.toList.length=s.size:=by rw[Array.length_toList];rfl
   clear B;obtain⟨a,i⟩:=xE (fB s[1]);obtain⟨b,j⟩:=xE (fB s[2]);have o:=aA i;have p:=aA j;rw[<-i] at y H1 d c;rw[<-j] at z g d c;clear i j;by_cases ha:a<0
   .have HE:=aA (c.o (fun h=>by omega));have da:decide (a<0)=true:=dX ha;clear d c h0;go_enter func184,ntmps184;go_wp2_with fail;refine H1.o.mono ?_;rintro e w' ⟨rfl,rfl⟩;exact Rd
   .have da:decide (a<0)=false:=dF ha;by_cases r:b<0
    .have HE:=aA (c.o (fun h=>by omega));have A:decide (b<0)=true:=dX r;clear d c h0;go_enter func184,ntmps184;go_wp2_with fail;refine H1.o.mono ?_;rintro e w' ⟨rfl,rfl⟩;go_wp2_with fail;refine g.o.mono ?_;rintro e w' ⟨rfl,rfl⟩;exact Rd
    .have A:decide (b<0)=false:=dF r;obtain⟨q,m⟩:=xE (UInt8.ofNat (16 * a.toNat+b.toNat));have k:(q.toNat:Int)=16 * a+b:=by
      have:q.toNat=16 * a.toNat+b.toNat:=by rw[m,UInt8.toNat_ofNat'];omega
      omega
     have HE:Hid (qR s.data.toList=(q, !fC q)):=aA (by rw[d.o,iP ⟨h0,qo,qo⟩,m]);have f:=fun w=>BY q w
     rw[k] at f;have f:=aA f;have x:Hid ((q.toNat:Int)=16 * a+b):=aA k;have q1:IntKind.i64.wrap (16 * a)=16 * a:=IntWalk.i64_in _ qo;have t:IntKind.i64.wrap (16 * a+b)=16 * a+b:=IntWalk.i64_in _ qo;have v:IntKind.u8.wrap (16 * a+b)=16 * a+b:=MD _ qo qo;clear d c h0 m k;go_enter func184,ntmps184;go_wp2_with fail;refine H1.o.mono ?_;rintro e w' ⟨rfl,rfl⟩;go_wp2_with fail;refine g.o.mono ?_;rintro e w' ⟨rfl,rfl⟩;go_wp2;rw[o.o] at q1 t v;rw[p.o] at t v;go_quiet ((go_at_call 222;exact Calls.quiet_of_same (Md (zI _ _))))
     rw[<-o.o,<-p.o];go_wp2_with fail;refine(f.o _).mono ?_;rintro e w' ⟨rfl,rfl⟩;go_wp2;go_ret2
     exact⟨by rw[HE.o,x.o];rfl,⟨nq,rfl⟩⟩
  .have HE:=aA (c.o (fun h=>h0 h.1));have d0:((s[0].toNat:Int) != 92)=true:=bne_iff_ne.2 qo;clear d c h0;go_enter func184,ntmps184;exact Rd
 .have HE:=aA (JH (l:=s.data.toList) (by rw[Array.length_toList];show s.size<3;omega));have d3:decide ((s.size:Int)<3)=true:=dX qo;go_enter func184,ntmps184;exact Rd
theorem WQ(l:lU):strOfNums (l.map fun y=>(y.toNat:Int))=bs l:=by
 unfold strOfNums bs;rw[List.map_map]
 congr 2
 conv=>rhs;rw[<-List.map_id l]
 apply List.map_congr_left
 intro x _;simp
theorem WR{w:World}{B n:Nat}{v:Value}{l:lU}(h:w.ownsRow B 5 1 v n (bF l))(d:l.length=n):
 (convert 80 9 v).run prog w=.ok (.string (bs l)) w:=by
 subst d;have h2:=h
 rcases h.2 with ⟨e,b⟩|⟨g,cap,cur,e,_⟩
 .subst e;have c:l=[]:=List.eq_nil_of_length_eq_zero b;subst c;exact run_convert_bytes_nil (P:=prog) w _ 5 underlying80 underlying5 0 0 _ underlying9
 .subst e;have:=run_convert_bytes_arg (P:=prog) w 80 5 underlying80 underlying5 g 0 l.length cap (l.map fun y=>(y.toNat:Int)) qs (fun i a=>by
   rw[Nat.zero_add,h2.cellAt i qo,NP,gE a];simp[List.getD,a]) _ underlying9
  rwa [WQ] at this
def oA(s:bY)(k:Nat)(out:lU):Prop:=jR s.data.toList=lN (s.data.toList.drop k).length (s.data.toList.drop k) out k
theorem FL(f:Nat):∀(g:Nat) (l:lU) (out:lU) (k:Nat),l.length<=f->l.length<=g->lN f l out k=lN g l out k:=by
 induction f with
 |zero=>
  intro g l out k b a;have:l=[]:=List.eq_nil_of_length_eq_zero qo;subst this
  cases g<;>rfl
 |succ f e=>
  intro g l out k b a
  cases l with
  |nil=>cases g<;>rfl
  |cons c r=>
   cases g with
   |zero=>simp at a
   |succ g=>
    simp only[List.length_cons] at b a;unfold lN;by_cases h1:c.toNat=34
    .rw[iP h1,iP h1]
    .rw[iN h1,iN h1];by_cases h2:fC c=true
     .rw[iP h2,iP h2];exact e g r _ _ qo qo
     .rw[iN h2,iN h2]
      cases IB (c::r) with
      |none=>rfl
      |some d=>exact e g _ _ _ (by rw[List.length_drop];omega) (by rw[List.length_drop];omega)
theorem Be(s:bY):oA s 1 []:=by
 unfold oA jR;exact FL _ _ _ _ _ (by rw[List.length_drop];omega) (lR _)
structure Fw (s:ByteArray) (k:Nat) (out:List UInt8) (c:UInt8):Prop where
 quote:c.toNat=34->jR s.data.toList=if 64<out.length then ([],0) else (out,k+1)
 plain:¬c.toNat=34->fC c=true->oA s (k+1) (out++[c])
 no:¬c.toNat=34->fC c=false->(qR (s.data.toList.drop k)).2=false->jR s.data.toList=([],0)
 odd:¬c.toNat=34->fC c=false->(qR (s.data.toList.drop k)).2=true->oA s (k+3) (out++[(qR (s.data.toList.drop k)).1])/\k+3<=s.size
theorem Ms{l:lU}(h:(qR l).2=true):3<=l.length:=by
 rcases Nat.lt_or_ge l.length 3 with h1|h1
 .rw[JH h1] at h;exact absurd h qe
 .exact h1
theorem Fx{s:bY}{k:Nat}{out:lU}(b:k<s.size)(h:oA s k out):Fw s k out s[k]:=by
 have d:s.data.toList.length=s.size:=by rw[Array.length_toList];rfl
 have c:k<s.data.toList.length:=by rw[d];exact b
 unfold oA at h;have a:s.data.toList.drop k=s[k] ::s.data.toList.drop (k+1):=List.drop_eq_getElem_cons c;have hlen:(s.data.toList.drop k).length=(s.data.toList.drop (k+1)).length+1:=by rw[List.length_drop,List.length_drop];omega
 rw[hlen] at h;have h3:=h;rw[a] at h3;unfold lN at h3;refine⟨fun h1=> ?_,fun h1 h2=> ?_,fun h1 h2 h4=> ?_,fun h1 h2 h4=> ?_⟩
 .rw[iP h1] at h3;exact h3
 .rw[iN h1,iP h2] at h3;exact h3
 .rw[iN h1,iN (by rw[h2];decide),<-a,YY,h4] at h3;exact h3
 .rw[iN h1,iN (by rw[h2];decide),<-a,YY,h4] at h3;have hle:=Ms h4;rw[List.length_drop] at hle;refine⟨?_,qo⟩;unfold oA;rw[h3];show lN _ (List.drop 2 (List.drop (k+1) s.data.toList)) _ _=_;rw[List.drop_drop,show k+1+2=k+3 by omega];exact FL _ _ _ _ _ (by rw[List.length_drop,List.length_drop];omega) (lR _)
theorem Mt{s:bY}{k:Nat}{out:lU}(a:¬k<s.size)(h:oA s k out):jR s.data.toList=([],0):=by
 have b:s.data.toList.length=s.size:=by rw[Array.length_toList];rfl
 unfold oA at h;rw[h,List.drop_of_length_le qo];rfl
set_option maxRecDepth 512 in
theorem yI(s:bY)(k:Nat)(b:k<=s.size):(s.extract k s.size).data.toList=s.data.toList.drop k:=by
 have h:(s.extract k s.size).data=s.data.extract k s.size:=ByteArray.data_extract;rw[h,Array.toList_extract];have a:s.data.toList.length=s.size:=by rw[Array.length_toList];rfl
 show (s.data.toList.drop k).take (s.size - k)=s.data.toList.drop k;exact List.take_of_length_le (by rw[List.length_drop,a];omega)
set_option maxRecDepth 3000 in
theorem WT(s:bY)(hs:s.size<=4096)(w:World):Calls prog 132 #[.string s] w fun e w'=>e=.returned (.tuple #[.string (bs (jR s.data.toList).1),.int .i64 ((jR s.data.toList).2:Nat)])/\Below w.heap.size w w':=by
 obtain⟨i0,hi,ae,af,ag⟩:=info_parts uU;obtain⟨W,X,Y,Z⟩:=dD hi ae af ag;clear hi ae af ag;have V:=aA (Be s);go_enter func132,ntmps132;go_wp2;go_loopw [4,5] (fun o i wr=>∃(k:Nat) (out:lU) (v:Value),v=o/\k<=s.size+1/\i=.int .i64 k/\Hid (oA s k out)/\Hid (out.length<=k)/\Hid (wr.ownsRow w.heap.size 5 1 v out.length (bF out))/\Hid (Below w.heap.size w wr)) (fun _ i _=>s.size - (intOf i).toNat)
 case atStart=>exact⟨1,[],_,rfl,qo,rfl,V,aA qs,aA (World.ownsRow_nil _ _ _ _),aA (Below.refl _ _)⟩
 case round=>
  clear V;obtain⟨k,out,v,rfl,hk,rfl,G,l,F,j⟩:=hrel;by_cases aa:k<s.size
  .have n:=aA (Fx aa G.o);obtain⟨A,c,rfl,-,-,-⟩:=lK F.o;have g:=aA (fun w=>BY s[k] w);clear G;by_cases h34:s[k].toNat=34
   .have d34:((s[k].toNat:Int)==34)=true:=bQ.2 qo;have q:=n.o.quote h34;have hx:=WR F.o rfl;clear n g h34;by_cases h64:64<out.length
    .rw[iP h64] at q;have S:=aA q;have d64:decide ((out.length:Int) > 64)=true:=dX qo;clear q;go_wp2;go_ret2
     exact⟨by rw[S.o];rfl,j.o⟩
    .rw[iN h64] at q;have S:=aA q;have d64:decide ((out.length:Int) > 64)=false:=dF qo;have q1:IntKind.i64.wrap ((k:Int)+1)=(k:Int)+1:=IntWalk.i64_in _ qo;clear q;go_wp2;go_ret2
     exact⟨by rw[S.o];rfl,j.o⟩
   .have d34:((s[k].toNat:Int)==34)=false:=bN.2 qo;obtain⟨R,M,P⟩:=aY (n.o.plain h34) (n.o.no h34) (n.o.odd h34);clear n h34;by_cases E:fC s[k]=true
    .have T:=aA (R.o E);rw[E] at g;clear R M P E;have Q:=F;have r:=j;obtain⟨a,aj⟩:=xE wr;subst aj;have C:=Q.o.alloc (.cells #[.int .u8 (s[k].toNat:Int)] 5);have z:Sl (a.alloc (.cells #[.int .u8 (s[k].toNat:Int)] 5)) (a.heap.size+1) (some ⟨a.heap.size,0,none⟩) (bF [s[k]]):=Sl.laid a _ _ _ _ rfl;have y:=r.o.alloc r.o.size (.cells #[.int .u8 (s[k].toNat:Int)] 5);obtain⟨N,x,K,f⟩:=dD (tP [s[k]]) C z y;clear C z y;go_wp2_with fail;refine(g.o _).mono ?_;rintro e w' ⟨rfl,rfl⟩;clear g;go_wp2_with ((at_builtin;refine lJ _ rfl (.tmp 27) (.tmp 31) 80 rfl w.heap.size 5 i0 (.int .u8 0) 1 1 underlying80 W.o X.o Y.o Z.o rfl qe _ out.length _ rfl x.o (a.heap.size+1) (some ⟨a.heap.size,0,none⟩) 1 1 (bF [s[k]]) rfl rfl K.o N.o (by unfold maxLen;have:=l.o;omega) (qA l.o) f.o.size ?_;intro v3 w3 D B U;have J:=aA (dU x.o f.o B (lR _) f.o.size);have O:=aA D;clear D B U))
     go_roundw
     case rel=>exact⟨k+1,out++[s[k]],_,rfl,qo,by go_num,T,aA (by rw[aL,List.length_singleton];have:=l.o;omega),aA (by rw[iU,aL];exact O.o),J⟩
     case measure=>simp[intOf];omega
    .have H:fC s[k]=false:=by simpa using E
     rw[H] at g;have ai:k<=s.size:=qo;have ad:(s.extract k s.size).size<=maxLen:=by rw[ByteArray.size_extract];unfold maxLen;omega
     have b:=fun w=>Bd (s.extract k s.size) ad w
     rw[yI s k ai] at b;obtain⟨b,t,m⟩:=aY b (M.o H) (P.o H);have i1:(0:Int)<=(k:Int):=qo;have i2:(k:Int)<=(s.size:Int):=qo;clear R M P E ad H
     rcases ab:qR (s.data.toList.drop k) with ⟨d,ok⟩
     rw[ab] at b t m;simp only at b t m;clear ab
     cases ok
     .have L:=aA (t.o qs);clear t m;go_wp2_with fail;refine(g.o _).mono ?_;rintro e w' ⟨rfl,rfl⟩;go_wp2_with fail;refine(b.o _).mono ?_;rintro e wd ⟨rfl,I,p⟩;have ah:=aA (fI j.o ⟨I,p⟩);clear b p;go_wp2;go_ret2
      exact⟨by rw[L.o];rfl,ah.o⟩
     .have T:=aA (m.o qs).1;have ak:k+3<=s.size:=(m.o qs).2;clear t m;go_wp2_with fail;refine(g.o _).mono ?_;rintro e w' ⟨rfl,rfl⟩;go_wp2_with fail;refine(b.o _).mono ?_;rintro e a ⟨rfl,I,p⟩;have Q:=aA (Fe F.o ⟨I,p⟩);have r:=aA (fI j.o ⟨I,p⟩);clear b p;have C:=Q.o.alloc (.cells #[.int .u8 (d.toNat:Int)] 5);have z:Sl (a.alloc (.cells #[.int .u8 (d.toNat:Int)] 5)) (a.heap.size+1) (some ⟨a.heap.size,0,none⟩) (bF [d]):=Sl.laid a _ _ _ _ rfl;have y:=r.o.alloc r.o.size (.cells #[.int .u8 (d.toNat:Int)] 5);obtain⟨N,x,K,f⟩:=dD (tP [d]) C z y;clear C z y;go_wp2_with ((at_builtin;refine lJ _ rfl (.tmp 44) (.tmp 46) 80 rfl w.heap.size 5 i0 (.int .u8 0) 1 1 underlying80 W.o X.o Y.o Z.o rfl qe _ out.length _ rfl x.o (a.heap.size+1) (some ⟨a.heap.size,0,none⟩) 1 1 (bF [d]) rfl rfl K.o N.o (by unfold maxLen;have:=l.o;omega) (qA l.o) f.o.size ?_;intro v3 w3 D B U;have J:=aA (dU x.o f.o B (lR _) f.o.size);have O:=aA D;clear D B U))
      go_roundw
      case rel=>exact⟨k+3,out++[d],_,rfl,qo,by go_num,T,aA (by rw[aL,List.length_singleton];have:=l.o;omega),aA (by rw[iU,aL];exact O.o),J⟩
      case measure=>simp[intOf];omega
  .have L:=aA (Mt aa G.o);clear G;go_wp2;go_ret2
   exact⟨by rw[L.o];rfl,j.o⟩
theorem QBY{p:Prop}(h:p:=by
 intro t ht
 rcases List.mem_append.1 ht with ht|ht
 .exact h.place t ht
 .rw[List.mem_singleton] at ht;subst ht;exact⟨by show (0:Int)<=k;omega,by show (k:Int)<=4096;omega⟩):p:=h
theorem wT:∀(f:Nat) (l out:lU) (k:Nat),(lN f l out k).2<=k+l.length/\(lN f l out k).1.length<=64
 |0,_,_,_=>⟨Nat.zero_le _,by simp[lN]⟩
 |_+1,[],_,_=>⟨Nat.zero_le _,by simp[lN]⟩
 |f+1,c::r,out,k=>by
  unfold lN;by_cases h1:c.toNat=34
  .rw[iP h1];by_cases h2:64<out.length
   .rw[iP h2];exact⟨Nat.zero_le _,qs⟩
   .rw[iN h2];exact⟨by simp only[List.length_cons];omega,by show out.length<=64;omega⟩
  .rw[iN h1];by_cases h2:fC c=true
   .rw[iP h2];have:=wT f r (out++[c]) (k+1);exact⟨by simp only[List.length_cons];omega,this.2⟩
   .rw[iN h2]
    cases e:IB (c::r) with
    |none=>exact⟨Nat.zero_le _,qs⟩
    |some d=>
     have:=wT f (r.drop 2) (out++[d]) (k+3);rw[List.length_drop] at this;have h3:2<=r.length:=by
      unfold IB at e
      rcases r with _|⟨a,_|⟨b,t⟩⟩
      .simp at e
      .simp at e
      .simp
     exact⟨by simp only[List.length_cons];omega,this.2⟩
theorem Mu(l:lU):(jR l).2<=l.length+1/\(jR l).1.length<=64:=by
 unfold jR;have:=wT l.length (l.drop 1) [] 1;rw[List.length_drop] at this;exact⟨qo,this.2⟩
theorem Fy{l:lU}(h:0<l.length):(jR l).2<=l.length:=by
 unfold jR;have:=wT l.length (l.drop 1) [] 1;rw[List.length_drop] at this;omega
theorem ME(p:UInt8->Bool)(l:lU):cK p l<=l.length:=Fs p l
theorem rQ(neg:Bool)(l:lU):(dW neg l).2<=l.length/\bK (dW neg l).1:=by
 unfold dW;dsimp only;have:=ME bA l;have h0:bK 0:=by unfold bK;omega
 split
 .exact⟨Nat.zero_le _,h0⟩
 .cases neg
  .rw[iN qe];split
   .exact⟨this,by unfold bK;omega⟩
   .exact⟨Nat.zero_le _,h0⟩
  .rw[iP rfl];split
   .exact⟨this,by unfold bK;omega⟩
   .exact⟨Nat.zero_le _,h0⟩
theorem zJ(l:lU):(fZ l).length<=l.length/\(fZ l).length<=16:=by
 unfold fZ;dsimp only;split
 .rename_i h;have:=(Fj h).2;rw[cG] at this;exact⟨List.length_take_le' _ _,this⟩
 .exact⟨Nat.zero_le _,qs⟩
structure Bf (l:List UInt8) (t:Tok) (n:Nat):Prop where
 le:n<=l.length
 aCJ:n≠0->1<=t.aCJ/\t.aCJ<=6
 size:t.str.size<=4096
 num:bK t.num
 place:t.at_=0
theorem qC(l:lU)(i:l.length<=4096):Bf l (bX l).1 (bX l).2:=by
 have h0:bK 0:=by unfold bK;omega
 have a:(bs []).size<=4096:=by rw[cG];simp
 rcases l with _|⟨c,r⟩
 .exact⟨Nat.zero_le _,fun h=>absurd rfl h,a,h0,rfl⟩
 .unfold bX;dsimp only;have e:=zJ (c::r);have j:=zJ r;have b:=rQ false (c::r);have d:=rQ false r;have f:=rQ true r;have k:=Mu (c::r);have g:=Fy (l:=c::r) qs;simp only[List.length_cons] at *;split
  .exact⟨e.1,fun _=>⟨qs,qs⟩,by show (bs (fZ (c::r))).size<=4096;rw[cG];omega,h0,rfl⟩
  split
  .exact⟨b.1,fun _=>⟨qs,qs⟩,a,b.2,rfl⟩
  split
  .split
   .exact⟨Nat.zero_le _,fun h=>absurd rfl h,a,h0,rfl⟩
   .exact⟨by show (dW true r).2+1<=r.length+1;omega,fun _=>⟨qs,qs⟩,a,f.2,rfl⟩
  split
  .split
   .exact⟨Nat.zero_le _,fun h=>absurd rfl h,a,d.2,rfl⟩
   .exact⟨by show (dW false r).2+1<=r.length+1;omega,fun _=>⟨qs,qs⟩,a,d.2,rfl⟩
  split
  .refine⟨by show (if fZ r=[] then 0 else (fZ r).length+1)<=r.length+1;split<;>omega,fun _=>⟨qs,qs⟩,by show (bs (fZ r)).size<=4096;rw[cG];omega,h0,rfl⟩
  split
  .exact⟨g,fun _=>⟨qs,qs⟩,by show (bs (jR (c::r)).1).size<=4096;rw[cG];omega,h0,rfl⟩
  split
  .exact⟨qs,fun _=>⟨qs,qs⟩,by show (bs [c]).size<=4096;rw[cG];simp,h0,rfl⟩
  .exact⟨Nat.zero_le _,fun h=>absurd rfl h,a,h0,rfl⟩
structure pI (out:List Tok) (k:Nat):Prop where
 len:out.length<=k
 size:∀t∈out,t.str.size<=4096
 num:∀t∈out,bK t.num
 place:∀t∈out,0<=t.at_/\t.at_<=4096
 aCJ:∀t∈out,1<=t.aCJ/\t.aCJ<=6
theorem pI.nil(k:Nat):pI [] k:=⟨Nat.zero_le _,qs,qs,qs,qs⟩
theorem pI.snoc{out:List Tok}{k:Nat}(h:pI out k){l:lU}(d:k+l.length<=4096)(c:(bX l).2≠0):pI (out++[{(bX l).1 with at_:=(k:Int)}]) (k+(bX l).2):=by
 have a:=qC l qo;have b:=a.aCJ c;refine⟨by rw[aL,List.length_singleton];have:=h.len;omega,?_,?_,?_,?_⟩
 .intro t ht
  rcases List.mem_append.1 ht with ht|ht
  .exact h.size t ht
  .rw[List.mem_singleton] at ht;subst ht;exact a.size
 .intro t ht
  rcases List.mem_append.1 ht with ht|ht
  .exact h.num t ht
  .rw[List.mem_singleton] at ht;subst ht;exact a.num
 .exact QBY
 .intro t ht
  rcases List.mem_append.1 ht with ht|ht
  .exact h.aCJ t ht
  .rw[List.mem_singleton] at ht;subst ht;exact b
theorem pI.aD1{out:List Tok}{k:Nat}(h:pI out k)(c:k<=4096):Toks (out++[⟨7,k,0,bs []⟩]):=by
 have d:=h.len;refine⟨by rw[aL,List.length_singleton];omega,?_,?_,?_,?_,?_⟩
 .intro i t ht b;rw[aL,List.length_singleton]
  rcases Nat.lt_or_ge i out.length with h1|h1
  .omega
  .rw[List.getElem?_append_right h1] at ht
   rcases a:i - out.length with _|j
   .rw[a] at ht;simp at ht;subst ht;exact absurd rfl b
   .rw[a] at ht;simp at ht
 .intro t ht
  rcases List.mem_append.1 ht with ht|ht
  .exact h.size t ht
  .rw[List.mem_singleton] at ht;subst ht;show (bs []).size<=4096;rw[cG];simp
 .intro t ht
  rcases List.mem_append.1 ht with ht|ht
  .exact h.num t ht
  .rw[List.mem_singleton] at ht;subst ht;show bK 0;unfold bK;omega
 .exact QBY
 .intro t ht
  rcases List.mem_append.1 ht with ht|ht
  .have:=h.aCJ t ht;omega
  .rw[List.mem_singleton] at ht;subst ht;exact⟨qs,qs⟩
theorem zK:∀(f:Nat) (l:lU) (k:Nat) (out:List Tok),k+l.length<=4096->pI out k->(jI f l k out).2.1=0->Toks (jI f l k out).1/\0<(jI f l k out).1.length
 |0,l,k,out,_,_,h=>absurd h (by simp[jI])
 |f+1,[],k,out,hk,ha,_=>by
  simp only[jI];exact⟨ha.aD1 (by simpa using hk),qs⟩
 |f+1,c::r,k,out,hk,ha,h=>by
  simp only[List.length_cons] at hk;unfold jI at h ⊢;dsimp only at h ⊢;by_cases h1:c.toNat=32\/c.toNat=10
  .rw[iP h1] at h ⊢;exact zK f r (k+1) out qo ⟨qA ha.len,ha.size,ha.num,ha.place,ha.aCJ⟩ h
  .rw[iN h1] at h ⊢;by_cases h2:(bX (c::r)).2=0
   .rw[iP h2] at h;exact absurd h qs
   .rw[iN h2] at h ⊢;have a:=qC (c::r) (by simp only[List.length_cons];omega);have hle:=a.le;simp only[List.length_cons] at hle;exact zK f _ _ _ (by rw[List.length_drop];simp only[List.length_cons];omega) (ha.snoc (by simp only[List.length_cons];omega) h2) h
theorem SH{l:lU}(h:(jM l).2.1=0):Toks (jM l).1/\0<(jM l).1.length:=by
 unfold jM at h ⊢;by_cases h1:4096<l.length
 .rw[iP h1] at h;exact absurd h qs
 .rw[iN h1] at h ⊢;exact zK _ _ _ _ qo (pI.nil 0) h
section
open Go.Lib
def mP(a:Nat)(c:UInt8):Nat:=a * 10+(c.toNat - 48)
theorem Fz:∀(l:lU) (a:Nat),a<=l.foldl mP a
 | [],a=>lR _
 |c::l,a=>lT (show a<=mP a c by unfold mP;omega) (Fz l _)
theorem NX:∀(l:lU) (a:Nat),(∀c∈l,bA c=true)->a<18446744073709551616->
 parseUint10 a l=if l.foldl mP a<18446744073709551616 then .ok (l.foldl mP a) else .range
 | [],a,_,ha=>by
   show NumEnd.ok a=if a<18446744073709551616 then NumEnd.ok a else NumEnd.range
   rw[iP ha]
 |c::l,a,hd,ha=>by
  have d:=(eS c).1 (hd c qs);show parseUint10 a (c::l)=if l.foldl mP (mP a c)<18446744073709551616 then NumEnd.ok (l.foldl mP (mP a c)) else NumEnd.range
  unfold parseUint10;rw[iP qo];have b:mP a c=a * 10+(c.toNat - 48):=rfl;have e:=Fz l (mP a c);by_cases h1:1844674407370955162<=a
  .rw[iP h1,iN qo]
  .rw[iN h1];by_cases h2:18446744073709551616<=a * 10+(c.toNat - 48)
   .rw[iP h2,iN qo]
   .rw[iN h2,<-b];exact NX l _ (fun c h=>hd c (by simp[h])) qo
theorem zL:∀(l:lU),∀c∈l.take (cK bA l),bA c=true
 | [],c,a=>by simp[cK] at a
 |x::l,c,a=>by
  unfold cK at a;by_cases b:bA x=true
  .rw[List.takeWhile_cons_of_pos b,List.length_cons,List.take_succ_cons] at a
   rcases List.mem_cons.1 a with rfl|a
   .exact b
   .exact zL l c a
  .rw[List.takeWhile_cons_of_neg b] at a;simp at a
theorem BZ{l:lU}(h:¬(cK bA l=0\/(1<cK bA l/\l.head?=some 48))):l.take (cK bA l)≠[]:=by
 intro e;have h1:=congrArg List.length e;rw[List.length_take] at h1;have:=ME bA l;simp only[List.length_nil] at h1;exact h (.inl qo)
theorem ZA{l:lU}(a:∀c∈l,bA c=true)(b:l≠[]):parseMag l=if pS l<18446744073709551616 then .ok (pS l) else .range:=by
 unfold parseMag;rw[iN b,NX l 0 a qo];rfl
theorem zM{l:lU}(a:∀c∈l,bA c=true)(b:l≠[]):atoiAll l=if pS l<=9223372036854775807 then .ok (pS l:Int) else .range:=by
 rcases l with _|⟨c,r⟩
 .exact absurd rfl b
 .have d:=(eS c).1 (a c qs);rw[atoiAll_plain c r qo qo,ZA a b];by_cases h1:pS (c::r)<18446744073709551616
  .rw[iP h1];simp only[signless];by_cases h2:pS (c::r)<=9223372036854775807
   .rw[iP h2,iN qo]
   .rw[iN h2,iP qo]
  .rw[iN h1,iN qo];rfl
theorem IG{l:lU}(a:∀c∈l,bA c=true)(b:l≠[]):atoiAll (45 ::l)=if pS l<=9223372036854775808 then .ok (-(pS l:Int)) else .range:=by
 rw[atoiAll_minus,ZA a b];by_cases h1:pS l<18446744073709551616
 .rw[iP h1];simp only[signed];by_cases h2:pS l<=9223372036854775808
  .rw[iP h2,iN qo]
  .rw[iN h2,iP qo]
 .rw[iN h1,iN qo];rfl
theorem Tp{neg:Bool}{l:lU}(h:cK bA l=0\/(1<cK bA l/\l.head?=some 48)):dW neg l=(0,0):=by
 unfold dW;dsimp only;rw[iP h]
theorem Tq{neg:Bool}{l:lU}{v:Int}(h:¬(cK bA l=0\/(1<cK bA l/\l.head?=some 48)))(ha:atoiAll ((if neg=true then [45] else [])++l.take (cK bA l))=.ok v):dW neg l=(v,cK bA l):=by
 have a:=zL l;have b:=BZ h;unfold dW;dsimp only;rw[iN h]
 cases neg
 .rw[iN qe,List.nil_append,zM a b] at ha;rw[iN qe];split at ha
  .rename_i h2;injection ha with ha;rw[iP h2,ha]
  .cases ha
 .rw[iP rfl] at ha;rw[show[45]++l.take (cK bA l)=45 ::l.take (cK bA l) from rfl,IG a b] at ha;rw[iP rfl];split at ha
  .rename_i h2;injection ha with ha;rw[iP h2,ha]
  .cases ha
theorem Bg{neg:Bool}{l:lU}(h:¬(cK bA l=0\/(1<cK bA l/\l.head?=some 48)))(ha:atoiAll ((if neg=true then [45] else [])++l.take (cK bA l))=.range):dW neg l=(0,0):=by
 have a:=zL l;have b:=BZ h;unfold dW;dsimp only;rw[iN h]
 cases neg
 .rw[iN qe,List.nil_append,zM a b] at ha;rw[iN qe];split at ha
  .cases ha
  .rename_i h2;rw[iN h2]
 .rw[iP rfl] at ha;rw[show[45]++l.take (cK bA l)=45 ::l.take (cK bA l) from rfl,IG a b] at ha;rw[iP rfl];split at ha
  .cases ha
  .rename_i h2;rw[iN h2]
theorem JI{neg:Bool}{l:lU}(h:¬(cK bA l=0\/(1<cK bA l/\l.head?=some 48))):atoiAll ((if neg=true then [45] else [])++l.take (cK bA l))≠Lib.NumEnd.syntax:=by
 have a:=zL l;have b:=BZ h
 cases neg
 .rw[iN qe,List.nil_append,zM a b];split<;>simp
 .rw[iP rfl,show[45]++l.take (cK bA l)=45 ::l.take (cK bA l) from rfl,IG a b];split<;>simp
end
theorem QCB{p:Prop}(h:p:=by
 go_enter func131,ntmps131;go_wp2_with fail;refine(HR.o).mono ?_;rintro e w' ⟨rfl,rfl⟩;go_wp2;go_ret2
 exact⟨rfl,Below.refl _ _⟩):p:=h
theorem QAT{p:Prop}(h:p:=by
 clear HNE h1;go_enter func131,ntmps131;go_wp2_with fail;refine(HR.o).mono ?_;rintro e w' ⟨rfl,rfl⟩;go_wp2_with fail;refine(HC.o).mono ?_;rintro e w1 ⟨v,ev,rfl,hv,hb1⟩;have HB:=aA hb1;clear hb1 HC HR
 rcases ha:Lib.atoiAll (sg++s.extract 0 n).data.toList with u|_|_
 .rw[ha] at hv;obtain⟨rfl,rfl⟩:=hv;have HE:=aA (HAX.o.2.1 v ha);clear HAX ha;go_wp2;go_ret2
  exact⟨by rw[HE.o];rfl,HB.o⟩
 .exact absurd ha HAX.o.1
 .rw[ha] at hv;obtain⟨t,p,rfl⟩:=hv;have HE:=aA (HAX.o.2.2 ha);clear HAX ha;go_wp2;go_ret2
  exact⟨by rw[HE.o];rfl,HB.o⟩):p:=h
def gU(w:World):Prop:=∃a,w.cell? ⟨2,0,none⟩=some a/\(a=.nilIface\/∃c b,a=.iface c b)
theorem gU.lt{w:World}(h:gU w):2<w.heap.size:=by
 obtain⟨a,h1,_⟩:=h
 rcases Nat.lt_or_ge 2 w.heap.size with h|h
 .exact h
 .simp[World.cell?,Array.getElem?_eq_none h] at h1
theorem gU.on{w w':World}(h:gU w)(b:Below w.heap.size w w'):gU w':=by
 have c:=h.lt;obtain⟨a,h1,h2⟩:=h;exact⟨a,(b.cell (p:=⟨2,0,none⟩) c).trans h1,h2⟩
theorem gU.stay{w w':World}{ok:nP}(h:gU w)(b:aN ok w w')(c:ok 2):gU w':=by
 obtain⟨a,h1,h2⟩:=h;exact⟨a,b.cell (p:=⟨2,0,none⟩) c h1,h2⟩
def rR(v1 v2:Value)(w:World)(e:Ending)(w':World):Prop:=e=.returned (.tuple #[v1,v2])/\Below w.heap.size w w'
def SI(l:lU)(w:World)(e:Ending)(w':World):Prop:=∃(v:Int) (a:Value),e=.returned (.tuple #[.int .i64 v,a])/\(match Lib.atoiAll l with | .ok u=>v=u/\a=.nilIface|_=>∃t p,a=.iface t p)/\Below w.heap.size w w'
theorem SJ(s:bY)(d:s.size<=100000)(h:Lib.atoiAll s.data.toList≠Lib.NumEnd.syntax)(w:World)(c:gU w):Calls prog 36 #[.string s] w (SI s.data.toList w):=by
 unfold SI
 rcases ha:Lib.atoiAll s.data.toList with v|_|_
 .refine(strconv_Atoi_ok s qo v ha w).mono ?_;rintro e w' ⟨rfl,hw⟩;refine⟨v,.nilIface,rfl,⟨rfl,rfl⟩,?_⟩
  rcases hw with rfl|⟨t,rfl⟩
  .exact Below.refl _ _
  .exact Lib.bytesWorld_below _ _ _
 .exact absurd ha h
 .obtain⟨a,h1,h2⟩:=c;refine(strconv_Atoi_range s qo ha a w h1 h2).mono ?_;rintro e w' ⟨N,rfl,_,_,b⟩;exact⟨_,_,rfl,⟨_,_,rfl⟩,b⟩
theorem uK(neg:Bool)(sg s:bY)(j:sg.data.toList=if neg=true then [45] else [])(y:s.size<=4096)(w:World)(l:gU w):
 Calls prog 131 #[.string sg,.string s] w (rR (.int .i64 (dW neg s.data.toList).1) (.int .i64 (dW neg s.data.toList).2) w):=by
 have HR:=aA (Mq s (by unfold maxLen;omega) w);have hle:=ME bA s.data.toList;have c:s.data.toList.length=s.size:=by rw[Array.length_toList];rfl
 rw[c] at hle;unfold rR;by_cases a:cK bA s.data.toList=0\/(1<cK bA s.data.toList/\s.data.toList.head?=some 48)
 .rw[Tp a];have d:Hid (cK bA s.data.toList=0\/(1<cK bA s.data.toList/\s.data.toList.head?=some 48)):=aA a
  rcases a with h0|⟨h1,h2⟩
  .rw[h0] at HR;clear hle h0 d c;exact QCB
  .generalize cK bA s.data.toList=n at *;have o:0<s.size:=qo;have h48:(s[0].toNat:Int)=48:=by
    have h3:s.data.toList.head?=some s[0]:=by
     rw[List.head?_eq_getElem?,gE qo];rfl
    rw[h3] at h2;injection h2 with h2;rw[h2];rfl
   have k:((n:Int)==0)=false:=bN.2 qo;have g:decide ((n:Int) > 1)=true:=dX qo;clear d c h2;exact QCB
 .have d:=aA a;have f:=aA (fun (x:bY) (b:x.data.toList=(if neg=true then [45] else [])++s.data.toList.take (cK bA s.data.toList))=>(show _/\_/\_ from ⟨by rw[b];exact JI a,fun u hu=>Tq (neg:=neg) a (by rw[<-b];exact hu),fun hu=>Bg (neg:=neg) a (by rw[<-b];exact hu)⟩:Lib.atoiAll x.data.toList≠Lib.NumEnd.syntax/\(∀u,Lib.atoiAll x.data.toList=.ok u->dW neg s.data.toList=(u,cK bA s.data.toList))/\(Lib.atoiAll x.data.toList=.range->dW neg s.data.toList=(0,0))));have h0:cK bA s.data.toList≠0:=fun h=>a (.inl h)
  have b:(sg++s.extract 0 (cK bA s.data.toList)).data.toList=(if neg=true then [45] else [])++s.data.toList.take (cK bA s.data.toList):=by
   rw[EG,ByteArray.data_append,Array.toList_append,j,kS]
  have HAX:=aA (f.o _ b);have z:sg.size<=1:=by
   have:sg.size=sg.data.toList.length:=by rw[Array.length_toList];rfl
   rw[this,j];split<;>simp
  have m:(sg++s.extract 0 (cK bA s.data.toList)).size<=5000:=by
   rw[ByteArray.size_append,ByteArray.size_extract];omega
  have i:1<cK bA s.data.toList->(s.data.toList.head?≠some 48):=fun h1 h2=>a (.inr ⟨h1,h2⟩)
  generalize cK bA s.data.toList=n at *;have HC:=aA (SJ (sg++s.extract 0 n) qo HAX.o.1 w l);have A:(0:Int)<=n:=qo;have i2:(n:Int)<=s.size:=qo;have k:((n:Int)==0)=false:=bN.2 qo;have o:0<s.size:=qo;have r:¬9223372036854775807<sg.size+n:=qo;have HNE:Hid (1<n->((s[0].toNat:Int)==48)=false):=aA (fun h=>bN.2 (fun h48=>i h (by
   rw[List.head?_eq_getElem?,gE (show 0<s.data.toList.length by omega)]
   congr 1
   apply UInt8.toNat_inj.1
   show s[0].toNat=48;omega)))
  clear f b m d a c i;by_cases h1:1<n
  .have g:decide ((n:Int) > 1)=true:=dX qo;have q:=HNE.o h1;exact QAT
  .have g:decide ((n:Int) > 1)=false:=dF qo;exact QAT
theorem QCP{p:Prop}(h:p:=by
 have:(s.extract 1 s.size).data.toList.length=(s.extract 1 s.size).size:=by rw[Array.length_toList];rfl
 omega):p:=h
theorem Wt{p:Prop}(h:p:=by
 go_wp2_with fail;refine(HN.o _).mono ?_;rintro e w' ⟨rfl,rfl⟩;go_wp2;go_returns;exact⟨rfl,((Below.refl _ _).alloc (lR _) _).alloc qs _⟩):p:=h
theorem QAX{p:Prop}(h:p:=by
 go_enter func71,ntmps71;go_wp2_with fail;refine(HD.o _).mono ?_;rintro e w' ⟨rfl,rfl⟩;go_wp2_with fail;refine(HN.o _ (HG.o.on (aC (aB w _) (aB _ _)))).mono ?_;rintro e w1 ⟨rfl,hb1⟩;obtain⟨b0,b1,hlt,hb⟩:=rD hb1;obtain⟨⟨x0,x1,x2,x3⟩,f0,f1,f2,f3⟩:=nK b1;obtain⟨⟨y0,y1,y2,y3⟩,g0,g1,g2,g3⟩:=nK b0;have HB:=aA hb;clear b0 b1 hb hb1 HN;clear HD;go_wp2;refine bR (.tuple #[.agg #[.int .i64 3,.int .i64 0,.int .i64 nm.1,.string ⟨#[]⟩],.int .i64 0]) ?_;exact⟨rfl,by have hb:=HB.o;go_grown⟩):p:=h
theorem bR{fn:Func}{R:Ending->World->Prop}{a:Act}{w:World}(v:Value)(q:R (.returned v) w)(c:(results fn a.tmps).run prog w=.ok v w:=by simp[results,results8,results13,results17,results21,results24,results47,results52,results55,results57,results59,results60,results71,results75,results78,results88,results94,results95,results96,results97,results104,results110,results157,results159,results163,results193,results199,results200,results201,results232,results245,results249,results262,results263,results264,results270,results283,results285,results289,results290,go_sem, *];try rfl)(b:a.defers=[]:=by rfl):bodyPost prog fn R .ret a w:=bodyPost_ret c b q
def pU(t:Tok)(n:Nat)(w:World)(e:Ending)(w':World):Prop:=e=.returned (.tuple #[gY t,.int .i64 n])/\Below w.heap.size w w'
theorem oR(s:bY)(a:0<s.size):s.data.toList=s[0] ::(s.extract 1 s.size).data.toList:=by
 rw[yI s 1 qo];have:0<s.data.toList.length:=by rw[Array.length_toList];exact a
 exact(List.drop_eq_getElem_cons this:s.data.toList.drop 0=_)
section
variable {s:bY} {c:UInt8} {r:lU}
theorem ZC(c:UInt8):yC c=true↔97<=(c.toNat:Int)/\(c.toNat:Int)<=122:=by unfold yC;rw[Bool.and_eq_true,decide_eq_true_eq,decide_eq_true_eq];omega
theorem Ga(h1:97<=(c.toNat:Int))(h2:(c.toNat:Int)<=122):bX (c::r)=(⟨1,0,0,bs (fZ (c::r))⟩,(fZ (c::r)).length):=by
 unfold bX;dsimp only;rw[iP ((ZC c).2 ⟨h1,h2⟩)]
theorem vI(h:¬(97<=(c.toNat:Int)/\(c.toNat:Int)<=122)):¬yC c=true:=fun e=>h ((ZC c).1 e)
theorem Gb(h:bA c=true):bX (c::r)=(⟨2,0,(dW false (c::r)).1,bs []⟩,(dW false (c::r)).2):=by
 have:=(eS c).1 h;unfold bX;dsimp only;rw[iN (vI qo),iP h]
theorem Gc(h:(c.toNat:Int)=45):bX (c::r)=if (dW true r).1=0 then (⟨2,0,0,bs []⟩,0) else (⟨2,0,(dW true r).1,bs []⟩,(dW true r).2+1):=by
 unfold bX;dsimp only;rw[iN (vI qo),iN (fun e=>qA ((eS c).1 e)),iP qo]
theorem Mv(h:(c.toNat:Int)=64):bX (c::r)=if (dW false r).2=0\/1099511627776<(dW false r).1 then (⟨3,0,(dW false r).1,bs []⟩,0) else (⟨3,0,(dW false r).1,bs []⟩,(dW false r).2+1):=by
 unfold bX;dsimp only;rw[iN (vI qo),iN (fun e=>qA ((eS c).1 e)),iN qo,iP qo]
theorem Mw(h:(c.toNat:Int)=35):bX (c::r)=(⟨4,0,0,bs (fZ r)⟩,if fZ r=[] then 0 else (fZ r).length+1):=by
 unfold bX;dsimp only;rw[iN (vI qo),iN (fun e=>qA ((eS c).1 e)),iN qo,iN qo,iP qo]
theorem Bh(h:(c.toNat:Int)=34):bX (c::r)=(⟨5,0,0,bs (jR (c::r)).1⟩,(jR (c::r)).2):=by
 unfold bX;dsimp only;rw[iN (vI qo),iN (fun e=>qA ((eS c).1 e)),iN qo,iN qo,iN qo,iP qo]
structure Re (c:UInt8):Prop where
 low:¬(97<=(c.toNat:Int)/\(c.toNat:Int)<=122)
 dig:bA c=false
 n45:(c.toNat:Int)≠45
 n64:(c.toNat:Int)≠64
 n35:(c.toNat:Int)≠35
 n34:(c.toNat:Int)≠34
theorem WU(h:Re c):bX (c::r)=if EB c then (⟨6,0,0,bs [c]⟩,1) else (⟨0,0,0,bs []⟩,0):=by
 unfold bX;dsimp only;have h1:=h.n45;have h2:=h.n64;have h3:=h.n35;have h4:=h.n34;rw[iN (vI h.low),iN (by rw[h.dig];decide),iN qo,iN qo,iN qo,iN qo]
theorem Bi(c:UInt8):decide (Lib.indexByte [123,125,40,41,46,44,59,61,60,62,33] c ≥ 0)=EB c:=by
 have h:∀n:Fin 256,decide (Lib.indexByte [123,125,40,41,46,44,59,61,60,62,33] (UInt8.ofNat n) ≥ 0)=EB (UInt8.ofNat n):=by decide +kernel
 have:=h ⟨c.toNat,c.toNat_lt⟩;simpa using this
end
theorem rD{w w1:World}{A B:Obj}(h:Below ((w.alloc A).alloc B).heap.size ((w.alloc A).alloc B) w1):w1.heap[w.heap.size]? =some A/\w1.heap[w.heap.size+1]? =some B/\w.heap.size+1<w1.heap.size/\Below w.heap.size w w1:=by
 have h1:=h.block w.heap.size (by simp;omega);have h2:=h.block (w.heap.size+1) qs;have a:=h.size;simp only[World.size_alloc] at a;refine⟨?_,?_,qo,aC (aC (aB w A) (aB _ B)) h⟩
 .rw[h1,Below.heap_alloc _ _ _ qs,heap_alloc_new]
 .have:=heap_alloc_new (w.alloc A) B;rw[World.size_alloc] at this;rw[h2,this]
theorem aQ{w:World}{g:Nat}{cs:Array Value}{t:TypeId}{m:Nat×Nat}(h:w.heap[g]? =some (.cells cs t m))(i:Nat)(v:Value)(a:cs[i]? =some v):w.cell? ⟨g,i,none⟩=some v:=by simp[World.cell?,h,a]
theorem aR{w:World}{g:Nat}{cs:Array Value}{t:TypeId}(h:w.heap[g]? =some (.cells cs t (0,0)))(i:Nat):w.frozen? ⟨g,i,none⟩=false:=by simp[World.frozen?,h]
theorem nK{w:World}{g:Nat}{a b c d:Value}{t:TypeId}(h:w.heap[g]? =some (.cells #[a,b,c,d] t (0,0))):
 (w.cell? ⟨g,0,none⟩=some a/\w.cell? ⟨g,1,none⟩=some b/\w.cell? ⟨g,2,none⟩=some c/\w.cell? ⟨g,3,none⟩=some d)/\w.frozen? ⟨g,0,none⟩=false/\w.frozen? ⟨g,1,none⟩=false/\w.frozen? ⟨g,2,none⟩=false/\w.frozen? ⟨g,3,none⟩=false:=
 ⟨⟨aQ h 0 _ rfl,aQ h 1 _ rfl,aQ h 2 _ rfl,aQ h 3 _ rfl⟩,aR h 0,aR h 1,aR h 2,aR h 3⟩
theorem Bj(s:bY)(d:s.size<=4096)(b:0<s.size)(h1:97<=(s[0].toNat:Int))(h2:(s[0].toNat:Int)<=122)(w:World)(c:gU w):
 Calls prog 71 #[.string s] w (pU (bX s.data.toList).1 (bX s.data.toList).2 w):=by
 have HN:=aA (FK s (by unfold maxLen;omega));have a:Hid (bX s.data.toList=(⟨1,0,0,bs (fZ s.data.toList)⟩,(bs (fZ s.data.toList)).size)):=aA (by rw[oR s b,Ga h1 h2,cG]);have d1:decide ((s[0].toNat:Int) ≥ 97)=true:=dX h1;have d2:decide ((s[0].toNat:Int)<=122)=true:=dX h2;unfold pU;have hlen:=(zJ s.data.toList).2;rw[a.o];rw[<-cG] at hlen;generalize bs (fZ s.data.toList)=f at *;clear a h1 h2;go_enter func71,ntmps71;exact Wt
theorem Bk(s:bY)(l:s.size<=4096)(m:0<s.size)(h1:bA s[0]=true)(w:World)(b:gU w):
 Calls prog 71 #[.string s] w (pU (bX s.data.toList).1 (bX s.data.toList).2 w):=by
 have c:=aA (iM s[0]);have f:=aA (fun w b=>uK false ByteArray.empty s rfl l w b);have d:Hid (bX s.data.toList=(⟨2,0,(dW false s.data.toList).1,ByteArray.empty⟩,(dW false s.data.toList).2)):=aA (by rw[oR s m,Gb h1];rfl);have h2:=(eS s[0]).1 h1;have d1:decide ((s[0].toNat:Int) ≥ 97)=false:=dF qo;rw[h1] at c;unfold pU;rw[d.o];generalize dW false s.data.toList=i at *;clear d h1 h2;have k:=aA b;go_enter func71,ntmps71;go_wp2_with fail;refine(c.o _).mono ?_;rintro e w' ⟨rfl,rfl⟩;go_wp2_with fail;refine(f.o _ (k.o.on (aC (aB w _) (aB _ _)))).mono ?_;rintro e w1 ⟨rfl,g⟩;obtain⟨b0,b1,n,a⟩:=rD g;obtain⟨⟨o,p,q,r⟩,f0,f1,f2,f3⟩:=nK b1;obtain⟨⟨t,v,x,y⟩,g0,g1,g2,g3⟩:=nK b0;have j:=aA a;clear b0 b1 a g f;go_wp2;refine bR (.tuple #[.agg #[.int .i64 2,.int .i64 0,.int .i64 i.1,.string ⟨#[]⟩],.int .i64 i.2]) ?_;exact⟨rfl,by have a:=j.o;go_grown⟩
theorem Bl(s:bY)(E:s.size<=4096)(r:0<s.size)(h1:(s[0].toNat:Int)=45)(w:World)(f:gU w):
 Calls prog 71 #[.string s] w (pU (bX s.data.toList).1 (bX s.data.toList).2 w):=by
 have c:=aA (iM s[0]);have l:bA s[0]=false:=by rw[Bool.eq_false_iff];intro h;have:=(eS s[0]).1 h;omega
 rw[l] at c;have d1:decide ((s[0].toNat:Int) ≥ 97)=false:=dF qo;have m:(s.extract 1 s.size).size<=4096:=by rw[ByteArray.size_extract];omega
 have F:(1:Int)<=(s.size:Int):=qo;have g:=aA (fun w f=>uK true ⟨#[45]⟩ (s.extract 1 s.size) rfl m w f);have j:Hid (bX s.data.toList=if (dW true (s.extract 1 s.size).data.toList).1=0 then (⟨2,0,0,bs []⟩,0) else (⟨2,0,(dW true (s.extract 1 s.size).data.toList).1,bs []⟩,(dW true (s.extract 1 s.size).data.toList).2+1)):=aA (by rw[oR s r,Gc h1]);have p:=(rQ true (s.extract 1 s.size).data.toList).1;have hle:(dW true (s.extract 1 s.size).data.toList).2<=4096:=by
  exact QCP
 have d45:((s[0].toNat:Int)==45)=true:=bQ.2 h1;unfold pU;rw[j.o];clear j l p m h1;generalize dW true (s.extract 1 s.size).data.toList=b at *;have k:=aA f;by_cases h0:b.1=0
 .rw[iP h0];have o:(b.1==0)=true:=bQ.2 h0;have n:=aA h0;clear h0 f;go_enter func71,ntmps71;go_wp2_with fail;refine(c.o _).mono ?_;rintro e w' ⟨rfl,rfl⟩;go_wp2_with fail;refine(g.o _ (k.o.on (aC (aB w _) (aB _ _)))).mono ?_;rintro e w1 ⟨rfl,d⟩;obtain⟨b0,b1,q,a⟩:=rD d;obtain⟨⟨t,v,x,y⟩,f0,f1,f2,f3⟩:=nK b1;obtain⟨⟨z,A,B,C⟩,g0,g1,g2,g3⟩:=nK b0;have i:=aA a;clear b0 b1 a d g;clear c;go_wp2;refine bR (.tuple #[.agg #[.int .i64 2,.int .i64 0,.int .i64 b.1,.string ⟨#[]⟩],.int .i64 0]) ?_;exact⟨by rw[n.o];rfl,by have a:=i.o;go_grown⟩
 .rw[iN h0];have o:(b.1==0)=false:=bN.2 h0;have D:=aA hle;clear h0 f;go_enter func71,ntmps71;go_wp2_with fail;refine(c.o _).mono ?_;rintro e w' ⟨rfl,rfl⟩;go_wp2_with fail;refine(g.o _ (k.o.on (aC (aB w _) (aB _ _)))).mono ?_;rintro e w1 ⟨rfl,d⟩;obtain⟨b0,b1,q,a⟩:=rD d;obtain⟨⟨t,v,x,y⟩,f0,f1,f2,f3⟩:=nK b1;obtain⟨⟨z,A,B,C⟩,g0,g1,g2,g3⟩:=nK b0;have i:=aA a;clear b0 b1 a d g;clear c;go_wp2;refine bR (.tuple #[.agg #[.int .i64 2,.int .i64 0,.int .i64 b.1,.string ⟨#[]⟩],.int .i64 (b.2+1)]) ?_;exact⟨rfl,by have a:=i.o;go_grown⟩
theorem Gd(s:bY)(m:s.size<=4096)(j:0<s.size)(h1:(s[0].toNat:Int)=64)(w:World)(a:gU w):
 Calls prog 71 #[.string s] w (pU (bX s.data.toList).1 (bX s.data.toList).2 w):=by
 have HD:=aA (iM s[0]);have c:bA s[0]=false:=by rw[Bool.eq_false_iff];intro h;have:=(eS s[0]).1 h;omega
 rw[c] at HD;have d1:decide ((s[0].toNat:Int) ≥ 97)=false:=dF qo;have d:(s.extract 1 s.size).size<=4096:=by rw[ByteArray.size_extract];omega
 have n:(1:Int)<=(s.size:Int):=qo;have HN:=aA (fun w a=>uK false ByteArray.empty (s.extract 1 s.size) rfl d w a);have b:Hid (bX s.data.toList=if (dW false (s.extract 1 s.size).data.toList).2=0\/1099511627776<(dW false (s.extract 1 s.size).data.toList).1 then (⟨3,0,(dW false (s.extract 1 s.size).data.toList).1,bs []⟩,0) else (⟨3,0,(dW false (s.extract 1 s.size).data.toList).1,bs []⟩,(dW false (s.extract 1 s.size).data.toList).2+1)):=aA (by rw[oR s j,Mv h1]);have i:=(rQ false (s.extract 1 s.size).data.toList).1;have hle:(dW false (s.extract 1 s.size).data.toList).2<=4096:=by
  exact QCP
 have d45:((s[0].toNat:Int)==45)=false:=bN.2 qo;have d64:((s[0].toNat:Int)==64)=true:=bQ.2 h1;unfold pU;rw[b.o];clear b c i d h1;generalize dW false (s.extract 1 s.size).data.toList=nm at *;have HG:=aA a;by_cases h0:nm.2=0
 .rw[iP (.inl h0)];have f:((nm.2:Int)==0)=true:=bQ.2 qo;have k:=aA h0;clear h0 a;exact QAX
 .have f:((nm.2:Int)==0)=false:=bN.2 qo;by_cases h2:1099511627776<nm.1
  .rw[iP (.inr h2)];have g:decide (nm.1 > 1099511627776)=true:=dX h2;clear h0 a h2;exact QAX
  .rw[iN (fun h=>h.elim h0 h2)];have g:decide (nm.1 > 1099511627776)=false:=dF h2;have l:=aA hle;clear h0 a h2;go_enter func71,ntmps71;go_wp2_with fail;refine(HD.o _).mono ?_;rintro e w' ⟨rfl,rfl⟩;go_wp2_with fail;refine(HN.o _ (HG.o.on (aC (aB w _) (aB _ _)))).mono ?_;rintro e w1 ⟨rfl,hb1⟩;obtain⟨b0,b1,hlt,hb⟩:=rD hb1;obtain⟨⟨x0,x1,x2,x3⟩,f0,f1,f2,f3⟩:=nK b1;obtain⟨⟨y0,y1,y2,y3⟩,g0,g1,g2,g3⟩:=nK b0;have HB:=aA hb;clear b0 b1 hb hb1 HN;clear HD;go_wp2;refine bR (.tuple #[.agg #[.int .i64 3,.int .i64 0,.int .i64 nm.1,.string ⟨#[]⟩],.int .i64 (nm.2+1)]) ?_;exact⟨rfl,by have hb:=HB.o;go_grown⟩
theorem Ge(s:bY)(n:s.size<=4096)(j:0<s.size)(h1:(s[0].toNat:Int)=35)(w:World)(m:gU w):
 Calls prog 71 #[.string s] w (pU (bX s.data.toList).1 (bX s.data.toList).2 w):=by
 have a:=aA (iM s[0]);have c:bA s[0]=false:=by rw[Bool.eq_false_iff];intro h;have:=(eS s[0]).1 h;omega
 rw[c] at a;have d1:decide ((s[0].toNat:Int) ≥ 97)=false:=dF qo;have i:(s.extract 1 s.size).size<=4096:=by rw[ByteArray.size_extract];omega
 have o:(1:Int)<=(s.size:Int):=qo;have HN:=aA (FK (s.extract 1 s.size) (by unfold maxLen;omega));have b:Hid (bX s.data.toList=(⟨4,0,0,bs (fZ (s.extract 1 s.size).data.toList)⟩,if (bs (fZ (s.extract 1 s.size).data.toList)).size=0 then 0 else (bs (fZ (s.extract 1 s.size).data.toList)).size+1)):=aA (by
  rw[oR s j,Mw h1,cG]
  congr 1
  simp only[List.length_eq_zero_iff])
 have hlen:=(zJ (s.extract 1 s.size).data.toList).2;rw[<-cG] at hlen;have d45:((s[0].toNat:Int)==45)=false:=bN.2 qo;have d64:((s[0].toNat:Int)==64)=false:=bN.2 qo;have d35:((s[0].toNat:Int)==35)=true:=bQ.2 h1;unfold pU;rw[b.o];clear b c i h1;generalize bs (fZ (s.extract 1 s.size).data.toList)=k at *
 rcases tT (s:=k) with h0|h0
 .rw[iP h0];obtain⟨d,f,g⟩:=qZ h0;clear h0;go_enter func71,ntmps71;go_wp2_with fail;refine(a.o _).mono ?_;rintro e w' ⟨rfl,rfl⟩;exact Wt
 .rw[iN qo];obtain⟨d,f,g⟩:=rA h0;have l:=aA hlen;go_enter func71,ntmps71;go_wp2_with fail;refine(a.o _).mono ?_;rintro e w' ⟨rfl,rfl⟩;exact Wt
end Go.Proofs.YtgoanbpcdhmfkaaGreatDoor
