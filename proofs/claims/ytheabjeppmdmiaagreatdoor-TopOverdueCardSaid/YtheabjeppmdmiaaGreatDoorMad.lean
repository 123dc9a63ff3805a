/- Lemmas. -/
import Derived.Test.YtheabjeppmdmiaaGreatDoorMac
import Derived.Deep.Quiet
namespace Go.Proofs.YtheabjeppmdmiaaGreatDoor
open Go.RowKit
set_option linter.unusedVariables false
set_option linter.unusedSimpArgs false
set_option maxHeartbeats 16000000
open _root_.Go.Proofs.Tryz
set_option maxRecDepth 20000
section
open Go.ChangeShapes Go.WideShapes Go.ChangeAt Go.Deep
open Go.ChangeMaps (open_string shut_string)
def Sy(v:V3):Value×Value×Value:=(.int .i64 v.1,.int .i64 v.2.1,.string v.2.2)
def Hf(l:List V3):List Value:=qL (l.map Sy)
structure Gm where
 cat:Int
 name:ByteArray
 at_:Option Addr
 cap:Nat
 bag:List V3
def Gm.gv(x:Gm):Gv:=(x.cat,x.name,x.bag)
def Sz(x:Gm):Value×Value×Value:=(.int .i64 x.cat,.string x.name,.slice x.at_ x.bag.length x.cap)
def Yp(l:List Gm):List Value:=qL (l.map Sz)
def VOk(v:V3):Prop:=bJ v.1/\bJ v.2.1/\v.2.2.size<=maxLen
def GG(w:World)(B:Nat)(x:Gm):Prop:=bJ x.cat/\x.name.size<=maxLen/\x.bag.length<=x.cap/\x.cap<=maxLen/\Sl w B x.at_ (Hf x.bag)/\∀v∈x.bag,VOk v
def xA(w:World)(B:Nat)(a:oD)(l:List Gm):Prop:=Sl w B a (Yp l)/\∀x∈l,GG w B x
theorem GG.below{w w':World}{B:Nat}{x:Gm}(h:GG w B x)(a:Below B w w'):GG w' B x:=⟨h.1,h.2.1,h.2.2.1,h.2.2.2.1,h.2.2.2.2.1.below a,h.2.2.2.2.2⟩
theorem GG.more{w:World}{B a:Nat}{x:Gm}(h:GG w B x)(b:B<=a):GG w a x:=⟨h.1,h.2.1,h.2.2.1,h.2.2.2.1,h.2.2.2.2.1.more b,h.2.2.2.2.2⟩
theorem xA.below{w w':World}{B:Nat}{a:oD}{l:List Gm}(h:xA w B a l)(b:Below B w w'):xA w' B a l:=⟨h.1.below b,fun x c=>(h.2 x c).below b⟩
theorem xA.more{w:World}{B b:Nat}{a:oD}{l:List Gm}(h:xA w B a l)(c:B<=b):xA w b a l:=⟨h.1.more c,fun x d=>(h.2 x d).more c⟩
theorem xA.on{w w':World}{a:oD}{l:List Gm}(h:xA w w.heap.size a l)(b:Below w.heap.size w w'):xA w' w'.heap.size a l:=(h.below b).more b.size
theorem GG.on{w w':World}{x:Gm}(h:GG w w.heap.size x)(a:Below w.heap.size w w'):GG w' w'.heap.size x:=(h.below a).more a.size
theorem Sl.on{w w':World}{a:oD}{xs:List Value}(h:Sl w w.heap.size a xs)(b:Below w.heap.size w w'):Sl w' w'.heap.size a xs:=(h.below b).more b.size
theorem RX{α:Type}(f:α->Value×Value×Value){l:List α}{i:Nat}(a:i<l.length):
 (qL (l.map f))[i * 3]? =some (f l[i]).1/\(qL (l.map f))[i * 3+1]? =some (f l[i]).2.1/\(qL (l.map f))[i * 3+2]? =some (f l[i]).2.2:=
 PC (l.map f) i (f l[i]) (by rw[List.getElem?_map,gE a];rfl)
theorem Sl.three{α:Type}(f:α->Value×Value×Value){w:World}{B:Nat}{a:oD}{l:List α}{i:Nat}(h:Sl w B a (qL (l.map f)))(g:i<l.length):
 ∃b off,a=some ⟨b,off,none⟩/\b<B/\w.cell? ⟨b,off+i * 3,none⟩=some (f l[i]).1/\w.cell? ⟨b,off+i * 3+1,none⟩=some (f l[i]).2.1/\w.cell? ⟨b,off+i * 3+2,none⟩=some (f l[i]).2.2:=by
 obtain⟨h1,h2,h3⟩:=RX f g;obtain⟨b,off,e,d,c⟩:=h (fun he=>by rw[he] at h1;simp at h1);refine⟨b,off,e,d,c _ _ h1,?_,?_⟩
 .rw[Nat.add_assoc];exact c _ _ h2
 .rw[Nat.add_assoc];exact c _ _ h3
theorem Sl.val{w:World}{B:Nat}{a:oD}{l:List V3}{i:Nat}(h:Sl w B a (Hf l))(c:i<l.length):
 ∃b off,a=some ⟨b,off,none⟩/\b<B/\w.cell? ⟨b,off+i * 3,none⟩=some (.int .i64 l[i].1)/\w.cell? ⟨b,off+i * 3+1,none⟩=some (.int .i64 l[i].2.1)/\w.cell? ⟨b,off+i * 3+2,none⟩=some (.string l[i].2.2):=Sl.three Sy h c
theorem xA.at{w:World}{B:Nat}{a:oD}{l:List Gm}{i:Nat}(h:xA w B a l)(c:i<l.length):
 ∃b off,a=some ⟨b,off,none⟩/\b<B/\w.cell? ⟨b,off+i * 3,none⟩=some (.int .i64 l[i].cat)/\w.cell? ⟨b,off+i * 3+1,none⟩=some (.string l[i].name)/\w.cell? ⟨b,off+i * 3+2,none⟩=some (.slice l[i].at_ l[i].bag.length l[i].cap):=Sl.three Sz h.1 c
theorem xA.nil{w:World}{B:Nat}{a:oD}:xA w B a []:=⟨Sl.nil,fun _ h=>absurd h qs⟩
section
variable {H:Type} {enc:TypeId×Value->H} {P:Program} {W:World} {sp:Nat->Bool} {held:Bool}
variable {tg tv tb:TypeId} {g0 g1 g2 v0 v1 v2:Field}
end
end
theorem Yq{p:Prop}(h:p:=by
 clear HR;go_wp2;go_round
 case rel=>exact⟨k+1,qo,by go_num,HG⟩
 case measure=>simp[intOf];omega):p:=h
theorem Ac{p:Prop}(h:p:=by
 go_wp2;go_ret;exact⟨by rw[HF.o];rfl,rfl⟩):p:=h
theorem PE{p:Prop}(h:p:=by
 go_wp2;go_ret;exact⟨by rw[HG.o];rfl,rfl⟩):p:=h
theorem PF(s:bY)(k:Nat)(h:k<s.size):vW (decide (k=0)) (s.data.toList.drop k)=(BQ (decide (k=0)) s[k]&&vW false (s.data.toList.drop (k+1))):=by
 rw[List.drop_eq_getElem_cons (by simpa using h)];rfl
theorem Cj(c:UInt8):(97<=(c.toNat:Int)/\(c.toNat:Int)<=122)\/(48<=(c.toNat:Int)/\(c.toNat:Int)<=57)\/(c.toNat:Int)=95\/((((c.toNat:Int)<97\/122<(c.toNat:Int))/\((c.toNat:Int)<48\/57<(c.toNat:Int)))/\(c.toNat:Int)≠95):=qo
theorem aAJ(f:Bool)(c:UInt8)(h:97<=(c.toNat:Int)/\(c.toNat:Int)<=122):BQ f c=true:=by
 unfold BQ;simp only[Bool.or_eq_true,Bool.and_eq_true,decide_eq_true_eq];exact .inl qo
theorem Tb(c:UInt8)(h:(48<=(c.toNat:Int)/\(c.toNat:Int)<=57)\/(c.toNat:Int)=95):BQ false c=true:=by
 unfold BQ;simp only[Bool.or_eq_true,Bool.and_eq_true,decide_eq_true_eq,Bool.not_false,true_and];exact .inr qo
theorem Tc(c:UInt8)(h:¬(97<=(c.toNat:Int)/\(c.toNat:Int)<=122)):BQ true c=false:=by
 unfold BQ;rw[Bool.eq_false_iff];simp only[ne_eq,Bool.or_eq_true,Bool.and_eq_true,decide_eq_true_eq,Bool.not_true,Bool.false_eq_true,false_and,or_false];omega
theorem aAK(f:Bool)(c:UInt8)(h:(((c.toNat:Int)<97\/122<(c.toNat:Int))/\((c.toNat:Int)<48\/57<(c.toNat:Int)))/\(c.toNat:Int)≠95):BQ f c=false:=by
 unfold BQ;rw[Bool.eq_false_iff];simp only[ne_eq,Bool.or_eq_true,Bool.and_eq_true,decide_eq_true_eq];omega
def pP(s:bY)(k:Nat):Prop:=vW true s.data.toList=vW (decide (k=0)) (s.data.toList.drop k)
theorem NM{s:bY}{k:Nat}(h:k<s.size)(b:pP s k)(a:BQ (decide (k=0)) s[k]=true):pP s (k+1):=by
 unfold pP at *;rw[b,PF s k h,a];rfl
theorem CJ{s:bY}{k:Nat}(h:k<s.size)(a:pP s k)(b:BQ (decide (k=0)) s[k]=false):eL s=false:=by
 unfold pP at a;unfold eL;rw[a,PF s k h,b];rfl
theorem Ok{s:bY}(a:pP s s.size):eL s=(decide (1<=s.size)&&decide (s.size<=16)):=by
 unfold pP at a;unfold eL;rw[a,List.drop_of_length_le qs,vW];rfl
theorem rJ{s:bY}(h:s.size=0):s.toList=[]/\(!s.toList.isEmpty)=false/\s.toList.isEmpty=true:=by
 have e:s.toList=[]:=by
  rw[ByteArray.toList_eq];exact List.eq_nil_of_length_eq_zero (by simpa using h)
 rw[e];exact⟨rfl,rfl,rfl⟩
theorem rK{s:bY}(h:1<=s.size):(¬s.toList=[])/\(!s.toList.isEmpty)=true/\s.toList.isEmpty=false:=by
 have e:¬s.toList=[]:=by
  rw[ByteArray.toList_eq];intro h0;have:s.data.toList.length=0:=by rw[h0];rfl
  have h2:s.data.toList.length=s.size:=by simp
  omega
 refine⟨e,?_,?_⟩
 .rcases h:s.toList with _|⟨x,l⟩
  .exact absurd h e
  .rfl
 .rcases h:s.toList with _|⟨x,l⟩
  .exact absurd h e
  .rfl
theorem oV(s:bY)(j:s.size<=maxLen)(w:World):
 Calls prog 96 #[.string s] w fun e w'=>e=.returned (.bool (eL s))/\w=w':=by
 unfold maxLen at j;go_enter func96,ntmps96;go_wp2;go_loop [9] (fun i=>∃k:Nat,k<=s.size/\i=.int .i64 k/\Hid (pP s k)) (fun i=>s.size - (intOf i).toNat)
 case atStart=>exact⟨0,qo,rfl,aA (by unfold pP;rfl)⟩
 case round=>
  obtain⟨k,l,rfl,HR⟩:=hrel;by_cases b:k<s.size
  .rcases Cj s[k] with ⟨h1,h2⟩|h|h|⟨⟨h1,h2⟩,h3⟩
   .have HG:=aA (NM b HR.o (aAJ _ _ ⟨h1,h2⟩));exact Yq
   .have g:¬97<=(s[k].toNat:Int):=qo;obtain⟨h1,h2⟩:=h
    rcases Nat.eq_zero_or_pos k with rfl|h0
    .have HG:=aA (CJ b HR.o (Tc _ qo));clear HR;exact PE
    .have HG:=aA (NM b HR.o (by rw[dF qo];exact Tb _ (.inl ⟨h1,h2⟩)));exact Yq
   .have g:¬97<=(s[k].toNat:Int):=qo;have m:¬(s[k].toNat:Int)<=57:=qo
    rcases Nat.eq_zero_or_pos k with rfl|h0
    .have HG:=aA (CJ b HR.o (Tc _ qo));clear HR;exact PE
    .have HG:=aA (NM b HR.o (by rw[dF qo];exact Tb _ (.inr h)));exact Yq
   .have HG:=aA (CJ b HR.o (aAK _ _ ⟨⟨h1,h2⟩,h3⟩));have h95:((s[k].toNat:Int)==95)=false:=bN.2 h3;clear HR
    rcases h1 with h1|h1<;>rcases h2 with h2|h2
    .rcases Nat.eq_zero_or_pos k with rfl|h0
     .exact PE
     .exact PE
    .have h57:decide ((s[k].toNat:Int)<=57)=false:=dF qo
     rcases Nat.eq_zero_or_pos k with rfl|h0
     .exact PE
     .exact PE
    .exfalso;omega
    .have h57:decide ((s[k].toNat:Int)<=57)=false:=dF qo;have h122:decide ((s[k].toNat:Int)<=122)=false:=dF qo
     rcases Nat.eq_zero_or_pos k with rfl|h0
     .exact PE
     .exact PE
  .obtain rfl:k=s.size:=qo;have a:=aA (Ok HR.o);clear HR
   rcases Nat.eq_zero_or_pos s.size with h0|h0
   .obtain⟨c,d,f⟩:=rJ h0;have HF:Hid (eL s=false):=aA (by rw[a.o,h0];rfl);clear a h0;exact Ac
   .obtain⟨c,d,f⟩:=rK h0;by_cases h16:s.size<=16
    .have HF:Hid (eL s=true):=aA (by rw[a.o,dX h16,dX (show 1<=s.size from h0)];rfl);have d16:decide ((s.size:Int)<=16)=true:=dX qo;clear a;exact Ac
    .have HF:Hid (eL s=false):=aA (by rw[a.o,dF h16,Bool.and_false]);have d16:decide ((s.size:Int)<=16)=false:=dF qo;clear a;exact Ac
theorem uY{p:Prop}(h:p:=by
 go_enter func99,ntmps99;go_wp2;go_ret;exact⟨by rw[HF.o];rfl,aB _ _⟩):p:=h
theorem uB{s:bY}:s.size=0\/1<=s.size:=qo
def lK(v:Value)(w:World)(e:Ending)(w':World):Prop:=e=.returned v/\Below w.heap.size w w'
theorem Ve{v:V3}(h:v.1=1):aT v=((decide (v.2.1=0)||decide (v.2.1=1))&&decide (v.2.2.size=0)):=by unfold aT;rw[iP h]
theorem Vf{v:V3}(h:v.1=2):aT v=decide (v.2.2.size=0):=by unfold aT;rw[iN qo,iP h]
theorem Vg{v:V3}(h:v.1=3):aT v=(decide (v.2.1=0)&&decide (v.2.2.size<=64)):=by unfold aT;rw[iN qo,iN qo,iP h]
theorem Vh{v:V3}(h:v.1=4):aT v=((decide (0<=v.2.1)&&decide (v.2.1<=1099511627776))&&decide (v.2.2.size=0)):=by unfold aT;rw[iN qo,iN qo,iN qo,iP h]
theorem Vi{v:V3}(h:v.1=5):aT v=(decide (v.2.1=0)&&eL v.2.2):=by unfold aT;rw[iN qo,iN qo,iN qo,iN qo,iP h]
theorem Vj{v:V3}(h:v.1≠1/\v.1≠2/\v.1≠3/\v.1≠4/\v.1≠5):aT v=false:=by unfold aT;rw[iN qo,iN qo,iN qo,iN qo,iN qo]
theorem nQ(k n:Int)(s:bY)(q:s.size<=maxLen)(w:World):
 Calls prog 99 #[.agg #[.int .i64 k,.int .i64 n,.string s]] w (lK (.bool (aT (k,n,s))) w):=by
 unfold maxLen at q;unfold lK;by_cases j:k=1
 .have a:=aA (Ve (v:=(k,n,s)) j);simp only at a;subst j;by_cases b:n=0
  .have b0:(n==0)=true:=bQ.2 b
   rcases uB (s:=s) with z|z
   .obtain⟨f,g,i⟩:=rJ z;have HF:Hid (aT (1,n,s)=true):=aA (by rw[a.o,dX b,dX z];rfl);clear a b z;exact uY
   .obtain⟨f,g,i⟩:=rK z;have HF:Hid (aT (1,n,s)=false):=aA (by rw[a.o,dF (show ¬s.size=0 by omega),Bool.and_false]);clear a b z;exact uY
  .have b0:(n==0)=false:=bN.2 b;by_cases c:n=1
   .have b1:(n==1)=true:=bQ.2 c
    rcases uB (s:=s) with z|z
    .obtain⟨f,g,i⟩:=rJ z;have HF:Hid (aT (1,n,s)=true):=aA (by rw[a.o,dX c,dX z,Bool.or_true];rfl);clear a b c z;exact uY
    .obtain⟨f,g,i⟩:=rK z;have HF:Hid (aT (1,n,s)=false):=aA (by rw[a.o,dF (show ¬s.size=0 by omega),Bool.and_false]);clear a b c z;exact uY
   .have b1:(n==1)=false:=bN.2 c;have HF:Hid (aT (1,n,s)=false):=aA (by rw[a.o,dF b,dF c];rfl);clear a;exact uY
 by_cases l:k=2
 .have a:=aA (Vf (v:=(k,n,s)) l);simp only at a;subst l
  rcases uB (s:=s) with z|z
  .obtain⟨f,g,i⟩:=rJ z;have HF:Hid (aT (2,n,s)=true):=aA (by rw[a.o,dX z]);clear a z;exact uY
  .obtain⟨f,g,i⟩:=rK z;have HF:Hid (aT (2,n,s)=false):=aA (by rw[a.o,dF (show ¬s.size=0 by omega)]);clear a z;exact uY
 by_cases m:k=3
 .have a:=aA (Vg (v:=(k,n,s)) m);simp only at a;subst m;by_cases b:n=0
  .have b0:(n==0)=true:=bQ.2 b;by_cases z:s.size<=64
   .have HF:Hid (aT (3,n,s)=true):=aA (by rw[a.o,dX b,dX z];rfl);have d:decide ((s.size:Int)<=64)=true:=dX qo;clear a b z;exact uY
   .have HF:Hid (aT (3,n,s)=false):=aA (by rw[a.o,dF z,Bool.and_false]);have d:decide ((s.size:Int)<=64)=false:=dF qo;clear a b z;exact uY
  .have b0:(n==0)=false:=bN.2 b;have HF:Hid (aT (3,n,s)=false):=aA (by rw[a.o,dF b];rfl);clear a;exact uY
 by_cases o:k=4
 .have a:=aA (Vh (v:=(k,n,s)) o);simp only at a;subst o;by_cases b:0<=n
  .have b0:decide (0<=n)=true:=dX b;by_cases c:n<=1099511627776
   .have b1:decide (n<=1099511627776)=true:=dX c
    rcases uB (s:=s) with z|z
    .obtain⟨f,g,i⟩:=rJ z;have HF:Hid (aT (4,n,s)=true):=aA (by rw[a.o,b0,b1,dX z];rfl);clear a z;exact uY
    .obtain⟨f,g,i⟩:=rK z;have HF:Hid (aT (4,n,s)=false):=aA (by rw[a.o,dF (show ¬s.size=0 by omega),Bool.and_false]);clear a z;exact uY
   .have b1:decide (n<=1099511627776)=false:=dF c;have HF:Hid (aT (4,n,s)=false):=aA (by rw[a.o,b1,Bool.and_false];rfl);clear a;exact uY
  .have b0:decide (0<=n)=false:=dF b;have HF:Hid (aT (4,n,s)=false):=aA (by rw[a.o,b0];rfl);clear a;exact uY
 by_cases p:k=5
 .have a:=aA (Vi (v:=(k,n,s)) p);simp only at a;subst p;by_cases b:n=0
  .have b0:(n==0)=true:=bQ.2 b;have HF:Hid (aT (5,n,s)=eL s):=aA (by rw[a.o,dX b];rfl);clear a b;go_enter func99,ntmps99;go_wp2_with (go_at_call 96;refine(oV s (by unfold maxLen;omega) _).mono ?_;rintro e w' ⟨rfl,rfl⟩)
   go_ret;exact⟨by rw[HF.o];rfl,aB _ _⟩
  .have b0:(n==0)=false:=bN.2 b;have HF:Hid (aT (5,n,s)=false):=aA (by rw[a.o,dF b];rfl);clear a;exact uY
 have HF:Hid (aT (k,n,s)=false):=aA (Vj (v:=(k,n,s)) ⟨j,l,m,o,p⟩);exact uY
structure In (C:World->Prop) where
 w:World
 h:C w
theorem CK{P:Program}{C:World->Prop}{id:Nat}{Q:Exit->Act->World->Prop}{a:Act}{w:World}{l:List Oper}(hm:P.follows .mixedOrders=true)(c:Region.lexB .any l.toArray=true)(hC:C w.drew)
 (h:wpQuiet P l.toArray (fun w'=>∃p:In C,w'=p.w) (fun b=>∀w',C w'->Q .normal b w') l a):(Code.region id l.toArray true).wp P Q a w:=by
 refine wp_region_quiet (C:=fun w'=>∃p:In C,w'=p.w) hm c ⟨⟨w.drew,hC⟩,rfl⟩ ?_;have e:(fun b=>∀w',(∃p:In C,w'=p.w)->Q .normal b w')=fun b=>∀w',C w'->Q .normal b w':=by
  funext b
  exact propext ⟨fun g w' d=>g w' ⟨⟨w',d⟩,rfl⟩,fun g w' ⟨p,hp⟩=>hp▸g p.w p.h⟩
 rw[e];simpa using h
theorem in_call{P:Program}{C:World->Prop}{p:In C}{f:FuncId}{args:Array Value}{v:Value}(h:∀w',C w'->Calls P f args w' fun e a=>e=.returned v/\C a):
 Calls P f args p.w fun e a=>e=.returned v/\∃q:In C,a=q.w:=
 (h p.w p.h).mono fun _ a k=>⟨k.1,⟨a,k.2⟩,rfl⟩
def BR(w:World)(w':World):Prop:=Below w.heap.size w w'
theorem TH(w:World):BR w w.drew:=(Below.refl _ _).drew
instance(w:World):Nonempty (In (BR w)):=⟨⟨w,Below.refl _ _⟩⟩
theorem BS{p:Prop}(h:p:=by
 exact⟨0,qo,rfl,aA (fun i _ h=>absurd h qo),aA (Below.refl _ _)⟩):p:=h
theorem Yr{p:Prop}(h:p:=by
 rw[iN qe];intro i hi h
 rcases Nat.lt_or_ge i k with h1|h1
 .exact HR.o i hi h1
 .obtain rfl:i=k:=qo;exact hg):p:=h
theorem Ys{p:Prop}(h:p:=by
 have HF:=aA (HL.o false rfl);clear HL;go_wp2;go_roundw
 case rel=>exact⟨k+1,qo,by go_num,aA (by have:=HF.o;rwa [iN qe] at this),HB'⟩
 case measure=>simp[intOf];omega):p:=h
theorem jJ(a b:bY):(a.toList==b.toList)=decide (a=b):=by
 rw[Bool.eq_iff_iff,bQ,decide_eq_true_eq,ByteArray.toList_eq,ByteArray.toList_eq];constructor
 .intro h;exact ByteArray.ext (Array.toList_inj.1 h)
 .rintro rfl;rfl
theorem Ol(x:Gm)(C:Int)(N:bY)(p q:Nat)(w:World)(hp:w.cell? ⟨p,0,none⟩=some (.int .i64 C))(b:w.cell? ⟨q,0,none⟩=some (.string N))(a:p<w.heap.size)(c:q<w.heap.size):
 Calls prog 279 #[.agg #[.int .i64 x.cat,.string x.name,.slice x.at_ x.bag.length x.cap],.pointer (some ⟨p,0,none⟩),.pointer (some ⟨q,0,none⟩)] w (lK (.bool (lJ C N x.gv)) w):=by
 unfold lK;have h1:p≠w.heap.size:=qo;have h2:q≠w.heap.size:=qo;go_enter func279,ntmps279;go_wp2
 .rename_i h;go_ret;refine⟨?_,aB _ _⟩;show Ending.returned (.bool (x.name.toList==N.toList))=_;rw[jJ];unfold lJ Gm.gv;rw[dX h];rfl
 .rename_i h;go_ret;refine⟨?_,aB _ _⟩;show Ending.returned (.bool false)=_;unfold lJ Gm.gv;rw[dF h];rfl
def CL(l:List Gm):List Gv:=l.map Gm.gv
theorem vQ(l:List Gm):(CL l).length=l.length:=by unfold CL;simp
theorem TI(l:List Gm)(i:Nat)(h:i<l.length):(CL l)[i]'(by rw[vQ];exact h)=l[i].gv:=by unfold CL;simp
theorem Hg{l:List Gm}{C:Int}{N:bY}{k:Nat}(a:k<l.length)(c:∀i (b:i<l.length),i<k->lJ C N l[i].gv=false)(h:lJ C N l[k].gv=true):mU (CL l) C N=(k:Int):=by
 have e:mT (CL l) C N=k:=Yn (by rw[vQ];exact a) (by rw[TI l k a];exact h) (fun i b=>by rw[TI l i qo];exact c i qo b);unfold mU;rw[e,iP (by rw[vQ];exact a)]
theorem Ck{l:List Gm}{C:Int}{N:bY}(b:∀i (a:i<l.length),i<l.length->lJ C N l[i].gv=false):mU (CL l) C N= -1:=by
 have e:mT (CL l) C N=(CL l).length:=Oi (fun i a=>by rw[TI l i (by rw[vQ] at a;exact a)];exact b i (by rw[vQ] at a;exact a) (by rw[vQ] at a;exact a));unfold mU;rw[e,iN qo]
theorem PG(a:oD)(c n:Nat)(l:List Gm)(B:l.length=n)(C:Int)(N:bY)(p q:Nat)(w:World)(A:l.length<=maxLen)(v:xA w w.heap.size a l)(hp:w.cell? ⟨p,0,none⟩=some (.int .i64 C))(t:w.cell? ⟨q,0,none⟩=some (.string N))(j:p<w.heap.size)(m:q<w.heap.size):
 Calls prog 278 #[.slice a n c,.func (.func 279) #[] #[.pointer (some ⟨p,0,none⟩),.pointer (some ⟨q,0,none⟩)]] w (lK (.int .i64 (mU (CL l) C N)) w):=by
 subst B;unfold maxLen at A;unfold lK;have z:=aA v;have y:=aA (fun wr (d:Below w.heap.size w wr)=>(⟨(d.cell (p:=⟨p,0,none⟩) j).trans hp,(d.cell (p:=⟨q,0,none⟩) m).trans t,lL j d.size,lL m d.size⟩:wr.cell? ⟨p,0,none⟩=some (.int .i64 C)/\wr.cell? ⟨q,0,none⟩=some (.string N)/\p<wr.heap.size/\q<wr.heap.size));clear v hp t j m;go_enter func278,ntmps278;go_wp2;go_loopw [5,8] (fun _ i wr=>∃k:Nat,k<=l.length/\i=.int .i64 k/\Hid (∀i (hi:i<l.length),i<k->lJ C N l[i].gv=false)/\Hid (Below w.heap.size w wr)) (fun _ i _=>l.length - (intOf i).toNat)
 case atStart=>exact BS
 case round=>
  obtain⟨k,D,rfl,HR,f⟩:=hrel;by_cases s:k<l.length
  .obtain⟨b,off,rfl,d,F,G,H⟩:=(z.o.below f.o).at s;obtain⟨c1,c2,c3,c4⟩:=y.o wr f.o;have o:=aA (Ol l[k] C N p q wr c1 c2 c3 c4);have HL:Hid (∀g,lJ C N l[k].gv=g->((if g=true then mU (CL l) C N=(k:Int) else ∀i (hi:i<l.length),i<k+1->lJ C N l[i].gv=false):Prop)):=aA (fun g hg=>by
    cases g
    .exact Yr
    .rw[iP rfl];exact Hg s HR.o hg)
   clear c1 c2 c3 c4 HR;generalize E:l[k]=x at *;generalize lJ C N x.gv=g at *;go_wp2_with fail;refine o.o.mono ?_;rintro e w' ⟨rfl,r⟩;have HB':=qB f r;clear o r
   cases g
   .exact Ys
   .have HF:=aA (HL.o true rfl);clear HL;go_wp2;go_ret;exact⟨by have:=HF.o;rw[iP trivial] at this;rw[this];rfl,HB'.o⟩
  .obtain rfl:k=l.length:=qo;have HF:=aA (Ck HR.o);clear HR;go_wp2;go_ret;exact⟨by rw[HF.o];rfl,f.o⟩
theorem Hh(w:World)(u v:Value)(t s:TypeId):((w.alloc (.cells #[u] t)).alloc (.cells #[v] s)).cell? ⟨w.heap.size,0,none⟩=some u/\((w.alloc (.cells #[u] t)).alloc (.cells #[v] s)).cell? ⟨w.heap.size+1,0,none⟩=some v/\w.heap.size<((w.alloc (.cells #[u] t)).alloc (.cells #[v] s)).heap.size/\w.heap.size+1<((w.alloc (.cells #[u] t)).alloc (.cells #[v] s)).heap.size/\
 Below w.heap.size w ((w.alloc (.cells #[u] t)).alloc (.cells #[v] s)):=by
 have a:Below w.heap.size w ((w.alloc (.cells #[u] t)).alloc (.cells #[v] s)):=aC (aB w _) (aB _ _);have b:(w.alloc (.cells #[u] t)).heap.size=w.heap.size+1:=by simp
 refine⟨?_,?_,by simp;omega,qs,a⟩
 .exact((aB (w.alloc (.cells #[u] t)) (.cells #[v] s)).cell (p:=⟨w.heap.size,0,none⟩) qs).trans (vY w #[u] t _ 0 u rfl)
 .have:=vY (w.alloc (.cells #[u] t)) #[v] s (0,0) 0 v rfl;rwa [b] at this
theorem bH{a b:Bool}(h:a=b):Ending.returned (.bool a)=.returned (.bool b):=by rw[h]
theorem Vk(a b:bY):decide (a=b)=decide (a.toList=b.toList):=by rw[<-jJ,Bool.eq_iff_iff,bQ,decide_eq_true_eq]
theorem oW{L:List Tok}{p:PS}(s:bY)(hp:p.at_<L.length)(f:L.length<=5000)(g:Nat)(w:World)(h:PW L w g p):
 Calls prog 167 #[.pointer (some ⟨g,0,none⟩),.string s] w (aP (.bool (cM L s p)) w):=by
 have a:=aA (gK hp f g w h);have H:=aA h;clear h;unfold aP cM;unfold iE at a;generalize aU L p=t at *;go_enter func167,ntmps167;go_wp2_with fail;refine(a.o).mono ?_;rintro e w1 ⟨rfl,b⟩;have h1:=H.o.on b;obtain⟨A,c,c0,c1,c2,c3,c4,i⟩:=h1.cells;have j:=h1.lt;have d:=aA b;clear a b h1 i c0 c1 c2 c4;go_wp2
 all_goals go_returns
 all_goals exact⟨bH (by rw[Vk,Bool.eq_iff_iff];simp[*]),d.o.alloc d.o.size _⟩
theorem eP{L:List Tok}{p:PS}(T:Toks L)(s:bY)(hp:p.at_<L.length)(g:Nat)(w:World)(h:PW L w g p):
 Calls prog 164 #[.pointer (some ⟨g,0,none⟩),.string s] w (eU L g w (.bool (kS L s p).1) (kS L s p).2):=by
 have j:=T.len;have f:=aA (oW s hp j g w h);have H:=aA h;clear h;unfold eU kS;generalize i:cM L s p=b at *
 cases b
 .rw[iN qe];clear i;go_enter func164,ntmps164;go_wp2_with fail;refine(f.o).mono ?_;rintro e w1 ⟨rfl,a⟩;have d:=aA a;clear a f;go_wp2;go_returns;exact⟨rfl,H.o.on d.o,aJ d.o⟩
 .rw[iP rfl];clear i;go_enter func164,ntmps164;go_wp2_with fail;refine(f.o).mono ?_;rintro e w1 ⟨rfl,a⟩;have h1:=H.o.on a;obtain⟨A,c,c0,c1,c2,c3,c4,k⟩:=h1.cells;have f1:=h1.free 1;have l:=h1.lt;have H1:=aA h1;have d:=aA a;have m:(0:Int)<=p.at_:=qo;have i2:(p.at_:Int)<=5000:=qo;clear a f k h1 c0 c2 c3 c4 H;go_wp2;go_returns;refine⟨rfl,H1.o.stay (aI _) fun A c h=> ?_,(aJ d.o).trans (aI _)⟩;rw[aG h 1 _];rfl
theorem mN{L:List Tok}{p:PS}(T:Toks L)(s:bY)(hp:p.at_<L.length)(g:Nat)(w:World)(h:PW L w g p):
 Calls prog 121 #[.pointer (some ⟨g,0,none⟩),.string s] w (eU L g w (.tuple #[]) (eM L s p)):=by
 have n:=T.len;have a:=aA (eP T s hp g w h);unfold eU;have e:eM L s p=if (kS L s p).1 then (kS L s p).2 else dM L (kS L s p).2:=by
  unfold eM kS;by_cases d:cM L s p=true
  .rw[iP d,iP d];rfl
  .rw[iN d,iN d];rfl
 rw[e];have i:=aA (TF T s hp).lt;clear e h;generalize kS L s p=r at *;obtain⟨b,q⟩:=r;simp only at a i ⊢
 cases b
 .rw[iN qe];go_enter func121,ntmps121;go_wp2_with fail;refine(a.o).mono ?_;rintro e w1 ⟨rfl,h1,c⟩;have j:=aA (mB i.o n g w1 h1);have f:=aA c;clear a h1 c;go_wp2_with fail;refine(j.o).mono ?_;rintro e w2 ⟨rfl,h2,k⟩;have l:=aA h2;have m:=aA (f.o.trans k);clear j h2 k;go_wp2;go_returns;exact⟨rfl,l.o,m.o⟩
 .rw[iP rfl];go_enter func121,ntmps121;go_wp2_with fail;refine(a.o).mono ?_;rintro e w1 ⟨rfl,h1,c⟩;have H1:=aA h1;have f:=aA c;clear a h1 c;go_wp2;go_returns;exact⟨rfl,H1.o,f.o⟩
abbrev oJ(t:Tok):Array Value:=#[.int .i64 t.aDG,.int .i64 t.at_,.int .i64 t.num,.string t.str]
theorem rL{L:List Tok}{p:PS}(T:Toks L)(hp:p.at_<L.length)(g:Nat)(w:World)(h:PW L w g p):
 Calls prog 119 #[.pointer (some ⟨g,0,none⟩)] w (eU L g w (.string (bT L p).1) (bT L p).2):=by
 have o:=T.len;have i:=aA (gK hp o g w h);have H:=aA h;have b:=aA (jI T hp).lt;clear h;unfold eU;unfold bT at b ⊢;dsimp only at b ⊢;unfold iE at i;have l:=fun w h=>mB hp o g w h
 have k:(dM L p).bad≠0:=lZ 5 _ qe p;have l:=aA l;generalize aU L p=t at *;generalize dM L p=q at *;by_cases f:t.aDG=1
 .have b0:(t.aDG != 1)=false:=by rw[f];rfl
  rw[iN (show ¬t.aDG≠1 from fun h=>h f)] at b ⊢;clear l k f;by_cases d:p.bad=0
  .rw[iN (fun h=>h d)] at b ⊢;have B:=aA d;go_enter func119,ntmps119;go_wp2_with fail;refine(i.o).mono ?_;rintro e w1 ⟨rfl,a⟩;have h1:=H.o.on a;have H1:=aA h1;have x:=aA a;obtain⟨A,c,c0,c1,c2,c3,c4,j⟩:=h1.cells;have f1:=h1.free 1;have r:=h1.lt;have z:=aA r;rw[d] at c3;have C:(0:Int)<=p.at_:=qo;have i2:(p.at_:Int)<=5000:=qo;clear a j h1 c0 c2 c4 H d;go_wp2;go_returns;refine⟨rfl,H1.o.stay ((aI _).trans (aJ (aB _ _))) fun A c h=> ?_,(aJ x.o).trans ((aI _).trans (aJ (aB _ _)))⟩;rw[Below.heap_alloc _ _ _ (by simpa [World.setCell] using z.o),aG h 1 _];rfl
  .rw[iP d] at b ⊢;have b1:(p.bad != 0)=true:=bne_iff_ne.2 d;clear d;go_enter func119,ntmps119;go_wp2_with fail;refine(i.o).mono ?_;rintro e w1 ⟨rfl,a⟩;have h1:=H.o.on a;have m:=aA (h1.on (aB w1 (.cells (oJ t) 140)));have n:=aA (aC a (aB w1 (.cells (oJ t) 140)));obtain⟨A,c,c0,c1,c2,c3,c4,j⟩:=h1.cells;have r:=h1.lt;clear a j h1 c0 c1 c2 c4 H;go_wp2;go_returns;exact⟨rfl,m.o,aJ n.o⟩
 .have b0:(t.aDG != 1)=true:=bne_iff_ne.2 f;rw[iP f] at b ⊢;rw[iP k] at b ⊢;have b1:(q.bad != 0)=true:=bne_iff_ne.2 k;clear f k;go_enter func119,ntmps119;go_wp2_with fail;refine(i.o).mono ?_;rintro e w1 ⟨rfl,a⟩;have h1:=H.o.on a;have m:=aA (h1.on (aB w1 (.cells (oJ t) 140)));have n:=aA (aC a (aB w1 (.cells (oJ t) 140)));clear a h1 H;go_wp2_with fail;refine(l.o _ m.o).mono ?_;rintro e w2 ⟨rfl,h2,s⟩;obtain⟨A,c,c0,c1,c2,c3,c4,j⟩:=h2.cells;have v:=aA h2;have y:=aA ((aJ n.o).trans s);clear j h2 s c0 c1 c2 c4 i;go_wp2;go_returns;exact⟨rfl,v.o,y.o⟩
theorem rM{p:Prop}(h:p:=by
 go_wp2;go_ret;exact⟨by rw[HE.o];rfl,rfl⟩):p:=h
theorem eV(c:UInt8):bA c=true↔48<=(c.toNat:Int)/\(c.toNat:Int)<=57:=by unfold bA;rw[Bool.and_eq_true,decide_eq_true_eq,decide_eq_true_eq];omega
theorem iV(c:UInt8)(w:World):Calls prog 159 #[.int .u8 (c.toNat:Int)] w fun e w'=>e=.returned (.bool (bA c))/\w=w':=by
 have a:=aA (eV c);by_cases h1:48<=(c.toNat:Int)
 .by_cases h2:(c.toNat:Int)<=57
  .have HE:Hid (bA c=true):=aA (a.o.2 ⟨h1,h2⟩);have d1:decide ((c.toNat:Int) ≥ 48)=true:=dX h1;have d2:decide ((c.toNat:Int)<=57)=true:=dX h2;go_enter func159,ntmps159;exact rM
  .have HE:Hid (bA c=false):=aA (by rw[Bool.eq_false_iff];intro h;exact h2 (a.o.1 h).2);have d1:decide ((c.toNat:Int) ≥ 48)=true:=dX h1;have d2:decide ((c.toNat:Int)<=57)=false:=dF h2;go_enter func159,ntmps159;exact rM
 .have HE:Hid (bA c=false):=aA (by rw[Bool.eq_false_iff];intro h;exact h1 (a.o.1 h).1);have d1:decide ((c.toNat:Int) ≥ 48)=false:=dF h1;go_enter func159,ntmps159;exact rM
theorem Om(c:UInt8):iR c=((decide (97<=(c.toNat:Int))&&decide ((c.toNat:Int)<=122))||bA c||decide ((c.toNat:Int)=95)):=by
 unfold iR yL;have a:decide (97<=c.toNat)=decide (97<=(c.toNat:Int)):=decide_eq_decide.2 qo;have b:decide (c.toNat<=122)=decide ((c.toNat:Int)<=122):=decide_eq_decide.2 qo;have d:decide (c.toNat=95)=decide ((c.toNat:Int)=95):=decide_eq_decide.2 qo;rw[a,b,d]
theorem XX(c:UInt8)(w:World):Calls prog 203 #[.int .u8 (c.toNat:Int)] w fun e w'=>e=.returned (.bool (iR c))/\w=w':=by
 have b:=aA (iV c w);have a:=aA (Om c);by_cases h1:97<=(c.toNat:Int)/\(c.toNat:Int)<=122
 .have HE:Hid (iR c=true):=aA (by rw[a.o,dX h1.1,dX h1.2];rfl);have d1:decide ((c.toNat:Int) ≥ 97)=true:=dX h1.1;have d2:decide ((c.toNat:Int)<=122)=true:=dX h1.2;clear b a;go_enter func203,ntmps203;exact rM
 .have f:Hid ((decide (97<=(c.toNat:Int))&&decide ((c.toNat:Int)<=122))=false):=aA (by rw[Bool.eq_false_iff];intro h;rw[Bool.and_eq_true,decide_eq_true_eq,decide_eq_true_eq] at h;exact h1 h);rw[f.o,Bool.false_or] at a;have d:Hid (((c.toNat:Int) ≥ 97/\¬(c.toNat:Int)<=122)\/¬(c.toNat:Int) ≥ 97):=aA qo;clear h1 f;generalize bA c=dg at *
  rcases d.o with ⟨h3,h4⟩|h3
  all_goals
   first|(have d1:decide ((c.toNat:Int) ≥ 97)=true:=dX h3;have d2:decide ((c.toNat:Int)<=122)=false:=dF h4)|(have d1:decide ((c.toNat:Int) ≥ 97)=false:=dF h3)
   cases dg
   .by_cases h5:(c.toNat:Int)=95
    .have HE:Hid (iR c=true):=aA (by rw[a.o,dX h5];rfl);have d5:((c.toNat:Int)==95)=true:=bQ.2 h5;clear a d h5;go_enter func203,ntmps203;go_wp2_with fail;refine b.o.mono ?_;rintro e w' ⟨rfl,rfl⟩;exact rM
    .have HE:Hid (iR c=false):=aA (by rw[a.o,dF h5];rfl);have d5:((c.toNat:Int)==95)=false:=bN.2 h5;clear a d h5;go_enter func203,ntmps203;go_wp2_with fail;refine b.o.mono ?_;rintro e w' ⟨rfl,rfl⟩;exact rM
   .have HE:Hid (iR c=true):=aA (by rw[a.o];rfl);clear a d;go_enter func203,ntmps203;go_wp2_with fail;refine b.o.mono ?_;rintro e w' ⟨rfl,rfl⟩;exact rM
end Go.Proofs.YtheabjeppmdmiaaGreatDoor
