/- Lemmas. -/
import Derived.Test.YthcgdgkpgdjahaaGreatDoorMac
import Derived.Deep.Quiet
namespace Go.Proofs.YthcgdgkpgdjahaaGreatDoor
open Go.RowKit
set_option linter.unusedVariables false
set_option linter.unusedSimpArgs false
set_option maxHeartbeats 16000000
open _root_.Go.Proofs.Tryz
set_option maxRecDepth 20000
section
open Go.ChangeShapes Go.WideShapes Go.ChangeAt Go.Deep
open Go.ChangeMaps (open_string shut_string)
def To(v:V3):Value×Value×Value:=(.int .i64 v.1,.int .i64 v.2.1,.string v.2.2)
def Ic(l:List V3):List Value:=qQ (l.map To)
structure Gm where
 cat:Int
 name:ByteArray
 at_:Option Addr
 cap:Nat
 bag:List V3
def Gm.gv(x:Gm):Gv:=(x.cat,x.name,x.bag)
def Tp(x:Gm):Value×Value×Value:=(.int .i64 x.cat,.string x.name,.slice x.at_ x.bag.length x.cap)
def Yz(l:List Gm):List Value:=qQ (l.map Tp)
def VOk(v:V3):Prop:=bL v.1/\bL v.2.1/\v.2.2.size<=maxLen
def GL(w:World)(B:Nat)(x:Gm):Prop:=bL x.cat/\x.name.size<=maxLen/\x.bag.length<=x.cap/\x.cap<=maxLen/\Sl w B x.at_ (Ic x.bag)/\∀v∈x.bag,VOk v
def xC(w:World)(B:Nat)(a:oD)(l:List Gm):Prop:=Sl w B a (Yz l)/\∀x∈l,GL w B x
theorem GL.below{w w':World}{B:Nat}{x:Gm}(h:GL w B x)(a:Below B w w'):GL w' B x:=⟨h.1,h.2.1,h.2.2.1,h.2.2.2.1,h.2.2.2.2.1.below a,h.2.2.2.2.2⟩
theorem GL.more{w:World}{B a:Nat}{x:Gm}(h:GL w B x)(b:B<=a):GL w a x:=⟨h.1,h.2.1,h.2.2.1,h.2.2.2.1,h.2.2.2.2.1.more b,h.2.2.2.2.2⟩
theorem xC.below{w w':World}{B:Nat}{a:oD}{l:List Gm}(h:xC w B a l)(b:Below B w w'):xC w' B a l:=⟨h.1.below b,fun x c=>(h.2 x c).below b⟩
theorem xC.more{w:World}{B b:Nat}{a:oD}{l:List Gm}(h:xC w B a l)(c:B<=b):xC w b a l:=⟨h.1.more c,fun x d=>(h.2 x d).more c⟩
theorem xC.on{w w':World}{a:oD}{l:List Gm}(h:xC w w.heap.size a l)(b:Below w.heap.size w w'):xC w' w'.heap.size a l:=(h.below b).more b.size
theorem GL.on{w w':World}{x:Gm}(h:GL w w.heap.size x)(a:Below w.heap.size w w'):GL w' w'.heap.size x:=(h.below a).more a.size
theorem Sl.on{w w':World}{a:oD}{xs:List Value}(h:Sl w w.heap.size a xs)(b:Below w.heap.size w w'):Sl w' w'.heap.size a xs:=(h.below b).more b.size
theorem SE{α:Type}(f:α->Value×Value×Value){l:List α}{i:Nat}(a:i<l.length):
 (qQ (l.map f))[i * 3]? =some (f l[i]).1/\(qQ (l.map f))[i * 3+1]? =some (f l[i]).2.1/\(qQ (l.map f))[i * 3+2]? =some (f l[i]).2.2:=
 PH (l.map f) i (f l[i]) (by rw[List.getElem?_map,gE a];rfl)
theorem Sl.three{α:Type}(f:α->Value×Value×Value){w:World}{B:Nat}{a:oD}{l:List α}{i:Nat}(h:Sl w B a (qQ (l.map f)))(g:i<l.length):
 ∃b off,a=some ⟨b,off,none⟩/\b<B/\w.cell? ⟨b,off+i * 3,none⟩=some (f l[i]).1/\w.cell? ⟨b,off+i * 3+1,none⟩=some (f l[i]).2.1/\w.cell? ⟨b,off+i * 3+2,none⟩=some (f l[i]).2.2:=by
 obtain⟨h1,h2,h3⟩:=SE f g;obtain⟨b,off,e,d,c⟩:=h (fun he=>by rw[he] at h1;simp at h1);refine⟨b,off,e,d,c _ _ h1,?_,?_⟩
 .rw[Nat.add_assoc];exact c _ _ h2
 .rw[Nat.add_assoc];exact c _ _ h3
theorem Sl.val{w:World}{B:Nat}{a:oD}{l:List V3}{i:Nat}(h:Sl w B a (Ic l))(c:i<l.length):
 ∃b off,a=some ⟨b,off,none⟩/\b<B/\w.cell? ⟨b,off+i * 3,none⟩=some (.int .i64 l[i].1)/\w.cell? ⟨b,off+i * 3+1,none⟩=some (.int .i64 l[i].2.1)/\w.cell? ⟨b,off+i * 3+2,none⟩=some (.string l[i].2.2):=Sl.three To h c
theorem xC.at{w:World}{B:Nat}{a:oD}{l:List Gm}{i:Nat}(h:xC w B a l)(c:i<l.length):
 ∃b off,a=some ⟨b,off,none⟩/\b<B/\w.cell? ⟨b,off+i * 3,none⟩=some (.int .i64 l[i].cat)/\w.cell? ⟨b,off+i * 3+1,none⟩=some (.string l[i].name)/\w.cell? ⟨b,off+i * 3+2,none⟩=some (.slice l[i].at_ l[i].bag.length l[i].cap):=Sl.three Tp h.1 c
theorem xC.nil{w:World}{B:Nat}{a:oD}:xC w B a []:=⟨Sl.nil,fun _ h=>absurd h qs⟩
section
variable {H:Type} {enc:TypeId×Value->H} {P:Program} {W:World} {sp:Nat->Bool} {held:Bool}
variable {tg tv tb:TypeId} {g0 g1 g2 v0 v1 v2:Field}
end
end
theorem Za{p:Prop}(h:p:=by
 clear HR;go_wp2;go_round
 case rel=>exact⟨k+1,qo,by go_num,HG⟩
 case measure=>simp[intOf];omega):p:=h
theorem Av{p:Prop}(h:p:=by
 go_wp2;go_ret;exact⟨by rw[HF.o];rfl,rfl⟩):p:=h
theorem PJ{p:Prop}(h:p:=by
 go_wp2;go_ret;exact⟨by rw[HG.o];rfl,rfl⟩):p:=h
theorem PK(s:bY)(k:Nat)(h:k<s.size):wC (decide (k=0)) (s.data.toList.drop k)=(BR (decide (k=0)) s[k]&&wC false (s.data.toList.drop (k+1))):=by
 rw[List.drop_eq_getElem_cons (by simpa using h)];rfl
theorem Dc(c:UInt8):(97<=(c.toNat:Int)/\(c.toNat:Int)<=122)\/(48<=(c.toNat:Int)/\(c.toNat:Int)<=57)\/(c.toNat:Int)=95\/((((c.toNat:Int)<97\/122<(c.toNat:Int))/\((c.toNat:Int)<48\/57<(c.toNat:Int)))/\(c.toNat:Int)≠95):=qo
theorem aAS(f:Bool)(c:UInt8)(h:97<=(c.toNat:Int)/\(c.toNat:Int)<=122):BR f c=true:=by
 unfold BR;simp only[Bool.or_eq_true,Bool.and_eq_true,decide_eq_true_eq];exact .inl qo
theorem Tq(c:UInt8)(h:(48<=(c.toNat:Int)/\(c.toNat:Int)<=57)\/(c.toNat:Int)=95):BR false c=true:=by
 unfold BR;simp only[Bool.or_eq_true,Bool.and_eq_true,decide_eq_true_eq,Bool.not_false,true_and];exact .inr qo
theorem Tr(c:UInt8)(h:¬(97<=(c.toNat:Int)/\(c.toNat:Int)<=122)):BR true c=false:=by
 unfold BR;rw[Bool.eq_false_iff];simp only[ne_eq,Bool.or_eq_true,Bool.and_eq_true,decide_eq_true_eq,Bool.not_true,Bool.false_eq_true,false_and,or_false];omega
theorem aAT(f:Bool)(c:UInt8)(h:(((c.toNat:Int)<97\/122<(c.toNat:Int))/\((c.toNat:Int)<48\/57<(c.toNat:Int)))/\(c.toNat:Int)≠95):BR f c=false:=by
 unfold BR;rw[Bool.eq_false_iff];simp only[ne_eq,Bool.or_eq_true,Bool.and_eq_true,decide_eq_true_eq];omega
def pS(s:bY)(k:Nat):Prop:=wC true s.data.toList=wC (decide (k=0)) (s.data.toList.drop k)
theorem NM{s:bY}{k:Nat}(h:k<s.size)(b:pS s k)(a:BR (decide (k=0)) s[k]=true):pS s (k+1):=by
 unfold pS at *;rw[b,PK s k h,a];rfl
theorem CN{s:bY}{k:Nat}(h:k<s.size)(a:pS s k)(b:BR (decide (k=0)) s[k]=false):eT s=false:=by
 unfold pS at a;unfold eT;rw[a,PK s k h,b];rfl
theorem Pg{s:bY}(a:pS s s.size):eT s=(decide (1<=s.size)&&decide (s.size<=16)):=by
 unfold pS at a;unfold eT;rw[a,List.drop_of_length_le qs,wC];rfl
theorem rN{s:bY}(h:s.size=0):s.toList=[]/\(!s.toList.isEmpty)=false/\s.toList.isEmpty=true:=by
 have e:s.toList=[]:=by
  rw[ByteArray.toList_eq];exact List.eq_nil_of_length_eq_zero (by simpa using h)
 rw[e];exact⟨rfl,rfl,rfl⟩
theorem rO{s:bY}(h:1<=s.size):(¬s.toList=[])/\(!s.toList.isEmpty)=true/\s.toList.isEmpty=false:=by
 have e:¬s.toList=[]:=by
  rw[ByteArray.toList_eq];intro h0;have:s.data.toList.length=0:=by rw[h0];rfl
  have h2:s.data.toList.length=s.size:=by simp
  omega
 refine⟨e,?_,?_⟩
 .rcases h:s.toList with _|⟨x,l⟩
  .exact absurd h e
  .rfl
 .rcases h:s.toList with _|⟨x,l⟩
  .exact absurd h e
  .rfl
theorem oZ(s:bY)(j:s.size<=maxLen)(w:World):
 Calls prog 56 #[.string s] w fun e w'=>e=.returned (.bool (eT s))/\w=w':=by
 unfold maxLen at j;go_enter func56,ntmps56;go_wp2;go_loop [9] (fun i=>∃k:Nat,k<=s.size/\i=.int .i64 k/\Hid (pS s k)) (fun i=>s.size - (intOf i).toNat)
 case atStart=>exact⟨0,qo,rfl,aA (by unfold pS;rfl)⟩
 case round=>
  obtain⟨k,l,rfl,HR⟩:=hrel;by_cases b:k<s.size
  .rcases Dc s[k] with ⟨h1,h2⟩|h|h|⟨⟨h1,h2⟩,h3⟩
   .have HG:=aA (NM b HR.o (aAS _ _ ⟨h1,h2⟩));exact Za
   .have g:¬97<=(s[k].toNat:Int):=qo;obtain⟨h1,h2⟩:=h
    rcases Nat.eq_zero_or_pos k with rfl|h0
    .have HG:=aA (CN b HR.o (Tr _ qo));clear HR;exact PJ
    .have HG:=aA (NM b HR.o (by rw[dF qo];exact Tq _ (.inl ⟨h1,h2⟩)));exact Za
   .have g:¬97<=(s[k].toNat:Int):=qo;have m:¬(s[k].toNat:Int)<=57:=qo
    rcases Nat.eq_zero_or_pos k with rfl|h0
    .have HG:=aA (CN b HR.o (Tr _ qo));clear HR;exact PJ
    .have HG:=aA (NM b HR.o (by rw[dF qo];exact Tq _ (.inr h)));exact Za
   .have HG:=aA (CN b HR.o (aAT _ _ ⟨⟨h1,h2⟩,h3⟩));have h95:((s[k].toNat:Int)==95)=false:=bN.2 h3;clear HR
    rcases h1 with h1|h1<;>rcases h2 with h2|h2
    .rcases Nat.eq_zero_or_pos k with rfl|h0
     .exact PJ
     .exact PJ
    .have h57:decide ((s[k].toNat:Int)<=57)=false:=dF qo
     rcases Nat.eq_zero_or_pos k with rfl|h0
     .exact PJ
     .exact PJ
    .exfalso;omega
    .have h57:decide ((s[k].toNat:Int)<=57)=false:=dF qo;have h122:decide ((s[k].toNat:Int)<=122)=false:=dF qo
     rcases Nat.eq_zero_or_pos k with rfl|h0
     .exact PJ
     .exact PJ
  .obtain rfl:k=s.size:=qo;have a:=aA (Pg HR.o);clear HR
   rcases Nat.eq_zero_or_pos s.size with h0|h0
   .obtain⟨c,d,f⟩:=rN h0;have HF:Hid (eT s=false):=aA (by rw[a.o,h0];rfl);clear a h0;exact Av
   .obtain⟨c,d,f⟩:=rO h0;by_cases h16:s.size<=16
    .have HF:Hid (eT s=true):=aA (by rw[a.o,dX h16,dX (show 1<=s.size from h0)];rfl);have d16:decide ((s.size:Int)<=16)=true:=dX qo;clear a;exact Av
    .have HF:Hid (eT s=false):=aA (by rw[a.o,dF h16,Bool.and_false]);have d16:decide ((s.size:Int)<=16)=false:=dF qo;clear a;exact Av
theorem vD{p:Prop}(h:p:=by
 go_enter func59,ntmps59;go_wp2;go_ret;exact⟨by rw[HF.o];rfl,aB _ _⟩):p:=h
theorem uH{s:bY}:s.size=0\/1<=s.size:=qo
def lN(v:Value)(w:World)(e:Ending)(w':World):Prop:=e=.returned v/\Below w.heap.size w w'
theorem Vq{v:V3}(h:v.1=1):aT v=((decide (v.2.1=0)||decide (v.2.1=1))&&decide (v.2.2.size=0)):=by unfold aT;rw[iP h]
theorem Vr{v:V3}(h:v.1=2):aT v=decide (v.2.2.size=0):=by unfold aT;rw[iN qo,iP h]
theorem Vs{v:V3}(h:v.1=3):aT v=(decide (v.2.1=0)&&decide (v.2.2.size<=64)):=by unfold aT;rw[iN qo,iN qo,iP h]
theorem Vt{v:V3}(h:v.1=4):aT v=((decide (0<=v.2.1)&&decide (v.2.1<=1099511627776))&&decide (v.2.2.size=0)):=by unfold aT;rw[iN qo,iN qo,iN qo,iP h]
theorem Vu{v:V3}(h:v.1=5):aT v=(decide (v.2.1=0)&&eT v.2.2):=by unfold aT;rw[iN qo,iN qo,iN qo,iN qo,iP h]
theorem Vv{v:V3}(h:v.1≠1/\v.1≠2/\v.1≠3/\v.1≠4/\v.1≠5):aT v=false:=by unfold aT;rw[iN qo,iN qo,iN qo,iN qo,iN qo]
theorem nU(k n:Int)(s:bY)(q:s.size<=maxLen)(w:World):
 Calls prog 59 #[.agg #[.int .i64 k,.int .i64 n,.string s]] w (lN (.bool (aT (k,n,s))) w):=by
 unfold maxLen at q;unfold lN;by_cases j:k=1
 .have a:=aA (Vq (v:=(k,n,s)) j);simp only at a;subst j;by_cases b:n=0
  .have b0:(n==0)=true:=bQ.2 b
   rcases uH (s:=s) with z|z
   .obtain⟨f,g,i⟩:=rN z;have HF:Hid (aT (1,n,s)=true):=aA (by rw[a.o,dX b,dX z];rfl);clear a b z;exact vD
   .obtain⟨f,g,i⟩:=rO z;have HF:Hid (aT (1,n,s)=false):=aA (by rw[a.o,dF (show ¬s.size=0 by omega),Bool.and_false]);clear a b z;exact vD
  .have b0:(n==0)=false:=bN.2 b;by_cases c:n=1
   .have b1:(n==1)=true:=bQ.2 c
    rcases uH (s:=s) with z|z
    .obtain⟨f,g,i⟩:=rN z;have HF:Hid (aT (1,n,s)=true):=aA (by rw[a.o,dX c,dX z,Bool.or_true];rfl);clear a b c z;exact vD
    .obtain⟨f,g,i⟩:=rO z;have HF:Hid (aT (1,n,s)=false):=aA (by rw[a.o,dF (show ¬s.size=0 by omega),Bool.and_false]);clear a b c z;exact vD
   .have b1:(n==1)=false:=bN.2 c;have HF:Hid (aT (1,n,s)=false):=aA (by rw[a.o,dF b,dF c];rfl);clear a;exact vD
 by_cases l:k=2
 .have a:=aA (Vr (v:=(k,n,s)) l);simp only at a;subst l
  rcases uH (s:=s) with z|z
  .obtain⟨f,g,i⟩:=rN z;have HF:Hid (aT (2,n,s)=true):=aA (by rw[a.o,dX z]);clear a z;exact vD
  .obtain⟨f,g,i⟩:=rO z;have HF:Hid (aT (2,n,s)=false):=aA (by rw[a.o,dF (show ¬s.size=0 by omega)]);clear a z;exact vD
 by_cases m:k=3
 .have a:=aA (Vs (v:=(k,n,s)) m);simp only at a;subst m;by_cases b:n=0
  .have b0:(n==0)=true:=bQ.2 b;by_cases z:s.size<=64
   .have HF:Hid (aT (3,n,s)=true):=aA (by rw[a.o,dX b,dX z];rfl);have d:decide ((s.size:Int)<=64)=true:=dX qo;clear a b z;exact vD
   .have HF:Hid (aT (3,n,s)=false):=aA (by rw[a.o,dF z,Bool.and_false]);have d:decide ((s.size:Int)<=64)=false:=dF qo;clear a b z;exact vD
  .have b0:(n==0)=false:=bN.2 b;have HF:Hid (aT (3,n,s)=false):=aA (by rw[a.o,dF b];rfl);clear a;exact vD
 by_cases o:k=4
 .have a:=aA (Vt (v:=(k,n,s)) o);simp only at a;subst o;by_cases b:0<=n
  .have b0:decide (0<=n)=true:=dX b;by_cases c:n<=1099511627776
   .have b1:decide (n<=1099511627776)=true:=dX c
    rcases uH (s:=s) with z|z
    .obtain⟨f,g,i⟩:=rN z;have HF:Hid (aT (4,n,s)=true):=aA (by rw[a.o,b0,b1,dX z];rfl);clear a z;exact vD
    .obtain⟨f,g,i⟩:=rO z;have HF:Hid (aT (4,n,s)=false):=aA (by rw[a.o,dF (show ¬s.size=0 by omega),Bool.and_false]);clear a z;exact vD
   .have b1:decide (n<=1099511627776)=false:=dF c;have HF:Hid (aT (4,n,s)=false):=aA (by rw[a.o,b1,Bool.and_false];rfl);clear a;exact vD
  .have b0:decide (0<=n)=false:=dF b;have HF:Hid (aT (4,n,s)=false):=aA (by rw[a.o,b0];rfl);clear a;exact vD
 by_cases p:k=5
 .have a:=aA (Vu (v:=(k,n,s)) p);simp only at a;subst p;by_cases b:n=0
  .have b0:(n==0)=true:=bQ.2 b;have HF:Hid (aT (5,n,s)=eT s):=aA (by rw[a.o,dX b];rfl);clear a b;go_enter func59,ntmps59;go_wp2_with (go_at_call 56;refine(oZ s (by unfold maxLen;omega) _).mono ?_;rintro e w' ⟨rfl,rfl⟩)
   go_ret;exact⟨by rw[HF.o];rfl,aB _ _⟩
  .have b0:(n==0)=false:=bN.2 b;have HF:Hid (aT (5,n,s)=false):=aA (by rw[a.o,dF b];rfl);clear a;exact vD
 have HF:Hid (aT (k,n,s)=false):=aA (Vv (v:=(k,n,s)) ⟨j,l,m,o,p⟩);exact vD
structure In (C:World->Prop) where
 w:World
 h:C w
theorem CP{P:Program}{C:World->Prop}{id:Nat}{Q:Exit->Act->World->Prop}{a:Act}{w:World}{l:List Oper}(hm:P.follows .mixedOrders=true)(c:Region.lexB .any l.toArray=true)(hC:C w.drew)
 (h:wpQuiet P l.toArray (fun w'=>∃p:In C,w'=p.w) (fun b=>∀w',C w'->Q .normal b w') l a):(Code.region id l.toArray true).wp P Q a w:=by
 refine wp_region_quiet (C:=fun w'=>∃p:In C,w'=p.w) hm c ⟨⟨w.drew,hC⟩,rfl⟩ ?_;have e:(fun b=>∀w',(∃p:In C,w'=p.w)->Q .normal b w')=fun b=>∀w',C w'->Q .normal b w':=by
  funext b
  exact propext ⟨fun g w' d=>g w' ⟨⟨w',d⟩,rfl⟩,fun g w' ⟨p,hp⟩=>hp▸g p.w p.h⟩
 rw[e];simpa using h
theorem in_call{P:Program}{C:World->Prop}{p:In C}{f:FuncId}{args:Array Value}{v:Value}(h:∀w',C w'->Calls P f args w' fun e a=>e=.returned v/\C a):
 Calls P f args p.w fun e a=>e=.returned v/\∃q:In C,a=q.w:=
 (h p.w p.h).mono fun _ a k=>⟨k.1,⟨a,k.2⟩,rfl⟩
def BS(w:World)(w':World):Prop:=Below w.heap.size w w'
theorem TR(w:World):BS w w.drew:=(Below.refl _ _).drew
instance(w:World):Nonempty (In (BS w)):=⟨⟨w,Below.refl _ _⟩⟩
theorem BU{p:Prop}(h:p:=by
 exact⟨0,qo,rfl,aA (fun i _ h=>absurd h qo),aA (Below.refl _ _)⟩):p:=h
theorem Zb{p:Prop}(h:p:=by
 rw[iN qe];intro i hi h
 rcases Nat.lt_or_ge i k with h1|h1
 .exact HR.o i hi h1
 .obtain rfl:i=k:=qo;exact hg):p:=h
theorem Zc{p:Prop}(h:p:=by
 have HF:=aA (HL.o false rfl);clear HL;go_wp2;go_roundw
 case rel=>exact⟨k+1,qo,by go_num,aA (by have:=HF.o;rwa [iN qe] at this),HB'⟩
 case measure=>simp[intOf];omega):p:=h
theorem jL(a b:bY):(a.toList==b.toList)=decide (a=b):=by
 rw[Bool.eq_iff_iff,bQ,decide_eq_true_eq,ByteArray.toList_eq,ByteArray.toList_eq];constructor
 .intro h;exact ByteArray.ext (Array.toList_inj.1 h)
 .rintro rfl;rfl
theorem Ph(x:Gm)(C:Int)(N:bY)(p q:Nat)(w:World)(hp:w.cell? ⟨p,0,none⟩=some (.int .i64 C))(b:w.cell? ⟨q,0,none⟩=some (.string N))(a:p<w.heap.size)(c:q<w.heap.size):
 Calls prog 279 #[.agg #[.int .i64 x.cat,.string x.name,.slice x.at_ x.bag.length x.cap],.pointer (some ⟨p,0,none⟩),.pointer (some ⟨q,0,none⟩)] w (lN (.bool (mT C N x.gv)) w):=by
 unfold lN;have h1:p≠w.heap.size:=qo;have h2:q≠w.heap.size:=qo;go_enter func279,ntmps279;go_wp2
 .rename_i h;go_ret;refine⟨?_,aB _ _⟩;show Ending.returned (.bool (x.name.toList==N.toList))=_;rw[jL];unfold mT Gm.gv;rw[dX h];rfl
 .rename_i h;go_ret;refine⟨?_,aB _ _⟩;show Ending.returned (.bool false)=_;unfold mT Gm.gv;rw[dF h];rfl
def CQ(l:List Gm):List Gv:=l.map Gm.gv
theorem vU(l:List Gm):(CQ l).length=l.length:=by unfold CQ;simp
theorem TS(l:List Gm)(i:Nat)(h:i<l.length):(CQ l)[i]'(by rw[vU];exact h)=l[i].gv:=by unfold CQ;simp
theorem Ie{l:List Gm}{C:Int}{N:bY}{k:Nat}(a:k<l.length)(c:∀i (b:i<l.length),i<k->mT C N l[i].gv=false)(h:mT C N l[k].gv=true):mV (CQ l) C N=(k:Int):=by
 have e:mU (CQ l) C N=k:=Yx (by rw[vU];exact a) (by rw[TS l k a];exact h) (fun i b=>by rw[TS l i qo];exact c i qo b);unfold mV;rw[e,iP (by rw[vU];exact a)]
theorem Dd{l:List Gm}{C:Int}{N:bY}(b:∀i (a:i<l.length),i<l.length->mT C N l[i].gv=false):mV (CQ l) C N= -1:=by
 have e:mU (CQ l) C N=(CQ l).length:=Pe (fun i a=>by rw[TS l i (by rw[vU] at a;exact a)];exact b i (by rw[vU] at a;exact a) (by rw[vU] at a;exact a));unfold mV;rw[e,iN qo]
theorem PM(a:oD)(c n:Nat)(l:List Gm)(B:l.length=n)(C:Int)(N:bY)(p q:Nat)(w:World)(A:l.length<=maxLen)(v:xC w w.heap.size a l)(hp:w.cell? ⟨p,0,none⟩=some (.int .i64 C))(t:w.cell? ⟨q,0,none⟩=some (.string N))(j:p<w.heap.size)(m:q<w.heap.size):
 Calls prog 278 #[.slice a n c,.func (.func 279) #[] #[.pointer (some ⟨p,0,none⟩),.pointer (some ⟨q,0,none⟩)]] w (lN (.int .i64 (mV (CQ l) C N)) w):=by
 subst B;unfold maxLen at A;unfold lN;have z:=aA v;have y:=aA (fun wr (d:Below w.heap.size w wr)=>(⟨(d.cell (p:=⟨p,0,none⟩) j).trans hp,(d.cell (p:=⟨q,0,none⟩) m).trans t,lL j d.size,lL m d.size⟩:wr.cell? ⟨p,0,none⟩=some (.int .i64 C)/\wr.cell? ⟨q,0,none⟩=some (.string N)/\p<wr.heap.size/\q<wr.heap.size));clear v hp t j m;go_enter func278,ntmps278;go_wp2;go_loopw [5,8] (fun _ i wr=>∃k:Nat,k<=l.length/\i=.int .i64 k/\Hid (∀i (hi:i<l.length),i<k->mT C N l[i].gv=false)/\Hid (Below w.heap.size w wr)) (fun _ i _=>l.length - (intOf i).toNat)
 case atStart=>exact BU
 case round=>
  obtain⟨k,D,rfl,HR,f⟩:=hrel;by_cases s:k<l.length
  .obtain⟨b,off,rfl,d,F,G,H⟩:=(z.o.below f.o).at s;obtain⟨c1,c2,c3,c4⟩:=y.o wr f.o;have o:=aA (Ph l[k] C N p q wr c1 c2 c3 c4);have HL:Hid (∀g,mT C N l[k].gv=g->((if g=true then mV (CQ l) C N=(k:Int) else ∀i (hi:i<l.length),i<k+1->mT C N l[i].gv=false):Prop)):=aA (fun g hg=>by
    cases g
    .exact Zb
    .rw[iP rfl];exact Ie s HR.o hg)
   clear c1 c2 c3 c4 HR;generalize E:l[k]=x at *;generalize mT C N x.gv=g at *;go_wp2_with fail;refine o.o.mono ?_;rintro e w' ⟨rfl,r⟩;have HB':=qB f r;clear o r
   cases g
   .exact Zc
   .have HF:=aA (HL.o true rfl);clear HL;go_wp2;go_ret;exact⟨by have:=HF.o;rw[iP trivial] at this;rw[this];rfl,HB'.o⟩
  .obtain rfl:k=l.length:=qo;have HF:=aA (Dd HR.o);clear HR;go_wp2;go_ret;exact⟨by rw[HF.o];rfl,f.o⟩
theorem If(w:World)(u v:Value)(t s:TypeId):((w.alloc (.cells #[u] t)).alloc (.cells #[v] s)).cell? ⟨w.heap.size,0,none⟩=some u/\((w.alloc (.cells #[u] t)).alloc (.cells #[v] s)).cell? ⟨w.heap.size+1,0,none⟩=some v/\w.heap.size<((w.alloc (.cells #[u] t)).alloc (.cells #[v] s)).heap.size/\w.heap.size+1<((w.alloc (.cells #[u] t)).alloc (.cells #[v] s)).heap.size/\
 Below w.heap.size w ((w.alloc (.cells #[u] t)).alloc (.cells #[v] s)):=by
 have a:Below w.heap.size w ((w.alloc (.cells #[u] t)).alloc (.cells #[v] s)):=aC (aB w _) (aB _ _);have b:(w.alloc (.cells #[u] t)).heap.size=w.heap.size+1:=by simp
 refine⟨?_,?_,by simp;omega,qs,a⟩
 .exact((aB (w.alloc (.cells #[u] t)) (.cells #[v] s)).cell (p:=⟨w.heap.size,0,none⟩) qs).trans (wG w #[u] t _ 0 u rfl)
 .have:=wG (w.alloc (.cells #[u] t)) #[v] s (0,0) 0 v rfl;rwa [b] at this
theorem bH{a b:Bool}(h:a=b):Ending.returned (.bool a)=.returned (.bool b):=by rw[h]
theorem Vw(a b:bY):decide (a=b)=decide (a.toList=b.toList):=by rw[<-jL,Bool.eq_iff_iff,bQ,decide_eq_true_eq]
theorem pA{L:List Tok}{p:PS}(s:bY)(hp:p.at_<L.length)(f:L.length<=5000)(g:Nat)(w:World)(h:PW L w g p):
 Calls prog 182 #[.pointer (some ⟨g,0,none⟩),.string s] w (aP (.bool (cM L s p)) w):=by
 have a:=aA (gO hp f g w h);have H:=aA h;clear h;unfold aP cM;unfold iD at a;generalize aU L p=t at *;go_enter func182,ntmps182;go_wp2_with fail;refine(a.o).mono ?_;rintro e w1 ⟨rfl,b⟩;have h1:=H.o.on b;obtain⟨A,c,c0,c1,c2,c3,c4,i⟩:=h1.cells;have j:=h1.lt;have d:=aA b;clear a b h1 i c0 c1 c2 c4;go_wp2
 all_goals go_returns
 all_goals exact⟨bH (by rw[Vw,Bool.eq_iff_iff];simp[*]),d.o.alloc d.o.size _⟩
theorem eR{L:List Tok}{p:PS}(T:Toks L)(s:bY)(hp:p.at_<L.length)(g:Nat)(w:World)(h:PW L w g p):
 Calls prog 179 #[.pointer (some ⟨g,0,none⟩),.string s] w (eX L g w (.bool (kV L s p).1) (kV L s p).2):=by
 have j:=T.len;have f:=aA (pA s hp j g w h);have H:=aA h;clear h;unfold eX kV;generalize i:cM L s p=b at *
 cases b
 .rw[iN qe];clear i;go_enter func179,ntmps179;go_wp2_with fail;refine(f.o).mono ?_;rintro e w1 ⟨rfl,a⟩;have d:=aA a;clear a f;go_wp2;go_returns;exact⟨rfl,H.o.on d.o,aJ d.o⟩
 .rw[iP rfl];clear i;go_enter func179,ntmps179;go_wp2_with fail;refine(f.o).mono ?_;rintro e w1 ⟨rfl,a⟩;have h1:=H.o.on a;obtain⟨A,c,c0,c1,c2,c3,c4,k⟩:=h1.cells;have f1:=h1.free 1;have l:=h1.lt;have H1:=aA h1;have d:=aA a;have m:(0:Int)<=p.at_:=qo;have i2:(p.at_:Int)<=5000:=qo;clear a f k h1 c0 c2 c3 c4 H;go_wp2;go_returns;refine⟨rfl,H1.o.stay (aI _) fun A c h=> ?_,(aJ d.o).trans (aI _)⟩;rw[aG h 1 _];rfl
theorem mO{L:List Tok}{p:PS}(T:Toks L)(s:bY)(hp:p.at_<L.length)(g:Nat)(w:World)(h:PW L w g p):
 Calls prog 135 #[.pointer (some ⟨g,0,none⟩),.string s] w (eX L g w (.tuple #[]) (eN L s p)):=by
 have n:=T.len;have a:=aA (eR T s hp g w h);unfold eX;have e:eN L s p=if (kV L s p).1 then (kV L s p).2 else dL L (kV L s p).2:=by
  unfold eN kV;by_cases d:cM L s p=true
  .rw[iP d,iP d];rfl
  .rw[iN d,iN d];rfl
 rw[e];have i:=aA (TP T s hp).lt;clear e h;generalize kV L s p=r at *;obtain⟨b,q⟩:=r;simp only at a i ⊢
 cases b
 .rw[iN qe];go_enter func135,ntmps135;go_wp2_with fail;refine(a.o).mono ?_;rintro e w1 ⟨rfl,h1,c⟩;have j:=aA (mC i.o n g w1 h1);have f:=aA c;clear a h1 c;go_wp2_with fail;refine(j.o).mono ?_;rintro e w2 ⟨rfl,h2,k⟩;have l:=aA h2;have m:=aA (f.o.trans k);clear j h2 k;go_wp2;go_returns;exact⟨rfl,l.o,m.o⟩
 .rw[iP rfl];go_enter func135,ntmps135;go_wp2_with fail;refine(a.o).mono ?_;rintro e w1 ⟨rfl,h1,c⟩;have H1:=aA h1;have f:=aA c;clear a h1 c;go_wp2;go_returns;exact⟨rfl,H1.o,f.o⟩
abbrev oO(t:Tok):Array Value:=#[.int .i64 t.aDN,.int .i64 t.at_,.int .i64 t.num,.string t.str]
theorem rP{L:List Tok}{p:PS}(T:Toks L)(hp:p.at_<L.length)(g:Nat)(w:World)(h:PW L w g p):
 Calls prog 133 #[.pointer (some ⟨g,0,none⟩)] w (eX L g w (.string (bT L p).1) (bT L p).2):=by
 have o:=T.len;have i:=aA (gO hp o g w h);have H:=aA h;have b:=aA (jK T hp).lt;clear h;unfold eX;unfold bT at b ⊢;dsimp only at b ⊢;unfold iD at i;have l:=fun w h=>mC hp o g w h
 have k:(dL L p).bad≠0:=mA 5 _ qe p;have l:=aA l;generalize aU L p=t at *;generalize dL L p=q at *;by_cases f:t.aDN=1
 .have b0:(t.aDN != 1)=false:=by rw[f];rfl
  rw[iN (show ¬t.aDN≠1 from fun h=>h f)] at b ⊢;clear l k f;by_cases d:p.bad=0
  .rw[iN (fun h=>h d)] at b ⊢;have B:=aA d;go_enter func133,ntmps133;go_wp2_with fail;refine(i.o).mono ?_;rintro e w1 ⟨rfl,a⟩;have h1:=H.o.on a;have H1:=aA h1;have x:=aA a;obtain⟨A,c,c0,c1,c2,c3,c4,j⟩:=h1.cells;have f1:=h1.free 1;have r:=h1.lt;have z:=aA r;rw[d] at c3;have C:(0:Int)<=p.at_:=qo;have i2:(p.at_:Int)<=5000:=qo;clear a j h1 c0 c2 c4 H d;go_wp2;go_returns;refine⟨rfl,H1.o.stay ((aI _).trans (aJ (aB _ _))) fun A c h=> ?_,(aJ x.o).trans ((aI _).trans (aJ (aB _ _)))⟩;rw[Below.heap_alloc _ _ _ (by simpa [World.setCell] using z.o),aG h 1 _];rfl
  .rw[iP d] at b ⊢;have b1:(p.bad != 0)=true:=bne_iff_ne.2 d;clear d;go_enter func133,ntmps133;go_wp2_with fail;refine(i.o).mono ?_;rintro e w1 ⟨rfl,a⟩;have h1:=H.o.on a;have m:=aA (h1.on (aB w1 (.cells (oO t) 130)));have n:=aA (aC a (aB w1 (.cells (oO t) 130)));obtain⟨A,c,c0,c1,c2,c3,c4,j⟩:=h1.cells;have r:=h1.lt;clear a j h1 c0 c1 c2 c4 H;go_wp2;go_returns;exact⟨rfl,m.o,aJ n.o⟩
 .have b0:(t.aDN != 1)=true:=bne_iff_ne.2 f;rw[iP f] at b ⊢;rw[iP k] at b ⊢;have b1:(q.bad != 0)=true:=bne_iff_ne.2 k;clear f k;go_enter func133,ntmps133;go_wp2_with fail;refine(i.o).mono ?_;rintro e w1 ⟨rfl,a⟩;have h1:=H.o.on a;have m:=aA (h1.on (aB w1 (.cells (oO t) 130)));have n:=aA (aC a (aB w1 (.cells (oO t) 130)));clear a h1 H;go_wp2_with fail;refine(l.o _ m.o).mono ?_;rintro e w2 ⟨rfl,h2,s⟩;obtain⟨A,c,c0,c1,c2,c3,c4,j⟩:=h2.cells;have v:=aA h2;have y:=aA ((aJ n.o).trans s);clear j h2 s c0 c1 c2 c4 i;go_wp2;go_returns;exact⟨rfl,v.o,y.o⟩
theorem rQ{p:Prop}(h:p:=by
 go_wp2;go_ret;exact⟨by rw[HE.o];rfl,rfl⟩):p:=h
theorem eY(c:UInt8):bB c=true↔48<=(c.toNat:Int)/\(c.toNat:Int)<=57:=by unfold bB;rw[Bool.and_eq_true,decide_eq_true_eq,decide_eq_true_eq];omega
theorem iR(c:UInt8)(w:World):Calls prog 158 #[.int .u8 (c.toNat:Int)] w fun e w'=>e=.returned (.bool (bB c))/\w=w':=by
 have a:=aA (eY c);by_cases h1:48<=(c.toNat:Int)
 .by_cases h2:(c.toNat:Int)<=57
  .have HE:Hid (bB c=true):=aA (a.o.2 ⟨h1,h2⟩);have d1:decide ((c.toNat:Int) ≥ 48)=true:=dX h1;have d2:decide ((c.toNat:Int)<=57)=true:=dX h2;go_enter func158,ntmps158;exact rQ
  .have HE:Hid (bB c=false):=aA (by rw[Bool.eq_false_iff];intro h;exact h2 (a.o.1 h).2);have d1:decide ((c.toNat:Int) ≥ 48)=true:=dX h1;have d2:decide ((c.toNat:Int)<=57)=false:=dF h2;go_enter func158,ntmps158;exact rQ
 .have HE:Hid (bB c=false):=aA (by rw[Bool.eq_false_iff];intro h;exact h1 (a.o.1 h).1);have d1:decide ((c.toNat:Int) ≥ 48)=false:=dF h1;go_enter func158,ntmps158;exact rQ
theorem Pj(c:UInt8):iM c=((decide (97<=(c.toNat:Int))&&decide ((c.toNat:Int)<=122))||bB c||decide ((c.toNat:Int)=95)):=by
 unfold iM yL;have a:decide (97<=c.toNat)=decide (97<=(c.toNat:Int)):=decide_eq_decide.2 qo;have b:decide (c.toNat<=122)=decide ((c.toNat:Int)<=122):=decide_eq_decide.2 qo;have d:decide (c.toNat=95)=decide ((c.toNat:Int)=95):=decide_eq_decide.2 qo;rw[a,b,d]
theorem YK(c:UInt8)(w:World):Calls prog 207 #[.int .u8 (c.toNat:Int)] w fun e w'=>e=.returned (.bool (iM c))/\w=w':=by
 have b:=aA (iR c w);have a:=aA (Pj c);by_cases h1:97<=(c.toNat:Int)/\(c.toNat:Int)<=122
 .have HE:Hid (iM c=true):=aA (by rw[a.o,dX h1.1,dX h1.2];rfl);have d1:decide ((c.toNat:Int) ≥ 97)=true:=dX h1.1;have d2:decide ((c.toNat:Int)<=122)=true:=dX h1.2;clear b a;go_enter func207,ntmps207;exact rQ
 .have f:Hid ((decide (97<=(c.toNat:Int))&&decide ((c.toNat:Int)<=122))=false):=aA (by rw[Bool.eq_false_iff];intro h;rw[Bool.and_eq_true,decide_eq_true_eq,decide_eq_true_eq] at h;exact h1 h);rw[f.o,Bool.false_or] at a;have d:Hid (((c.toNat:Int) ≥ 97/\¬(c.toNat:Int)<=122)\/¬(c.toNat:Int) ≥ 97):=aA qo;clear h1 f;generalize bB c=dg at *
  rcases d.o with ⟨h3,h4⟩|h3
  all_goals
   first|(have d1:decide ((c.toNat:Int) ≥ 97)=true:=dX h3;have d2:decide ((c.toNat:Int)<=122)=false:=dF h4)|(have d1:decide ((c.toNat:Int) ≥ 97)=false:=dF h3)
   cases dg
   .by_cases h5:(c.toNat:Int)=95
    .have HE:Hid (iM c=true):=aA (by rw[a.o,dX h5];rfl);have d5:((c.toNat:Int)==95)=true:=bQ.2 h5;clear a d h5;go_enter func207,ntmps207;go_wp2_with fail;refine b.o.mono ?_;rintro e w' ⟨rfl,rfl⟩;exact rQ
    .have HE:Hid (iM c=false):=aA (by rw[a.o,dF h5];rfl);have d5:((c.toNat:Int)==95)=false:=bN.2 h5;clear a d h5;go_enter func207,ntmps207;go_wp2_with fail;refine b.o.mono ?_;rintro e w' ⟨rfl,rfl⟩;exact rQ
   .have HE:Hid (iM c=true):=aA (by rw[a.o];rfl);clear a d;go_enter func207,ntmps207;go_wp2_with fail;refine b.o.mono ?_;rintro e w' ⟨rfl,rfl⟩;exact rQ
theorem QBr{p:Prop}(h:p:=by
 cases d
 .go_wp2_with fail;refine HC.o.mono ?_;rintro e w' ⟨rfl,rfl⟩;go_wp2;go_ret;exact⟨by rw[HS.o qs];rfl,rfl⟩
 .go_wp2_with fail;refine HC.o.mono ?_;rintro e w' ⟨rfl,rfl⟩;go_wp2;go_round
  case rel=>exact⟨k+1,qo,by go_num,aA (HG.o qs)⟩
  case measure=>simp[intOf];omega):p:=h
theorem Ig(p:UInt8->Bool)(l:lU):cL p l<=l.length:=by
 unfold cL;exact(List.takeWhile_sublist p).length_le
theorem TT{p:UInt8->Bool}{l:lU}{k:Nat}(a:k<l.length)(h:cL p l=k+cL p (l.drop k))(hp:p l[k]=true):cL p l=(k+1)+cL p (l.drop (k+1)):=by
 rw[h,List.drop_eq_getElem_cons a];unfold cL;rw[List.takeWhile_cons_of_pos hp,List.length_cons];omega
theorem TU{p:UInt8->Bool}{l:lU}{k:Nat}(a:k<l.length)(h:cL p l=k+cL p (l.drop k))(hp:p l[k]=false):cL p l=k:=by
 rw[h,List.drop_eq_getElem_cons a];unfold cL;rw[List.takeWhile_cons_of_neg (by rw[hp];decide)];rfl
theorem Aw{p:UInt8->Bool}{l:lU}(h:cL p l=l.length+cL p (l.drop l.length)):cL p l=l.length:=by
 rw[h,List.drop_of_length_le (lR _)];rfl
theorem Pk(s:bY)(f:s.size<=maxLen)(w:World):Calls prog 206 #[.string s,.func (.func 158) #[] #[]] w fun e w'=>e=.returned (.int .i64 (cL bB s.data.toList:Nat))/\w=w':=by
 unfold maxLen at f;have b:Hid (s.data.toList.length=s.size):=aA (by rw[Array.length_toList];rfl);go_enter func206,ntmps206;go_wp2;go_loop [5] (fun i=>∃k:Nat,k<=s.size/\i=.int .i64 k/\Hid (cL bB s.data.toList=k+cL bB (s.data.toList.drop k))) (fun i=>s.size - (intOf i).toNat)
 case atStart=>exact⟨0,qo,rfl,aA qs⟩
 case round=>
  obtain⟨k,g,rfl,a⟩:=hrel;by_cases c:k<s.size
  .have HC:=aA (iR s[k] w);have HG:Hid (bB s[k]=true->cL bB s.data.toList=(k+1)+cL bB (s.data.toList.drop (k+1))):=aA (fun h=>TT (by rw[b.o];exact c) a.o h);have HS:Hid (bB s[k]=false->cL bB s.data.toList=k):=aA (fun h=>TU (by rw[b.o];exact c) a.o h);clear a;generalize bB s[k]=d at *;exact QBr
  .obtain rfl:k=s.size:=qo;have HE:Hid (cL bB s.data.toList=s.size):=aA (by have:=a.o;rw[<-b.o] at this ⊢;exact Aw this);clear a;exact rQ
theorem Pl(s:bY)(f:s.size<=maxLen)(w:World):Calls prog 206 #[.string s,.func (.func 207) #[] #[]] w fun e w'=>e=.returned (.int .i64 (cL iM s.data.toList:Nat))/\w=w':=by
 unfold maxLen at f;have b:Hid (s.data.toList.length=s.size):=aA (by rw[Array.length_toList];rfl);go_enter func206,ntmps206;go_wp2;go_loop [5] (fun i=>∃k:Nat,k<=s.size/\i=.int .i64 k/\Hid (cL iM s.data.toList=k+cL iM (s.data.toList.drop k))) (fun i=>s.size - (intOf i).toNat)
 case atStart=>exact⟨0,qo,rfl,aA qs⟩
 case round=>
  obtain⟨k,g,rfl,a⟩:=hrel;by_cases c:k<s.size
  .have HC:=aA (YK s[k] w);have HG:Hid (iM s[k]=true->cL iM s.data.toList=(k+1)+cL iM (s.data.toList.drop (k+1))):=aA (fun h=>TT (by rw[b.o];exact c) a.o h);have HS:Hid (iM s[k]=false->cL iM s.data.toList=k):=aA (fun h=>TU (by rw[b.o];exact c) a.o h);clear a;generalize iM s[k]=d at *;exact QBr
  .obtain rfl:k=s.size:=qo;have HE:Hid (cL iM s.data.toList=s.size):=aA (by have:=a.o;rw[<-b.o] at this ⊢;exact Aw this);clear a;exact rQ
theorem FC(s:bY)(n:Nat):s.extract 0 n=bs (s.data.toList.take n):=by
 apply ByteArray.ext
 apply Array.ext'
 rw[mW];simp
theorem GM(s:bY)(g:s.size<=maxLen)(w:World):Calls prog 157 #[.string s] w fun e w'=>e=.returned (.string (bs (gF s.data.toList)))/\w=w':=by
 have c:=aA (Pl s g w);have hle:=Ig iM s.data.toList;have f:s.data.toList.length=s.size:=by rw[Array.length_toList];rfl
 rw[f] at hle;have a:Hid (bs (gF s.data.toList)=if eT (s.extract 0 (cL iM s.data.toList))=true then s.extract 0 (cL iM s.data.toList) else ByteArray.empty):=aA (by
  unfold gF;dsimp only;rw[<-FC];by_cases h:eT (s.extract 0 (cL iM s.data.toList))=true
  .rw[iP h,iP h,<-FC]
  .rw[iN h,iN h];rfl)
 clear f;unfold maxLen at g;generalize cL iM s.data.toList=n at *;have i:(s.extract 0 n).size<=maxLen:=by rw[ByteArray.size_extract];unfold maxLen;omega
 have d:=aA (fun w=>oZ (s.extract 0 n) i w);have h1:(0:Int)<=(n:Int):=qo;have h2:(n:Int)<=(s.size:Int):=qo;clear i;go_enter func157,ntmps157;go_wp2_with fail;refine c.o.mono ?_;rintro e w' ⟨rfl,rfl⟩;go_wp2_with fail;refine(d.o w).mono ?_;rintro e w' ⟨rfl,rfl⟩;generalize eT (s.extract 0 n)=b at *
 cases b
 .have HE:Hid (bs (gF s.data.toList)=ByteArray.empty):=aA (by have:=a.o;rwa [iN qs] at this);clear a d c;exact rQ
 .have HE:Hid (bs (gF s.data.toList)=s.extract 0 n):=aA (by have:=a.o;rwa [iP qs] at this);clear a d c;exact rQ
theorem Ih(c:UInt8):fG c=(((decide (32<=(c.toNat:Int))&&decide ((c.toNat:Int)<=126))&&decide ((c.toNat:Int)≠34))&&decide ((c.toNat:Int)≠92)):=by
 unfold fG;have a:decide (32<=c.toNat)=decide (32<=(c.toNat:Int)):=decide_eq_decide.2 qo;have b:decide (c.toNat<=126)=decide ((c.toNat:Int)<=126):=decide_eq_decide.2 qo;have d:decide (c.toNat≠34)=decide ((c.toNat:Int)≠34):=decide_eq_decide.2 qo;have e:decide (c.toNat≠92)=decide ((c.toNat:Int)≠92):=decide_eq_decide.2 qo;rw[a,b,d,e]
theorem CR(c:UInt8)(w:World):Calls prog 208 #[.int .u8 (c.toNat:Int)] w fun e w'=>e=.returned (.bool (fG c))/\w=w':=by
 have a:=aA (Ih c);by_cases h1:32<=(c.toNat:Int)
 .have d1:decide ((c.toNat:Int) ≥ 32)=true:=dX h1;by_cases h2:(c.toNat:Int)<=126
  .have d2:decide ((c.toNat:Int)<=126)=true:=dX h2;by_cases h3:(c.toNat:Int)=34
   .have HE:Hid (fG c=false):=aA (by rw[a.o,dF (show ¬(c.toNat:Int)≠34 from fun h=>h h3),Bool.and_false];rfl);have d3:((c.toNat:Int) != 34)=false:=by rw[bne_eq_false_iff_eq];exact h3
    clear a h1 h2 h3;go_enter func208,ntmps208;exact rQ
   .have d3:((c.toNat:Int) != 34)=true:=bne_iff_ne.2 h3;by_cases h4:(c.toNat:Int)=92
    .have HE:Hid (fG c=false):=aA (by rw[a.o,dF (show ¬(c.toNat:Int)≠92 from fun h=>h h4),Bool.and_false]);have d4:((c.toNat:Int) != 92)=false:=by rw[bne_eq_false_iff_eq];exact h4
     clear a h1 h2 h3 h4;go_enter func208,ntmps208;exact rQ
    .have HE:Hid (fG c=true):=aA (by rw[a.o,dX h1,dX h2,dX h3,dX h4];rfl);have d4:((c.toNat:Int) != 92)=true:=bne_iff_ne.2 h4;clear a h1 h2 h3 h4;go_enter func208,ntmps208;exact rQ
  .have d2:decide ((c.toNat:Int)<=126)=false:=dF h2;have HE:Hid (fG c=false):=aA (by rw[a.o,d2,Bool.and_false];rfl);clear a h1 h2;go_enter func208,ntmps208;exact rQ
 .have d1:decide ((c.toNat:Int) ≥ 32)=false:=dF h1;have HE:Hid (fG c=false):=aA (by rw[a.o,dF h1];rfl);clear a h1;go_enter func208,ntmps208;exact rQ
end Go.Proofs.YthcgdgkpgdjahaaGreatDoor
