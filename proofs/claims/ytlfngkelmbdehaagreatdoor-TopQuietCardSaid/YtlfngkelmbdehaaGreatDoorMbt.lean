/-
  THE STATEMENT Rows.TopQuietCardSaid PROVED: for every input bailiff/bailifftop.TopQuiet returns true (a line that is none, and an operation that isn't ready, leave no byte on the device), and the argument reads afterwards as it read before.
  Conditions: none beyond the row's own (it lists five package-level variables of strconv and math/bits; the card ties them to the program's text).
-/
import Derived.Test.YtlfngkelmbdehaaGreatDoorMbs
import Derived.LaidMore
import Derived.Stop.Joined
import Derived.SliceStrings
import Derived.Test.YtlfngkelmbdehaaGreatDoorCards
import Derived.Test.YtlfngkelmbdehaaGreatDoorTie
import Derived.SevenTiedAt
namespace Go.Proofs.YtlfngkelmbdehaaGreatDoor
open Go.RowKit
set_option linter.unusedVariables false
set_option linter.unusedSimpArgs false
set_option maxHeartbeats 16000000
open _root_.Go.Proofs.Tryz
set_option maxRecDepth 20000
theorem QBL{p:Prop}(h:p:=by
 have HV:=aA ((HG.o.sl (by rw[HM.o,List.length_map,List.length_take];have:=HN.o;omega) (fun b=>w.heap.size<=b) (fun b h _=>h.elim) (fun b h _=>h) vK));go_wp2;go_ret;exact⟨_,rfl,HV.o,HB.o⟩):p:=h
def Qr:Rep ByteArray:=mG (fun s=>[.string s]) (fun s=>s.size<=maxLen)
theorem vK:Firm Qr 1:=gC (fun _=>rfl) (fun x v h=>by simp only[List.mem_cons,List.not_mem_nil,or_false] at h;rw[h];rfl)
theorem aAc:dV prog 22 9 1 16:=fO (z:= .string ByteArray.empty) underlying22 (by kernel_rfl) rfl qe
def NJ(s:bY):ByteArray:=s.extract 0 (min s.size 600)
theorem Lu(s:bY):(NJ s).size<=600:=by unfold NJ;rw[ByteArray.size_extract];omega
def yS(l:List ByteArray)(n:Nat):List ByteArray:=(l.take n).map NJ
def QD(L:List ByteArray)(w:World)(e:Ending)(w':World):Prop:=∃v,e=.returned v/\aH Qr w' (fun b=>w.heap.size<=b) v L/\Below w.heap.size w w'
theorem QX{α β:Type}(f:α->β){l:List α}{k:Nat}(h:k<l.length):(l.take (k+1)).map f=(l.take k).map f++[f l[k]]:=by
 rw[List.take_add_one,gE h,Option.toList_some,List.map_append];rfl
theorem Yu{α:Type}{R:Rep α}{s:Nat}{e:TypeId}{w:World}{base:Nat}{ok:nP}{v:Value}{l:List α}(h:aM R s e w base ok v l){b:Nat}(a:v.ownBlock=some b):base<=b/\b<w.heap.size:=h.lt b a
theorem Lv{ok:nP}(a:oD)(c:Nat)(l:List ByteArray)(J:l.length<=maxLen)(n:Nat)(O:n<=1000)(w:World)(h:∀k (hk:k<l.length),∃b off,a=some ⟨b,off,none⟩/\b<w.heap.size/\w.cell? ⟨b,off+k,none⟩=some (.string l[k])/\l[k].size<=maxLen):Calls prog 5 #[.slice a l.length c,.int .i64 n] w (QD (yS l n) w):=by
 obtain⟨W,HL,HN⟩:=aY h J O;obtain⟨L,y⟩:=xE (yS l n);rw[<-y];have G:=aA y;unfold QD;clear h y O J;go_enter func5,ntmps5;go_wp2;go_loopw [5,6] (fun v i wr=>∃(k:Nat) (m:List ByteArray),k<=n/\k<=l.length/\i=.int .i64 k/\Hid (m=(l.take k).map NJ)/\Hid (aM Qr 1 9 wr w.heap.size (fun _=>False) v m)/\Hid (Below w.heap.size w wr)) (fun _ i _=>n - (intOf i).toNat)
 case atStart=>exact⟨0,[],qo,qo,rfl,aA rfl,aA aM.nil,aA (Below.refl _ _)⟩
 case round=>
  obtain⟨k,m,ad,ab,rfl,HM,HG,HB⟩:=hrel;obtain⟨A,X,rfl⟩:=HG.o.slice;by_cases h1:k<l.length
  .have d1:(k:Int)<(l.length:Int):=qo;by_cases h2:k<n
   .have d2:(k:Int)<(n:Int):=qo;obtain⟨b,off,rfl,j,o,D⟩:=W.o k h1;have N:m.length=k:=by rw[HM.o,List.length_map,List.length_take];omega
    have V:=aA N;obtain⟨x,C⟩:=xE (l[k]);rw[<-C] at o D;have Z:min (x.size:Int) 600=((min x.size 600:Nat):Int):=qo;obtain⟨q,B⟩:=xE (min x.size 600);rw[<-B] at Z;have q1:(0:Int)<=(q:Int):=qo;have q2:(q:Int)<=(x.size:Int):=qo;have s:=aA (And.intro C (And.intro B D));have HC:=aA (And.intro j o);have i0:(0:Int)<=(k:Int):=qo;have i1:(k:Int)<(l.length:Int):=d1;clear N C B D;go_upto_region 5 with (fail)
    have F:Hid (Below wr.heap.size wr wr.drew):=aA (Below.refl _ _).drew;have I:b<wr.heap.size:=lL j HB.o.size;have g:wr.drew.cell? ⟨b,off+k,none⟩=some (.string x):=(HB.o.cell (p:=⟨b,off+k,none⟩) j).trans o;have P:(Value.slice A m.length X).ownBlock≠some b:=fun e=>by
     have:=(Yu HG.o e).1;omega
    have r:=aA (And.intro P I);clear j o P I;refine cB 14 [(0,false),(1,false),(2,false),(3,false),(4,false),(5,false),(6,false),(7,false),(8,false),(9,false),(10,false),(11,false),(12,true),(13,true)] [(14,true)] (fun w'=>w'.cell? ⟨b,off+k,none⟩=some (.string x)) (by decide +kernel) (by decide +kernel) g ?_;simp only[List.cons_append,List.nil_append]
    repeat (refine dG rfl (fun K t=> ?_);unfold rd;go_simp;refine t _ (fun ae h1=> ?_) ?_;(· clear t K g;have g:=h1;unfold rd;go_simp);clear t K)
    have E:=aA (((aB wr.drew (.cells #[.string (x.extract 0 q)] 9)).cell (p:=⟨b,off+k,none⟩) r.o.2).trans g);clear g;refine bJ rfl (fun f d=> ?_);unfold mv;go_simp;refine d _ (World.alloc _ (.cells #[.string (x.extract 0 q)] 9)) (fun _=>E.o) ?_;clear d f;refine bJ rfl (fun f d=> ?_);unfold mv;refine iV (base:=w.heap.size) aAc vK rfl (.tmp 18) (.tmp 30) rfl _ m rfl (HG.o.on vK (aC F.o (aB _ _))) wr.heap.size 1 _ _ _ (x.extract 0 q) rfl (aK _ _ _ rfl) ⟨rfl,by show (x.extract 0 q).size<=maxLen;rw[ByteArray.size_extract];have:=s.o.2.2;unfold maxLen at *;omega⟩ (qD V.o HN.o) qe (lT HB.o.size (aB _ _).size) ?_;intro Q M A' c' w2 H z aa;have U:Hid (Q=(l.take (k+1)).map NJ):=aA (by rw[M.o,HM.o,QX NJ h1,<-s.o.1,s.o.2.1];rfl);have T:=aA H;have R:=aA (HG.o.below HB.o (XR (aC F.o (aB _ _)) z) (lR _) HB.o.size);have S:=aA (World.cell?_of_block (a:=⟨b,off+k,none⟩) (z.block b (lL r.o.2 (aB _ _).size) (fun e=>r.o.1 e.symm))▸E.o);clear H z aa M;refine d _ _ (fun _=>S.o) ?_;clear d f;refine bJ rfl (fun f d=> ?_);unfold mv;go_simp;refine d _ _ (fun h=>absurd h qe) ?_;clear d f;unfold cI;have q9:IntKind.i64.wrap ((k:Int)+1)=((k+1:Nat):Int):=by rw[IntWalk.i64_in _ (qA HN.o)];omega
    go_wp2;go_roundw
    case rel=>exact⟨k+1,Q,qo,qo,by go_num,U,T,R⟩
    case measure=>simp[intOf];omega
   .have d2:¬((k:Int)<(n:Int)):=qo;have Y:L=m:=by
     rw[G.o,HM.o];unfold yS;rw[show k=n by omega]
    exact QBL
  .have d1:¬((k:Int)<(l.length:Int)):=qo;have Y:L=m:=by
    rw[G.o,HM.o];unfold yS;rw[show k=l.length by omega,List.take_of_length_le (lR _),List.take_of_length_le qo]
   exact QBL
def sH(a:World)(E D Q m n:Nat)(s:Sto)(w:World):Prop:=∃M K,sC w E D M K Q m n s/\(∀b,M b->a.heap.size<=b)/\Below a.heap.size a w
theorem sH.on{b:World}{E D Q m n:Nat}{s:Sto}{w w':World}(h:sH b E D Q m n s w)(a:Below w.heap.size w w'):sH b E D Q m n s w':=by
 obtain⟨M,K,h1,h2,h3⟩:=h;exact⟨M,K,h1.on a,h2,aC h3 a⟩
theorem sH.below{a:World}{E D Q m n:Nat}{s:Sto}{w:World}(h:sH a E D Q m n s w):Below a.heap.size a w:=by
 obtain⟨M,K,h1,h2,h3⟩:=h;exact h3
def Yv(b:World)(E D Q m n:Nat)(s:Sto)(q:bY)(e:Ending)(w':World):Prop:=
 e=.returned (.string (gW s q.data.toList).2)/\∃a,sH b E D Q a (n+1) (gW s q.data.toList).1 w'/\m<=a/\a<=m+400+q.size/\(∀o,kU q.data.toList=some o->(dE s o).2.2.2≠0->a=m)/\(kU q.data.toList=none->a=m)
theorem Vx{a:World}(r:Gl a)(h6:6<=a.heap.size){E D Q m n k:Nat}{s:Sto}{w:World}(h:sH a E D Q m n s w)(q:bY)(A:q.size<=100000)(g:mD k s)(d:k<=900000)(z:n<=800000)(p:m+400+q.size<=Q)(l:Q<=900000):
 Calls prog 9 #[.pointer (some ⟨E,0,none⟩),.string q] w (Yv a E D Q m n s q):=by
 obtain⟨M,K,h1,h2,h3⟩:=h;refine(WK E D Q m n k s q A w h1 (r.on h3) (fun b c=>qA (h2 b c)) g d z p l).mono ?_;rintro e w' ⟨rfl,f,K',C,i,j,F,o,t,v,x,y⟩;refine⟨rfl,C,⟨f,K',i,fun b c=>(j b c).elim (h2 b) (fun h=>qA h3.size),?_⟩,t,v,x,y⟩
 .exact((aJ (ok:=fun b=>b<a.heap.size) h3).trans (o.mono fun b _ c hm=>by have:=h2 b hm;have G:b<a.heap.size:=c;omega)).below (B:=a.heap.size) (fun k d=>⟨d,d⟩)
theorem WM(Q:Nat)(g:Q<=900000)(w:World)(d:Gl w)(h6:6<=w.heap.size):Calls prog 4 #[.int .i64 Q] w fun e w'=>∃E D,e=.returned (.tuple #[.pointer (some ⟨E,0,none⟩),.pointer (some ⟨D,0,none⟩)])/\sH w E D Q 0 0 mN w':=by
 refine(Lt Q qo w d h6).mono ?_;rintro e w' ⟨E,D,M,K,rfl,a,b,f,c⟩;exact⟨E,D,rfl,M,K,a,b,c⟩
theorem yT{c:World}(j:Gl c)(h6:6<=c.heap.size){E D Q m n k:Nat}{s g:Sto}{a:bY}{w:World}(h:sH c E D Q m n s w)(q:bY)(l:lU)(d:q.data.toList=l)(f:gW s l=(g,a))(i:mD k s)(o:k<=900000)(p:n<=800000)(t:m+400+l.length<=Q)(r:Q<=90000):
 Calls prog 9 #[.pointer (some ⟨E,0,none⟩),.string q] w fun e w'=>e=.returned (.string a)/\∃b,sH c E D Q b (n+1) g w'/\b<=m+400+l.length:=by
 have v:q.size=l.length:=by rw[<-d,Array.length_toList];rfl
 refine(Vx j h6 h q qo i o p qo qo).mono ?_;rintro e w' ⟨rfl,b,h1,h2,h3,-⟩;rw[d,f] at h1;rw[d,f];exact⟨rfl,b,h1,qo⟩
theorem WN:str "ok"=⟨#[111,107]⟩:=by kernel_rfl
theorem Vy:str "denied Deny"=⟨#[100,101,110,105,101,100,32,68,101,110,121]⟩:=by kernel_rfl
theorem Vz:str "ok 7"=⟨#[111,107,32,55]⟩:=by kernel_rfl
theorem aCo:(⟨#[97,110,110,32,110,101,119,32,99]⟩:bY).data.toList=eZ "ann new c":=by kernel_rfl
theorem aCp:(⟨#[97,110,110,32,119,114,105,116,101,32,99,32,102,32,55]⟩:bY).data.toList=eZ "ann write c f 7":=by kernel_rfl
theorem aCq:(⟨#[97,110,110,32,112,111,108,105,99,121,32,112,111,108,105,99,121,32,112,32,102,105,114,115,116,32,123,32,100,101,110,121,32,100,32,119,104,101,110,32,40,97,99,116,105,111,110,46,110,97,109,101,32,61,32,35,119,114,105,116,101,41,59,32,112,101,114,109,105,116,32,114,59,32,125]⟩:bY).data.toList=DS:=by kernel_rfl
theorem aCr:(⟨#[97,110,110,32,119,114,105,116,101,32,99,32,102,32,56]⟩:bY).data.toList=eZ "ann write c f 8":=by kernel_rfl
theorem aCs:(⟨#[98,111,98,32,114,101,97,100,32,99,32,102]⟩:bY).data.toList=eZ "bob read c f":=by kernel_rfl
theorem YR:∃s1 s2 a b c,gW mN (eZ "ann new c")=(s1,⟨#[111,107]⟩)/\gW s1 (eZ "ann write c f 7")=(s2,⟨#[111,107]⟩)/\gW s2 DS=(a,⟨#[111,107]⟩)/\gW a (eZ "ann write c f 8")=(b,⟨#[100,101,110,105,101,100,32,68,101,110,121]⟩)/\gW b (eZ "bob read c f")=(c,⟨#[111,107,32,55]⟩):=
 ⟨VU.1,VV.1,VW.1,VX.1,Kt.1,by rw[<-WN,<-qG.1];rfl,by rw[<-WN,<-qG.2.1];rfl,by rw[<-WN,<-qG.2.2.1];rfl,by rw[<-Vy,<-qG.2.2.2.1];rfl,by rw[<-Vz,<-qG.2.2.2.2];rfl⟩
theorem FF{k:Nat}{s b:Sto}{q:lU}{a:bY}(h:mD k s)(c:gW s q=(b,a)):mD (k+1) b:=by
 have:=h.line q;rw[c] at this;exact this
theorem Lw(w:World)(a:Gl w)(h6:6<=w.heap.size):Calls prog 11 #[] w (lB (.bool true) w):=by
 obtain⟨s1,s2,H,I,M,b,c,d,f,l⟩:=YR;have o:=aA (WM 4000 qe w a h6);have g:=VT;have i:=FF g b;have j:=FF i c;have k:=FF j d;have n:=FF k f;have y:=aA (fun E D m (hm:m<=0) w1 (h:sH w E D 4000 m 0 mN w1)=>yT a h6 h _ _ aCo b g qe qe (by rw[show (eZ "ann new c").length=9 from rfl];omega) qe);have z:=aA (fun E D m (hm:m<=500) w1 (h:sH w E D 4000 m 1 s1 w1)=>yT a h6 h _ _ aCp c i qe qe (by rw[show (eZ "ann write c f 7").length=15 from rfl];omega) qe);have A:=aA (fun E D m (hm:m<=1000) w1 (h:sH w E D 4000 m 2 s2 w1)=>yT a h6 h _ _ aCq d j qe qe (by rw[show DS.length=75 from rfl];omega) qe);have B:=aA (fun E D m (hm:m<=1500) w1 (h:sH w E D 4000 m 3 H w1)=>yT a h6 h _ _ aCr f k qe qe (by rw[show (eZ "ann write c f 8").length=15 from rfl];omega) qe);have C:=aA (fun E D m (hm:m<=2000) w1 (h:sH w E D 4000 m 4 I w1)=>yT a h6 h _ _ aCs l n qe qe (by rw[show (eZ "bob read c f").length=12 from rfl];omega) qe);unfold lB;clear a h6 b c d f l g i j k n;go_enter func11,ntmps11;go_wp2_with fail;refine o.o.mono ?_;rintro e w1 ⟨E,D,rfl,h⟩;have H1:=y.o E D 0 qe w1 h;have H1:=aA H1;clear h o;go_wp2_with fail;refine H1.o.mono ?_;rintro e w2 ⟨rfl,m2,h,hm⟩;have r:=aA (z.o E D m2 (by rw[show (eZ "ann new c").length=9 from rfl] at hm;omega) w2 h);have F:=aA hm;clear h hm;go_wp2_with fail;refine r.o.mono ?_;rintro e J ⟨rfl,m3,h,hm⟩;have p:Hid (m3<=1000):=aA (by have h2:=F.o;rw[show (eZ "ann new c").length=9 from rfl] at h2;rw[show (eZ "ann write c f 7").length=15 from rfl] at hm;omega);have s:=aA (A.o E D m3 p.o J h)
 clear h hm;go_wp2_with fail;refine s.o.mono ?_;rintro e K ⟨rfl,m4,h,hm⟩;have q:Hid (m4<=1500):=aA (by have h2:=p.o;rw[show DS.length=75 from rfl] at hm;omega);have t:=aA (B.o E D m4 q.o K h);clear h hm;go_wp2_with fail;refine t.o.mono ?_;rintro e L ⟨rfl,m5,h,hm⟩;have G:Hid (m5<=2000):=aA (by have h2:=q.o;rw[show (eZ "ann write c f 8").length=15 from rfl] at hm;omega);have v:=aA (C.o E D m5 G.o L h);clear h hm;go_wp2_with fail;refine v.o.mono ?_;rintro e N ⟨rfl,m6,h,hm⟩;have x:=aA h.below;clear h hm;go_wp2;go_ret;exact⟨rfl,x.o⟩
def Lx(w:World)(a:oD)(l:List ByteArray):Prop:=∀k (c:k<l.length),∃b off,a=some ⟨b,off,none⟩/\b<w.heap.size/\w.cell? ⟨b,off+k,none⟩=some (.string l[k])/\l[k].size<=maxLen
def sI(a:World)(P:nP)(E D Q m n:Nat)(s:Sto)(w:World):Prop:=∃M K,sC w E D M K Q m n s/\(∀b,M b->a.heap.size<=b/\¬P b)/\(∀b,P b->b<w.heap.size)/\Below a.heap.size a w
theorem sH.one{a:World}{E D Q m n:Nat}{s:Sto}{w:World}(h:sH a E D Q m n s w):sI a (fun _=>False) E D Q m n s w:=by
 obtain⟨M,K,h1,h2,h3⟩:=h;exact⟨M,K,h1,fun b c=>⟨h2 b c,id⟩,fun b h=>h.elim,h3⟩
theorem sI.at0{a:World}{P:nP}{E D Q m n:Nat}{s:Sto}{w:World}(h:sI a P E D Q m n s w):sH a E D Q m n s w:=by
 obtain⟨M,K,h1,h2,_,h3⟩:=h;exact⟨M,K,h1,fun b c=>(h2 b c).1,h3⟩
theorem sI.sub{c:World}{P P':nP}{E D Q m n:Nat}{s:Sto}{w:World}(h:sI c P E D Q m n s w)(hp:∀b,P' b->P b):sI c P' E D Q m n s w:=by
 obtain⟨M,K,h1,h2,h3,h4⟩:=h;exact⟨M,K,h1,fun b a=>⟨(h2 b a).1,fun h=>(h2 b a).2 (hp b h)⟩,fun b a=>h3 b (hp b a),h4⟩
theorem sI.on{c:World}{P:nP}{E D Q m n:Nat}{s:Sto}{w w':World}(h:sI c P E D Q m n s w)(a:Below w.heap.size w w'):sI c P E D Q m n s w':=by
 obtain⟨M,K,h1,h2,h3,h4⟩:=h;exact⟨M,K,h1.on a,h2,fun b hp=>lL (h3 b hp) a.size,aC h4 a⟩
theorem sI.grow{c:World}{P:nP}{E D Q m n:Nat}{s:Sto}{w w':World}(h:sI c P E D Q m n s w)(a:Below w.heap.size w w'):sI c (fun b=>P b\/(w.heap.size<=b/\b<w'.heap.size)) E D Q m n s w':=by
 obtain⟨M,K,h1,h2,h3,h4⟩:=h;have d:∀b,M b->b<w.heap.size:=by
  obtain⟨J,base,vc,vr,vn,vo,vt,vu,vk,vb,la,lc,lu,h,ra,rc,ru,da,dc,bs,sy,H⟩:=h1;exact H.low
 exact⟨M,K,h1.on a,fun b hm=>⟨(h2 b hm).1,fun h=>h.elim (h2 b hm).2 (fun h=>qA (d b hm))⟩,fun b hp=>hp.elim (fun h=>lL (h3 b h) a.size) (fun h=>h.2),aC h4 a⟩
theorem Ly{f:World}{P:nP}{E D Q m n:Nat}{s:Sto}{w:World}(h:sI f P E D Q m n s w):Calls prog 6 #[.pointer (some ⟨E,0,none⟩)] w fun e w'=>∃(K:nP) (vc vr vn vo vt vu vk vb:Value),e=.returned (.agg (aV s vc vr vn vo vt vu vk vb))/\eY w' K s vc vr vn vo vt vu vk vb/\sI f (fun b=>P b\/K b) E D Q m n s w'/\Below w.heap.size w w':=by
 obtain⟨M,K,d,h2,h3,h4⟩:=h;have g:=d;obtain⟨J,base,vc,vr,vn,vo,vt,vu,vk,vb,la,lc,lu,h,ra,rc,ru,da,dc,bs,sy,H⟩:=d;refine(Cl E J s vc vr vn vo vt vu vk vb _ h w H.sto H.eng).mono ?_;rintro e w' ⟨rfl,a⟩;exact⟨K,vc,vr,vn,vo,vt,vu,vk,vb,rfl,H.sto.on a,⟨M,K,g.on a,fun b hm=>⟨(h2 b hm).1,fun h=>h.elim (h2 b hm).2 (fun c=>(H.kept b c).1 hm)⟩,fun b hp=>lL (hp.elim (h3 b) (fun c=>(H.kept b c).2)) a.size,aC h4 a⟩,a⟩
theorem Qs{c:World}(v:Gl c)(h6:6<=c.heap.size){P:nP}{E D Q m n k:Nat}{s:Sto}{w:World}(h:sI c P E D Q m n s w)(q:bY)(F:q.size<=100000)(j:mD k s)(f:k<=900000)(C:n<=800000)(t:m+400+q.size<=Q)(r:Q<=900000):
 Calls prog 9 #[.pointer (some ⟨E,0,none⟩),.string q] w fun e w'=>e=.returned (.string (gW s q.data.toList).2)/\∃a,sI c P E D Q a (n+1) (gW s q.data.toList).1 w'/\aN P w w'/\m<=a/\a<=m+400+q.size/\(∀o,kU q.data.toList=some o->(dE s o).2.2.2≠0->a=m)/\(kU q.data.toList=none->a=m):=by
 obtain⟨M,K,h1,h2,h3,h4⟩:=h;refine(WK E D Q m n k s q F w h1 (v.on h4) (fun b d=>qA ((h2 b d).1)) j f C t r).mono ?_;rintro e w' ⟨rfl,i,K',a,l,p,G,g,x,y,z,A⟩;refine⟨rfl,a,⟨i,K',l,fun b d=> ?_,fun b hp=>lL (h3 b hp) g.size,?_⟩,g.mono fun b _ hp hm=>(h2 b hm).2 hp,x,y,z,A⟩
 .rcases p b d with h|h
  .exact h2 b h
  .exact⟨qA h4.size,fun hp=>qA (h3 b hp)⟩
 .exact((aJ (ok:=fun b=>b<c.heap.size) h4).trans (g.mono fun b _ d hm=>by have:=(h2 b hm).1;have H:b<c.heap.size:=d;omega)).below (B:=c.heap.size) (fun k f=>⟨f,f⟩)
theorem own:ownKnob prog.godebug=none:=by kernel_rfl
theorem Wa:laidOutB prog=true:=by kernel_rfl
section
open Go.ChangeShapes Go.WideShapes Go.ChangeAt Go.Deep
def LS:List (String×DataW Unit):=[("math/bits.deBruijn32tab",Rows.laid_math_bits_deBruijn32tab),("math/bits.deBruijn64tab",Rows.laid_math_bits_deBruijn64tab),("internal/strconv.uint64pow10",Rows.laid_internal_strconv_uint64pow10),("strconv.ErrRange",Rows.laid_strconv_ErrRange),("strconv.ErrSyntax",Rows.laid_strconv_ErrSyntax)]
theorem aAd{W:World}(i:W.ShapedOpen prog)(h:laidMetH prog LS W):Gl W/\6<=W.heap.size:=by
 rw[MakeChecks.laidMetH_plain _ _ _ (by kernel_rfl)] at h;obtain⟨H,⟨g0,t0,q,f0,D,q0,z,A,C,x,⟨g1,t1,r,f1,E,q1,f,B,a,y,⟨g2,t2,s,f2,F,I,g,j,o,d,⟨g3,t3,t,f3,G,J,b,l,p,e,_,_⟩,_⟩,_⟩,_⟩,_⟩:=h;obtain rfl:=Option.some.inj ((show prog.globalNamed "strconv.ErrRange"=some 2 by kernel_rfl).symm.trans b);obtain rfl:=Option.some.inj ((show prog.globalNamed "math/bits.deBruijn64tab"=some 5 by kernel_rfl).symm.trans f);have m:(prog.globals[2]?).map (·.type)=some 100:=by kernel_rfl
 obtain rfl:=Option.some.inj (m.symm.trans l);have n:(prog.globals[3]?).map (·.type)=some 312:=by kernel_rfl
 obtain rfl:=Option.some.inj (VZ.symm.trans g);obtain rfl:=Option.some.inj (n.symm.trans j);have h6:6<=W.heap.size:=by
  unfold World.var? at a;rw[show prog.globalNamed "math/bits.deBruijn64tab"=some 5 by kernel_rfl] at a
  rcases Nat.lt_or_ge 5 W.heap.size with h2|h2
  .exact h2
  .simp[Array.getElem?_eq_none h2] at a
 refine⟨⟨?_,(laysM220.s1_3 W i),?_⟩,h6⟩
 .obtain⟨w,u,v,c,_,_⟩:=iface_of_trod underlying100 e;have:=World.var?_cell b p 0;rw[Array.eq_one_of_toList c] at this;exact⟨_,by simpa using this,.inr ⟨u,v,rfl⟩⟩
 .unfold Lib.TabIs;rw[o,<-Lib.cells_of_tab (zs:=Lib.pow10Tab) (k:= .u64) underlying312 underlying60 (by kernel_rfl) (by kernel_rfl) d]
section
variable {H:Type} {enc:TypeId×Value->H} {P:Program} {W:World} {sp:Nat->Bool} {held:Bool}
theorem Ey{r:Reach}{b0:Nat}{t e:TypeId}{v:Value}{d:DataW H}{p:List MemPlace}(n:P.underlying t=some (.slice e))(he:P.underlying e=some .string)(s:P.cellsOf e=1)
 (D:Value.okWide P W r b0 t v)(h:DataW.Trod enc P W 0 sp held t v d p):
 ∃(a:oD) (cap:Nat) (l:List ByteArray),v=.slice a l.length cap/\l.length<=maxLen/\Lx W a l:=by
 obtain⟨a0,len,cap,rfl⟩:=okWide_slice n D;obtain⟨fuel,B⟩:=h
 rcases open_strings n he s B with ⟨f,_⟩|⟨a,J,F,j,f,_,I,hm,E,_,A,C⟩
 .simp[Value.cells] at f;obtain⟨rfl,rfl,rfl⟩:=f;exact⟨none,0,[],rfl,qs,fun k g=>absurd g qs⟩
 .simp[Value.cells] at f;obtain⟨rfl,rfl,rfl⟩:=f;have hlen:len<=j.length:=by rw[E];split<;>omega
  have m:(j.take len).length=len:=by rw[List.length_take];omega
  refine⟨some a,cap,j.take len,by rw[m],qo,fun k g=> ?_⟩;have G:k<len:=qo;have w:Sl W W.heap.size (some a) ((j.take len).map Value.string):=Sl.of_cells fun i x c=>by
   simp only[List.getElem?_map,List.getElem?_take] at c;split at c
   .rw[gE qo] at c;simp only[Option.map_some,Option.some.injEq] at c;subst c;rw[A i qo,List.getD_eq_getElem?_getD,gE qo];rfl
   .simp at c
  obtain⟨b,off,q,y,z⟩:=w (by intro o;have:=congrArg List.length o;simp only[List.length_map,m,List.length_nil] at this;omega);exact⟨b,off,q,y,z k _ (by rw[List.getElem?_map,gE g];rfl),C _ (List.mem_of_mem_take (List.getElem_mem g))⟩
end
theorem NL{H:Type}{enc:TypeId×Value->H}{a:Assume}{C:Checked}{os:Os}{f:FuncId}{fn:Func}{s:ChangeSpec}{conds:List PathCond}{apart fresh handsOn again:Bool}{X:World->Array Value->Prop}
 (k:∀(w w':World) (args:Array Value),w.heap=w'.heap->X w args->X w' args)
 (own:ownKnob C.prog.godebug=none)(started:os.Started)(y:C.prog.inits.idxOf? f=none)(l:C.prog.funcs[f]? =some fn)
 (witness:∃(w:World) (tape:Tape) (i:Input),w.os=os/\(w.forCall tape i).Shaped C.prog/\i.vars=[]/\Input.okWide C.prog (w.forCall tape i) .any w.heap.size f i/\
   ((s.pre enc C.prog fn conds apart (w.forCall tape i).memory i.args/\X (w.forCall tape i).memory i.args)/\sizedMet enc C.prog fn (OpenSpec.ofChange s) apart (w.forCall tape i).memory i.args)/\a.holds C.prog (lone (Frame.enter C.prog f i.args .normal) [] (w.forCall tape i)))
 (d:∀(W:World) (base:Nat) (args:Array Value) (b gs:List (DataW H)) (before:List MemPlace),W.ShapedOpen C.prog->
   (∀(j:Nat) t v,fn.params[j]? =some t->args[j]? =some v->Value.okWide C.prog W .any base t v)->
   DataW.Whole enc C.prog fn.params.toList s.vars apart W args.toList b gs before->X W args->
   Calls C.prog f args W fun e c=>∃v,e=.returned v/\s.post enc C.prog fn apart fresh handsOn again W args v c):
 ReturnsInHanded a C os f .any (fun w args=>(s.pre enc C.prog fn conds apart w args/\X w args)/\sizedMet enc C.prog fn (OpenSpec.ofChange s) apart w args) (s.post enc C.prog fn apart fresh handsOn again):=by
 refine returnsInHanded_of_calls own started y witness ?_;intro w tape i _ p _ n o A;obtain⟨_,_,_,g,m,_,_,_,_,q⟩:=n;have e:g=fn:=Option.some.inj (m.symm.trans l);subst e;obtain⟨⟨⟨b,gs,before,hw,z⟩,x⟩,B⟩:=o;have r:=DataW.Whole.of_heap (w':=w.forCall tape i) (by rfl) hw;refine(d (w.forCall tape i) w.heap.size i.args b gs before p q r (k _ _ _ (by rfl) x)).mono fun e c ⟨v,he,hp⟩=> ?_
 subst he;exact ChangeSpec.post_blind hp
theorem Qt(os:Os)(args:Array Value):laidMetH prog LS ((World.doorLaid prog 400 os).forCall (fun _ _=>0) ⟨#[],args,[]⟩).memory:=
 laidMetH_of_parts3 (fuel:=8) (laidMet_of_run' 8 (by kernel_rfl) (by kernel_rfl)) (by kernel_rfl) (by kernel_rfl)
end
theorem QCV{p:Prop}(h:p:=by
 go_wp2_with fail;refine(HN7.o _ HB8.o).mono ?_;rintro e w9 ⟨rfl,rfl⟩;go_wp2;go_meet;exact⟨rfl,HB8⟩):p:=h
theorem Qu:str "what"=⟨#[119,104,97,116]⟩:=by kernel_rfl
theorem NM{b:World}{P:nP}{E D Q m n:Nat}{s:Sto}{w:World}(h:sI b P E D Q m n s w):Calls prog 7 #[.pointer (some ⟨D,0,none⟩)] w fun e w'=>e=.returned (.int .i64 m)/\w'=w:=by
 obtain⟨M,K,a,h2,h3,h4⟩:=h;obtain⟨J,base,vc,vr,vn,vo,vt,vu,vk,vb,la,lc,lu,h,ra,rc,ru,da,dc,bs,sy,H⟩:=a;have h5:=H.dsk;rw[H.len] at h5;exact WL D Q m dc da sy w h5
theorem QY(a:oD)(c:Nat)(l:List ByteArray)(hl:l.length<=maxLen)(w:World)(hs:Lx w a l)(U:Gl w)(h6:6<=w.heap.size):Calls prog 3 #[.slice a l.length c] w fun e w'=>e=.returned (.bool true)/\Below w.heap.size w w':=by
 have HF:=aA (WM 200000 qe w U h6);have bu:=aA (fun w' (d:Below w.heap.size w w')=>Lw w' (U.on d) (lT h6 d.size));obtain⟨HG,H6,HS,bx⟩:=dC U h6 hs hl;clear U h6 hs hl;go_enter func3,ntmps3;go_wp2_with fail;refine HF.o.mono ?_;rintro e w1 ⟨E,D,rfl,z⟩;have ak:=aA z;have af:=z.below;have aq:=aA (Lv (ok:=fun _=>True) a c l bx.o 40 qe w1 (fun k hk=>by
  obtain⟨b,off,h1,h2,h3,h4⟩:=HS.o k hk;exact⟨b,off,h1,lL h2 af.size,(af.cell (p:=⟨b,off+k,none⟩) h2).trans h3,h4⟩))
 clear z af HF;go_wp2_with fail;refine aq.o.mono ?_;rintro e w2 ⟨v,rfl,V,d⟩;obtain⟨L,hL⟩:=xE (yS l 40);rw[<-hL] at V;have g:Hid (L.length<=40/\∀x∈L,x.size<=600):=aA (by
  rw[hL];unfold yS;refine⟨by rw[List.length_map,List.length_take];omega,fun x hx=> ?_⟩;obtain⟨y,_,rfl⟩:=List.mem_map.1 hx;exact Lu y)
 obtain⟨la,lc,rfl,-⟩:=V.slice;obtain⟨bt,bz,cm⟩:=aY (ak.o.one.grow d) (aH.inb vK V) d;clear d V hL ak aq;go_wp2;go_loopw [21] (fun i wr=>∃(k m:Nat) (s:Sto),k<=L.length/\i=.int .i64 k/\Hid (sI w (fun b=>w1.heap.size<=b/\b<w2.heap.size) E D 200000 m k s wr)/\Hid (m<=1000 * k)/\Hid (mD k s)/\Hid (aN (fun b=>w1.heap.size<=b/\b<w2.heap.size) w2 wr)) (fun i _=>L.length - (intOf i).toNat)
 case atStart=>exact⟨0,0,mN,qo,rfl,aA (bt.o.sub fun b d=> .inr d),aA qo,aA VT,aA (aJ (Below.refl _ _))⟩
 case round=>
  obtain⟨k,m,s,hk,rfl,C,N,HB,ad⟩:=hrel;by_cases bk:k<L.length
  .have cb:=aA (aH.aCM vK bz.o ((ad.o).mono fun b _ d=>by exact⟨d.1,d.2⟩));obtain⟨b,off,r,rfl,ct,cu,⟨rfl,bj⟩,hc⟩:=aH.at vK cb.o bk qe;obtain⟨q,hq⟩:=xE (L[k]);rw[<-hq] at bj hc;have cl:=hc 0 _ rfl;rw[Nat.mul_one,Nat.add_zero] at cl;have bp:q.size<=600:=by rw[hq];exact g.o.2 _ (List.getElem_mem bk)
   have Q:=aA bp;have az:=aA (Ly C.o);have ar:=aA (fun w' (d:Below wr.heap.size wr w')=>NM (C.o.on d));have ck:(k:Int)<(L.length:Int):=qo;clear hc bj hq bp;go_wp2_with fail;refine az.o.mono ?_;rintro e w3 ⟨K,vc,vr,vn,vo,vt,vu,vk,vb,rfl,ah,z,A⟩;obtain⟨ca,cc,ra,rc,na,nc,oa,oc,ta,tc,ua,uc,ka,kc,ba,bc,rfl,-,rfl,-,rfl,-,rfl,-,rfl,-,rfl,-,rfl,-,rfl,-⟩:=ah.sl;obtain⟨ai,I,be,cd⟩:=dC z A ah (ar.o w3 A);unfold aV;clear ah z A az ar;go_wp2_with fail;refine cd.o.mono ?_;rintro e cx ⟨rfl,bq⟩;rw[bq];clear bq;go_upto_region 8 with (refine fA rfl _ (.tmp 7) (.tmp 26) rfl w3.heap.size _ rfl rfl _ _ (aK _ _ _ rfl) (by kernel_rfl) rfl (by simp[Value.oneCell']) ?_;intro w4 av bb)
   have J:=aA (uF (lR _) bb.o);have W:=aA (ai.o.grow J.o);have ch:=aA (aD av.o);have HP:=aA (PQ q (qA Q.o) w4 (HG.o.on W.o.at0.below));clear bb;go_wp2_with fail;refine HP.o.mono ?_;rintro e w5 ⟨ag,rfl,bh⟩;obtain⟨n,T⟩:=xE (kU q.data.toList);rw[<-T] at ag;rw[<-T];obtain⟨P,al,j⟩:=aY T ag bh;obtain⟨O,hO⟩:=xE (n.getD SL);obtain⟨H,hI⟩:=xE n.isSome;rw[<-hO,<-hI];have M:=aA (And.intro hO hI);unfold eT bW;clear ag bh T HP hO hI;go_upto_region 9 with (refine fA rfl _ (.tmp 9) (.tmp 32) rfl w5.heap.size _ rfl rfl _ _ (aK _ _ _ rfl) (by kernel_rfl) rfl (by simp[Value.oneCell']) ?_;intro w6 aa bd)
   have B:=aA (uF (lR _) bd.o);obtain⟨aj,aw,cj⟩:=aY (W.o.grow (aC j.o B.o)) (aE av.o (aC j.o B.o)) (aD aa.o);have ao:=aA (Qs HG.o H6.o aj.o q (qA Q.o) HB.o (qA g.o.1) (qA g.o.1) (qF Q.o N.o g.o.1) qe);clear bd;go_wp2_with fail;refine ao.o.mono ?_;rintro e f ⟨rfl,m5,hA7,F,bl,bm,bn,bo⟩;obtain⟨t,ht⟩:=xE ((gW s q.data.toList).1);obtain⟨an,ae⟩:=xE ((gW s q.data.toList).2);rw[<-ht] at hA7;rw[<-ae];have bw:Hid (mD (k+1) t):=aA (by rw[ht];exact HB.o.line _);have HN7:=aA (fun w' (d:Below f.heap.size f w')=>NM (hA7.on d));have cg:Hid (aN (fun b=>w1.heap.size<=b/\b<w2.heap.size) w2 f):=aA (ad.o.trans ((aJ I.o).trans ((aJ J.o).trans ((aJ j.o).trans ((aJ B.o).trans (F.mono fun b _ d=> .inl (.inl (.inl d))))))));have bs:=aA (hA7.sub (P':=fun b=>w1.heap.size<=b/\b<w2.heap.size) fun b d=> .inl (.inl (.inl d)));have bg:=qS aw F (.inl (.inr ⟨lR _,ch.o⟩));have au:=qS aa F (.inr ⟨j.o.size,cj.o⟩);have bf:=aA ((be.o.on (aC J.o (aC j.o B.o))).aCM (F.mono fun b _ d=> .inl (.inl (.inr d))));have Z:Hid (m<=m5/\m5<=1000 * (k+1)):=aA ⟨bl,qD N.o Q.o⟩;have X:Hid (H=false->m5=m/\an=str "what"):=aA (fun h=>by
    have h1:n=none:=by
     have:=M.o.2;rw[h] at this
     cases n with
     |none=>rfl
     |some _=>cases this
    exact⟨bo (P.o.symm.trans h1),by rw[ae,QA (P.o.symm.trans h1)];rfl⟩)
   have Y:Hid (H=true->n=some O):=aA (fun h=>by
    have h2:=M.o.2;have h1:=M.o.1;rw[h] at h2
    cases n with
    |none=>cases h2
    |some o=>rw[h1];rfl)
   have ab:Hid (H=true->dR s O≠0->m5=m):=aA (fun h hr=>bn O (P.o.symm.trans (Y.o h)) (by
    have h1:(nD s O).1≠0:=by
     unfold nD;rw[iN (fun h=>hr h.1)];exact hr
    rw[AP h1];exact h1))
   have S:Hid (H=true->Calls prog 10 #[.agg (aV s (.slice ca s.aCD.length cc) (.slice ra s.aCG.length rc) (.slice na s.aCL.length nc) (.slice oa s.aCR.length oc) (.slice ta s.aCE.aCO.length tc) (.slice ua s.aCE.aCH.length uc) (.slice ka s.aCE.aCS.length kc) (.slice ba s.aCE.aCU.length bc)),eT O] f (aP (.int .i64 (dR s O)) f)):=aA (fun h=>AH s _ _ _ _ _ _ _ _ O (al.o _ (Y.o h)) f bf.o);unfold aV eT bW aP at S;obtain⟨⟨a0,a1,a2,a3,a4,a5,a6,a7,a8,a9,cn,cp,a12⟩,-⟩:=bT bg.o;obtain⟨⟨b0,b1,b2,b3,b4,b5,b6,b7,b8,b9,cq,cr⟩,-⟩:=bL au.o;have z7:=aD bg.o;have z9:=aD au.o;clear hA7 F bl bm bn bo ht ae ao aw aa be bf aj W ai ad I J j B M P al Y;go_upto_region 10 with (fail)
   go_cut [64] from 23 to 63 (fun v w'=>v=.bool false/\Hid (Below f.heap.size f w'))
   case first=>
    cases H
    .obtain⟨e1,e2⟩:=X.o rfl;subst e1;obtain⟨d1,e3⟩:=fM an [119,104,97,116] (e2.trans Qu);clear e2 X ab S;go_wp2_with fail;refine(HN7.o _ (Below.refl _ _)).mono ?_;rintro e w8 ⟨rfl,rfl⟩;go_wp2_with fail;refine(HN7.o _ (Below.refl _ _)).mono ?_;rintro e w8 ⟨rfl,rfl⟩;go_wp2;go_meet;exact⟨rfl,aA (Below.refl _ _)⟩
    .have ax:=aA (S.o rfl);have ay:=aA (ab.o rfl);generalize hr:dR s O=R at *;clear S ab X;by_cases h0:R=0
     .have hd:decide ((m5:Int)<(m:Int))=false:=dF (qA Z.o.1);have cv:decide (m5<m)=false:=dF (qA Z.o.1);subst h0;go_wp2_with fail;refine ax.o.mono ?_;rintro e w8 ⟨rfl,G⟩;have HB8:=aA G;clear G;exact QCV
     .have h1:(R != (0:Int))=true:=bne_iff_ne.2 h0;have e1:=ay.o h0;subst e1;clear ay h0;go_wp2_with fail;refine ax.o.mono ?_;rintro e w8 ⟨rfl,G⟩;have HB8:=aA G;clear G;go_wp2_with fail;refine(HN7.o _ HB8.o).mono ?_;rintro e w9 ⟨rfl,rfl⟩;exact QCV
   case rest=>
    obtain⟨rfl,HB8⟩:=hcut;have br:=aA (bs.o.on HB8.o);have cf:=aA (cg.o.trans (aJ HB8.o));have h40:=g.o.1;have hm:=Z.o.2;go_wp2;go_roundw
    case rel=>exact⟨k+1,m5,t,qo,by go_num,br,aA hm,bw,cf⟩
    case measure=>simp[intOf];omega
  .have ck:¬((k:Int)<(L.length:Int)):=qo;have cw:decide ((m:Int)<=(200000:Int))=true:=dX (qD N.o g.o.1);have bm:decide (m<=200000)=true:=dX (qD N.o g.o.1);go_wp2_with fail;refine(NM C.o).mono ?_;rintro e w3 ⟨rfl,rfl⟩;go_wp2_with fail;refine(bu.o _ C.o.at0.below).mono ?_;rintro e w4 ⟨rfl,A⟩;have I:=aA (aC C.o.at0.below A);clear A;go_wp2;go_returns;exact⟨rfl,I.o⟩
section
namespace topQuiet
open Go.ChangeShapes Go.WideShapes Go.ChangeAt
set_option maxRecDepth 100000 in
theorem Yw(os:Os)(started:os.Started)(H:Type)(enc:TypeId×Value->H):
 ReturnsInHanded {} checked os 3 .any (fun w args=>(Rows.topQuietSpec.pre enc prog f3 [] false w args/\laidMetH prog LS w)/\sizedMet enc prog f3 (OpenSpec.ofChange Rows.topQuietSpec) false w args)
  (Rows.topQuietSpec.post enc prog f3 false true false false):=by
 refine NL (C:=checked) (X:=fun w _=>laidMetH prog LS w) (fun _ _ _ r h=>h.of_heap r) own started (by kernel_rfl) func3
  (ChangeSpec.witness_shaped (enc:=enc) (C:=checked) (os:=os) (X:=fun w _=>laidMetH prog LS w) false (World.doorLaid prog 400 os) #[.slice none 0 0] 8 rfl (World.shaped_of_RefB (by kernel_rfl) (by kernel_rfl)) (by kernel_rfl) (by kernel_rfl) (by kernel_rfl) (Qt os _)) ?_
 intro W base args i gs before y d b k;have c:∀(j:Nat) t v,f3.params[j]? =some t->args[j]? =some v->Value.okWide prog W .any base t v:=d;have n:=b;obtain⟨p,q,hA0,l,rfl,J,K⟩:=b;have hA:DataW.TrodAll enc prog W 0 (fun _=>true) true f3.params.toList args.toList i p:=hA0;rw[params3] at hA c;obtain⟨v0,L,d0,G,B,q0,I,rfl,rfl,h0,D⟩:=trodAll_cons hA;obtain⟨rfl,rfl,rfl⟩:=trodAll_nil D;obtain rfl:args=#[v0]:=by cases args;simp_all
 obtain⟨rfl,rfl⟩:=trodVars_none l;have f:=h0;have A:∀x∈B,x.block<W.heap.size:=by obtain⟨m,hm⟩:=f;exact DataW.trod_lt m _ _ _ hm
 obtain⟨a0,g,z,rfl,s,E⟩:=Ey underlying22 underlying9 (by kernel_rfl) (c 0 22 v0 rfl rfl) h0;obtain⟨o,h6⟩:=aAd y k;clear hA0 d;refine(QY a0 g z s W E o h6).mono fun e F ⟨he,a⟩=> ?_
 subst he;exact⟨_,rfl,_,_,_,[],_,[],n,trodAll_mk1 (shut_bool underlying4 _),(trodAll_cons_mk (Below.trod Wa (by kernel_rfl) (of_decide_eq_true (by kernel_rfl)) f a A) trodAll_mk0),rfl,a.frame _,fun h=>by cases h⟩
set_option maxRecDepth 100000 in
theorem Yx:joinedFacts checked.prog 3 f3 Rows.topQuietSpec Rows.topQuietRow=true:=by
 unfold joinedFacts;simp only[Bool.and_eq_true]
 repeat' apply And.intro
 all_goals (as_aux_lemma=>kernel_rfl)
set_option maxRecDepth 100000 in
theorem aCt:Rows.TopQuietSaid:=
 OpenClaim.holds_of_wide 3 f3 rfl rfl rfl rfl rfl rfl rfl ⟨rfl,rfl,rfl,rfl,rfl⟩ rfl rfl rfl rfl rfl (by as_aux_lemma=>kernel_rfl) func3 Yx
  (of_decide_eq_true (by as_aux_lemma=>kernel_rfl)) (by unfold Func.isWrapper;first|(rw[iP (by decide +kernel)];kernel_rfl)|(rw[iN (by decide +kernel)];exact⟨rfl,rfl⟩))
  (fun os started H enc _=>Yw os started H enc)
theorem proved:Rows.TopQuietCardSaid:=
 Claim7.holds_tied_plain_at .later [] [.data,.data,.data,.sentinel,.sentinel] true _ true
  aCt (fun _ h=>by cases h) (by as_aux_lemma=>kernel_rfl) (fun _ h=>by cases h) topQuiet_row_tie rfl ⟨rfl,rfl⟩ (by as_aux_lemma=>kernel_rfl) rfl
  (fun f fn c d=>by
    obtain rfl:f=3:=Option.some.inj ((show prog.funcNamed Rows.topQuietRow.func=some 3 by kernel_rfl).symm.trans c) |>.symm;obtain rfl:fn=f3:=(Option.some.inj (func3.symm.trans d)).symm;exact⟨by as_aux_lemma=>kernel_rfl,fun j t a=>by
     rw[params3] at a;have hm:t∈[22]:=by simpa using Array.mem_of_getElem? a
     have b:([22].all fun u=> !prog.wantsStandIn u)=true:=by kernel_rfl
     exact(show prog.wantsStandIn t=false by simpa using List.all_eq_true.1 b t hm)⟩)
  (by as_aux_lemma=>kernel_rfl)
#print axioms proved
end topQuiet
end
end Go.Proofs.YtlfngkelmbdehaaGreatDoor
