/- Lemmas. -/
import Derived.Test.YtheabjeppmdmiaaGreatDoorMae
import Derived.Test.YtheabjeppmdmiaaGreatDoorShelf
namespace Go.Proofs.YtheabjeppmdmiaaGreatDoor
open Go.RowKit
set_option linter.unusedVariables false
set_option linter.unusedSimpArgs false
set_option maxHeartbeats 16000000
open _root_.Go.Proofs.Tryz
set_option maxRecDepth 20000
theorem QCB{p:Prop}(h:p:=by
 go_enter func160,ntmps160;go_wp2_with fail;refine(HR.o).mono ?_;rintro e w' ⟨rfl,rfl⟩;go_wp2;go_ret2
 exact⟨rfl,Below.refl _ _⟩):p:=h
theorem QAU{p:Prop}(h:p:=by
 clear HNE h1;go_enter func160,ntmps160;go_wp2_with fail;refine(HR.o).mono ?_;rintro e w' ⟨rfl,rfl⟩;go_wp2_with fail;refine(HC.o).mono ?_;rintro e w1 ⟨v,ev,rfl,hv,hb1⟩;have HB:=aA hb1;clear hb1 HC HR
 rcases ha:Lib.atoiAll (sg++s.extract 0 n).data.toList with u|_|_
 .rw[ha] at hv;obtain⟨rfl,rfl⟩:=hv;have HE:=aA (HAX.o.2.1 v ha);clear HAX ha;go_wp2;go_ret2
  exact⟨by rw[HE.o];rfl,HB.o⟩
 .exact absurd ha HAX.o.1
 .rw[ha] at hv;obtain⟨t,p,rfl⟩:=hv;have HE:=aA (HAX.o.2.2 ha);clear HAX ha;go_wp2;go_ret2
  exact⟨by rw[HE.o];rfl,HB.o⟩):p:=h
def iA(w:World):Prop:=∃a,w.cell? ⟨2,0,none⟩=some a/\(a=.nilIface\/∃c b,a=.iface c b)
theorem iA.lt{w:World}(h:iA w):2<w.heap.size:=by
 obtain⟨a,h1,_⟩:=h
 rcases Nat.lt_or_ge 2 w.heap.size with h|h
 .exact h
 .simp[World.cell?,Array.getElem?_eq_none h] at h1
theorem iA.on{w w':World}(h:iA w)(b:Below w.heap.size w w'):iA w':=by
 have c:=h.lt;obtain⟨a,h1,h2⟩:=h;exact⟨a,(b.cell (p:=⟨2,0,none⟩) c).trans h1,h2⟩
theorem iA.stay{w w':World}{ok:nP}(h:iA w)(b:aN ok w w')(c:ok 2):iA w':=by
 obtain⟨a,h1,h2⟩:=h;exact⟨a,b.cell (p:=⟨2,0,none⟩) c h1,h2⟩
def sA(v1 v2:Value)(w:World)(e:Ending)(w':World):Prop:=e=.returned (.tuple #[v1,v2])/\Below w.heap.size w w'
def TN(l:lU)(w:World)(e:Ending)(w':World):Prop:=∃(v:Int) (a:Value),e=.returned (.tuple #[.int .i64 v,a])/\(match Lib.atoiAll l with | .ok u=>v=u/\a=.nilIface|_=>∃t p,a=.iface t p)/\Below w.heap.size w w'
theorem TO(s:bY)(d:s.size<=100000)(h:Lib.atoiAll s.data.toList≠Lib.NumEnd.syntax)(w:World)(c:iA w):Calls prog 95 #[.string s] w (TN s.data.toList w):=by
 unfold TN
 rcases ha:Lib.atoiAll s.data.toList with v|_|_
 .refine(strconv_Atoi_ok s qo v ha w).mono ?_;rintro e w' ⟨rfl,hw⟩;refine⟨v,.nilIface,rfl,⟨rfl,rfl⟩,?_⟩
  rcases hw with rfl|⟨t,rfl⟩
  .exact Below.refl _ _
  .exact Lib.bytesWorld_below _ _ _
 .exact absurd ha h
 .obtain⟨a,h1,h2⟩:=c;refine(strconv_Atoi_range s qo ha a w h1 h2).mono ?_;rintro e w' ⟨N,rfl,_,_,b⟩;exact⟨_,_,rfl,⟨_,_,rfl⟩,b⟩
theorem uT(neg:Bool)(sg s:bY)(j:sg.data.toList=if neg=true then [45] else [])(y:s.size<=4096)(w:World)(l:iA w):
 Calls prog 160 #[.string sg,.string s] w (sA (.int .i64 (eB neg s.data.toList).1) (.int .i64 (eB neg s.data.toList).2) w):=by
 have HR:=aA (On s (by unfold maxLen;omega) w);have hle:=NO bA s.data.toList;have c:s.data.toList.length=s.size:=by rw[Array.length_toList];rfl
 rw[c] at hle;unfold sA;by_cases a:cL bA s.data.toList=0\/(1<cL bA s.data.toList/\s.data.toList.head?=some 48)
 .rw[Vm a];have d:Hid (cL bA s.data.toList=0\/(1<cL bA s.data.toList/\s.data.toList.head?=some 48)):=aA a
  rcases a with h0|⟨h1,h2⟩
  .rw[h0] at HR;clear hle h0 d c;exact QCB
  .generalize cL bA s.data.toList=n at *;have o:0<s.size:=qo;have h48:(s[0].toNat:Int)=48:=by
    have h3:s.data.toList.head?=some s[0]:=by
     rw[List.head?_eq_getElem?,gE qo];rfl
    rw[h3] at h2;injection h2 with h2;rw[h2];rfl
   have k:((n:Int)==0)=false:=bN.2 qo;have g:decide ((n:Int) > 1)=true:=dX qo;clear d c h2;exact QCB
 .have d:=aA a;have f:=aA (fun (x:bY) (b:x.data.toList=(if neg=true then [45] else [])++s.data.toList.take (cL bA s.data.toList))=>(show _/\_/\_ from ⟨by rw[b];exact KG a,fun u hu=>Vn (neg:=neg) a (by rw[<-b];exact hu),fun hu=>Cq (neg:=neg) a (by rw[<-b];exact hu)⟩:Lib.atoiAll x.data.toList≠Lib.NumEnd.syntax/\(∀u,Lib.atoiAll x.data.toList=.ok u->eB neg s.data.toList=(u,cL bA s.data.toList))/\(Lib.atoiAll x.data.toList=.range->eB neg s.data.toList=(0,0))));have h0:cL bA s.data.toList≠0:=fun h=>a (.inl h)
  have b:(sg++s.extract 0 (cL bA s.data.toList)).data.toList=(if neg=true then [45] else [])++s.data.toList.take (cL bA s.data.toList):=by
   rw[EW,ByteArray.data_append,Array.toList_append,j,mV]
  have HAX:=aA (f.o _ b);have z:sg.size<=1:=by
   have:sg.size=sg.data.toList.length:=by rw[Array.length_toList];rfl
   rw[this,j];split<;>simp
  have m:(sg++s.extract 0 (cL bA s.data.toList)).size<=5000:=by
   rw[ByteArray.size_append,ByteArray.size_extract];omega
  have i:1<cL bA s.data.toList->(s.data.toList.head?≠some 48):=fun h1 h2=>a (.inr ⟨h1,h2⟩)
  generalize cL bA s.data.toList=n at *;have HC:=aA (TO (sg++s.extract 0 n) qo HAX.o.1 w l);have A:(0:Int)<=n:=qo;have i2:(n:Int)<=s.size:=qo;have k:((n:Int)==0)=false:=bN.2 qo;have o:0<s.size:=qo;have r:¬9223372036854775807<sg.size+n:=qo;have HNE:Hid (1<n->((s[0].toNat:Int)==48)=false):=aA (fun h=>bN.2 (fun h48=>i h (by
   rw[List.head?_eq_getElem?,gE (show 0<s.data.toList.length by omega)]
   congr 1
   apply UInt8.toNat_inj.1
   show s[0].toNat=48;omega)))
  clear f b m d a c i;by_cases h1:1<n
  .have g:decide ((n:Int) > 1)=true:=dX qo;have q:=HNE.o h1;exact QAU
  .have g:decide ((n:Int) > 1)=false:=dF qo;exact QAU
theorem QCP{p:Prop}(h:p:=by
 have:(s.extract 1 s.size).data.toList.length=(s.extract 1 s.size).size:=by rw[Array.length_toList];rfl
 omega):p:=h
theorem Yt{p:Prop}(h:p:=by
 go_wp2_with fail;refine(HN.o _).mono ?_;rintro e w' ⟨rfl,rfl⟩;go_wp2;go_returns;exact⟨rfl,((Below.refl _ _).alloc (lR _) _).alloc qs _⟩):p:=h
theorem QAY{p:Prop}(h:p:=by
 go_enter func117,ntmps117;go_wp2_with fail;refine(HD.o _).mono ?_;rintro e w' ⟨rfl,rfl⟩;go_wp2_with fail;refine(HN.o _ (HG.o.on (aC (aB w _) (aB _ _)))).mono ?_;rintro e w1 ⟨rfl,hb1⟩;obtain⟨b0,b1,hlt,hb⟩:=rN hb1;obtain⟨⟨x0,x1,x2,x3⟩,f0,f1,f2,f3⟩:=nR b1;obtain⟨⟨y0,y1,y2,y3⟩,g0,g1,g2,g3⟩:=nR b0;have HB:=aA hb;clear b0 b1 hb hb1 HN;clear HD;go_wp2;refine bR (.tuple #[.agg #[.int .i64 3,.int .i64 0,.int .i64 nm.1,.string ⟨#[]⟩],.int .i64 0]) ?_;exact⟨rfl,by have hb:=HB.o;go_grown⟩):p:=h
theorem bR{fn:Func}{R:Ending->World->Prop}{a:Act}{w:World}(v:Value)(q:R (.returned v) w)(c:(results fn a.tmps).run prog w=.ok v w:=by simp[results,results7,results10,results14,results23,results24,results27,results29,results31,results32,results36,results42,results60,results65,results66,results67,results68,results75,results81,results107,results117,results126,results128,results130,results149,results168,results172,results173,results174,results214,results240,results244,results262,results263,results264,results270,results283,results285,results289,results290,go_sem, *];try rfl)(b:a.defers=[]:=by rfl):bodyPost prog fn R .ret a w:=bodyPost_ret c b q
def qH(t:Tok)(n:Nat)(w:World)(e:Ending)(w':World):Prop:=e=.returned (.tuple #[iE t,.int .i64 n])/\Below w.heap.size w w'
theorem oX(s:bY)(a:0<s.size):s.data.toList=s[0] ::(s.extract 1 s.size).data.toList:=by
 rw[yR s 1 qo];have:0<s.data.toList.length:=by rw[Array.length_toList];exact a
 exact(List.drop_eq_getElem_cons this:s.data.toList.drop 0=_)
section
variable {s:bY} {c:UInt8} {r:lU}
theorem Ai(c:UInt8):yL c=true↔97<=(c.toNat:Int)/\(c.toNat:Int)<=122:=by unfold yL;rw[Bool.and_eq_true,decide_eq_true_eq,decide_eq_true_eq];omega
theorem Hr(h1:97<=(c.toNat:Int))(h2:(c.toNat:Int)<=122):bX (c::r)=(⟨1,0,0,bs (gC (c::r))⟩,(gC (c::r)).length):=by
 unfold bX;dsimp only;rw[iP ((Ai c).2 ⟨h1,h2⟩)]
theorem vR(h:¬(97<=(c.toNat:Int)/\(c.toNat:Int)<=122)):¬yL c=true:=fun e=>h ((Ai c).1 e)
theorem Hs(h:bA c=true):bX (c::r)=(⟨2,0,(eB false (c::r)).1,bs []⟩,(eB false (c::r)).2):=by
 have:=(eV c).1 h;unfold bX;dsimp only;rw[iN (vR qo),iP h]
theorem Ht(h:(c.toNat:Int)=45):bX (c::r)=if (eB true r).1=0 then (⟨2,0,0,bs []⟩,0) else (⟨2,0,(eB true r).1,bs []⟩,(eB true r).2+1):=by
 unfold bX;dsimp only;rw[iN (vR qo),iN (fun e=>qA ((eV c).1 e)),iP qo]
theorem Ov(h:(c.toNat:Int)=64):bX (c::r)=if (eB false r).2=0\/1099511627776<(eB false r).1 then (⟨3,0,(eB false r).1,bs []⟩,0) else (⟨3,0,(eB false r).1,bs []⟩,(eB false r).2+1):=by
 unfold bX;dsimp only;rw[iN (vR qo),iN (fun e=>qA ((eV c).1 e)),iN qo,iP qo]
theorem Ow(h:(c.toNat:Int)=35):bX (c::r)=(⟨4,0,0,bs (gC r)⟩,if gC r=[] then 0 else (gC r).length+1):=by
 unfold bX;dsimp only;rw[iN (vR qo),iN (fun e=>qA ((eV c).1 e)),iN qo,iN qo,iP qo]
theorem Cr(h:(c.toNat:Int)=34):bX (c::r)=(⟨5,0,0,bs (jX (c::r)).1⟩,(jX (c::r)).2):=by
 unfold bX;dsimp only;rw[iN (vR qo),iN (fun e=>qA ((eV c).1 e)),iN qo,iN qo,iN qo,iP qo]
structure Te (c:UInt8):Prop where
 low:¬(97<=(c.toNat:Int)/\(c.toNat:Int)<=122)
 dig:bA c=false
 n45:(c.toNat:Int)≠45
 n64:(c.toNat:Int)≠64
 n35:(c.toNat:Int)≠35
 n34:(c.toNat:Int)≠34
theorem YB(h:Te c):bX (c::r)=if ER c then (⟨6,0,0,bs [c]⟩,1) else (⟨0,0,0,bs []⟩,0):=by
 unfold bX;dsimp only;have h1:=h.n45;have h2:=h.n64;have h3:=h.n35;have h4:=h.n34;rw[iN (vR h.low),iN (by rw[h.dig];decide),iN qo,iN qo,iN qo,iN qo]
theorem Cs(c:UInt8):decide (Lib.indexByte [123,125,40,41,46,44,59,61,60,62,33] c ≥ 0)=ER c:=by
 have h:∀n:Fin 256,decide (Lib.indexByte [123,125,40,41,46,44,59,61,60,62,33] (UInt8.ofNat n) ≥ 0)=ER (UInt8.ofNat n):=by decide +kernel
 have:=h ⟨c.toNat,c.toNat_lt⟩;simpa using this
end
theorem rN{w w1:World}{A B:Obj}(h:Below ((w.alloc A).alloc B).heap.size ((w.alloc A).alloc B) w1):w1.heap[w.heap.size]? =some A/\w1.heap[w.heap.size+1]? =some B/\w.heap.size+1<w1.heap.size/\Below w.heap.size w w1:=by
 have h1:=h.block w.heap.size (by simp;omega);have h2:=h.block (w.heap.size+1) qs;have a:=h.size;simp only[World.size_alloc] at a;refine⟨?_,?_,qo,aC (aC (aB w A) (aB _ B)) h⟩
 .rw[h1,Below.heap_alloc _ _ _ qs,heap_alloc_new]
 .have:=heap_alloc_new (w.alloc A) B;rw[World.size_alloc] at this;rw[h2,this]
theorem aQ{w:World}{g:Nat}{cs:Array Value}{t:TypeId}{m:Nat×Nat}(h:w.heap[g]? =some (.cells cs t m))(i:Nat)(v:Value)(a:cs[i]? =some v):w.cell? ⟨g,i,none⟩=some v:=by simp[World.cell?,h,a]
theorem aR{w:World}{g:Nat}{cs:Array Value}{t:TypeId}(h:w.heap[g]? =some (.cells cs t (0,0)))(i:Nat):w.frozen? ⟨g,i,none⟩=false:=by simp[World.frozen?,h]
theorem nR{w:World}{g:Nat}{a b c d:Value}{t:TypeId}(h:w.heap[g]? =some (.cells #[a,b,c,d] t (0,0))):
 (w.cell? ⟨g,0,none⟩=some a/\w.cell? ⟨g,1,none⟩=some b/\w.cell? ⟨g,2,none⟩=some c/\w.cell? ⟨g,3,none⟩=some d)/\w.frozen? ⟨g,0,none⟩=false/\w.frozen? ⟨g,1,none⟩=false/\w.frozen? ⟨g,2,none⟩=false/\w.frozen? ⟨g,3,none⟩=false:=
 ⟨⟨aQ h 0 _ rfl,aQ h 1 _ rfl,aQ h 2 _ rfl,aQ h 3 _ rfl⟩,aR h 0,aR h 1,aR h 2,aR h 3⟩
theorem Ct(s:bY)(d:s.size<=4096)(b:0<s.size)(h1:97<=(s[0].toNat:Int))(h2:(s[0].toNat:Int)<=122)(w:World)(c:iA w):
 Calls prog 117 #[.string s] w (qH (bX s.data.toList).1 (bX s.data.toList).2 w):=by
 have HN:=aA (GH s (by unfold maxLen;omega));have a:Hid (bX s.data.toList=(⟨1,0,0,bs (gC s.data.toList)⟩,(bs (gC s.data.toList)).size)):=aA (by rw[oX s b,Hr h1 h2,cI]);have d1:decide ((s[0].toNat:Int) ≥ 97)=true:=dX h1;have d2:decide ((s[0].toNat:Int)<=122)=true:=dX h2;unfold qH;have hlen:=(zS s.data.toList).2;rw[a.o];rw[<-cI] at hlen;generalize bs (gC s.data.toList)=f at *;clear a h1 h2;go_enter func117,ntmps117;exact Yt
theorem Cu(s:bY)(l:s.size<=4096)(m:0<s.size)(h1:bA s[0]=true)(w:World)(b:iA w):
 Calls prog 117 #[.string s] w (qH (bX s.data.toList).1 (bX s.data.toList).2 w):=by
 have c:=aA (iV s[0]);have f:=aA (fun w b=>uT false ByteArray.empty s rfl l w b);have d:Hid (bX s.data.toList=(⟨2,0,(eB false s.data.toList).1,ByteArray.empty⟩,(eB false s.data.toList).2)):=aA (by rw[oX s m,Hs h1];rfl);have h2:=(eV s[0]).1 h1;have d1:decide ((s[0].toNat:Int) ≥ 97)=false:=dF qo;rw[h1] at c;unfold qH;rw[d.o];generalize eB false s.data.toList=i at *;clear d h1 h2;have k:=aA b;go_enter func117,ntmps117;go_wp2_with fail;refine(c.o _).mono ?_;rintro e w' ⟨rfl,rfl⟩;go_wp2_with fail;refine(f.o _ (k.o.on (aC (aB w _) (aB _ _)))).mono ?_;rintro e w1 ⟨rfl,g⟩;obtain⟨b0,b1,n,a⟩:=rN g;obtain⟨⟨o,p,q,r⟩,f0,f1,f2,f3⟩:=nR b1;obtain⟨⟨t,v,x,y⟩,g0,g1,g2,g3⟩:=nR b0;have j:=aA a;clear b0 b1 a g f;go_wp2;refine bR (.tuple #[.agg #[.int .i64 2,.int .i64 0,.int .i64 i.1,.string ⟨#[]⟩],.int .i64 i.2]) ?_;exact⟨rfl,by have a:=j.o;go_grown⟩
theorem Cv(s:bY)(E:s.size<=4096)(r:0<s.size)(h1:(s[0].toNat:Int)=45)(w:World)(f:iA w):
 Calls prog 117 #[.string s] w (qH (bX s.data.toList).1 (bX s.data.toList).2 w):=by
 have c:=aA (iV s[0]);have l:bA s[0]=false:=by rw[Bool.eq_false_iff];intro h;have:=(eV s[0]).1 h;omega
 rw[l] at c;have d1:decide ((s[0].toNat:Int) ≥ 97)=false:=dF qo;have m:(s.extract 1 s.size).size<=4096:=by rw[ByteArray.size_extract];omega
 have F:(1:Int)<=(s.size:Int):=qo;have g:=aA (fun w f=>uT true ⟨#[45]⟩ (s.extract 1 s.size) rfl m w f);have j:Hid (bX s.data.toList=if (eB true (s.extract 1 s.size).data.toList).1=0 then (⟨2,0,0,bs []⟩,0) else (⟨2,0,(eB true (s.extract 1 s.size).data.toList).1,bs []⟩,(eB true (s.extract 1 s.size).data.toList).2+1)):=aA (by rw[oX s r,Ht h1]);have p:=(rZ true (s.extract 1 s.size).data.toList).1;have hle:(eB true (s.extract 1 s.size).data.toList).2<=4096:=by
  exact QCP
 have d45:((s[0].toNat:Int)==45)=true:=bQ.2 h1;unfold qH;rw[j.o];clear j l p m h1;generalize eB true (s.extract 1 s.size).data.toList=b at *;have k:=aA f;by_cases h0:b.1=0
 .rw[iP h0];have o:(b.1==0)=true:=bQ.2 h0;have n:=aA h0;clear h0 f;go_enter func117,ntmps117;go_wp2_with fail;refine(c.o _).mono ?_;rintro e w' ⟨rfl,rfl⟩;go_wp2_with fail;refine(g.o _ (k.o.on (aC (aB w _) (aB _ _)))).mono ?_;rintro e w1 ⟨rfl,d⟩;obtain⟨b0,b1,q,a⟩:=rN d;obtain⟨⟨t,v,x,y⟩,f0,f1,f2,f3⟩:=nR b1;obtain⟨⟨z,A,B,C⟩,g0,g1,g2,g3⟩:=nR b0;have i:=aA a;clear b0 b1 a d g;clear c;go_wp2;refine bR (.tuple #[.agg #[.int .i64 2,.int .i64 0,.int .i64 b.1,.string ⟨#[]⟩],.int .i64 0]) ?_;exact⟨by rw[n.o];rfl,by have a:=i.o;go_grown⟩
 .rw[iN h0];have o:(b.1==0)=false:=bN.2 h0;have D:=aA hle;clear h0 f;go_enter func117,ntmps117;go_wp2_with fail;refine(c.o _).mono ?_;rintro e w' ⟨rfl,rfl⟩;go_wp2_with fail;refine(g.o _ (k.o.on (aC (aB w _) (aB _ _)))).mono ?_;rintro e w1 ⟨rfl,d⟩;obtain⟨b0,b1,q,a⟩:=rN d;obtain⟨⟨t,v,x,y⟩,f0,f1,f2,f3⟩:=nR b1;obtain⟨⟨z,A,B,C⟩,g0,g1,g2,g3⟩:=nR b0;have i:=aA a;clear b0 b1 a d g;clear c;go_wp2;refine bR (.tuple #[.agg #[.int .i64 2,.int .i64 0,.int .i64 b.1,.string ⟨#[]⟩],.int .i64 (b.2+1)]) ?_;exact⟨rfl,by have a:=i.o;go_grown⟩
theorem Hu(s:bY)(m:s.size<=4096)(j:0<s.size)(h1:(s[0].toNat:Int)=64)(w:World)(a:iA w):
 Calls prog 117 #[.string s] w (qH (bX s.data.toList).1 (bX s.data.toList).2 w):=by
 have HD:=aA (iV s[0]);have c:bA s[0]=false:=by rw[Bool.eq_false_iff];intro h;have:=(eV s[0]).1 h;omega
 rw[c] at HD;have d1:decide ((s[0].toNat:Int) ≥ 97)=false:=dF qo;have d:(s.extract 1 s.size).size<=4096:=by rw[ByteArray.size_extract];omega
 have n:(1:Int)<=(s.size:Int):=qo;have HN:=aA (fun w a=>uT false ByteArray.empty (s.extract 1 s.size) rfl d w a);have b:Hid (bX s.data.toList=if (eB false (s.extract 1 s.size).data.toList).2=0\/1099511627776<(eB false (s.extract 1 s.size).data.toList).1 then (⟨3,0,(eB false (s.extract 1 s.size).data.toList).1,bs []⟩,0) else (⟨3,0,(eB false (s.extract 1 s.size).data.toList).1,bs []⟩,(eB false (s.extract 1 s.size).data.toList).2+1)):=aA (by rw[oX s j,Ov h1]);have i:=(rZ false (s.extract 1 s.size).data.toList).1;have hle:(eB false (s.extract 1 s.size).data.toList).2<=4096:=by
  exact QCP
 have d45:((s[0].toNat:Int)==45)=false:=bN.2 qo;have d64:((s[0].toNat:Int)==64)=true:=bQ.2 h1;unfold qH;rw[b.o];clear b c i d h1;generalize eB false (s.extract 1 s.size).data.toList=nm at *;have HG:=aA a;by_cases h0:nm.2=0
 .rw[iP (.inl h0)];have f:((nm.2:Int)==0)=true:=bQ.2 qo;have k:=aA h0;clear h0 a;exact QAY
 .have f:((nm.2:Int)==0)=false:=bN.2 qo;by_cases h2:1099511627776<nm.1
  .rw[iP (.inr h2)];have g:decide (nm.1 > 1099511627776)=true:=dX h2;clear h0 a h2;exact QAY
  .rw[iN (fun h=>h.elim h0 h2)];have g:decide (nm.1 > 1099511627776)=false:=dF h2;have l:=aA hle;clear h0 a h2;go_enter func117,ntmps117;go_wp2_with fail;refine(HD.o _).mono ?_;rintro e w' ⟨rfl,rfl⟩;go_wp2_with fail;refine(HN.o _ (HG.o.on (aC (aB w _) (aB _ _)))).mono ?_;rintro e w1 ⟨rfl,hb1⟩;obtain⟨b0,b1,hlt,hb⟩:=rN hb1;obtain⟨⟨x0,x1,x2,x3⟩,f0,f1,f2,f3⟩:=nR b1;obtain⟨⟨y0,y1,y2,y3⟩,g0,g1,g2,g3⟩:=nR b0;have HB:=aA hb;clear b0 b1 hb hb1 HN;clear HD;go_wp2;refine bR (.tuple #[.agg #[.int .i64 3,.int .i64 0,.int .i64 nm.1,.string ⟨#[]⟩],.int .i64 (nm.2+1)]) ?_;exact⟨rfl,by have hb:=HB.o;go_grown⟩
theorem Hv(s:bY)(n:s.size<=4096)(j:0<s.size)(h1:(s[0].toNat:Int)=35)(w:World)(m:iA w):
 Calls prog 117 #[.string s] w (qH (bX s.data.toList).1 (bX s.data.toList).2 w):=by
 have a:=aA (iV s[0]);have c:bA s[0]=false:=by rw[Bool.eq_false_iff];intro h;have:=(eV s[0]).1 h;omega
 rw[c] at a;have d1:decide ((s[0].toNat:Int) ≥ 97)=false:=dF qo;have i:(s.extract 1 s.size).size<=4096:=by rw[ByteArray.size_extract];omega
 have o:(1:Int)<=(s.size:Int):=qo;have HN:=aA (GH (s.extract 1 s.size) (by unfold maxLen;omega));have b:Hid (bX s.data.toList=(⟨4,0,0,bs (gC (s.extract 1 s.size).data.toList)⟩,if (bs (gC (s.extract 1 s.size).data.toList)).size=0 then 0 else (bs (gC (s.extract 1 s.size).data.toList)).size+1)):=aA (by
  rw[oX s j,Ow h1,cI]
  congr 1
  simp only[List.length_eq_zero_iff])
 have hlen:=(zS (s.extract 1 s.size).data.toList).2;rw[<-cI] at hlen;have d45:((s[0].toNat:Int)==45)=false:=bN.2 qo;have d64:((s[0].toNat:Int)==64)=false:=bN.2 qo;have d35:((s[0].toNat:Int)==35)=true:=bQ.2 h1;unfold qH;rw[b.o];clear b c i h1;generalize bs (gC (s.extract 1 s.size).data.toList)=k at *
 rcases uB (s:=k) with h0|h0
 .rw[iP h0];obtain⟨d,f,g⟩:=rJ h0;clear h0;go_enter func117,ntmps117;go_wp2_with fail;refine(a.o _).mono ?_;rintro e w' ⟨rfl,rfl⟩;exact Yt
 .rw[iN qo];obtain⟨d,f,g⟩:=rK h0;have l:=aA hlen;go_enter func117,ntmps117;go_wp2_with fail;refine(a.o _).mono ?_;rintro e w' ⟨rfl,rfl⟩;exact Yt
theorem aAL:str "."=⟨#[46]⟩:=by kernel_rfl
theorem Yu:str "!"=⟨#[33]⟩:=by kernel_rfl
theorem Hw:str "subject"=⟨#[115,117,98,106,101,99,116]⟩:=by kernel_rfl
theorem Ox:str "action"=⟨#[97,99,116,105,111,110]⟩:=by kernel_rfl
theorem Yv:str "case"=⟨#[99,97,115,101]⟩:=by kernel_rfl
theorem aAM:str "env"=⟨#[101,110,118]⟩:=by kernel_rfl
theorem Cw:str "="=⟨#[61]⟩:=by kernel_rfl
theorem Oy:str "<"=⟨#[60]⟩:=by kernel_rfl
theorem Yw:str ">"=⟨#[62]⟩:=by kernel_rfl
theorem CP:str "true"=⟨#[116,114,117,101]⟩:=by kernel_rfl
theorem yS:str "false"=⟨#[102,97,108,115,101]⟩:=by kernel_rfl
theorem Aj:str ","=⟨#[44]⟩:=by kernel_rfl
theorem KH:str "("=⟨#[40]⟩:=by kernel_rfl
theorem KI:str ")"=⟨#[41]⟩:=by kernel_rfl
theorem Yx:str "or"=⟨#[111,114]⟩:=by kernel_rfl
theorem Tf:str "and"=⟨#[97,110,100]⟩:=by kernel_rfl
theorem Hy:str "when"=⟨#[119,104,101,110]⟩:=by kernel_rfl
theorem Yy:str "on"=⟨#[111,110]⟩:=by kernel_rfl
theorem Yz:str "if"=⟨#[105,102]⟩:=by kernel_rfl
theorem Hz:str ";"=⟨#[59]⟩:=by kernel_rfl
theorem TP:rH=⟨#[123]⟩:=by kernel_rfl
theorem TQ:yM=⟨#[125]⟩:=by kernel_rfl
theorem JE:str "permit"=⟨#[112,101,114,109,105,116]⟩:=by kernel_rfl
theorem TR:str "deny"=⟨#[100,101,110,121]⟩:=by kernel_rfl
theorem aAN:str "log"=⟨#[108,111,103]⟩:=by kernel_rfl
theorem Oz:str "redact"=⟨#[114,101,100,97,99,116]⟩:=by kernel_rfl
theorem Pb:str "review"=⟨#[114,101,118,105,101,119]⟩:=by kernel_rfl
theorem Pc:str "notify"=⟨#[110,111,116,105,102,121]⟩:=by kernel_rfl
theorem vZ:str "policy"=⟨#[112,111,108,105,99,121]⟩:=by kernel_rfl
theorem KJ:str "set"=⟨#[115,101,116]⟩:=by kernel_rfl
theorem Za:str "role"=⟨#[114,111,108,101]⟩:=by kernel_rfl
theorem Zb:str "tick"=⟨#[116,105,99,107]⟩:=by kernel_rfl
theorem Ia:str "open"=⟨#[111,112,101,110]⟩:=by kernel_rfl
theorem CQ:str "work"=⟨#[119,111,114,107]⟩:=by kernel_rfl
theorem TS:str "done"=⟨#[100,111,110,101]⟩:=by kernel_rfl
theorem wC:str "closed"=⟨#[99,108,111,115,101,100]⟩:=by kernel_rfl
theorem Vo:str "glass"=⟨#[103,108,97,115,115]⟩:=by kernel_rfl
theorem Zc:str "id"=⟨#[105,100]⟩:=by kernel_rfl
theorem Vp:str "owner"=⟨#[111,119,110,101,114]⟩:=by kernel_rfl
theorem Vq:str "state"=⟨#[115,116,97,116,101]⟩:=by kernel_rfl
theorem Pd:str "events"=⟨#[101,118,101,110,116,115]⟩:=by kernel_rfl
theorem Zd:str "took"=⟨#[116,111,111,107]⟩:=by kernel_rfl
theorem Ze:str "last"=⟨#[108,97,115,116]⟩:=by kernel_rfl
theorem Zf:str "name"=⟨#[110,97,109,101]⟩:=by kernel_rfl
theorem Vr:str "field"=⟨#[102,105,101,108,100]⟩:=by kernel_rfl
theorem aC3:str "to"=⟨#[116,111]⟩:=by kernel_rfl
theorem aAO:str "now"=⟨#[110,111,119]⟩:=by kernel_rfl
theorem aC4:str "f_"=⟨#[102,95]⟩:=by kernel_rfl
theorem QBY{p:Prop}(h:p:=by
 go_wp2_with fail;refine(HS2.o).mono ?_;rintro e w3 ⟨rfl,h3,k3⟩;have H3:=aA h3;have HK:=aA ((aJ HB2.o).trans k3);clear HS2 h3 k3;go_wp2;go_ret;exact⟨rfl,H3.o,HK.o⟩):p:=h
theorem Ak{p:Prop}(h:p:=by
 exact⟨0,Nat.zero_le _,rfl,HR0,aA (Below.refl _ _)⟩):p:=h
theorem CR{α:Type}{a0 a a2 a3 a4 a5 b:α}{l:List α}{p:Nat->α->Prop}(h:∀j x,(a0::a::a2::a3::a4::a5::b::l)[j]? =some x->p j x):p 0 a0/\p 1 a/\p 2 a2/\p 3 a3/\p 4 a4/\p 5 a5/\p 6 b:=⟨h 0 _ rfl,h 1 _ rfl,h 2 _ rfl,h 3 _ rfl,h 4 _ rfl,h 5 _ rfl,h 6 _ rfl⟩
theorem KK{α:Type}{a0 a a2 a3 a4:α}{l:List α}{p:Nat->α->Prop}(h:∀j x,(a0::a::a2::a3::a4::l)[j]? =some x->p j x):p 0 a0/\p 1 a/\p 2 a2/\p 3 a3/\p 4 a4:=⟨h 0 _ rfl,h 1 _ rfl,h 2 _ rfl,h 3 _ rfl,h 4 _ rfl⟩
theorem cR3{α:Type}{a0 a a2:α}{l:List α}{p:Nat->α->Prop}(h:∀j x,(a0::a::a2::l)[j]? =some x->p j x):p 0 a0/\p 1 a/\p 2 a2:=⟨h 0 _ rfl,h 1 _ rfl,h 2 _ rfl⟩
theorem KL(x:bY):∀(zs:List ByteArray) (i:Nat),Lib.idxFromS zs x i=if zs.findIdx (fun w=>decide (w=x))<zs.length then ((i+zs.findIdx (fun w=>decide (w=x)):Nat):Int) else -1
 | [],i=>rfl
 |z::zs,i=>by
  unfold Lib.idxFromS;rw[List.findIdx_cons];by_cases h:z=x
  .simp[h]
  .rw[dF h];simp only[cond_false,List.length_cons];rw[iN (by simpa using h),KL x zs (i+1)];by_cases h2:zs.findIdx (fun w=>decide (w=x))<zs.length
   .rw[iP h2,iP qo];congr 1;omega
   .rw[iN h2,iN qo]
theorem Pe(zs:List ByteArray)(x:bY):Lib.idxOfS zs x=if zs.findIdx (fun w=>decide (w=x))<zs.length then (zs.findIdx (fun w=>decide (w=x)):Int) else -1:=by
 unfold Lib.idxOfS;rw[KL];simp
def EX(w:World)(a:oD)(zs:List ByteArray):Prop:=∃b off,a=some ⟨b,off,none⟩/\b<w.heap.size/\∀j,j<zs.length->w.cell? ⟨b,off+j,none⟩=some (.string (zs.getD j ByteArray.empty))
theorem EX.on{w w':World}{a:oD}{zs:List ByteArray}(h:EX w a zs)(c:Below w.heap.size w w'):EX w' a zs:=by
 obtain⟨b,off,e,d,f⟩:=h;exact⟨b,off,e,lL d c.size,fun j hj=>(c.cell (p:=⟨b,off+j,none⟩) d).trans (f j hj)⟩
theorem YC(zs:List ByteArray)(a:oD)(c n:Nat)(f:zs.length=n)(x:bY)(w:World)(h:EX w a zs)(i:zs.length<=1000):
 Calls prog 163 #[.slice a n c,.string x] w fun e w'=>e=.returned (.int .i64 (if zs.findIdx (fun w=>decide (w=x))<zs.length then (zs.findIdx (fun w=>decide (w=x)):Int) else -1))/\w=w':=by
 obtain⟨b,off,rfl,g,d⟩:=h;refine(slices_Index_string b off n c zs x w qo qo d).mono ?_;rintro e w' ⟨rfl,rfl⟩;rw[<-f,List.take_length,Pe];exact⟨rfl,rfl⟩
theorem nJ{L:List Tok}{p:PS}(T:Toks L)(zs:List ByteArray)(a:oD)(c n:Nat)(M:zs.length=n)(N:zs.length<=1000)(hp:p.at_<L.length)(g:Nat)(w:World)(h:PW L w g p)(hw:EX w a zs):
 Calls prog 118 #[.pointer (some ⟨g,0,none⟩),.slice a n c] w (eU L g w (.int .i64 (aZ L zs p).1) (aZ L zs p).2):=by
 have F:=T.len;obtain⟨j,H,y⟩:=aY (gK hp F g w h) h hw;have o:=aA (fun w h=>mB hp F g w h);have i:=aA (fun s w h=>eP T s hp g w h);have b:=aA (fun x w h=>YC zs a c n M x w h N);clear h hw;unfold eU;unfold aZ;dsimp only;unfold iE at j;generalize aU L p=t at *;generalize dM L p=q at *;by_cases l:t.aDG=1
 .have b0:(t.aDG==1)=true:=bQ.2 l;have i:=aA (i.o t.str);have b:=aA (b.o t.str);by_cases v:zs.findIdx (fun w=>decide (w=t.str))<zs.length
  .rw[iP v] at b;have J:=aA v;unfold kS at i;generalize zs.findIdx (fun w=>decide (w=t.str))=A at *;generalize cM L t.str p=ip at *;have Q:(A:Int)<1000:=qo;have O:decide ((A:Int) ≥ 0)=true:=dX qo;have P:(0:Int)<=(A:Int):=qo
   cases ip
   .rw[iN (fun h=>absurd h.2.2 qe)];rw[iN qe] at i;clear l;go_enter func118,ntmps118;go_wp2_with fail;refine(j.o).mono ?_;rintro e w1 ⟨rfl,d⟩;have f:=aB w1 (.cells (oJ t) 140);have HB2:=aA (aC d f);have m:=aA (H.o.on HB2.o);have k:=aA (b.o _ (y.o.on HB2.o));have r:=aA (i.o _ m.o);obtain⟨⟨B,C,D,E⟩,_⟩:=nR (heap_alloc_new w1 (.cells (oJ t) 140));have z:w1.heap.size<(w1.alloc (.cells (oJ t) 140)).heap.size:=by simp
    clear d f b H j i;go_wp2_with fail;refine(k.o).mono ?_;rintro e w' ⟨rfl,rfl⟩;clear k;go_wp2_with fail;refine(r.o).mono ?_;rintro e w3 ⟨rfl,h3,k3⟩;have H3:=aA h3;have HK:=aA ((aJ HB2.o).trans k3);clear r h3 k3 B C D E z;have HS2:=aA (o.o _ H3.o);clear o;go_wp2_with fail;refine(HS2.o).mono ?_;rintro e R ⟨rfl,h4,G⟩;have I:=aA h4;have K:=aA (HK.o.trans G);clear HS2 h4 G;go_wp2;go_ret;exact⟨rfl,I.o,K.o⟩
   .rw[iP ⟨l,J.o,rfl⟩];rw[iP rfl] at i;clear l o;go_enter func118,ntmps118;go_wp2_with fail;refine(j.o).mono ?_;rintro e w1 ⟨rfl,d⟩;have f:=aB w1 (.cells (oJ t) 140);have HB2:=aA (aC d f);have m:=aA (H.o.on HB2.o);have k:=aA (b.o _ (y.o.on HB2.o));have r:=aA (i.o _ m.o);obtain⟨⟨B,C,D,E⟩,_⟩:=nR (heap_alloc_new w1 (.cells (oJ t) 140));have z:w1.heap.size<(w1.alloc (.cells (oJ t) 140)).heap.size:=by simp
    clear d f b H j i;go_wp2_with fail;refine(k.o).mono ?_;rintro e w' ⟨rfl,rfl⟩;clear k;go_wp2_with fail;refine(r.o).mono ?_;rintro e w3 ⟨rfl,h3,k3⟩;have H3:=aA h3;have HK:=aA ((aJ HB2.o).trans k3);clear r h3 k3 B C D E z;go_wp2;go_ret;exact⟨rfl,H3.o,HK.o⟩
  .rw[iN v] at b;rw[iN (fun h=>v h.2.1)];clear v l;go_enter func118,ntmps118;go_wp2_with fail;refine(j.o).mono ?_;rintro e w1 ⟨rfl,d⟩;have f:=aB w1 (.cells (oJ t) 140);have HB2:=aA (aC d f);have m:=aA (H.o.on HB2.o);have k:=aA (b.o _ (y.o.on HB2.o));clear d f b H j;go_wp2_with fail;refine(k.o).mono ?_;rintro e w' ⟨rfl,rfl⟩;have HS2:=aA (o.o _ m.o);clear k o;exact QBY
 .have b0:(t.aDG==1)=false:=bN.2 l;rw[iN (fun h=>l h.1)];clear l b i;go_enter func118,ntmps118;go_wp2_with fail;refine(j.o).mono ?_;rintro e w1 ⟨rfl,d⟩;have f:=aB w1 (.cells (oJ t) 140);have HB2:=aA (aC d f);have m:=aA (H.o.on HB2.o);have HS2:=aA (o.o _ m.o);clear d f H j o;exact QBY
theorem cG{w:World}{g:Nat}{a b c:Value}{t:TypeId}(h:w.heap[g]? =some (.cells #[a,b,c] t (0,0))):
 (w.cell? ⟨g,0,none⟩=some a/\w.cell? ⟨g,1,none⟩=some b/\w.cell? ⟨g,2,none⟩=some c)/\w.frozen? ⟨g,0,none⟩=false/\w.frozen? ⟨g,1,none⟩=false/\w.frozen? ⟨g,2,none⟩=false:=
 ⟨⟨aQ h 0 _ rfl,aQ h 1 _ rfl,aQ h 2 _ rfl⟩,aR h 0,aR h 1,aR h 2⟩
theorem nK(w:World)(zs:List ByteArray)(cs:Array Value)(t:TypeId)(n:Nat)(a:w.heap.size=n)(h:cs=(zs.map Value.string).toArray):EX (w.alloc (.cells cs t)) (some ⟨n,0,none⟩) zs:=by
 subst a;refine⟨w.heap.size,0,rfl,qs,fun j hj=> ?_⟩;refine aQ (heap_alloc_new w (.cells cs t)) _ _ ?_;subst h;rw[Nat.zero_add];simp[hj]
theorem PW.step{L:List Tok}{w:World}{g:Nat}{p:PS}{v:Value}(h:PW L w g p)(a:v=.int .i64 ((p.at_+1:Nat):Int)):PW L (w.setCell ⟨g,1,none⟩ v) g {p with at_:=p.at_+1}:=by
 subst a;refine h.stay (aI _) fun A c h=> ?_
 rw[aG h 1 _];rfl
theorem cZ.step{B g:Nat}{a w:World}(h:cZ B g a w){i:Nat}{v:Value}:cZ B g a (w.setCell ⟨g,i,none⟩ v):=h.aDY (aI v)
theorem cZ.alloc{B g:Nat}{a w:World}(h:cZ B g a w){o:Obj}:cZ B g a (w.alloc o):=h.new (aB w o)
theorem PW.alloc{L:List Tok}{w:World}{g:Nat}{p:PS}(h:PW L w g p){o:Obj}:PW L (w.alloc o) g p:=h.on (aB w o)
theorem aK(w:World)(o:Obj)(n:Nat)(a:w.heap.size=n):(w.alloc o).heap[n]? =some o:=by subst a;exact heap_alloc_new w o
theorem aAP{w:World}{g:Nat}{a0 a a2:Value}{t:TypeId}{m:Nat×Nat}(h:w.heap[g]? =some (.cells #[a0,a,a2] t m))(v:Value):(w.setCell ⟨g,0,none⟩ v).heap[g]? =some (.cells #[v,a,a2] t m):=aG h 0 v
theorem aAQ{w:World}{g:Nat}{a0 a a2:Value}{t:TypeId}{m:Nat×Nat}(h:w.heap[g]? =some (.cells #[a0,a,a2] t m))(v:Value):(w.setCell ⟨g,1,none⟩ v).heap[g]? =some (.cells #[a0,v,a2] t m):=aG h 1 v
theorem aAR{w:World}{g:Nat}{a0 a a2 a3 a4:Value}{t:TypeId}{m:Nat×Nat}(h:w.heap[g]? =some (.cells #[a0,a,a2,a3,a4] t m))(v:Value):(w.setCell ⟨g,3,none⟩ v).heap[g]? =some (.cells #[a0,a,a2,v,a4] t m):=aG h 3 v
theorem Tg{w:World}{g:Nat}{a0 a a2 a3 a4:Value}{t:TypeId}{m:Nat×Nat}(h:w.heap[g]? =some (.cells #[a0,a,a2,a3,a4] t m))(v:Value):(w.setCell ⟨g,4,none⟩ v).heap[g]? =some (.cells #[a0,a,a2,a3,v] t m):=aG h 4 v
theorem Th{w:World}{g:Nat}{a0 a a2 a3 a4 a5 b:Value}{t:TypeId}{m:Nat×Nat}(h:w.heap[g]? =some (.cells #[a0,a,a2,a3,a4,a5,b] t m))(v:Value):(w.setCell ⟨g,0,none⟩ v).heap[g]? =some (.cells #[v,a,a2,a3,a4,a5,b] t m):=aG h 0 v
theorem Ti{w:World}{g:Nat}{a0 b a2 a3 a4 a5 a:Value}{t:TypeId}{m:Nat×Nat}(h:w.heap[g]? =some (.cells #[a0,b,a2,a3,a4,a5,a] t m))(v:Value):(w.setCell ⟨g,1,none⟩ v).heap[g]? =some (.cells #[a0,v,a2,a3,a4,a5,a] t m):=aG h 1 v
theorem Tj{w:World}{g:Nat}{a0 a a2 a3 a4 a5 b:Value}{t:TypeId}{m:Nat×Nat}(h:w.heap[g]? =some (.cells #[a0,a,a2,a3,a4,a5,b] t m))(v:Value):(w.setCell ⟨g,2,none⟩ v).heap[g]? =some (.cells #[a0,a,v,a3,a4,a5,b] t m):=aG h 2 v
theorem KM{w:World}{g:Nat}{a0 a a2 a3 a4 a5 b:Value}{t:TypeId}{m:Nat×Nat}(h:w.heap[g]? =some (.cells #[a0,a,a2,a3,a4,a5,b] t m))(v:Value):(w.setCell ⟨g,3,none⟩ v).heap[g]? =some (.cells #[a0,a,a2,v,a4,a5,b] t m):=aG h 3 v
theorem aAS{w:World}{g:Nat}{a0 a a2 a3 a4 a5 b:Value}{t:TypeId}{m:Nat×Nat}(h:w.heap[g]? =some (.cells #[a0,a,a2,a3,a4,a5,b] t m))(v:Value):(w.setCell ⟨g,4,none⟩ v).heap[g]? =some (.cells #[a0,a,a2,a3,v,a5,b] t m):=aG h 4 v
theorem aAT{w:World}{g:Nat}{a0 a a2 a3 a4 a5 b:Value}{t:TypeId}{m:Nat×Nat}(h:w.heap[g]? =some (.cells #[a0,a,a2,a3,a4,a5,b] t m))(v:Value):(w.setCell ⟨g,5,none⟩ v).heap[g]? =some (.cells #[a0,a,a2,a3,a4,v,b] t m):=aG h 5 v
theorem fM{w:World}{g:Nat}{a0 a:Value}{t:TypeId}(h:w.heap[g]? =some (.cells #[a0,a] t (0,0))):
 (w.cell? ⟨g,0,none⟩=some a0/\w.cell? ⟨g,1,none⟩=some a)/\w.frozen? ⟨g,0,none⟩=false/\w.frozen? ⟨g,1,none⟩=false:=
 ⟨⟨aQ h 0 _ rfl,aQ h 1 _ rfl⟩,aR h 0,aR h 1⟩
theorem dN{w:World}{g:Nat}{a0 a a2 a3 a4:Value}{t:TypeId}(h:w.heap[g]? =some (.cells #[a0,a,a2,a3,a4] t (0,0))):
 (w.cell? ⟨g,0,none⟩=some a0/\w.cell? ⟨g,1,none⟩=some a/\w.cell? ⟨g,2,none⟩=some a2/\w.cell? ⟨g,3,none⟩=some a3/\w.cell? ⟨g,4,none⟩=some a4)/\w.frozen? ⟨g,0,none⟩=false/\w.frozen? ⟨g,1,none⟩=false/\w.frozen? ⟨g,2,none⟩=false/\w.frozen? ⟨g,3,none⟩=false/\w.frozen? ⟨g,4,none⟩=false:=
 ⟨⟨aQ h 0 _ rfl,aQ h 1 _ rfl,aQ h 2 _ rfl,aQ h 3 _ rfl,aQ h 4 _ rfl⟩,aR h 0,aR h 1,aR h 2,aR h 3,aR h 4⟩
theorem bI{w:World}{g:Nat}{a0 a a2 a3 a4 a5 b:Value}{t:TypeId}(h:w.heap[g]? =some (.cells #[a0,a,a2,a3,a4,a5,b] t (0,0))):
 (w.cell? ⟨g,0,none⟩=some a0/\w.cell? ⟨g,1,none⟩=some a/\w.cell? ⟨g,2,none⟩=some a2/\w.cell? ⟨g,3,none⟩=some a3/\w.cell? ⟨g,4,none⟩=some a4/\w.cell? ⟨g,5,none⟩=some a5/\w.cell? ⟨g,6,none⟩=some b)/\w.frozen? ⟨g,0,none⟩=false/\w.frozen? ⟨g,1,none⟩=false/\w.frozen? ⟨g,2,none⟩=false/\w.frozen? ⟨g,3,none⟩=false/\w.frozen? ⟨g,4,none⟩=false/\w.frozen? ⟨g,5,none⟩=false/\w.frozen? ⟨g,6,none⟩=false:=
 ⟨⟨aQ h 0 _ rfl,aQ h 1 _ rfl,aQ h 2 _ rfl,aQ h 3 _ rfl,aQ h 4 _ rfl,aQ h 5 _ rfl,aQ h 6 _ rfl⟩,aR h 0,aR h 1,aR h 2,aR h 3,aR h 4,aR h 5,aR h 6⟩
theorem bM{w:World}{g:Nat}{a0 a a2 a3 a4 a5 d e f a9 b c:Value}{t:TypeId}(h:w.heap[g]? =some (.cells #[a0,a,a2,a3,a4,a5,d,e,f,a9,b,c] t (0,0))):
 (w.cell? ⟨g,0,none⟩=some a0/\w.cell? ⟨g,1,none⟩=some a/\w.cell? ⟨g,2,none⟩=some a2/\w.cell? ⟨g,3,none⟩=some a3/\w.cell? ⟨g,4,none⟩=some a4/\w.cell? ⟨g,5,none⟩=some a5/\w.cell? ⟨g,6,none⟩=some d/\w.cell? ⟨g,7,none⟩=some e/\w.cell? ⟨g,8,none⟩=some f/\w.cell? ⟨g,9,none⟩=some a9/\w.cell? ⟨g,10,none⟩=some b/\w.cell? ⟨g,11,none⟩=some c)/\w.frozen? ⟨g,0,none⟩=false/\w.frozen? ⟨g,1,none⟩=false/\w.frozen? ⟨g,2,none⟩=false/\w.frozen? ⟨g,3,none⟩=false/\w.frozen? ⟨g,4,none⟩=false/\w.frozen? ⟨g,5,none⟩=false/\w.frozen? ⟨g,6,none⟩=false/\w.frozen? ⟨g,7,none⟩=false/\w.frozen? ⟨g,8,none⟩=false/\w.frozen? ⟨g,9,none⟩=false/\w.frozen? ⟨g,10,none⟩=false/\w.frozen? ⟨g,11,none⟩=false:=
 ⟨⟨aQ h 0 _ rfl,aQ h 1 _ rfl,aQ h 2 _ rfl,aQ h 3 _ rfl,aQ h 4 _ rfl,aQ h 5 _ rfl,aQ h 6 _ rfl,aQ h 7 _ rfl,aQ h 8 _ rfl,aQ h 9 _ rfl,aQ h 10 _ rfl,aQ h 11 _ rfl⟩,aR h 0,aR h 1,aR h 2,aR h 3,aR h 4,aR h 5,aR h 6,aR h 7,aR h 8,aR h 9,aR h 10,aR h 11⟩
abbrev iW(n:No):Array Value:=#[.int .i64 n.op,.int .i64 n.val.1,.int .i64 n.val.2.1,.string n.val.2.2,.int .i64 n.aD7.cat,.string n.aD7.name,.bool n.aD7.aEe]
abbrev KN(m:Ma):Array Value:=#[.int .i64 m.aD7.cat,.string m.aD7.name,.bool m.aD7.aEe,.int .i64 m.op,.int .i64 m.val.1,.int .i64 m.val.2.1,.string m.val.2.2]
abbrev fW:Array Value:=#[.int .i64 0,.int .i64 0,.string ⟨#[]⟩]
end Go.Proofs.YtheabjeppmdmiaaGreatDoor
