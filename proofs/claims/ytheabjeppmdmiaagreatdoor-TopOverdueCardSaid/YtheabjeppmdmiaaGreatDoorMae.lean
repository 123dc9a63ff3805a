/- Lemmas. -/
import Derived.Test.YtheabjeppmdmiaaGreatDoorMad
import Derived.KernelRfl
import Derived.Laws.Cover2
import Derived.Laws.StructEq
import Derived.Laws.Tables
import Derived.Laws.BytesArg
import Derived.Lib.AtoiAllCases
namespace Go.Proofs.YtheabjeppmdmiaaGreatDoor
open Go.RowKit
set_option linter.unusedVariables false
set_option linter.unusedSimpArgs false
set_option maxHeartbeats 16000000
open _root_.Go.Proofs.Tryz
set_option maxRecDepth 20000
theorem QBs{p:Prop}(h:p:=by
 cases d
 .go_wp2_with fail;refine HC.o.mono ?_;rintro e w' ⟨rfl,rfl⟩;go_wp2;go_ret;exact⟨by rw[HS.o qs];rfl,rfl⟩
 .go_wp2_with fail;refine HC.o.mono ?_;rintro e w' ⟨rfl,rfl⟩;go_wp2;go_round
  case rel=>exact⟨k+1,qo,by go_num,aA (HG.o qs)⟩
  case measure=>simp[intOf];omega):p:=h
theorem Hj(p:UInt8->Bool)(l:lU):cL p l<=l.length:=by
 unfold cL;exact(List.takeWhile_sublist p).length_le
theorem TJ{p:UInt8->Bool}{l:lU}{k:Nat}(a:k<l.length)(h:cL p l=k+cL p (l.drop k))(hp:p l[k]=true):cL p l=(k+1)+cL p (l.drop (k+1)):=by
 rw[h,List.drop_eq_getElem_cons a];unfold cL;rw[List.takeWhile_cons_of_pos hp,List.length_cons];omega
theorem TK{p:UInt8->Bool}{l:lU}{k:Nat}(a:k<l.length)(h:cL p l=k+cL p (l.drop k))(hp:p l[k]=false):cL p l=k:=by
 rw[h,List.drop_eq_getElem_cons a];unfold cL;rw[List.takeWhile_cons_of_neg (by rw[hp];decide)];rfl
theorem Ad{p:UInt8->Bool}{l:lU}(h:cL p l=l.length+cL p (l.drop l.length)):cL p l=l.length:=by
 rw[h,List.drop_of_length_le (lR _)];rfl
theorem On(s:bY)(f:s.size<=maxLen)(w:World):Calls prog 202 #[.string s,.func (.func 159) #[] #[]] w fun e w'=>e=.returned (.int .i64 (cL bA s.data.toList:Nat))/\w=w':=by
 unfold maxLen at f;have b:Hid (s.data.toList.length=s.size):=aA (by rw[Array.length_toList];rfl);go_enter func202,ntmps202;go_wp2;go_loop [5] (fun i=>∃k:Nat,k<=s.size/\i=.int .i64 k/\Hid (cL bA s.data.toList=k+cL bA (s.data.toList.drop k))) (fun i=>s.size - (intOf i).toNat)
 case atStart=>exact⟨0,qo,rfl,aA qs⟩
 case round=>
  obtain⟨k,g,rfl,a⟩:=hrel;by_cases c:k<s.size
  .have HC:=aA (iV s[k] w);have HG:Hid (bA s[k]=true->cL bA s.data.toList=(k+1)+cL bA (s.data.toList.drop (k+1))):=aA (fun h=>TJ (by rw[b.o];exact c) a.o h);have HS:Hid (bA s[k]=false->cL bA s.data.toList=k):=aA (fun h=>TK (by rw[b.o];exact c) a.o h);clear a;generalize bA s[k]=d at *;exact QBs
  .obtain rfl:k=s.size:=qo;have HE:Hid (cL bA s.data.toList=s.size):=aA (by have:=a.o;rw[<-b.o] at this ⊢;exact Ad this);clear a;exact rM
theorem Oo(s:bY)(f:s.size<=maxLen)(w:World):Calls prog 202 #[.string s,.func (.func 203) #[] #[]] w fun e w'=>e=.returned (.int .i64 (cL iR s.data.toList:Nat))/\w=w':=by
 unfold maxLen at f;have b:Hid (s.data.toList.length=s.size):=aA (by rw[Array.length_toList];rfl);go_enter func202,ntmps202;go_wp2;go_loop [5] (fun i=>∃k:Nat,k<=s.size/\i=.int .i64 k/\Hid (cL iR s.data.toList=k+cL iR (s.data.toList.drop k))) (fun i=>s.size - (intOf i).toNat)
 case atStart=>exact⟨0,qo,rfl,aA qs⟩
 case round=>
  obtain⟨k,g,rfl,a⟩:=hrel;by_cases c:k<s.size
  .have HC:=aA (XX s[k] w);have HG:Hid (iR s[k]=true->cL iR s.data.toList=(k+1)+cL iR (s.data.toList.drop (k+1))):=aA (fun h=>TJ (by rw[b.o];exact c) a.o h);have HS:Hid (iR s[k]=false->cL iR s.data.toList=k):=aA (fun h=>TK (by rw[b.o];exact c) a.o h);clear a;generalize iR s[k]=d at *;exact QBs
  .obtain rfl:k=s.size:=qo;have HE:Hid (cL iR s.data.toList=s.size):=aA (by have:=a.o;rw[<-b.o] at this ⊢;exact Ad this);clear a;exact rM
theorem EW(s:bY)(n:Nat):s.extract 0 n=bs (s.data.toList.take n):=by
 apply ByteArray.ext
 apply Array.ext'
 rw[mV];simp
theorem GH(s:bY)(g:s.size<=maxLen)(w:World):Calls prog 158 #[.string s] w fun e w'=>e=.returned (.string (bs (gC s.data.toList)))/\w=w':=by
 have c:=aA (Oo s g w);have hle:=Hj iR s.data.toList;have f:s.data.toList.length=s.size:=by rw[Array.length_toList];rfl
 rw[f] at hle;have a:Hid (bs (gC s.data.toList)=if eL (s.extract 0 (cL iR s.data.toList))=true then s.extract 0 (cL iR s.data.toList) else ByteArray.empty):=aA (by
  unfold gC;dsimp only;rw[<-EW];by_cases h:eL (s.extract 0 (cL iR s.data.toList))=true
  .rw[iP h,iP h,<-EW]
  .rw[iN h,iN h];rfl)
 clear f;unfold maxLen at g;generalize cL iR s.data.toList=n at *;have i:(s.extract 0 n).size<=maxLen:=by rw[ByteArray.size_extract];unfold maxLen;omega
 have d:=aA (fun w=>oV (s.extract 0 n) i w);have h1:(0:Int)<=(n:Int):=qo;have h2:(n:Int)<=(s.size:Int):=qo;clear i;go_enter func158,ntmps158;go_wp2_with fail;refine c.o.mono ?_;rintro e w' ⟨rfl,rfl⟩;go_wp2_with fail;refine(d.o w).mono ?_;rintro e w' ⟨rfl,rfl⟩;generalize eL (s.extract 0 n)=b at *
 cases b
 .have HE:Hid (bs (gC s.data.toList)=ByteArray.empty):=aA (by have:=a.o;rwa [iN qs] at this);clear a d c;exact rM
 .have HE:Hid (bs (gC s.data.toList)=s.extract 0 n):=aA (by have:=a.o;rwa [iP qs] at this);clear a d c;exact rM
theorem Hk(c:UInt8):fF c=(((decide (32<=(c.toNat:Int))&&decide ((c.toNat:Int)<=126))&&decide ((c.toNat:Int)≠34))&&decide ((c.toNat:Int)≠92)):=by
 unfold fF;have a:decide (32<=c.toNat)=decide (32<=(c.toNat:Int)):=decide_eq_decide.2 qo;have b:decide (c.toNat<=126)=decide ((c.toNat:Int)<=126):=decide_eq_decide.2 qo;have d:decide (c.toNat≠34)=decide ((c.toNat:Int)≠34):=decide_eq_decide.2 qo;have e:decide (c.toNat≠92)=decide ((c.toNat:Int)≠92):=decide_eq_decide.2 qo;rw[a,b,d,e]
theorem CM(c:UInt8)(w:World):Calls prog 204 #[.int .u8 (c.toNat:Int)] w fun e w'=>e=.returned (.bool (fF c))/\w=w':=by
 have a:=aA (Hk c);by_cases h1:32<=(c.toNat:Int)
 .have d1:decide ((c.toNat:Int) ≥ 32)=true:=dX h1;by_cases h2:(c.toNat:Int)<=126
  .have d2:decide ((c.toNat:Int)<=126)=true:=dX h2;by_cases h3:(c.toNat:Int)=34
   .have HE:Hid (fF c=false):=aA (by rw[a.o,dF (show ¬(c.toNat:Int)≠34 from fun h=>h h3),Bool.and_false];rfl);have d3:((c.toNat:Int) != 34)=false:=by rw[bne_eq_false_iff_eq];exact h3
    clear a h1 h2 h3;go_enter func204,ntmps204;exact rM
   .have d3:((c.toNat:Int) != 34)=true:=bne_iff_ne.2 h3;by_cases h4:(c.toNat:Int)=92
    .have HE:Hid (fF c=false):=aA (by rw[a.o,dF (show ¬(c.toNat:Int)≠92 from fun h=>h h4),Bool.and_false]);have d4:((c.toNat:Int) != 92)=false:=by rw[bne_eq_false_iff_eq];exact h4
     clear a h1 h2 h3 h4;go_enter func204,ntmps204;exact rM
    .have HE:Hid (fF c=true):=aA (by rw[a.o,dX h1,dX h2,dX h3,dX h4];rfl);have d4:((c.toNat:Int) != 92)=true:=bne_iff_ne.2 h4;clear a h1 h2 h3 h4;go_enter func204,ntmps204;exact rM
  .have d2:decide ((c.toNat:Int)<=126)=false:=dF h2;have HE:Hid (fF c=false):=aA (by rw[a.o,d2,Bool.and_false];rfl);clear a h1 h2;go_enter func204,ntmps204;exact rM
 .have d1:decide ((c.toNat:Int) ≥ 32)=false:=dF h1;have HE:Hid (fF c=false):=aA (by rw[a.o,dF h1];rfl);clear a h1;go_enter func204,ntmps204;exact rM
theorem Td{p:Prop}(h:p:=by
 go_wp2;go_ret2
 exact⟨by rw[HE.o];rfl,0,rfl⟩):p:=h
theorem NN(n:Int)(h1:0<=n)(h2:n<256):IntKind.u8.wrap n=n:=IntWalk.u8_in n ⟨h1,qo⟩
theorem Hl{c:UInt8}(h:bA c=true):fE c=(c.toNat:Int) - 48:=by unfold fE;rw[iP h]
theorem Hm{c:UInt8}(h:bA c=false)(h1:97<=(c.toNat:Int))(h2:(c.toNat:Int)<=102):fE c=(c.toNat:Int) - 97+10:=by
 unfold fE;rw[h,iN qe,dX (show 97<=c.toNat by omega),dX (show c.toNat<=102 by omega)];rfl
theorem TL{c:UInt8}(h:bA c=false)(h1:¬(97<=(c.toNat:Int)/\(c.toNat:Int)<=102)):fE c= -1:=by
 unfold fE;have:(decide (97<=c.toNat)&&decide (c.toNat<=102))=false:=by
  rw[Bool.eq_false_iff];intro h2;rw[Bool.and_eq_true,decide_eq_true_eq,decide_eq_true_eq] at h2;exact h1 ⟨qo,qo⟩
 rw[h,iN qe,this];rfl
theorem Ae(c:UInt8): -1<=fE c/\fE c<=15:=by
 cases a:bA c
 .by_cases h:97<=(c.toNat:Int)/\(c.toNat:Int)<=102
  .rw[Hm a h.1 h.2];omega
  .rw[TL a h];omega
 .rw[Hl a];have:=(eV c).1 a;omega
theorem zQ(c:UInt8)(w:World):Calls prog 238 #[.int .u8 (c.toNat:Int)] w fun e w'=>e=.returned (.int .i64 (fE c))/\w=w':=by
 have b:=aA (iV c w)
 cases a:bA c
 .rw[a] at b;by_cases h1:97<=(c.toNat:Int)
  .have d1:decide ((c.toNat:Int) ≥ 97)=true:=dX h1;by_cases h2:(c.toNat:Int)<=102
   .have d2:decide ((c.toNat:Int)<=102)=true:=dX h2;have HE:=aA (Hm a h1 h2);have q1:IntKind.u8.wrap ((c.toNat:Int) - 97)=(c.toNat:Int) - 97:=NN _ qo qo;have d:IntKind.i64.wrap ((c.toNat:Int) - 97)=(c.toNat:Int) - 97:=IntWalk.i64_in _ qo;have g:IntKind.i64.wrap ((c.toNat:Int) - 97+10)=(c.toNat:Int) - 97+10:=IntWalk.i64_in _ qo;clear a h1 h2;go_enter func238,ntmps238;go_wp2_with fail;refine b.o.mono ?_;rintro e w' ⟨rfl,rfl⟩;exact rM
   .have d2:decide ((c.toNat:Int)<=102)=false:=dF h2;have HE:=aA (TL a (fun h=>h2 h.2));clear a h1 h2;go_enter func238,ntmps238;go_wp2_with fail;refine b.o.mono ?_;rintro e w' ⟨rfl,rfl⟩;exact rM
  .have d1:decide ((c.toNat:Int) ≥ 97)=false:=dF h1;have HE:=aA (TL a (fun h=>h1 h.1));clear a h1;go_enter func238,ntmps238;go_wp2_with fail;refine b.o.mono ?_;rintro e w' ⟨rfl,rfl⟩;exact rM
 .rw[a] at b;have HE:=aA (Hl a);have f:=(eV c).1 a;have q1:IntKind.u8.wrap ((c.toNat:Int) - 48)=(c.toNat:Int) - 48:=NN _ qo qo;have d:IntKind.i64.wrap ((c.toNat:Int) - 48)=(c.toNat:Int) - 48:=IntWalk.i64_in _ qo;clear a;go_enter func238,ntmps238;go_wp2_with fail;refine b.o.mono ?_;rintro e w' ⟨rfl,rfl⟩;exact rM
def rB(l:lU):UInt8×Bool:=
 match l with
 |a::b::c::_=>
  if a.toNat=92/\0<=fE b/\0<=fE c then (UInt8.ofNat (16 * (fE b).toNat+(fE c).toNat), !fF (UInt8.ofNat (16 * (fE b).toNat+(fE c).toNat)))
  else (0,false)
 |_=>(0,false)
theorem Af(l:lU):IY l=if (rB l).2=true then some (rB l).1 else none:=by
 match l with
 | []=>rfl
 | [_]=>rfl
 | [_,_]=>rfl
 |a::b::c::r=>
  by_cases h:a.toNat=92/\0<=fE b/\0<=fE c
  .have d:rB (a::b::c::r)=(UInt8.ofNat (16 * (fE b).toNat+(fE c).toNat), !fF (UInt8.ofNat (16 * (fE b).toNat+(fE c).toNat))):=iP h;have e:IY (a::b::c::r)=if fF (UInt8.ofNat (16 * (fE b).toNat+(fE c).toNat))=true then none else some (UInt8.ofNat (16 * (fE b).toNat+(fE c).toNat)):=iP h
   rw[d,e]
   cases fF (UInt8.ofNat (16 * (fE b).toNat+(fE c).toNat))<;>rfl
  .have d:rB (a::b::c::r)=(0,false):=iN h;have e:IY (a::b::c::r)=none:=iN h;rw[d,e];rfl
theorem Cl{l:lU}(h:3<=l.length):∃r,l=l[0] ::l[1] ::l[2] ::r:=by
 match l,h with
 |a::b::c::r,_=>exact⟨r,rfl⟩
theorem KF{l:lU}(h:l.length<3):rB l=(0,false):=by
 match l,h with
 | [],_=>rfl
 | [_],_=>rfl
 | [_,_],_=>rfl
theorem Ag{s:bY}(h:3<=s.size):rB s.data.toList=if s[0].toNat=92/\0<=fE s[1]/\0<=fE s[2] then (UInt8.ofNat (16 * (fE s[1]).toNat+(fE s[2]).toNat), !fF (UInt8.ofNat (16 * (fE s[1]).toNat+(fE s[2]).toNat))) else (0,false):=by
 have d:3<=s.data.toList.length:=by rw[Array.length_toList];exact h
 obtain⟨r,e⟩:=Cl d;have a:s.data.toList[0]=s[0]:=rfl;have b:s.data.toList[1]=s[1]:=rfl;have c:s.data.toList[2]=s[2]:=rfl;rw[e,a,b,c];rfl
theorem Vl{s:bY}(h:3<=s.size)(a:¬(s[0].toNat=92/\0<=fE s[1]/\0<=fE s[2])):rB s.data.toList=(0,false):=by rw[Ag h,iN a]
theorem Cn(s:bY)(C:s.size<=maxLen)(w:World):Calls prog 205 #[.string s] w fun e w'=>e=.returned (.tuple #[.int .u8 ((rB s.data.toList).1.toNat:Int),.bool (rB s.data.toList).2])/\∃n,w'=w.drewN n:=by
 unfold maxLen at C;by_cases h3:3<=s.size
 .have d3:decide ((s.size:Int)<3)=false:=dF qo;obtain⟨d,c,H1,g⟩:=dI (Ag h3) (Vl h3) (zQ s[1] w) (zQ s[2] w);have y:=Ae s[1];have z:=Ae s[2];have i0:(0:Int)<(s.size:Int):=qo;have D:(1:Int)<(s.size:Int):=qo;have i2:(2:Int)<(s.size:Int):=qo;by_cases h0:s[0].toNat=92
  .have d0:((s[0].toNat:Int) != 92)=false:=by rw[bne_eq_false_iff_eq];omega
   have B:s.data.toList.length=s.size:=by rw[Array.length_toList];rfl
   clear B;obtain⟨a,i⟩:=xE (fE s[1]);obtain⟨b,j⟩:=xE (fE s[2]);have o:=aA i;have p:=aA j;rw[<-i] at y H1 d c;rw[<-j] at z g d c;clear i j;by_cases ha:a<0
   .have HE:=aA (c.o (fun h=>by omega));have da:decide (a<0)=true:=dX ha;clear d c h0;go_enter func205,ntmps205;go_wp2_with fail;refine H1.o.mono ?_;rintro e w' ⟨rfl,rfl⟩;exact Td
   .have da:decide (a<0)=false:=dF ha;by_cases r:b<0
    .have HE:=aA (c.o (fun h=>by omega));have A:decide (b<0)=true:=dX r;clear d c h0;go_enter func205,ntmps205;go_wp2_with fail;refine H1.o.mono ?_;rintro e w' ⟨rfl,rfl⟩;go_wp2_with fail;refine g.o.mono ?_;rintro e w' ⟨rfl,rfl⟩;exact Td
    .have A:decide (b<0)=false:=dF r;obtain⟨q,m⟩:=xE (UInt8.ofNat (16 * a.toNat+b.toNat));have k:(q.toNat:Int)=16 * a+b:=by
      have:q.toNat=16 * a.toNat+b.toNat:=by rw[m,UInt8.toNat_ofNat'];omega
      omega
     have HE:Hid (rB s.data.toList=(q, !fF q)):=aA (by rw[d.o,iP ⟨h0,qo,qo⟩,m]);have f:=fun w=>CM q w
     rw[k] at f;have f:=aA f;have x:Hid ((q.toNat:Int)=16 * a+b):=aA k;have q1:IntKind.i64.wrap (16 * a)=16 * a:=IntWalk.i64_in _ qo;have t:IntKind.i64.wrap (16 * a+b)=16 * a+b:=IntWalk.i64_in _ qo;have v:IntKind.u8.wrap (16 * a+b)=16 * a+b:=NN _ qo qo;clear d c h0 m k;go_enter func205,ntmps205;go_wp2_with fail;refine H1.o.mono ?_;rintro e w' ⟨rfl,rfl⟩;go_wp2_with fail;refine g.o.mono ?_;rintro e w' ⟨rfl,rfl⟩;go_wp2;rw[o.o] at q1 t v;rw[p.o] at t v;go_quiet ((go_at_call 238;exact Calls.quiet_of_same (Ny (zQ _ _))))
     rw[<-o.o,<-p.o];go_wp2_with fail;refine(f.o _).mono ?_;rintro e w' ⟨rfl,rfl⟩;go_wp2;go_ret2
     exact⟨by rw[HE.o,x.o];rfl,⟨nq,rfl⟩⟩
  .have HE:=aA (c.o (fun h=>h0 h.1));have d0:((s[0].toNat:Int) != 92)=true:=bne_iff_ne.2 qo;clear d c h0;go_enter func205,ntmps205;exact Td
 .have HE:=aA (KF (l:=s.data.toList) (by rw[Array.length_toList];show s.size<3;omega));have d3:decide ((s.size:Int)<3)=true:=dX qo;go_enter func205,ntmps205;exact Td
theorem XY(l:lU):strOfNums (l.map fun y=>(y.toNat:Int))=bs l:=by
 unfold strOfNums bs;rw[List.map_map]
 congr 2
 conv=>rhs;rw[<-List.map_id l]
 apply List.map_congr_left
 intro x _;simp
theorem XZ{w:World}{B n:Nat}{v:Value}{l:lU}(h:w.ownsRow B 5 1 v n (bF l))(d:l.length=n):
 (convert 75 9 v).run prog w=.ok (.string (bs l)) w:=by
 subst d;have h2:=h
 rcases h.2 with ⟨e,b⟩|⟨g,cap,cur,e,_⟩
 .subst e;have c:l=[]:=List.eq_nil_of_length_eq_zero b;subst c;exact run_convert_bytes_nil (P:=prog) w _ 5 underlying75 underlying5 0 0 _ underlying9
 .subst e;have:=run_convert_bytes_arg (P:=prog) w 75 5 underlying75 underlying5 g 0 l.length cap (l.map fun y=>(y.toNat:Int)) qs (fun i a=>by
   rw[Nat.zero_add,h2.cellAt i qo,OZ,gE a];simp[List.getD,a]) _ underlying9
  rwa [XY] at this
def oH(s:bY)(k:Nat)(out:lU):Prop:=jX s.data.toList=lX (s.data.toList.drop k).length (s.data.toList.drop k) out k
theorem GI(f:Nat):∀(g:Nat) (l:lU) (out:lU) (k:Nat),l.length<=f->l.length<=g->lX f l out k=lX g l out k:=by
 induction f with
 |zero=>
  intro g l out k b a;have:l=[]:=List.eq_nil_of_length_eq_zero qo;subst this
  cases g<;>rfl
 |succ f e=>
  intro g l out k b a
  cases l with
  |nil=>cases g<;>rfl
  |cons c r=>
   cases g with
   |zero=>simp at a
   |succ g=>
    simp only[List.length_cons] at b a;unfold lX;by_cases h1:c.toNat=34
    .rw[iP h1,iP h1]
    .rw[iN h1,iN h1];by_cases h2:fF c=true
     .rw[iP h2,iP h2];exact e g r _ _ qo qo
     .rw[iN h2,iN h2]
      cases IY (c::r) with
      |none=>rfl
      |some d=>exact e g _ _ _ (by rw[List.length_drop];omega) (by rw[List.length_drop];omega)
theorem Co(s:bY):oH s 1 []:=by
 unfold oH jX;exact GI _ _ _ _ _ (by rw[List.length_drop];omega) (lR _)
structure Hn (s:ByteArray) (k:Nat) (out:List UInt8) (c:UInt8):Prop where
 quote:c.toNat=34->jX s.data.toList=if 64<out.length then ([],0) else (out,k+1)
 plain:¬c.toNat=34->fF c=true->oH s (k+1) (out++[c])
 no:¬c.toNat=34->fF c=false->(rB (s.data.toList.drop k)).2=false->jX s.data.toList=([],0)
 odd:¬c.toNat=34->fF c=false->(rB (s.data.toList.drop k)).2=true->oH s (k+3) (out++[(rB (s.data.toList.drop k)).1])/\k+3<=s.size
theorem Oq{l:lU}(h:(rB l).2=true):3<=l.length:=by
 rcases Nat.lt_or_ge l.length 3 with h1|h1
 .rw[KF h1] at h;exact absurd h qe
 .exact h1
theorem Ho{s:bY}{k:Nat}{out:lU}(b:k<s.size)(h:oH s k out):Hn s k out s[k]:=by
 have d:s.data.toList.length=s.size:=by rw[Array.length_toList];rfl
 have c:k<s.data.toList.length:=by rw[d];exact b
 unfold oH at h;have a:s.data.toList.drop k=s[k] ::s.data.toList.drop (k+1):=List.drop_eq_getElem_cons c;have hlen:(s.data.toList.drop k).length=(s.data.toList.drop (k+1)).length+1:=by rw[List.length_drop,List.length_drop];omega
 rw[hlen] at h;have h3:=h;rw[a] at h3;unfold lX at h3;refine⟨fun h1=> ?_,fun h1 h2=> ?_,fun h1 h2 h4=> ?_,fun h1 h2 h4=> ?_⟩
 .rw[iP h1] at h3;exact h3
 .rw[iN h1,iP h2] at h3;exact h3
 .rw[iN h1,iN (by rw[h2];decide),<-a,Af,h4] at h3;exact h3
 .rw[iN h1,iN (by rw[h2];decide),<-a,Af,h4] at h3;have hle:=Oq h4;rw[List.length_drop] at hle;refine⟨?_,qo⟩;unfold oH;rw[h3];show lX _ (List.drop 2 (List.drop (k+1) s.data.toList)) _ _=_;rw[List.drop_drop,show k+1+2=k+3 by omega];exact GI _ _ _ _ _ (by rw[List.length_drop,List.length_drop];omega) (lR _)
theorem Ot{s:bY}{k:Nat}{out:lU}(a:¬k<s.size)(h:oH s k out):jX s.data.toList=([],0):=by
 have b:s.data.toList.length=s.size:=by rw[Array.length_toList];rfl
 unfold oH at h;rw[h,List.drop_of_length_le qo];rfl
set_option maxRecDepth 512 in
theorem yR(s:bY)(k:Nat)(b:k<=s.size):(s.extract k s.size).data.toList=s.data.toList.drop k:=by
 have h:(s.extract k s.size).data=s.data.extract k s.size:=ByteArray.data_extract;rw[h,Array.toList_extract];have a:s.data.toList.length=s.size:=by rw[Array.length_toList];rfl
 show (s.data.toList.drop k).take (s.size - k)=s.data.toList.drop k;exact List.take_of_length_le (by rw[List.length_drop,a];omega)
set_option maxRecDepth 3000 in
theorem YA(s:bY)(hs:s.size<=4096)(w:World):Calls prog 161 #[.string s] w fun e w'=>e=.returned (.tuple #[.string (bs (jX s.data.toList).1),.int .i64 ((jX s.data.toList).2:Nat)])/\Below w.heap.size w w':=by
 obtain⟨i0,hi,ae,af,ag⟩:=info_parts vC;obtain⟨W,X,Y,Z⟩:=dI hi ae af ag;clear hi ae af ag;have V:=aA (Co s);go_enter func161,ntmps161;go_wp2;go_loopw [4,5] (fun o i wr=>∃(k:Nat) (out:lU) (v:Value),v=o/\k<=s.size+1/\i=.int .i64 k/\Hid (oH s k out)/\Hid (out.length<=k)/\Hid (wr.ownsRow w.heap.size 5 1 v out.length (bF out))/\Hid (Below w.heap.size w wr)) (fun _ i _=>s.size - (intOf i).toNat)
 case atStart=>exact⟨1,[],_,rfl,qo,rfl,V,aA qs,aA (World.ownsRow_nil _ _ _ _),aA (Below.refl _ _)⟩
 case round=>
  clear V;obtain⟨k,out,v,rfl,hk,rfl,G,l,F,j⟩:=hrel;by_cases aa:k<s.size
  .have n:=aA (Ho aa G.o);obtain⟨A,c,rfl,-,-,-⟩:=lV F.o;have g:=aA (fun w=>CM s[k] w);clear G;by_cases h34:s[k].toNat=34
   .have d34:((s[k].toNat:Int)==34)=true:=bQ.2 qo;have q:=n.o.quote h34;have hx:=XZ F.o rfl;clear n g h34;by_cases h64:64<out.length
    .rw[iP h64] at q;have S:=aA q;have d64:decide ((out.length:Int) > 64)=true:=dX qo;clear q;go_wp2;go_ret2
     exact⟨by rw[S.o];rfl,j.o⟩
    .rw[iN h64] at q;have S:=aA q;have d64:decide ((out.length:Int) > 64)=false:=dF qo;have q1:IntKind.i64.wrap ((k:Int)+1)=(k:Int)+1:=IntWalk.i64_in _ qo;clear q;go_wp2;go_ret2
     exact⟨by rw[S.o];rfl,j.o⟩
   .have d34:((s[k].toNat:Int)==34)=false:=bN.2 qo;obtain⟨R,M,P⟩:=aY (n.o.plain h34) (n.o.no h34) (n.o.odd h34);clear n h34;by_cases E:fF s[k]=true
    .have T:=aA (R.o E);rw[E] at g;clear R M P E;have Q:=F;have r:=j;obtain⟨a,aj⟩:=xE wr;subst aj;have C:=Q.o.alloc (.cells #[.int .u8 (s[k].toNat:Int)] 5);have z:Sl (a.alloc (.cells #[.int .u8 (s[k].toNat:Int)] 5)) (a.heap.size+1) (some ⟨a.heap.size,0,none⟩) (bF [s[k]]):=Sl.laid a _ _ _ _ rfl;have y:=r.o.alloc r.o.size (.cells #[.int .u8 (s[k].toNat:Int)] 5);obtain⟨N,x,K,f⟩:=dI (tX [s[k]]) C z y;clear C z y;go_wp2_with fail;refine(g.o _).mono ?_;rintro e w' ⟨rfl,rfl⟩;clear g;go_wp2_with ((at_builtin;refine lS _ rfl (.tmp 27) (.tmp 31) 75 rfl w.heap.size 5 i0 (.int .u8 0) 1 1 underlying75 W.o X.o Y.o Z.o rfl qe _ out.length _ rfl x.o (a.heap.size+1) (some ⟨a.heap.size,0,none⟩) 1 1 (bF [s[k]]) rfl rfl K.o N.o (by unfold maxLen;have:=l.o;omega) (qA l.o) f.o.size ?_;intro v3 w3 D B U;have J:=aA (eA x.o f.o B (lR _) f.o.size);have O:=aA D;clear D B U))
     go_roundw
     case rel=>exact⟨k+1,out++[s[k]],_,rfl,qo,by go_num,T,aA (by rw[aL,List.length_singleton];have:=l.o;omega),aA (by rw[jB,aL];exact O.o),J⟩
     case measure=>simp[intOf];omega
    .have H:fF s[k]=false:=by simpa using E
     rw[H] at g;have ai:k<=s.size:=qo;have ad:(s.extract k s.size).size<=maxLen:=by rw[ByteArray.size_extract];unfold maxLen;omega
     have b:=fun w=>Cn (s.extract k s.size) ad w
     rw[yR s k ai] at b;obtain⟨b,t,m⟩:=aY b (M.o H) (P.o H);have i1:(0:Int)<=(k:Int):=qo;have i2:(k:Int)<=(s.size:Int):=qo;clear R M P E ad H
     rcases ab:rB (s.data.toList.drop k) with ⟨d,ok⟩
     rw[ab] at b t m;simp only at b t m;clear ab
     cases ok
     .have L:=aA (t.o qs);clear t m;go_wp2_with fail;refine(g.o _).mono ?_;rintro e w' ⟨rfl,rfl⟩;go_wp2_with fail;refine(b.o _).mono ?_;rintro e wd ⟨rfl,I,p⟩;have ah:=aA (gA j.o ⟨I,p⟩);clear b p;go_wp2;go_ret2
      exact⟨by rw[L.o];rfl,ah.o⟩
     .have T:=aA (m.o qs).1;have ak:k+3<=s.size:=(m.o qs).2;clear t m;go_wp2_with fail;refine(g.o _).mono ?_;rintro e w' ⟨rfl,rfl⟩;go_wp2_with fail;refine(b.o _).mono ?_;rintro e a ⟨rfl,I,p⟩;have Q:=aA (Gu F.o ⟨I,p⟩);have r:=aA (gA j.o ⟨I,p⟩);clear b p;have C:=Q.o.alloc (.cells #[.int .u8 (d.toNat:Int)] 5);have z:Sl (a.alloc (.cells #[.int .u8 (d.toNat:Int)] 5)) (a.heap.size+1) (some ⟨a.heap.size,0,none⟩) (bF [d]):=Sl.laid a _ _ _ _ rfl;have y:=r.o.alloc r.o.size (.cells #[.int .u8 (d.toNat:Int)] 5);obtain⟨N,x,K,f⟩:=dI (tX [d]) C z y;clear C z y;go_wp2_with ((at_builtin;refine lS _ rfl (.tmp 44) (.tmp 46) 75 rfl w.heap.size 5 i0 (.int .u8 0) 1 1 underlying75 W.o X.o Y.o Z.o rfl qe _ out.length _ rfl x.o (a.heap.size+1) (some ⟨a.heap.size,0,none⟩) 1 1 (bF [d]) rfl rfl K.o N.o (by unfold maxLen;have:=l.o;omega) (qA l.o) f.o.size ?_;intro v3 w3 D B U;have J:=aA (eA x.o f.o B (lR _) f.o.size);have O:=aA D;clear D B U))
      go_roundw
      case rel=>exact⟨k+3,out++[d],_,rfl,qo,by go_num,T,aA (by rw[aL,List.length_singleton];have:=l.o;omega),aA (by rw[jB,aL];exact O.o),J⟩
      case measure=>simp[intOf];omega
  .have L:=aA (Ot aa G.o);clear G;go_wp2;go_ret2
   exact⟨by rw[L.o];rfl,j.o⟩
theorem QCa{p:Prop}(h:p:=by
 intro t ht
 rcases List.mem_append.1 ht with ht|ht
 .exact h.place t ht
 .rw[List.mem_singleton] at ht;subst ht;exact⟨by show (0:Int)<=k;omega,by show (k:Int)<=4096;omega⟩):p:=h
theorem xB:∀(f:Nat) (l out:lU) (k:Nat),(lX f l out k).2<=k+l.length/\(lX f l out k).1.length<=64
 |0,_,_,_=>⟨Nat.zero_le _,by simp[lX]⟩
 |_+1,[],_,_=>⟨Nat.zero_le _,by simp[lX]⟩
 |f+1,c::r,out,k=>by
  unfold lX;by_cases h1:c.toNat=34
  .rw[iP h1];by_cases h2:64<out.length
   .rw[iP h2];exact⟨Nat.zero_le _,qs⟩
   .rw[iN h2];exact⟨by simp only[List.length_cons];omega,by show out.length<=64;omega⟩
  .rw[iN h1];by_cases h2:fF c=true
   .rw[iP h2];have:=xB f r (out++[c]) (k+1);exact⟨by simp only[List.length_cons];omega,this.2⟩
   .rw[iN h2]
    cases e:IY (c::r) with
    |none=>exact⟨Nat.zero_le _,qs⟩
    |some d=>
     have:=xB f (r.drop 2) (out++[d]) (k+3);rw[List.length_drop] at this;have h3:2<=r.length:=by
      unfold IY at e
      rcases r with _|⟨a,_|⟨b,t⟩⟩
      .simp at e
      .simp at e
      .simp
     exact⟨by simp only[List.length_cons];omega,this.2⟩
theorem Ou(l:lU):(jX l).2<=l.length+1/\(jX l).1.length<=64:=by
 unfold jX;have:=xB l.length (l.drop 1) [] 1;rw[List.length_drop] at this;exact⟨qo,this.2⟩
theorem Hp{l:lU}(h:0<l.length):(jX l).2<=l.length:=by
 unfold jX;have:=xB l.length (l.drop 1) [] 1;rw[List.length_drop] at this;omega
theorem NO(p:UInt8->Bool)(l:lU):cL p l<=l.length:=Hj p l
theorem rZ(neg:Bool)(l:lU):(eB neg l).2<=l.length/\bJ (eB neg l).1:=by
 unfold eB;dsimp only;have:=NO bA l;have h0:bJ 0:=by unfold bJ;omega
 split
 .exact⟨Nat.zero_le _,h0⟩
 .cases neg
  .rw[iN qe];split
   .exact⟨this,by unfold bJ;omega⟩
   .exact⟨Nat.zero_le _,h0⟩
  .rw[iP rfl];split
   .exact⟨this,by unfold bJ;omega⟩
   .exact⟨Nat.zero_le _,h0⟩
theorem zS(l:lU):(gC l).length<=l.length/\(gC l).length<=16:=by
 unfold gC;dsimp only;split
 .rename_i h;have:=(Ha h).2;rw[cI] at this;exact⟨List.length_take_le' _ _,this⟩
 .exact⟨Nat.zero_le _,qs⟩
structure Cp (l:List UInt8) (t:Tok) (n:Nat):Prop where
 le:n<=l.length
 aDG:n≠0->1<=t.aDG/\t.aDG<=6
 size:t.str.size<=4096
 num:bJ t.num
 place:t.at_=0
theorem qN(l:lU)(i:l.length<=4096):Cp l (bX l).1 (bX l).2:=by
 have h0:bJ 0:=by unfold bJ;omega
 have a:(bs []).size<=4096:=by rw[cI];simp
 rcases l with _|⟨c,r⟩
 .exact⟨Nat.zero_le _,fun h=>absurd rfl h,a,h0,rfl⟩
 .unfold bX;dsimp only;have e:=zS (c::r);have j:=zS r;have b:=rZ false (c::r);have d:=rZ false r;have f:=rZ true r;have k:=Ou (c::r);have g:=Hp (l:=c::r) qs;simp only[List.length_cons] at *;split
  .exact⟨e.1,fun _=>⟨qs,qs⟩,by show (bs (gC (c::r))).size<=4096;rw[cI];omega,h0,rfl⟩
  split
  .exact⟨b.1,fun _=>⟨qs,qs⟩,a,b.2,rfl⟩
  split
  .split
   .exact⟨Nat.zero_le _,fun h=>absurd rfl h,a,h0,rfl⟩
   .exact⟨by show (eB true r).2+1<=r.length+1;omega,fun _=>⟨qs,qs⟩,a,f.2,rfl⟩
  split
  .split
   .exact⟨Nat.zero_le _,fun h=>absurd rfl h,a,d.2,rfl⟩
   .exact⟨by show (eB false r).2+1<=r.length+1;omega,fun _=>⟨qs,qs⟩,a,d.2,rfl⟩
  split
  .refine⟨by show (if gC r=[] then 0 else (gC r).length+1)<=r.length+1;split<;>omega,fun _=>⟨qs,qs⟩,by show (bs (gC r)).size<=4096;rw[cI];omega,h0,rfl⟩
  split
  .exact⟨g,fun _=>⟨qs,qs⟩,by show (bs (jX (c::r)).1).size<=4096;rw[cI];omega,h0,rfl⟩
  split
  .exact⟨qs,fun _=>⟨qs,qs⟩,by show (bs [c]).size<=4096;rw[cI];simp,h0,rfl⟩
  .exact⟨Nat.zero_le _,fun h=>absurd rfl h,a,h0,rfl⟩
structure pQ (out:List Tok) (k:Nat):Prop where
 len:out.length<=k
 size:∀t∈out,t.str.size<=4096
 num:∀t∈out,bJ t.num
 place:∀t∈out,0<=t.at_/\t.at_<=4096
 aDG:∀t∈out,1<=t.aDG/\t.aDG<=6
theorem pQ.nil(k:Nat):pQ [] k:=⟨Nat.zero_le _,qs,qs,qs,qs⟩
theorem pQ.snoc{out:List Tok}{k:Nat}(h:pQ out k){l:lU}(d:k+l.length<=4096)(c:(bX l).2≠0):pQ (out++[{(bX l).1 with at_:=(k:Int)}]) (k+(bX l).2):=by
 have a:=qN l qo;have b:=a.aDG c;refine⟨by rw[aL,List.length_singleton];have:=h.len;omega,?_,?_,?_,?_⟩
 .intro t ht
  rcases List.mem_append.1 ht with ht|ht
  .exact h.size t ht
  .rw[List.mem_singleton] at ht;subst ht;exact a.size
 .intro t ht
  rcases List.mem_append.1 ht with ht|ht
  .exact h.num t ht
  .rw[List.mem_singleton] at ht;subst ht;exact a.num
 .exact QCa
 .intro t ht
  rcases List.mem_append.1 ht with ht|ht
  .exact h.aDG t ht
  .rw[List.mem_singleton] at ht;subst ht;exact b
theorem pQ.aE2{out:List Tok}{k:Nat}(h:pQ out k)(c:k<=4096):Toks (out++[⟨7,k,0,bs []⟩]):=by
 have d:=h.len;refine⟨by rw[aL,List.length_singleton];omega,?_,?_,?_,?_,?_⟩
 .intro i t ht b;rw[aL,List.length_singleton]
  rcases Nat.lt_or_ge i out.length with h1|h1
  .omega
  .rw[List.getElem?_append_right h1] at ht
   rcases a:i - out.length with _|j
   .rw[a] at ht;simp at ht;subst ht;exact absurd rfl b
   .rw[a] at ht;simp at ht
 .intro t ht
  rcases List.mem_append.1 ht with ht|ht
  .exact h.size t ht
  .rw[List.mem_singleton] at ht;subst ht;show (bs []).size<=4096;rw[cI];simp
 .intro t ht
  rcases List.mem_append.1 ht with ht|ht
  .exact h.num t ht
  .rw[List.mem_singleton] at ht;subst ht;show bJ 0;unfold bJ;omega
 .exact QCa
 .intro t ht
  rcases List.mem_append.1 ht with ht|ht
  .have:=h.aDG t ht;omega
  .rw[List.mem_singleton] at ht;subst ht;exact⟨qs,qs⟩
theorem zT:∀(f:Nat) (l:lU) (k:Nat) (out:List Tok),k+l.length<=4096->pQ out k->(jN f l k out).2.1=0->Toks (jN f l k out).1/\0<(jN f l k out).1.length
 |0,l,k,out,_,_,h=>absurd h (by simp[jN])
 |f+1,[],k,out,hk,ha,_=>by
  simp only[jN];exact⟨ha.aE2 (by simpa using hk),qs⟩
 |f+1,c::r,k,out,hk,ha,h=>by
  simp only[List.length_cons] at hk;unfold jN at h ⊢;dsimp only at h ⊢;by_cases h1:c.toNat=32\/c.toNat=10
  .rw[iP h1] at h ⊢;exact zT f r (k+1) out qo ⟨qA ha.len,ha.size,ha.num,ha.place,ha.aDG⟩ h
  .rw[iN h1] at h ⊢;by_cases h2:(bX (c::r)).2=0
   .rw[iP h2] at h;exact absurd h qs
   .rw[iN h2] at h ⊢;have a:=qN (c::r) (by simp only[List.length_cons];omega);have hle:=a.le;simp only[List.length_cons] at hle;exact zT f _ _ _ (by rw[List.length_drop];simp only[List.length_cons];omega) (ha.snoc (by simp only[List.length_cons];omega) h2) h
theorem TM{l:lU}(h:(jR l).2.1=0):Toks (jR l).1/\0<(jR l).1.length:=by
 unfold jR at h ⊢;by_cases h1:4096<l.length
 .rw[iP h1] at h;exact absurd h qs
 .rw[iN h1] at h ⊢;exact zT _ _ _ _ qo (pQ.nil 0) h
section
open Go.Lib
def mX(a:Nat)(c:UInt8):Nat:=a * 10+(c.toNat - 48)
theorem Hq:∀(l:lU) (a:Nat),a<=l.foldl mX a
 | [],a=>lR _
 |c::l,a=>lT (show a<=mX a c by unfold mX;omega) (Hq l _)
theorem PH:∀(l:lU) (a:Nat),(∀c∈l,bA c=true)->a<18446744073709551616->
 parseUint10 a l=if l.foldl mX a<18446744073709551616 then .ok (l.foldl mX a) else .range
 | [],a,_,ha=>by
   show NumEnd.ok a=if a<18446744073709551616 then NumEnd.ok a else NumEnd.range
   rw[iP ha]
 |c::l,a,hd,ha=>by
  have d:=(eV c).1 (hd c qs);show parseUint10 a (c::l)=if l.foldl mX (mX a c)<18446744073709551616 then NumEnd.ok (l.foldl mX (mX a c)) else NumEnd.range
  unfold parseUint10;rw[iP qo];have b:mX a c=a * 10+(c.toNat - 48):=rfl;have e:=Hq l (mX a c);by_cases h1:1844674407370955162<=a
  .rw[iP h1,iN qo]
  .rw[iN h1];by_cases h2:18446744073709551616<=a * 10+(c.toNat - 48)
   .rw[iP h2,iN qo]
   .rw[iN h2,<-b];exact PH l _ (fun c h=>hd c (by simp[h])) qo
theorem zU:∀(l:lU),∀c∈l.take (cL bA l),bA c=true
 | [],c,a=>by simp[cL] at a
 |x::l,c,a=>by
  unfold cL at a;by_cases b:bA x=true
  .rw[List.takeWhile_cons_of_pos b,List.length_cons,List.take_succ_cons] at a
   rcases List.mem_cons.1 a with rfl|a
   .exact b
   .exact zU l c a
  .rw[List.takeWhile_cons_of_neg b] at a;simp at a
theorem CN{l:lU}(h:¬(cL bA l=0\/(1<cL bA l/\l.head?=some 48))):l.take (cL bA l)≠[]:=by
 intro e;have h1:=congrArg List.length e;rw[List.length_take] at h1;have:=NO bA l;simp only[List.length_nil] at h1;exact h (.inl qo)
theorem Ah{l:lU}(a:∀c∈l,bA c=true)(b:l≠[]):parseMag l=if qC l<18446744073709551616 then .ok (qC l) else .range:=by
 unfold parseMag;rw[iN b,PH l 0 a qo];rfl
theorem zW{l:lU}(a:∀c∈l,bA c=true)(b:l≠[]):atoiAll l=if qC l<=9223372036854775807 then .ok (qC l:Int) else .range:=by
 rcases l with _|⟨c,r⟩
 .exact absurd rfl b
 .have d:=(eV c).1 (a c qs);rw[atoiAll_plain c r qo qo,Ah a b];by_cases h1:qC (c::r)<18446744073709551616
  .rw[iP h1];simp only[signless];by_cases h2:qC (c::r)<=9223372036854775807
   .rw[iP h2,iN qo]
   .rw[iN h2,iP qo]
  .rw[iN h1,iN qo];rfl
theorem JD{l:lU}(a:∀c∈l,bA c=true)(b:l≠[]):atoiAll (45 ::l)=if qC l<=9223372036854775808 then .ok (-(qC l:Int)) else .range:=by
 rw[atoiAll_minus,Ah a b];by_cases h1:qC l<18446744073709551616
 .rw[iP h1];simp only[signed];by_cases h2:qC l<=9223372036854775808
  .rw[iP h2,iN qo]
  .rw[iN h2,iP qo]
 .rw[iN h1,iN qo];rfl
theorem Vm{neg:Bool}{l:lU}(h:cL bA l=0\/(1<cL bA l/\l.head?=some 48)):eB neg l=(0,0):=by
 unfold eB;dsimp only;rw[iP h]
theorem Vn{neg:Bool}{l:lU}{v:Int}(h:¬(cL bA l=0\/(1<cL bA l/\l.head?=some 48)))(ha:atoiAll ((if neg=true then [45] else [])++l.take (cL bA l))=.ok v):eB neg l=(v,cL bA l):=by
 have a:=zU l;have b:=CN h;unfold eB;dsimp only;rw[iN h]
 cases neg
 .rw[iN qe,List.nil_append,zW a b] at ha;rw[iN qe];split at ha
  .rename_i h2;injection ha with ha;rw[iP h2,ha]
  .cases ha
 .rw[iP rfl] at ha;rw[show[45]++l.take (cL bA l)=45 ::l.take (cL bA l) from rfl,JD a b] at ha;rw[iP rfl];split at ha
  .rename_i h2;injection ha with ha;rw[iP h2,ha]
  .cases ha
theorem Cq{neg:Bool}{l:lU}(h:¬(cL bA l=0\/(1<cL bA l/\l.head?=some 48)))(ha:atoiAll ((if neg=true then [45] else [])++l.take (cL bA l))=.range):eB neg l=(0,0):=by
 have a:=zU l;have b:=CN h;unfold eB;dsimp only;rw[iN h]
 cases neg
 .rw[iN qe,List.nil_append,zW a b] at ha;rw[iN qe];split at ha
  .cases ha
  .rename_i h2;rw[iN h2]
 .rw[iP rfl] at ha;rw[show[45]++l.take (cL bA l)=45 ::l.take (cL bA l) from rfl,JD a b] at ha;rw[iP rfl];split at ha
  .cases ha
  .rename_i h2;rw[iN h2]
theorem KG{neg:Bool}{l:lU}(h:¬(cL bA l=0\/(1<cL bA l/\l.head?=some 48))):atoiAll ((if neg=true then [45] else [])++l.take (cL bA l))≠Lib.NumEnd.syntax:=by
 have a:=zU l;have b:=CN h
 cases neg
 .rw[iN qe,List.nil_append,zW a b];split<;>simp
 .rw[iP rfl,show[45]++l.take (cL bA l)=45 ::l.take (cL bA l) from rfl,JD a b];split<;>simp
end
end Go.Proofs.YtheabjeppmdmiaaGreatDoor
