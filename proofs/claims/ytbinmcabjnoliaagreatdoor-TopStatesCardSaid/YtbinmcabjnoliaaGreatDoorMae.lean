/- Lemmas. -/
import Derived.Test.YtbinmcabjnoliaaGreatDoorMad
import Derived.KernelRfl
import Derived.Laws.Cover2
import Derived.Laws.StructEq
import Derived.Laws.Tables
import Derived.Laws.BytesArg
import Derived.Lib.AtoiAllCases
import Derived.Test.YtbinmcabjnoliaaGreatDoorShelf
namespace Go.Proofs.YtbinmcabjnoliaaGreatDoor
open Go.RowKit
set_option linter.unusedVariables false
set_option linter.unusedSimpArgs false
set_option maxHeartbeats 16000000
open _root_.Go.Proofs.Tryz
set_option maxRecDepth 20000
theorem Rl{p:Prop}(h:p:=by
 go_wp2;go_ret2
 exact⟨by rw[HE.o];rfl,0,rfl⟩):p:=h
theorem MJ(n:Int)(h1:0<=n)(h2:n<256):IntKind.u8.wrap n=n:=IntWalk.u8_in n ⟨h1,qo⟩
theorem Gb{c:UInt8}(h:bA c=true):fB c=(c.toNat:Int) - 48:=by unfold fB;rw[iP h]
theorem Gc{c:UInt8}(h:bA c=false)(h1:97<=(c.toNat:Int))(h2:(c.toNat:Int)<=102):fB c=(c.toNat:Int) - 97+10:=by
 unfold fB;rw[h,iN qe,dX (show 97<=c.toNat by omega),dX (show c.toNat<=102 by omega)];rfl
theorem SM{c:UInt8}(h:bA c=false)(h1:¬(97<=(c.toNat:Int)/\(c.toNat:Int)<=102)):fB c= -1:=by
 unfold fB;have:(decide (97<=c.toNat)&&decide (c.toNat<=102))=false:=by
  rw[Bool.eq_false_iff];intro h2;rw[Bool.and_eq_true,decide_eq_true_eq,decide_eq_true_eq] at h2;exact h1 ⟨qo,qo⟩
 rw[h,iN qe,this];rfl
theorem ZF(c:UInt8): -1<=fB c/\fB c<=15:=by
 cases a:bA c
 .by_cases h:97<=(c.toNat:Int)/\(c.toNat:Int)<=102
  .rw[Gc a h.1 h.2];omega
  .rw[SM a h];omega
 .rw[Gb a];have:=(eT c).1 a;omega
theorem zK(c:UInt8)(w:World):Calls prog 242 #[.int .u8 (c.toNat:Int)] w fun e w'=>e=.returned (.int .i64 (fB c))/\w=w':=by
 have b:=aA (iQ c w)
 cases a:bA c
 .rw[a] at b;by_cases h1:97<=(c.toNat:Int)
  .have d1:decide ((c.toNat:Int) ≥ 97)=true:=dX h1;by_cases h2:(c.toNat:Int)<=102
   .have d2:decide ((c.toNat:Int)<=102)=true:=dX h2;have HE:=aA (Gc a h1 h2);have q1:IntKind.u8.wrap ((c.toNat:Int) - 97)=(c.toNat:Int) - 97:=MJ _ qo qo;have d:IntKind.i64.wrap ((c.toNat:Int) - 97)=(c.toNat:Int) - 97:=IntWalk.i64_in _ qo;have g:IntKind.i64.wrap ((c.toNat:Int) - 97+10)=(c.toNat:Int) - 97+10:=IntWalk.i64_in _ qo;clear a h1 h2;go_enter func242,ntmps242;go_wp2_with fail;refine b.o.mono ?_;rintro e w' ⟨rfl,rfl⟩;exact rC
   .have d2:decide ((c.toNat:Int)<=102)=false:=dF h2;have HE:=aA (SM a (fun h=>h2 h.2));clear a h1 h2;go_enter func242,ntmps242;go_wp2_with fail;refine b.o.mono ?_;rintro e w' ⟨rfl,rfl⟩;exact rC
  .have d1:decide ((c.toNat:Int) ≥ 97)=false:=dF h1;have HE:=aA (SM a (fun h=>h1 h.1));clear a h1;go_enter func242,ntmps242;go_wp2_with fail;refine b.o.mono ?_;rintro e w' ⟨rfl,rfl⟩;exact rC
 .rw[a] at b;have HE:=aA (Gb a);have f:=(eT c).1 a;have q1:IntKind.u8.wrap ((c.toNat:Int) - 48)=(c.toNat:Int) - 48:=MJ _ qo qo;have d:IntKind.i64.wrap ((c.toNat:Int) - 48)=(c.toNat:Int) - 48:=IntWalk.i64_in _ qo;clear a;go_enter func242,ntmps242;go_wp2_with fail;refine b.o.mono ?_;rintro e w' ⟨rfl,rfl⟩;exact rC
def qQ(l:lU):UInt8×Bool:=
 match l with
 |a::b::c::_=>
  if a.toNat=92/\0<=fB b/\0<=fB c then (UInt8.ofNat (16 * (fB b).toNat+(fB c).toNat), !fC (UInt8.ofNat (16 * (fB b).toNat+(fB c).toNat)))
  else (0,false)
 |_=>(0,false)
theorem ZG(l:lU):II l=if (qQ l).2=true then some (qQ l).1 else none:=by
 match l with
 | []=>rfl
 | [_]=>rfl
 | [_,_]=>rfl
 |a::b::c::r=>
  by_cases h:a.toNat=92/\0<=fB b/\0<=fB c
  .have d:qQ (a::b::c::r)=(UInt8.ofNat (16 * (fB b).toNat+(fB c).toNat), !fC (UInt8.ofNat (16 * (fB b).toNat+(fB c).toNat))):=iP h;have e:II (a::b::c::r)=if fC (UInt8.ofNat (16 * (fB b).toNat+(fB c).toNat))=true then none else some (UInt8.ofNat (16 * (fB b).toNat+(fB c).toNat)):=iP h
   rw[d,e]
   cases fC (UInt8.ofNat (16 * (fB b).toNat+(fB c).toNat))<;>rfl
  .have d:qQ (a::b::c::r)=(0,false):=iN h;have e:II (a::b::c::r)=none:=iN h;rw[d,e];rfl
theorem Bj{l:lU}(h:3<=l.length):∃r,l=l[0] ::l[1] ::l[2] ::r:=by
 match l,h with
 |a::b::c::r,_=>exact⟨r,rfl⟩
theorem JO{l:lU}(h:l.length<3):qQ l=(0,false):=by
 match l,h with
 | [],_=>rfl
 | [_],_=>rfl
 | [_,_],_=>rfl
theorem ZH{s:bY}(h:3<=s.size):qQ s.data.toList=if s[0].toNat=92/\0<=fB s[1]/\0<=fB s[2] then (UInt8.ofNat (16 * (fB s[1]).toNat+(fB s[2]).toNat), !fC (UInt8.ofNat (16 * (fB s[1]).toNat+(fB s[2]).toNat))) else (0,false):=by
 have d:3<=s.data.toList.length:=by rw[Array.length_toList];exact h
 obtain⟨r,e⟩:=Bj d;have a:s.data.toList[0]=s[0]:=rfl;have b:s.data.toList[1]=s[1]:=rfl;have c:s.data.toList[2]=s[2]:=rfl;rw[e,a,b,c];rfl
theorem Tw{s:bY}(h:3<=s.size)(a:¬(s[0].toNat=92/\0<=fB s[1]/\0<=fB s[2])):qQ s.data.toList=(0,false):=by rw[ZH h,iN a]
theorem Bk(s:bY)(C:s.size<=maxLen)(w:World):Calls prog 212 #[.string s] w fun e w'=>e=.returned (.tuple #[.int .u8 ((qQ s.data.toList).1.toNat:Int),.bool (qQ s.data.toList).2])/\∃n,w'=w.drewN n:=by
 unfold maxLen at C;by_cases h3:3<=s.size
 .have d3:decide ((s.size:Int)<3)=false:=dF qo;obtain⟨d,c,H1,g⟩:=dG (ZH h3) (Tw h3) (zK s[1] w) (zK s[2] w);have y:=ZF s[1];have z:=ZF s[2];have i0:(0:Int)<(s.size:Int):=qo;have D:(1:Int)<(s.size:Int):=qo;have i2:(2:Int)<(s.size:Int):=qo;by_cases h0:s[0].toNat=92
  .have d0:((s[0].toNat:Int) != 92)=false:=by rw[bne_eq_false_iff_eq];omega
   have B:s.data.toList.length=s.size:=by rw[Array.length_toList];rfl
   clear B;obtain⟨a,i⟩:=xE (fB s[1]);obtain⟨b,j⟩:=xE (fB s[2]);have o:=aA i;have p:=aA j;rw[<-i] at y H1 d c;rw[<-j] at z g d c;clear i j;by_cases ha:a<0
   .have HE:=aA (c.o (fun h=>by omega));have da:decide (a<0)=true:=dX ha;clear d c h0;go_enter func212,ntmps212;go_wp2_with fail;refine H1.o.mono ?_;rintro e w' ⟨rfl,rfl⟩;exact Rl
   .have da:decide (a<0)=false:=dF ha;by_cases r:b<0
    .have HE:=aA (c.o (fun h=>by omega));have A:decide (b<0)=true:=dX r;clear d c h0;go_enter func212,ntmps212;go_wp2_with fail;refine H1.o.mono ?_;rintro e w' ⟨rfl,rfl⟩;go_wp2_with fail;refine g.o.mono ?_;rintro e w' ⟨rfl,rfl⟩;exact Rl
    .have A:decide (b<0)=false:=dF r;obtain⟨q,m⟩:=xE (UInt8.ofNat (16 * a.toNat+b.toNat));have k:(q.toNat:Int)=16 * a+b:=by
      have:q.toNat=16 * a.toNat+b.toNat:=by rw[m,UInt8.toNat_ofNat'];omega
      omega
     have HE:Hid (qQ s.data.toList=(q, !fC q)):=aA (by rw[d.o,iP ⟨h0,qo,qo⟩,m]);have f:=fun w=>CD q w
     rw[k] at f;have f:=aA f;have x:Hid ((q.toNat:Int)=16 * a+b):=aA k;have q1:IntKind.i64.wrap (16 * a)=16 * a:=IntWalk.i64_in _ qo;have t:IntKind.i64.wrap (16 * a+b)=16 * a+b:=IntWalk.i64_in _ qo;have v:IntKind.u8.wrap (16 * a+b)=16 * a+b:=MJ _ qo qo;clear d c h0 m k;go_enter func212,ntmps212;go_wp2_with fail;refine H1.o.mono ?_;rintro e w' ⟨rfl,rfl⟩;go_wp2_with fail;refine g.o.mono ?_;rintro e w' ⟨rfl,rfl⟩;go_wp2;rw[o.o] at q1 t v;rw[p.o] at t v;go_quiet ((go_at_call 242;exact Calls.quiet_of_same (Ml (zK _ _))))
     rw[<-o.o,<-p.o];go_wp2_with fail;refine(f.o _).mono ?_;rintro e w' ⟨rfl,rfl⟩;go_wp2;go_ret2
     exact⟨by rw[HE.o,x.o];rfl,⟨nq,rfl⟩⟩
  .have HE:=aA (c.o (fun h=>h0 h.1));have d0:((s[0].toNat:Int) != 92)=true:=bne_iff_ne.2 qo;clear d c h0;go_enter func212,ntmps212;exact Rl
 .have HE:=aA (JO (l:=s.data.toList) (by rw[Array.length_toList];show s.size<3;omega));have d3:decide ((s.size:Int)<3)=true:=dX qo;go_enter func212,ntmps212;exact Rl
theorem WZ(l:lU):strOfNums (l.map fun y=>(y.toNat:Int))=bs l:=by
 unfold strOfNums bs;rw[List.map_map]
 congr 2
 conv=>rhs;rw[<-List.map_id l]
 apply List.map_congr_left
 intro x _;simp
theorem XA{w:World}{B n:Nat}{v:Value}{l:lU}(h:w.ownsRow B 5 1 v n (bF l))(d:l.length=n):
 (convert 83 9 v).run prog w=.ok (.string (bs l)) w:=by
 subst d;have h2:=h
 rcases h.2 with ⟨e,b⟩|⟨g,cap,cur,e,_⟩
 .subst e;have c:l=[]:=List.eq_nil_of_length_eq_zero b;subst c;exact run_convert_bytes_nil (P:=prog) w _ 5 underlying83 underlying5 0 0 _ underlying9
 .subst e;have:=run_convert_bytes_arg (P:=prog) w 83 5 underlying83 underlying5 g 0 l.length cap (l.map fun y=>(y.toNat:Int)) qs (fun i a=>by
   rw[Nat.zero_add,h2.cellAt i qo,NX,gE a];simp[List.getD,a]) _ underlying9
  rwa [WZ] at this
def nZ(s:bY)(k:Nat)(out:lU):Prop:=jR s.data.toList=lO (s.data.toList.drop k).length (s.data.toList.drop k) out k
theorem FP(f:Nat):∀(g:Nat) (l:lU) (out:lU) (k:Nat),l.length<=f->l.length<=g->lO f l out k=lO g l out k:=by
 induction f with
 |zero=>
  intro g l out k b a;have:l=[]:=List.eq_nil_of_length_eq_zero qo;subst this
  cases g<;>rfl
 |succ f e=>
  intro g l out k b a
  cases l with
  |nil=>cases g<;>rfl
  |cons c r=>
   cases g with
   |zero=>simp at a
   |succ g=>
    simp only[List.length_cons] at b a;unfold lO;by_cases h1:c.toNat=34
    .rw[iP h1,iP h1]
    .rw[iN h1,iN h1];by_cases h2:fC c=true
     .rw[iP h2,iP h2];exact e g r _ _ qo qo
     .rw[iN h2,iN h2]
      cases II (c::r) with
      |none=>rfl
      |some d=>exact e g _ _ _ (by rw[List.length_drop];omega) (by rw[List.length_drop];omega)
theorem Bl(s:bY):nZ s 1 []:=by
 unfold nZ jR;exact FP _ _ _ _ _ (by rw[List.length_drop];omega) (lR _)
structure Gd (s:ByteArray) (k:Nat) (out:List UInt8) (c:UInt8):Prop where
 quote:c.toNat=34->jR s.data.toList=if 64<out.length then ([],0) else (out,k+1)
 plain:¬c.toNat=34->fC c=true->nZ s (k+1) (out++[c])
 no:¬c.toNat=34->fC c=false->(qQ (s.data.toList.drop k)).2=false->jR s.data.toList=([],0)
 odd:¬c.toNat=34->fC c=false->(qQ (s.data.toList.drop k)).2=true->nZ s (k+3) (out++[(qQ (s.data.toList.drop k)).1])/\k+3<=s.size
theorem Mz{l:lU}(h:(qQ l).2=true):3<=l.length:=by
 rcases Nat.lt_or_ge l.length 3 with h1|h1
 .rw[JO h1] at h;exact absurd h qe
 .exact h1
theorem Ge{s:bY}{k:Nat}{out:lU}(b:k<s.size)(h:nZ s k out):Gd s k out s[k]:=by
 have d:s.data.toList.length=s.size:=by rw[Array.length_toList];rfl
 have c:k<s.data.toList.length:=by rw[d];exact b
 unfold nZ at h;have a:s.data.toList.drop k=s[k] ::s.data.toList.drop (k+1):=List.drop_eq_getElem_cons c;have hlen:(s.data.toList.drop k).length=(s.data.toList.drop (k+1)).length+1:=by rw[List.length_drop,List.length_drop];omega
 rw[hlen] at h;have h3:=h;rw[a] at h3;unfold lO at h3;refine⟨fun h1=> ?_,fun h1 h2=> ?_,fun h1 h2 h4=> ?_,fun h1 h2 h4=> ?_⟩
 .rw[iP h1] at h3;exact h3
 .rw[iN h1,iP h2] at h3;exact h3
 .rw[iN h1,iN (by rw[h2];decide),<-a,ZG,h4] at h3;exact h3
 .rw[iN h1,iN (by rw[h2];decide),<-a,ZG,h4] at h3;have hle:=Mz h4;rw[List.length_drop] at hle;refine⟨?_,qo⟩;unfold nZ;rw[h3];show lO _ (List.drop 2 (List.drop (k+1) s.data.toList)) _ _=_;rw[List.drop_drop,show k+1+2=k+3 by omega];exact FP _ _ _ _ _ (by rw[List.length_drop,List.length_drop];omega) (lR _)
theorem Na{s:bY}{k:Nat}{out:lU}(a:¬k<s.size)(h:nZ s k out):jR s.data.toList=([],0):=by
 have b:s.data.toList.length=s.size:=by rw[Array.length_toList];rfl
 unfold nZ at h;rw[h,List.drop_of_length_le qo];rfl
set_option maxRecDepth 512 in
theorem yJ(s:bY)(k:Nat)(b:k<=s.size):(s.extract k s.size).data.toList=s.data.toList.drop k:=by
 have h:(s.extract k s.size).data=s.data.extract k s.size:=ByteArray.data_extract;rw[h,Array.toList_extract];have a:s.data.toList.length=s.size:=by rw[Array.length_toList];rfl
 show (s.data.toList.drop k).take (s.size - k)=s.data.toList.drop k;exact List.take_of_length_le (by rw[List.length_drop,a];omega)
set_option maxRecDepth 3000 in
theorem XB(s:bY)(hs:s.size<=4096)(w:World):Calls prog 166 #[.string s] w fun e w'=>e=.returned (.tuple #[.string (bs (jR s.data.toList).1),.int .i64 ((jR s.data.toList).2:Nat)])/\Below w.heap.size w w':=by
 obtain⟨i0,hi,ae,af,ag⟩:=info_parts uV;obtain⟨W,X,Y,Z⟩:=dG hi ae af ag;clear hi ae af ag;have V:=aA (Bl s);go_enter func166,ntmps166;go_wp2;go_loopw [4,5] (fun o i wr=>∃(k:Nat) (out:lU) (v:Value),v=o/\k<=s.size+1/\i=.int .i64 k/\Hid (nZ s k out)/\Hid (out.length<=k)/\Hid (wr.ownsRow w.heap.size 5 1 v out.length (bF out))/\Hid (Below w.heap.size w wr)) (fun _ i _=>s.size - (intOf i).toNat)
 case atStart=>exact⟨1,[],_,rfl,qo,rfl,V,aA qs,aA (World.ownsRow_nil _ _ _ _),aA (Below.refl _ _)⟩
 case round=>
  clear V;obtain⟨k,out,v,rfl,hk,rfl,G,l,F,j⟩:=hrel;by_cases aa:k<s.size
  .have n:=aA (Ge aa G.o);obtain⟨A,c,rfl,-,-,-⟩:=lM F.o;have g:=aA (fun w=>CD s[k] w);clear G;by_cases h34:s[k].toNat=34
   .have d34:((s[k].toNat:Int)==34)=true:=bQ.2 qo;have q:=n.o.quote h34;have hx:=XA F.o rfl;clear n g h34;by_cases h64:64<out.length
    .rw[iP h64] at q;have S:=aA q;have d64:decide ((out.length:Int) > 64)=true:=dX qo;clear q;go_wp2;go_ret2
     exact⟨by rw[S.o];rfl,j.o⟩
    .rw[iN h64] at q;have S:=aA q;have d64:decide ((out.length:Int) > 64)=false:=dF qo;have q1:IntKind.i64.wrap ((k:Int)+1)=(k:Int)+1:=IntWalk.i64_in _ qo;clear q;go_wp2;go_ret2
     exact⟨by rw[S.o];rfl,j.o⟩
   .have d34:((s[k].toNat:Int)==34)=false:=bN.2 qo;obtain⟨R,M,P⟩:=aY (n.o.plain h34) (n.o.no h34) (n.o.odd h34);clear n h34;by_cases E:fC s[k]=true
    .have T:=aA (R.o E);rw[E] at g;clear R M P E;have Q:=F;have r:=j;obtain⟨a,aj⟩:=xE wr;subst aj;have C:=Q.o.alloc (.cells #[.int .u8 (s[k].toNat:Int)] 5);have z:Sl (a.alloc (.cells #[.int .u8 (s[k].toNat:Int)] 5)) (a.heap.size+1) (some ⟨a.heap.size,0,none⟩) (bF [s[k]]):=Sl.laid a _ _ _ _ rfl;have y:=r.o.alloc r.o.size (.cells #[.int .u8 (s[k].toNat:Int)] 5);obtain⟨N,x,K,f⟩:=dG (tQ [s[k]]) C z y;clear C z y;go_wp2_with fail;refine(g.o _).mono ?_;rintro e w' ⟨rfl,rfl⟩;clear g;go_wp2_with ((at_builtin;refine lK _ rfl (.tmp 27) (.tmp 31) 83 rfl w.heap.size 5 i0 (.int .u8 0) 1 1 underlying83 W.o X.o Y.o Z.o rfl qe _ out.length _ rfl x.o (a.heap.size+1) (some ⟨a.heap.size,0,none⟩) 1 1 (bF [s[k]]) rfl rfl K.o N.o (by unfold maxLen;have:=l.o;omega) (qA l.o) f.o.size ?_;intro v3 w3 D B U;have J:=aA (dU x.o f.o B (lR _) f.o.size);have O:=aA D;clear D B U))
     go_roundw
     case rel=>exact⟨k+1,out++[s[k]],_,rfl,qo,by go_num,T,aA (by rw[aL,List.length_singleton];have:=l.o;omega),aA (by rw[iW,aL];exact O.o),J⟩
     case measure=>simp[intOf];omega
    .have H:fC s[k]=false:=by simpa using E
     rw[H] at g;have ai:k<=s.size:=qo;have ad:(s.extract k s.size).size<=maxLen:=by rw[ByteArray.size_extract];unfold maxLen;omega
     have b:=fun w=>Bk (s.extract k s.size) ad w
     rw[yJ s k ai] at b;obtain⟨b,t,m⟩:=aY b (M.o H) (P.o H);have i1:(0:Int)<=(k:Int):=qo;have i2:(k:Int)<=(s.size:Int):=qo;clear R M P E ad H
     rcases ab:qQ (s.data.toList.drop k) with ⟨d,ok⟩
     rw[ab] at b t m;simp only at b t m;clear ab
     cases ok
     .have L:=aA (t.o qs);clear t m;go_wp2_with fail;refine(g.o _).mono ?_;rintro e w' ⟨rfl,rfl⟩;go_wp2_with fail;refine(b.o _).mono ?_;rintro e wd ⟨rfl,I,p⟩;have ah:=aA (fJ j.o ⟨I,p⟩);clear b p;go_wp2;go_ret2
      exact⟨by rw[L.o];rfl,ah.o⟩
     .have T:=aA (m.o qs).1;have ak:k+3<=s.size:=(m.o qs).2;clear t m;go_wp2_with fail;refine(g.o _).mono ?_;rintro e w' ⟨rfl,rfl⟩;go_wp2_with fail;refine(b.o _).mono ?_;rintro e a ⟨rfl,I,p⟩;have Q:=aA (Fm F.o ⟨I,p⟩);have r:=aA (fJ j.o ⟨I,p⟩);clear b p;have C:=Q.o.alloc (.cells #[.int .u8 (d.toNat:Int)] 5);have z:Sl (a.alloc (.cells #[.int .u8 (d.toNat:Int)] 5)) (a.heap.size+1) (some ⟨a.heap.size,0,none⟩) (bF [d]):=Sl.laid a _ _ _ _ rfl;have y:=r.o.alloc r.o.size (.cells #[.int .u8 (d.toNat:Int)] 5);obtain⟨N,x,K,f⟩:=dG (tQ [d]) C z y;clear C z y;go_wp2_with ((at_builtin;refine lK _ rfl (.tmp 44) (.tmp 46) 83 rfl w.heap.size 5 i0 (.int .u8 0) 1 1 underlying83 W.o X.o Y.o Z.o rfl qe _ out.length _ rfl x.o (a.heap.size+1) (some ⟨a.heap.size,0,none⟩) 1 1 (bF [d]) rfl rfl K.o N.o (by unfold maxLen;have:=l.o;omega) (qA l.o) f.o.size ?_;intro v3 w3 D B U;have J:=aA (dU x.o f.o B (lR _) f.o.size);have O:=aA D;clear D B U))
      go_roundw
      case rel=>exact⟨k+3,out++[d],_,rfl,qo,by go_num,T,aA (by rw[aL,List.length_singleton];have:=l.o;omega),aA (by rw[iW,aL];exact O.o),J⟩
      case measure=>simp[intOf];omega
  .have L:=aA (Na aa G.o);clear G;go_wp2;go_ret2
   exact⟨by rw[L.o];rfl,j.o⟩
theorem QBZ{p:Prop}(h:p:=by
 intro t ht
 rcases List.mem_append.1 ht with ht|ht
 .exact h.place t ht
 .rw[List.mem_singleton] at ht;subst ht;exact⟨by show (0:Int)<=k;omega,by show (k:Int)<=4096;omega⟩):p:=h
theorem wT:∀(f:Nat) (l out:lU) (k:Nat),(lO f l out k).2<=k+l.length/\(lO f l out k).1.length<=64
 |0,_,_,_=>⟨Nat.zero_le _,by simp[lO]⟩
 |_+1,[],_,_=>⟨Nat.zero_le _,by simp[lO]⟩
 |f+1,c::r,out,k=>by
  unfold lO;by_cases h1:c.toNat=34
  .rw[iP h1];by_cases h2:64<out.length
   .rw[iP h2];exact⟨Nat.zero_le _,qs⟩
   .rw[iN h2];exact⟨by simp only[List.length_cons];omega,by show out.length<=64;omega⟩
  .rw[iN h1];by_cases h2:fC c=true
   .rw[iP h2];have:=wT f r (out++[c]) (k+1);exact⟨by simp only[List.length_cons];omega,this.2⟩
   .rw[iN h2]
    cases e:II (c::r) with
    |none=>exact⟨Nat.zero_le _,qs⟩
    |some d=>
     have:=wT f (r.drop 2) (out++[d]) (k+3);rw[List.length_drop] at this;have h3:2<=r.length:=by
      unfold II at e
      rcases r with _|⟨a,_|⟨b,t⟩⟩
      .simp at e
      .simp at e
      .simp
     exact⟨by simp only[List.length_cons];omega,this.2⟩
theorem Nb(l:lU):(jR l).2<=l.length+1/\(jR l).1.length<=64:=by
 unfold jR;have:=wT l.length (l.drop 1) [] 1;rw[List.length_drop] at this;exact⟨qo,this.2⟩
theorem Gf{l:lU}(h:0<l.length):(jR l).2<=l.length:=by
 unfold jR;have:=wT l.length (l.drop 1) [] 1;rw[List.length_drop] at this;omega
theorem MK(p:UInt8->Bool)(l:lU):cK p l<=l.length:=Fz p l
theorem rQ(neg:Bool)(l:lU):(dW neg l).2<=l.length/\bK (dW neg l).1:=by
 unfold dW;dsimp only;have:=MK bA l;have h0:bK 0:=by unfold bK;omega
 split
 .exact⟨Nat.zero_le _,h0⟩
 .cases neg
  .rw[iN qe];split
   .exact⟨this,by unfold bK;omega⟩
   .exact⟨Nat.zero_le _,h0⟩
  .rw[iP rfl];split
   .exact⟨this,by unfold bK;omega⟩
   .exact⟨Nat.zero_le _,h0⟩
theorem zL(l:lU):(gA l).length<=l.length/\(gA l).length<=16:=by
 unfold gA;dsimp only;split
 .rename_i h;have:=(Ft h).2;rw[cH] at this;exact⟨List.length_take_le' _ _,this⟩
 .exact⟨Nat.zero_le _,qs⟩
structure Bm (l:List UInt8) (t:Tok) (n:Nat):Prop where
 le:n<=l.length
 aCR:n≠0->1<=t.aCR/\t.aCR<=6
 size:t.str.size<=4096
 num:bK t.num
 place:t.at_=0
theorem pZ(l:lU)(i:l.length<=4096):Bm l (bX l).1 (bX l).2:=by
 have h0:bK 0:=by unfold bK;omega
 have a:(bs []).size<=4096:=by rw[cH];simp
 rcases l with _|⟨c,r⟩
 .exact⟨Nat.zero_le _,fun h=>absurd rfl h,a,h0,rfl⟩
 .unfold bX;dsimp only;have e:=zL (c::r);have j:=zL r;have b:=rQ false (c::r);have d:=rQ false r;have f:=rQ true r;have k:=Nb (c::r);have g:=Gf (l:=c::r) qs;simp only[List.length_cons] at *;split
  .exact⟨e.1,fun _=>⟨qs,qs⟩,by show (bs (gA (c::r))).size<=4096;rw[cH];omega,h0,rfl⟩
  split
  .exact⟨b.1,fun _=>⟨qs,qs⟩,a,b.2,rfl⟩
  split
  .split
   .exact⟨Nat.zero_le _,fun h=>absurd rfl h,a,h0,rfl⟩
   .exact⟨by show (dW true r).2+1<=r.length+1;omega,fun _=>⟨qs,qs⟩,a,f.2,rfl⟩
  split
  .split
   .exact⟨Nat.zero_le _,fun h=>absurd rfl h,a,d.2,rfl⟩
   .exact⟨by show (dW false r).2+1<=r.length+1;omega,fun _=>⟨qs,qs⟩,a,d.2,rfl⟩
  split
  .refine⟨by show (if gA r=[] then 0 else (gA r).length+1)<=r.length+1;split<;>omega,fun _=>⟨qs,qs⟩,by show (bs (gA r)).size<=4096;rw[cH];omega,h0,rfl⟩
  split
  .exact⟨g,fun _=>⟨qs,qs⟩,by show (bs (jR (c::r)).1).size<=4096;rw[cH];omega,h0,rfl⟩
  split
  .exact⟨qs,fun _=>⟨qs,qs⟩,by show (bs [c]).size<=4096;rw[cH];simp,h0,rfl⟩
  .exact⟨Nat.zero_le _,fun h=>absurd rfl h,a,h0,rfl⟩
structure pJ (out:List Tok) (k:Nat):Prop where
 len:out.length<=k
 size:∀t∈out,t.str.size<=4096
 num:∀t∈out,bK t.num
 place:∀t∈out,0<=t.at_/\t.at_<=4096
 aCR:∀t∈out,1<=t.aCR/\t.aCR<=6
theorem pJ.nil(k:Nat):pJ [] k:=⟨Nat.zero_le _,qs,qs,qs,qs⟩
theorem pJ.snoc{out:List Tok}{k:Nat}(h:pJ out k){l:lU}(d:k+l.length<=4096)(c:(bX l).2≠0):pJ (out++[{(bX l).1 with at_:=(k:Int)}]) (k+(bX l).2):=by
 have a:=pZ l qo;have b:=a.aCR c;refine⟨by rw[aL,List.length_singleton];have:=h.len;omega,?_,?_,?_,?_⟩
 .intro t ht
  rcases List.mem_append.1 ht with ht|ht
  .exact h.size t ht
  .rw[List.mem_singleton] at ht;subst ht;exact a.size
 .intro t ht
  rcases List.mem_append.1 ht with ht|ht
  .exact h.num t ht
  .rw[List.mem_singleton] at ht;subst ht;exact a.num
 .exact QBZ
 .intro t ht
  rcases List.mem_append.1 ht with ht|ht
  .exact h.aCR t ht
  .rw[List.mem_singleton] at ht;subst ht;exact b
theorem pJ.aEc{out:List Tok}{k:Nat}(h:pJ out k)(c:k<=4096):Toks (out++[⟨7,k,0,bs []⟩]):=by
 have d:=h.len;refine⟨by rw[aL,List.length_singleton];omega,?_,?_,?_,?_,?_⟩
 .intro i t ht b;rw[aL,List.length_singleton]
  rcases Nat.lt_or_ge i out.length with h1|h1
  .omega
  .rw[List.getElem?_append_right h1] at ht
   rcases a:i - out.length with _|j
   .rw[a] at ht;simp at ht;subst ht;exact absurd rfl b
   .rw[a] at ht;simp at ht
 .intro t ht
  rcases List.mem_append.1 ht with ht|ht
  .exact h.size t ht
  .rw[List.mem_singleton] at ht;subst ht;show (bs []).size<=4096;rw[cH];simp
 .intro t ht
  rcases List.mem_append.1 ht with ht|ht
  .exact h.num t ht
  .rw[List.mem_singleton] at ht;subst ht;show bK 0;unfold bK;omega
 .exact QBZ
 .intro t ht
  rcases List.mem_append.1 ht with ht|ht
  .have:=h.aCR t ht;omega
  .rw[List.mem_singleton] at ht;subst ht;exact⟨qs,qs⟩
theorem zM:∀(f:Nat) (l:lU) (k:Nat) (out:List Tok),k+l.length<=4096->pJ out k->(jH f l k out).2.1=0->Toks (jH f l k out).1/\0<(jH f l k out).1.length
 |0,l,k,out,_,_,h=>absurd h (by simp[jH])
 |f+1,[],k,out,hk,ha,_=>by
  simp only[jH];exact⟨ha.aEc (by simpa using hk),qs⟩
 |f+1,c::r,k,out,hk,ha,h=>by
  simp only[List.length_cons] at hk;unfold jH at h ⊢;dsimp only at h ⊢;by_cases h1:c.toNat=32\/c.toNat=10
  .rw[iP h1] at h ⊢;exact zM f r (k+1) out qo ⟨qA ha.len,ha.size,ha.num,ha.place,ha.aCR⟩ h
  .rw[iN h1] at h ⊢;by_cases h2:(bX (c::r)).2=0
   .rw[iP h2] at h;exact absurd h qs
   .rw[iN h2] at h ⊢;have a:=pZ (c::r) (by simp only[List.length_cons];omega);have hle:=a.le;simp only[List.length_cons] at hle;exact zM f _ _ _ (by rw[List.length_drop];simp only[List.length_cons];omega) (ha.snoc (by simp only[List.length_cons];omega) h2) h
theorem SN{l:lU}(h:(jL l).2.1=0):Toks (jL l).1/\0<(jL l).1.length:=by
 unfold jL at h ⊢;by_cases h1:4096<l.length
 .rw[iP h1] at h;exact absurd h qs
 .rw[iN h1] at h ⊢;exact zM _ _ _ _ qo (pJ.nil 0) h
section
open Go.Lib
def mP(a:Nat)(c:UInt8):Nat:=a * 10+(c.toNat - 48)
theorem Gg:∀(l:lU) (a:Nat),a<=l.foldl mP a
 | [],a=>lR _
 |c::l,a=>lT (show a<=mP a c by unfold mP;omega) (Gg l _)
theorem OF:∀(l:lU) (a:Nat),(∀c∈l,bA c=true)->a<18446744073709551616->
 parseUint10 a l=if l.foldl mP a<18446744073709551616 then .ok (l.foldl mP a) else .range
 | [],a,_,ha=>by
   show NumEnd.ok a=if a<18446744073709551616 then NumEnd.ok a else NumEnd.range
   rw[iP ha]
 |c::l,a,hd,ha=>by
  have d:=(eT c).1 (hd c qs);show parseUint10 a (c::l)=if l.foldl mP (mP a c)<18446744073709551616 then NumEnd.ok (l.foldl mP (mP a c)) else NumEnd.range
  unfold parseUint10;rw[iP qo];have b:mP a c=a * 10+(c.toNat - 48):=rfl;have e:=Gg l (mP a c);by_cases h1:1844674407370955162<=a
  .rw[iP h1,iN qo]
  .rw[iN h1];by_cases h2:18446744073709551616<=a * 10+(c.toNat - 48)
   .rw[iP h2,iN qo]
   .rw[iN h2,<-b];exact OF l _ (fun c h=>hd c (by simp[h])) qo
theorem zN:∀(l:lU),∀c∈l.take (cK bA l),bA c=true
 | [],c,a=>by simp[cK] at a
 |x::l,c,a=>by
  unfold cK at a;by_cases b:bA x=true
  .rw[List.takeWhile_cons_of_pos b,List.length_cons,List.take_succ_cons] at a
   rcases List.mem_cons.1 a with rfl|a
   .exact b
   .exact zN l c a
  .rw[List.takeWhile_cons_of_neg b] at a;simp at a
theorem CE{l:lU}(h:¬(cK bA l=0\/(1<cK bA l/\l.head?=some 48))):l.take (cK bA l)≠[]:=by
 intro e;have h1:=congrArg List.length e;rw[List.length_take] at h1;have:=MK bA l;simp only[List.length_nil] at h1;exact h (.inl qo)
theorem ZI{l:lU}(a:∀c∈l,bA c=true)(b:l≠[]):parseMag l=if pR l<18446744073709551616 then .ok (pR l) else .range:=by
 unfold parseMag;rw[iN b,OF l 0 a qo];rfl
theorem zO{l:lU}(a:∀c∈l,bA c=true)(b:l≠[]):atoiAll l=if pR l<=9223372036854775807 then .ok (pR l:Int) else .range:=by
 rcases l with _|⟨c,r⟩
 .exact absurd rfl b
 .have d:=(eT c).1 (a c qs);rw[atoiAll_plain c r qo qo,ZI a b];by_cases h1:pR (c::r)<18446744073709551616
  .rw[iP h1];simp only[signless];by_cases h2:pR (c::r)<=9223372036854775807
   .rw[iP h2,iN qo]
   .rw[iN h2,iP qo]
  .rw[iN h1,iN qo];rfl
theorem IN{l:lU}(a:∀c∈l,bA c=true)(b:l≠[]):atoiAll (45 ::l)=if pR l<=9223372036854775808 then .ok (-(pR l:Int)) else .range:=by
 rw[atoiAll_minus,ZI a b];by_cases h1:pR l<18446744073709551616
 .rw[iP h1];simp only[signed];by_cases h2:pR l<=9223372036854775808
  .rw[iP h2,iN qo]
  .rw[iN h2,iP qo]
 .rw[iN h1,iN qo];rfl
theorem Tx{neg:Bool}{l:lU}(h:cK bA l=0\/(1<cK bA l/\l.head?=some 48)):dW neg l=(0,0):=by
 unfold dW;dsimp only;rw[iP h]
theorem Ty{neg:Bool}{l:lU}{v:Int}(h:¬(cK bA l=0\/(1<cK bA l/\l.head?=some 48)))(ha:atoiAll ((if neg=true then [45] else [])++l.take (cK bA l))=.ok v):dW neg l=(v,cK bA l):=by
 have a:=zN l;have b:=CE h;unfold dW;dsimp only;rw[iN h]
 cases neg
 .rw[iN qe,List.nil_append,zO a b] at ha;rw[iN qe];split at ha
  .rename_i h2;injection ha with ha;rw[iP h2,ha]
  .cases ha
 .rw[iP rfl] at ha;rw[show[45]++l.take (cK bA l)=45 ::l.take (cK bA l) from rfl,IN a b] at ha;rw[iP rfl];split at ha
  .rename_i h2;injection ha with ha;rw[iP h2,ha]
  .cases ha
theorem Bn{neg:Bool}{l:lU}(h:¬(cK bA l=0\/(1<cK bA l/\l.head?=some 48)))(ha:atoiAll ((if neg=true then [45] else [])++l.take (cK bA l))=.range):dW neg l=(0,0):=by
 have a:=zN l;have b:=CE h;unfold dW;dsimp only;rw[iN h]
 cases neg
 .rw[iN qe,List.nil_append,zO a b] at ha;rw[iN qe];split at ha
  .cases ha
  .rename_i h2;rw[iN h2]
 .rw[iP rfl] at ha;rw[show[45]++l.take (cK bA l)=45 ::l.take (cK bA l) from rfl,IN a b] at ha;rw[iP rfl];split at ha
  .cases ha
  .rename_i h2;rw[iN h2]
theorem JP{neg:Bool}{l:lU}(h:¬(cK bA l=0\/(1<cK bA l/\l.head?=some 48))):atoiAll ((if neg=true then [45] else [])++l.take (cK bA l))≠Lib.NumEnd.syntax:=by
 have a:=zN l;have b:=CE h
 cases neg
 .rw[iN qe,List.nil_append,zO a b];split<;>simp
 .rw[iP rfl,show[45]++l.take (cK bA l)=45 ::l.take (cK bA l) from rfl,IN a b];split<;>simp
end
theorem QCB{p:Prop}(h:p:=by
 go_enter func165,ntmps165;go_wp2_with fail;refine(HR.o).mono ?_;rintro e w' ⟨rfl,rfl⟩;go_wp2;go_ret2
 exact⟨rfl,Below.refl _ _⟩):p:=h
theorem QAU{p:Prop}(h:p:=by
 clear HNE h1;go_enter func165,ntmps165;go_wp2_with fail;refine(HR.o).mono ?_;rintro e w' ⟨rfl,rfl⟩;go_wp2_with fail;refine(HC.o).mono ?_;rintro e w1 ⟨v,ev,rfl,hv,hb1⟩;have HB:=aA hb1;clear hb1 HC HR
 rcases ha:Lib.atoiAll (sg++s.extract 0 n).data.toList with u|_|_
 .rw[ha] at hv;obtain⟨rfl,rfl⟩:=hv;have HE:=aA (HAX.o.2.1 v ha);clear HAX ha;go_wp2;go_ret2
  exact⟨by rw[HE.o];rfl,HB.o⟩
 .exact absurd ha HAX.o.1
 .rw[ha] at hv;obtain⟨t,p,rfl⟩:=hv;have HE:=aA (HAX.o.2.2 ha);clear HAX ha;go_wp2;go_ret2
  exact⟨by rw[HE.o];rfl,HB.o⟩):p:=h
def gV(w:World):Prop:=∃a,w.cell? ⟨2,0,none⟩=some a/\(a=.nilIface\/∃c b,a=.iface c b)
theorem gV.lt{w:World}(h:gV w):2<w.heap.size:=by
 obtain⟨a,h1,_⟩:=h
 rcases Nat.lt_or_ge 2 w.heap.size with h|h
 .exact h
 .simp[World.cell?,Array.getElem?_eq_none h] at h1
theorem gV.on{w w':World}(h:gV w)(b:Below w.heap.size w w'):gV w':=by
 have c:=h.lt;obtain⟨a,h1,h2⟩:=h;exact⟨a,(b.cell (p:=⟨2,0,none⟩) c).trans h1,h2⟩
theorem gV.stay{w w':World}{ok:nP}(h:gV w)(b:aN ok w w')(c:ok 2):gV w':=by
 obtain⟨a,h1,h2⟩:=h;exact⟨a,b.cell (p:=⟨2,0,none⟩) c h1,h2⟩
def rR(v1 v2:Value)(w:World)(e:Ending)(w':World):Prop:=e=.returned (.tuple #[v1,v2])/\Below w.heap.size w w'
def SO(l:lU)(w:World)(e:Ending)(w':World):Prop:=∃(v:Int) (a:Value),e=.returned (.tuple #[.int .i64 v,a])/\(match Lib.atoiAll l with | .ok u=>v=u/\a=.nilIface|_=>∃t p,a=.iface t p)/\Below w.heap.size w w'
theorem SP(s:bY)(d:s.size<=100000)(h:Lib.atoiAll s.data.toList≠Lib.NumEnd.syntax)(w:World)(c:gV w):Calls prog 67 #[.string s] w (SO s.data.toList w):=by
 unfold SO
 rcases ha:Lib.atoiAll s.data.toList with v|_|_
 .refine(strconv_Atoi_ok s qo v ha w).mono ?_;rintro e w' ⟨rfl,hw⟩;refine⟨v,.nilIface,rfl,⟨rfl,rfl⟩,?_⟩
  rcases hw with rfl|⟨t,rfl⟩
  .exact Below.refl _ _
  .exact Lib.bytesWorld_below _ _ _
 .exact absurd ha h
 .obtain⟨a,h1,h2⟩:=c;refine(strconv_Atoi_range s qo ha a w h1 h2).mono ?_;rintro e w' ⟨N,rfl,_,_,b⟩;exact⟨_,_,rfl,⟨_,_,rfl⟩,b⟩
theorem uL(neg:Bool)(sg s:bY)(j:sg.data.toList=if neg=true then [45] else [])(y:s.size<=4096)(w:World)(l:gV w):
 Calls prog 165 #[.string sg,.string s] w (rR (.int .i64 (dW neg s.data.toList).1) (.int .i64 (dW neg s.data.toList).2) w):=by
 have HR:=aA (Mx s (by unfold maxLen;omega) w);have hle:=MK bA s.data.toList;have c:s.data.toList.length=s.size:=by rw[Array.length_toList];rfl
 rw[c] at hle;unfold rR;by_cases a:cK bA s.data.toList=0\/(1<cK bA s.data.toList/\s.data.toList.head?=some 48)
 .rw[Tx a];have d:Hid (cK bA s.data.toList=0\/(1<cK bA s.data.toList/\s.data.toList.head?=some 48)):=aA a
  rcases a with h0|⟨h1,h2⟩
  .rw[h0] at HR;clear hle h0 d c;exact QCB
  .generalize cK bA s.data.toList=n at *;have o:0<s.size:=qo;have h48:(s[0].toNat:Int)=48:=by
    have h3:s.data.toList.head?=some s[0]:=by
     rw[List.head?_eq_getElem?,gE qo];rfl
    rw[h3] at h2;injection h2 with h2;rw[h2];rfl
   have k:((n:Int)==0)=false:=bN.2 qo;have g:decide ((n:Int) > 1)=true:=dX qo;clear d c h2;exact QCB
 .have d:=aA a;have f:=aA (fun (x:bY) (b:x.data.toList=(if neg=true then [45] else [])++s.data.toList.take (cK bA s.data.toList))=>(show _/\_/\_ from ⟨by rw[b];exact JP a,fun u hu=>Ty (neg:=neg) a (by rw[<-b];exact hu),fun hu=>Bn (neg:=neg) a (by rw[<-b];exact hu)⟩:Lib.atoiAll x.data.toList≠Lib.NumEnd.syntax/\(∀u,Lib.atoiAll x.data.toList=.ok u->dW neg s.data.toList=(u,cK bA s.data.toList))/\(Lib.atoiAll x.data.toList=.range->dW neg s.data.toList=(0,0))));have h0:cK bA s.data.toList≠0:=fun h=>a (.inl h)
  have b:(sg++s.extract 0 (cK bA s.data.toList)).data.toList=(if neg=true then [45] else [])++s.data.toList.take (cK bA s.data.toList):=by
   rw[EJ,ByteArray.data_append,Array.toList_append,j,mN]
  have HAX:=aA (f.o _ b);have z:sg.size<=1:=by
   have:sg.size=sg.data.toList.length:=by rw[Array.length_toList];rfl
   rw[this,j];split<;>simp
  have m:(sg++s.extract 0 (cK bA s.data.toList)).size<=5000:=by
   rw[ByteArray.size_append,ByteArray.size_extract];omega
  have i:1<cK bA s.data.toList->(s.data.toList.head?≠some 48):=fun h1 h2=>a (.inr ⟨h1,h2⟩)
  generalize cK bA s.data.toList=n at *;have HC:=aA (SP (sg++s.extract 0 n) qo HAX.o.1 w l);have A:(0:Int)<=n:=qo;have i2:(n:Int)<=s.size:=qo;have k:((n:Int)==0)=false:=bN.2 qo;have o:0<s.size:=qo;have r:¬9223372036854775807<sg.size+n:=qo;have HNE:Hid (1<n->((s[0].toNat:Int)==48)=false):=aA (fun h=>bN.2 (fun h48=>i h (by
   rw[List.head?_eq_getElem?,gE (show 0<s.data.toList.length by omega)]
   congr 1
   apply UInt8.toNat_inj.1
   show s[0].toNat=48;omega)))
  clear f b m d a c i;by_cases h1:1<n
  .have g:decide ((n:Int) > 1)=true:=dX qo;have q:=HNE.o h1;exact QAU
  .have g:decide ((n:Int) > 1)=false:=dF qo;exact QAU
end Go.Proofs.YtbinmcabjnoliaaGreatDoor
