/- Lemmas. -/
import Derived.Test.YthcgdgkpgdjahaaGreatDoorMad
import Derived.KernelRfl
import Derived.Laws.Cover2
import Derived.Laws.StructEq
import Derived.Laws.Tables
import Derived.Laws.BytesArg
import Derived.Lib.AtoiAllCases
import Derived.Test.YthcgdgkpgdjahaaGreatDoorShelf
namespace Go.Proofs.YthcgdgkpgdjahaaGreatDoor
open Go.RowKit
set_option linter.unusedVariables false
set_option linter.unusedSimpArgs false
set_option maxHeartbeats 16000000
open _root_.Go.Proofs.Tryz
set_option maxRecDepth 20000
theorem Ts{p:Prop}(h:p:=by
 go_wp2;go_ret2
 exact⟨by rw[HE.o];rfl,0,rfl⟩):p:=h
theorem NN(n:Int)(h1:0<=n)(h2:n<256):IntKind.u8.wrap n=n:=IntWalk.u8_in n ⟨h1,qo⟩
theorem Ii{c:UInt8}(h:bB c=true):fF c=(c.toNat:Int) - 48:=by unfold fF;rw[iP h]
theorem Ij{c:UInt8}(h:bB c=false)(h1:97<=(c.toNat:Int))(h2:(c.toNat:Int)<=102):fF c=(c.toNat:Int) - 97+10:=by
 unfold fF;rw[h,iN qe,dX (show 97<=c.toNat by omega),dX (show c.toNat<=102 by omega)];rfl
theorem TV{c:UInt8}(h:bB c=false)(h1:¬(97<=(c.toNat:Int)/\(c.toNat:Int)<=102)):fF c= -1:=by
 unfold fF;have:(decide (97<=c.toNat)&&decide (c.toNat<=102))=false:=by
  rw[Bool.eq_false_iff];intro h2;rw[Bool.and_eq_true,decide_eq_true_eq,decide_eq_true_eq] at h2;exact h1 ⟨qo,qo⟩
 rw[h,iN qe,this];rfl
theorem Ax(c:UInt8): -1<=fF c/\fF c<=15:=by
 cases a:bB c
 .by_cases h:97<=(c.toNat:Int)/\(c.toNat:Int)<=102
  .rw[Ij a h.1 h.2];omega
  .rw[TV a h];omega
 .rw[Ii a];have:=(eY c).1 a;omega
theorem zT(c:UInt8)(w:World):Calls prog 240 #[.int .u8 (c.toNat:Int)] w fun e w'=>e=.returned (.int .i64 (fF c))/\w=w':=by
 have b:=aA (iR c w)
 cases a:bB c
 .rw[a] at b;by_cases h1:97<=(c.toNat:Int)
  .have d1:decide ((c.toNat:Int) ≥ 97)=true:=dX h1;by_cases h2:(c.toNat:Int)<=102
   .have d2:decide ((c.toNat:Int)<=102)=true:=dX h2;have HE:=aA (Ij a h1 h2);have q1:IntKind.u8.wrap ((c.toNat:Int) - 97)=(c.toNat:Int) - 97:=NN _ qo qo;have d:IntKind.i64.wrap ((c.toNat:Int) - 97)=(c.toNat:Int) - 97:=IntWalk.i64_in _ qo;have g:IntKind.i64.wrap ((c.toNat:Int) - 97+10)=(c.toNat:Int) - 97+10:=IntWalk.i64_in _ qo;clear a h1 h2;go_enter func240,ntmps240;go_wp2_with fail;refine b.o.mono ?_;rintro e w' ⟨rfl,rfl⟩;exact rQ
   .have d2:decide ((c.toNat:Int)<=102)=false:=dF h2;have HE:=aA (TV a (fun h=>h2 h.2));clear a h1 h2;go_enter func240,ntmps240;go_wp2_with fail;refine b.o.mono ?_;rintro e w' ⟨rfl,rfl⟩;exact rQ
  .have d1:decide ((c.toNat:Int) ≥ 97)=false:=dF h1;have HE:=aA (TV a (fun h=>h1 h.1));clear a h1;go_enter func240,ntmps240;go_wp2_with fail;refine b.o.mono ?_;rintro e w' ⟨rfl,rfl⟩;exact rQ
 .rw[a] at b;have HE:=aA (Ii a);have f:=(eY c).1 a;have q1:IntKind.u8.wrap ((c.toNat:Int) - 48)=(c.toNat:Int) - 48:=NN _ qo qo;have d:IntKind.i64.wrap ((c.toNat:Int) - 48)=(c.toNat:Int) - 48:=IntWalk.i64_in _ qo;clear a;go_enter func240,ntmps240;go_wp2_with fail;refine b.o.mono ?_;rintro e w' ⟨rfl,rfl⟩;exact rQ
def rG(l:lU):UInt8×Bool:=
 match l with
 |a::b::c::_=>
  if a.toNat=92/\0<=fF b/\0<=fF c then (UInt8.ofNat (16 * (fF b).toNat+(fF c).toNat), !fG (UInt8.ofNat (16 * (fF b).toNat+(fF c).toNat)))
  else (0,false)
 |_=>(0,false)
theorem Ay(l:lU):JE l=if (rG l).2=true then some (rG l).1 else none:=by
 match l with
 | []=>rfl
 | [_]=>rfl
 | [_,_]=>rfl
 |a::b::c::r=>
  by_cases h:a.toNat=92/\0<=fF b/\0<=fF c
  .have d:rG (a::b::c::r)=(UInt8.ofNat (16 * (fF b).toNat+(fF c).toNat), !fG (UInt8.ofNat (16 * (fF b).toNat+(fF c).toNat))):=iP h;have e:JE (a::b::c::r)=if fG (UInt8.ofNat (16 * (fF b).toNat+(fF c).toNat))=true then none else some (UInt8.ofNat (16 * (fF b).toNat+(fF c).toNat)):=iP h
   rw[d,e]
   cases fG (UInt8.ofNat (16 * (fF b).toNat+(fF c).toNat))<;>rfl
  .have d:rG (a::b::c::r)=(0,false):=iN h;have e:JE (a::b::c::r)=none:=iN h;rw[d,e];rfl
theorem De{l:lU}(h:3<=l.length):∃r,l=l[0] ::l[1] ::l[2] ::r:=by
 match l,h with
 |a::b::c::r,_=>exact⟨r,rfl⟩
theorem KK{l:lU}(h:l.length<3):rG l=(0,false):=by
 match l,h with
 | [],_=>rfl
 | [_],_=>rfl
 | [_,_],_=>rfl
theorem Az{s:bY}(h:3<=s.size):rG s.data.toList=if s[0].toNat=92/\0<=fF s[1]/\0<=fF s[2] then (UInt8.ofNat (16 * (fF s[1]).toNat+(fF s[2]).toNat), !fG (UInt8.ofNat (16 * (fF s[1]).toNat+(fF s[2]).toNat))) else (0,false):=by
 have d:3<=s.data.toList.length:=by rw[Array.length_toList];exact h
 obtain⟨r,e⟩:=De d;have a:s.data.toList[0]=s[0]:=rfl;have b:s.data.toList[1]=s[1]:=rfl;have c:s.data.toList[2]=s[2]:=rfl;rw[e,a,b,c];rfl
theorem Vx{s:bY}(h:3<=s.size)(a:¬(s[0].toNat=92/\0<=fF s[1]/\0<=fF s[2])):rG s.data.toList=(0,false):=by rw[Az h,iN a]
theorem Df(s:bY)(C:s.size<=maxLen)(w:World):Calls prog 209 #[.string s] w fun e w'=>e=.returned (.tuple #[.int .u8 ((rG s.data.toList).1.toNat:Int),.bool (rG s.data.toList).2])/\∃n,w'=w.drewN n:=by
 unfold maxLen at C;by_cases h3:3<=s.size
 .have d3:decide ((s.size:Int)<3)=false:=dF qo;obtain⟨d,c,H1,g⟩:=dH (Az h3) (Vx h3) (zT s[1] w) (zT s[2] w);have y:=Ax s[1];have z:=Ax s[2];have i0:(0:Int)<(s.size:Int):=qo;have D:(1:Int)<(s.size:Int):=qo;have i2:(2:Int)<(s.size:Int):=qo;by_cases h0:s[0].toNat=92
  .have d0:((s[0].toNat:Int) != 92)=false:=by rw[bne_eq_false_iff_eq];omega
   have B:s.data.toList.length=s.size:=by rw[Array.length_toList];rfl
   clear B;obtain⟨a,i⟩:=xE (fF s[1]);obtain⟨b,j⟩:=xE (fF s[2]);have o:=aA i;have p:=aA j;rw[<-i] at y H1 d c;rw[<-j] at z g d c;clear i j;by_cases ha:a<0
   .have HE:=aA (c.o (fun h=>by omega));have da:decide (a<0)=true:=dX ha;clear d c h0;go_enter func209,ntmps209;go_wp2_with fail;refine H1.o.mono ?_;rintro e w' ⟨rfl,rfl⟩;exact Ts
   .have da:decide (a<0)=false:=dF ha;by_cases r:b<0
    .have HE:=aA (c.o (fun h=>by omega));have A:decide (b<0)=true:=dX r;clear d c h0;go_enter func209,ntmps209;go_wp2_with fail;refine H1.o.mono ?_;rintro e w' ⟨rfl,rfl⟩;go_wp2_with fail;refine g.o.mono ?_;rintro e w' ⟨rfl,rfl⟩;exact Ts
    .have A:decide (b<0)=false:=dF r;obtain⟨q,m⟩:=xE (UInt8.ofNat (16 * a.toNat+b.toNat));have k:(q.toNat:Int)=16 * a+b:=by
      have:q.toNat=16 * a.toNat+b.toNat:=by rw[m,UInt8.toNat_ofNat'];omega
      omega
     have HE:Hid (rG s.data.toList=(q, !fG q)):=aA (by rw[d.o,iP ⟨h0,qo,qo⟩,m]);have f:=fun w=>CR q w
     rw[k] at f;have f:=aA f;have x:Hid ((q.toNat:Int)=16 * a+b):=aA k;have q1:IntKind.i64.wrap (16 * a)=16 * a:=IntWalk.i64_in _ qo;have t:IntKind.i64.wrap (16 * a+b)=16 * a+b:=IntWalk.i64_in _ qo;have v:IntKind.u8.wrap (16 * a+b)=16 * a+b:=NN _ qo qo;clear d c h0 m k;go_enter func209,ntmps209;go_wp2_with fail;refine H1.o.mono ?_;rintro e w' ⟨rfl,rfl⟩;go_wp2_with fail;refine g.o.mono ?_;rintro e w' ⟨rfl,rfl⟩;go_wp2;rw[o.o] at q1 t v;rw[p.o] at t v;go_quiet ((go_at_call 240;exact Calls.quiet_of_same (Ow (zT _ _))))
     rw[<-o.o,<-p.o];go_wp2_with fail;refine(f.o _).mono ?_;rintro e w' ⟨rfl,rfl⟩;go_wp2;go_ret2
     exact⟨by rw[HE.o,x.o];rfl,⟨nq,rfl⟩⟩
  .have HE:=aA (c.o (fun h=>h0 h.1));have d0:((s[0].toNat:Int) != 92)=true:=bne_iff_ne.2 qo;clear d c h0;go_enter func209,ntmps209;exact Ts
 .have HE:=aA (KK (l:=s.data.toList) (by rw[Array.length_toList];show s.size<3;omega));have d3:decide ((s.size:Int)<3)=true:=dX qo;go_enter func209,ntmps209;exact Ts
theorem YL(l:lU):strOfNums (l.map fun y=>(y.toNat:Int))=bs l:=by
 unfold strOfNums bs;rw[List.map_map]
 congr 2
 conv=>rhs;rw[<-List.map_id l]
 apply List.map_congr_left
 intro x _;simp
theorem YM{w:World}{B n:Nat}{v:Value}{l:lU}(h:w.ownsRow B 5 1 v n (bF l))(d:l.length=n):
 (convert 71 9 v).run prog w=.ok (.string (bs l)) w:=by
 subst d;have h2:=h
 rcases h.2 with ⟨e,b⟩|⟨g,cap,cur,e,_⟩
 .subst e;have c:l=[]:=List.eq_nil_of_length_eq_zero b;subst c;exact run_convert_bytes_nil (P:=prog) w _ 5 underlying71 underlying5 0 0 _ underlying9
 .subst e;have:=run_convert_bytes_arg (P:=prog) w 71 5 underlying71 underlying5 g 0 l.length cap (l.map fun y=>(y.toNat:Int)) qs (fun i a=>by
   rw[Nat.zero_add,h2.cellAt i qo,PE,gE a];simp[List.getD,a]) _ underlying9
  rwa [YL] at this
def oK(s:bY)(k:Nat)(out:lU):Prop:=kA s.data.toList=lZ (s.data.toList.drop k).length (s.data.toList.drop k) out k
theorem GP(f:Nat):∀(g:Nat) (l:lU) (out:lU) (k:Nat),l.length<=f->l.length<=g->lZ f l out k=lZ g l out k:=by
 induction f with
 |zero=>
  intro g l out k b a;have:l=[]:=List.eq_nil_of_length_eq_zero qo;subst this
  cases g<;>rfl
 |succ f e=>
  intro g l out k b a
  cases l with
  |nil=>cases g<;>rfl
  |cons c r=>
   cases g with
   |zero=>simp at a
   |succ g=>
    simp only[List.length_cons] at b a;unfold lZ;by_cases h1:c.toNat=34
    .rw[iP h1,iP h1]
    .rw[iN h1,iN h1];by_cases h2:fG c=true
     .rw[iP h2,iP h2];exact e g r _ _ qo qo
     .rw[iN h2,iN h2]
      cases JE (c::r) with
      |none=>rfl
      |some d=>exact e g _ _ _ (by rw[List.length_drop];omega) (by rw[List.length_drop];omega)
theorem Dg(s:bY):oK s 1 []:=by
 unfold oK kA;exact GP _ _ _ _ _ (by rw[List.length_drop];omega) (lR _)
structure Ik (s:ByteArray) (k:Nat) (out:List UInt8) (c:UInt8):Prop where
 quote:c.toNat=34->kA s.data.toList=if 64<out.length then ([],0) else (out,k+1)
 plain:¬c.toNat=34->fG c=true->oK s (k+1) (out++[c])
 no:¬c.toNat=34->fG c=false->(rG (s.data.toList.drop k)).2=false->kA s.data.toList=([],0)
 odd:¬c.toNat=34->fG c=false->(rG (s.data.toList.drop k)).2=true->oK s (k+3) (out++[(rG (s.data.toList.drop k)).1])/\k+3<=s.size
theorem Pm{l:lU}(h:(rG l).2=true):3<=l.length:=by
 rcases Nat.lt_or_ge l.length 3 with h1|h1
 .rw[KK h1] at h;exact absurd h qe
 .exact h1
theorem Il{s:bY}{k:Nat}{out:lU}(b:k<s.size)(h:oK s k out):Ik s k out s[k]:=by
 have d:s.data.toList.length=s.size:=by rw[Array.length_toList];rfl
 have c:k<s.data.toList.length:=by rw[d];exact b
 unfold oK at h;have a:s.data.toList.drop k=s[k] ::s.data.toList.drop (k+1):=List.drop_eq_getElem_cons c;have hlen:(s.data.toList.drop k).length=(s.data.toList.drop (k+1)).length+1:=by rw[List.length_drop,List.length_drop];omega
 rw[hlen] at h;have h3:=h;rw[a] at h3;unfold lZ at h3;refine⟨fun h1=> ?_,fun h1 h2=> ?_,fun h1 h2 h4=> ?_,fun h1 h2 h4=> ?_⟩
 .rw[iP h1] at h3;exact h3
 .rw[iN h1,iP h2] at h3;exact h3
 .rw[iN h1,iN (by rw[h2];decide),<-a,Ay,h4] at h3;exact h3
 .rw[iN h1,iN (by rw[h2];decide),<-a,Ay,h4] at h3;have hle:=Pm h4;rw[List.length_drop] at hle;refine⟨?_,qo⟩;unfold oK;rw[h3];show lZ _ (List.drop 2 (List.drop (k+1) s.data.toList)) _ _=_;rw[List.drop_drop,show k+1+2=k+3 by omega];exact GP _ _ _ _ _ (by rw[List.length_drop,List.length_drop];omega) (lR _)
theorem Pn{s:bY}{k:Nat}{out:lU}(a:¬k<s.size)(h:oK s k out):kA s.data.toList=([],0):=by
 have b:s.data.toList.length=s.size:=by rw[Array.length_toList];rfl
 unfold oK at h;rw[h,List.drop_of_length_le qo];rfl
set_option maxRecDepth 512 in
theorem yR(s:bY)(k:Nat)(b:k<=s.size):(s.extract k s.size).data.toList=s.data.toList.drop k:=by
 have h:(s.extract k s.size).data=s.data.extract k s.size:=ByteArray.data_extract;rw[h,Array.toList_extract];have a:s.data.toList.length=s.size:=by rw[Array.length_toList];rfl
 show (s.data.toList.drop k).take (s.size - k)=s.data.toList.drop k;exact List.take_of_length_le (by rw[List.length_drop,a];omega)
set_option maxRecDepth 3000 in
theorem YN(s:bY)(hs:s.size<=4096)(w:World):Calls prog 160 #[.string s] w fun e w'=>e=.returned (.tuple #[.string (bs (kA s.data.toList).1),.int .i64 ((kA s.data.toList).2:Nat)])/\Below w.heap.size w w':=by
 obtain⟨i0,hi,ae,af,ag⟩:=info_parts vH;obtain⟨W,X,Y,Z⟩:=dH hi ae af ag;clear hi ae af ag;have V:=aA (Dg s);go_enter func160,ntmps160;go_wp2;go_loopw [4,5] (fun o i wr=>∃(k:Nat) (out:lU) (v:Value),v=o/\k<=s.size+1/\i=.int .i64 k/\Hid (oK s k out)/\Hid (out.length<=k)/\Hid (wr.ownsRow w.heap.size 5 1 v out.length (bF out))/\Hid (Below w.heap.size w wr)) (fun _ i _=>s.size - (intOf i).toNat)
 case atStart=>exact⟨1,[],_,rfl,qo,rfl,V,aA qs,aA (World.ownsRow_nil _ _ _ _),aA (Below.refl _ _)⟩
 case round=>
  clear V;obtain⟨k,out,v,rfl,hk,rfl,G,l,F,j⟩:=hrel;by_cases aa:k<s.size
  .have n:=aA (Il aa G.o);obtain⟨A,c,rfl,-,-,-⟩:=lX F.o;have g:=aA (fun w=>CR s[k] w);clear G;by_cases h34:s[k].toNat=34
   .have d34:((s[k].toNat:Int)==34)=true:=bQ.2 qo;have q:=n.o.quote h34;have hx:=YM F.o rfl;clear n g h34;by_cases h64:64<out.length
    .rw[iP h64] at q;have S:=aA q;have d64:decide ((out.length:Int) > 64)=true:=dX qo;clear q;go_wp2;go_ret2
     exact⟨by rw[S.o];rfl,j.o⟩
    .rw[iN h64] at q;have S:=aA q;have d64:decide ((out.length:Int) > 64)=false:=dF qo;have q1:IntKind.i64.wrap ((k:Int)+1)=(k:Int)+1:=IntWalk.i64_in _ qo;clear q;go_wp2;go_ret2
     exact⟨by rw[S.o];rfl,j.o⟩
   .have d34:((s[k].toNat:Int)==34)=false:=bN.2 qo;obtain⟨R,M,P⟩:=aZ (n.o.plain h34) (n.o.no h34) (n.o.odd h34);clear n h34;by_cases E:fG s[k]=true
    .have T:=aA (R.o E);rw[E] at g;clear R M P E;have Q:=F;have r:=j;obtain⟨a,aj⟩:=xE wr;subst aj;have C:=Q.o.alloc (.cells #[.int .u8 (s[k].toNat:Int)] 5);have z:Sl (a.alloc (.cells #[.int .u8 (s[k].toNat:Int)] 5)) (a.heap.size+1) (some ⟨a.heap.size,0,none⟩) (bF [s[k]]):=Sl.laid a _ _ _ _ rfl;have y:=r.o.alloc r.o.size (.cells #[.int .u8 (s[k].toNat:Int)] 5);obtain⟨N,x,K,f⟩:=dH (uD [s[k]]) C z y;clear C z y;go_wp2_with fail;refine(g.o _).mono ?_;rintro e w' ⟨rfl,rfl⟩;clear g;go_wp2_with ((at_builtin;refine lW _ rfl (.tmp 27) (.tmp 31) 71 rfl w.heap.size 5 i0 (.int .u8 0) 1 1 underlying71 W.o X.o Y.o Z.o rfl qe _ out.length _ rfl x.o (a.heap.size+1) (some ⟨a.heap.size,0,none⟩) 1 1 (bF [s[k]]) rfl rfl K.o N.o (by unfold maxLen;have:=l.o;omega) (qA l.o) f.o.size ?_;intro v3 w3 D B U;have J:=aA (dY x.o f.o B (lR _) f.o.size);have O:=aA D;clear D B U))
     go_roundw
     case rel=>exact⟨k+1,out++[s[k]],_,rfl,qo,by go_num,T,aA (by rw[aL,List.length_singleton];have:=l.o;omega),aA (by rw[iZ,aL];exact O.o),J⟩
     case measure=>simp[intOf];omega
    .have H:fG s[k]=false:=by simpa using E
     rw[H] at g;have ai:k<=s.size:=qo;have ad:(s.extract k s.size).size<=maxLen:=by rw[ByteArray.size_extract];unfold maxLen;omega
     have b:=fun w=>Df (s.extract k s.size) ad w
     rw[yR s k ai] at b;obtain⟨b,t,m⟩:=aZ b (M.o H) (P.o H);have i1:(0:Int)<=(k:Int):=qo;have i2:(k:Int)<=(s.size:Int):=qo;clear R M P E ad H
     rcases ab:rG (s.data.toList.drop k) with ⟨d,ok⟩
     rw[ab] at b t m;simp only at b t m;clear ab
     cases ok
     .have L:=aA (t.o qs);clear t m;go_wp2_with fail;refine(g.o _).mono ?_;rintro e w' ⟨rfl,rfl⟩;go_wp2_with fail;refine(b.o _).mono ?_;rintro e wd ⟨rfl,I,p⟩;have ah:=aA (gB j.o ⟨I,p⟩);clear b p;go_wp2;go_ret2
      exact⟨by rw[L.o];rfl,ah.o⟩
     .have T:=aA (m.o qs).1;have ak:k+3<=s.size:=(m.o qs).2;clear t m;go_wp2_with fail;refine(g.o _).mono ?_;rintro e w' ⟨rfl,rfl⟩;go_wp2_with fail;refine(b.o _).mono ?_;rintro e a ⟨rfl,I,p⟩;have Q:=aA (Hs F.o ⟨I,p⟩);have r:=aA (gB j.o ⟨I,p⟩);clear b p;have C:=Q.o.alloc (.cells #[.int .u8 (d.toNat:Int)] 5);have z:Sl (a.alloc (.cells #[.int .u8 (d.toNat:Int)] 5)) (a.heap.size+1) (some ⟨a.heap.size,0,none⟩) (bF [d]):=Sl.laid a _ _ _ _ rfl;have y:=r.o.alloc r.o.size (.cells #[.int .u8 (d.toNat:Int)] 5);obtain⟨N,x,K,f⟩:=dH (uD [d]) C z y;clear C z y;go_wp2_with ((at_builtin;refine lW _ rfl (.tmp 44) (.tmp 46) 71 rfl w.heap.size 5 i0 (.int .u8 0) 1 1 underlying71 W.o X.o Y.o Z.o rfl qe _ out.length _ rfl x.o (a.heap.size+1) (some ⟨a.heap.size,0,none⟩) 1 1 (bF [d]) rfl rfl K.o N.o (by unfold maxLen;have:=l.o;omega) (qA l.o) f.o.size ?_;intro v3 w3 D B U;have J:=aA (dY x.o f.o B (lR _) f.o.size);have O:=aA D;clear D B U))
      go_roundw
      case rel=>exact⟨k+3,out++[d],_,rfl,qo,by go_num,T,aA (by rw[aL,List.length_singleton];have:=l.o;omega),aA (by rw[iZ,aL];exact O.o),J⟩
      case measure=>simp[intOf];omega
  .have L:=aA (Pn aa G.o);clear G;go_wp2;go_ret2
   exact⟨by rw[L.o];rfl,j.o⟩
theorem QBY{p:Prop}(h:p:=by
 intro t ht
 rcases List.mem_append.1 ht with ht|ht
 .exact h.place t ht
 .rw[List.mem_singleton] at ht;subst ht;exact⟨by show (0:Int)<=k;omega,by show (k:Int)<=4096;omega⟩):p:=h
theorem xD:∀(f:Nat) (l out:lU) (k:Nat),(lZ f l out k).2<=k+l.length/\(lZ f l out k).1.length<=64
 |0,_,_,_=>⟨Nat.zero_le _,by simp[lZ]⟩
 |_+1,[],_,_=>⟨Nat.zero_le _,by simp[lZ]⟩
 |f+1,c::r,out,k=>by
  unfold lZ;by_cases h1:c.toNat=34
  .rw[iP h1];by_cases h2:64<out.length
   .rw[iP h2];exact⟨Nat.zero_le _,qs⟩
   .rw[iN h2];exact⟨by simp only[List.length_cons];omega,by show out.length<=64;omega⟩
  .rw[iN h1];by_cases h2:fG c=true
   .rw[iP h2];have:=xD f r (out++[c]) (k+1);exact⟨by simp only[List.length_cons];omega,this.2⟩
   .rw[iN h2]
    cases e:JE (c::r) with
    |none=>exact⟨Nat.zero_le _,qs⟩
    |some d=>
     have:=xD f (r.drop 2) (out++[d]) (k+3);rw[List.length_drop] at this;have h3:2<=r.length:=by
      unfold JE at e
      rcases r with _|⟨a,_|⟨b,t⟩⟩
      .simp at e
      .simp at e
      .simp
     exact⟨by simp only[List.length_cons];omega,this.2⟩
theorem Pp(l:lU):(kA l).2<=l.length+1/\(kA l).1.length<=64:=by
 unfold kA;have:=xD l.length (l.drop 1) [] 1;rw[List.length_drop] at this;exact⟨qo,this.2⟩
theorem Im{l:lU}(h:0<l.length):(kA l).2<=l.length:=by
 unfold kA;have:=xD l.length (l.drop 1) [] 1;rw[List.length_drop] at this;omega
theorem NO(p:UInt8->Bool)(l:lU):cL p l<=l.length:=Ig p l
theorem sF(neg:Bool)(l:lU):(eA neg l).2<=l.length/\bL (eA neg l).1:=by
 unfold eA;dsimp only;have:=NO bB l;have h0:bL 0:=by unfold bL;omega
 split
 .exact⟨Nat.zero_le _,h0⟩
 .cases neg
  .rw[iN qe];split
   .exact⟨this,by unfold bL;omega⟩
   .exact⟨Nat.zero_le _,h0⟩
  .rw[iP rfl];split
   .exact⟨this,by unfold bL;omega⟩
   .exact⟨Nat.zero_le _,h0⟩
theorem zU(l:lU):(gF l).length<=l.length/\(gF l).length<=16:=by
 unfold gF;dsimp only;split
 .rename_i h;have:=(Hy h).2;rw[cH] at this;exact⟨List.length_take_le' _ _,this⟩
 .exact⟨Nat.zero_le _,qs⟩
structure Dh (l:List UInt8) (t:Tok) (n:Nat):Prop where
 le:n<=l.length
 aDN:n≠0->1<=t.aDN/\t.aDN<=6
 size:t.str.size<=4096
 num:bL t.num
 place:t.at_=0
theorem qT(l:lU)(i:l.length<=4096):Dh l (bZ l).1 (bZ l).2:=by
 have h0:bL 0:=by unfold bL;omega
 have a:(bs []).size<=4096:=by rw[cH];simp
 rcases l with _|⟨c,r⟩
 .exact⟨Nat.zero_le _,fun h=>absurd rfl h,a,h0,rfl⟩
 .unfold bZ;dsimp only;have e:=zU (c::r);have j:=zU r;have b:=sF false (c::r);have d:=sF false r;have f:=sF true r;have k:=Pp (c::r);have g:=Im (l:=c::r) qs;simp only[List.length_cons] at *;split
  .exact⟨e.1,fun _=>⟨qs,qs⟩,by show (bs (gF (c::r))).size<=4096;rw[cH];omega,h0,rfl⟩
  split
  .exact⟨b.1,fun _=>⟨qs,qs⟩,a,b.2,rfl⟩
  split
  .split
   .exact⟨Nat.zero_le _,fun h=>absurd rfl h,a,h0,rfl⟩
   .exact⟨by show (eA true r).2+1<=r.length+1;omega,fun _=>⟨qs,qs⟩,a,f.2,rfl⟩
  split
  .split
   .exact⟨Nat.zero_le _,fun h=>absurd rfl h,a,d.2,rfl⟩
   .exact⟨by show (eA false r).2+1<=r.length+1;omega,fun _=>⟨qs,qs⟩,a,d.2,rfl⟩
  split
  .refine⟨by show (if gF r=[] then 0 else (gF r).length+1)<=r.length+1;split<;>omega,fun _=>⟨qs,qs⟩,by show (bs (gF r)).size<=4096;rw[cH];omega,h0,rfl⟩
  split
  .exact⟨g,fun _=>⟨qs,qs⟩,by show (bs (kA (c::r)).1).size<=4096;rw[cH];omega,h0,rfl⟩
  split
  .exact⟨qs,fun _=>⟨qs,qs⟩,by show (bs [c]).size<=4096;rw[cH];simp,h0,rfl⟩
  .exact⟨Nat.zero_le _,fun h=>absurd rfl h,a,h0,rfl⟩
structure pT (out:List Tok) (k:Nat):Prop where
 len:out.length<=k
 size:∀t∈out,t.str.size<=4096
 num:∀t∈out,bL t.num
 place:∀t∈out,0<=t.at_/\t.at_<=4096
 aDN:∀t∈out,1<=t.aDN/\t.aDN<=6
theorem pT.nil(k:Nat):pT [] k:=⟨Nat.zero_le _,qs,qs,qs,qs⟩
theorem pT.snoc{out:List Tok}{k:Nat}(h:pT out k){l:lU}(d:k+l.length<=4096)(c:(bZ l).2≠0):pT (out++[{(bZ l).1 with at_:=(k:Int)}]) (k+(bZ l).2):=by
 have a:=qT l qo;have b:=a.aDN c;refine⟨by rw[aL,List.length_singleton];have:=h.len;omega,?_,?_,?_,?_⟩
 .intro t ht
  rcases List.mem_append.1 ht with ht|ht
  .exact h.size t ht
  .rw[List.mem_singleton] at ht;subst ht;exact a.size
 .intro t ht
  rcases List.mem_append.1 ht with ht|ht
  .exact h.num t ht
  .rw[List.mem_singleton] at ht;subst ht;exact a.num
 .exact QBY
 .intro t ht
  rcases List.mem_append.1 ht with ht|ht
  .exact h.aDN t ht
  .rw[List.mem_singleton] at ht;subst ht;exact b
theorem pT.aE8{out:List Tok}{k:Nat}(h:pT out k)(c:k<=4096):Toks (out++[⟨7,k,0,bs []⟩]):=by
 have d:=h.len;refine⟨by rw[aL,List.length_singleton];omega,?_,?_,?_,?_,?_⟩
 .intro i t ht b;rw[aL,List.length_singleton]
  rcases Nat.lt_or_ge i out.length with h1|h1
  .omega
  .rw[List.getElem?_append_right h1] at ht
   rcases a:i - out.length with _|j
   .rw[a] at ht;simp at ht;subst ht;exact absurd rfl b
   .rw[a] at ht;simp at ht
 .intro t ht
  rcases List.mem_append.1 ht with ht|ht
  .exact h.size t ht
  .rw[List.mem_singleton] at ht;subst ht;show (bs []).size<=4096;rw[cH];simp
 .intro t ht
  rcases List.mem_append.1 ht with ht|ht
  .exact h.num t ht
  .rw[List.mem_singleton] at ht;subst ht;show bL 0;unfold bL;omega
 .exact QBY
 .intro t ht
  rcases List.mem_append.1 ht with ht|ht
  .have:=h.aDN t ht;omega
  .rw[List.mem_singleton] at ht;subst ht;exact⟨qs,qs⟩
theorem zW:∀(f:Nat) (l:lU) (k:Nat) (out:List Tok),k+l.length<=4096->pT out k->(jQ f l k out).2.1=0->Toks (jQ f l k out).1/\0<(jQ f l k out).1.length
 |0,l,k,out,_,_,h=>absurd h (by simp[jQ])
 |f+1,[],k,out,hk,ha,_=>by
  simp only[jQ];exact⟨ha.aE8 (by simpa using hk),qs⟩
 |f+1,c::r,k,out,hk,ha,h=>by
  simp only[List.length_cons] at hk;unfold jQ at h ⊢;dsimp only at h ⊢;by_cases h1:c.toNat=32\/c.toNat=10
  .rw[iP h1] at h ⊢;exact zW f r (k+1) out qo ⟨qA ha.len,ha.size,ha.num,ha.place,ha.aDN⟩ h
  .rw[iN h1] at h ⊢;by_cases h2:(bZ (c::r)).2=0
   .rw[iP h2] at h;exact absurd h qs
   .rw[iN h2] at h ⊢;have a:=qT (c::r) (by simp only[List.length_cons];omega);have hle:=a.le;simp only[List.length_cons] at hle;exact zW f _ _ _ (by rw[List.length_drop];simp only[List.length_cons];omega) (ha.snoc (by simp only[List.length_cons];omega) h2) h
theorem TW{l:lU}(h:(jU l).2.1=0):Toks (jU l).1/\0<(jU l).1.length:=by
 unfold jU at h ⊢;by_cases h1:4096<l.length
 .rw[iP h1] at h;exact absurd h qs
 .rw[iN h1] at h ⊢;exact zW _ _ _ _ qo (pT.nil 0) h
section
open Go.Lib
def mY(a:Nat)(c:UInt8):Nat:=a * 10+(c.toNat - 48)
theorem Io:∀(l:lU) (a:Nat),a<=l.foldl mY a
 | [],a=>lR _
 |c::l,a=>lT (show a<=mY a c by unfold mY;omega) (Io l _)
theorem PN:∀(l:lU) (a:Nat),(∀c∈l,bB c=true)->a<18446744073709551616->
 parseUint10 a l=if l.foldl mY a<18446744073709551616 then .ok (l.foldl mY a) else .range
 | [],a,_,ha=>by
   show NumEnd.ok a=if a<18446744073709551616 then NumEnd.ok a else NumEnd.range
   rw[iP ha]
 |c::l,a,hd,ha=>by
  have d:=(eY c).1 (hd c qs);show parseUint10 a (c::l)=if l.foldl mY (mY a c)<18446744073709551616 then NumEnd.ok (l.foldl mY (mY a c)) else NumEnd.range
  unfold parseUint10;rw[iP qo];have b:mY a c=a * 10+(c.toNat - 48):=rfl;have e:=Io l (mY a c);by_cases h1:1844674407370955162<=a
  .rw[iP h1,iN qo]
  .rw[iN h1];by_cases h2:18446744073709551616<=a * 10+(c.toNat - 48)
   .rw[iP h2,iN qo]
   .rw[iN h2,<-b];exact PN l _ (fun c h=>hd c (by simp[h])) qo
theorem zZ:∀(l:lU),∀c∈l.take (cL bB l),bB c=true
 | [],c,a=>by simp[cL] at a
 |x::l,c,a=>by
  unfold cL at a;by_cases b:bB x=true
  .rw[List.takeWhile_cons_of_pos b,List.length_cons,List.take_succ_cons] at a
   rcases List.mem_cons.1 a with rfl|a
   .exact b
   .exact zZ l c a
  .rw[List.takeWhile_cons_of_neg b] at a;simp at a
theorem CT{l:lU}(h:¬(cL bB l=0\/(1<cL bB l/\l.head?=some 48))):l.take (cL bB l)≠[]:=by
 intro e;have h1:=congrArg List.length e;rw[List.length_take] at h1;have:=NO bB l;simp only[List.length_nil] at h1;exact h (.inl qo)
theorem Ba{l:lU}(a:∀c∈l,bB c=true)(b:l≠[]):parseMag l=if qH l<18446744073709551616 then .ok (qH l) else .range:=by
 unfold parseMag;rw[iN b,PN l 0 a qo];rfl
theorem AB{l:lU}(a:∀c∈l,bB c=true)(b:l≠[]):atoiAll l=if qH l<=9223372036854775807 then .ok (qH l:Int) else .range:=by
 rcases l with _|⟨c,r⟩
 .exact absurd rfl b
 .have d:=(eY c).1 (a c qs);rw[atoiAll_plain c r qo qo,Ba a b];by_cases h1:qH (c::r)<18446744073709551616
  .rw[iP h1];simp only[signless];by_cases h2:qH (c::r)<=9223372036854775807
   .rw[iP h2,iN qo]
   .rw[iN h2,iP qo]
  .rw[iN h1,iN qo];rfl
theorem JK{l:lU}(a:∀c∈l,bB c=true)(b:l≠[]):atoiAll (45 ::l)=if qH l<=9223372036854775808 then .ok (-(qH l:Int)) else .range:=by
 rw[atoiAll_minus,Ba a b];by_cases h1:qH l<18446744073709551616
 .rw[iP h1];simp only[signed];by_cases h2:qH l<=9223372036854775808
  .rw[iP h2,iN qo]
  .rw[iN h2,iP qo]
 .rw[iN h1,iN qo];rfl
theorem Vy{neg:Bool}{l:lU}(h:cL bB l=0\/(1<cL bB l/\l.head?=some 48)):eA neg l=(0,0):=by
 unfold eA;dsimp only;rw[iP h]
theorem Vz{neg:Bool}{l:lU}{v:Int}(h:¬(cL bB l=0\/(1<cL bB l/\l.head?=some 48)))(ha:atoiAll ((if neg=true then [45] else [])++l.take (cL bB l))=.ok v):eA neg l=(v,cL bB l):=by
 have a:=zZ l;have b:=CT h;unfold eA;dsimp only;rw[iN h]
 cases neg
 .rw[iN qe,List.nil_append,AB a b] at ha;rw[iN qe];split at ha
  .rename_i h2;injection ha with ha;rw[iP h2,ha]
  .cases ha
 .rw[iP rfl] at ha;rw[show[45]++l.take (cL bB l)=45 ::l.take (cL bB l) from rfl,JK a b] at ha;rw[iP rfl];split at ha
  .rename_i h2;injection ha with ha;rw[iP h2,ha]
  .cases ha
theorem Di{neg:Bool}{l:lU}(h:¬(cL bB l=0\/(1<cL bB l/\l.head?=some 48)))(ha:atoiAll ((if neg=true then [45] else [])++l.take (cL bB l))=.range):eA neg l=(0,0):=by
 have a:=zZ l;have b:=CT h;unfold eA;dsimp only;rw[iN h]
 cases neg
 .rw[iN qe,List.nil_append,AB a b] at ha;rw[iN qe];split at ha
  .cases ha
  .rename_i h2;rw[iN h2]
 .rw[iP rfl] at ha;rw[show[45]++l.take (cL bB l)=45 ::l.take (cL bB l) from rfl,JK a b] at ha;rw[iP rfl];split at ha
  .cases ha
  .rename_i h2;rw[iN h2]
theorem KL{neg:Bool}{l:lU}(h:¬(cL bB l=0\/(1<cL bB l/\l.head?=some 48))):atoiAll ((if neg=true then [45] else [])++l.take (cL bB l))≠Lib.NumEnd.syntax:=by
 have a:=zZ l;have b:=CT h
 cases neg
 .rw[iN qe,List.nil_append,AB a b];split<;>simp
 .rw[iP rfl,show[45]++l.take (cL bB l)=45 ::l.take (cL bB l) from rfl,JK a b];split<;>simp
end
theorem QCA{p:Prop}(h:p:=by
 go_enter func159,ntmps159;go_wp2_with fail;refine(HR.o).mono ?_;rintro e w' ⟨rfl,rfl⟩;go_wp2;go_ret2
 exact⟨rfl,Below.refl _ _⟩):p:=h
theorem QAU{p:Prop}(h:p:=by
 clear HNE h1;go_enter func159,ntmps159;go_wp2_with fail;refine(HR.o).mono ?_;rintro e w' ⟨rfl,rfl⟩;go_wp2_with fail;refine(HC.o).mono ?_;rintro e w1 ⟨v,ev,rfl,hv,hb1⟩;have HB:=aA hb1;clear hb1 HC HR
 rcases ha:Lib.atoiAll (sg++s.extract 0 n).data.toList with u|_|_
 .rw[ha] at hv;obtain⟨rfl,rfl⟩:=hv;have HE:=aA (HAX.o.2.1 v ha);clear HAX ha;go_wp2;go_ret2
  exact⟨by rw[HE.o];rfl,HB.o⟩
 .exact absurd ha HAX.o.1
 .rw[ha] at hv;obtain⟨t,p,rfl⟩:=hv;have HE:=aA (HAX.o.2.2 ha);clear HAX ha;go_wp2;go_ret2
  exact⟨by rw[HE.o];rfl,HB.o⟩):p:=h
def iA(w:World):Prop:=∃a,w.cell? ⟨2,0,none⟩=some a/\(a=.nilIface\/∃c b,a=.iface c b)
theorem iA.lt{w:World}(h:iA w):2<w.heap.size:=by
 obtain⟨a,h1,_⟩:=h
 rcases Nat.lt_or_ge 2 w.heap.size with h|h
 .exact h
 .simp[World.cell?,Array.getElem?_eq_none h] at h1
theorem iA.on{w w':World}(h:iA w)(b:Below w.heap.size w w'):iA w':=by
 have c:=h.lt;obtain⟨a,h1,h2⟩:=h;exact⟨a,(b.cell (p:=⟨2,0,none⟩) c).trans h1,h2⟩
theorem iA.stay{w w':World}{ok:nP}(h:iA w)(b:aN ok w w')(c:ok 2):iA w':=by
 obtain⟨a,h1,h2⟩:=h;exact⟨a,b.cell (p:=⟨2,0,none⟩) c h1,h2⟩
def sG(v1 v2:Value)(w:World)(e:Ending)(w':World):Prop:=e=.returned (.tuple #[v1,v2])/\Below w.heap.size w w'
def TX(l:lU)(w:World)(e:Ending)(w':World):Prop:=∃(v:Int) (a:Value),e=.returned (.tuple #[.int .i64 v,a])/\(match Lib.atoiAll l with | .ok u=>v=u/\a=.nilIface|_=>∃t p,a=.iface t p)/\Below w.heap.size w w'
theorem TY(s:bY)(d:s.size<=100000)(h:Lib.atoiAll s.data.toList≠Lib.NumEnd.syntax)(w:World)(c:iA w):Calls prog 55 #[.string s] w (TX s.data.toList w):=by
 unfold TX
 rcases ha:Lib.atoiAll s.data.toList with v|_|_
 .refine(strconv_Atoi_ok s qo v ha w).mono ?_;rintro e w' ⟨rfl,hw⟩;refine⟨v,.nilIface,rfl,⟨rfl,rfl⟩,?_⟩
  rcases hw with rfl|⟨t,rfl⟩
  .exact Below.refl _ _
  .exact Lib.bytesWorld_below _ _ _
 .exact absurd ha h
 .obtain⟨a,h1,h2⟩:=c;refine(strconv_Atoi_range s qo ha a w h1 h2).mono ?_;rintro e w' ⟨N,rfl,_,_,b⟩;exact⟨_,_,rfl,⟨_,_,rfl⟩,b⟩
theorem uY(neg:Bool)(sg s:bY)(j:sg.data.toList=if neg=true then [45] else [])(y:s.size<=4096)(w:World)(l:iA w):
 Calls prog 159 #[.string sg,.string s] w (sG (.int .i64 (eA neg s.data.toList).1) (.int .i64 (eA neg s.data.toList).2) w):=by
 have HR:=aA (Pk s (by unfold maxLen;omega) w);have hle:=NO bB s.data.toList;have c:s.data.toList.length=s.size:=by rw[Array.length_toList];rfl
 rw[c] at hle;unfold sG;by_cases a:cL bB s.data.toList=0\/(1<cL bB s.data.toList/\s.data.toList.head?=some 48)
 .rw[Vy a];have d:Hid (cL bB s.data.toList=0\/(1<cL bB s.data.toList/\s.data.toList.head?=some 48)):=aA a
  rcases a with h0|⟨h1,h2⟩
  .rw[h0] at HR;clear hle h0 d c;exact QCA
  .generalize cL bB s.data.toList=n at *;have o:0<s.size:=qo;have h48:(s[0].toNat:Int)=48:=by
    have h3:s.data.toList.head?=some s[0]:=by
     rw[List.head?_eq_getElem?,gE qo];rfl
    rw[h3] at h2;injection h2 with h2;rw[h2];rfl
   have k:((n:Int)==0)=false:=bN.2 qo;have g:decide ((n:Int) > 1)=true:=dX qo;clear d c h2;exact QCA
 .have d:=aA a;have f:=aA (fun (x:bY) (b:x.data.toList=(if neg=true then [45] else [])++s.data.toList.take (cL bB s.data.toList))=>(show _/\_/\_ from ⟨by rw[b];exact KL a,fun u hu=>Vz (neg:=neg) a (by rw[<-b];exact hu),fun hu=>Di (neg:=neg) a (by rw[<-b];exact hu)⟩:Lib.atoiAll x.data.toList≠Lib.NumEnd.syntax/\(∀u,Lib.atoiAll x.data.toList=.ok u->eA neg s.data.toList=(u,cL bB s.data.toList))/\(Lib.atoiAll x.data.toList=.range->eA neg s.data.toList=(0,0))));have h0:cL bB s.data.toList≠0:=fun h=>a (.inl h)
  have b:(sg++s.extract 0 (cL bB s.data.toList)).data.toList=(if neg=true then [45] else [])++s.data.toList.take (cL bB s.data.toList):=by
   rw[FC,ByteArray.data_append,Array.toList_append,j,mW]
  have HAX:=aA (f.o _ b);have z:sg.size<=1:=by
   have:sg.size=sg.data.toList.length:=by rw[Array.length_toList];rfl
   rw[this,j];split<;>simp
  have m:(sg++s.extract 0 (cL bB s.data.toList)).size<=5000:=by
   rw[ByteArray.size_append,ByteArray.size_extract];omega
  have i:1<cL bB s.data.toList->(s.data.toList.head?≠some 48):=fun h1 h2=>a (.inr ⟨h1,h2⟩)
  generalize cL bB s.data.toList=n at *;have HC:=aA (TY (sg++s.extract 0 n) qo HAX.o.1 w l);have A:(0:Int)<=n:=qo;have i2:(n:Int)<=s.size:=qo;have k:((n:Int)==0)=false:=bN.2 qo;have o:0<s.size:=qo;have r:¬9223372036854775807<sg.size+n:=qo;have HNE:Hid (1<n->((s[0].toNat:Int)==48)=false):=aA (fun h=>bN.2 (fun h48=>i h (by
   rw[List.head?_eq_getElem?,gE (show 0<s.data.toList.length by omega)]
   congr 1
   apply UInt8.toNat_inj.1
   show s[0].toNat=48;omega)))
  clear f b m d a c i;by_cases h1:1<n
  .have g:decide ((n:Int) > 1)=true:=dX qo;have q:=HNE.o h1;exact QAU
  .have g:decide ((n:Int) > 1)=false:=dF qo;exact QAU
end Go.Proofs.YthcgdgkpgdjahaaGreatDoor
