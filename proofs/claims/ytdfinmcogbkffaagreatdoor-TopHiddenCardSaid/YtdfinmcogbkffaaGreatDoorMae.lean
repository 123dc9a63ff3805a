/- Lemmas. -/
import Derived.Test.YtdfinmcogbkffaaGreatDoorMad
import Derived.KernelRfl
import Derived.Laws.Cover2
import Derived.Laws.StructEq
import Derived.Laws.Tables
import Derived.Laws.BytesArg
import Derived.Lib.AtoiAllCases
namespace Go.Proofs.YtdfinmcogbkffaaGreatDoor
open Go.RowKit
set_option linter.unusedVariables false
set_option linter.unusedSimpArgs false
set_option maxHeartbeats 16000000
open _root_.Go.Proofs.Tryz
set_option maxRecDepth 20000
theorem Tc{p:Prop}(h:p:=by
 go_wp2;go_ret2
 exact⟨by rw[HE.o];rfl,0,rfl⟩):p:=h
theorem MR(n:Int)(h1:0<=n)(h2:n<256):IntKind.u8.wrap n=n:=IntWalk.u8_in n ⟨h1,qo⟩
theorem Hk{c:UInt8}(h:bA c=true):fE c=(c.toNat:Int) - 48:=by unfold fE;rw[iP h]
theorem Hl{c:UInt8}(h:bA c=false)(h1:97<=(c.toNat:Int))(h2:(c.toNat:Int)<=102):fE c=(c.toNat:Int) - 97+10:=by
 unfold fE;rw[h,iN qe,dX (show 97<=c.toNat by omega),dX (show c.toNat<=102 by omega)];rfl
theorem TC{c:UInt8}(h:bA c=false)(h1:¬(97<=(c.toNat:Int)/\(c.toNat:Int)<=102)):fE c= -1:=by
 unfold fE;have:(decide (97<=c.toNat)&&decide (c.toNat<=102))=false:=by
  rw[Bool.eq_false_iff];intro h2;rw[Bool.and_eq_true,decide_eq_true_eq,decide_eq_true_eq] at h2;exact h1 ⟨qo,qo⟩
 rw[h,iN qe,this];rfl
theorem ZY(c:UInt8): -1<=fE c/\fE c<=15:=by
 cases a:bA c
 .by_cases h:97<=(c.toNat:Int)/\(c.toNat:Int)<=102
  .rw[Hl a h.1 h.2];omega
  .rw[TC a h];omega
 .rw[Hk a];have:=(eU c).1 a;omega
theorem zL(c:UInt8)(w:World):Calls prog 240 #[.int .u8 (c.toNat:Int)] w fun e w'=>e=.returned (.int .i64 (fE c))/\w=w':=by
 have b:=aA (iQ c w)
 cases a:bA c
 .rw[a] at b;by_cases h1:97<=(c.toNat:Int)
  .have d1:decide ((c.toNat:Int) ≥ 97)=true:=dX h1;by_cases h2:(c.toNat:Int)<=102
   .have d2:decide ((c.toNat:Int)<=102)=true:=dX h2;have HE:=aA (Hl a h1 h2);have q1:IntKind.u8.wrap ((c.toNat:Int) - 97)=(c.toNat:Int) - 97:=MR _ qo qo;have d:IntKind.i64.wrap ((c.toNat:Int) - 97)=(c.toNat:Int) - 97:=IntWalk.i64_in _ qo;have g:IntKind.i64.wrap ((c.toNat:Int) - 97+10)=(c.toNat:Int) - 97+10:=IntWalk.i64_in _ qo;clear a h1 h2;go_enter func240,ntmps240;go_wp2_with fail;refine b.o.mono ?_;rintro e w' ⟨rfl,rfl⟩;exact rG
   .have d2:decide ((c.toNat:Int)<=102)=false:=dF h2;have HE:=aA (TC a (fun h=>h2 h.2));clear a h1 h2;go_enter func240,ntmps240;go_wp2_with fail;refine b.o.mono ?_;rintro e w' ⟨rfl,rfl⟩;exact rG
  .have d1:decide ((c.toNat:Int) ≥ 97)=false:=dF h1;have HE:=aA (TC a (fun h=>h1 h.1));clear a h1;go_enter func240,ntmps240;go_wp2_with fail;refine b.o.mono ?_;rintro e w' ⟨rfl,rfl⟩;exact rG
 .rw[a] at b;have HE:=aA (Hk a);have f:=(eU c).1 a;have q1:IntKind.u8.wrap ((c.toNat:Int) - 48)=(c.toNat:Int) - 48:=MR _ qo qo;have d:IntKind.i64.wrap ((c.toNat:Int) - 48)=(c.toNat:Int) - 48:=IntWalk.i64_in _ qo;clear a;go_enter func240,ntmps240;go_wp2_with fail;refine b.o.mono ?_;rintro e w' ⟨rfl,rfl⟩;exact rG
def qW(l:lU):UInt8×Bool:=
 match l with
 |a::b::c::_=>
  if a.toNat=92/\0<=fE b/\0<=fE c then (UInt8.ofNat (16 * (fE b).toNat+(fE c).toNat), !fF (UInt8.ofNat (16 * (fE b).toNat+(fE c).toNat)))
  else (0,false)
 |_=>(0,false)
theorem ZZ(l:lU):IJ l=if (qW l).2=true then some (qW l).1 else none:=by
 match l with
 | []=>rfl
 | [_]=>rfl
 | [_,_]=>rfl
 |a::b::c::r=>
  by_cases h:a.toNat=92/\0<=fE b/\0<=fE c
  .have d:qW (a::b::c::r)=(UInt8.ofNat (16 * (fE b).toNat+(fE c).toNat), !fF (UInt8.ofNat (16 * (fE b).toNat+(fE c).toNat))):=iP h;have e:IJ (a::b::c::r)=if fF (UInt8.ofNat (16 * (fE b).toNat+(fE c).toNat))=true then none else some (UInt8.ofNat (16 * (fE b).toNat+(fE c).toNat)):=iP h
   rw[d,e]
   cases fF (UInt8.ofNat (16 * (fE b).toNat+(fE c).toNat))<;>rfl
  .have d:qW (a::b::c::r)=(0,false):=iN h;have e:IJ (a::b::c::r)=none:=iN h;rw[d,e];rfl
theorem Ch{l:lU}(h:3<=l.length):∃r,l=l[0] ::l[1] ::l[2] ::r:=by
 match l,h with
 |a::b::c::r,_=>exact⟨r,rfl⟩
theorem JR{l:lU}(h:l.length<3):qW l=(0,false):=by
 match l,h with
 | [],_=>rfl
 | [_],_=>rfl
 | [_,_],_=>rfl
theorem Aa{s:bY}(h:3<=s.size):qW s.data.toList=if s[0].toNat=92/\0<=fE s[1]/\0<=fE s[2] then (UInt8.ofNat (16 * (fE s[1]).toNat+(fE s[2]).toNat), !fF (UInt8.ofNat (16 * (fE s[1]).toNat+(fE s[2]).toNat))) else (0,false):=by
 have d:3<=s.data.toList.length:=by rw[Array.length_toList];exact h
 obtain⟨r,e⟩:=Ch d;have a:s.data.toList[0]=s[0]:=rfl;have b:s.data.toList[1]=s[1]:=rfl;have c:s.data.toList[2]=s[2]:=rfl;rw[e,a,b,c];rfl
theorem Vi{s:bY}(h:3<=s.size)(a:¬(s[0].toNat=92/\0<=fE s[1]/\0<=fE s[2])):qW s.data.toList=(0,false):=by rw[Aa h,iN a]
theorem Ci(s:bY)(C:s.size<=maxLen)(w:World):Calls prog 205 #[.string s] w fun e w'=>e=.returned (.tuple #[.int .u8 ((qW s.data.toList).1.toNat:Int),.bool (qW s.data.toList).2])/\∃n,w'=w.drewN n:=by
 unfold maxLen at C;by_cases h3:3<=s.size
 .have d3:decide ((s.size:Int)<3)=false:=dF qo;obtain⟨d,c,H1,g⟩:=dE (Aa h3) (Vi h3) (zL s[1] w) (zL s[2] w);have y:=ZY s[1];have z:=ZY s[2];have i0:(0:Int)<(s.size:Int):=qo;have D:(1:Int)<(s.size:Int):=qo;have i2:(2:Int)<(s.size:Int):=qo;by_cases h0:s[0].toNat=92
  .have d0:((s[0].toNat:Int) != 92)=false:=by rw[bne_eq_false_iff_eq];omega
   have B:s.data.toList.length=s.size:=by rw[Array.length_toList];rfl
   clear B;obtain⟨a,i⟩:=xE (fE s[1]);obtain⟨b,j⟩:=xE (fE s[2]);have o:=aA i;have p:=aA j;rw[<-i] at y H1 d c;rw[<-j] at z g d c;clear i j;by_cases ha:a<0
   .have HE:=aA (c.o (fun h=>by omega));have da:decide (a<0)=true:=dX ha;clear d c h0;go_enter func205,ntmps205;go_wp2_with fail;refine H1.o.mono ?_;rintro e w' ⟨rfl,rfl⟩;exact Tc
   .have da:decide (a<0)=false:=dF ha;by_cases r:b<0
    .have HE:=aA (c.o (fun h=>by omega));have A:decide (b<0)=true:=dX r;clear d c h0;go_enter func205,ntmps205;go_wp2_with fail;refine H1.o.mono ?_;rintro e w' ⟨rfl,rfl⟩;go_wp2_with fail;refine g.o.mono ?_;rintro e w' ⟨rfl,rfl⟩;exact Tc
    .have A:decide (b<0)=false:=dF r;obtain⟨q,m⟩:=xE (UInt8.ofNat (16 * a.toNat+b.toNat));have k:(q.toNat:Int)=16 * a+b:=by
      have:q.toNat=16 * a.toNat+b.toNat:=by rw[m,UInt8.toNat_ofNat'];omega
      omega
     have HE:Hid (qW s.data.toList=(q, !fF q)):=aA (by rw[d.o,iP ⟨h0,qo,qo⟩,m]);have f:=fun w=>CF q w
     rw[k] at f;have f:=aA f;have x:Hid ((q.toNat:Int)=16 * a+b):=aA k;have q1:IntKind.i64.wrap (16 * a)=16 * a:=IntWalk.i64_in _ qo;have t:IntKind.i64.wrap (16 * a+b)=16 * a+b:=IntWalk.i64_in _ qo;have v:IntKind.u8.wrap (16 * a+b)=16 * a+b:=MR _ qo qo;clear d c h0 m k;go_enter func205,ntmps205;go_wp2_with fail;refine H1.o.mono ?_;rintro e w' ⟨rfl,rfl⟩;go_wp2_with fail;refine g.o.mono ?_;rintro e w' ⟨rfl,rfl⟩;go_wp2;rw[o.o] at q1 t v;rw[p.o] at t v;go_quiet ((go_at_call 240;exact Calls.quiet_of_same (Nv (zL _ _))))
     rw[<-o.o,<-p.o];go_wp2_with fail;refine(f.o _).mono ?_;rintro e w' ⟨rfl,rfl⟩;go_wp2;go_ret2
     exact⟨by rw[HE.o,x.o];rfl,⟨nq,rfl⟩⟩
  .have HE:=aA (c.o (fun h=>h0 h.1));have d0:((s[0].toNat:Int) != 92)=true:=bne_iff_ne.2 qo;clear d c h0;go_enter func205,ntmps205;exact Tc
 .have HE:=aA (JR (l:=s.data.toList) (by rw[Array.length_toList];show s.size<3;omega));have d3:decide ((s.size:Int)<3)=true:=dX qo;go_enter func205,ntmps205;exact Tc
theorem XR(l:lU):strOfNums (l.map fun y=>(y.toNat:Int))=bs l:=by
 unfold strOfNums bs;rw[List.map_map]
 congr 2
 conv=>rhs;rw[<-List.map_id l]
 apply List.map_congr_left
 intro x _;simp
theorem XS{w:World}{B n:Nat}{v:Value}{l:lU}(h:w.ownsRow B 5 1 v n (bF l))(d:l.length=n):
 (convert 67 9 v).run prog w=.ok (.string (bs l)) w:=by
 subst d;have h2:=h
 rcases h.2 with ⟨e,b⟩|⟨g,cap,cur,e,_⟩
 .subst e;have c:l=[]:=List.eq_nil_of_length_eq_zero b;subst c;exact run_convert_bytes_nil (P:=prog) w _ 5 underlying67 underlying5 0 0 _ underlying9
 .subst e;have:=run_convert_bytes_arg (P:=prog) w 67 5 underlying67 underlying5 g 0 l.length cap (l.map fun y=>(y.toNat:Int)) qs (fun i a=>by
   rw[Nat.zero_add,h2.cellAt i qo,OK,gE a];simp[List.getD,a]) _ underlying9
  rwa [XR] at this
def oE(s:bY)(k:Nat)(out:lU):Prop:=jV s.data.toList=lQ (s.data.toList.drop k).length (s.data.toList.drop k) out k
theorem FR(f:Nat):∀(g:Nat) (l:lU) (out:lU) (k:Nat),l.length<=f->l.length<=g->lQ f l out k=lQ g l out k:=by
 induction f with
 |zero=>
  intro g l out k b a;have:l=[]:=List.eq_nil_of_length_eq_zero qo;subst this
  cases g<;>rfl
 |succ f e=>
  intro g l out k b a
  cases l with
  |nil=>cases g<;>rfl
  |cons c r=>
   cases g with
   |zero=>simp at a
   |succ g=>
    simp only[List.length_cons] at b a;unfold lQ;by_cases h1:c.toNat=34
    .rw[iP h1,iP h1]
    .rw[iN h1,iN h1];by_cases h2:fF c=true
     .rw[iP h2,iP h2];exact e g r _ _ qo qo
     .rw[iN h2,iN h2]
      cases IJ (c::r) with
      |none=>rfl
      |some d=>exact e g _ _ _ (by rw[List.length_drop];omega) (by rw[List.length_drop];omega)
theorem Cj(s:bY):oE s 1 []:=by
 unfold oE jV;exact FR _ _ _ _ _ (by rw[List.length_drop];omega) (lR _)
structure Hm (s:ByteArray) (k:Nat) (out:List UInt8) (c:UInt8):Prop where
 quote:c.toNat=34->jV s.data.toList=if 64<out.length then ([],0) else (out,k+1)
 plain:¬c.toNat=34->fF c=true->oE s (k+1) (out++[c])
 no:¬c.toNat=34->fF c=false->(qW (s.data.toList.drop k)).2=false->jV s.data.toList=([],0)
 odd:¬c.toNat=34->fF c=false->(qW (s.data.toList.drop k)).2=true->oE s (k+3) (out++[(qW (s.data.toList.drop k)).1])/\k+3<=s.size
theorem Om{l:lU}(h:(qW l).2=true):3<=l.length:=by
 rcases Nat.lt_or_ge l.length 3 with h1|h1
 .rw[JR h1] at h;exact absurd h qe
 .exact h1
theorem Hn{s:bY}{k:Nat}{out:lU}(b:k<s.size)(h:oE s k out):Hm s k out s[k]:=by
 have d:s.data.toList.length=s.size:=by rw[Array.length_toList];rfl
 have c:k<s.data.toList.length:=by rw[d];exact b
 unfold oE at h;have a:s.data.toList.drop k=s[k] ::s.data.toList.drop (k+1):=List.drop_eq_getElem_cons c;have hlen:(s.data.toList.drop k).length=(s.data.toList.drop (k+1)).length+1:=by rw[List.length_drop,List.length_drop];omega
 rw[hlen] at h;have h3:=h;rw[a] at h3;unfold lQ at h3;refine⟨fun h1=> ?_,fun h1 h2=> ?_,fun h1 h2 h4=> ?_,fun h1 h2 h4=> ?_⟩
 .rw[iP h1] at h3;exact h3
 .rw[iN h1,iP h2] at h3;exact h3
 .rw[iN h1,iN (by rw[h2];decide),<-a,ZZ,h4] at h3;exact h3
 .rw[iN h1,iN (by rw[h2];decide),<-a,ZZ,h4] at h3;have hle:=Om h4;rw[List.length_drop] at hle;refine⟨?_,qo⟩;unfold oE;rw[h3];show lQ _ (List.drop 2 (List.drop (k+1) s.data.toList)) _ _=_;rw[List.drop_drop,show k+1+2=k+3 by omega];exact FR _ _ _ _ _ (by rw[List.length_drop,List.length_drop];omega) (lR _)
theorem On{s:bY}{k:Nat}{out:lU}(a:¬k<s.size)(h:oE s k out):jV s.data.toList=([],0):=by
 have b:s.data.toList.length=s.size:=by rw[Array.length_toList];rfl
 unfold oE at h;rw[h,List.drop_of_length_le qo];rfl
set_option maxRecDepth 512 in
theorem yN(s:bY)(k:Nat)(b:k<=s.size):(s.extract k s.size).data.toList=s.data.toList.drop k:=by
 have h:(s.extract k s.size).data=s.data.extract k s.size:=ByteArray.data_extract;rw[h,Array.toList_extract];have a:s.data.toList.length=s.size:=by rw[Array.length_toList];rfl
 show (s.data.toList.drop k).take (s.size - k)=s.data.toList.drop k;exact List.take_of_length_le (by rw[List.length_drop,a];omega)
set_option maxRecDepth 3000 in
theorem XT(s:bY)(hs:s.size<=4096)(w:World):Calls prog 154 #[.string s] w fun e w'=>e=.returned (.tuple #[.string (bs (jV s.data.toList).1),.int .i64 ((jV s.data.toList).2:Nat)])/\Below w.heap.size w w':=by
 obtain⟨i0,hi,ae,af,ag⟩:=info_parts vC;obtain⟨W,X,Y,Z⟩:=dE hi ae af ag;clear hi ae af ag;have V:=aA (Cj s);go_enter func154,ntmps154;go_wp2;go_loopw [4,5] (fun o i wr=>∃(k:Nat) (out:lU) (v:Value),v=o/\k<=s.size+1/\i=.int .i64 k/\Hid (oE s k out)/\Hid (out.length<=k)/\Hid (wr.ownsRow w.heap.size 5 1 v out.length (bF out))/\Hid (Below w.heap.size w wr)) (fun _ i _=>s.size - (intOf i).toNat)
 case atStart=>exact⟨1,[],_,rfl,qo,rfl,V,aA qs,aA (World.ownsRow_nil _ _ _ _),aA (Below.refl _ _)⟩
 case round=>
  clear V;obtain⟨k,out,v,rfl,hk,rfl,G,l,F,j⟩:=hrel;by_cases aa:k<s.size
  .have n:=aA (Hn aa G.o);obtain⟨A,c,rfl,-,-,-⟩:=lO F.o;have g:=aA (fun w=>CF s[k] w);clear G;by_cases h34:s[k].toNat=34
   .have d34:((s[k].toNat:Int)==34)=true:=bQ.2 qo;have q:=n.o.quote h34;have hx:=XS F.o rfl;clear n g h34;by_cases h64:64<out.length
    .rw[iP h64] at q;have S:=aA q;have d64:decide ((out.length:Int) > 64)=true:=dX qo;clear q;go_wp2;go_ret2
     exact⟨by rw[S.o];rfl,j.o⟩
    .rw[iN h64] at q;have S:=aA q;have d64:decide ((out.length:Int) > 64)=false:=dF qo;have q1:IntKind.i64.wrap ((k:Int)+1)=(k:Int)+1:=IntWalk.i64_in _ qo;clear q;go_wp2;go_ret2
     exact⟨by rw[S.o];rfl,j.o⟩
   .have d34:((s[k].toNat:Int)==34)=false:=bN.2 qo;obtain⟨R,M,P⟩:=aY (n.o.plain h34) (n.o.no h34) (n.o.odd h34);clear n h34;by_cases E:fF s[k]=true
    .have T:=aA (R.o E);rw[E] at g;clear R M P E;have Q:=F;have r:=j;obtain⟨a,aj⟩:=xE wr;subst aj;have C:=Q.o.alloc (.cells #[.int .u8 (s[k].toNat:Int)] 5);have z:Sl (a.alloc (.cells #[.int .u8 (s[k].toNat:Int)] 5)) (a.heap.size+1) (some ⟨a.heap.size,0,none⟩) (bF [s[k]]):=Sl.laid a _ _ _ _ rfl;have y:=r.o.alloc r.o.size (.cells #[.int .u8 (s[k].toNat:Int)] 5);obtain⟨N,x,K,f⟩:=dE (tX [s[k]]) C z y;clear C z y;go_wp2_with fail;refine(g.o _).mono ?_;rintro e w' ⟨rfl,rfl⟩;clear g;go_wp2_with ((at_builtin;refine lN _ rfl (.tmp 27) (.tmp 31) 67 rfl w.heap.size 5 i0 (.int .u8 0) 1 1 underlying67 W.o X.o Y.o Z.o rfl qe _ out.length _ rfl x.o (a.heap.size+1) (some ⟨a.heap.size,0,none⟩) 1 1 (bF [s[k]]) rfl rfl K.o N.o (by unfold maxLen;have:=l.o;omega) (qA l.o) f.o.size ?_;intro v3 w3 D B U;have J:=aA (dW x.o f.o B (lR _) f.o.size);have O:=aA D;clear D B U))
     go_roundw
     case rel=>exact⟨k+1,out++[s[k]],_,rfl,qo,by go_num,T,aA (by rw[aL,List.length_singleton];have:=l.o;omega),aA (by rw[iY,aL];exact O.o),J⟩
     case measure=>simp[intOf];omega
    .have H:fF s[k]=false:=by simpa using E
     rw[H] at g;have ai:k<=s.size:=qo;have ad:(s.extract k s.size).size<=maxLen:=by rw[ByteArray.size_extract];unfold maxLen;omega
     have b:=fun w=>Ci (s.extract k s.size) ad w
     rw[yN s k ai] at b;obtain⟨b,t,m⟩:=aY b (M.o H) (P.o H);have i1:(0:Int)<=(k:Int):=qo;have i2:(k:Int)<=(s.size:Int):=qo;clear R M P E ad H
     rcases ab:qW (s.data.toList.drop k) with ⟨d,ok⟩
     rw[ab] at b t m;simp only at b t m;clear ab
     cases ok
     .have L:=aA (t.o qs);clear t m;go_wp2_with fail;refine(g.o _).mono ?_;rintro e w' ⟨rfl,rfl⟩;go_wp2_with fail;refine(b.o _).mono ?_;rintro e wd ⟨rfl,I,p⟩;have ah:=aA (fZ j.o ⟨I,p⟩);clear b p;go_wp2;go_ret2
      exact⟨by rw[L.o];rfl,ah.o⟩
     .have T:=aA (m.o qs).1;have ak:k+3<=s.size:=(m.o qs).2;clear t m;go_wp2_with fail;refine(g.o _).mono ?_;rintro e w' ⟨rfl,rfl⟩;go_wp2_with fail;refine(b.o _).mono ?_;rintro e a ⟨rfl,I,p⟩;have Q:=aA (Gs F.o ⟨I,p⟩);have r:=aA (fZ j.o ⟨I,p⟩);clear b p;have C:=Q.o.alloc (.cells #[.int .u8 (d.toNat:Int)] 5);have z:Sl (a.alloc (.cells #[.int .u8 (d.toNat:Int)] 5)) (a.heap.size+1) (some ⟨a.heap.size,0,none⟩) (bF [d]):=Sl.laid a _ _ _ _ rfl;have y:=r.o.alloc r.o.size (.cells #[.int .u8 (d.toNat:Int)] 5);obtain⟨N,x,K,f⟩:=dE (tX [d]) C z y;clear C z y;go_wp2_with ((at_builtin;refine lN _ rfl (.tmp 44) (.tmp 46) 67 rfl w.heap.size 5 i0 (.int .u8 0) 1 1 underlying67 W.o X.o Y.o Z.o rfl qe _ out.length _ rfl x.o (a.heap.size+1) (some ⟨a.heap.size,0,none⟩) 1 1 (bF [d]) rfl rfl K.o N.o (by unfold maxLen;have:=l.o;omega) (qA l.o) f.o.size ?_;intro v3 w3 D B U;have J:=aA (dW x.o f.o B (lR _) f.o.size);have O:=aA D;clear D B U))
      go_roundw
      case rel=>exact⟨k+3,out++[d],_,rfl,qo,by go_num,T,aA (by rw[aL,List.length_singleton];have:=l.o;omega),aA (by rw[iY,aL];exact O.o),J⟩
      case measure=>simp[intOf];omega
  .have L:=aA (On aa G.o);clear G;go_wp2;go_ret2
   exact⟨by rw[L.o];rfl,j.o⟩
theorem QCb{p:Prop}(h:p:=by
 intro t ht
 rcases List.mem_append.1 ht with ht|ht
 .exact h.place t ht
 .rw[List.mem_singleton] at ht;subst ht;exact⟨by show (0:Int)<=k;omega,by show (k:Int)<=4096;omega⟩):p:=h
theorem wZ:∀(f:Nat) (l out:lU) (k:Nat),(lQ f l out k).2<=k+l.length/\(lQ f l out k).1.length<=64
 |0,_,_,_=>⟨Nat.zero_le _,by simp[lQ]⟩
 |_+1,[],_,_=>⟨Nat.zero_le _,by simp[lQ]⟩
 |f+1,c::r,out,k=>by
  unfold lQ;by_cases h1:c.toNat=34
  .rw[iP h1];by_cases h2:64<out.length
   .rw[iP h2];exact⟨Nat.zero_le _,qs⟩
   .rw[iN h2];exact⟨by simp only[List.length_cons];omega,by show out.length<=64;omega⟩
  .rw[iN h1];by_cases h2:fF c=true
   .rw[iP h2];have:=wZ f r (out++[c]) (k+1);exact⟨by simp only[List.length_cons];omega,this.2⟩
   .rw[iN h2]
    cases e:IJ (c::r) with
    |none=>exact⟨Nat.zero_le _,qs⟩
    |some d=>
     have:=wZ f (r.drop 2) (out++[d]) (k+3);rw[List.length_drop] at this;have h3:2<=r.length:=by
      unfold IJ at e
      rcases r with _|⟨a,_|⟨b,t⟩⟩
      .simp at e
      .simp at e
      .simp
     exact⟨by simp only[List.length_cons];omega,this.2⟩
theorem Oo(l:lU):(jV l).2<=l.length+1/\(jV l).1.length<=64:=by
 unfold jV;have:=wZ l.length (l.drop 1) [] 1;rw[List.length_drop] at this;exact⟨qo,this.2⟩
theorem Ho{l:lU}(h:0<l.length):(jV l).2<=l.length:=by
 unfold jV;have:=wZ l.length (l.drop 1) [] 1;rw[List.length_drop] at this;omega
theorem MS(p:UInt8->Bool)(l:lU):cL p l<=l.length:=Hh p l
theorem rV(neg:Bool)(l:lU):(dZ neg l).2<=l.length/\bK (dZ neg l).1:=by
 unfold dZ;dsimp only;have:=MS bA l;have h0:bK 0:=by unfold bK;omega
 split
 .exact⟨Nat.zero_le _,h0⟩
 .cases neg
  .rw[iN qe];split
   .exact⟨this,by unfold bK;omega⟩
   .exact⟨Nat.zero_le _,h0⟩
  .rw[iP rfl];split
   .exact⟨this,by unfold bK;omega⟩
   .exact⟨Nat.zero_le _,h0⟩
theorem zM(l:lU):(gB l).length<=l.length/\(gB l).length<=16:=by
 unfold gB;dsimp only;split
 .rename_i h;have:=(Gz h).2;rw[cH] at this;exact⟨List.length_take_le' _ _,this⟩
 .exact⟨Nat.zero_le _,qs⟩
structure Ck (l:List UInt8) (t:Tok) (n:Nat):Prop where
 le:n<=l.length
 aDy:n≠0->1<=t.aDy/\t.aDy<=6
 size:t.str.size<=4096
 num:bK t.num
 place:t.at_=0
theorem qJ(l:lU)(i:l.length<=4096):Ck l (bX l).1 (bX l).2:=by
 have h0:bK 0:=by unfold bK;omega
 have a:(bs []).size<=4096:=by rw[cH];simp
 rcases l with _|⟨c,r⟩
 .exact⟨Nat.zero_le _,fun h=>absurd rfl h,a,h0,rfl⟩
 .unfold bX;dsimp only;have e:=zM (c::r);have j:=zM r;have b:=rV false (c::r);have d:=rV false r;have f:=rV true r;have k:=Oo (c::r);have g:=Ho (l:=c::r) qs;simp only[List.length_cons] at *;split
  .exact⟨e.1,fun _=>⟨qs,qs⟩,by show (bs (gB (c::r))).size<=4096;rw[cH];omega,h0,rfl⟩
  split
  .exact⟨b.1,fun _=>⟨qs,qs⟩,a,b.2,rfl⟩
  split
  .split
   .exact⟨Nat.zero_le _,fun h=>absurd rfl h,a,h0,rfl⟩
   .exact⟨by show (dZ true r).2+1<=r.length+1;omega,fun _=>⟨qs,qs⟩,a,f.2,rfl⟩
  split
  .split
   .exact⟨Nat.zero_le _,fun h=>absurd rfl h,a,d.2,rfl⟩
   .exact⟨by show (dZ false r).2+1<=r.length+1;omega,fun _=>⟨qs,qs⟩,a,d.2,rfl⟩
  split
  .refine⟨by show (if gB r=[] then 0 else (gB r).length+1)<=r.length+1;split<;>omega,fun _=>⟨qs,qs⟩,by show (bs (gB r)).size<=4096;rw[cH];omega,h0,rfl⟩
  split
  .exact⟨g,fun _=>⟨qs,qs⟩,by show (bs (jV (c::r)).1).size<=4096;rw[cH];omega,h0,rfl⟩
  split
  .exact⟨qs,fun _=>⟨qs,qs⟩,by show (bs [c]).size<=4096;rw[cH];simp,h0,rfl⟩
  .exact⟨Nat.zero_le _,fun h=>absurd rfl h,a,h0,rfl⟩
structure pK (out:List Tok) (k:Nat):Prop where
 len:out.length<=k
 size:∀t∈out,t.str.size<=4096
 num:∀t∈out,bK t.num
 place:∀t∈out,0<=t.at_/\t.at_<=4096
 aDy:∀t∈out,1<=t.aDy/\t.aDy<=6
theorem pK.nil(k:Nat):pK [] k:=⟨Nat.zero_le _,qs,qs,qs,qs⟩
theorem pK.snoc{out:List Tok}{k:Nat}(h:pK out k){l:lU}(d:k+l.length<=4096)(c:(bX l).2≠0):pK (out++[{(bX l).1 with at_:=(k:Int)}]) (k+(bX l).2):=by
 have a:=qJ l qo;have b:=a.aDy c;refine⟨by rw[aL,List.length_singleton];have:=h.len;omega,?_,?_,?_,?_⟩
 .intro t ht
  rcases List.mem_append.1 ht with ht|ht
  .exact h.size t ht
  .rw[List.mem_singleton] at ht;subst ht;exact a.size
 .intro t ht
  rcases List.mem_append.1 ht with ht|ht
  .exact h.num t ht
  .rw[List.mem_singleton] at ht;subst ht;exact a.num
 .exact QCb
 .intro t ht
  rcases List.mem_append.1 ht with ht|ht
  .exact h.aDy t ht
  .rw[List.mem_singleton] at ht;subst ht;exact b
theorem pK.aEU{out:List Tok}{k:Nat}(h:pK out k)(c:k<=4096):Toks (out++[⟨7,k,0,bs []⟩]):=by
 have d:=h.len;refine⟨by rw[aL,List.length_singleton];omega,?_,?_,?_,?_,?_⟩
 .intro i t ht b;rw[aL,List.length_singleton]
  rcases Nat.lt_or_ge i out.length with h1|h1
  .omega
  .rw[List.getElem?_append_right h1] at ht
   rcases a:i - out.length with _|j
   .rw[a] at ht;simp at ht;subst ht;exact absurd rfl b
   .rw[a] at ht;simp at ht
 .intro t ht
  rcases List.mem_append.1 ht with ht|ht
  .exact h.size t ht
  .rw[List.mem_singleton] at ht;subst ht;show (bs []).size<=4096;rw[cH];simp
 .intro t ht
  rcases List.mem_append.1 ht with ht|ht
  .exact h.num t ht
  .rw[List.mem_singleton] at ht;subst ht;show bK 0;unfold bK;omega
 .exact QCb
 .intro t ht
  rcases List.mem_append.1 ht with ht|ht
  .have:=h.aDy t ht;omega
  .rw[List.mem_singleton] at ht;subst ht;exact⟨qs,qs⟩
theorem zN:∀(f:Nat) (l:lU) (k:Nat) (out:List Tok),k+l.length<=4096->pK out k->(jL f l k out).2.1=0->Toks (jL f l k out).1/\0<(jL f l k out).1.length
 |0,l,k,out,_,_,h=>absurd h (by simp[jL])
 |f+1,[],k,out,hk,ha,_=>by
  simp only[jL];exact⟨ha.aEU (by simpa using hk),qs⟩
 |f+1,c::r,k,out,hk,ha,h=>by
  simp only[List.length_cons] at hk;unfold jL at h ⊢;dsimp only at h ⊢;by_cases h1:c.toNat=32\/c.toNat=10
  .rw[iP h1] at h ⊢;exact zN f r (k+1) out qo ⟨qA ha.len,ha.size,ha.num,ha.place,ha.aDy⟩ h
  .rw[iN h1] at h ⊢;by_cases h2:(bX (c::r)).2=0
   .rw[iP h2] at h;exact absurd h qs
   .rw[iN h2] at h ⊢;have a:=qJ (c::r) (by simp only[List.length_cons];omega);have hle:=a.le;simp only[List.length_cons] at hle;exact zN f _ _ _ (by rw[List.length_drop];simp only[List.length_cons];omega) (ha.snoc (by simp only[List.length_cons];omega) h2) h
theorem TD{l:lU}(h:(jP l).2.1=0):Toks (jP l).1/\0<(jP l).1.length:=by
 unfold jP at h ⊢;by_cases h1:4096<l.length
 .rw[iP h1] at h;exact absurd h qs
 .rw[iN h1] at h ⊢;exact zN _ _ _ _ qo (pK.nil 0) h
section
open Go.Lib
def mS(a:Nat)(c:UInt8):Nat:=a * 10+(c.toNat - 48)
theorem Hp:∀(l:lU) (a:Nat),a<=l.foldl mS a
 | [],a=>lR _
 |c::l,a=>lT (show a<=mS a c by unfold mS;omega) (Hp l _)
theorem OU:∀(l:lU) (a:Nat),(∀c∈l,bA c=true)->a<18446744073709551616->
 parseUint10 a l=if l.foldl mS a<18446744073709551616 then .ok (l.foldl mS a) else .range
 | [],a,_,ha=>by
   show NumEnd.ok a=if a<18446744073709551616 then NumEnd.ok a else NumEnd.range
   rw[iP ha]
 |c::l,a,hd,ha=>by
  have d:=(eU c).1 (hd c qs);show parseUint10 a (c::l)=if l.foldl mS (mS a c)<18446744073709551616 then NumEnd.ok (l.foldl mS (mS a c)) else NumEnd.range
  unfold parseUint10;rw[iP qo];have b:mS a c=a * 10+(c.toNat - 48):=rfl;have e:=Hp l (mS a c);by_cases h1:1844674407370955162<=a
  .rw[iP h1,iN qo]
  .rw[iN h1];by_cases h2:18446744073709551616<=a * 10+(c.toNat - 48)
   .rw[iP h2,iN qo]
   .rw[iN h2,<-b];exact OU l _ (fun c h=>hd c (by simp[h])) qo
theorem zO:∀(l:lU),∀c∈l.take (cL bA l),bA c=true
 | [],c,a=>by simp[cL] at a
 |x::l,c,a=>by
  unfold cL at a;by_cases b:bA x=true
  .rw[List.takeWhile_cons_of_pos b,List.length_cons,List.take_succ_cons] at a
   rcases List.mem_cons.1 a with rfl|a
   .exact b
   .exact zO l c a
  .rw[List.takeWhile_cons_of_neg b] at a;simp at a
theorem CG{l:lU}(h:¬(cL bA l=0\/(1<cL bA l/\l.head?=some 48))):l.take (cL bA l)≠[]:=by
 intro e;have h1:=congrArg List.length e;rw[List.length_take] at h1;have:=MS bA l;simp only[List.length_nil] at h1;exact h (.inl qo)
theorem Ab{l:lU}(a:∀c∈l,bA c=true)(b:l≠[]):parseMag l=if pW l<18446744073709551616 then .ok (pW l) else .range:=by
 unfold parseMag;rw[iN b,OU l 0 a qo];rfl
theorem zP{l:lU}(a:∀c∈l,bA c=true)(b:l≠[]):atoiAll l=if pW l<=9223372036854775807 then .ok (pW l:Int) else .range:=by
 rcases l with _|⟨c,r⟩
 .exact absurd rfl b
 .have d:=(eU c).1 (a c qs);rw[atoiAll_plain c r qo qo,Ab a b];by_cases h1:pW (c::r)<18446744073709551616
  .rw[iP h1];simp only[signless];by_cases h2:pW (c::r)<=9223372036854775807
   .rw[iP h2,iN qo]
   .rw[iN h2,iP qo]
  .rw[iN h1,iN qo];rfl
theorem IP{l:lU}(a:∀c∈l,bA c=true)(b:l≠[]):atoiAll (45 ::l)=if pW l<=9223372036854775808 then .ok (-(pW l:Int)) else .range:=by
 rw[atoiAll_minus,Ab a b];by_cases h1:pW l<18446744073709551616
 .rw[iP h1];simp only[signed];by_cases h2:pW l<=9223372036854775808
  .rw[iP h2,iN qo]
  .rw[iN h2,iP qo]
 .rw[iN h1,iN qo];rfl
theorem Vj{neg:Bool}{l:lU}(h:cL bA l=0\/(1<cL bA l/\l.head?=some 48)):dZ neg l=(0,0):=by
 unfold dZ;dsimp only;rw[iP h]
theorem Vk{neg:Bool}{l:lU}{v:Int}(h:¬(cL bA l=0\/(1<cL bA l/\l.head?=some 48)))(ha:atoiAll ((if neg=true then [45] else [])++l.take (cL bA l))=.ok v):dZ neg l=(v,cL bA l):=by
 have a:=zO l;have b:=CG h;unfold dZ;dsimp only;rw[iN h]
 cases neg
 .rw[iN qe,List.nil_append,zP a b] at ha;rw[iN qe];split at ha
  .rename_i h2;injection ha with ha;rw[iP h2,ha]
  .cases ha
 .rw[iP rfl] at ha;rw[show[45]++l.take (cL bA l)=45 ::l.take (cL bA l) from rfl,IP a b] at ha;rw[iP rfl];split at ha
  .rename_i h2;injection ha with ha;rw[iP h2,ha]
  .cases ha
theorem Cl{neg:Bool}{l:lU}(h:¬(cL bA l=0\/(1<cL bA l/\l.head?=some 48)))(ha:atoiAll ((if neg=true then [45] else [])++l.take (cL bA l))=.range):dZ neg l=(0,0):=by
 have a:=zO l;have b:=CG h;unfold dZ;dsimp only;rw[iN h]
 cases neg
 .rw[iN qe,List.nil_append,zP a b] at ha;rw[iN qe];split at ha
  .cases ha
  .rename_i h2;rw[iN h2]
 .rw[iP rfl] at ha;rw[show[45]++l.take (cL bA l)=45 ::l.take (cL bA l) from rfl,IP a b] at ha;rw[iP rfl];split at ha
  .cases ha
  .rename_i h2;rw[iN h2]
theorem JS{neg:Bool}{l:lU}(h:¬(cL bA l=0\/(1<cL bA l/\l.head?=some 48))):atoiAll ((if neg=true then [45] else [])++l.take (cL bA l))≠Lib.NumEnd.syntax:=by
 have a:=zO l;have b:=CG h
 cases neg
 .rw[iN qe,List.nil_append,zP a b];split<;>simp
 .rw[iP rfl,show[45]++l.take (cL bA l)=45 ::l.take (cL bA l) from rfl,IP a b];split<;>simp
end
end Go.Proofs.YtdfinmcogbkffaaGreatDoor
