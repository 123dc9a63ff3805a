/- Lemmas. -/
import Derived.Test.YtkglnboglppgnaaGreatDoorMah
namespace Go.Proofs.YtkglnboglppgnaaGreatDoor
open Go.RowKit
set_option linter.unusedVariables false
set_option linter.unusedSimpArgs false
set_option maxHeartbeats 16000000
open _root_.Go.Proofs.Tryz
set_option maxRecDepth 20000
section
open Pv
abbrev oY(Q:Nat)(a:oD)(m b:Nat)(sy:Int):Obj:= .cells #[.int .i64 (Q:Int),.slice a m b,.int .i64 sy,.int .i64 0,.bool false] 77
theorem Hn(D Q m b:Nat)(a:oD)(sy:Int)(w:World)(c:Q<=2000000)(hm:m<=Q)(h:w.heap[D]? =some (oY Q a m b sy)):Calls prog 126 #[.pointer (some ⟨D,0,none⟩)] w (aP (.int .i64 ((Q:Int) - (m:Int))) w):=by
 obtain⟨⟨d0,d1,d2,d3,d4⟩,_⟩:=dO h;have e:=aE h;have d:IntKind.i64.wrap ((Q:Int) - (m:Int))=(Q:Int) - (m:Int):=IntWalk.i64_in _ qo;go_enter func126,ntmps126;go_upto_region 1 with (fail)
 go_quiet (fail)
 go_wp2;go_ret;exact⟨rfl,fL (Below.refl _ _) ⟨_,rfl⟩⟩
theorem OM(D Q m b:Nat)(a:oD)(sy:Int)(w:World)(h:w.heap[D]? =some (oY Q a m b sy)):Calls prog 73 #[.pointer (some ⟨D,0,none⟩)] w (fun e w'=>e=.returned (.bool false)/\w'=w):=by
 obtain⟨⟨d0,d1,d2,d3,d4⟩,_⟩:=dO h;have c:=aE h;go_enter func73,ntmps73;go_wp2;go_ret;exact⟨rfl,rfl⟩
theorem ON(D Q m c:Nat)(a:oD)(sy:Int)(w:World)(h:w.heap[D]? =some (oY Q a m c sy)):Calls prog 38 #[.pointer (some ⟨D,0,none⟩)] w (fun e w'=>e=.returned (.int .i64 0)/\w'.heap[D]? =some (oY Q a m c (m:Int))/\aO (fun b=>b≠D) w w'):=by
 have d:=aA (OM D Q m c a sy w h);have H:=aA h;obtain⟨⟨d0,d1,d2,d3,d4⟩,f0,f1,f2,f3,f4⟩:=dO h;have f:=aE h;clear h;go_enter func38,ntmps38;go_upto_region 3 with (go_at_call 73;refine d.o.mono ?_;rintro e w1 ⟨rfl,rfl⟩)
 go_wp2;go_ret;exact⟨rfl,aH H.o 2 _,aJ _⟩
theorem ZZ{w:World}{B:Nat}{a:oD}{n c:Nat}{l:lU}(h:w.ownsRow B 5 1 (.slice a n c) l.length (bH l)):iA w (fun b=>B<=b/\b<w.heap.size) a (bH l):=by
 obtain⟨k,m,e,_,h3,h4⟩:=lN h;injection e with f o p;subst f;intro j;obtain⟨b,off,d,i,g⟩:=h3 j;exact⟨b,off,d,⟨h4 _ d,i⟩,g⟩
theorem XQ(D Q k:Nat)(g:oD)(sy:Int)(bs:lU)(a:oD)(c:Nat)(p:lU)(w:World)(C:Q<=1000000)(h:w.heap[D]? =some (oY Q g bs.length k sy))(d:Sl w w.heap.size g (bH bs))(hp:Sl w w.heap.size a (bH p))(h0:0<p.length)(G:bs.length+p.length<=Q):
 Calls prog 70 #[.pointer (some ⟨D,0,none⟩),.slice a p.length c] w (fun e w'=>e=.returned (.int .i64 0)/\(∃(l:lU) (A:oD) (i:Nat),l.length=bs.length+p.length/\w'.heap[D]? =some (oY Q A l.length i sy)/\iA w' (fun b=>w.heap.size<=b/\b<w'.heap.size) A (bH l))/\aO (fun b=>b≠D) w w'):=by
 obtain⟨z,H,B,n⟩:=dJ (Hn D Q bs.length k g sy w qo qo h) h (And.intro d hp) (And.intro G (And.intro h0 C));unfold aP at z;have W:¬((Q:Int) - (bs.length:Int)<(p.length:Int)):=qo;obtain⟨⟨d0,d1,d2,d3,d4⟩,_⟩:=dO h;have q:=aE h;clear h d hp G h0 C;go_enter func70,ntmps70;go_wp2_with fail;refine z.o.mono ?_;rintro e w1 ⟨rfl,t⟩;obtain⟨s,o⟩:=xE (w1.alloc (.cells #[.slice g bs.length k,.slice a p.length c] 75));have E:Below w1.heap.size w1 s:=by rw[o];exact aB _ _
 have I:s.heap[w1.heap.size]? =some (.cells #[.slice g bs.length k,.slice a p.length c] 75 (0,0)):=by rw[o];exact aM _ _ _ rfl
 have j:=aA (aC t E);obtain⟨y,H1,T⟩:=bA (KD _ [bs,p] s (TN (cs:=[.slice g bs.length k,.slice a p.length c]) (c:=2) I ⟨[_],_,rfl,CV (B.o.1.on j.o) (qA n.o),⟨[_],[],rfl,CV (B.o.2.on j.o) (qA n.o),rfl⟩⟩ (by show 2<=1000;omega)) (bs.length+p.length) (by simp only[tZ,List.length_cons,List.length_nil,List.take_succ_cons,List.take_zero,List.map_cons,List.map_nil,List.sum_cons,List.sum_nil];omega) (qA n.o) (qA n.o)) (aF H.o t) o;clear o E I d0 d1 d2 d3 d4 q t;obtain⟨⟨d0,d1,d2,d3,d4⟩,_⟩:=dO H1.o;have q:=aE H1.o;go_wp2_with fail;rw[<-T.o];refine y.o.mono ?_;rintro e M ⟨l,A,i,rfl,J,_,K,F⟩;obtain⟨O,P,x⟩:=bA J (ZZ K) (aC j.o F);have r:=qK H x.o;clear J K F d0 d1 d2 d3 d4 q y;obtain⟨⟨d0,d1,d2,d3,d4⟩,f0,f1,f2,f3,f4⟩:=dO r.o;have q:=aE r.o;obtain⟨f,m⟩:=xE (M.setCell ⟨D,1,none⟩ (.slice A l.length i));have v:Hid (f.heap[D]? =some (oY Q A l.length i sy)):=aA (by rw[m];exact aH r.o 1 _);have R:Hid (aO (fun b=>b≠D) w f):=aA (by rw[m];exact(aK x.o).trans (aJ _));have S:Hid (iA f (fun b=>w.heap.size<=b/\b<f.heap.size) A (bH l)):=aA (by
  have L:aO (fun b=>b≠D) M f:=by rw[m];exact aJ _
  have V:=aE H.o;exact(P.o.aDc (L.mono fun b _ d e=>qD d.1 j.o.size)).more fun b d=>⟨lT j.o.size d.1,lL d.2 L.size⟩)
 have N:=aA (OM D Q l.length i A sy f v.o);have U:=aA m;clear m;go_wp2_with fail;rw[<-U.o];refine N.o.mono ?_;rintro e X ⟨rfl,rfl⟩;go_wp2;go_ret;exact⟨rfl,⟨l,A,i,O.o,v.o,S.o⟩,R.o⟩
end
section
variable {P:Program} {w:World}
theorem CW(g:Nat)(cs:Array Value):aO (fun b=>b≠g) w (w.setRow g cs):=⟨rfl,rfl,rfl,by simp[World.setRow],fun k _ a=>setRow_other w g k cs a⟩
theorem Ho{o:Oper}{a:Act}{K:Act->World->Prop}{Q:Exit->Act->World->Prop}(ty:TypeId)(x y:Operand)(f:o.op=.store ty x y)(g:Nat)(cells:Array Value)(i:a.eval x=.pointer (some ⟨g,0,none⟩))(j:a.eval y=.agg cells)(t:TypeId)(c:Array Value)(d:w.heap[g]? =some (.cells c t (0,0)))(e:(P.info? ty).map (·.size)=some cells.size)(hold:c.size=cells.size)(h1:cells.all (·.oneCell')=true)
 (h:∀w',Hid (w'.heap[g]? =some (.cells cells t (0,0)))->Hid (aO (fun b=>b≠g) w w')->K (a.put o.dst undef) w'):o.wp P a w K Q:=
 wp_store_row ty x y f g cells i j t c d e hold h1 (h _ (setRow_heap w g c cells t (0,0) d) (CW g cells))
theorem eK{ops:Array Oper}{rest:List Oper}{o:Oper}{a:Act}{Q:Exit->Act->World->Prop}(f:o.guard=none)(ty:TypeId)(x y:Operand)(j:o.op=.store ty x y)(g:Nat)(cells:Array Value)(k:a.eval x=.pointer (some ⟨g,0,none⟩))(l:a.eval y=.agg cells)(t:TypeId)(c:Array Value)(e:w.heap[g]? =some (.cells c t (0,0)))(i:(P.info? ty).map (·.size)=some cells.size)(hold:c.size=cells.size)(h1:cells.all (·.oneCell')=true)
 (h:∀w',Hid (w'.heap[g]? =some (.cells cells t (0,0)))->Hid (aO (fun b=>b≠g) w w')->wpList P ops Q rest (a.put o.dst undef) w'):wpList P ops Q (o::rest) a w:=
 wpList_plain f fun _ d=>Ho ty x y j g cells k l t c e i hold h1 fun w' h2 h3=>d _ _ (h w' h2 h3)
theorem kZ{ops:Array Oper}{o:Oper}{a:Act}{K:Act->World->Prop}{Q:Exit->Act->World->Prop}{E:Prop}(e:o.guard=none)(ty:TypeId)(x y:Operand)(i:o.op=.store ty x y)(g:Nat)(cells:Array Value)(j:a.eval x=.pointer (some ⟨g,0,none⟩))(k:a.eval y=.agg cells)(t:TypeId)(c:Array Value)(d:w.heap[g]? =some (.cells c t (0,0)))(f:(P.info? ty).map (·.size)=some cells.size)(hold:c.size=cells.size)(h1:cells.all (·.oneCell')=true)
 (h:∀w',Hid (w'.heap[g]? =some (.cells cells t (0,0)))->Hid (aO (fun b=>b≠g) w w')->K (a.put o.dst undef) w'):if Region.wanted o (yielded ops a.tmps)=true then Oper.wp P o a w K Q else E:=by
 rw[iP (by simp[Region.wanted,e])];exact Ho ty x y i g cells j k t c d f hold h1 h
end
theorem sW{s:bY}(h:s.size<=cV):s.size<=maxLen:=by unfold cV at h;unfold maxLen;omega
theorem Ci(k:Int)(w:World):Calls prog 142 #[.int .i64 k] w (aP (.bool (decide (k=3\/k=5))) w):=by
 unfold aP;go_enter func142,ntmps142;go_wp2
 all_goals go_returns
 all_goals exact⟨bM (by rw[Bool.eq_iff_iff];simp[*]<;>(intros;omega)),Below.refl _ _⟩
theorem vY:∀(x y:lU),Op.bytesLess x y=decide (x<y)
 | [],[]=>by simp[Op.bytesLess]
 | [],b::y=>by simp[Op.bytesLess]
 |a::x,[]=>by simp[Op.bytesLess]
 |a::x,b::y=>by
  rw[Op.bytesLess,vY x y,Bool.eq_iff_iff,decide_eq_true_iff,List.cons_lt_cons_iff];simp only[Bool.or_eq_true,Bool.and_eq_true,decide_eq_true_eq,bQ]
def sX(a b:V3)(w:World)(e:Ending)(w':World):Prop:=e=.returned (.tuple #[.bool (jW a b).1,.int .i64 (jW a b).2])/\Below w.heap.size w w'
theorem CX(a b:V3)(ha:cZ a)(J:cZ b)(w:World):Calls prog 262 #[dH a,dH b] w (sX a b w):=by
 obtain⟨d,f,j⟩:=a;obtain⟨g,i,k⟩:=b;have l:=aA (fun w=>nL d f j (sW ha.2.2) w);have m:=aA (fun w=>nL g i k (sW J.2.2) w);unfold lF at l m;unfold dH;simp only;have G:=aA (aC (aB w (.cells #[.int .i64 d,.int .i64 f,.string j] 64)) (aB _ (.cells #[.int .i64 g,.int .i64 i,.string k] 64)));obtain⟨ra,y⟩:∃r,aU (d,f,j)=r:=⟨_,rfl⟩;obtain⟨L,z⟩:∃r,aU (g,i,k)=r:=⟨_,rfl⟩;rw[y] at l;rw[z] at m;have H:=aA y;have I:=aA z;clear ha J y z;have A:=aA (aF (aM w (.cells #[.int .i64 d,.int .i64 f,.string j] 64) _ rfl) (aB (w.alloc (.cells #[.int .i64 d,.int .i64 f,.string j] 64)) (.cells #[.int .i64 g,.int .i64 i,.string k] 64)));have B:Hid (((w.alloc (.cells #[.int .i64 d,.int .i64 f,.string j] 64)).alloc (.cells #[.int .i64 g,.int .i64 i,.string k] 64)).heap[w.heap.size+1]? =some (.cells #[.int .i64 g,.int .i64 i,.string k] 64 (0,0))):=aA (aM (w.alloc (.cells #[.int .i64 d,.int .i64 f,.string j] 64)) (.cells #[.int .i64 g,.int .i64 i,.string k] 64) _ qs)
 cases ra
 .go_enter func262,ntmps262;go_wp2_with fail;refine(l.o _).mono ?_;rintro e w1 ⟨rfl,c⟩;have v:=qB G c;clear c l;go_wp2;go_returns;unfold sX jW;rw[iP (.inl H.o)];exact⟨rfl,v.o⟩
 .go_enter func262,ntmps262;go_wp2_with fail;refine(l.o _).mono ?_;rintro e w1 ⟨rfl,c⟩;have v:=qB G c
  try clear n o p C
  replace A:=qK A c;obtain⟨⟨n,o,p⟩,_⟩:=cF A.o;have C:=aE A.o
  try clear q s t D
  replace B:=qK B c;obtain⟨⟨q,s,t⟩,_⟩:=cF B.o;have D:=aE B.o;clear c l;go_wp2_with fail;refine(m.o _).mono ?_;rintro e w2 ⟨rfl,c⟩;have x:=qB v c
  try clear n o p C
  replace A:=qK A c;obtain⟨⟨n,o,p⟩,_⟩:=cF A.o;have C:=aE A.o
  try clear q s t D
  replace B:=qK B c;obtain⟨⟨q,s,t⟩,_⟩:=cF B.o;have D:=aE B.o;clear c m
  cases L
  .go_wp2;go_returns;unfold sX jW;rw[iP (.inr I.o)];exact⟨rfl,x.o⟩
  .go_wp2_with (go_at_call 142;refine(Ci _ _).mono ?_;rintro e N ⟨rfl,c⟩;have K:=qB x c;have E:=qK A c;have F:=qK B c;clear c;obtain⟨⟨a0,M,a2⟩,_⟩:=cF E.o;obtain⟨⟨b0,b1,b2⟩,_⟩:=cF F.o;have O:=aE E.o;have P:=aE F.o)
   all_goals go_returns
   all_goals
    unfold sX jW;rw[iN (fun h=>h.elim (fun h=>by rw[H.o] at h;cases h) (fun h=>by rw[I.o] at h;cases h))];refine⟨?_,?_⟩
    .simp_all [vY]
    .first|exact K.o|exact x.o
theorem BP{p:Prop}(h:p:=by
 go_wp2;go_returns;exact⟨_,rfl,aN.nil,Below.refl _ _⟩):p:=h
theorem KE{p:Prop}(h:p:=by
 have hk1:¬(k:Int)<(l.length:Int):=qo;obtain rfl:k=l.length:=qo;have HF:=aA (OO HR.o);clear HR;go_wp2;go_returns;exact⟨by rw[HF.o];rfl,HB.o⟩):p:=h
theorem KF{p:Prop}(h:p:=by
 unfold aP at HI;have HL:Hid (∀g,PR l[k]=g->((if g=true then eW PR l=(k:Int) else ∀i (hi:i<l.length),i<k+1->PR l[i]=false):Prop)):=aA (fun g hg=>by
  cases g
  .rw[iN qe];intro i hi h
   rcases Nat.lt_or_ge i k with h1|h1
   .exact HR.o i hi h1
   .obtain rfl:i=k:=qo;exact hg
  .rw[iP rfl];exact IW hlt HR.o hg)
 clear HR hcl;generalize hx:l[k]=x at *;generalize PR x=g at *;clear hx;go_wp2_with fail;refine HI.o.mono ?_;rintro e w' ⟨rfl,hb'⟩;have HB':=qB HB hb';clear HI hb'
 cases g
 .have HF:=aA (HL.o false rfl);clear HL;go_wp2;go_roundw
  case rel=>exact⟨k+1,qo,by go_num,aA (by have:=HF.o;rwa [iN qe] at this),HB'⟩
  case measure=>simp[intOf];omega
 .have HF:=aA (HL.o true rfl);clear HL;go_wp2;go_returns;exact⟨by have:=HF.o;rw[iP trivial] at this;rw[this];rfl,HB'.o⟩):p:=h
theorem Yc:dY prog 169 64 3 32:=fS (z:= .agg #[.int .i64 0,.int .i64 0,.string ByteArray.empty]) underlying169 (by kernel_rfl) rfl qe
theorem IV:dY prog 117 172 3 48:=fS (z:= .agg #[.int .i64 0,.string ByteArray.empty,.slice none 0 0]) underlying117 (by kernel_rfl) rfl qe
theorem lK{α:Type}{R:Rep α}{s:Nat}(F:Firm R s){e:TypeId}{w w':World}{ok:nP}{cs:List Value}{l:List α}{v:Value}(h:aZ (R w ok) cs l)(c:Below w.heap.size w w')(d:w'.ownsRow w.heap.size e s v l.length cs):aN R s e w' w.heap.size ok v l:=by
 refine⟨cs,d,h.mono fun r x f=> ?_⟩;refine F.more (F.aDc (F.inb f) (aK c)) fun b a=>⟨a.1,lL a.2 c.size,fun e=> ?_⟩
 have:=(d.lt b e.symm).1;have:=a.2;omega
theorem kG{α:Type}{R:Rep α}{s:Nat}(F:Firm R s)(i:0<s){w:World}{ok:nP}{n c:Nat}{l:List α}(h:aI R w ok (.slice none n c) l):l=[]:=by
 obtain⟨a,j,cs,e,h1,h2,_⟩:=h;injection e with f k m;subst f;by_cases d:cs=[]
 .subst d;exact h2.aD5 (fun _ _ g=>F.len g) i
 .obtain⟨b,off,e,_⟩:=h1 d;cases e
theorem eL{α:Type}{enc:α->List Value}{good:α->Prop}{s:Nat}{e:TypeId}{w:World}{base:Nat}{ok ok':nP}{v:Value}{l:List α}(h:aN (mM enc good) s e w base ok v l):aN (mM enc good) s e w base ok' v l:=by
 obtain⟨cs,h1,h2⟩:=h;exact⟨cs,h1,h2.mono fun r x a=>a⟩
def bX{α:Type}(R:Rep α)(s:Nat)(e:TypeId)(ok:nP)(l:List α)(w:World)(a:Ending)(w':World):Prop:=
 ∃v,a=.returned v/\aN R s e w' w.heap.size ok v l/\Below w.heap.size w w'
theorem Cj{ok:nP}(v:Value)(l:List V3)(w:World)(h:aI VR w ok v l):Calls prog 261 #[v] w (bX VR 3 64 ok l w):=by
 obtain⟨a,c,rfl,n⟩:=h.slice;unfold bX
 rcases a with _|k
 .have B:=kG bJ qe h;subst B;have heq:=Lib.run_eql_slice_nil (P:=prog) w 169 64 none 0 c 0 0 underlying169;clear h;go_enter func261,ntmps261;exact BP
 .obtain⟨D,E,cs,b,h1,h2,_⟩:=h;injection b with b _ z;subst b z;have heq:=Lib.run_eql_slice_nil (P:=prog) w 169 64 (some k) l.length c 0 0 underlying169;have d:Below w.heap.size w (w.alloc (.cells #[] 64)):=(Below.refl _ _).alloc (lR _) _;have g:=aA (World.ownsRow_made (e:=64) w #[] 0 (lR _) (by simp[maxLen]) rfl:(w.alloc (.cells #[] 64)).ownsRow w.heap.size 64 3 (.slice (some ⟨w.heap.size,0,none⟩) 0 0) 0 []);have s:=aA (h2.len (fun _ _ f=>bJ.len f));have t:=aA (h2.aDA (fun _ _ f=>bJ.one f));obtain⟨y,r,q,j⟩:=dJ (h1.lt.below d) h2 d n;clear h1 h2 d n;go_enter func261,ntmps261;go_wp2_with (at_builtin;refine fT Yc rfl (.tmp 5) (.tmp 6) rfl w.heap.size (.slice (some ⟨w.heap.size,0,none⟩) 0 0) 0 [] rfl g.o (some k) l.length c cs rfl s.o (y.o.more qs) t.o (by have:=j.o;unfold maxLen;omega) (qA j.o) qs ?_;intro C c1 w1 p m A;have i:=aA (dW g.o q.o m (lR _) qs);have x:=aA p;clear p m A)
  go_returns;have o:=x.o;simp only[Nat.zero_add,List.nil_append] at o ⊢;exact⟨_,rfl,lK bJ r.o i.o o,i.o⟩
def eW{α:Type}(p:α->Bool)(l:List α):Int:=if l.findIdx p<l.length then (l.findIdx p:Int) else -1
theorem IW{α:Type}{p:α->Bool}{l:List α}{k:Nat}(a:k<l.length)(b:∀i (c:i<l.length),i<k->p l[i]=false)(h:p l[k]=true):eW p l=(k:Int):=by
 have e:l.findIdx p=k:=(List.findIdx_eq a).2 ⟨h,fun j hj=>b j qo hj⟩;unfold eW;rw[e,iP a]
theorem OO{α:Type}{p:α->Bool}{l:List α}(b:∀i (a:i<l.length),i<l.length->p l[i]=false):eW p l= -1:=by
 have e:l.findIdx p=l.length:=by
  rw[List.findIdx_eq_length];intro x c;obtain⟨i,a,rfl⟩:=List.getElem_of_mem c;exact b i a a
 unfold eW;rw[e,iN qo]
theorem sY{α:Type}(p:α->Bool)(l:List α):decide (0<=eW p l)=l.any p:=by
 unfold eW;rw[Bool.eq_iff_iff,decide_eq_true_iff,List.any_eq_true];by_cases h:l.findIdx p<l.length
 .rw[iP h];exact⟨fun _=>⟨_,List.getElem_mem h,List.findIdx_getElem (w:=h)⟩,fun _=>by omega⟩
 .rw[iN h];exact⟨fun h=>by omega,fun⟨x,a,hp⟩=>absurd (List.findIdx_lt_length_of_exists ⟨x,a,hp⟩) h⟩
def jC(w:World)(p i:Nat)(v:Value):Prop:=w.cell? ⟨p,i,none⟩=some v/\p<w.heap.size
theorem jC.on{w w':World}{p i:Nat}{v:Value}(h:jC w p i v)(a:Below w.heap.size w w'):jC w' p i v:=⟨(a.cell (p:=⟨p,i,none⟩) h.2).trans h.1,lL h.2 a.size⟩
theorem Ck(x:Gv)(b:oD)(c:Nat)(C:Int)(N:bY)(p q:Nat)(w:World)(hp:jC w p 0 (.int .i64 C))(a:jC w q 0 (.string N)):
 Calls prog 281 #[.agg #[.int .i64 x.1,.string x.2.1,.slice b x.2.2.length c],.pointer (some ⟨p,0,none⟩),.pointer (some ⟨q,0,none⟩)] w (aP (.bool (mN C N x)) w):=by
 unfold aP;have h1:p≠w.heap.size:=qA hp.2;have h2:q≠w.heap.size:=qA a.2;obtain⟨hp,d⟩:=hp;obtain⟨a,e⟩:=a;go_enter func281,ntmps281;go_wp2
 .rename_i h;go_returns;refine⟨?_,aB _ _⟩;show Ending.returned (.bool (x.2.1.toList==N.toList))=_;rw[jG];unfold mN;rw[dX h];rfl
 .rename_i h;go_returns;refine⟨?_,aB _ _⟩;show Ending.returned (.bool false)=_;unfold mN;rw[dF h];rfl
theorem Hp{ok:nP}(v:Value)(l:List Gv)(C:Int)(N:bY)(p q:Nat)(w:World)(h:aI jQ w ok v l)(d:jC w p 0 (.int .i64 C)/\jC w q 0 (.string N)):Calls prog 280 #[v,.func (.func 281) #[] #[.pointer (some ⟨p,0,none⟩),.pointer (some ⟨q,0,none⟩)]] w (aP (.int .i64 (eW (mN C N) l)) w):=by
 obtain⟨a,c,rfl,D⟩:=h.slice;have t:=aA h;have j:=aA (fun wr (o:Below w.heap.size w wr)=>(⟨d.1.on o,d.2.on o⟩:jC wr p 0 (.int .i64 C)/\jC wr q 0 (.string N)));clear h d;obtain⟨PR,f⟩:∃PR:Gv->Bool,PR=(mN C N):=⟨_,rfl⟩;have s:=aA f;rw[<-f];clear f;unfold aP;go_enter func280,ntmps280;go_wp2;go_loopw [5,8] (fun _ i wr=>∃k:Nat,k<=l.length/\i=.int .i64 k/\Hid (∀i (hi:i<l.length),i<k->PR l[i]=false)/\Hid (Below w.heap.size w wr)) (fun _ i _=>l.length - (intOf i).toNat)
 case atStart=>exact BM
 case round=>
  obtain⟨k,B,rfl,HR,HB⟩:=hrel;by_cases hlt:k<l.length
  .have hk1:(k:Int)<(l.length:Int):=qo;obtain⟨b,off,r,rfl,_,A,⟨vb,rfl,y⟩,hcl⟩:=aI.at cA (t.o.on cA HB.o) hlt qe;obtain⟨m,n,rfl,_⟩:=y.2.2.slice;obtain⟨z,E,F⟩:=cR3 hcl;rw[Nat.add_zero] at z;have HI:Hid (Calls prog 281 #[.agg #[.int .i64 l[k].1,.string l[k].2.1,.slice m l[k].2.2.length n],.pointer (some ⟨p,0,none⟩),.pointer (some ⟨q,0,none⟩)] wr (aP (.bool (PR l[k])) wr)):=by rw[s.o];exact aA (Ck l[k] m n C N p q wr (j.o wr HB.o).1 (j.o wr HB.o).2)
   exact KF
  .exact KE
theorem Cl(l:List Gv)(C:Int)(N:bY):mP l C N=eW (mN C N) l:=rfl
theorem Cn{ok:nP}(v:Value)(l:List Gv)(C:Int)(N:bY)(w:World)(h:aI jQ w ok v l):
 Calls prog 260 #[v,.int .i64 C,.string N] w (aP (.int .i64 (mP l C N)) w):=by
 obtain⟨h1,h2,h3,h4,h5⟩:=Gn w (.int .i64 C) (.string N) 3 9;have d:=aA (Hp v l C N w.heap.size (w.heap.size+1) _ (h.on cA h5) ⟨⟨h1,h3⟩,⟨h2,h4⟩⟩);have b:=aA h5;obtain⟨a,c,rfl,i⟩:=h.slice;clear h1 h2 h3 h4 h5 h;rw[Cl];unfold aP at *;generalize eW (mN C N) l=pl at *;go_enter func260,ntmps260;go_wp2_with fail;refine d.o.mono ?_;rintro e w' ⟨rfl,f⟩;have g:=qB b f;clear d f b;go_wp2;go_returns;exact⟨rfl,g.o⟩
def sZ(l:List Gv)(a:At)(w:World)(e:Ending)(w':World):Prop:=
 ∃v,e=.returned (.tuple #[v,.int .i64 (rK l a).2])/\aI VR w' (fun b=>w.heap.size<=b) v (rK l a).1/\Below w.heap.size w w'
theorem Hq(l:List Gv)(C:Int)(N:bY):(mP l C N= -1/\zH l C N=[])\/∃(k:Nat) (h:k<l.length),mP l C N=(k:Int)/\zH l C N=l[k].2.2:=by
 by_cases h:mO l C N<l.length
 .refine .inr ⟨mO l C N,h,?_,Xg h⟩;unfold mP;rw[iP h]
 .refine .inl ⟨?_,Nh h⟩;unfold mP;rw[iN h]
theorem TP{ok:nP}(v:Value)(l:List Gv)(at_:At)(w:World)(h:aI jQ w ok v l):Calls prog 234 #[v,oI at_] w (sZ l at_ w):=by
 obtain⟨cat,name,must⟩:=at_;have E:=aB w (.cells #[.int .i64 cat,.string name,.bool must] 279);obtain⟨y,j,R,d,L⟩:=gG (Cn v l cat name _ (h.on cA E)) (Hq l cat name) h (aM w (.cells #[.int .i64 cat,.string name,.bool must] 279) _ rfl) E;obtain⟨a,c,rfl,ad⟩:=h.slice;obtain⟨B,m⟩:∃B,zH l cat name=B:=⟨_,rfl⟩;have J:Hid (∀v w',(B=[]/\must=true)->aI VR w' (fun b=>w.heap.size<=b) v []->Below w.heap.size w w'->sZ l ⟨cat,name,must⟩ w (.returned (.tuple #[v,.int .i64 4])) w'):=aA (fun v w' h1 h2 h3=>by
  unfold sZ rK;simp only[m];rw[iP h1];exact⟨v,rfl,h2,h3⟩)
 have z:Hid (∀v w',¬(B=[]/\must=true)->aI VR w' (fun b=>w.heap.size<=b) v B->Below w.heap.size w w'->sZ l ⟨cat,name,must⟩ w (.returned (.tuple #[v,.int .i64 0])) w'):=aA (fun v w' h1 h2 h3=>by
  unfold sZ rK;simp only[m];rw[iN h1];exact⟨v,rfl,h2,h3⟩)
 rw[m] at j;unfold oI;unfold aP at y;clear E h m;generalize mP l cat name=pl at *;go_enter func234,ntmps234;go_wp2_with fail;refine y.o.mono ?_;rintro e w1 ⟨rfl,F⟩;have f:=qB L F
 try clear p q s I
 replace d:=qK d F;obtain⟨⟨p,q,s⟩,_⟩:=cF d.o;have I:=aE d.o;clear y F L
 rcases j.o with ⟨C,i⟩|⟨k,S,C,i⟩
 .subst C;have g:=aA i;clear j i
  cases must
  .go_wp2;go_returns;exact z.o _ _ qs (by rw[g.o];exact aI.nil) f.o
  .go_wp2;go_returns;exact J.o _ _ ⟨g.o,(by trivial)⟩ aI.nil f.o
 .subst C;obtain⟨b,off,r,rfl,_,Z,⟨vb,rfl,N⟩,M⟩:=aI.at cA (R.o.on cA f.o) S qe;have n:=N.2.2;rw[<-i] at n;obtain⟨W,X,rfl,O⟩:=n.slice;obtain⟨P,U,V⟩:=cR3 M;rw[Nat.add_zero] at P;have ab:(k:Int)<(l.length:Int):=qo;have aa:decide ((k:Int) ≥ 0)=true:=dX qo;have x:=aA (Cj _ _ w1 n);unfold bX at x;have Q:=aA O;clear j N M i n O;go_wp2_with fail;refine x.o.mono ?_;rintro e w2 ⟨v,rfl,H,G⟩;obtain⟨A,Y,rfl⟩:=H.slice;have K:=aA ((eL (enc:=IL) (good:=cZ) (ok':=fun b=>w.heap.size<=b) H).sl Q.o (fun b=>w.heap.size<=b) (fun b D _=>D) (fun b D _=>lT f.o.size D) bJ);have t:=qB f G
  try clear p q s I
  replace d:=qK d G;obtain⟨⟨p,q,s⟩,_⟩:=cF d.o;have I:=aE d.o;clear x G H P U V f;by_cases o:B.length=0
  .have T:((B.length:Int)==0)=true:=bQ.2 qo;have g:=aA (List.eq_nil_of_length_eq_zero o);clear o
   cases must
   .go_wp2;go_returns;exact z.o _ _ qs K.o t.o
   .go_wp2;go_returns;exact J.o _ _ ⟨g.o,(by trivial)⟩ aI.nil t.o
  .have T:((B.length:Int)==0)=false:=bN.2 qo;have g:Hid (¬(B=[]/\must=true)):=aA (fun h=>o (by rw[h.1];rfl));clear o;go_wp2;go_returns;exact z.o _ _ g.o K.o t.o
theorem Co:dY prog 126 181 3 40:=fS (z:= .agg #[.int .i64 0,.string ByteArray.empty,.string ByteArray.empty]) underlying126 (by kernel_rfl) rfl qe
theorem xA:dY prog 125 193 4 48:=fS (z:= .agg #[.string ByteArray.empty,.int .i64 0,.int .i64 0,.string ByteArray.empty]) underlying125 (by kernel_rfl) rfl qe
theorem zW:dY prog 28 128 5 96:=fS (z:= .agg #[.string ByteArray.empty,.string ByteArray.empty,.string ByteArray.empty,.slice none 0 0,.slice none 0 0]) underlying28 (by kernel_rfl) rfl qe
theorem Sj:dY prog 29 50 7 88:=fS (z:= .agg #[.int .i64 0,.int .i64 0,.string ByteArray.empty,.string ByteArray.empty,.string ByteArray.empty,.string ByteArray.empty,.bool false]) underlying29 (by kernel_rfl) rfl qe
theorem Sk:dY prog 30 48 3 40:=fS (z:= .agg #[.int .i64 0,.string ByteArray.empty,.string ByteArray.empty]) underlying30 (by kernel_rfl) rfl qe
theorem Sn:dY prog 31 45 2 32:=fS (z:= .agg #[.string ByteArray.empty,.string ByteArray.empty]) underlying31 (by kernel_rfl) rfl qe
theorem aCy:dY prog 36 188 3 32:=fS (z:= .agg #[.int .i64 0,.int .i64 0,.string ByteArray.empty]) underlying36 (by kernel_rfl) rfl qe
theorem aCz:dY prog 312 281 7 72:=fS (z:= .agg #[.int .i64 0,.string ByteArray.empty,.bool false,.int .i64 0,.int .i64 0,.int .i64 0,.string ByteArray.empty]) underlying312 (by kernel_rfl) rfl qe
theorem aCA:dY prog 267 294 7 72:=fS (z:= .agg #[.int .i64 0,.int .i64 0,.int .i64 0,.string ByteArray.empty,.int .i64 0,.string ByteArray.empty,.bool false]) underlying267 (by kernel_rfl) rfl qe
theorem aCB:dY prog 34 269 5 96:=fS (z:= .agg #[.string ByteArray.empty,.bool false,.slice none 0 0,.slice none 0 0,.slice none 0 0]) underlying34 (by kernel_rfl) rfl qe
theorem aCC:dY prog 35 38 7 128:=fS (z:= .agg #[.string ByteArray.empty,.bool false,.int .i64 0,.slice none 0 0,.slice none 0 0,.slice none 0 0,.slice none 0 0]) underlying35 (by kernel_rfl) rfl qe
theorem CY{ok:nP}(v:Value)(l:List tW)(w:World)(h:aI mV w ok v l):Calls prog 99 #[v] w (bX mV 3 181 ok l w):=by
 obtain⟨a,c,rfl,n⟩:=h.slice;unfold bX
 rcases a with _|k
 .have B:=kG cE qe h;subst B;have heq:=Lib.run_eql_slice_nil (P:=prog) w 126 181 none 0 c 0 0 underlying126;clear h;go_enter func99,ntmps99;exact BP
 .obtain⟨D,E,cs,b,h1,h2,_⟩:=h;injection b with b _ z;subst b z;have heq:=Lib.run_eql_slice_nil (P:=prog) w 126 181 (some k) l.length c 0 0 underlying126;have d:Below w.heap.size w (w.alloc (.cells #[] 181)):=(Below.refl _ _).alloc (lR _) _;have g:=aA (World.ownsRow_made (e:=181) w #[] 0 (lR _) (by simp[maxLen]) rfl:(w.alloc (.cells #[] 181)).ownsRow w.heap.size 181 3 (.slice (some ⟨w.heap.size,0,none⟩) 0 0) 0 []);have s:=aA (h2.len (fun _ _ f=>cE.len f));have t:=aA (h2.aDA (fun _ _ f=>cE.one f));obtain⟨y,r,q,j⟩:=dJ (h1.lt.below d) h2 d n;clear h1 h2 d n;go_enter func99,ntmps99;go_wp2_with (at_builtin;refine fT Co rfl (.tmp 5) (.tmp 6) rfl w.heap.size (.slice (some ⟨w.heap.size,0,none⟩) 0 0) 0 [] rfl g.o (some k) l.length c cs rfl s.o (y.o.more qs) t.o (by have:=j.o;unfold maxLen;omega) (qA j.o) qs ?_;intro C c1 w1 p m A;have i:=aA (dW g.o q.o m (lR _) qs);have x:=aA p;clear p m A)
  go_returns;have o:=x.o;simp only[Nat.zero_add,List.nil_append] at o ⊢;exact⟨_,rfl,lK cE r.o i.o o,i.o⟩
theorem TQ{ok:nP}(v:Value)(l:List pS)(w:World)(h:aI lG w ok v l):Calls prog 160 #[v] w (bX lG 4 193 ok l w):=by
 obtain⟨a,c,rfl,n⟩:=h.slice;unfold bX
 rcases a with _|k
 .have B:=kG bU qe h;subst B;have heq:=Lib.run_eql_slice_nil (P:=prog) w 125 193 none 0 c 0 0 underlying125;clear h;go_enter func160,ntmps160;exact BP
 .obtain⟨D,E,cs,b,h1,h2,_⟩:=h;injection b with b _ z;subst b z;have heq:=Lib.run_eql_slice_nil (P:=prog) w 125 193 (some k) l.length c 0 0 underlying125;have d:Below w.heap.size w (w.alloc (.cells #[] 193)):=(Below.refl _ _).alloc (lR _) _;have g:=aA (World.ownsRow_made (e:=193) w #[] 0 (lR _) (by simp[maxLen]) rfl:(w.alloc (.cells #[] 193)).ownsRow w.heap.size 193 4 (.slice (some ⟨w.heap.size,0,none⟩) 0 0) 0 []);have s:=aA (h2.len (fun _ _ f=>bU.len f));have t:=aA (h2.aDA (fun _ _ f=>bU.one f));obtain⟨y,r,q,j⟩:=dJ (h1.lt.below d) h2 d n;clear h1 h2 d n;go_enter func160,ntmps160;go_wp2_with (at_builtin;refine fT xA rfl (.tmp 5) (.tmp 6) rfl w.heap.size (.slice (some ⟨w.heap.size,0,none⟩) 0 0) 0 [] rfl g.o (some k) l.length c cs rfl s.o (y.o.more qs) t.o (by have:=j.o;unfold maxLen;omega) (qA j.o) qs ?_;intro C c1 w1 p m A;have i:=aA (dW g.o q.o m (lR _) qs);have x:=aA p;clear p m A)
  go_returns;have o:=x.o;simp only[Nat.zero_add,List.nil_append] at o ⊢;exact⟨_,rfl,lK bU r.o i.o o,i.o⟩
theorem CZ{ok:nP}(v:Value)(l:List cI)(w:World)(h:aI pY w ok v l):Calls prog 98 #[v] w (bX pY 5 128 ok l w):=by
 obtain⟨a,c,rfl,n⟩:=h.slice;unfold bX
 rcases a with _|k
 .have B:=kG dV qe h;subst B;have heq:=Lib.run_eql_slice_nil (P:=prog) w 28 128 none 0 c 0 0 underlying28;clear h;go_enter func98,ntmps98;exact BP
 .obtain⟨D,E,cs,b,h1,h2,_⟩:=h;injection b with b _ z;subst b z;have heq:=Lib.run_eql_slice_nil (P:=prog) w 28 128 (some k) l.length c 0 0 underlying28;have d:Below w.heap.size w (w.alloc (.cells #[] 128)):=(Below.refl _ _).alloc (lR _) _;have g:=aA (World.ownsRow_made (e:=128) w #[] 0 (lR _) (by simp[maxLen]) rfl:(w.alloc (.cells #[] 128)).ownsRow w.heap.size 128 5 (.slice (some ⟨w.heap.size,0,none⟩) 0 0) 0 []);have s:=aA (h2.len (fun _ _ f=>dV.len f));have t:=aA (h2.aDA (fun _ _ f=>dV.one f));obtain⟨y,r,q,j⟩:=dJ (h1.lt.below d) h2 d n;clear h1 h2 d n;go_enter func98,ntmps98;go_wp2_with (at_builtin;refine fT zW rfl (.tmp 5) (.tmp 6) rfl w.heap.size (.slice (some ⟨w.heap.size,0,none⟩) 0 0) 0 [] rfl g.o (some k) l.length c cs rfl s.o (y.o.more qs) t.o (by have:=j.o;unfold maxLen;omega) (qA j.o) qs ?_;intro C c1 w1 p m A;have i:=aA (dW g.o q.o m (lR _) qs);have x:=aA p;clear p m A)
  go_returns;have o:=x.o;simp only[Nat.zero_add,List.nil_append] at o ⊢;exact⟨_,rfl,lK dV r.o i.o o,i.o⟩
theorem DA{ok:nP}(v:Value)(l:List vW)(w:World)(h:aI rV w ok v l):Calls prog 96 #[v] w (bX rV 7 50 ok l w):=by
 obtain⟨a,c,rfl,n⟩:=h.slice;unfold bX
 rcases a with _|k
 .have B:=kG cR qe h;subst B;have heq:=Lib.run_eql_slice_nil (P:=prog) w 29 50 none 0 c 0 0 underlying29;clear h;go_enter func96,ntmps96;exact BP
 .obtain⟨D,E,cs,b,h1,h2,_⟩:=h;injection b with b _ z;subst b z;have heq:=Lib.run_eql_slice_nil (P:=prog) w 29 50 (some k) l.length c 0 0 underlying29;have d:Below w.heap.size w (w.alloc (.cells #[] 50)):=(Below.refl _ _).alloc (lR _) _;have g:=aA (World.ownsRow_made (e:=50) w #[] 0 (lR _) (by simp[maxLen]) rfl:(w.alloc (.cells #[] 50)).ownsRow w.heap.size 50 7 (.slice (some ⟨w.heap.size,0,none⟩) 0 0) 0 []);have s:=aA (h2.len (fun _ _ f=>cR.len f));have t:=aA (h2.aDA (fun _ _ f=>cR.one f));obtain⟨y,r,q,j⟩:=dJ (h1.lt.below d) h2 d n;clear h1 h2 d n;go_enter func96,ntmps96;go_wp2_with (at_builtin;refine fT Sj rfl (.tmp 5) (.tmp 6) rfl w.heap.size (.slice (some ⟨w.heap.size,0,none⟩) 0 0) 0 [] rfl g.o (some k) l.length c cs rfl s.o (y.o.more qs) t.o (by have:=j.o;unfold maxLen;omega) (qA j.o) qs ?_;intro C c1 w1 p m A;have i:=aA (dW g.o q.o m (lR _) qs);have x:=aA p;clear p m A)
  go_returns;have o:=x.o;simp only[Nat.zero_add,List.nil_append] at o ⊢;exact⟨_,rfl,lK cR r.o i.o o,i.o⟩
theorem DB{ok:nP}(v:Value)(l:List uN)(w:World)(h:aI rW w ok v l):Calls prog 97 #[v] w (bX rW 3 48 ok l w):=by
 obtain⟨a,c,rfl,n⟩:=h.slice;unfold bX
 rcases a with _|k
 .have B:=kG cU qe h;subst B;have heq:=Lib.run_eql_slice_nil (P:=prog) w 30 48 none 0 c 0 0 underlying30;clear h;go_enter func97,ntmps97;exact BP
 .obtain⟨D,E,cs,b,h1,h2,_⟩:=h;injection b with b _ z;subst b z;have heq:=Lib.run_eql_slice_nil (P:=prog) w 30 48 (some k) l.length c 0 0 underlying30;have d:Below w.heap.size w (w.alloc (.cells #[] 48)):=(Below.refl _ _).alloc (lR _) _;have g:=aA (World.ownsRow_made (e:=48) w #[] 0 (lR _) (by simp[maxLen]) rfl:(w.alloc (.cells #[] 48)).ownsRow w.heap.size 48 3 (.slice (some ⟨w.heap.size,0,none⟩) 0 0) 0 []);have s:=aA (h2.len (fun _ _ f=>cU.len f));have t:=aA (h2.aDA (fun _ _ f=>cU.one f));obtain⟨y,r,q,j⟩:=dJ (h1.lt.below d) h2 d n;clear h1 h2 d n;go_enter func97,ntmps97;go_wp2_with (at_builtin;refine fT Sk rfl (.tmp 5) (.tmp 6) rfl w.heap.size (.slice (some ⟨w.heap.size,0,none⟩) 0 0) 0 [] rfl g.o (some k) l.length c cs rfl s.o (y.o.more qs) t.o (by have:=j.o;unfold maxLen;omega) (qA j.o) qs ?_;intro C c1 w1 p m A;have i:=aA (dW g.o q.o m (lR _) qs);have x:=aA p;clear p m A)
  go_returns;have o:=x.o;simp only[Nat.zero_add,List.nil_append] at o ⊢;exact⟨_,rfl,lK cU r.o i.o o,i.o⟩
theorem TR{ok:nP}(v:Value)(l:List uT)(w:World)(h:aI oV w ok v l):Calls prog 153 #[v] w (bX oV 2 45 ok l w):=by
 obtain⟨a,c,rfl,n⟩:=h.slice;unfold bX
 rcases a with _|k
 .have B:=kG cM qe h;subst B;have heq:=Lib.run_eql_slice_nil (P:=prog) w 31 45 none 0 c 0 0 underlying31;clear h;go_enter func153,ntmps153;exact BP
 .obtain⟨D,E,cs,b,h1,h2,_⟩:=h;injection b with b _ z;subst b z;have heq:=Lib.run_eql_slice_nil (P:=prog) w 31 45 (some k) l.length c 0 0 underlying31;have d:Below w.heap.size w (w.alloc (.cells #[] 45)):=(Below.refl _ _).alloc (lR _) _;have g:=aA (World.ownsRow_made (e:=45) w #[] 0 (lR _) (by simp[maxLen]) rfl:(w.alloc (.cells #[] 45)).ownsRow w.heap.size 45 2 (.slice (some ⟨w.heap.size,0,none⟩) 0 0) 0 []);have s:=aA (h2.len (fun _ _ f=>cM.len f));have t:=aA (h2.aDA (fun _ _ f=>cM.one f));obtain⟨y,r,q,j⟩:=dJ (h1.lt.below d) h2 d n;clear h1 h2 d n;go_enter func153,ntmps153;go_wp2_with (at_builtin;refine fT Sn rfl (.tmp 5) (.tmp 6) rfl w.heap.size (.slice (some ⟨w.heap.size,0,none⟩) 0 0) 0 [] rfl g.o (some k) l.length c cs rfl s.o (y.o.more qs) t.o (by have:=j.o;unfold maxLen;omega) (qA j.o) qs ?_;intro C c1 w1 p m A;have i:=aA (dW g.o q.o m (lR _) qs);have x:=aA p;clear p m A)
  go_returns;have o:=x.o;simp only[Nat.zero_add,List.nil_append] at o ⊢;exact⟨_,rfl,lK cM r.o i.o o,i.o⟩
theorem FZ{ok:nP}(v:Value)(l:List Ob)(w:World)(h:aI jX w ok v l):Calls prog 198 #[v] w (bX jX 3 188 ok l w):=by
 obtain⟨a,c,rfl,n⟩:=h.slice;unfold bX
 rcases a with _|k
 .have B:=kG aQ qe h;subst B;have heq:=Lib.run_eql_slice_nil (P:=prog) w 36 188 none 0 c 0 0 underlying36;clear h;go_enter func198,ntmps198;exact BP
 .obtain⟨D,E,cs,b,h1,h2,_⟩:=h;injection b with b _ z;subst b z;have heq:=Lib.run_eql_slice_nil (P:=prog) w 36 188 (some k) l.length c 0 0 underlying36;have d:Below w.heap.size w (w.alloc (.cells #[] 188)):=(Below.refl _ _).alloc (lR _) _;have g:=aA (World.ownsRow_made (e:=188) w #[] 0 (lR _) (by simp[maxLen]) rfl:(w.alloc (.cells #[] 188)).ownsRow w.heap.size 188 3 (.slice (some ⟨w.heap.size,0,none⟩) 0 0) 0 []);have s:=aA (h2.len (fun _ _ f=>aQ.len f));have t:=aA (h2.aDA (fun _ _ f=>aQ.one f));obtain⟨y,r,q,j⟩:=dJ (h1.lt.below d) h2 d n;clear h1 h2 d n;go_enter func198,ntmps198;go_wp2_with (at_builtin;refine fT aCy rfl (.tmp 5) (.tmp 6) rfl w.heap.size (.slice (some ⟨w.heap.size,0,none⟩) 0 0) 0 [] rfl g.o (some k) l.length c cs rfl s.o (y.o.more qs) t.o (by have:=j.o;unfold maxLen;omega) (qA j.o) qs ?_;intro C c1 w1 p m A;have i:=aA (dW g.o q.o m (lR _) qs);have x:=aA p;clear p m A)
  go_returns;have o:=x.o;simp only[Nat.zero_add,List.nil_append] at o ⊢;exact⟨_,rfl,lK aQ r.o i.o o,i.o⟩
theorem XR{ok:nP}(v:Value)(l:List Ma)(w:World)(h:aI rN w ok v l):Calls prog 237 #[v] w (bX rN 7 281 ok l w):=by
 obtain⟨a,c,rfl,n⟩:=h.slice;unfold bX
 rcases a with _|k
 .have B:=kG eR qe h;subst B;have heq:=Lib.run_eql_slice_nil (P:=prog) w 312 281 none 0 c 0 0 underlying312;clear h;go_enter func237,ntmps237;exact BP
 .obtain⟨D,E,cs,b,h1,h2,_⟩:=h;injection b with b _ z;subst b z;have heq:=Lib.run_eql_slice_nil (P:=prog) w 312 281 (some k) l.length c 0 0 underlying312;have d:Below w.heap.size w (w.alloc (.cells #[] 281)):=(Below.refl _ _).alloc (lR _) _;have g:=aA (World.ownsRow_made (e:=281) w #[] 0 (lR _) (by simp[maxLen]) rfl:(w.alloc (.cells #[] 281)).ownsRow w.heap.size 281 7 (.slice (some ⟨w.heap.size,0,none⟩) 0 0) 0 []);have s:=aA (h2.len (fun _ _ f=>eR.len f));have t:=aA (h2.aDA (fun _ _ f=>eR.one f));obtain⟨y,r,q,j⟩:=dJ (h1.lt.below d) h2 d n;clear h1 h2 d n;go_enter func237,ntmps237;go_wp2_with (at_builtin;refine fT aCz rfl (.tmp 5) (.tmp 6) rfl w.heap.size (.slice (some ⟨w.heap.size,0,none⟩) 0 0) 0 [] rfl g.o (some k) l.length c cs rfl s.o (y.o.more qs) t.o (by have:=j.o;unfold maxLen;omega) (qA j.o) qs ?_;intro C c1 w1 p m A;have i:=aA (dW g.o q.o m (lR _) qs);have x:=aA p;clear p m A)
  go_returns;have o:=x.o;simp only[Nat.zero_add,List.nil_append] at o ⊢;exact⟨_,rfl,lK eR r.o i.o o,i.o⟩
theorem XS{ok:nP}(v:Value)(l:List No)(w:World)(h:aI JP w ok v l):Calls prog 201 #[v] w (bX JP 7 294 ok l w):=by
 obtain⟨a,c,rfl,n⟩:=h.slice;unfold bX
 rcases a with _|k
 .have B:=kG dR qe h;subst B;have heq:=Lib.run_eql_slice_nil (P:=prog) w 267 294 none 0 c 0 0 underlying267;clear h;go_enter func201,ntmps201;exact BP
 .obtain⟨D,E,cs,b,h1,h2,_⟩:=h;injection b with b _ z;subst b z;have heq:=Lib.run_eql_slice_nil (P:=prog) w 267 294 (some k) l.length c 0 0 underlying267;have d:Below w.heap.size w (w.alloc (.cells #[] 294)):=(Below.refl _ _).alloc (lR _) _;have g:=aA (World.ownsRow_made (e:=294) w #[] 0 (lR _) (by simp[maxLen]) rfl:(w.alloc (.cells #[] 294)).ownsRow w.heap.size 294 7 (.slice (some ⟨w.heap.size,0,none⟩) 0 0) 0 []);have s:=aA (h2.len (fun _ _ f=>dR.len f));have t:=aA (h2.aDA (fun _ _ f=>dR.one f));obtain⟨y,r,q,j⟩:=dJ (h1.lt.below d) h2 d n;clear h1 h2 d n;go_enter func201,ntmps201;go_wp2_with (at_builtin;refine fT aCA rfl (.tmp 5) (.tmp 6) rfl w.heap.size (.slice (some ⟨w.heap.size,0,none⟩) 0 0) 0 [] rfl g.o (some k) l.length c cs rfl s.o (y.o.more qs) t.o (by have:=j.o;unfold maxLen;omega) (qA j.o) qs ?_;intro C c1 w1 p m A;have i:=aA (dW g.o q.o m (lR _) qs);have x:=aA p;clear p m A)
  go_returns;have o:=x.o;simp only[Nat.zero_add,List.nil_append] at o ⊢;exact⟨_,rfl,lK dR r.o i.o o,i.o⟩
theorem XT{ok:nP}(v:Value)(l:List Ru)(w:World)(h:aI yK w ok v l):Calls prog 199 #[v] w (bX yK 5 269 ok l w):=by
 obtain⟨a,c,rfl,n⟩:=h.slice;unfold bX
 rcases a with _|k
 .have B:=kG bP qe h;subst B;have heq:=Lib.run_eql_slice_nil (P:=prog) w 34 269 none 0 c 0 0 underlying34;clear h;go_enter func199,ntmps199;exact BP
 .obtain⟨D,E,cs,b,h1,h2,_⟩:=h;injection b with b _ z;subst b z;have heq:=Lib.run_eql_slice_nil (P:=prog) w 34 269 (some k) l.length c 0 0 underlying34;have d:Below w.heap.size w (w.alloc (.cells #[] 269)):=(Below.refl _ _).alloc (lR _) _;have g:=aA (World.ownsRow_made (e:=269) w #[] 0 (lR _) (by simp[maxLen]) rfl:(w.alloc (.cells #[] 269)).ownsRow w.heap.size 269 5 (.slice (some ⟨w.heap.size,0,none⟩) 0 0) 0 []);have s:=aA (h2.len (fun _ _ f=>bP.len f));have t:=aA (h2.aDA (fun _ _ f=>bP.one f));obtain⟨y,r,q,j⟩:=dJ (h1.lt.below d) h2 d n;clear h1 h2 d n;go_enter func199,ntmps199;go_wp2_with (at_builtin;refine fT aCB rfl (.tmp 5) (.tmp 6) rfl w.heap.size (.slice (some ⟨w.heap.size,0,none⟩) 0 0) 0 [] rfl g.o (some k) l.length c cs rfl s.o (y.o.more qs) t.o (by have:=j.o;unfold maxLen;omega) (qA j.o) qs ?_;intro C c1 w1 p m A;have i:=aA (dW g.o q.o m (lR _) qs);have x:=aA p;clear p m A)
  go_returns;have o:=x.o;simp only[Nat.zero_add,List.nil_append] at o ⊢;exact⟨_,rfl,lK bP r.o i.o o,i.o⟩
theorem XU{n:Nat}{ok:nP}(v:Value)(l:List Po)(w:World)(h:aI (qE n) w ok v l):Calls prog 200 #[v] w (bX (qE n) 7 38 ok l w):=by
 obtain⟨a,c,rfl,o⟩:=h.slice;unfold bX
 rcases a with _|k
 .have C:=kG (bD n) qe h;subst C;have heq:=Lib.run_eql_slice_nil (P:=prog) w 35 38 none 0 c 0 0 underlying35;clear h;go_enter func200,ntmps200;exact BP
 .obtain⟨E,F,cs,b,h1,h2,_⟩:=h;injection b with b _ A;subst b A;have heq:=Lib.run_eql_slice_nil (P:=prog) w 35 38 (some k) l.length c 0 0 underlying35;have d:Below w.heap.size w (w.alloc (.cells #[] 38)):=(Below.refl _ _).alloc (lR _) _;have g:=aA (World.ownsRow_made (e:=38) w #[] 0 (lR _) (by simp[maxLen]) rfl:(w.alloc (.cells #[] 38)).ownsRow w.heap.size 38 7 (.slice (some ⟨w.heap.size,0,none⟩) 0 0) 0 []);have t:=aA (h2.len (fun _ _ f=>(bD n).len f));have x:=aA (h2.aDA (fun _ _ f=>(bD n).one f));obtain⟨z,s,r,j⟩:=dJ (h1.lt.below d) h2 d o;clear h1 h2 d o;go_enter func200,ntmps200;go_wp2_with (at_builtin;refine fT aCC rfl (.tmp 5) (.tmp 6) rfl w.heap.size (.slice (some ⟨w.heap.size,0,none⟩) 0 0) 0 [] rfl g.o (some k) l.length c cs rfl t.o (z.o.more qs) x.o (by have:=j.o;unfold maxLen;omega) (qA j.o) qs ?_;intro D c1 w1 q m B;have i:=aA (dW g.o r.o m (lR _) qs);have y:=aA q;clear q m B)
  go_returns;have p:=y.o;simp only[Nat.zero_add,List.nil_append] at p ⊢;exact⟨_,rfl,lK (bD n) s.o i.o p,i.o⟩
end Go.Proofs.YtkglnboglppgnaaGreatDoor
