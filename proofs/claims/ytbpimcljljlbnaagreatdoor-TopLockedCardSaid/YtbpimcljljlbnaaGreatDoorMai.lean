/- Lemmas. -/
import Derived.Test.YtbpimcljljlbnaaGreatDoorMah
namespace Go.Proofs.YtbpimcljljlbnaaGreatDoor
open Go.RowKit
set_option linter.unusedVariables false
set_option linter.unusedSimpArgs false
set_option maxHeartbeats 16000000
open _root_.Go.Proofs.Tryz
set_option maxRecDepth 20000
section
open Pv
abbrev oX(Q:Nat)(a:oD)(m b:Nat)(sy:Int):Obj:= .cells #[.int .i64 (Q:Int),.slice a m b,.int .i64 sy,.int .i64 0,.bool false] 101
theorem Ho(D Q m b:Nat)(a:oD)(sy:Int)(w:World)(c:Q<=2000000)(hm:m<=Q)(h:w.heap[D]? =some (oX Q a m b sy)):Calls prog 121 #[.pointer (some ⟨D,0,none⟩)] w (aN (.int .i64 ((Q:Int) - (m:Int))) w):=by
 obtain⟨⟨d0,d1,d2,d3,d4⟩,_⟩:=dN h;have e:=aD h;have d:IntKind.i64.wrap ((Q:Int) - (m:Int))=(Q:Int) - (m:Int):=IntWalk.i64_in _ qo;go_enter func121,ntmps121;go_upto_region 1 with (fail)
 go_quiet (fail)
 go_wp2;go_ret;exact⟨rfl,fK (Below.refl _ _) ⟨_,rfl⟩⟩
theorem OL(D Q m b:Nat)(a:oD)(sy:Int)(w:World)(h:w.heap[D]? =some (oX Q a m b sy)):Calls prog 123 #[.pointer (some ⟨D,0,none⟩)] w (fun e w'=>e=.returned (.bool false)/\w'=w):=by
 obtain⟨⟨d0,d1,d2,d3,d4⟩,_⟩:=dN h;have c:=aD h;go_enter func123,ntmps123;go_wp2;go_ret;exact⟨rfl,rfl⟩
theorem OM(D Q m c:Nat)(a:oD)(sy:Int)(w:World)(h:w.heap[D]? =some (oX Q a m c sy)):Calls prog 66 #[.pointer (some ⟨D,0,none⟩)] w (fun e w'=>e=.returned (.int .i64 0)/\w'.heap[D]? =some (oX Q a m c (m:Int))/\aO (fun b=>b≠D) w w'):=by
 have d:=aA (OL D Q m c a sy w h);have H:=aA h;obtain⟨⟨d0,d1,d2,d3,d4⟩,f0,f1,f2,f3,f4⟩:=dN h;have f:=aD h;clear h;go_enter func66,ntmps66;go_upto_region 3 with (go_at_call 123;refine d.o.mono ?_;rintro e w1 ⟨rfl,rfl⟩)
 go_wp2;go_ret;exact⟨rfl,aG H.o 2 _,aI _⟩
theorem Ac{w:World}{B:Nat}{a:oD}{n c:Nat}{l:lU}(h:w.ownsRow B 5 1 (.slice a n c) l.length (bF l)):gY w (fun b=>B<=b/\b<w.heap.size) a (bF l):=by
 obtain⟨k,m,e,_,h3,h4⟩:=lM h;injection e with f o p;subst f;intro j;obtain⟨b,off,d,i,g⟩:=h3 j;exact⟨b,off,d,⟨h4 _ d,i⟩,g⟩
theorem XQ(D Q k:Nat)(g:oD)(sy:Int)(bs:lU)(a:oD)(c:Nat)(p:lU)(w:World)(C:Q<=1000000)(h:w.heap[D]? =some (oX Q g bs.length k sy))(d:Sl w w.heap.size g (bF bs))(hp:Sl w w.heap.size a (bF p))(h0:0<p.length)(G:bs.length+p.length<=Q):
 Calls prog 64 #[.pointer (some ⟨D,0,none⟩),.slice a p.length c] w (fun e w'=>e=.returned (.int .i64 0)/\(∃(l:lU) (A:oD) (i:Nat),l.length=bs.length+p.length/\w'.heap[D]? =some (oX Q A l.length i sy)/\gY w' (fun b=>w.heap.size<=b/\b<w'.heap.size) A (bF l))/\aO (fun b=>b≠D) w w'):=by
 obtain⟨z,H,B,n⟩:=dG (Ho D Q bs.length k g sy w qo qo h) h (And.intro d hp) (And.intro G (And.intro h0 C));unfold aN at z;have W:¬((Q:Int) - (bs.length:Int)<(p.length:Int)):=qo;obtain⟨⟨d0,d1,d2,d3,d4⟩,_⟩:=dN h;have q:=aD h;clear h d hp G h0 C;go_enter func64,ntmps64;go_wp2_with fail;refine z.o.mono ?_;rintro e w1 ⟨rfl,t⟩;obtain⟨s,o⟩:=xE (w1.alloc (.cells #[.slice g bs.length k,.slice a p.length c] 96));have E:Below w1.heap.size w1 s:=by rw[o];exact aB _ _
 have I:s.heap[w1.heap.size]? =some (.cells #[.slice g bs.length k,.slice a p.length c] 96 (0,0)):=by rw[o];exact aK _ _ _ rfl
 have j:=aA (aC t E);obtain⟨y,H1,T⟩:=aY (JZ _ [bs,p] s (TL (cs:=[.slice g bs.length k,.slice a p.length c]) (c:=2) I ⟨[_],_,rfl,CU (B.o.1.on j.o) (qA n.o),⟨[_],[],rfl,CU (B.o.2.on j.o) (qA n.o),rfl⟩⟩ (by show 2<=1000;omega)) (bs.length+p.length) (by simp only[uC,List.length_cons,List.length_nil,List.take_succ_cons,List.take_zero,List.map_cons,List.map_nil,List.sum_cons,List.sum_nil];omega) (qA n.o) (qA n.o)) (aE H.o t) o;clear o E I d0 d1 d2 d3 d4 q t;obtain⟨⟨d0,d1,d2,d3,d4⟩,_⟩:=dN H1.o;have q:=aD H1.o;go_wp2_with fail;rw[<-T.o];refine y.o.mono ?_;rintro e M ⟨l,A,i,rfl,J,_,K,F⟩;obtain⟨O,P,x⟩:=aY J (Ac K) (aC j.o F);have r:=qK H x.o;clear J K F d0 d1 d2 d3 d4 q y;obtain⟨⟨d0,d1,d2,d3,d4⟩,f0,f1,f2,f3,f4⟩:=dN r.o;have q:=aD r.o;obtain⟨f,m⟩:=xE (M.setCell ⟨D,1,none⟩ (.slice A l.length i));have v:Hid (f.heap[D]? =some (oX Q A l.length i sy)):=aA (by rw[m];exact aG r.o 1 _);have R:Hid (aO (fun b=>b≠D) w f):=aA (by rw[m];exact(aJ x.o).trans (aI _));have S:Hid (gY f (fun b=>w.heap.size<=b/\b<f.heap.size) A (bF l)):=aA (by
  have L:aO (fun b=>b≠D) M f:=by rw[m];exact aI _
  have V:=aD H.o;exact(P.o.aDl (L.mono fun b _ d e=>qD d.1 j.o.size)).more fun b d=>⟨lT j.o.size d.1,lL d.2 L.size⟩)
 have N:=aA (OL D Q l.length i A sy f v.o);have U:=aA m;clear m;go_wp2_with fail;rw[<-U.o];refine N.o.mono ?_;rintro e X ⟨rfl,rfl⟩;go_wp2;go_ret;exact⟨rfl,⟨l,A,i,O.o,v.o,S.o⟩,R.o⟩
end
section
variable {P:Program} {w:World}
theorem CV(g:Nat)(cs:Array Value):aO (fun b=>b≠g) w (w.setRow g cs):=⟨rfl,rfl,rfl,by simp[World.setRow],fun k _ a=>setRow_other w g k cs a⟩
theorem Hp{o:Oper}{a:Act}{K:Act->World->Prop}{Q:Exit->Act->World->Prop}(ty:TypeId)(x y:Operand)(f:o.op=.store ty x y)(g:Nat)(cells:Array Value)(i:a.eval x=.pointer (some ⟨g,0,none⟩))(j:a.eval y=.agg cells)(t:TypeId)(c:Array Value)(d:w.heap[g]? =some (.cells c t (0,0)))(e:(P.info? ty).map (·.size)=some cells.size)(hold:c.size=cells.size)(h1:cells.all (·.oneCell')=true)
 (h:∀w',Hid (w'.heap[g]? =some (.cells cells t (0,0)))->Hid (aO (fun b=>b≠g) w w')->K (a.put o.dst undef) w'):o.wp P a w K Q:=
 wp_store_row ty x y f g cells i j t c d e hold h1 (h _ (setRow_heap w g c cells t (0,0) d) (CV g cells))
theorem fA{ops:Array Oper}{rest:List Oper}{o:Oper}{a:Act}{Q:Exit->Act->World->Prop}(f:o.guard=none)(ty:TypeId)(x y:Operand)(j:o.op=.store ty x y)(g:Nat)(cells:Array Value)(k:a.eval x=.pointer (some ⟨g,0,none⟩))(l:a.eval y=.agg cells)(t:TypeId)(c:Array Value)(e:w.heap[g]? =some (.cells c t (0,0)))(i:(P.info? ty).map (·.size)=some cells.size)(hold:c.size=cells.size)(h1:cells.all (·.oneCell')=true)
 (h:∀w',Hid (w'.heap[g]? =some (.cells cells t (0,0)))->Hid (aO (fun b=>b≠g) w w')->wpList P ops Q rest (a.put o.dst undef) w'):wpList P ops Q (o::rest) a w:=
 wpList_plain f fun _ d=>Hp ty x y j g cells k l t c e i hold h1 fun w' h2 h3=>d _ _ (h w' h2 h3)
theorem kY{ops:Array Oper}{o:Oper}{a:Act}{K:Act->World->Prop}{Q:Exit->Act->World->Prop}{E:Prop}(e:o.guard=none)(ty:TypeId)(x y:Operand)(i:o.op=.store ty x y)(g:Nat)(cells:Array Value)(j:a.eval x=.pointer (some ⟨g,0,none⟩))(k:a.eval y=.agg cells)(t:TypeId)(c:Array Value)(d:w.heap[g]? =some (.cells c t (0,0)))(f:(P.info? ty).map (·.size)=some cells.size)(hold:c.size=cells.size)(h1:cells.all (·.oneCell')=true)
 (h:∀w',Hid (w'.heap[g]? =some (.cells cells t (0,0)))->Hid (aO (fun b=>b≠g) w w')->K (a.put o.dst undef) w'):if Region.wanted o (yielded ops a.tmps)=true then Oper.wp P o a w K Q else E:=by
 rw[iP (by simp[Region.wanted,e])];exact Hp ty x y i g cells j k t c d f hold h1 h
end
theorem sW{s:bY}(h:s.size<=cQ):s.size<=maxLen:=by unfold cQ at h;unfold maxLen;omega
theorem Cj(k:Int)(w:World):Calls prog 175 #[.int .i64 k] w (aN (.bool (decide (k=3\/k=5))) w):=by
 unfold aN;go_enter func175,ntmps175;go_wp2
 all_goals go_returns
 all_goals exact⟨bI (by rw[Bool.eq_iff_iff];simp[*]<;>(intros;omega)),Below.refl _ _⟩
theorem wF:∀(x y:lU),Op.bytesLess x y=decide (x<y)
 | [],[]=>by simp[Op.bytesLess]
 | [],b::y=>by simp[Op.bytesLess]
 |a::x,[]=>by simp[Op.bytesLess]
 |a::x,b::y=>by
  rw[Op.bytesLess,wF x y,Bool.eq_iff_iff,decide_eq_true_iff,List.cons_lt_cons_iff];simp only[Bool.or_eq_true,Bool.and_eq_true,decide_eq_true_eq,bQ]
def sX(a b:V3)(w:World)(e:Ending)(w':World):Prop:=e=.returned (.tuple #[.bool (jS a b).1,.int .i64 (jS a b).2])/\Below w.heap.size w w'
theorem CW(a b:V3)(ha:cS a)(J:cS b)(w:World):Calls prog 265 #[dD a,dD b] w (sX a b w):=by
 obtain⟨d,f,j⟩:=a;obtain⟨g,i,k⟩:=b;have l:=aA (fun w=>nF d f j (sW ha.2.2) w);have m:=aA (fun w=>nF g i k (sW J.2.2) w);unfold lE at l m;unfold dD;simp only;have G:=aA (aC (aB w (.cells #[.int .i64 d,.int .i64 f,.string j] 56)) (aB _ (.cells #[.int .i64 g,.int .i64 i,.string k] 56)));obtain⟨ra,y⟩:∃r,aT (d,f,j)=r:=⟨_,rfl⟩;obtain⟨L,z⟩:∃r,aT (g,i,k)=r:=⟨_,rfl⟩;rw[y] at l;rw[z] at m;have H:=aA y;have I:=aA z;clear ha J y z;have A:=aA (aE (aK w (.cells #[.int .i64 d,.int .i64 f,.string j] 56) _ rfl) (aB (w.alloc (.cells #[.int .i64 d,.int .i64 f,.string j] 56)) (.cells #[.int .i64 g,.int .i64 i,.string k] 56)));have B:Hid (((w.alloc (.cells #[.int .i64 d,.int .i64 f,.string j] 56)).alloc (.cells #[.int .i64 g,.int .i64 i,.string k] 56)).heap[w.heap.size+1]? =some (.cells #[.int .i64 g,.int .i64 i,.string k] 56 (0,0))):=aA (aK (w.alloc (.cells #[.int .i64 d,.int .i64 f,.string j] 56)) (.cells #[.int .i64 g,.int .i64 i,.string k] 56) _ qs)
 cases ra
 .go_enter func265,ntmps265;go_wp2_with fail;refine(l.o _).mono ?_;rintro e w1 ⟨rfl,c⟩;have v:=qB G c;clear c l;go_wp2;go_returns;unfold sX jS;rw[iP (.inl H.o)];exact⟨rfl,v.o⟩
 .go_enter func265,ntmps265;go_wp2_with fail;refine(l.o _).mono ?_;rintro e w1 ⟨rfl,c⟩;have v:=qB G c
  try clear n o p C
  replace A:=qK A c;obtain⟨⟨n,o,p⟩,_⟩:=cE A.o;have C:=aD A.o
  try clear q s t D
  replace B:=qK B c;obtain⟨⟨q,s,t⟩,_⟩:=cE B.o;have D:=aD B.o;clear c l;go_wp2_with fail;refine(m.o _).mono ?_;rintro e w2 ⟨rfl,c⟩;have x:=qB v c
  try clear n o p C
  replace A:=qK A c;obtain⟨⟨n,o,p⟩,_⟩:=cE A.o;have C:=aD A.o
  try clear q s t D
  replace B:=qK B c;obtain⟨⟨q,s,t⟩,_⟩:=cE B.o;have D:=aD B.o;clear c m
  cases L
  .go_wp2;go_returns;unfold sX jS;rw[iP (.inr I.o)];exact⟨rfl,x.o⟩
  .go_wp2_with (go_at_call 175;refine(Cj _ _).mono ?_;rintro e N ⟨rfl,c⟩;have K:=qB x c;have E:=qK A c;have F:=qK B c;clear c;obtain⟨⟨a0,M,a2⟩,_⟩:=cE E.o;obtain⟨⟨b0,b1,b2⟩,_⟩:=cE F.o;have O:=aD E.o;have P:=aD F.o)
   all_goals go_returns
   all_goals
    unfold sX jS;rw[iN (fun h=>h.elim (fun h=>by rw[H.o] at h;cases h) (fun h=>by rw[I.o] at h;cases h))];refine⟨?_,?_⟩
    .simp_all [wF]
    .first|exact K.o|exact x.o
theorem BL{p:Prop}(h:p:=by
 go_wp2;go_returns;exact⟨_,rfl,aM.nil,Below.refl _ _⟩):p:=h
theorem KA{p:Prop}(h:p:=by
 have hk1:¬(k:Int)<(l.length:Int):=qo;obtain rfl:k=l.length:=qo;have HF:=aA (ON HR.o);clear HR;go_wp2;go_returns;exact⟨by rw[HF.o];rfl,HB.o⟩):p:=h
theorem KC{p:Prop}(h:p:=by
 unfold aN at HI;have HL:Hid (∀g,PR l[k]=g->((if g=true then eT PR l=(k:Int) else ∀i (hi:i<l.length),i<k+1->PR l[i]=false):Prop)):=aA (fun g hg=>by
  cases g
  .rw[iN qe];intro i hi h
   rcases Nat.lt_or_ge i k with h1|h1
   .exact HR.o i hi h1
   .obtain rfl:i=k:=qo;exact hg
  .rw[iP rfl];exact IS hlt HR.o hg)
 clear HR hcl;generalize hx:l[k]=x at *;generalize PR x=g at *;clear hx;go_wp2_with fail;refine HI.o.mono ?_;rintro e w' ⟨rfl,hb'⟩;have HB':=qB HB hb';clear HI hb'
 cases g
 .have HF:=aA (HL.o false rfl);clear HL;go_wp2;go_roundw
  case rel=>exact⟨k+1,qo,by go_num,aA (by have:=HF.o;rwa [iN qe] at this),HB'⟩
  case measure=>simp[intOf];omega
 .have HF:=aA (HL.o true rfl);clear HL;go_wp2;go_returns;exact⟨by have:=HF.o;rw[iP trivial] at this;rw[this];rfl,HB'.o⟩):p:=h
theorem Yh:dV prog 176 56 3 32:=fP (z:= .agg #[.int .i64 0,.int .i64 0,.string ByteArray.empty]) underlying176 (by kernel_rfl) rfl qe
theorem IQ:dV prog 131 179 3 48:=fP (z:= .agg #[.int .i64 0,.string ByteArray.empty,.slice none 0 0]) underlying131 (by kernel_rfl) rfl qe
theorem lJ{α:Type}{R:Rep α}{s:Nat}(F:Firm R s){e:TypeId}{w w':World}{ok:nP}{cs:List Value}{l:List α}{v:Value}(h:aX (R w ok) cs l)(c:Below w.heap.size w w')(d:w'.ownsRow w.heap.size e s v l.length cs):aM R s e w' w.heap.size ok v l:=by
 refine⟨cs,d,h.mono fun r x f=> ?_⟩;refine F.more (F.aDl (F.inb f) (aJ c)) fun b a=>⟨a.1,lL a.2 c.size,fun e=> ?_⟩
 have:=(d.lt b e.symm).1;have:=a.2;omega
theorem kD{α:Type}{R:Rep α}{s:Nat}(F:Firm R s)(i:0<s){w:World}{ok:nP}{n c:Nat}{l:List α}(h:aH R w ok (.slice none n c) l):l=[]:=by
 obtain⟨a,j,cs,e,h1,h2,_⟩:=h;injection e with f k m;subst f;by_cases d:cs=[]
 .subst d;exact h2.aEg (fun _ _ g=>F.len g) i
 .obtain⟨b,off,e,_⟩:=h1 d;cases e
theorem eI{α:Type}{enc:α->List Value}{good:α->Prop}{s:Nat}{e:TypeId}{w:World}{base:Nat}{ok ok':nP}{v:Value}{l:List α}(h:aM (mJ enc good) s e w base ok v l):aM (mJ enc good) s e w base ok' v l:=by
 obtain⟨cs,h1,h2⟩:=h;exact⟨cs,h1,h2.mono fun r x a=>a⟩
def bW{α:Type}(R:Rep α)(s:Nat)(e:TypeId)(ok:nP)(l:List α)(w:World)(a:Ending)(w':World):Prop:=
 ∃v,a=.returned v/\aM R s e w' w.heap.size ok v l/\Below w.heap.size w w'
theorem Ck{ok:nP}(v:Value)(l:List V3)(w:World)(h:aH VR w ok v l):Calls prog 264 #[v] w (bW VR 3 56 ok l w):=by
 obtain⟨a,c,rfl,n⟩:=h.slice;unfold bW
 rcases a with _|k
 .have B:=kD bH qe h;subst B;have heq:=Lib.run_eql_slice_nil (P:=prog) w 176 56 none 0 c 0 0 underlying176;clear h;go_enter func264,ntmps264;exact BL
 .obtain⟨D,E,cs,b,h1,h2,_⟩:=h;injection b with b _ z;subst b z;have heq:=Lib.run_eql_slice_nil (P:=prog) w 176 56 (some k) l.length c 0 0 underlying176;have d:Below w.heap.size w (w.alloc (.cells #[] 56)):=(Below.refl _ _).alloc (lR _) _;have g:=aA (World.ownsRow_made (e:=56) w #[] 0 (lR _) (by simp[maxLen]) rfl:(w.alloc (.cells #[] 56)).ownsRow w.heap.size 56 3 (.slice (some ⟨w.heap.size,0,none⟩) 0 0) 0 []);have s:=aA (h2.len (fun _ _ f=>bH.len f));have t:=aA (h2.aDL (fun _ _ f=>bH.one f));obtain⟨y,r,q,j⟩:=dG (h1.lt.below d) h2 d n;clear h1 h2 d n;go_enter func264,ntmps264;go_wp2_with (at_builtin;refine fQ Yh rfl (.tmp 5) (.tmp 6) rfl w.heap.size (.slice (some ⟨w.heap.size,0,none⟩) 0 0) 0 [] rfl g.o (some k) l.length c cs rfl s.o (y.o.more qs) t.o (by have:=j.o;unfold maxLen;omega) (qA j.o) qs ?_;intro C c1 w1 p m A;have i:=aA (dU g.o q.o m (lR _) qs);have x:=aA p;clear p m A)
  go_returns;have o:=x.o;simp only[Nat.zero_add,List.nil_append] at o ⊢;exact⟨_,rfl,lJ bH r.o i.o o,i.o⟩
def eT{α:Type}(p:α->Bool)(l:List α):Int:=if l.findIdx p<l.length then (l.findIdx p:Int) else -1
theorem IS{α:Type}{p:α->Bool}{l:List α}{k:Nat}(a:k<l.length)(b:∀i (c:i<l.length),i<k->p l[i]=false)(h:p l[k]=true):eT p l=(k:Int):=by
 have e:l.findIdx p=k:=(List.findIdx_eq a).2 ⟨h,fun j hj=>b j qo hj⟩;unfold eT;rw[e,iP a]
theorem ON{α:Type}{p:α->Bool}{l:List α}(b:∀i (a:i<l.length),i<l.length->p l[i]=false):eT p l= -1:=by
 have e:l.findIdx p=l.length:=by
  rw[List.findIdx_eq_length];intro x c;obtain⟨i,a,rfl⟩:=List.getElem_of_mem c;exact b i a a
 unfold eT;rw[e,iN qo]
theorem sY{α:Type}(p:α->Bool)(l:List α):decide (0<=eT p l)=l.any p:=by
 unfold eT;rw[Bool.eq_iff_iff,decide_eq_true_iff,List.any_eq_true];by_cases h:l.findIdx p<l.length
 .rw[iP h];exact⟨fun _=>⟨_,List.getElem_mem h,List.findIdx_getElem (w:=h)⟩,fun _=>by omega⟩
 .rw[iN h];exact⟨fun h=>by omega,fun⟨x,a,hp⟩=>absurd (List.findIdx_lt_length_of_exists ⟨x,a,hp⟩) h⟩
def iZ(w:World)(p i:Nat)(v:Value):Prop:=w.cell? ⟨p,i,none⟩=some v/\p<w.heap.size
theorem iZ.on{w w':World}{p i:Nat}{v:Value}(h:iZ w p i v)(a:Below w.heap.size w w'):iZ w' p i v:=⟨(a.cell (p:=⟨p,i,none⟩) h.2).trans h.1,lL h.2 a.size⟩
theorem Cl(x:Gv)(b:oD)(c:Nat)(C:Int)(N:bY)(p q:Nat)(w:World)(hp:iZ w p 0 (.int .i64 C))(a:iZ w q 0 (.string N)):
 Calls prog 284 #[.agg #[.int .i64 x.1,.string x.2.1,.slice b x.2.2.length c],.pointer (some ⟨p,0,none⟩),.pointer (some ⟨q,0,none⟩)] w (aN (.bool (mK C N x)) w):=by
 unfold aN;have h1:p≠w.heap.size:=qA hp.2;have h2:q≠w.heap.size:=qA a.2;obtain⟨hp,d⟩:=hp;obtain⟨a,e⟩:=a;go_enter func284,ntmps284;go_wp2
 .rename_i h;go_returns;refine⟨?_,aB _ _⟩;show Ending.returned (.bool (x.2.1.toList==N.toList))=_;rw[jD];unfold mK;rw[dX h];rfl
 .rename_i h;go_returns;refine⟨?_,aB _ _⟩;show Ending.returned (.bool false)=_;unfold mK;rw[dF h];rfl
theorem Hq{ok:nP}(v:Value)(l:List Gv)(C:Int)(N:bY)(p q:Nat)(w:World)(h:aH jM w ok v l)(d:iZ w p 0 (.int .i64 C)/\iZ w q 0 (.string N)):Calls prog 283 #[v,.func (.func 284) #[] #[.pointer (some ⟨p,0,none⟩),.pointer (some ⟨q,0,none⟩)]] w (aN (.int .i64 (eT (mK C N) l)) w):=by
 obtain⟨a,c,rfl,D⟩:=h.slice;have t:=aA h;have j:=aA (fun wr (o:Below w.heap.size w wr)=>(⟨d.1.on o,d.2.on o⟩:iZ wr p 0 (.int .i64 C)/\iZ wr q 0 (.string N)));clear h d;obtain⟨PR,f⟩:∃PR:Gv->Bool,PR=(mK C N):=⟨_,rfl⟩;have s:=aA f;rw[<-f];clear f;unfold aN;go_enter func283,ntmps283;go_wp2;go_loopw [5,8] (fun _ i wr=>∃k:Nat,k<=l.length/\i=.int .i64 k/\Hid (∀i (hi:i<l.length),i<k->PR l[i]=false)/\Hid (Below w.heap.size w wr)) (fun _ i _=>l.length - (intOf i).toNat)
 case atStart=>exact BK
 case round=>
  obtain⟨k,B,rfl,HR,HB⟩:=hrel;by_cases hlt:k<l.length
  .have hk1:(k:Int)<(l.length:Int):=qo;obtain⟨b,off,r,rfl,_,A,⟨vb,rfl,y⟩,hcl⟩:=aH.at bZ (t.o.on bZ HB.o) hlt qe;obtain⟨m,n,rfl,_⟩:=y.2.2.slice;obtain⟨z,E,F⟩:=cR3 hcl;rw[Nat.add_zero] at z;have HI:Hid (Calls prog 284 #[.agg #[.int .i64 l[k].1,.string l[k].2.1,.slice m l[k].2.2.length n],.pointer (some ⟨p,0,none⟩),.pointer (some ⟨q,0,none⟩)] wr (aN (.bool (PR l[k])) wr)):=by rw[s.o];exact aA (Cl l[k] m n C N p q wr (j.o wr HB.o).1 (j.o wr HB.o).2)
   exact KC
  .exact KA
theorem Cn(l:List Gv)(C:Int)(N:bY):mM l C N=eT (mK C N) l:=rfl
theorem Co{ok:nP}(v:Value)(l:List Gv)(C:Int)(N:bY)(w:World)(h:aH jM w ok v l):
 Calls prog 263 #[v,.int .i64 C,.string N] w (aN (.int .i64 (mM l C N)) w):=by
 obtain⟨h1,h2,h3,h4,h5⟩:=Gp w (.int .i64 C) (.string N) 3 9;have d:=aA (Hq v l C N w.heap.size (w.heap.size+1) _ (h.on bZ h5) ⟨⟨h1,h3⟩,⟨h2,h4⟩⟩);have b:=aA h5;obtain⟨a,c,rfl,i⟩:=h.slice;clear h1 h2 h3 h4 h5 h;rw[Cn];unfold aN at *;generalize eT (mK C N) l=pl at *;go_enter func263,ntmps263;go_wp2_with fail;refine d.o.mono ?_;rintro e w' ⟨rfl,f⟩;have g:=qB b f;clear d f b;go_wp2;go_returns;exact⟨rfl,g.o⟩
def sZ(l:List Gv)(a:At)(w:World)(e:Ending)(w':World):Prop:=
 ∃v,e=.returned (.tuple #[v,.int .i64 (rL l a).2])/\aH VR w' (fun b=>w.heap.size<=b) v (rL l a).1/\Below w.heap.size w w'
theorem Hr(l:List Gv)(C:Int)(N:bY):(mM l C N= -1/\zF l C N=[])\/∃(k:Nat) (h:k<l.length),mM l C N=(k:Int)/\zF l C N=l[k].2.2:=by
 by_cases h:mL l C N<l.length
 .refine .inr ⟨mL l C N,h,?_,Xk h⟩;unfold mM;rw[iP h]
 .refine .inl ⟨?_,Nl h⟩;unfold mM;rw[iN h]
theorem TN{ok:nP}(v:Value)(l:List Gv)(at_:At)(w:World)(h:aH jM w ok v l):Calls prog 244 #[v,oG at_] w (sZ l at_ w):=by
 obtain⟨cat,name,must⟩:=at_;have E:=aB w (.cells #[.int .i64 cat,.string name,.bool must] 295);obtain⟨y,j,R,d,L⟩:=gC (Co v l cat name _ (h.on bZ E)) (Hr l cat name) h (aK w (.cells #[.int .i64 cat,.string name,.bool must] 295) _ rfl) E;obtain⟨a,c,rfl,ad⟩:=h.slice;obtain⟨B,m⟩:∃B,zF l cat name=B:=⟨_,rfl⟩;have J:Hid (∀v w',(B=[]/\must=true)->aH VR w' (fun b=>w.heap.size<=b) v []->Below w.heap.size w w'->sZ l ⟨cat,name,must⟩ w (.returned (.tuple #[v,.int .i64 4])) w'):=aA (fun v w' h1 h2 h3=>by
  unfold sZ rL;simp only[m];rw[iP h1];exact⟨v,rfl,h2,h3⟩)
 have z:Hid (∀v w',¬(B=[]/\must=true)->aH VR w' (fun b=>w.heap.size<=b) v B->Below w.heap.size w w'->sZ l ⟨cat,name,must⟩ w (.returned (.tuple #[v,.int .i64 0])) w'):=aA (fun v w' h1 h2 h3=>by
  unfold sZ rL;simp only[m];rw[iN h1];exact⟨v,rfl,h2,h3⟩)
 rw[m] at j;unfold oG;unfold aN at y;clear E h m;generalize mM l cat name=pl at *;go_enter func244,ntmps244;go_wp2_with fail;refine y.o.mono ?_;rintro e w1 ⟨rfl,F⟩;have f:=qB L F
 try clear p q s I
 replace d:=qK d F;obtain⟨⟨p,q,s⟩,_⟩:=cE d.o;have I:=aD d.o;clear y F L
 rcases j.o with ⟨C,i⟩|⟨k,S,C,i⟩
 .subst C;have g:=aA i;clear j i
  cases must
  .go_wp2;go_returns;exact z.o _ _ qs (by rw[g.o];exact aH.nil) f.o
  .go_wp2;go_returns;exact J.o _ _ ⟨g.o,(by trivial)⟩ aH.nil f.o
 .subst C;obtain⟨b,off,r,rfl,_,Z,⟨vb,rfl,N⟩,M⟩:=aH.at bZ (R.o.on bZ f.o) S qe;have n:=N.2.2;rw[<-i] at n;obtain⟨W,X,rfl,O⟩:=n.slice;obtain⟨P,U,V⟩:=cR3 M;rw[Nat.add_zero] at P;have ab:(k:Int)<(l.length:Int):=qo;have aa:decide ((k:Int) ≥ 0)=true:=dX qo;have x:=aA (Ck _ _ w1 n);unfold bW at x;have Q:=aA O;clear j N M i n O;go_wp2_with fail;refine x.o.mono ?_;rintro e w2 ⟨v,rfl,H,G⟩;obtain⟨A,Y,rfl⟩:=H.slice;have K:=aA ((eI (enc:=IG) (good:=cS) (ok':=fun b=>w.heap.size<=b) H).sl Q.o (fun b=>w.heap.size<=b) (fun b D _=>D) (fun b D _=>lT f.o.size D) bH);have t:=qB f G
  try clear p q s I
  replace d:=qK d G;obtain⟨⟨p,q,s⟩,_⟩:=cE d.o;have I:=aD d.o;clear x G H P U V f;by_cases o:B.length=0
  .have T:((B.length:Int)==0)=true:=bQ.2 qo;have g:=aA (List.eq_nil_of_length_eq_zero o);clear o
   cases must
   .go_wp2;go_returns;exact z.o _ _ qs K.o t.o
   .go_wp2;go_returns;exact J.o _ _ ⟨g.o,(by trivial)⟩ aH.nil t.o
  .have T:((B.length:Int)==0)=false:=bN.2 qo;have g:Hid (¬(B=[]/\must=true)):=aA (fun h=>o (by rw[h.1];rfl));clear o;go_wp2;go_returns;exact z.o _ _ g.o K.o t.o
theorem Cp:dV prog 69 77 3 40:=fP (z:= .agg #[.int .i64 0,.string ByteArray.empty,.string ByteArray.empty]) underlying69 (by kernel_rfl) rfl qe
theorem xA:dV prog 68 74 4 48:=fP (z:= .agg #[.string ByteArray.empty,.int .i64 0,.int .i64 0,.string ByteArray.empty]) underlying68 (by kernel_rfl) rfl qe
theorem zT:dV prog 25 71 5 96:=fP (z:= .agg #[.string ByteArray.empty,.string ByteArray.empty,.string ByteArray.empty,.slice none 0 0,.slice none 0 0]) underlying25 (by kernel_rfl) rfl qe
theorem Sp:dV prog 26 185 7 88:=fP (z:= .agg #[.int .i64 0,.int .i64 0,.string ByteArray.empty,.string ByteArray.empty,.string ByteArray.empty,.string ByteArray.empty,.bool false]) underlying26 (by kernel_rfl) rfl qe
theorem Sq:dV prog 27 188 3 40:=fP (z:= .agg #[.int .i64 0,.string ByteArray.empty,.string ByteArray.empty]) underlying27 (by kernel_rfl) rfl qe
theorem Sr:dV prog 28 44 2 32:=fP (z:= .agg #[.string ByteArray.empty,.string ByteArray.empty]) underlying28 (by kernel_rfl) rfl qe
theorem aCF:dV prog 33 197 3 32:=fP (z:= .agg #[.int .i64 0,.int .i64 0,.string ByteArray.empty]) underlying33 (by kernel_rfl) rfl qe
theorem aCG:dV prog 321 297 7 72:=fP (z:= .agg #[.int .i64 0,.string ByteArray.empty,.bool false,.int .i64 0,.int .i64 0,.int .i64 0,.string ByteArray.empty]) underlying321 (by kernel_rfl) rfl qe
theorem aCH:dV prog 285 310 7 72:=fP (z:= .agg #[.int .i64 0,.int .i64 0,.int .i64 0,.string ByteArray.empty,.int .i64 0,.string ByteArray.empty,.bool false]) underlying285 (by kernel_rfl) rfl qe
theorem aCI:dV prog 31 287 5 96:=fP (z:= .agg #[.string ByteArray.empty,.bool false,.slice none 0 0,.slice none 0 0,.slice none 0 0]) underlying31 (by kernel_rfl) rfl qe
theorem aCJ:dV prog 32 35 7 128:=fP (z:= .agg #[.string ByteArray.empty,.bool false,.int .i64 0,.slice none 0 0,.slice none 0 0,.slice none 0 0,.slice none 0 0]) underlying32 (by kernel_rfl) rfl qe
theorem CX{ok:nP}(v:Value)(l:List rT)(w:World)(h:aH lF w ok v l):Calls prog 104 #[v] w (bW lF 3 77 ok l w):=by
 obtain⟨a,c,rfl,n⟩:=h.slice;unfold bW
 rcases a with _|k
 .have B:=kD bV qe h;subst B;have heq:=Lib.run_eql_slice_nil (P:=prog) w 69 77 none 0 c 0 0 underlying69;clear h;go_enter func104,ntmps104;exact BL
 .obtain⟨D,E,cs,b,h1,h2,_⟩:=h;injection b with b _ z;subst b z;have heq:=Lib.run_eql_slice_nil (P:=prog) w 69 77 (some k) l.length c 0 0 underlying69;have d:Below w.heap.size w (w.alloc (.cells #[] 77)):=(Below.refl _ _).alloc (lR _) _;have g:=aA (World.ownsRow_made (e:=77) w #[] 0 (lR _) (by simp[maxLen]) rfl:(w.alloc (.cells #[] 77)).ownsRow w.heap.size 77 3 (.slice (some ⟨w.heap.size,0,none⟩) 0 0) 0 []);have s:=aA (h2.len (fun _ _ f=>bV.len f));have t:=aA (h2.aDL (fun _ _ f=>bV.one f));obtain⟨y,r,q,j⟩:=dG (h1.lt.below d) h2 d n;clear h1 h2 d n;go_enter func104,ntmps104;go_wp2_with (at_builtin;refine fQ Cp rfl (.tmp 5) (.tmp 6) rfl w.heap.size (.slice (some ⟨w.heap.size,0,none⟩) 0 0) 0 [] rfl g.o (some k) l.length c cs rfl s.o (y.o.more qs) t.o (by have:=j.o;unfold maxLen;omega) (qA j.o) qs ?_;intro C c1 w1 p m A;have i:=aA (dU g.o q.o m (lR _) qs);have x:=aA p;clear p m A)
  go_returns;have o:=x.o;simp only[Nat.zero_add,List.nil_append] at o ⊢;exact⟨_,rfl,lJ bV r.o i.o o,i.o⟩
theorem TO{ok:nP}(v:Value)(l:List oI)(w:World)(h:aH kO w ok v l):Calls prog 173 #[v] w (bW kO 4 74 ok l w):=by
 obtain⟨a,c,rfl,n⟩:=h.slice;unfold bW
 rcases a with _|k
 .have B:=kD bO qe h;subst B;have heq:=Lib.run_eql_slice_nil (P:=prog) w 68 74 none 0 c 0 0 underlying68;clear h;go_enter func173,ntmps173;exact BL
 .obtain⟨D,E,cs,b,h1,h2,_⟩:=h;injection b with b _ z;subst b z;have heq:=Lib.run_eql_slice_nil (P:=prog) w 68 74 (some k) l.length c 0 0 underlying68;have d:Below w.heap.size w (w.alloc (.cells #[] 74)):=(Below.refl _ _).alloc (lR _) _;have g:=aA (World.ownsRow_made (e:=74) w #[] 0 (lR _) (by simp[maxLen]) rfl:(w.alloc (.cells #[] 74)).ownsRow w.heap.size 74 4 (.slice (some ⟨w.heap.size,0,none⟩) 0 0) 0 []);have s:=aA (h2.len (fun _ _ f=>bO.len f));have t:=aA (h2.aDL (fun _ _ f=>bO.one f));obtain⟨y,r,q,j⟩:=dG (h1.lt.below d) h2 d n;clear h1 h2 d n;go_enter func173,ntmps173;go_wp2_with (at_builtin;refine fQ xA rfl (.tmp 5) (.tmp 6) rfl w.heap.size (.slice (some ⟨w.heap.size,0,none⟩) 0 0) 0 [] rfl g.o (some k) l.length c cs rfl s.o (y.o.more qs) t.o (by have:=j.o;unfold maxLen;omega) (qA j.o) qs ?_;intro C c1 w1 p m A;have i:=aA (dU g.o q.o m (lR _) qs);have x:=aA p;clear p m A)
  go_returns;have o:=x.o;simp only[Nat.zero_add,List.nil_append] at o ⊢;exact⟨_,rfl,lJ bO r.o i.o o,i.o⟩
theorem CY{ok:nP}(v:Value)(l:List cF)(w:World)(h:aH oE w ok v l):Calls prog 103 #[v] w (bW oE 5 71 ok l w):=by
 obtain⟨a,c,rfl,n⟩:=h.slice;unfold bW
 rcases a with _|k
 .have B:=kD dI qe h;subst B;have heq:=Lib.run_eql_slice_nil (P:=prog) w 25 71 none 0 c 0 0 underlying25;clear h;go_enter func103,ntmps103;exact BL
 .obtain⟨D,E,cs,b,h1,h2,_⟩:=h;injection b with b _ z;subst b z;have heq:=Lib.run_eql_slice_nil (P:=prog) w 25 71 (some k) l.length c 0 0 underlying25;have d:Below w.heap.size w (w.alloc (.cells #[] 71)):=(Below.refl _ _).alloc (lR _) _;have g:=aA (World.ownsRow_made (e:=71) w #[] 0 (lR _) (by simp[maxLen]) rfl:(w.alloc (.cells #[] 71)).ownsRow w.heap.size 71 5 (.slice (some ⟨w.heap.size,0,none⟩) 0 0) 0 []);have s:=aA (h2.len (fun _ _ f=>dI.len f));have t:=aA (h2.aDL (fun _ _ f=>dI.one f));obtain⟨y,r,q,j⟩:=dG (h1.lt.below d) h2 d n;clear h1 h2 d n;go_enter func103,ntmps103;go_wp2_with (at_builtin;refine fQ zT rfl (.tmp 5) (.tmp 6) rfl w.heap.size (.slice (some ⟨w.heap.size,0,none⟩) 0 0) 0 [] rfl g.o (some k) l.length c cs rfl s.o (y.o.more qs) t.o (by have:=j.o;unfold maxLen;omega) (qA j.o) qs ?_;intro C c1 w1 p m A;have i:=aA (dU g.o q.o m (lR _) qs);have x:=aA p;clear p m A)
  go_returns;have o:=x.o;simp only[Nat.zero_add,List.nil_append] at o ⊢;exact⟨_,rfl,lJ dI r.o i.o o,i.o⟩
theorem CZ{ok:nP}(v:Value)(l:List vY)(w:World)(h:aH sU w ok v l):Calls prog 101 #[v] w (bW sU 7 185 ok l w):=by
 obtain⟨a,c,rfl,n⟩:=h.slice;unfold bW
 rcases a with _|k
 .have B:=kD cT qe h;subst B;have heq:=Lib.run_eql_slice_nil (P:=prog) w 26 185 none 0 c 0 0 underlying26;clear h;go_enter func101,ntmps101;exact BL
 .obtain⟨D,E,cs,b,h1,h2,_⟩:=h;injection b with b _ z;subst b z;have heq:=Lib.run_eql_slice_nil (P:=prog) w 26 185 (some k) l.length c 0 0 underlying26;have d:Below w.heap.size w (w.alloc (.cells #[] 185)):=(Below.refl _ _).alloc (lR _) _;have g:=aA (World.ownsRow_made (e:=185) w #[] 0 (lR _) (by simp[maxLen]) rfl:(w.alloc (.cells #[] 185)).ownsRow w.heap.size 185 7 (.slice (some ⟨w.heap.size,0,none⟩) 0 0) 0 []);have s:=aA (h2.len (fun _ _ f=>cT.len f));have t:=aA (h2.aDL (fun _ _ f=>cT.one f));obtain⟨y,r,q,j⟩:=dG (h1.lt.below d) h2 d n;clear h1 h2 d n;go_enter func101,ntmps101;go_wp2_with (at_builtin;refine fQ Sp rfl (.tmp 5) (.tmp 6) rfl w.heap.size (.slice (some ⟨w.heap.size,0,none⟩) 0 0) 0 [] rfl g.o (some k) l.length c cs rfl s.o (y.o.more qs) t.o (by have:=j.o;unfold maxLen;omega) (qA j.o) qs ?_;intro C c1 w1 p m A;have i:=aA (dU g.o q.o m (lR _) qs);have x:=aA p;clear p m A)
  go_returns;have o:=x.o;simp only[Nat.zero_add,List.nil_append] at o ⊢;exact⟨_,rfl,lJ cT r.o i.o o,i.o⟩
theorem DA{ok:nP}(v:Value)(l:List xS)(w:World)(h:aH vZ w ok v l):Calls prog 102 #[v] w (bW vZ 3 188 ok l w):=by
 obtain⟨a,c,rfl,n⟩:=h.slice;unfold bW
 rcases a with _|k
 .have B:=kD dZ qe h;subst B;have heq:=Lib.run_eql_slice_nil (P:=prog) w 27 188 none 0 c 0 0 underlying27;clear h;go_enter func102,ntmps102;exact BL
 .obtain⟨D,E,cs,b,h1,h2,_⟩:=h;injection b with b _ z;subst b z;have heq:=Lib.run_eql_slice_nil (P:=prog) w 27 188 (some k) l.length c 0 0 underlying27;have d:Below w.heap.size w (w.alloc (.cells #[] 188)):=(Below.refl _ _).alloc (lR _) _;have g:=aA (World.ownsRow_made (e:=188) w #[] 0 (lR _) (by simp[maxLen]) rfl:(w.alloc (.cells #[] 188)).ownsRow w.heap.size 188 3 (.slice (some ⟨w.heap.size,0,none⟩) 0 0) 0 []);have s:=aA (h2.len (fun _ _ f=>dZ.len f));have t:=aA (h2.aDL (fun _ _ f=>dZ.one f));obtain⟨y,r,q,j⟩:=dG (h1.lt.below d) h2 d n;clear h1 h2 d n;go_enter func102,ntmps102;go_wp2_with (at_builtin;refine fQ Sq rfl (.tmp 5) (.tmp 6) rfl w.heap.size (.slice (some ⟨w.heap.size,0,none⟩) 0 0) 0 [] rfl g.o (some k) l.length c cs rfl s.o (y.o.more qs) t.o (by have:=j.o;unfold maxLen;omega) (qA j.o) qs ?_;intro C c1 w1 p m A;have i:=aA (dU g.o q.o m (lR _) qs);have x:=aA p;clear p m A)
  go_returns;have o:=x.o;simp only[Nat.zero_add,List.nil_append] at o ⊢;exact⟨_,rfl,lJ dZ r.o i.o o,i.o⟩
theorem TP{ok:nP}(v:Value)(l:List uV)(w:World)(h:aH oU w ok v l):Calls prog 166 #[v] w (bW oU 2 44 ok l w):=by
 obtain⟨a,c,rfl,n⟩:=h.slice;unfold bW
 rcases a with _|k
 .have B:=kD cN qe h;subst B;have heq:=Lib.run_eql_slice_nil (P:=prog) w 28 44 none 0 c 0 0 underlying28;clear h;go_enter func166,ntmps166;exact BL
 .obtain⟨D,E,cs,b,h1,h2,_⟩:=h;injection b with b _ z;subst b z;have heq:=Lib.run_eql_slice_nil (P:=prog) w 28 44 (some k) l.length c 0 0 underlying28;have d:Below w.heap.size w (w.alloc (.cells #[] 44)):=(Below.refl _ _).alloc (lR _) _;have g:=aA (World.ownsRow_made (e:=44) w #[] 0 (lR _) (by simp[maxLen]) rfl:(w.alloc (.cells #[] 44)).ownsRow w.heap.size 44 2 (.slice (some ⟨w.heap.size,0,none⟩) 0 0) 0 []);have s:=aA (h2.len (fun _ _ f=>cN.len f));have t:=aA (h2.aDL (fun _ _ f=>cN.one f));obtain⟨y,r,q,j⟩:=dG (h1.lt.below d) h2 d n;clear h1 h2 d n;go_enter func166,ntmps166;go_wp2_with (at_builtin;refine fQ Sr rfl (.tmp 5) (.tmp 6) rfl w.heap.size (.slice (some ⟨w.heap.size,0,none⟩) 0 0) 0 [] rfl g.o (some k) l.length c cs rfl s.o (y.o.more qs) t.o (by have:=j.o;unfold maxLen;omega) (qA j.o) qs ?_;intro C c1 w1 p m A;have i:=aA (dU g.o q.o m (lR _) qs);have x:=aA p;clear p m A)
  go_returns;have o:=x.o;simp only[Nat.zero_add,List.nil_append] at o ⊢;exact⟨_,rfl,lJ cN r.o i.o o,i.o⟩
theorem FU{ok:nP}(v:Value)(l:List Ob)(w:World)(h:aH jU w ok v l):Calls prog 217 #[v] w (bW jU 3 197 ok l w):=by
 obtain⟨a,c,rfl,n⟩:=h.slice;unfold bW
 rcases a with _|k
 .have B:=kD aP qe h;subst B;have heq:=Lib.run_eql_slice_nil (P:=prog) w 33 197 none 0 c 0 0 underlying33;clear h;go_enter func217,ntmps217;exact BL
 .obtain⟨D,E,cs,b,h1,h2,_⟩:=h;injection b with b _ z;subst b z;have heq:=Lib.run_eql_slice_nil (P:=prog) w 33 197 (some k) l.length c 0 0 underlying33;have d:Below w.heap.size w (w.alloc (.cells #[] 197)):=(Below.refl _ _).alloc (lR _) _;have g:=aA (World.ownsRow_made (e:=197) w #[] 0 (lR _) (by simp[maxLen]) rfl:(w.alloc (.cells #[] 197)).ownsRow w.heap.size 197 3 (.slice (some ⟨w.heap.size,0,none⟩) 0 0) 0 []);have s:=aA (h2.len (fun _ _ f=>aP.len f));have t:=aA (h2.aDL (fun _ _ f=>aP.one f));obtain⟨y,r,q,j⟩:=dG (h1.lt.below d) h2 d n;clear h1 h2 d n;go_enter func217,ntmps217;go_wp2_with (at_builtin;refine fQ aCF rfl (.tmp 5) (.tmp 6) rfl w.heap.size (.slice (some ⟨w.heap.size,0,none⟩) 0 0) 0 [] rfl g.o (some k) l.length c cs rfl s.o (y.o.more qs) t.o (by have:=j.o;unfold maxLen;omega) (qA j.o) qs ?_;intro C c1 w1 p m A;have i:=aA (dU g.o q.o m (lR _) qs);have x:=aA p;clear p m A)
  go_returns;have o:=x.o;simp only[Nat.zero_add,List.nil_append] at o ⊢;exact⟨_,rfl,lJ aP r.o i.o o,i.o⟩
theorem XR{ok:nP}(v:Value)(l:List Ma)(w:World)(h:aH rN w ok v l):Calls prog 247 #[v] w (bW rN 7 297 ok l w):=by
 obtain⟨a,c,rfl,n⟩:=h.slice;unfold bW
 rcases a with _|k
 .have B:=kD eO qe h;subst B;have heq:=Lib.run_eql_slice_nil (P:=prog) w 321 297 none 0 c 0 0 underlying321;clear h;go_enter func247,ntmps247;exact BL
 .obtain⟨D,E,cs,b,h1,h2,_⟩:=h;injection b with b _ z;subst b z;have heq:=Lib.run_eql_slice_nil (P:=prog) w 321 297 (some k) l.length c 0 0 underlying321;have d:Below w.heap.size w (w.alloc (.cells #[] 297)):=(Below.refl _ _).alloc (lR _) _;have g:=aA (World.ownsRow_made (e:=297) w #[] 0 (lR _) (by simp[maxLen]) rfl:(w.alloc (.cells #[] 297)).ownsRow w.heap.size 297 7 (.slice (some ⟨w.heap.size,0,none⟩) 0 0) 0 []);have s:=aA (h2.len (fun _ _ f=>eO.len f));have t:=aA (h2.aDL (fun _ _ f=>eO.one f));obtain⟨y,r,q,j⟩:=dG (h1.lt.below d) h2 d n;clear h1 h2 d n;go_enter func247,ntmps247;go_wp2_with (at_builtin;refine fQ aCG rfl (.tmp 5) (.tmp 6) rfl w.heap.size (.slice (some ⟨w.heap.size,0,none⟩) 0 0) 0 [] rfl g.o (some k) l.length c cs rfl s.o (y.o.more qs) t.o (by have:=j.o;unfold maxLen;omega) (qA j.o) qs ?_;intro C c1 w1 p m A;have i:=aA (dU g.o q.o m (lR _) qs);have x:=aA p;clear p m A)
  go_returns;have o:=x.o;simp only[Nat.zero_add,List.nil_append] at o ⊢;exact⟨_,rfl,lJ eO r.o i.o o,i.o⟩
theorem XS{ok:nP}(v:Value)(l:List No)(w:World)(h:aH JM w ok v l):Calls prog 220 #[v] w (bW JM 7 310 ok l w):=by
 obtain⟨a,c,rfl,n⟩:=h.slice;unfold bW
 rcases a with _|k
 .have B:=kD dQ qe h;subst B;have heq:=Lib.run_eql_slice_nil (P:=prog) w 285 310 none 0 c 0 0 underlying285;clear h;go_enter func220,ntmps220;exact BL
 .obtain⟨D,E,cs,b,h1,h2,_⟩:=h;injection b with b _ z;subst b z;have heq:=Lib.run_eql_slice_nil (P:=prog) w 285 310 (some k) l.length c 0 0 underlying285;have d:Below w.heap.size w (w.alloc (.cells #[] 310)):=(Below.refl _ _).alloc (lR _) _;have g:=aA (World.ownsRow_made (e:=310) w #[] 0 (lR _) (by simp[maxLen]) rfl:(w.alloc (.cells #[] 310)).ownsRow w.heap.size 310 7 (.slice (some ⟨w.heap.size,0,none⟩) 0 0) 0 []);have s:=aA (h2.len (fun _ _ f=>dQ.len f));have t:=aA (h2.aDL (fun _ _ f=>dQ.one f));obtain⟨y,r,q,j⟩:=dG (h1.lt.below d) h2 d n;clear h1 h2 d n;go_enter func220,ntmps220;go_wp2_with (at_builtin;refine fQ aCH rfl (.tmp 5) (.tmp 6) rfl w.heap.size (.slice (some ⟨w.heap.size,0,none⟩) 0 0) 0 [] rfl g.o (some k) l.length c cs rfl s.o (y.o.more qs) t.o (by have:=j.o;unfold maxLen;omega) (qA j.o) qs ?_;intro C c1 w1 p m A;have i:=aA (dU g.o q.o m (lR _) qs);have x:=aA p;clear p m A)
  go_returns;have o:=x.o;simp only[Nat.zero_add,List.nil_append] at o ⊢;exact⟨_,rfl,lJ dQ r.o i.o o,i.o⟩
theorem XT{ok:nP}(v:Value)(l:List Ru)(w:World)(h:aH yI w ok v l):Calls prog 218 #[v] w (bW yI 5 287 ok l w):=by
 obtain⟨a,c,rfl,n⟩:=h.slice;unfold bW
 rcases a with _|k
 .have B:=kD bL qe h;subst B;have heq:=Lib.run_eql_slice_nil (P:=prog) w 31 287 none 0 c 0 0 underlying31;clear h;go_enter func218,ntmps218;exact BL
 .obtain⟨D,E,cs,b,h1,h2,_⟩:=h;injection b with b _ z;subst b z;have heq:=Lib.run_eql_slice_nil (P:=prog) w 31 287 (some k) l.length c 0 0 underlying31;have d:Below w.heap.size w (w.alloc (.cells #[] 287)):=(Below.refl _ _).alloc (lR _) _;have g:=aA (World.ownsRow_made (e:=287) w #[] 0 (lR _) (by simp[maxLen]) rfl:(w.alloc (.cells #[] 287)).ownsRow w.heap.size 287 5 (.slice (some ⟨w.heap.size,0,none⟩) 0 0) 0 []);have s:=aA (h2.len (fun _ _ f=>bL.len f));have t:=aA (h2.aDL (fun _ _ f=>bL.one f));obtain⟨y,r,q,j⟩:=dG (h1.lt.below d) h2 d n;clear h1 h2 d n;go_enter func218,ntmps218;go_wp2_with (at_builtin;refine fQ aCI rfl (.tmp 5) (.tmp 6) rfl w.heap.size (.slice (some ⟨w.heap.size,0,none⟩) 0 0) 0 [] rfl g.o (some k) l.length c cs rfl s.o (y.o.more qs) t.o (by have:=j.o;unfold maxLen;omega) (qA j.o) qs ?_;intro C c1 w1 p m A;have i:=aA (dU g.o q.o m (lR _) qs);have x:=aA p;clear p m A)
  go_returns;have o:=x.o;simp only[Nat.zero_add,List.nil_append] at o ⊢;exact⟨_,rfl,lJ bL r.o i.o o,i.o⟩
theorem XU{n:Nat}{ok:nP}(v:Value)(l:List Po)(w:World)(h:aH (pZ n) w ok v l):Calls prog 219 #[v] w (bW (pZ n) 7 35 ok l w):=by
 obtain⟨a,c,rfl,o⟩:=h.slice;unfold bW
 rcases a with _|k
 .have C:=kD (bB n) qe h;subst C;have heq:=Lib.run_eql_slice_nil (P:=prog) w 32 35 none 0 c 0 0 underlying32;clear h;go_enter func219,ntmps219;exact BL
 .obtain⟨E,F,cs,b,h1,h2,_⟩:=h;injection b with b _ A;subst b A;have heq:=Lib.run_eql_slice_nil (P:=prog) w 32 35 (some k) l.length c 0 0 underlying32;have d:Below w.heap.size w (w.alloc (.cells #[] 35)):=(Below.refl _ _).alloc (lR _) _;have g:=aA (World.ownsRow_made (e:=35) w #[] 0 (lR _) (by simp[maxLen]) rfl:(w.alloc (.cells #[] 35)).ownsRow w.heap.size 35 7 (.slice (some ⟨w.heap.size,0,none⟩) 0 0) 0 []);have t:=aA (h2.len (fun _ _ f=>(bB n).len f));have x:=aA (h2.aDL (fun _ _ f=>(bB n).one f));obtain⟨z,s,r,j⟩:=dG (h1.lt.below d) h2 d o;clear h1 h2 d o;go_enter func219,ntmps219;go_wp2_with (at_builtin;refine fQ aCJ rfl (.tmp 5) (.tmp 6) rfl w.heap.size (.slice (some ⟨w.heap.size,0,none⟩) 0 0) 0 [] rfl g.o (some k) l.length c cs rfl t.o (z.o.more qs) x.o (by have:=j.o;unfold maxLen;omega) (qA j.o) qs ?_;intro D c1 w1 q m B;have i:=aA (dU g.o r.o m (lR _) qs);have y:=aA q;clear q m B)
  go_returns;have p:=y.o;simp only[Nat.zero_add,List.nil_append] at p ⊢;exact⟨_,rfl,lJ (bB n) s.o i.o p,i.o⟩
end Go.Proofs.YtbpimcljljlbnaaGreatDoor
