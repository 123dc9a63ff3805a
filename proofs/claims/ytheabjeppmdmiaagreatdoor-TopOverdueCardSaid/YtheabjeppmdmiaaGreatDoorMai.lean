/- Lemmas. -/
import Derived.Test.YtheabjeppmdmiaaGreatDoorMah
namespace Go.Proofs.YtheabjeppmdmiaaGreatDoor
open Go.RowKit
set_option linter.unusedVariables false
set_option linter.unusedSimpArgs false
set_option maxHeartbeats 16000000
open _root_.Go.Proofs.Tryz
set_option maxRecDepth 20000
section
open Pv
abbrev pD(Q:Nat)(a:oD)(m b:Nat)(sy:Int):Obj:= .cells #[.int .i64 (Q:Int),.slice a m b,.int .i64 sy,.int .i64 0,.bool false] 106
theorem Ih(D Q m b:Nat)(a:oD)(sy:Int)(w:World)(c:Q<=2000000)(hm:m<=Q)(h:w.heap[D]? =some (pD Q a m b sy)):Calls prog 108 #[.pointer (some ⟨D,0,none⟩)] w (aP (.int .i64 ((Q:Int) - (m:Int))) w):=by
 obtain⟨⟨d0,d1,d2,d3,d4⟩,_⟩:=dN h;have e:=aD h;have d:IntKind.i64.wrap ((Q:Int) - (m:Int))=(Q:Int) - (m:Int):=IntWalk.i64_in _ qo;go_enter func108,ntmps108;go_upto_region 1 with (fail)
 go_quiet (fail)
 go_wp2;go_ret;exact⟨rfl,gA (Below.refl _ _) ⟨_,rfl⟩⟩
theorem PJ(D Q m b:Nat)(a:oD)(sy:Int)(w:World)(h:w.heap[D]? =some (pD Q a m b sy)):Calls prog 110 #[.pointer (some ⟨D,0,none⟩)] w (fun e w'=>e=.returned (.bool false)/\w'=w):=by
 obtain⟨⟨d0,d1,d2,d3,d4⟩,_⟩:=dN h;have c:=aD h;go_enter func110,ntmps110;go_wp2;go_ret;exact⟨rfl,rfl⟩
theorem PK(D Q m c:Nat)(a:oD)(sy:Int)(w:World)(h:w.heap[D]? =some (pD Q a m c sy)):Calls prog 51 #[.pointer (some ⟨D,0,none⟩)] w (fun e w'=>e=.returned (.int .i64 0)/\w'.heap[D]? =some (pD Q a m c (m:Int))/\aN (fun b=>b≠D) w w'):=by
 have d:=aA (PJ D Q m c a sy w h);have H:=aA h;obtain⟨⟨d0,d1,d2,d3,d4⟩,f0,f1,f2,f3,f4⟩:=dN h;have f:=aD h;clear h;go_enter func51,ntmps51;go_upto_region 3 with (go_at_call 110;refine d.o.mono ?_;rintro e w1 ⟨rfl,rfl⟩)
 go_wp2;go_ret;exact⟨rfl,aG H.o 2 _,aI _⟩
theorem Aq{w:World}{B:Nat}{a:oD}{n c:Nat}{l:lU}(h:w.ownsRow B 5 1 (.slice a n c) l.length (bF l)):jE w (fun b=>B<=b/\b<w.heap.size) a (bF l):=by
 obtain⟨k,m,e,_,h3,h4⟩:=lV h;injection e with f o p;subst f;intro j;obtain⟨b,off,d,i,g⟩:=h3 j;exact⟨b,off,d,⟨h4 _ d,i⟩,g⟩
theorem YG(D Q k:Nat)(g:oD)(sy:Int)(bs:lU)(a:oD)(c:Nat)(p:lU)(w:World)(C:Q<=1000000)(h:w.heap[D]? =some (pD Q g bs.length k sy))(d:Sl w w.heap.size g (bF bs))(hp:Sl w w.heap.size a (bF p))(h0:0<p.length)(G:bs.length+p.length<=Q):
 Calls prog 49 #[.pointer (some ⟨D,0,none⟩),.slice a p.length c] w (fun e w'=>e=.returned (.int .i64 0)/\(∃(l:lU) (A:oD) (i:Nat),l.length=bs.length+p.length/\w'.heap[D]? =some (pD Q A l.length i sy)/\jE w' (fun b=>w.heap.size<=b/\b<w'.heap.size) A (bF l))/\aN (fun b=>b≠D) w w'):=by
 obtain⟨z,H,B,n⟩:=dI (Ih D Q bs.length k g sy w qo qo h) h (And.intro d hp) (And.intro G (And.intro h0 C));unfold aP at z;have W:¬((Q:Int) - (bs.length:Int)<(p.length:Int)):=qo;obtain⟨⟨d0,d1,d2,d3,d4⟩,_⟩:=dN h;have q:=aD h;clear h d hp G h0 C;go_enter func49,ntmps49;go_wp2_with fail;refine z.o.mono ?_;rintro e w1 ⟨rfl,t⟩;obtain⟨s,o⟩:=xE (w1.alloc (.cells #[.slice g bs.length k,.slice a p.length c] 75));have E:Below w1.heap.size w1 s:=by rw[o];exact aB _ _
 have I:s.heap[w1.heap.size]? =some (.cells #[.slice g bs.length k,.slice a p.length c] 75 (0,0)):=by rw[o];exact aK _ _ _ rfl
 have j:=aA (aC t E);obtain⟨y,H1,T⟩:=aY (KS _ [bs,p] s (UD (cs:=[.slice g bs.length k,.slice a p.length c]) (c:=2) I ⟨[_],_,rfl,DC (B.o.1.on j.o) (qA n.o),⟨[_],[],rfl,DC (B.o.2.on j.o) (qA n.o),rfl⟩⟩ (by show 2<=1000;omega)) (bs.length+p.length) (by simp only[uF,List.length_cons,List.length_nil,List.take_succ_cons,List.take_zero,List.map_cons,List.map_nil,List.sum_cons,List.sum_nil];omega) (qA n.o) (qA n.o)) (aE H.o t) o;clear o E I d0 d1 d2 d3 d4 q t;obtain⟨⟨d0,d1,d2,d3,d4⟩,_⟩:=dN H1.o;have q:=aD H1.o;go_wp2_with fail;rw[<-T.o];refine y.o.mono ?_;rintro e M ⟨l,A,i,rfl,J,_,K,F⟩;obtain⟨O,P,x⟩:=aY J (Aq K) (aC j.o F);have r:=qK H x.o;clear J K F d0 d1 d2 d3 d4 q y;obtain⟨⟨d0,d1,d2,d3,d4⟩,f0,f1,f2,f3,f4⟩:=dN r.o;have q:=aD r.o;obtain⟨f,m⟩:=xE (M.setCell ⟨D,1,none⟩ (.slice A l.length i));have v:Hid (f.heap[D]? =some (pD Q A l.length i sy)):=aA (by rw[m];exact aG r.o 1 _);have R:Hid (aN (fun b=>b≠D) w f):=aA (by rw[m];exact(aJ x.o).trans (aI _));have S:Hid (jE f (fun b=>w.heap.size<=b/\b<f.heap.size) A (bF l)):=aA (by
  have L:aN (fun b=>b≠D) M f:=by rw[m];exact aI _
  have V:=aD H.o;exact(P.o.aDQ (L.mono fun b _ d e=>qD d.1 j.o.size)).more fun b d=>⟨lT j.o.size d.1,lL d.2 L.size⟩)
 have N:=aA (PJ D Q l.length i A sy f v.o);have U:=aA m;clear m;go_wp2_with fail;rw[<-U.o];refine N.o.mono ?_;rintro e X ⟨rfl,rfl⟩;go_wp2;go_ret;exact⟨rfl,⟨l,A,i,O.o,v.o,S.o⟩,R.o⟩
end
section
variable {P:Program} {w:World}
theorem DE(g:Nat)(cs:Array Value):aN (fun b=>b≠g) w (w.setRow g cs):=⟨rfl,rfl,rfl,by simp[World.setRow],fun k _ a=>setRow_other w g k cs a⟩
theorem Ii{o:Oper}{a:Act}{K:Act->World->Prop}{Q:Exit->Act->World->Prop}(ty:TypeId)(x y:Operand)(f:o.op=.store ty x y)(g:Nat)(cells:Array Value)(i:a.eval x=.pointer (some ⟨g,0,none⟩))(j:a.eval y=.agg cells)(t:TypeId)(c:Array Value)(d:w.heap[g]? =some (.cells c t (0,0)))(e:(P.info? ty).map (·.size)=some cells.size)(hold:c.size=cells.size)(h1:cells.all (·.oneCell')=true)
 (h:∀w',Hid (w'.heap[g]? =some (.cells cells t (0,0)))->Hid (aN (fun b=>b≠g) w w')->K (a.put o.dst undef) w'):o.wp P a w K Q:=
 wp_store_row ty x y f g cells i j t c d e hold h1 (h _ (setRow_heap w g c cells t (0,0) d) (DE g cells))
theorem dP{ops:Array Oper}{rest:List Oper}{o:Oper}{a:Act}{Q:Exit->Act->World->Prop}(f:o.guard=none)(ty:TypeId)(x y:Operand)(j:o.op=.store ty x y)(g:Nat)(cells:Array Value)(k:a.eval x=.pointer (some ⟨g,0,none⟩))(l:a.eval y=.agg cells)(t:TypeId)(c:Array Value)(e:w.heap[g]? =some (.cells c t (0,0)))(i:(P.info? ty).map (·.size)=some cells.size)(hold:c.size=cells.size)(h1:cells.all (·.oneCell')=true)
 (h:∀w',Hid (w'.heap[g]? =some (.cells cells t (0,0)))->Hid (aN (fun b=>b≠g) w w')->wpList P ops Q rest (a.put o.dst undef) w'):wpList P ops Q (o::rest) a w:=
 wpList_plain f fun _ d=>Ii ty x y j g cells k l t c e i hold h1 fun w' h2 h3=>d _ _ (h w' h2 h3)
theorem lD{ops:Array Oper}{o:Oper}{a:Act}{K:Act->World->Prop}{Q:Exit->Act->World->Prop}{E:Prop}(e:o.guard=none)(ty:TypeId)(x y:Operand)(i:o.op=.store ty x y)(g:Nat)(cells:Array Value)(j:a.eval x=.pointer (some ⟨g,0,none⟩))(k:a.eval y=.agg cells)(t:TypeId)(c:Array Value)(d:w.heap[g]? =some (.cells c t (0,0)))(f:(P.info? ty).map (·.size)=some cells.size)(hold:c.size=cells.size)(h1:cells.all (·.oneCell')=true)
 (h:∀w',Hid (w'.heap[g]? =some (.cells cells t (0,0)))->Hid (aN (fun b=>b≠g) w w')->K (a.put o.dst undef) w'):if Region.wanted o (yielded ops a.tmps)=true then Oper.wp P o a w K Q else E:=by
 rw[iP (by simp[Region.wanted,e])];exact Ii ty x y i g cells j k t c d f hold h1 h
end
theorem tD{s:bY}(h:s.size<=cQ):s.size<=maxLen:=by unfold cQ at h;unfold maxLen;omega
theorem Cz(k:Int)(w:World):Calls prog 155 #[.int .i64 k] w (aP (.bool (decide (k=3\/k=5))) w):=by
 unfold aP;go_enter func155,ntmps155;go_wp2
 all_goals go_returns
 all_goals exact⟨bH (by rw[Bool.eq_iff_iff];simp[*]<;>(intros;omega)),Below.refl _ _⟩
theorem wH:∀(x y:lU),Op.bytesLess x y=decide (x<y)
 | [],[]=>by simp[Op.bytesLess]
 | [],b::y=>by simp[Op.bytesLess]
 |a::x,[]=>by simp[Op.bytesLess]
 |a::x,b::y=>by
  rw[Op.bytesLess,wH x y,Bool.eq_iff_iff,decide_eq_true_iff,List.cons_lt_cons_iff];simp only[Bool.or_eq_true,Bool.and_eq_true,decide_eq_true_eq,bQ]
def tE(a b:V3)(w:World)(e:Ending)(w':World):Prop:=e=.returned (.tuple #[.bool (jZ a b).1,.int .i64 (jZ a b).2])/\Below w.heap.size w w'
theorem DF(a b:V3)(ha:cR a)(J:cR b)(w:World):Calls prog 255 #[dE a,dE b] w (tE a b w):=by
 obtain⟨d,f,j⟩:=a;obtain⟨g,i,k⟩:=b;have l:=aA (fun w=>nQ d f j (tD ha.2.2) w);have m:=aA (fun w=>nQ g i k (tD J.2.2) w);unfold lK at l m;unfold dE;simp only;have G:=aA (aC (aB w (.cells #[.int .i64 d,.int .i64 f,.string j] 34)) (aB _ (.cells #[.int .i64 g,.int .i64 i,.string k] 34)));obtain⟨ra,y⟩:∃r,aT (d,f,j)=r:=⟨_,rfl⟩;obtain⟨L,z⟩:∃r,aT (g,i,k)=r:=⟨_,rfl⟩;rw[y] at l;rw[z] at m;have H:=aA y;have I:=aA z;clear ha J y z;have A:=aA (aE (aK w (.cells #[.int .i64 d,.int .i64 f,.string j] 34) _ rfl) (aB (w.alloc (.cells #[.int .i64 d,.int .i64 f,.string j] 34)) (.cells #[.int .i64 g,.int .i64 i,.string k] 34)));have B:Hid (((w.alloc (.cells #[.int .i64 d,.int .i64 f,.string j] 34)).alloc (.cells #[.int .i64 g,.int .i64 i,.string k] 34)).heap[w.heap.size+1]? =some (.cells #[.int .i64 g,.int .i64 i,.string k] 34 (0,0))):=aA (aK (w.alloc (.cells #[.int .i64 d,.int .i64 f,.string j] 34)) (.cells #[.int .i64 g,.int .i64 i,.string k] 34) _ qs)
 cases ra
 .go_enter func255,ntmps255;go_wp2_with fail;refine(l.o _).mono ?_;rintro e w1 ⟨rfl,c⟩;have v:=qB G c;clear c l;go_wp2;go_returns;unfold tE jZ;rw[iP (.inl H.o)];exact⟨rfl,v.o⟩
 .go_enter func255,ntmps255;go_wp2_with fail;refine(l.o _).mono ?_;rintro e w1 ⟨rfl,c⟩;have v:=qB G c
  try clear n o p C
  replace A:=qK A c;obtain⟨⟨n,o,p⟩,_⟩:=cG A.o;have C:=aD A.o
  try clear q s t D
  replace B:=qK B c;obtain⟨⟨q,s,t⟩,_⟩:=cG B.o;have D:=aD B.o;clear c l;go_wp2_with fail;refine(m.o _).mono ?_;rintro e w2 ⟨rfl,c⟩;have x:=qB v c
  try clear n o p C
  replace A:=qK A c;obtain⟨⟨n,o,p⟩,_⟩:=cG A.o;have C:=aD A.o
  try clear q s t D
  replace B:=qK B c;obtain⟨⟨q,s,t⟩,_⟩:=cG B.o;have D:=aD B.o;clear c m
  cases L
  .go_wp2;go_returns;unfold tE jZ;rw[iP (.inr I.o)];exact⟨rfl,x.o⟩
  .go_wp2_with (go_at_call 155;refine(Cz _ _).mono ?_;rintro e N ⟨rfl,c⟩;have K:=qB x c;have E:=qK A c;have F:=qK B c;clear c;obtain⟨⟨a0,M,a2⟩,_⟩:=cG E.o;obtain⟨⟨b0,b1,b2⟩,_⟩:=cG F.o;have O:=aD E.o;have P:=aD F.o)
   all_goals go_returns
   all_goals
    unfold tE jZ;rw[iN (fun h=>h.elim (fun h=>by rw[H.o] at h;cases h) (fun h=>by rw[I.o] at h;cases h))];refine⟨?_,?_⟩
    .simp_all [wH]
    .first|exact K.o|exact x.o
theorem BU{p:Prop}(h:p:=by
 go_wp2;go_returns;exact⟨_,rfl,aM.nil,Below.refl _ _⟩):p:=h
theorem KT{p:Prop}(h:p:=by
 have hk1:¬(k:Int)<(l.length:Int):=qo;obtain rfl:k=l.length:=qo;have HF:=aA (PM HR.o);clear HR;go_wp2;go_returns;exact⟨by rw[HF.o];rfl,HB.o⟩):p:=h
theorem KU{p:Prop}(h:p:=by
 unfold aP at HI;have HL:Hid (∀g,PR l[k]=g->((if g=true then eX PR l=(k:Int) else ∀i (hi:i<l.length),i<k+1->PR l[i]=false):Prop)):=aA (fun g hg=>by
  cases g
  .rw[iN qe];intro i hi h
   rcases Nat.lt_or_ge i k with h1|h1
   .exact HR.o i hi h1
   .obtain rfl:i=k:=qo;exact hg
  .rw[iP rfl];exact JI hlt HR.o hg)
 clear HR hcl;generalize hx:l[k]=x at *;generalize PR x=g at *;clear hx;go_wp2_with fail;refine HI.o.mono ?_;rintro e w' ⟨rfl,hb'⟩;have HB':=qB HB hb';clear HI hb'
 cases g
 .have HF:=aA (HL.o false rfl);clear HL;go_wp2;go_roundw
  case rel=>exact⟨k+1,qo,by go_num,aA (by have:=HF.o;rwa [iN qe] at this),HB'⟩
  case measure=>simp[intOf];omega
 .have HF:=aA (HL.o true rfl);clear HL;go_wp2;go_returns;exact⟨by have:=HF.o;rw[iP trivial] at this;rw[this];rfl,HB'.o⟩):p:=h
theorem Zl:eF prog 145 34 3 32:=fZ (z:= .agg #[.int .i64 0,.int .i64 0,.string ByteArray.empty]) underlying145 (by kernel_rfl) rfl qe
theorem JH:eF prog 88 150 3 48:=fZ (z:= .agg #[.int .i64 0,.string ByteArray.empty,.slice none 0 0]) underlying88 (by kernel_rfl) rfl qe
theorem lQ{α:Type}{R:Rep α}{s:Nat}(F:Firm R s){e:TypeId}{w w':World}{ok:nP}{cs:List Value}{l:List α}{v:Value}(h:aX (R w ok) cs l)(c:Below w.heap.size w w')(d:w'.ownsRow w.heap.size e s v l.length cs):aM R s e w' w.heap.size ok v l:=by
 refine⟨cs,d,h.mono fun r x f=> ?_⟩;refine F.more (F.aDQ (F.inb f) (aJ c)) fun b a=>⟨a.1,lL a.2 c.size,fun e=> ?_⟩
 have:=(d.lt b e.symm).1;have:=a.2;omega
theorem kJ{α:Type}{R:Rep α}{s:Nat}(F:Firm R s)(i:0<s){w:World}{ok:nP}{n c:Nat}{l:List α}(h:aH R w ok (.slice none n c) l):l=[]:=by
 obtain⟨a,j,cs,e,h1,h2,_⟩:=h;injection e with f k m;subst f;by_cases d:cs=[]
 .subst d;exact h2.aEJ (fun _ _ g=>F.len g) i
 .obtain⟨b,off,e,_⟩:=h1 d;cases e
theorem eN{α:Type}{enc:α->List Value}{good:α->Prop}{s:Nat}{e:TypeId}{w:World}{base:Nat}{ok ok':nP}{v:Value}{l:List α}(h:aM (mS enc good) s e w base ok v l):aM (mS enc good) s e w base ok' v l:=by
 obtain⟨cs,h1,h2⟩:=h;exact⟨cs,h1,h2.mono fun r x a=>a⟩
def bV{α:Type}(R:Rep α)(s:Nat)(e:TypeId)(ok:nP)(l:List α)(w:World)(a:Ending)(w':World):Prop:=
 ∃v,a=.returned v/\aM R s e w' w.heap.size ok v l/\Below w.heap.size w w'
theorem Da{ok:nP}(v:Value)(l:List V3)(w:World)(h:aH VR w ok v l):Calls prog 254 #[v] w (bV VR 3 34 ok l w):=by
 obtain⟨a,c,rfl,n⟩:=h.slice;unfold bV
 rcases a with _|k
 .have B:=kJ bG qe h;subst B;have heq:=Lib.run_eql_slice_nil (P:=prog) w 145 34 none 0 c 0 0 underlying145;clear h;go_enter func254,ntmps254;exact BU
 .obtain⟨D,E,cs,b,h1,h2,_⟩:=h;injection b with b _ z;subst b z;have heq:=Lib.run_eql_slice_nil (P:=prog) w 145 34 (some k) l.length c 0 0 underlying145;have d:Below w.heap.size w (w.alloc (.cells #[] 34)):=(Below.refl _ _).alloc (lR _) _;have g:=aA (World.ownsRow_made (e:=34) w #[] 0 (lR _) (by simp[maxLen]) rfl:(w.alloc (.cells #[] 34)).ownsRow w.heap.size 34 3 (.slice (some ⟨w.heap.size,0,none⟩) 0 0) 0 []);have s:=aA (h2.len (fun _ _ f=>bG.len f));have t:=aA (h2.aEf (fun _ _ f=>bG.one f));obtain⟨y,r,q,j⟩:=dI (h1.lt.below d) h2 d n;clear h1 h2 d n;go_enter func254,ntmps254;go_wp2_with (at_builtin;refine fR Zl rfl (.tmp 5) (.tmp 6) rfl w.heap.size (.slice (some ⟨w.heap.size,0,none⟩) 0 0) 0 [] rfl g.o (some k) l.length c cs rfl s.o (y.o.more qs) t.o (by have:=j.o;unfold maxLen;omega) (qA j.o) qs ?_;intro C c1 w1 p m A;have i:=aA (eA g.o q.o m (lR _) qs);have x:=aA p;clear p m A)
  go_returns;have o:=x.o;simp only[Nat.zero_add,List.nil_append] at o ⊢;exact⟨_,rfl,lQ bG r.o i.o o,i.o⟩
def eX{α:Type}(p:α->Bool)(l:List α):Int:=if l.findIdx p<l.length then (l.findIdx p:Int) else -1
theorem JI{α:Type}{p:α->Bool}{l:List α}{k:Nat}(a:k<l.length)(b:∀i (c:i<l.length),i<k->p l[i]=false)(h:p l[k]=true):eX p l=(k:Int):=by
 have e:l.findIdx p=k:=(List.findIdx_eq a).2 ⟨h,fun j hj=>b j qo hj⟩;unfold eX;rw[e,iP a]
theorem PM{α:Type}{p:α->Bool}{l:List α}(b:∀i (a:i<l.length),i<l.length->p l[i]=false):eX p l= -1:=by
 have e:l.findIdx p=l.length:=by
  rw[List.findIdx_eq_length];intro x c;obtain⟨i,a,rfl⟩:=List.getElem_of_mem c;exact b i a a
 unfold eX;rw[e,iN qo]
theorem tF{α:Type}(p:α->Bool)(l:List α):decide (0<=eX p l)=l.any p:=by
 unfold eX;rw[Bool.eq_iff_iff,decide_eq_true_iff,List.any_eq_true];by_cases h:l.findIdx p<l.length
 .rw[iP h];exact⟨fun _=>⟨_,List.getElem_mem h,List.findIdx_getElem (w:=h)⟩,fun _=>by omega⟩
 .rw[iN h];exact⟨fun h=>by omega,fun⟨x,a,hp⟩=>absurd (List.findIdx_lt_length_of_exists ⟨x,a,hp⟩) h⟩
def jF(w:World)(p i:Nat)(v:Value):Prop:=w.cell? ⟨p,i,none⟩=some v/\p<w.heap.size
theorem jF.on{w w':World}{p i:Nat}{v:Value}(h:jF w p i v)(a:Below w.heap.size w w'):jF w' p i v:=⟨(a.cell (p:=⟨p,i,none⟩) h.2).trans h.1,lL h.2 a.size⟩
theorem Db(x:Gv)(b:oD)(c:Nat)(C:Int)(N:bY)(p q:Nat)(w:World)(hp:jF w p 0 (.int .i64 C))(a:jF w q 0 (.string N)):
 Calls prog 279 #[.agg #[.int .i64 x.1,.string x.2.1,.slice b x.2.2.length c],.pointer (some ⟨p,0,none⟩),.pointer (some ⟨q,0,none⟩)] w (aP (.bool (lJ C N x)) w):=by
 unfold aP;have h1:p≠w.heap.size:=qA hp.2;have h2:q≠w.heap.size:=qA a.2;obtain⟨hp,d⟩:=hp;obtain⟨a,e⟩:=a;go_enter func279,ntmps279;go_wp2
 .rename_i h;go_returns;refine⟨?_,aB _ _⟩;show Ending.returned (.bool (x.2.1.toList==N.toList))=_;rw[jJ];unfold lJ;rw[dX h];rfl
 .rename_i h;go_returns;refine⟨?_,aB _ _⟩;show Ending.returned (.bool false)=_;unfold lJ;rw[dF h];rfl
theorem Ij{ok:nP}(v:Value)(l:List Gv)(C:Int)(N:bY)(p q:Nat)(w:World)(h:aH jS w ok v l)(d:jF w p 0 (.int .i64 C)/\jF w q 0 (.string N)):Calls prog 278 #[v,.func (.func 279) #[] #[.pointer (some ⟨p,0,none⟩),.pointer (some ⟨q,0,none⟩)]] w (aP (.int .i64 (eX (lJ C N) l)) w):=by
 obtain⟨a,c,rfl,D⟩:=h.slice;have t:=aA h;have j:=aA (fun wr (o:Below w.heap.size w wr)=>(⟨d.1.on o,d.2.on o⟩:jF wr p 0 (.int .i64 C)/\jF wr q 0 (.string N)));clear h d;obtain⟨PR,f⟩:∃PR:Gv->Bool,PR=(lJ C N):=⟨_,rfl⟩;have s:=aA f;rw[<-f];clear f;unfold aP;go_enter func278,ntmps278;go_wp2;go_loopw [5,8] (fun _ i wr=>∃k:Nat,k<=l.length/\i=.int .i64 k/\Hid (∀i (hi:i<l.length),i<k->PR l[i]=false)/\Hid (Below w.heap.size w wr)) (fun _ i _=>l.length - (intOf i).toNat)
 case atStart=>exact BS
 case round=>
  obtain⟨k,B,rfl,HR,HB⟩:=hrel;by_cases hlt:k<l.length
  .have hk1:(k:Int)<(l.length:Int):=qo;obtain⟨b,off,r,rfl,_,A,⟨vb,rfl,y⟩,hcl⟩:=aH.at cA (t.o.on cA HB.o) hlt qe;obtain⟨m,n,rfl,_⟩:=y.2.2.slice;obtain⟨z,E,F⟩:=cR3 hcl;rw[Nat.add_zero] at z;have HI:Hid (Calls prog 279 #[.agg #[.int .i64 l[k].1,.string l[k].2.1,.slice m l[k].2.2.length n],.pointer (some ⟨p,0,none⟩),.pointer (some ⟨q,0,none⟩)] wr (aP (.bool (PR l[k])) wr)):=by rw[s.o];exact aA (Db l[k] m n C N p q wr (j.o wr HB.o).1 (j.o wr HB.o).2)
   exact KU
  .exact KT
theorem Dc(l:List Gv)(C:Int)(N:bY):mU l C N=eX (lJ C N) l:=rfl
theorem Dd{ok:nP}(v:Value)(l:List Gv)(C:Int)(N:bY)(w:World)(h:aH jS w ok v l):
 Calls prog 253 #[v,.int .i64 C,.string N] w (aP (.int .i64 (mU l C N)) w):=by
 obtain⟨h1,h2,h3,h4,h5⟩:=Hh w (.int .i64 C) (.string N) 3 9;have d:=aA (Ij v l C N w.heap.size (w.heap.size+1) _ (h.on cA h5) ⟨⟨h1,h3⟩,⟨h2,h4⟩⟩);have b:=aA h5;obtain⟨a,c,rfl,i⟩:=h.slice;clear h1 h2 h3 h4 h5 h;rw[Dc];unfold aP at *;generalize eX (lJ C N) l=pl at *;go_enter func253,ntmps253;go_wp2_with fail;refine d.o.mono ?_;rintro e w' ⟨rfl,f⟩;have g:=qB b f;clear d f b;go_wp2;go_returns;exact⟨rfl,g.o⟩
def tG(l:List Gv)(a:At)(w:World)(e:Ending)(w':World):Prop:=
 ∃v,e=.returned (.tuple #[v,.int .i64 (qE l a).2])/\aH VR w' (fun b=>w.heap.size<=b) v (qE l a).1/\Below w.heap.size w w'
theorem Ik(l:List Gv)(C:Int)(N:bY):(mU l C N= -1/\uR l C N=[])\/∃(k:Nat) (h:k<l.length),mU l C N=(k:Int)/\uR l C N=l[k].2.2:=by
 by_cases h:mT l C N<l.length
 .refine .inr ⟨mT l C N,h,?_,Yo h⟩;unfold mU;rw[iP h]
 .refine .inl ⟨?_,Oj h⟩;unfold mU;rw[iN h]
theorem UF{ok:nP}(v:Value)(l:List Gv)(at_:At)(w:World)(h:aH jS w ok v l):Calls prog 219 #[v,oM at_] w (tG l at_ w):=by
 obtain⟨cat,name,must⟩:=at_;have E:=aB w (.cells #[.int .i64 cat,.string name,.bool must] 260);obtain⟨y,j,R,d,L⟩:=gG (Dd v l cat name _ (h.on cA E)) (Ik l cat name) h (aK w (.cells #[.int .i64 cat,.string name,.bool must] 260) _ rfl) E;obtain⟨a,c,rfl,ad⟩:=h.slice;obtain⟨B,m⟩:∃B,uR l cat name=B:=⟨_,rfl⟩;have J:Hid (∀v w',(B=[]/\must=true)->aH VR w' (fun b=>w.heap.size<=b) v []->Below w.heap.size w w'->tG l ⟨cat,name,must⟩ w (.returned (.tuple #[v,.int .i64 4])) w'):=aA (fun v w' h1 h2 h3=>by
  unfold tG qE;simp only[m];rw[iP h1];exact⟨v,rfl,h2,h3⟩)
 have z:Hid (∀v w',¬(B=[]/\must=true)->aH VR w' (fun b=>w.heap.size<=b) v B->Below w.heap.size w w'->tG l ⟨cat,name,must⟩ w (.returned (.tuple #[v,.int .i64 0])) w'):=aA (fun v w' h1 h2 h3=>by
  unfold tG qE;simp only[m];rw[iN h1];exact⟨v,rfl,h2,h3⟩)
 rw[m] at j;unfold oM;unfold aP at y;clear E h m;generalize mU l cat name=pl at *;go_enter func219,ntmps219;go_wp2_with fail;refine y.o.mono ?_;rintro e w1 ⟨rfl,F⟩;have f:=qB L F
 try clear p q s I
 replace d:=qK d F;obtain⟨⟨p,q,s⟩,_⟩:=cG d.o;have I:=aD d.o;clear y F L
 rcases j.o with ⟨C,i⟩|⟨k,S,C,i⟩
 .subst C;have g:=aA i;clear j i
  cases must
  .go_wp2;go_returns;exact z.o _ _ qs (by rw[g.o];exact aH.nil) f.o
  .go_wp2;go_returns;exact J.o _ _ ⟨g.o,(by trivial)⟩ aH.nil f.o
 .subst C;obtain⟨b,off,r,rfl,_,Z,⟨vb,rfl,N⟩,M⟩:=aH.at cA (R.o.on cA f.o) S qe;have n:=N.2.2;rw[<-i] at n;obtain⟨W,X,rfl,O⟩:=n.slice;obtain⟨P,U,V⟩:=cR3 M;rw[Nat.add_zero] at P;have ab:(k:Int)<(l.length:Int):=qo;have aa:decide ((k:Int) ≥ 0)=true:=dX qo;have x:=aA (Da _ _ w1 n);unfold bV at x;have Q:=aA O;clear j N M i n O;go_wp2_with fail;refine x.o.mono ?_;rintro e w2 ⟨v,rfl,H,G⟩;obtain⟨A,Y,rfl⟩:=H.slice;have K:=aA ((eN (enc:=IZ) (good:=cR) (ok':=fun b=>w.heap.size<=b) H).sl Q.o (fun b=>w.heap.size<=b) (fun b D _=>D) (fun b D _=>lT f.o.size D) bG);have t:=qB f G
  try clear p q s I
  replace d:=qK d G;obtain⟨⟨p,q,s⟩,_⟩:=cG d.o;have I:=aD d.o;clear x G H P U V f;by_cases o:B.length=0
  .have T:((B.length:Int)==0)=true:=bQ.2 qo;have g:=aA (List.eq_nil_of_length_eq_zero o);clear o
   cases must
   .go_wp2;go_returns;exact z.o _ _ qs K.o t.o
   .go_wp2;go_returns;exact J.o _ _ ⟨g.o,(by trivial)⟩ aH.nil t.o
  .have T:((B.length:Int)==0)=false:=bN.2 qo;have g:Hid (¬(B=[]/\must=true)):=aA (fun h=>o (by rw[h.1];rfl));clear o;go_wp2;go_returns;exact z.o _ _ g.o K.o t.o
end Go.Proofs.YtheabjeppmdmiaaGreatDoor
