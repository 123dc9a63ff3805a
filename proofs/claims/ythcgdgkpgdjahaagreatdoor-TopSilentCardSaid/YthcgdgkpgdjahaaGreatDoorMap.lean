/- Lemmas. -/
import Derived.Test.YthcgdgkpgdjahaaGreatDoorMao
namespace Go.Proofs.YthcgdgkpgdjahaaGreatDoor
open Go.RowKit
set_option linter.unusedVariables false
set_option linter.unusedSimpArgs false
set_option maxHeartbeats 16000000
open _root_.Go.Proofs.Tryz
set_option maxRecDepth 20000
theorem QAm{p:Prop}(h:p:=by
 have hq:=HX.o.at_;have HPX:=aA HX.o.pw;have HGX:=aA HX.o.row;have HFX:=aA (HF2.o.trans HO2.o HX.o.fr);have HOX:=aA (kI.trans HO2.o HX.o.own HF2.o.size);have BRX:=aA (Fr.blk BR2.o HX.o.fr qo (fun x hx=>qA (HOV.o x hx)));have BNX:=aA (Fr.blk BN2.o HX.o.fr qo (fun x hx=>qA (HOV.o x hx)));have HNB:Hid (∀x,v'.ownBlock=some x->x≠w.heap.size):=aA (fun x hx=>by
  rcases HX.o.own x hx with h1|h1
  .have:=HOV.o x h1;omega
  .omega)
 obtain⟨wx,hwx⟩:=xE wr;subst hwx;clear HX HS2 BR2 BN2 HF2 HO2;have HMW:=aA (HMU.o q hq wx HPX.o);rw[KN] at HMW;clear HMU;go_wp2_with fail;refine HMW.o.mono ?_;rintro e w5 ⟨rfl,h_,k_⟩;have HP5:=aA h_;have HG5:=aA (HGX.o.stays k_ (fun b hb=>by have h1:=(aM.lt HGX.o b hb).1;show b≠g;omega));have HF5:=aA (HFX.o.aD5 k_);have B_R:=qS BRX k_ qo;have B_N:=qS BNX k_ qo;clear h_ k_ HMW HPX HGX HFX BRX BNX;obtain⟨⟨x0,x1,x2,x3,x4,x5,x6⟩,f0,f1,f2,f3,f4,f5,f6⟩:=bI B_R.o;obtain⟨⟨y0,y1,y2,y3,y4,y5,y6⟩,_⟩:=bI B_N.o;have hz5:=aD B_R.o;have hz6:=aD B_N.o;go_wp2;go_region
 all_goals
  go_wp2;refine bR (.tuple #[v',.agg #[.int .i64 (2+rop),.int .i64 0,.int .i64 0,.string ⟨#[]⟩,.int .i64 0,.string ⟨#[]⟩,.bool false]]) ?_;rw[HST.o];refine⟨v',rfl,⟨?_,?_,?_,HOX.o⟩⟩
  .exact(((((((HG5.o.set HNB.o).set HNB.o).set HNB.o).set HNB.o).set HNB.o).set HNB.o).set HNB.o).drew
  .rw[KN];exact(((((((HP5.o.set qo).set qo).set qo).set qo).set qo).set qo).set qo).drew
  .exact(((((((HF5.o.set qo).set qo).set qo).set qo).set qo).set qo).set qo).drew):p:=h
theorem VC(L:List Tok)(f:Nat):∀(ms:List Bool) (l:List No) (q:PS),q.bad≠0->qO L f ms (l,q)=(l,q)
 | [],l,q,_=>rfl
 |m::ms,l,q,h=>by
  show qO L f ms (dD L f (l,q) m)=(l,q);unfold dD;rw[iP h];exact VC L f ms l q h
theorem Ju(L:List Tok)(f:Nat)(m:Bool)(ms:List Bool)(l:List No)(q:PS)(h:q.bad=0):qO L f (m::ms) (l,q)=qO L f ms ((iH L f l m q).1,(iH L f l m q).2):=by
 show qO L f ms (dD L f (l,q) m)=_;unfold dD;rw[iN (show ¬(l,q).2.bad≠0 from fun a=>a h)];rfl
structure DU (L:List Tok) (f:Nat) (g B:Nat) (v:Value) (w2:World) (ms:List Bool) (R:List No×PS) (c:Nat) (k:Nat) (l:List No) (q:PS) (v':Value) (wr:World):Prop where
 res:qO L f (ms.drop k) (l,q)=R
 at_:q.at_<L.length
 fuel:L.length<=f+q.at_
 len:l.length<=c+k+2 * q.at_
 row:kJ wr B v' l
 pw:PW L wr g q
 fr:Fr g v w2 wr
 own:kI v v' w2
def aDr(L:List Tok)(f:Nat)(g B:Nat)(v:Value)(w2:World)(ms:List Bool)(R:List No×PS)(c:Nat)(v' i:Value)(wr:World):Prop:=
 ∃(k:Nat) (l:List No) (q:PS) (a:Value),a=v'/\k<=ms.length/\i=.int .i64 k/\Hid (DU L f g B v w2 ms R c k l q a wr)
section
variable {L:List Tok} {f g B:Nat} {v:Value} {w2:World} {ms:List Bool} {R:List No×PS} {c k:Nat} {l:List No} {q:PS} {v':Value} {wr:World}
theorem DU.stop(h:DU L f g B v w2 ms R c k l q v' wr)(a:k=ms.length\/q.bad≠0):R=(l,q):=by
 rw[<-h.res]
 rcases a with a|a
 .rw[a,List.drop_length];rfl
 .exact VC _ _ _ _ _ a
theorem DU.next(h:DU L f g B v w2 ms R c k l q v' wr)(b:k<ms.length)(a:q.bad=0):qO L f (ms.drop (k+1)) ((iH L f l ms[k] q).1,(iH L f l ms[k] q).2)=R:=by
 rw[<-h.res,List.drop_eq_getElem_cons b,Ju _ _ _ _ _ _ a]
end
theorem VD{L:List Tok}(T:Toks L)(f:Nat)(l:List No)(m:Bool){q:PS}(h:q.at_<L.length):dK L q (iH L f l m q).2:=by
 unfold iH;have h1:=zQ T f l h;exact Tn
theorem DV{L:List Tok}(T:Toks L)(f:Nat)(l:List No)(m:Bool){q:PS}(h:q.at_<L.length):(iH L f l m q).1.length+2 * q.at_<=l.length+1+2 * (iH L f l m q).2.at_:=by
 have h1:=JT T f l h;unfold iH;split
 .rw[(JG _ _ _).1];exact h1
 .exact h1
theorem VE(op:Int):(fN op).length<=2:=by
 unfold fN
 repeat' split
 all_goals simp
theorem Fr.drew{g:Nat}{v:Value}{w w1:World}(h:Fr g v w w1):Fr g v w w1.drew:=by
 have a:aN (fun b=>b≠g/\some b≠v.ownBlock) w w1:=h;exact⟨a.os,a.tape,a.output,a.size,a.block⟩
theorem PW.drew{L:List Tok}{w:World}{g:Nat}{p:PS}(h:PW L w g p):PW L w.drew g p:=h.on ((Below.refl _ _).drew)
theorem kJ.set{w:World}{B:Nat}{v u:Value}{l:List No}{b i:Nat}(h:kJ w B v l)(a:∀x,v.ownBlock=some x->x≠b):kJ (w.setCell ⟨b,i,none⟩ u) B v l:=
 h.stays (ok:=fun x=>x≠b) (aI u) a
theorem kJ.drew{w:World}{B:Nat}{v:Value}{l:List No}(h:kJ w B v l):kJ w.drew B v l:=h.stays (aJ ((Below.refl _ _).drew) (ok:=fun _=>True)) (fun _ _=>trivial)
theorem ZJ{L:List Tok}{f:Nat}(T:Toks L)(N:FP L f)(l:List No)(p:PS)(g B:Nat)(v:Value)(w:World)(h:xM L f g B v w l p)(al:l.length<=8+2 * p.at_):
 Calls prog 264 #[.pointer (some ⟨g,0,none⟩),v] w (Qn L g B v w (wO L f l p).1.1 (wO L f l p).1.2 (wO L f l p).2):=by
 have hL:=T.len;have aa:=h.low;have af:=h.base;have j:=aA h;have A:=aA (fun a c w h hw=>nL T eF a c 11 rfl qe (j.o.at_) g w h hw);have o:=aA (fun l m q g B v w h=>LF (f:=f) T N l m q g B v w h);have HMU:=aA (fun (q:PS) (hq:q.at_<L.length) w h=>mO T (str ")") hq g w h);have m1:=dR T eF h.at_;have t:=nY (L:=L) eF p;have P:eF.length=11:=rfl;rw[P] at t;have S:∀x,v.ownBlock=some x->x<w.heap.size:=fun x hx=>(aM.lt h.row x hx).2
 have HOV:=aA S;unfold Qn wO jS;dsimp only;clear h N P S;generalize bA L eF p=r at *;obtain⟨rop,W⟩:=r;dsimp only at *;obtain⟨R,C⟩:=xE (qO L f (fN (2+rop)) (l,W));rw[<-C];have K:=aA C.symm;have ao:=VE (2+rop);have H:=aA (VB (2+rop));have s1:IntKind.i64.wrap (2+rop)=2+rop:=IntWalk.i64_in _ qo;have s0:(0:Int)<=rop:=t.1;have s2:rop<=11:=t.2;have M:Hid (eF=[⟨#[111,110,101]⟩,⟨#[115,105,122,101]⟩,⟨#[104,97,115]⟩,⟨#[101,113]⟩,⟨#[108,101,115,115]⟩,⟨#[97,100,100]⟩,⟨#[115,117,98]⟩,⟨#[109,117,108]⟩,⟨#[110,111,116]⟩,⟨#[97,110,100]⟩,⟨#[111,114]⟩]):=aA (by kernel_rfl);rw[M.o] at A;clear C M t;go_enter func264,ntmps264;go_wp2_with fail;refine(A.o _ _ _ (j.o.pw.alloc.alloc) (nM _ _ _ _ _ qs rfl)).mono ?_;rintro e w1 ⟨rfl,h_,k_⟩;have z:=aA (aF (aE (aK _ _ _ rfl) (aB _ _)) k_ qo:w1.heap[w.heap.size]? =some (.cells #[.int .i64 0,.int .i64 0,.int .i64 0,.string ⟨#[]⟩,.int .i64 0,.string ⟨#[]⟩,.bool false] 292 (0,0)));have D:=aA ((((Fr.refl g v w).new (aB _ _)).new (aB _ _)).aD5 k_);have E:=aA (((j.o.row.stays (aJ (aB _ _) (ok:=fun _=>True)) (fun _ _=>trivial)).stays (aJ (aB _ _) (ok:=fun _=>True)) (fun _ _=>trivial)).stays k_ (fun b hb=>by have h1:=(aM.lt j.o.row b hb).1;show b≠g;omega));have I:=aA h_;have au:=aD z.o;clear h_ k_ A;go_wp2_with fail;refine(H.o _).mono ?_;rintro e w2 ⟨vb,rfl,n,d⟩;obtain⟨Z,bc,rfl,ai⟩:=n.slice;obtain⟨BR2,BN2,HF2⟩:=aZ (aE (aE z.o (aB _ _)) d) (aE (aK _ _ _ rfl) d:w2.heap[w1.heap.size]? =some (.cells #[.int .i64 (2+rop),.int .i64 0,.int .i64 0,.string ⟨#[]⟩,.int .i64 0,.string ⟨#[]⟩,.bool false] 292 (0,0))) ((D.o.new (aB _ _)).new d)
 have F:=aA ((E.o.stays (aJ (aB _ _) (ok:=fun _=>True)) (fun _ _=>trivial)).stays (aJ d (ok:=fun _=>True)) (fun _ _=>trivial));have J:=aA ((I.o.alloc).on d);have HO2:Hid (kI v v w):=aA (kI.refl v w);have HS2:=aA n;have av:=aD BR2.o;have aw:=aD BN2.o;have ar:w.heap.size<=w2.heap.size:=qo;clear n d H z D E I;generalize fN (2+rop)=ms at *;go_wp2;go_loopw [1,18] (fun v' i wr=>aDr L f g B v w2 ms R 8 v' i wr) (fun _ i _=>ms.length - (intOf i).toNat)
 case atStart=>exact⟨0,l,W,_,rfl,qo,rfl,aA ⟨by rw[List.drop_zero];exact K.o,m1.lt,qD j.o.fuel m1.le,qA m1.le,F.o,J.o,Fr.refl _ _ _,kI.refl _ _⟩⟩
 case round=>
  clear K F J m1;obtain⟨k,y,q,v',rfl,hk,rfl,HX⟩:=hrel;by_cases Q:k<ms.length
  .have V:aH DS wr (fun b=>w1.heap.size<=b/\b<w2.heap.size) (.slice Z ms.length bc) ms:=(aH.more jX (aH.inb jX HS2.o) (fun b hb=>⟨by have:=hb.1;simp at this;omega,hb.2⟩)).aDW jX ((show aN _ w2 wr from HX.o.fr).mono (fun x hx h=>⟨qA h.1,fun e=>qD (HOV.o x e.symm) h.1⟩));obtain⟨bb,ae,br,rfl,ag,ah,⟨rfl,_⟩,O⟩:=aH.at jX V Q qe;have z0:=O 0 _ rfl;rw[Nat.add_zero,Nat.mul_one] at z0;obtain⟨A_,c_,c0,c1,c2,c3,c4,n⟩:=HX.o.pw.cells;have ab:(k:Int)<(ms.length:Int):=qo;have ak:=HX.o.pw.lt;clear O V n c0 c1 c2 c4;by_cases hb:q.bad=0
   .rw[hb] at c3;have Y:=aA (HX.o.next Q hb);have hq:=HX.o.at_;have G:=aA (o.o y ms[k] q g B v' wr ⟨HX.o.fuel,hq,qA HX.o.len,aa,qA (aN.size (show aN _ w2 wr from HX.o.fr)),HX.o.pw,HX.o.row⟩);have hm:=VD T f y ms[k] hq;have an:=DV T f y ms[k] hq;have hle:=HX.o.len;have aj:=HX.o.fuel;have ad:=hm.lt;have aq:=hm.le;clear hb o HMU hm;generalize iH L f y ms[k] q=X at *;go_wp2_with fail;refine G.o.mono ?_;rintro e w5 ⟨v5,rfl,U⟩;have s:=aA U;clear U G z0 c3;go_wp2;go_roundw
    case rel=>exact⟨k+1,X.1,X.2,_,rfl,qo,by go_num,aA ⟨Y.o,ad,qo,qo,s.o.row,s.o.pw,HX.o.fr.trans HX.o.own s.o.fr,kI.trans HX.o.own s.o.own (aN.size (show aN _ w2 wr from HX.o.fr))⟩⟩
    case measure=>simp[intOf];omega
   .have db:(q.bad != 0)=true:=bne_iff_ne.2 hb;have HST:=aA (HX.o.stop (.inr hb));clear hb o;exact QAm
  .have ab:¬(k:Int)<(ms.length:Int):=qo;have HST:=aA (HX.o.stop (.inl qo));clear o;exact QAm
theorem GY{p:Prop}(h:p:=by
 go_wp2;go_returns;exact⟨rfl,Below.refl _ _⟩):p:=h
theorem GZ{p:Prop}(h:p:=by
 go_wp2;go_returns;exact⟨by rw[HE.o];rfl,HB2.o⟩):p:=h
theorem QAX{p:Prop}(h:p:=by
 refine HLM2.o.mono ?_;rintro e wz ⟨rfl,h_,k_⟩;have HP:=aA h_;have HFz:=aA (HF4.o.aD5 k_);have HGz:=aA (kJ.stays HG4.o k_ (fun b hb=>by have h1:=(aM.lt HG4.o b hb).1;show b≠g;omega));have BNz:=qS BN4 k_ qo;clear h_ k_ HLM2 HG4 HP4 HF4 BN4;rw[show (32:Int)=((32:Nat):Int) from rfl,NU] at HP;obtain⟨⟨x0,x1,x2,x3,x4,x5,x6⟩,_⟩:=bI BNz.o;have hzz:=aD BNz.o;go_wp2;go_region
 all_goals
  go_wp2;go_ret2
  rw[<-hl'.o];exact⟨_,rfl,⟨HGz.o.drew,HP.o.drew,HFz.o.drew,HO4.o⟩⟩):p:=h
theorem fP(s:bY)(l:lU)(h:s≠⟨l.toArray⟩):(s.toList==l)=false/\¬s.toList=l:=by
 have h2:¬s.toList=l:=fun e=>h (by rw[ByteArray.toList_eq] at e;apply ByteArray.ext;rw[<-e])
 exact⟨by simpa using h2,h2⟩
theorem fY(s:bY)(l:lU)(h:s=⟨l.toArray⟩):(s.toList==l)=true/\s.toList=l:=by
 have h2:s.toList=l:=by rw[ByteArray.toList_eq,h]
 exact⟨by simpa using h2,h2⟩
theorem NX{v v':Value}{w:World}(h:v'.ownBlock=v.ownBlock\/v'.ownBlock=some w.heap.size):kI v v' w:=fun b a=>by
 rcases h with h|h
 .exact .inl (h▸a)
 .rw[h] at a;injection a with a;exact .inr qo
theorem Ef:dZ prog 267 292 7 72:=fR (z:= .agg #[.int .i64 0,.int .i64 0,.int .i64 0,.string ByteArray.empty,.int .i64 0,.string ByteArray.empty,.bool false]) underlying267 (by kernel_rfl) rfl qe
theorem NY(a b:Int):(a==b)=decide (a=b):=by rw[Bool.eq_iff_iff,bQ,decide_eq_true_eq]
theorem Qo{L:List Tok}{f:Nat}(T:Toks L)(hE:FP L f)(l:List No)(p:PS)(g B:Nat)(v:Value)(w:World)(h:xM L (f+1) g B v w l p)(H:cM L (str "(") p=true):
 Calls prog 246 #[.pointer (some ⟨g,0,none⟩),v] w (AN L g B v w (fB L (f+1) l p).1.1 (fB L (f+1) l p).1.2 (fB L (f+1) l p).2):=by
 have hL:=T.len;have ar:=h.low;have bd:=h.base;have j:=aA h;have hp:=h.at_;have X:=aA (fun w h=>gO hp hL g w h);have Y:=aA (fun w h=>eR T (str "(") hp g w h);have a6:=aA (fun b (q:PS) (hq:q.at_<L.length) w h=>lA b hq hL g w h);have aj:=aA (show ∀x,v.ownBlock=some x->x<w.heap.size from fun x C=>(aM.lt h.row x C).2);have af:=aA (DT T f l hp);have an:=aA (wP T f l hp).lt;rw[uM];unfold AN;dsimp only;rw[mP H,KM] at Y;have U:=aA (fun w h hl=>ZJ T hE l {p with at_:=p.at_+1} g B v w h hl);have au:=fQ T hp H;have a7:=aA au;have hh:gX L f l p=wO L f l {p with at_:=p.at_+1}:=by unfold gX;rw[iP H]
 have I:=JT T (f+1) l hp;rw[uM] at I;dsimp only at I;have aw:=(kZ (L:=L) (decide (32<((gX L f l p).1.1++[(gX L f l p).1.2]).length)) (wP T f l hp).lt).lt;rw[aL,List.length_singleton] at I aw;have ag:Hid ((gX L f l p).1.1.length<=100000):=aA (qA h.len);rw[hh] at af an ag ⊢;unfold Qn jS at U;unfold iD at X;clear h hE H au hh I aw;generalize aU L p=t at *;generalize wO L f l {p with at_:=p.at_+1}=r at *;obtain⟨⟨lh,a⟩,q⟩:=r;dsimp only at *;go_enter func246,ntmps246;go_wp2_with fail;refine(X.o _ (j.o.pw.alloc)).mono ?_;rintro e w1 ⟨rfl,A⟩;have n:=aA (aE (aK _ _ _ rfl) A:w1.heap[w.heap.size]? =some (.cells #[.int .i64 0,.int .i64 0,.int .i64 0,.string ⟨#[]⟩,.int .i64 0,.string ⟨#[]⟩,.bool false] 292 (0,0)));have s:=aA (((Fr.refl g v w).new (aB _ _)).new A);have E:=aA ((j.o.row.stays (aJ (aB _ _) (ok:=fun _=>True)) (fun _ _=>trivial)).stays (aJ A (ok:=fun _=>True)) (fun _ _=>trivial));have i:=aA ((j.o.pw.alloc).on A);have bg:=aD n.o;clear A X;go_wp2_with fail;refine(Y.o _ (i.o.alloc)).mono ?_;rintro e w2 ⟨rfl,z,c⟩;obtain⟨n,BT,s⟩:=aZ (aF (aE n.o (aB _ _)) c qo) (aF (aK _ _ _ rfl) c qo:w2.heap[w1.heap.size]? =some (.cells (oO t) 130 (0,0))) ((s.o.new (aB _ _)).aD5 c);have E:=aA ((E.o.stays (aJ (aB _ _) (ok:=fun _=>True)) (fun _ _=>trivial)).stays c (fun b Z=>by have h1:=(aM.lt j.o.row b Z).1;show b≠g;omega));have i:=aA z;have bh:=aD n.o;have bj:=aD BT.o;have bf:=i.o.lt;clear z c Y;go_wp2_with fail;refine(U.o w2 ⟨by have:=j.o.fuel;show L.length<=f+(p.at_+1);omega,a7.o.lt,by have:=j.o.len;show l.length<=10+2 * (p.at_+1);omega,ar,qo,i.o,E.o⟩ (by have:=j.o.len;show l.length<=8+2 * (p.at_+1);omega)).mono ?_
 rintro e w3 ⟨v',rfl,av⟩;have k:=aA av;have D:=aA (Fr.blk n.o k.o.fr qo (fun x C=>qA (aj.o x C)));have ad:=aA (s.o.trans (kI.refl v w) k.o.fr);have ai:=aA (kI.trans (kI.refl v w) k.o.own s.o.size);have d:Hid (∀x,v'.ownBlock=some x->x≠w.heap.size):=aA (fun x C=>by
  rcases k.o.own x C with h1|h1
  .have:=aj.o x h1;omega
  .omega)
 have bk:=aD D.o;clear av U n BT s E i;obtain⟨⟨J,K,M,N,O,P,Q⟩,f0,f1,f2,f3,f4,f5,f6⟩:=bI D.o;go_upto_region 8 with (fail)
 obtain⟨m,o⟩:=xE ((((((((w3.setCell ⟨w.heap.size,0,none⟩ (.int .i64 a.op)).setCell ⟨w.heap.size,1,none⟩ (.int .i64 a.val.1)).setCell ⟨w.heap.size,2,none⟩ (.int .i64 a.val.2.1)).setCell ⟨w.heap.size,3,none⟩ (.string a.val.2.2)).setCell ⟨w.heap.size,4,none⟩ (.int .i64 a.aEe.cat)).setCell ⟨w.heap.size,5,none⟩ (.string a.aEe.name)).setCell ⟨w.heap.size,6,none⟩ (.bool a.aEe.aEm)));rw[<-o];have az:Hid (kJ m B v' lh):=aA (by rw[o];exact(((((((k.o.row.set d.o).set d.o).set d.o).set d.o).set d.o).set d.o).set d.o));have ba:Hid (PW L m g q):=aA (by rw[o];exact(((((((k.o.pw.set qo).set qo).set qo).set qo).set qo).set qo).set qo));have ax:Hid (Fr g v w m):=aA (by rw[o];exact(((((((ad.o.set qo).set qo).set qo).set qo).set qo).set qo).set qo));have S:Hid (m.heap[w.heap.size]? =some (.cells (iS a) 292 (0,0))):=aA (by rw[o];exact aG (aG (aG (aG (aG (aG (aG D.o 0 _) 1 _) 2 _) 3 _) 4 _) 5 _) 6 _);clear o J K M N O P Q f0 f1 f2 f3 f4 f5 f6 D ad k;obtain⟨⟨J,K,M,N,O,P,Q⟩,_⟩:=bI S.o;have bl:=aD S.o;have y:=aA (aB m (.cells (iS a) 292));have ao:=aA (aK m (.cells (iS a) 292) _ rfl);have F:=aA (kJ.stays az.o (aJ y.o (ok:=fun _=>True)) (fun _ _=>trivial));obtain⟨al,V,R⟩:=aZ (ba.o.on y.o) (ax.o.new y.o) (aE S.o y.o);have bc:lh.length<=1000000:=qA ag.o;go_wp2_with (at_builtin;refine cC Ef dQ rfl (.tmp 39) (.tmp 41) rfl v' lh rfl F.o m.heap.size 1 _ _ _ a rfl ao.o ⟨rfl,af.o⟩ bc qo (by rw[World.size_alloc];omega) ?_;intro l' bb A' c' w9 hG G aq;have W:=aA hG;have ak:=aA (al.o.grown F.o G ar);have ae:=aA (V.o.grown ai.o F.o G);have a8:=aA (kI.trans ai.o (NX aq) (Fr.size V.o));have aa:=aA ((G.block _ (aD R.o) (fun e=>d.o _ e.symm rfl)).trans R.o);clear hG G aq y ao F al V R J K M N O P Q)
 have ah:=aA (a6.o (decide ((32:Int)<(l'.length:Int))) _ an.o _ ak.o);refine ah.o.mono ?_;rintro e wz ⟨rfl,z,c⟩;have i:=aA z;have ay:=aA (ae.o.aD5 c);have a1:=aA (kJ.stays W.o c (fun b Z=>by have h1:=(aM.lt W.o b Z).1;show b≠g;omega));have ab:=qS aa c qo;clear z c ah W ak ae aa;rw[show (32:Int)=((32:Nat):Int) from rfl,NU] at i;obtain⟨⟨J,K,M,N,O,P,Q⟩,_⟩:=bI ab.o;have bm:=aD ab.o;have be:=NY a.op 2;go_wp2;go_region
 all_goals
  go_wp2;go_ret2
  rw[<-bb.o];exact⟨_,rfl,⟨a1.o.drew,i.o.drew,ay.o.drew,a8.o⟩⟩
theorem Jv{L:List Tok}{f:Nat}(T:Toks L)(hE:FP L f)(l:List No)(p:PS)(g B:Nat)(v:Value)(w:World)(h:xM L (f+1) g B v w l p)(K:cM L (str "(") p=false)(M:(aU L p).aDN=1)(C:(aU L p).str≠str "true")(z:(aU L p).str≠str "false"):
 Calls prog 246 #[.pointer (some ⟨g,0,none⟩),v] w (AN L g B v w (fB L (f+1) l p).1.1 (fB L (f+1) l p).1.2 (fB L (f+1) l p).2):=by
 have Z:=T.len;have ah:=h.low;have aj:=h.base;have j:=aA h;have hp:=h.at_;have H:=aA (fun w h=>gO hp Z g w h);have I:=aA (fun w h=>eR T (str "(") hp g w h);have ae:=aA (fun b (q:PS) (hq:q.at_<L.length) w h=>lA b hq Z g w h);have af:=aA (show ∀x,v.ownBlock=some x->x<w.heap.size from fun x N=>(aM.lt h.row x N).2);have Q:=aA (DT T f l hp);have W:=aA (wP T f l hp).lt;rw[uM];unfold AN;dsimp only;rw[kH K,KM] at I;have F:=aA (fun w h=>wM T hp g w h);have J:gX L f l p=((l,⟨2,aY,(cG L p).1⟩),(cG L p).2):=by unfold gX;rw[iN (by rw[K];decide),iP ⟨M,C,z⟩]
 have R:Hid ((gX L f l p).1.1.length<=100000):=aA (by rw[J];have:=h.len;show l.length<=100000;omega);rw[J] at Q W R ⊢;unfold oQ at F;unfold iD at H;rw[CU] at C;rw[yS] at z;have d1:((aU L p).aDN==1)=true:=bQ.2 M;obtain⟨d2,e2⟩:=fP (aU L p).str [116,114,117,101] C;obtain⟨d3,e3⟩:=fP (aU L p).str [102,97,108,115,101] z;clear h hE K J M C z;generalize aU L p=t at *;generalize cG L p=r at *;dsimp only at *;go_enter func246,ntmps246;go_wp2_with fail;refine(H.o _ (j.o.pw.alloc)).mono ?_;rintro e w1 ⟨rfl,m⟩;have d:=aA (aE (aK _ _ _ rfl) m:w1.heap[w.heap.size]? =some (.cells #[.int .i64 0,.int .i64 0,.int .i64 0,.string ⟨#[]⟩,.int .i64 0,.string ⟨#[]⟩,.bool false] 292 (0,0)));have o:=aA (((Fr.refl g v w).new (aB _ _)).new m);have s:=aA ((j.o.row.stays (aJ (aB _ _) (ok:=fun _=>True)) (fun _ _=>trivial)).stays (aJ m (ok:=fun _=>True)) (fun _ _=>trivial));have HP:=aA ((j.o.pw.alloc).on m);have al:=aD d.o;clear m H;go_wp2_with fail;refine(I.o _ (HP.o.alloc)).mono ?_;rintro e w2 ⟨rfl,h_,k_⟩;obtain⟨d,BT,o⟩:=aZ (aF (aE d.o (aB _ _)) k_ qo) (aF (aK _ _ _ rfl) k_ qo:w2.heap[w1.heap.size]? =some (.cells (oO t) 130 (0,0))) ((o.o.new (aB _ _)).aD5 k_);have s:=aA ((s.o.stays (aJ (aB _ _) (ok:=fun _=>True)) (fun _ _=>trivial)).stays k_ (fun b hb=>by have h1:=(aM.lt j.o.row b hb).1;show b≠g;omega));have HP:=aA h_;have an:=aD d.o;have ao:=aD BT.o;have ak:=HP.o.lt;clear h_ k_ I;obtain⟨⟨t0,t1,t2,t3⟩,_⟩:=nV BT.o;go_wp2_with fail;refine(F.o _ HP.o).mono ?_;rintro e w3 ⟨rfl,h_,k_⟩;have n:=qS d k_ qo;have O:=aA (o.o.aD5 k_)
 have P:=aA (s.o.stays k_ (fun b hb=>by have h1:=(aM.lt j.o.row b hb).1;show b≠g;omega));have U:=aA h_;have S:Hid (kI v v w):=aA (kI.refl v w);have a:Hid (∀x,v.ownBlock=some x->x≠w.heap.size):=aA (fun x N=>qA (af.o x N));have aq:=aD n.o;clear h_ k_ F d BT o s HP t0 t1 t2 t3;obtain⟨⟨x0,x1,x2,x3,x4,x5,x6⟩,f0,f1,f2,f3,f4,f5,f6⟩:=bI n.o;go_upto_region 8 with (fail)
 obtain⟨c,i⟩:=xE ((((((((w3.setCell ⟨w.heap.size,0,none⟩ (.int .i64 2)).setCell ⟨w.heap.size,1,none⟩ (.int .i64 0)).setCell ⟨w.heap.size,2,none⟩ (.int .i64 0)).setCell ⟨w.heap.size,3,none⟩ (.string ⟨#[]⟩)).setCell ⟨w.heap.size,4,none⟩ (.int .i64 r.1.cat)).setCell ⟨w.heap.size,5,none⟩ (.string r.1.name)).setCell ⟨w.heap.size,6,none⟩ (.bool r.1.aEm)));rw[<-i];have ad:Hid (kJ c B v l):=aA (by rw[i];exact(((((((P.o.set a.o).set a.o).set a.o).set a.o).set a.o).set a.o).set a.o));have ag:Hid (PW L c g r.2):=aA (by rw[i];exact(((((((U.o.set qo).set qo).set qo).set qo).set qo).set qo).set qo));have ab:Hid (Fr g v w c):=aA (by rw[i];exact(((((((O.o.set qo).set qo).set qo).set qo).set qo).set qo).set qo));have E:Hid (c.heap[w.heap.size]? =some (.cells #[.int .i64 2,.int .i64 0,.int .i64 0,.string ⟨#[]⟩,.int .i64 r.1.cat,.string r.1.name,.bool r.1.aEm] 292 (0,0))):=aA (by rw[i];exact aG (aG (aG (aG (aG (aG (aG n.o 0 _) 1 _) 2 _) 3 _) 4 _) 5 _) 6 _);clear i x0 x1 x2 x3 x4 x5 x6 f0 f1 f2 f3 f4 f5 f6 n O P U;obtain⟨⟨x0,x1,x2,x3,x4,x5,x6⟩,_⟩:=bI E.o;have ar:=aD E.o;have k:=aA (aB c (.cells #[.int .i64 2,.int .i64 0,.int .i64 0,.string ⟨#[]⟩,.int .i64 r.1.cat,.string r.1.name,.bool r.1.aEm] 292));have X:=aA (aK c (.cells #[.int .i64 2,.int .i64 0,.int .i64 0,.string ⟨#[]⟩,.int .i64 r.1.cat,.string r.1.name,.bool r.1.aEm] 292) _ rfl);have y:=aA (kJ.stays ad.o (aJ k.o (ok:=fun _=>True)) (fun _ _=>trivial));obtain⟨V,G,D⟩:=aZ (ag.o.on k.o) (ab.o.new k.o) (aE E.o k.o);have ai:l.length<=1000000:=qA R.o
 go_wp2_with (at_builtin;refine cC Ef dQ rfl (.tmp 39) (.tmp 41) rfl v l rfl y.o c.heap.size 1 _ _ _ (⟨2,aY,r.1⟩:No) rfl X.o ⟨rfl,Q.o⟩ ai qo (by rw[World.size_alloc];omega) ?_;intro l' hl' A' c' w9 Y A aa;have HG4:=aA Y;have HP4:=aA (V.o.grown y.o A ah);have HF4:=aA (G.o.grown S.o y.o A);have HO4:=aA (kI.trans S.o (NX aa) (Fr.size G.o));have BN4:=aA ((A.block _ (aD D.o) (fun e=>a.o _ e.symm rfl)).trans D.o);clear Y A aa k X y V G D x0 x1 x2 x3 x4 x5 x6)
 have HLM2:=aA (ae.o (decide ((32:Int)<(l'.length:Int))) _ W.o _ HP4.o);exact QAX
theorem Qp{L:List Tok}{f:Nat}(T:Toks L)(hE:FP L f)(l:List No)(p:PS)(g B:Nat)(v:Value)(w:World)(h:xM L (f+1) g B v w l p)(M:cM L (str "(") p=false)(N:¬((aU L p).aDN=1/\(aU L p).str≠str "true"/\(aU L p).str≠str "false")):
 Calls prog 246 #[.pointer (some ⟨g,0,none⟩),v] w (AN L g B v w (fB L (f+1) l p).1.1 (fB L (f+1) l p).1.2 (fB L (f+1) l p).2):=by
 have hL:=T.len;have ai:=h.low;have ak:=h.base;have m:=aA h;have hp:=h.at_;have I:=aA (fun w h=>gO hp hL g w h);have J:=aA (fun w h=>eR T (str "(") hp g w h);have af:=aA (fun b (q:PS) (hq:q.at_<L.length) w h=>lA b hq hL g w h);have ag:=aA (show ∀x,v.ownBlock=some x->x<w.heap.size from fun x O=>(aM.lt h.row x O).2);have R:=aA (DT T f l hp);have X:=aA (wP T f l hp).lt;rw[uM];unfold AN;dsimp only;rw[kH M,KM] at J;have G:=aA (fun w h=>sI T hp g w h);have K:gX L f l p=((l,⟨1,(dA L p).1,uX⟩),(dA L p).2):=by unfold gX;rw[iN (by rw[M];decide),iN N]
 have S:Hid ((gX L f l p).1.1.length<=100000):=aA (by rw[K];have:=h.len;show l.length<=100000;omega);rw[K] at R X S ⊢;unfold dC at G;unfold iD at I;have ab:¬(aU L p).aDN=1\/((aU L p).aDN=1/\(aU L p).str=str "true")\/((aU L p).aDN=1/\(aU L p).str≠str "true"/\(aU L p).str=str "false"):=by
  by_cases a:(aU L p).aDN=1
  .by_cases c:(aU L p).str=str "true"
   .exact .inr (.inl ⟨a,c⟩)
   .by_cases s:(aU L p).str=str "false"
    .exact .inr (.inr ⟨a,c,s⟩)
    .exact absurd ⟨a,c,s⟩ N
  .exact .inl a
 rw[CU,yS] at ab;clear h hE M K N;generalize aU L p=t at *;generalize dA L p=r at *;dsimp only at *
 rcases ab with a|⟨a,c⟩|⟨a,c,s⟩
 all_goals
  first
   |(have d1:(t.aDN==1)=false:=bN.2 a;clear a)
   |(have d1:(t.aDN==1)=true:=bQ.2 a;obtain⟨d2,e2⟩:=fP t.str [116,114,117,101] c;obtain⟨d3,e3⟩:=fY t.str [102,97,108,115,101] s;clear a c s)
   |(have d1:(t.aDN==1)=true:=bQ.2 a;obtain⟨d2,e2⟩:=fY t.str [116,114,117,101] c;clear a c)
  go_enter func246,ntmps246;go_wp2_with fail;refine(I.o _ (m.o.pw.alloc)).mono ?_;rintro e w1 ⟨rfl,o⟩;have j:=aA (aE (aK _ _ _ rfl) o:w1.heap[w.heap.size]? =some (.cells #[.int .i64 0,.int .i64 0,.int .i64 0,.string ⟨#[]⟩,.int .i64 0,.string ⟨#[]⟩,.bool false] 292 (0,0)));have z:=aA (((Fr.refl g v w).new (aB _ _)).new o);have A:=aA ((m.o.row.stays (aJ (aB _ _) (ok:=fun _=>True)) (fun _ _=>trivial)).stays (aJ o (ok:=fun _=>True)) (fun _ _=>trivial));have HP:=aA ((m.o.pw.alloc).on o);have an:=aD j.o;clear o I;go_wp2_with fail;refine(J.o _ (HP.o.alloc)).mono ?_;rintro e w2 ⟨rfl,h_,k_⟩;obtain⟨j,BT,z⟩:=aZ (aF (aE j.o (aB _ _)) k_ qo) (aF (aK _ _ _ rfl) k_ qo:w2.heap[w1.heap.size]? =some (.cells (oO t) 130 (0,0))) ((z.o.new (aB _ _)).aD5 k_);have A:=aA ((A.o.stays (aJ (aB _ _) (ok:=fun _=>True)) (fun _ _=>trivial)).stays k_ (fun b hb=>by have h1:=(aM.lt m.o.row b hb).1;show b≠g;omega));have HP:=aA h_;have ao:=aD j.o;have aq:=aD BT.o;have al:=HP.o.lt;clear h_ k_ J;obtain⟨⟨t0,t1,t2,t3⟩,_⟩:=nV BT.o;go_wp2_with fail;refine(G.o _ HP.o).mono ?_;rintro e w3 ⟨rfl,h_,k_⟩;have y:=qS j k_ qo;have P:=aA (z.o.aD5 k_);have Q:=aA (A.o.stays k_ (fun b hb=>by have h1:=(aM.lt m.o.row b hb).1;show b≠g;omega));have V:=aA h_;have U:Hid (kI v v w):=aA (kI.refl v w);have d:Hid (∀x,v.ownBlock=some x->x≠w.heap.size):=aA (fun x O=>qA (ag.o x O));have ar:=aD y.o;clear h_ k_ G j BT z A HP t0 t1 t2 t3;obtain⟨⟨x0,x1,x2,x3,x4,x5,x6⟩,f0,f1,f2,f3,f4,f5,f6⟩:=bI y.o;go_upto_region 8 with (fail)
  obtain⟨i,k⟩:=xE ((((((((w3.setCell ⟨w.heap.size,0,none⟩ (.int .i64 1)).setCell ⟨w.heap.size,1,none⟩ (.int .i64 r.1.1)).setCell ⟨w.heap.size,2,none⟩ (.int .i64 r.1.2.1)).setCell ⟨w.heap.size,3,none⟩ (.string r.1.2.2)).setCell ⟨w.heap.size,4,none⟩ (.int .i64 0)).setCell ⟨w.heap.size,5,none⟩ (.string ⟨#[]⟩)).setCell ⟨w.heap.size,6,none⟩ (.bool false)));rw[<-k];have ae:Hid (kJ i B v l):=aA (by rw[k];exact(((((((Q.o.set d.o).set d.o).set d.o).set d.o).set d.o).set d.o).set d.o));have ah:Hid (PW L i g r.2):=aA (by rw[k];exact(((((((V.o.set qo).set qo).set qo).set qo).set qo).set qo).set qo));have ad:Hid (Fr g v w i):=aA (by rw[k];exact(((((((P.o.set qo).set qo).set qo).set qo).set qo).set qo).set qo));have F:Hid (i.heap[w.heap.size]? =some (.cells #[.int .i64 1,.int .i64 r.1.1,.int .i64 r.1.2.1,.string r.1.2.2,.int .i64 0,.string ⟨#[]⟩,.bool false] 292 (0,0))):=aA (by rw[k];exact aG (aG (aG (aG (aG (aG (aG y.o 0 _) 1 _) 2 _) 3 _) 4 _) 5 _) 6 _);clear k x0 x1 x2 x3 x4 x5 x6 f0 f1 f2 f3 f4 f5 f6 y P Q V;obtain⟨⟨x0,x1,x2,x3,x4,x5,x6⟩,_⟩:=bI F.o;have au:=aD F.o;have n:=aA (aB i (.cells #[.int .i64 1,.int .i64 r.1.1,.int .i64 r.1.2.1,.string r.1.2.2,.int .i64 0,.string ⟨#[]⟩,.bool false] 292));have Y:=aA (aK i (.cells #[.int .i64 1,.int .i64 r.1.1,.int .i64 r.1.2.1,.string r.1.2.2,.int .i64 0,.string ⟨#[]⟩,.bool false] 292) _ rfl);have C:=aA (kJ.stays ae.o (aJ n.o (ok:=fun _=>True)) (fun _ _=>trivial));obtain⟨W,H,E⟩:=aZ (ah.o.on n.o) (ad.o.new n.o) (aE F.o n.o);have aj:l.length<=1000000:=qA S.o
  go_wp2_with (at_builtin;refine cC Ef dQ rfl (.tmp 39) (.tmp 41) rfl v l rfl C.o i.heap.size 1 _ _ _ (⟨1,r.1,uX⟩:No) rfl Y.o ⟨rfl,R.o⟩ aj qo (by rw[World.size_alloc];omega) ?_;intro l' hl' A' c' w9 Z D aa;have HG4:=aA Z;have HP4:=aA (W.o.grown C.o D ai);have HF4:=aA (H.o.grown U.o C.o D);have HO4:=aA (kI.trans U.o (NX aa) (Fr.size H.o));have BN4:=aA ((D.block _ (aD E.o) (fun e=>d.o _ e.symm rfl)).trans E.o);clear Z D aa n Y C W H E x0 x1 x2 x3 x4 x5 x6)
  have HLM2:=aA (af.o (decide ((32:Int)<(l'.length:Int))) _ X.o _ HP4.o);exact QAX
theorem AO{L:List Tok}(T:Toks L):∀f,FP L f
 |0=>fun l p g B v w h=>absurd h.fuel (qA h.at_)
 |f+1=>fun l p g B v w h=>by
  cases b:cM L (str "(") p
  .by_cases a:(aU L p).aDN=1/\(aU L p).str≠str "true"/\(aU L p).str≠str "false"
   .exact Jv T (AO T f) l p g B v w h b a.1 a.2.1 a.2.2
   .exact Qp T (AO T f) l p g B v w h b a
  .exact Qo T (AO T f) l p g B v w h b
theorem QCu{p:Prop}(h:p:=by
 have:k=1\/k=2\/k=3\/k=4\/k=5\/k=6\/k=7:=qo
 rcases this with rfl|rfl|rfl|rfl|rfl|rfl|rfl<;>decide +kernel):p:=h
theorem Jw{p:Prop}(h:p:=by
 go_wp2;go_returns;exact⟨by rw[HE.o];rfl,HB1.o⟩):p:=h
theorem LG{p:Prop}(h:p:=by
 go_enter func53,ntmps53;go_wp2;go_returns;exact⟨rfl,aB _ _⟩):p:=h
theorem Bo(k:Int)(h:k<1\/7<k):cK k=⟨#[116,105,99,107]⟩:=by unfold cK;rw[iP h,Zl]
theorem AP(k:Int)(w:World):Calls prog 53 #[.int .i64 k] w (aP (.string (cK k)) w):=by
 unfold aP;by_cases h:k<1\/7<k
 .rw[Bo k h]
  rcases h with h|h
  .have h1:k<1:=h;exact LG
  .have h0:¬k<1:=qo;have h1:k > 7:=h;exact LG
 .have:k=1\/k=2\/k=3\/k=4\/k=5\/k=6\/k=7:=qo;clear h
  rcases this with rfl|rfl|rfl|rfl|rfl|rfl|rfl
  .rw[show cK 1=⟨#[110,101,119]⟩ by kernel_rfl];exact LG
  .rw[show cK 2=⟨#[114,101,97,100]⟩ by kernel_rfl];exact LG
  .rw[show cK 3=⟨#[119,114,105,116,101]⟩ by kernel_rfl];exact LG
  .rw[show cK 4=⟨#[109,111,118,101]⟩ by kernel_rfl];exact LG
  .rw[show cK 5=⟨#[99,108,111,115,101]⟩ by kernel_rfl];exact LG
  .rw[show cK 6=⟨#[114,111,108,101]⟩ by kernel_rfl];exact LG
  .rw[show cK 7=⟨#[112,111,108,105,99,121]⟩ by kernel_rfl];exact LG
theorem Eg(k:Int)(w:World):Calls prog 114 #[.int .i64 k] w (aP (.bool (decide (1<=k/\k<=4))) w):=by
 unfold aP;by_cases h:1<=k
 .have h1:decide (k ≥ 1)=true:=dX h;go_enter func114,ntmps114;go_wp2;go_returns;exact⟨bH (by simp[h]),Below.refl _ _⟩
 .have h1:decide (k ≥ 1)=false:=dF h;go_enter func114,ntmps114;go_wp2;go_returns;exact⟨bH qs,Below.refl _ _⟩
theorem nC{s:bY}(h:s.size=0):s=⟨([]:lU).toArray⟩:=by
 apply ByteArray.ext
 exact Array.eq_empty_of_size_eq_zero h
theorem lE{s:bY}(h:s.size≠0):s≠⟨([]:lU).toArray⟩:=fun e=>h (by rw[e];rfl)
theorem DW(s:bY)(b:s.size<=cQ)(w:World):Calls prog 58 #[.string s] w (aP (.bool (mZ s)) w):=by
 have a:=aA (oZ s (tI b) w);unfold aP mZ;by_cases h:s.size=0
 .obtain⟨h1,h2⟩:=fY s [] (nC h);rw[dX h,Bool.true_or];clear h;go_enter func58,ntmps58;exact GY
 .obtain⟨h1,h2⟩:=fP s [] (lE h);rw[dF h,Bool.false_or];clear h;generalize eT s=n at *;go_enter func58,ntmps58;go_wp2_with fail;refine a.o.mono ?_;rintro e w1 ⟨rfl,rfl⟩;exact GY
theorem NZ(x:bY)(l:lU):(x.toList==l)=decide (x=⟨l.toArray⟩):=by
 by_cases h:x=⟨l.toArray⟩
 .rw[dX h];exact(fY x l h).1
 .rw[dF h];exact(fP x l h).1
theorem VF(a b:bY)(w:World):Calls prog 130 #[.string a,.string b] w (aP (.bool (iB a b)) w):=by
 unfold aP;by_cases h1:a=AD
 .obtain⟨c,d⟩:=fY a [111,112,101,110] (by rw[h1];exact Iy);rw[show iB a b=decide (b=vJ) by unfold iB;rw[iP h1]];clear h1;go_enter func130,ntmps130;go_wp2;go_returns;exact⟨bH (show (b.toList==[119,111,114,107])=decide (b=vJ) by rw[NZ];unfold vJ;rw[CV]),Below.refl _ _⟩
 obtain⟨c,d⟩:=fP a [111,112,101,110] (fun e=>h1 (e.trans Iy.symm));by_cases h2:a=vJ
 .obtain⟨f,g⟩:=fY a [119,111,114,107] (by rw[h2];exact CV);rw[show iB a b=decide (b=FE) by unfold iB;rw[iN h1,iP h2]];clear h1 h2;go_enter func130,ntmps130;go_wp2;go_returns;exact⟨bH (show (b.toList==[100,111,110,101])=decide (b=FE) by rw[NZ];unfold FE;rw[UC]),Below.refl _ _⟩
 obtain⟨f,g⟩:=fP a [119,111,114,107] (fun e=>h2 (e.trans CV.symm));by_cases h3:a=FE
 .obtain⟨p5,p6⟩:=fY a [100,111,110,101] (by rw[h3];exact UC);rw[show iB a b=(decide (b=vJ)||decide (b=oL)) by unfold iB;rw[iN h1,iN h2,iP h3]];clear h1 h2 h3;by_cases h4:b=vJ
  .obtain⟨q1,i⟩:=fY b [119,111,114,107] (by rw[h4];exact CV);rw[dX h4,Bool.true_or];clear h4;go_enter func130,ntmps130;exact GY
  .obtain⟨q1,i⟩:=fP b [119,111,114,107] (fun e=>h4 (e.trans CV.symm));rw[dF h4,Bool.false_or];clear h4;go_enter func130,ntmps130;go_wp2;go_returns;exact⟨bH (show (b.toList==[99,108,111,115,101,100])=decide (b=oL) by rw[NZ];unfold oL;rw[wI]),Below.refl _ _⟩
 obtain⟨p5,p6⟩:=fP a [100,111,110,101] (fun e=>h3 (e.trans UC.symm));rw[show iB a b=false by unfold iB;rw[iN h1,iN h2,iN h3]];clear h1 h2 h3;go_enter func130,ntmps130;exact GY
theorem Jx{o:Op}(h:o.aEh=false):oM o=decide (o.aEc.size=0):=by unfold oM;rw[iP h]
theorem Eh{o:Op}(h:o.aEh=true):oM o=(decide (1<=o.aDN/\o.aDN<=4)&&(decide (o.aEc.size≠0)&&decide (o.aEc.size<=64))):=by unfold oM;rw[iN (by rw[h];decide)]
theorem Ei(o:Op)(w:World):Calls prog 57 #[eZ o] w (aP (.bool (oM o)) w):=by
 obtain⟨k,su,i,j,m,⟨v1,v2,v3⟩,l,n,b,r⟩:=o;unfold aP eZ bX
 cases r
 .rw[Jx rfl];dsimp only;by_cases a:b.size=0
  .obtain⟨h1,h2⟩:=fY b [] (nC a);rw[dX a];clear a;go_enter func57,ntmps57;go_wp2;go_returns;exact⟨rfl,aB _ _⟩
  .obtain⟨h1,h2⟩:=fP b [] (lE a);rw[dF a];clear a;go_enter func57,ntmps57;go_wp2;go_returns;exact⟨rfl,aB _ _⟩
 .rw[Eh rfl];dsimp only;obtain⟨W0,d⟩:=xE (w.alloc (.cells #[.int .i64 k,.string su,.string i,.string j,.string m,.int .i64 v1,.int .i64 v2,.string v3,.int .i64 l,.string n,.string b,.bool true] 32));have p:Hid (Below w.heap.size w W0):=aA (by rw[d];exact aB _ _);have A:Hid (W0.heap[w.heap.size]? =some (.cells #[.int .i64 k,.string su,.string i,.string j,.string m,.int .i64 v1,.int .i64 v2,.string v3,.int .i64 l,.string n,.string b,.bool true] 32 (0,0))):=aA (by rw[d];exact aK _ _ _ rfl);have q:=aA d;have f:=aA (Eg k W0);unfold aP at f;generalize decide (1<=k/\k<=4)=c at *;clear d;go_enter func57,ntmps57;go_wp2_with fail;rw[<-q.o];refine f.o.mono ?_;rintro e w1 ⟨rfl,g⟩;have HB1:=qB p g;replace A:=qK A g;obtain⟨⟨s,t,y,z,B,C,D,E,F,G,v,x⟩,_⟩:=bK A.o;have H:=aD A.o;clear g f
  cases c
  .go_wp2;go_returns;exact⟨rfl,HB1.o⟩
  .by_cases a:b.size=0
   .obtain⟨h1,h2⟩:=fY b [] (nC a);have HE:Hid (decide (b.size≠0)=false):=aA (dF (fun h=>h a));clear a;exact Jw
   .obtain⟨h1,h2⟩:=fP b [] (lE a);have HE:Hid (decide (b.size≠0)=true):=aA (dX a);clear a;go_wp2;go_returns;exact⟨by rw[HE.o,Bool.true_and,Bool.true_and];exact bH (by rw[Bool.eq_iff_iff,decide_eq_true_iff,decide_eq_true_iff];omega),HB1.o⟩
end Go.Proofs.YthcgdgkpgdjahaaGreatDoor
