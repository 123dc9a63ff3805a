/- Lemmas. -/
import Derived.Test.YtkglnboglppgnaaGreatDoorMbe
import Derived.Test.YtkglnboglppgnaaGreatDoorMbj
import Derived.Test.YtkglnboglppgnaaGreatDoorMbm
namespace Go.Proofs.YtkglnboglppgnaaGreatDoor
open Go.RowKit
set_option linter.unusedVariables false
set_option linter.unusedSimpArgs false
set_option maxHeartbeats 16000000
open _root_.Go.Proofs.Tryz
set_option maxRecDepth 20000
theorem SE:(prog.info? 40).map (·.size)=some 13:=by kernel_rfl
theorem To:(prog.info? 73).map (·.size)=some 8:=by kernel_rfl
theorem Tp:(prog.info? 84).map (·.size)=some 16:=by kernel_rfl
theorem aAu:(prog.info? 113).map (·.size)=some 2:=by kernel_rfl
def FJ(ok:nP)(G:Sto×Rpl×Option Deci×Int)(w:World)(e:Ending)(w':World):Prop:=∃(vc vr vn vo vt vu vk vb vd:Value),e=.returned (.tuple #[.agg (aX G.1 vc vr vn vo vt vu vk vb),.agg (eX G.2.1),vd,.int .i64 G.2.2.2])/\fB w' (fun b=>(ok b/\b<w.heap.size)\/w.heap.size<=b) G.1 vc vr vn vo vt vu vk vb/\(match G.2.2.1 with |none=>vd=.agg pB|some d=>∃a,vd=.agg (mX d a)/\aI jX w' (fun b=>w.heap.size<=b) a d.aDj)/\Below w.heap.size w w'
def WI(w:World)(vs d:Value)(G:Sto×Rpl×Option Deci×Int)(s:Sto)(cs c b:Array Value)(a:Act)(w':World):Prop:=
 ∃(e at_:Int) (u:Nat->Value),a={tmps:=#[vs,d,.pointer (some ⟨w.heap.size,0,none⟩),.pointer (some ⟨w.heap.size+1,0,none⟩),.pointer (some ⟨w.heap.size+1+1,0,none⟩),.pointer (some ⟨w.heap.size+1+1+1,0,none⟩),.pointer (some ⟨w.heap.size+1+1+1+1,0,none⟩),u 7,u 8,u 9,u 10,u 11,.int .i64 e,.int .i64 at_,u 14,u 15,u 16,u 17,u 18,u 19,u 20,u 21,u 22,u 23,u 24,u 25,u 26,u 27,u 28,u 29,u 30,u 31,u 32,u 33,u 34,u 35,u 36,u 37,u 38,u 39,u 40,u 41,u 42,u 43,u 44,u 45,u 46,u 47,u 48,u 49,u 50,u 51,u 52,u 53,u 54,u 55,u 56,u 57,u 58,u 59,u 60,u 61,u 62,u 63,u 64,u 65,u 66,u 67,u 68,u 69,u 70,u 71,u 72,u 73,u 74,u 75,u 76,u 77,u 78,u 79,u 80,u 81,u 82,u 83,u 84,u 85,u 86,u 87,u 88,u 89,u 90,u 91,u 92,u 93,u 94,u 95,u 96,u 97,u 98,u 99,u 100,u 101,u 102,u 103,u 104,u 105,u 106,u 107,u 108,u 109,u 110,u 111,u 112,u 113,u 114,u 115,u 116,u 117,u 118,u 119,u 120,u 121,u 122,u 123,u 124,u 125,u 126,u 127,u 128,u 129,u 130],defers:=[]}/\
  Hid (G=(s,{qP with err:=e,at_:=at_},none,e))/\Hid (w'.heap[w.heap.size]? =some (.cells cs 40 (0,0)))/\Hid (w'.heap[w.heap.size+1+1]? =some (.cells c 40 (0,0)))/\Hid (w'.heap[w.heap.size+1+1+1]? =some (.cells #[.int .i64 0,.complex .f64 0 0,.bool false,.int .i64 0,.int .i64 0,.string ⟨#[]⟩,.bool false,.int .i64 0] 73 (0,0)))/\Hid (w'.heap[w.heap.size+1+1+1+1]? =some (.cells b 84 (0,0)))/\Hid (Below w.heap.size w w')
theorem Lm(g:List Gv)(p:Po):Cm.QP (rM g p).1.1/\(rM g p).1.2.length<=600000:=by
 unfold rM;split
 .exact⟨⟨qe,qe⟩,qe⟩
 .rename_i h;exact⟨yZ (uR g 4 p),lT (yF g 4 p (LP (by simpa using h))) (We 4 qe)⟩
theorem vH(g:List Gv)(p:Po):Cm.QP (iI g p).1.1/\(iI g p).1.2.length<=600000:=by
 unfold iI;split
 .exact⟨⟨qe,qe⟩,qe⟩
 .exact Lm g _
def lB(w:World)(cs os t y:Array Value)(z:Option (Array Value))(w':World):Prop:=w'.heap[w.heap.size]? =some (.cells cs 40 (0,0))/\w'.heap[w.heap.size+1]? =some (.cells os 66 (0,0))/\w'.heap[w.heap.size+1+1]? =some (.cells #[.int .i64 0,.slice none 0 0,.slice none 0 0,.slice none 0 0,.slice none 0 0,.string ⟨#[]⟩,.bool false,.int .i64 0,.slice none 0 0,.slice none 0 0,.slice none 0 0,.slice none 0 0,.int .i64 0] 40 (0,0))/\w'.heap[w.heap.size+1+1+1]? =some (.cells #[.int .i64 0,.complex .f64 0 0,.bool false,.int .i64 0,.int .i64 0,.string ⟨#[]⟩,.bool false,.int .i64 0] 73 (0,0))/\w'.heap[w.heap.size+1+1+1+1]? =some (.cells pB 84 (0,0))/\w'.heap[w.heap.size+1+1+1+1+1]? =some (.cells t 113 (0,0))/\w'.heap[w.heap.size+1+1+1+1+1+1]? =some (.cells y 73 (0,0))/\Below w.heap.size w w'/\∀zz,z=some zz->w'.heap[w.heap.size+1+1+1+1+1+1+1]? =some (.cells zz 40 (0,0))
section
variable {w w1 w2:World} {cs os t y:Array Value} {z:Option (Array Value)}
theorem lB.stays(h:lB w cs os t y z w1){q:nP}(c:aO q w1 w2)(a:∀b,b<=w.heap.size+7->q b):lB w cs os t y z w2:=by
 obtain⟨h0,h1,h2,h3,h4,h5,h6,f,g⟩:=h;exact⟨aG h0 c (a _ qo),aG h1 c (a _ qo),aG h2 c (a _ qo),aG h3 c (a _ qo),aG h4 c (a _ qo),aG h5 c (a _ qo),aG h6 c (a _ qo),((aK (ok:=fun b=>b<w.heap.size) f).trans (c.mono (fun b _ d=>a b qo))).below (fun k d=>⟨d,d⟩),fun zz e=>aG (g zz e) c (a _ qo)⟩
theorem lB.noz(h:lB w cs os t y z w1):lB w cs os t y none w1:=⟨h.1,h.2.1,h.2.2.1,h.2.2.2.1,h.2.2.2.2.1,h.2.2.2.2.2.1,h.2.2.2.2.2.2.1,h.2.2.2.2.2.2.2.1,fun _ e=>(by cases e)⟩
theorem lB.off(h:lB w cs os t y none w1){q:nP}(c:aO q w1 w2)(a:∀b,b<=w.heap.size+6->q b):lB w cs os t y none w2:=by
 obtain⟨h0,h1,h2,h3,h4,h5,h6,f,_⟩:=h;exact⟨aG h0 c (a _ qo),aG h1 c (a _ qo),aG h2 c (a _ qo),aG h3 c (a _ qo),aG h4 c (a _ qo),aG h5 c (a _ qo),aG h6 c (a _ qo),((aK (ok:=fun b=>b<w.heap.size) f).trans (c.mono (fun b _ d=>a b qo))).below (fun k d=>⟨d,d⟩),fun _ e=>(by cases e)⟩
theorem lB.on(h:lB w cs os t y z w1)(a:Below w1.heap.size w1 w2):lB w cs os t y z w2:=h.stays (aK (ok:=fun _=>True) a) (fun _ _=>trivial)
theorem lB.aEp(h:lB w cs os t y z w1)(c:aO (fun b=>b≠w.heap.size+1+1+1+1+1) w1 w2){t2:Array Value}(g:w2.heap[w.heap.size+1+1+1+1+1]? =some (.cells t2 113 (0,0))):lB w cs os t2 y z w2:=by
 obtain⟨h0,h1,h2,h3,h4,h5,h6,f,i⟩:=h;have a:∀{b},b≠w.heap.size+5->b≠w.heap.size+1+1+1+1+1:=fun h=>h
 exact⟨aG h0 c (a qo),aG h1 c (a qo),aG h2 c (a qo),aG h3 c (a qo),aG h4 c (a qo),g,aG h6 c (a qo),((aK (ok:=fun b=>b<w.heap.size) f).trans (c.mono (fun b _ d=>a qo))).below (fun k d=>⟨d,d⟩),fun zz e=>aG (i zz e) c (a qo)⟩
theorem lB.aD8(h:lB w cs os t y z w1)(c:aO (fun b=>b≠w.heap.size+1+1+1+1+1+1) w1 w2){f:Array Value}(i:w2.heap[w.heap.size+1+1+1+1+1+1]? =some (.cells f 73 (0,0))):lB w cs os t f z w2:=by
 obtain⟨h0,h1,h2,h3,h4,h5,h6,g,j⟩:=h;have a:∀{b},b≠w.heap.size+6->b≠w.heap.size+1+1+1+1+1+1:=fun h=>h
 exact⟨aG h0 c (a qo),aG h1 c (a qo),aG h2 c (a qo),aG h3 c (a qo),aG h4 c (a qo),aG h5 c (a qo),i,((aK (ok:=fun b=>b<w.heap.size) g).trans (c.mono (fun b _ d=>a qo))).below (fun k d=>⟨d,d⟩),fun zz e=>aG (j zz e) c (a qo)⟩
end
def oN(s:Sto)(o:Op):Int×Int:=if eE s o=0/\o.aC3=7 then (fG o.text).2 else (eE s o,0)
theorem LV{s:Sto}{o:Op}(h:(oN s o).1≠0):cQ s o=(s,{qP with err:=(oN s o).1,at_:=(oN s o).2},none,(oN s o).1):=iP h
theorem LW{s:Sto}{o:Op}(h:(oN s o).1=0)(h2:(iI (pX s o) s.aC4).2≠0):cQ s o=(s,{qP with err:=(iI (pX s o) s.aC4).2,at_:=(oN s o).2},none,(iI (pX s o) s.aC4).2):=(iN (fun e=>e h)).trans (iP h2)
abbrev QF:Array Value:=#[.int .i64 0,.complex .f64 0 0,.bool false,.int .i64 0,.int .i64 0,.string ⟨#[]⟩,.bool false,.int .i64 0]
theorem JK{w:World}{vs d:Value}{G:Sto×Rpl×Option Deci×Int}{s:Sto}{cs c b:Array Value}{a:Act}{w':World}(e at_:Int)(ha:a={tmps:=#[vs,d,.pointer (some ⟨w.heap.size,0,none⟩),.pointer (some ⟨w.heap.size+1,0,none⟩),.pointer (some ⟨w.heap.size+1+1,0,none⟩),.pointer (some ⟨w.heap.size+1+1+1,0,none⟩),.pointer (some ⟨w.heap.size+1+1+1+1,0,none⟩),gT a 7,gT a 8,gT a 9,gT a 10,gT a 11,.int .i64 e,.int .i64 at_,gT a 14,gT a 15,gT a 16,gT a 17,gT a 18,gT a 19,gT a 20,gT a 21,gT a 22,gT a 23,gT a 24,gT a 25,gT a 26,gT a 27,gT a 28,gT a 29,gT a 30,gT a 31,gT a 32,gT a 33,gT a 34,gT a 35,gT a 36,gT a 37,gT a 38,gT a 39,gT a 40,gT a 41,gT a 42,gT a 43,gT a 44,gT a 45,gT a 46,gT a 47,gT a 48,gT a 49,gT a 50,gT a 51,gT a 52,gT a 53,gT a 54,gT a 55,gT a 56,gT a 57,gT a 58,gT a 59,gT a 60,gT a 61,gT a 62,gT a 63,gT a 64,gT a 65,gT a 66,gT a 67,gT a 68,gT a 69,gT a 70,gT a 71,gT a 72,gT a 73,gT a 74,gT a 75,gT a 76,gT a 77,gT a 78,gT a 79,gT a 80,gT a 81,gT a 82,gT a 83,gT a 84,gT a 85,gT a 86,gT a 87,gT a 88,gT a 89,gT a 90,gT a 91,gT a 92,gT a 93,gT a 94,gT a 95,gT a 96,gT a 97,gT a 98,gT a 99,gT a 100,gT a 101,gT a 102,gT a 103,gT a 104,gT a 105,gT a 106,gT a 107,gT a 108,gT a 109,gT a 110,gT a 111,gT a 112,gT a 113,gT a 114,gT a 115,gT a 116,gT a 117,gT a 118,gT a 119,gT a 120,gT a 121,gT a 122,gT a 123,gT a 124,gT a 125,gT a 126,gT a 127,gT a 128,gT a 129,gT a 130],defers:=[]})
 (h:Hid (G=(s,{qP with err:=e,at_:=at_},none,e))/\Hid (w'.heap[w.heap.size]? =some (.cells cs 40 (0,0)))/\Hid (w'.heap[w.heap.size+1+1]? =some (.cells c 40 (0,0)))/\Hid (w'.heap[w.heap.size+1+1+1]? =some (.cells QF 73 (0,0)))/\Hid (w'.heap[w.heap.size+1+1+1+1]? =some (.cells b 84 (0,0)))/\Hid (Below w.heap.size w w')):WI w vs d G s cs c b a w':=
 ⟨e,at_,fun n=>a.tmps.getD n undef,ha,h⟩
def oA(s:Sto)(o:Op)(m:Mk)(l:List Ob)(b a:Bool):Rpl:=
 let hidden:=a&&(decide (o.aC3=2)&&l.any (fun x=>decide (x.aC3=2)&&decide (x.arg=o.aDn)))
 let val:=if a&&(decide (o.aC3=2)&& !hidden) then ((eV s o.aDa).map (fun c=>gL c o.aDn)).getD bF else bF
 ⟨if a then 0 else 12,m,b,val,hidden,0⟩
theorem LX{s:Sto}{o:Op}{R:(Mk×List Ob)×Int}(hp:(oN s o).1=0)(f:R=iI (pX s o) s.aC4)(h2:R.2=0){a:Bool}(j:a=jH s o R.1.1){d b:Bool}(g:decide (R.1.1=(4,0))=d)(i:b=(d||a)){c:Sto}(k:c=if a=true then eJ s o o.aDp else s){s2:Sto}(n:s2=R.1.2.foldl (cY o b) (if b=true then cX c o else c)):
 cQ s o=if qO s2=true then (s,{qP with err:=6,at_:=(oN s o).2},none,6) else (s2,oA s o R.1.1 R.1.2 a b,some ⟨o,s.aDg,R.1.1,a,R.1.2⟩,0):=by
 rw[TE];refine(iN (fun e=>e hp)).trans ?_;unfold Si;rw[<-f];obtain⟨⟨m,l⟩,e⟩:=R;dsimp only at *;rw[iN (fun e=>e h2),<-j,g,<-i,<-k,<-n];rfl
theorem Zg(s:Sto)(o:Op)(m:Mk)(l:List Ob)(a:Bool):eX (oA s o m l a false)=#[.int .i64 12,.complex .f64 (Cm.qb m.1) (Cm.qb m.2),.bool a,.int .i64 0,.int .i64 0,.string ⟨#[]⟩,.bool false,.int .i64 0]:=rfl
theorem Ln(s:Sto)(o:Op)(m:Mk)(l:List Ob)(a:Bool)(h:o.aC3≠2):eX (oA s o m l a true)=#[.int .i64 0,.complex .f64 (Cm.qb m.1) (Cm.qb m.2),.bool a,.int .i64 0,.int .i64 0,.string ⟨#[]⟩,.bool false,.int .i64 0]:=by
 unfold oA eX;simp only[dF h,Bool.false_and,Bool.and_false,Bool.false_eq_true,if_false,if_true];rfl
theorem Wh(s:Sto)(o:Op)(m:Mk)(l:List Ob)(a:Bool)(h:o.aC3=2)(b:l.any (fun x=>decide (x.aC3=2)&&decide (x.arg=o.aDn))=true):eX (oA s o m l a true)=#[.int .i64 0,.complex .f64 (Cm.qb m.1) (Cm.qb m.2),.bool a,.int .i64 0,.int .i64 0,.string ⟨#[]⟩,.bool true,.int .i64 0]:=by
 unfold oA eX;simp only[dX h,b,Bool.true_and,Bool.not_true,Bool.false_eq_true,if_false,if_true];rfl
theorem Wi(s:Sto)(o:Op)(m:Mk)(l:List Ob)(a:Bool)(h:o.aC3=2)(b:l.any (fun x=>decide (x.aC3=2)&&decide (x.arg=o.aDn))=false){v:V3}(d:v=((eV s o.aDa).map (fun c=>gL c o.aDn)).getD bF):eX (oA s o m l a true)=#[.int .i64 0,.complex .f64 (Cm.qb m.1) (Cm.qb m.2),.bool a,.int .i64 v.1,.int .i64 v.2.1,.string v.2.2,.bool false,.int .i64 0]:=by
 unfold oA eX;simp only[dX h,b,Bool.true_and,Bool.not_false,if_true,d]
def mB(ok:nP)(w:World)(cs os t y:Array Value)(vd:Value)(l:List Ob)(s1:Sto)(w':World):Prop:=
 ∃(K:nP) (base:Nat),(∀b,K b->(ok b/\b<w.heap.size)\/w.heap.size+8<=b)/\w.heap.size+8<=base/\iD K base (w.heap.size+1+1+1+1+1+1+1) w' w' s1/\lB w cs os t y none w'/\aI jX w' (fun b=>w.heap.size+8<=b/\b<base) vd l
section
variable {ok:nP} {w wa w':World} {cs os t y:Array Value} {vd:Value} {l:List Ob} {s1:Sto}
theorem mB.aDD(h:mB ok w cs os t y vd l s1 wa):lB w cs os t y none wa:=by obtain⟨_,_,_,_,_,h,_⟩:=h;exact h
theorem mB.obs(h:mB ok w cs os t y vd l s1 wa):aI jX wa (fun b=>w.heap.size+8<=b) vd l:=by obtain⟨_,_,_,_,_,_,h⟩:=h;exact h.more aQ fun b a=>a.1
theorem mB.on(h:mB ok w cs os t y vd l s1 wa)(a:Below wa.heap.size wa w'):mB ok w cs os t y vd l s1 w':=by
 obtain⟨K,base,h1,h2,⟨L,ro,vc,vr,vn,vo,vt,vu,vk,vb,h3,h4,_⟩,h5,h6⟩:=h;exact⟨K,base,h1,h2,⟨L,ro,vc,vr,vn,vo,vt,vu,vk,vb,aF h3 a,h4.on a,aO.refl _ _⟩,h5.on a,aI.on aQ h6 a⟩
theorem mB.at(h:mB ok w cs os t y vd l s1 wa)(d:aO (fun b=>b≠w.heap.size+1+1+1+1+1+1) wa w'){e:Array Value}(f:w'.heap[w.heap.size+1+1+1+1+1+1]? =some (.cells e 73 (0,0))):mB ok w cs os t e vd l s1 w':=by
 obtain⟨K,base,h1,h2,⟨L,ro,vc,vr,vn,vo,vt,vu,vk,vb,h3,h4,_⟩,h5,h6⟩:=h;have c:∀{b},b≠w.heap.size+6->b≠w.heap.size+1+1+1+1+1+1:=fun h=>h
 exact⟨K,base,h1,h2,⟨L,ro,vc,vr,vn,vo,vt,vu,vk,vb,aG h3 d (c qo),h4.stays d (fun b a=>c (by rcases h1 b a with h|h<;>omega)) (fun b a _=>c qo),aO.refl _ _⟩,h5.aD8 d f,aI.aDc aQ h6 (d.mono fun b _ a=>c (qA a.1))⟩
theorem bE.one{K:nP}{base:Nat}{s:Sto}{L:List Mix}{ro:Option Value}{vc vr vn vo vt vu vk vb:Value}(h:bE K base w s L ro vc vr vn vo vt vu vk vb):(aX s vc vr vn vo vt vu vk vb).all (·.oneCell')=true:=by
 obtain⟨_,_,rfl⟩:=h.aC2.slice;obtain⟨_,_,rfl⟩:=h.aC5.slice;obtain⟨_,_,rfl⟩:=h.aC8.slice;obtain⟨_,_,rfl,_⟩:=(h.aDd.sl cM).slice;obtain⟨_,_,rfl,-⟩:=h.aC4.2.2.1.slice;obtain⟨_,_,rfl,-⟩:=h.aC4.2.2.2.1.slice;obtain⟨_,_,rfl,-⟩:=h.aC4.2.2.2.2.1.slice;obtain⟨_,_,rfl,-⟩:=h.aC4.2.2.2.2.2.slice;simp[aX,Value.oneCell']
end
theorem aAv{o:Option cI}{w:World}{e:Ending}{w':World}(h:AF o w e w')(g:∀c,o=some c->Pl c):∃c a d b,e=.returned (.tuple #[.agg #[.string c.id,.string c.aDv,.string c.aDo,a,d],.bool b])/\oW w' (fun _=>True) c a d/\(∀N,(o.map (fun c=>gL c N)).getD bF=gL c N)/\Below w.heap.size w w':=by
 rcases h with ⟨rfl,rfl,f⟩|⟨c,a,d,rfl,rfl,h⟩
 .exact⟨⟨⟨#[]⟩,⟨#[]⟩,⟨#[]⟩,[],[]⟩,_,_,_,rfl,⟨qe,qe,qe,aI.nil,aI.nil⟩,fun _=>rfl,f⟩
 .exact⟨c,a,d,_,rfl,(JC h (g c rfl)).more (fun _ _=>trivial),fun _=>rfl,h.2.2⟩
theorem Bb{n:Nat}{s:Sto}(h:kI n s)(i:Nat)(f:cI->cI)(e:∀c,(f c).log.length<=c.log.length+1):kI (n+1) (fH s i f):=
 ⟨by rw[AR];exact Nat.le_succ_of_le h.aC2,Nat.le_succ_of_le h.aC5,Nat.le_succ_of_le h.aC8,fun c a=>by
   rcases KU a with h1|⟨d,b,rfl⟩
   .exact Nat.le_succ_of_le (h.aDu c h1)
   .have:=h.aDu d (List.mem_of_getElem? b);have:=e d;omega⟩
theorem Lo{n:Nat}{s:Sto}(h:kI n s)(o:Op):kI (n+1) (cX s o):=by
 have h0:=h.more (Nat.le_succ n);unfold cX;dsimp only;split
 .exact h0
 split
 .refine⟨?_,h0.aC5,h0.aC8,fun c a=> ?_⟩
  .simp only[aL,List.length_take,List.length_drop,List.length_cons,List.length_nil];have:=h.aC2;omega
  .dsimp only at a;rw[List.append_assoc,List.mem_append,List.mem_append] at a
   rcases a with h1|h1|h1
   .exact h0.aDu c (List.mem_of_mem_take h1)
   .rw[List.mem_singleton] at h1;rw[h1];show 1<=n+1;omega
   .exact h0.aDu c (List.mem_of_mem_drop h1)
 split
 .exact Bb h _ _ (fun c=>by rw[xL];unfold oG;simp)
 split
 .exact Bb h _ _ (fun c=>by unfold oG;simp)
 split
 .refine⟨h0.aC2,?_,h0.aC8,h0.aDu⟩;dsimp only;split
  .rw[List.length_set];exact h0.aC5
  .exact h0.aC5
 split
 .split
  .exact h0
  .exact⟨h0.aC2,h0.aC5,h0.aC8,h0.aDu⟩
 split
 .split
  .exact⟨h0.aC2,h0.aC5,h0.aC8,h0.aDu⟩
  .exact h0
 split
 .exact⟨h0.aC2,h0.aC5,h0.aC8,h0.aDu⟩
 .exact h0
def WJ(w:World)(cs os t y x:Array Value)(w':World):Prop:=w'.heap[w.heap.size]? =some (.cells cs 40 (0,0))/\w'.heap[w.heap.size+1]? =some (.cells os 66 (0,0))/\w'.heap[w.heap.size+1+1+1+1+1]? =some (.cells t 113 (0,0))/\w'.heap[w.heap.size+1+1+1+1+1+1]? =some (.cells y 73 (0,0))/\w'.heap[w.heap.size+1+1+1+1+1+1+1]? =some (.cells x 40 (0,0))
theorem nC{w1 w2:World}{n b i j:Nat}{O:Obj}(h:w1.heap[b]? =some O){g:Nat}(a:aO (fun b=>b≠g) w1 w2)(c:b=n+i)(d:g=n+j)(e:i≠j):w2.heap[b]? =some O:=aG h a (show b≠g by omega)
theorem WJ.off{w w1 w2:World}{cs os t y x:Array Value}(h:WJ w cs os t y x w1){g j:Nat}(c:aO (fun b=>b≠g) w1 w2)(a:g=w.heap.size+j)(hj:2<=j/\j<=4):WJ w cs os t y x w2:=
 ⟨nC h.1 c (i:=0) rfl a qo,nC h.2.1 c (i:=1) rfl a qo,nC h.2.2.1 c (i:=5) rfl a qo,nC h.2.2.2.1 c (i:=6) rfl a qo,nC h.2.2.2.2 c (i:=7) rfl a qo⟩
theorem Lp{w w1 w2:World}(h:Below w.heap.size w w1)(c:aO (fun b=>b≠w.heap.size+2/\b≠w.heap.size+3/\b≠w.heap.size+4) w1 w2):Below w.heap.size w w2:=
 ((aK (ok:=fun b=>b<w.heap.size) h).trans (c.mono fun b _ d=>⟨qo,qo,qo⟩)).below (B:=w.heap.size) (fun k a=>⟨a,a⟩)
theorem aAw{n b:Nat}{p:Prop}(h:(p/\b<n)\/n+8<=b):b≠n+2/\b≠n+3/\b≠n+4:=by rcases h with ⟨-,h⟩|h<;>exact⟨qo,qo,qo⟩
theorem Qz{n b base:Nat}(h:n+8<=base)(a:base<=b):b≠n+2/\b≠n+3/\b≠n+4:=⟨qo,qo,qo⟩
theorem Zh{n b:Nat}(h:n+8<=b):b≠n+2/\b≠n+3/\b≠n+4:=⟨qo,qo,qo⟩
theorem Zi{n b:Nat}(h:n+8<=b):n<=b:=qo
theorem Zj{n b base:Nat}{p:Prop}(h:n+8<=base)(a:((p/\b<n)\/n+8<=b)\/base<=b):(p/\b<n)\/n<=b:=by
 rcases a with (h1|h1)|h1
 .exact .inl h1
 .exact .inr qo
 .exact .inr qo
theorem FK{s:Sto}(h:AN s):kI 256 s:=⟨lT h.1.few qe,(AO.1 h.2).1,(AO.1 h.2).2.1,(AO.1 h.2).2.2⟩
theorem YZ{ok:nP}(s:Sto)(vc vr vn vo vt vu vk vb:Value)(o:Op)(ho:kJ o)(w:World)(h:fB w ok s vc vr vn vo vt vu vk vb)(bt:gY w)(ij:AN s)(ie:s.aDd.length<=900000)(iq:0<=s.aDg/\s.aDg<=999999):
 Calls prog 20 #[.agg (aX s vc vr vn vo vt vu vk vb),fI o] w (FJ ok (cQ s o) w):=by
 obtain⟨ca,cc,ra,rc,na,nc,oa,oc,ta,tc,ua,uc,ka,kc,ba,bc,rfl,-,rfl,-,rfl,-,rfl,-,rfl,-,rfl,-,rfl,-,rfl,-⟩:=h.sl;obtain⟨HS,fy,be,bx,e5,gg⟩:=hD6 h bt ij ho iq ie;obtain⟨G,hG⟩:=xE (cQ s o);rw[<-hG];have dh:=aA hG;obtain⟨W0,ay⟩:=xE ((((((((w.alloc (.cells (fV s ca cc ra rc na nc oa oc ta tc ua uc ka kc ba bc) 40)).alloc (.cells (rF o) 66)).alloc (.cells xJ 40)).alloc (.cells QF 73)).alloc (.cells pB 84)).alloc (.cells #[.complex .f64 0 0,.slice none 0 0] 113)).alloc (.cells QF 73)).alloc (.cells xJ 40));have cg:Hid (Below w.heap.size w W0):=aA (by rw[ay];exact aC (aC (aC (aC (aC (aC (aC (aB _ _) (aB _ _)) (aB _ _)) (aB _ _)) (aB _ _)) (aB _ _)) (aB _ _)) (aB _ _));have A:Hid (W0.heap[w.heap.size]? =some (.cells (fV s ca cc ra rc na nc oa oc ta tc ua uc ka kc ba bc) 40 (0,0))):=aA (by rw[ay];exact aF (aF (aF (aF (aF (aF (aF (aM _ _ _ qs) (aB _ _)) (aB _ _)) (aB _ _)) (aB _ _)) (aB _ _)) (aB _ _)) (aB _ _));have B:Hid (W0.heap[w.heap.size+1]? =some (.cells (rF o) 66 (0,0))):=aA (by rw[ay];exact aF (aF (aF (aF (aF (aF (aM _ _ _ qs) (aB _ _)) (aB _ _)) (aB _ _)) (aB _ _)) (aB _ _)) (aB _ _));have R1:Hid (W0.heap[w.heap.size+1+1]? =some (.cells xJ 40 (0,0))):=aA (by rw[ay];exact aF (aF (aF (aF (aF (aM _ _ _ qs) (aB _ _)) (aB _ _)) (aB _ _)) (aB _ _)) (aB _ _));have R2:Hid (W0.heap[w.heap.size+1+1+1]? =some (.cells QF 73 (0,0))):=aA (by rw[ay];exact aF (aF (aF (aF (aM _ _ _ qs) (aB _ _)) (aB _ _)) (aB _ _)) (aB _ _));have R3:Hid (W0.heap[w.heap.size+1+1+1+1]? =some (.cells pB 84 (0,0))):=aA (by rw[ay];exact aF (aF (aF (aM _ _ _ qs) (aB _ _)) (aB _ _)) (aB _ _))
 have T:Hid (W0.heap[w.heap.size+1+1+1+1+1]? =some (.cells #[.complex .f64 0 0,.slice none 0 0] 113 (0,0))):=aA (by rw[ay];exact aF (aF (aM _ _ _ qs) (aB _ _)) (aB _ _));have Y:Hid (W0.heap[w.heap.size+1+1+1+1+1+1]? =some (.cells QF 73 (0,0))):=aA (by rw[ay];exact aF (aM _ _ _ qs) (aB _ _));have Z:Hid (W0.heap[w.heap.size+1+1+1+1+1+1+1]? =some (.cells xJ 40 (0,0))):=aA (by rw[ay];exact aM _ _ _ qs);have fw:Hid (lB w (fV s ca cc ra rc na nc oa oc ta tc ua uc ka kc ba bc) (rF o) #[.complex .f64 0 0,.slice none 0 0] QF (some xJ) W0):=aA ⟨A.o,B.o,R1.o,R2.o,R3.o,T.o,Y.o,cg.o,fun zz e=>by obtain rfl:=Option.some.inj e;exact Z.o⟩;have dm:=aA (h.on cg.o);have fz:=aA (bt.on cg.o);unfold pB at ay;have ha:=aA ay;clear ay;unfold fI cC aX;clear h bt ij ho iq ie hG;go_enter func20,ntmps20;go_wp2;obtain⟨JJ,e7⟩:∃JJ:Act->World->Prop,JJ=fun a' w'=>WI w (.agg #[.int .i64 s.aDb,.slice ca s.aC2.length cc,.slice ra s.aC5.length rc,.slice na s.aC8.length nc,.slice oa s.aDd.length oc,.string s.aC4.id,.bool s.aC4.set,.int .i64 s.aC4.alg,.slice ta s.aC4.aDe.length tc,.slice ua s.aC4.aC6.length uc,.slice ka s.aC4.aDh.length kc,.slice ba s.aC4.aDj.length bc,.int .i64 s.aDg]) (.agg #[.int .i64 o.aC3,.string o.aDi,.string o.aDa,.string o.aDn,.string o.to_,.int .i64 o.val.1,.int .i64 o.val.2.1,.string o.val.2.2,.int .i64 o.aDq,.string o.text,.string o.aDp,.bool o.aDw]) G s (fV s ca cc ra rc na nc oa oc ta tc ua uc ka kc ba bc) xJ pB a' w':=⟨_,rfl⟩
 refine uO 0 JJ (fun _ _=>0) rfl ?_ ?_
 .as_aux_lemma=>
  subst e7;rintro a' wr ⟨e,at_,u,rfl,jb,A,R1,R2,R3,HB⟩;have kg:¬(w.heap.size+1+1+1=w.heap.size+1+1):=qo;obtain⟨⟨a0,a1,a2,a3,a4,a5,a6,a7,a8,a9,cv,cw,a12⟩,-⟩:=bK A.o;have za:=aE A.o;go_wp2_with (first
   |(refine eK rfl _ (.tmp 4) (.tmp 125) rfl (w.heap.size+1+1) _ rfl rfl _ _ R1.o SE rfl (by simp[Value.oneCell']) ?_;intro w1 cp e2;replace R2:=qS R2 e2.o (by show (_:Nat)≠_;omega);replace R3:=qS R3 e2.o (by show (_:Nat)≠_;omega);clear a0 a1 a2 a3 a4 a5 a6 a7 a8 a9 cv cw a12 za)
   |(refine eK rfl _ (.tmp 5) (.tmp 128) rfl (w.heap.size+1+1+1) _ rfl rfl _ _ R2.o To rfl (by simp[Value.oneCell']) ?_;intro w2 cq e3;replace cp:=qS cp e3.o (by show (_:Nat)≠_;omega);replace R3:=aA (aG R3.o e3.o (by show (_:Nat)≠_;omega)))
   |(refine eK rfl _ (.tmp 6) (.tmp 129) rfl (w.heap.size+1+1+1+1) _ rfl rfl _ _ R3.o Tp rfl (by simp[Value.oneCell']) ?_;intro w3 ji bg;replace cp:=qS cp bg.o (by show (_:Nat)≠_;omega);replace cq:=aA (aG cq.o bg.o (by show (_:Nat)≠_;omega))))
  have df:=aA (((aK (ok:=fun b=>b<w.heap.size) HB.o).trans ((e2.o.mono (fun k _ hk=>by show (_:Nat)≠_;omega)).trans ((e3.o.mono (fun k _ hk=>by show (_:Nat)≠_;omega)).trans (bg.o.mono (fun k _ hk=>by show (_:Nat)≠_;omega))))).below (B:=w.heap.size) (fun k hk=>⟨hk,hk⟩));obtain⟨⟨a0,a1,a2,a3,a4,a5,a6,a7,a8,a9,cv,cw,a12⟩,-⟩:=bK cp.o;obtain⟨⟨b0,b1,b2,b3,b4,b5,b6,b7⟩,-⟩:=nR cq.o;obtain⟨⟨c0,c1,c2,c3,c4,c5,c6,c7,c8,c9,jt,ju,c12,jv,jw,jx⟩,-⟩:=kR ji.o;unfold Exit.jump;refine bR (.tuple #[.agg #[.int .i64 s.aDb,.slice ca s.aC2.length cc,.slice ra s.aC5.length rc,.slice na s.aC8.length nc,.slice oa s.aDd.length oc,.string s.aC4.id,.bool s.aC4.set,.int .i64 s.aC4.alg,.slice ta s.aC4.aDe.length tc,.slice ua s.aC4.aC6.length uc,.slice ka s.aC4.aDh.length kc,.slice ba s.aC4.aDj.length bc,.int .i64 s.aDg],.agg #[.int .i64 e,.complex .f64 0 0,.bool false,.int .i64 0,.int .i64 0,.string ⟨#[]⟩,.bool false,.int .i64 at_],.agg pB,.int .i64 e]) ?_;have eu:=jb.o;subst eu;exact⟨.slice ca s.aC2.length cc,.slice ra s.aC5.length rc,.slice na s.aC8.length nc,.slice oa s.aDd.length oc,.slice ta s.aC4.aDe.length tc,.slice ua s.aC4.aC6.length uc,.slice ka s.aC4.aDh.length kc,.slice ba s.aC4.aDj.length bc,.agg pB,rfl,(HS.o.inb.aDc ((aK df.o).mono (fun k _ hk=>hk.2))).more (fun b d=> .inl d),rfl,df.o⟩
 .intro _;have bl:=aA (aE Z.o);have ev:=aA e7;clear e7;obtain⟨⟨a0,a1,a2,a3,a4,a5,a6,a7,a8,a9,cv,cw,a12⟩,-⟩:=bK A.o;obtain⟨⟨b0,b1,b2,b3,b4,b5,b6,b7,b8,b9,jr,js⟩,-⟩:=bS B.o;have zA:=aE A.o;have zB:=aE B.o;go_upto_region 5 with (fail)
  rw[<-ha.o];go_wp2_with fail;refine(KV s _ _ _ _ _ _ _ _ o bx.o W0 dm.o).mono ?_;rintro e w1 ⟨rfl,bh⟩;have AA:=A;have BB:=B;clear a0 a1 a2 a3 a4 a5 a6 a7 a8 a9 cv cw a12 b0 b1 b2 b3 b4 b5 b6 b7 b8 b9 jr js zA zB;replace AA:=qK AA bh;obtain⟨⟨J,L,Q,S,U,V,W,X,aa,ab,M,O,P⟩,_⟩:=bK AA.o;have ad:=aE AA.o;replace BB:=qK BB bh;obtain⟨⟨f,l,q,r,t,y,z,D,E,F,m,p⟩,_⟩:=bS BB.o;have H:=aE BB.o;replace bh:=aA bh;go_upto_region 6 with (fail)
  go_cut [25] from 19 to 25 (fun v w'=>w'=w1/\∃b:Bool,v=.bool b/\Hid (b=decide (eE s o=0/\o.aC3=7)))
  case first=>as_aux_lemma=>
   by_cases hE:eE s o=0
   .by_cases hK:o.aC3=7
    .go_wp2
     all_goals go_meet
     all_goals exact⟨rfl,_,rfl,aA (by simp[hE,hK])⟩
    .go_wp2
     all_goals go_meet
     all_goals exact⟨rfl,_,rfl,aA (by simp[hE,hK])⟩
   .go_wp2
    all_goals go_meet
    all_goals exact⟨rfl,_,rfl,aA (by simp[hE])⟩
  case rest=>
  obtain⟨hw,b,hv,HB⟩:=hcut;have hw:=hw.symm;subst hw hv;go_upto_if 25 with (fail)
  go_cut [12,13] from 26 to 32 (fun v12 j1 w'=>v12=.int .i64 (oN s o).1/\j1=.int .i64 (oN s o).2/\Hid (Below W0.heap.size W0 w'))
  case first=>as_aux_lemma=>
   cases b
   .go_wp2
    all_goals go_meet
    have hc:=HB.o;exact⟨by unfold oN;rw[iN (fun e=>by rw[dX e] at hc;exact Bool.noConfusion hc)],by unfold oN;rw[iN (fun e=>by rw[dX e] at hc;exact Bool.noConfusion hc)],bh⟩
   .go_wp2_with (go_at_call 39;refine(sC o.text _ (fz.o.on bh.o)).mono ?_;rintro e wp ⟨vp,rfl,jz,ep⟩;replace ep:=aA ep;clear jz)
    all_goals go_meet
    have hc:=HB.o;exact⟨by unfold oN;rw[iP (of_decide_eq_true hc.symm)],by unfold oN;rw[iP (of_decide_eq_true hc.symm)],aA (aC bh.o ep.o)⟩
  case rest=>
  clear J L Q S U V W X aa ab M O P ad;clear f l q r t y z D E F m p H;obtain⟨rfl,rfl,bm⟩:=hcut;clear HB bh;have gq:=qB cg bm.o;go_upto_if 34 with (fail)
  by_cases ik:(oN s o).1=0
  .skip
   have gp:=aA ik;go_upto_region 9 with (fail)
   have HK:=aA bm.o.drew;have a:Hid (wc.drew.heap[w.heap.size]? =some (.cells (fV s ca cc ra rc na nc oa oc ta tc ua uc ka kc ba bc) 40 (0,0))/\wc.drew.heap[w.heap.size+1]? =some (.cells (rF o) 66 (0,0))):=aA ⟨aF A.o HK.o,aF B.o HK.o⟩;refine cB 10 [(0,false),(1,false),(2,false),(3,false),(4,true),(5,true),(6,false),(7,false),(8,false),(9,true)] [(10,true)] (fun w'=>w'.heap[w.heap.size]? =some (.cells (fV s ca cc ra rc na nc oa oc ta tc ua uc ka kc ba bc) 40 (0,0))/\w'.heap[w.heap.size+1]? =some (.cells (rF o) 66 (0,0))) (by decide +kernel) (by decide +kernel) a.o ?_;simp only[List.cons_append,List.nil_append];obtain⟨⟨J,L,Q,S,U,V,W,X,aa,ab,M,O,P⟩,-⟩:=bK (a.o).1;obtain⟨⟨f,l,q,r,t,y,z,D,E,F,m,p⟩,-⟩:=bS (a.o).2;have ad:=aE (a.o).1;have H:=aE (a.o).2
   repeat (refine dA rfl (fun K hK=> ?_);unfold rd;go_simp;refine hK _ (fun eo h1=> ?_) ?_;(· clear hK K J L Q S U V W X aa ab M O P ad f l q r t y z D E F m p H;obtain⟨⟨J,L,Q,S,U,V,W,X,aa,ab,M,O,P⟩,-⟩:=bK (h1).1;obtain⟨⟨f,l,q,r,t,y,z,D,E,F,m,p⟩,-⟩:=bS (h1).2;have ad:=aE (h1).1;have H:=aE (h1).2;unfold rd;go_simp);clear hK K)
   refine bI rfl (fun K1 I=> ?_);unfold mv;go_simp;refine(Qp s _ _ _ _ _ _ _ _ o bx.o (fun c hc=>qA ((be.o.1.each c hc).aC9)) wc.drew (dm.o.on HK.o)).mono ?_;rintro e wa ⟨va,rfl,im,dw⟩;replace HK:=qB HK dw;replace a:=aA (And.intro (aF a.o.1 dw) (aF a.o.2 dw));have gz:=aA im;refine I _ _ (fun _=>a.o) ?_;clear I K1 im dw J L Q S U V W X aa ab M O P ad f l q r t y z D E F m p H;obtain⟨⟨J,L,Q,S,U,V,W,X,aa,ab,M,O,P⟩,-⟩:=bK a.o.1;obtain⟨⟨f,l,q,r,t,y,z,D,E,F,m,p⟩,-⟩:=bS a.o.2;have ad:=aE a.o.1;have H:=aE a.o.2;refine bI rfl (fun K1 I=> ?_);unfold mv;go_simp;refine(RR (lv:=3) (lR _) s.aC4 _ _ _ _ va (pX s o) wa (dm.o.on HK.o).aC4 gz.o).mono ?_;rintro e wi ⟨vd,rfl,eb,dx⟩;have iu:W0.heap.size<=wa.heap.size:=HK.o.size;obtain⟨R,hR⟩:=xE (iI (pX s o) s.aC4);rw[<-hR] at eb ⊢;have HR:=aA hR;clear hR;replace HK:=qB HK dx;replace a:=aA (And.intro (aF a.o.1 dx) (aF a.o.2 dx));obtain⟨da,dc,rfl,_⟩:=eb.slice;have af:=aA (aI.more aQ eb (ok':=fun b=>W0.heap.size<=b) (fun b d=>lT iu d));clear iu;refine I _ _ (fun _=>a.o) ?_;clear I K1 eb dx gz J L Q S U V W X aa ab M O P ad f l q r t y z D E F m p H;obtain⟨⟨J,L,Q,S,U,V,W,X,aa,ab,M,O,P⟩,-⟩:=bK a.o.1;obtain⟨⟨f,l,q,r,t,y,z,D,E,F,m,p⟩,-⟩:=bS a.o.2;have ad:=aE a.o.1;have H:=aE a.o.2
   repeat (refine dA rfl (fun K hK=> ?_);unfold rd;go_simp;refine hK _ (fun eo h1=> ?_) ?_;(· clear hK K J L Q S U V W X aa ab M O P ad f l q r t y z D E F m p H;obtain⟨⟨J,L,Q,S,U,V,W,X,aa,ab,M,O,P⟩,-⟩:=bK h1.1;obtain⟨⟨f,l,q,r,t,y,z,D,E,F,m,p⟩,-⟩:=bS h1.2;have ad:=aE h1.1;have H:=aE h1.2;unfold rd;go_simp);clear hK K)
   have HD:=aA (fw.o.on HK.o);refine bI rfl (fun K1 I=> ?_);unfold mv;refine kZ rfl _ (.tmp 8) (.tmp 42) rfl (w.heap.size+1+1+1+1+1) _ rfl rfl _ _ (aF T.o HK.o) aAu rfl (by simp[Value.oneCell']) ?_;intro w3 HT bg;have hq:∀{b},b≠w.heap.size+5->b≠w.heap.size+1+1+1+1+1:=fun h=>h
   replace a:=aA (And.intro (aG a.o.1 bg.o (hq qo)) (aG a.o.2 bg.o (hq qo)));refine I _ _ (fun _=>a.o) ?_;replace af:=aA (aI.aDc aQ af.o (bg.o.mono (fun b _ d=>hq (by have:W0.heap.size<=b:=d;have:=bl.o;omega))));clear I K1 hq J L Q S U V W X aa ab M O P ad f l q r t y z D E F m p H;replace HD:=aA (HD.o.aEp bg.o HT.o);refine bI rfl (fun K1 I=> ?_);unfold mv;go_simp;refine I _ _ (fun h=>absurd h qe) ?_;clear I K1;unfold cH;clear a;go_upto_if 45 with (fail)
   by_cases fo:R.2=0
   .skip
    have cq:=aA fo;go_upto_region 11 with (fail)
    have ax:=aA (HD.o.on (Below.refl _ _).drew);replace af:=aA (aI.on aQ af.o (Below.refl _ _).drew);have a:Hid (w3.drew.heap[w.heap.size]? =some (.cells (fV s ca cc ra rc na nc oa oc ta tc ua uc ka kc ba bc) 40 (0,0))/\w3.drew.heap[w.heap.size+1]? =some (.cells (rF o) 66 (0,0))/\w3.drew.heap[w.heap.size+1+1+1+1+1]? =some (.cells #[.complex .f64 (Cm.qb R.1.1.1) (Cm.qb R.1.1.2),.slice da R.1.2.length dc] 113 (0,0))):=aA ⟨ax.o.1,ax.o.2.1,ax.o.2.2.2.2.2.1⟩;refine cB 10 [(0,false),(1,false),(2,false),(3,false),(4,false),(5,false),(7,false),(6,true),(8,true),(9,false)] [(10,true)] (fun w'=>w'.heap[w.heap.size]? =some (.cells (fV s ca cc ra rc na nc oa oc ta tc ua uc ka kc ba bc) 40 (0,0))/\w'.heap[w.heap.size+1]? =some (.cells (rF o) 66 (0,0))/\w'.heap[w.heap.size+1+1+1+1+1]? =some (.cells #[.complex .f64 (Cm.qb R.1.1.1) (Cm.qb R.1.1.2),.slice da R.1.2.length dc] 113 (0,0))) (by decide +kernel) (by decide +kernel) a.o ?_;simp only[List.cons_append,List.nil_append];obtain⟨⟨J,L,Q,S,U,V,W,X,aa,ab,M,O,P⟩,-⟩:=bK (a.o).1;obtain⟨⟨f,l,q,r,t,y,z,D,E,F,m,p⟩,-⟩:=bS (a.o).2.1;obtain⟨⟨ag,ah⟩,-⟩:=fM (a.o).2.2;have ad:=aE (a.o).1;have H:=aE (a.o).2.1;have ai:=aE (a.o).2.2
    repeat (refine dA rfl (fun K hK=> ?_);unfold rd;go_simp;refine hK _ (fun eo h1=> ?_) ?_;(· clear hK K J L Q S U V W X aa ab M O P ad f l q r t y z D E F m p H ag ah ai;obtain⟨⟨J,L,Q,S,U,V,W,X,aa,ab,M,O,P⟩,-⟩:=bK (h1).1;obtain⟨⟨f,l,q,r,t,y,z,D,E,F,m,p⟩,-⟩:=bS (h1).2.1;obtain⟨⟨ag,ah⟩,-⟩:=fM (h1).2.2;have ad:=aE (h1).1;have H:=aE (h1).2.1;have ai:=aE (h1).2.2;unfold rd;go_simp);clear hK K)
    refine bI rfl (fun K1 I=> ?_);unfold mv;go_simp;refine(YY s _ _ _ _ _ _ _ _ o R.1.1 (HR.o▸(vH _ _).1) w3.drew (HS.o.on ax.o.2.2.2.2.2.2.2.1) (fun x hx=>⟨(be.o.1.aDI x hx).1,(be.o.1.aDI x hx).2,be.o.1.aDb.2⟩)).mono ?_;rintro e wb ⟨rfl,fh⟩;obtain⟨gl,bt⟩:=xE (jH s o R.1.1);rw[<-bt];have jd:=aA bt;clear bt;replace ax:=aA (ax.o.on fh);replace af:=aA (aI.on aQ af.o fh);replace a:=aA (And.intro ax.o.1 (And.intro ax.o.2.1 ax.o.2.2.2.2.2.1));refine I _ _ (fun _=>a.o) ?_;clear I K1 fh J L Q S U V W X aa ab M O P ad f l q r t y z D E F m p H ag ah ai;obtain⟨⟨J,L,Q,S,U,V,W,X,aa,ab,M,O,P⟩,-⟩:=bK (a.o).1;obtain⟨⟨f,l,q,r,t,y,z,D,E,F,m,p⟩,-⟩:=bS (a.o).2.1;obtain⟨⟨ag,ah⟩,-⟩:=fM (a.o).2.2;have ad:=aE (a.o).1;have H:=aE (a.o).2.1;have ai:=aE (a.o).2.2;obtain⟨⟨Y0,Y1,Y2,Y3,Y4,Y5,Y6,Y7⟩,aj,ak,an,ao,aq,ar,au,av⟩:=nR ax.o.2.2.2.2.2.2.1;have zY:=aE ax.o.2.2.2.2.2.2.1;have il:=uF;refine bI rfl (fun K1 I=> ?_);unfold mv;go_simp;clear il;generalize ft:wb.setCell ⟨w.heap.size+1+1+1+1+1+1,1,none⟩ (.complex .f64 (Cm.qb R.1.1.1) (Cm.qb R.1.1.2))=w4;have bj:Hid (lB w (fV s ca cc ra rc na nc oa oc ta tc ua uc ka kc ba bc) (rF o) #[.complex .f64 (Cm.qb R.1.1.1) (Cm.qb R.1.1.2),.slice da R.1.2.length dc] #[.int .i64 0,.complex .f64 (Cm.qb R.1.1.1) (Cm.qb R.1.1.2),.bool false,.int .i64 0,.int .i64 0,.string ⟨#[]⟩,.bool false,.int .i64 0] (some xJ) w4):=aA (by rw[<-ft];exact ax.o.aD8 (aJ _) (aH ax.o.2.2.2.2.2.2.1 1 _));replace af:Hid (aI jX w4 (fun b=>W0.heap.size<=b) (.slice da R.1.2.length dc) R.1.2):=aA (by rw[<-ft];exact aI.aDc aQ af.o ((aJ _).mono (fun b _ d e=>by have:W0.heap.size<=b:=d;have:=bl.o;omega)))
    clear ft;replace a:=aA (And.intro bj.o.1 (And.intro bj.o.2.1 bj.o.2.2.2.2.2.1));refine I _ _ (fun _=>a.o) ?_;clear I K1 ax J L Q S U V W X aa ab M O P ad f l q r t y z D E F m p H ag ah ai Y0 Y1 Y2 Y3 Y4 Y5 Y6 Y7 aj ak an ao aq ar au av zY;obtain⟨⟨J,L,Q,S,U,V,W,X,aa,ab,M,O,P⟩,-⟩:=bK (a.o).1;obtain⟨⟨f,l,q,r,t,y,z,D,E,F,m,p⟩,-⟩:=bS (a.o).2.1;obtain⟨⟨ag,ah⟩,-⟩:=fM (a.o).2.2;have ad:=aE (a.o).1;have H:=aE (a.o).2.1;have ai:=aE (a.o).2.2
    repeat (refine dA rfl (fun K hK=> ?_);unfold rd;go_simp;refine hK _ (fun eo h1=> ?_) ?_;(· clear hK K J L Q S U V W X aa ab M O P ad f l q r t y z D E F m p H ag ah ai;obtain⟨⟨J,L,Q,S,U,V,W,X,aa,ab,M,O,P⟩,-⟩:=bK (h1).1;obtain⟨⟨f,l,q,r,t,y,z,D,E,F,m,p⟩,-⟩:=bS (h1).2.1;obtain⟨⟨ag,ah⟩,-⟩:=fM (h1).2.2;have ad:=aE (h1).1;have H:=aE (h1).2.1;have ai:=aE (h1).2.2;unfold rd;go_simp);clear hK K)
    obtain⟨⟨Y0,Y1,Y2,Y3,Y4,Y5,Y6,Y7⟩,aj,ak,an,ao,aq,ar,au,av⟩:=nR bj.o.2.2.2.2.2.2.1;have zY:=aE bj.o.2.2.2.2.2.2.1;refine bI rfl (fun K1 I=> ?_);unfold mv;go_simp;generalize fu:w4.setCell ⟨w.heap.size+1+1+1+1+1+1,2,none⟩ (.bool gl)=w5;have ae:Hid (lB w (fV s ca cc ra rc na nc oa oc ta tc ua uc ka kc ba bc) (rF o) #[.complex .f64 (Cm.qb R.1.1.1) (Cm.qb R.1.1.2),.slice da R.1.2.length dc] #[.int .i64 0,.complex .f64 (Cm.qb R.1.1.1) (Cm.qb R.1.1.2),.bool gl,.int .i64 0,.int .i64 0,.string ⟨#[]⟩,.bool false,.int .i64 0] (some xJ) w5):=aA (by rw[<-fu];exact bj.o.aD8 (aJ _) (aH bj.o.2.2.2.2.2.2.1 2 _));replace af:Hid (aI jX w5 (fun b=>W0.heap.size<=b) (.slice da R.1.2.length dc) R.1.2):=aA (by rw[<-fu];exact aI.aDc aQ af.o ((aJ _).mono (fun b _ d e=>by have:W0.heap.size<=b:=d;have:=bl.o;omega)));clear fu;refine I _ _ (fun h=>absurd h qe) ?_;clear I K1 bj a J L Q S U V W X aa ab M O P ad f l q r t y z D E F m p H ag ah ai Y0 Y1 Y2 Y3 Y4 Y5 Y6 Y7 aj ak an ao aq ar au av zY;unfold cH;obtain⟨⟨J,L,Q,S,U,V,W,X,aa,ab,M,O,P⟩,-⟩:=bK (And.intro ae.o.1 (And.intro ae.o.2.1 ae.o.2.2.2.2.2.1)).1;obtain⟨⟨f,l,q,r,t,y,z,D,E,F,m,p⟩,-⟩:=bS (And.intro ae.o.1 (And.intro ae.o.2.1 ae.o.2.2.2.2.2.1)).2.1;obtain⟨⟨ag,ah⟩,-⟩:=fM (And.intro ae.o.1 (And.intro ae.o.2.1 ae.o.2.2.2.2.2.1)).2.2;have ad:=aE (And.intro ae.o.1 (And.intro ae.o.2.1 ae.o.2.2.2.2.2.1)).1;have H:=aE (And.intro ae.o.1 (And.intro ae.o.2.1 ae.o.2.2.2.2.2.1)).2.1;have ai:=aE (And.intro ae.o.1 (And.intro ae.o.2.1 ae.o.2.2.2.2.2.1)).2.2;obtain⟨⟨Y0,Y1,Y2,Y3,Y4,Y5,Y6,Y7⟩,aj,ak,an,ao,aq,ar,au,av⟩:=nR ae.o.2.2.2.2.2.2.1;have zY:=aE ae.o.2.2.2.2.2.2.1
    go_upto_region 12 with (fail)
    obtain⟨al,fg⟩:∃b,decide (R.1.1=((4,0):Mk))=b:=⟨_,rfl⟩;have e1:((FloatKind.f64.format.order (Cm.qb R.1.1.1) 4607182418800017408==some .eq)&&(FloatKind.f64.format.order (Cm.qb R.1.1.2) 0==some .eq))=al:=(Cm.iW R.1.1.1 R.1.1.2 4 0 (HR.o▸(vH _ _).1) qe qe).trans ((sE R.1.1 (4,0)).trans fg);have iz:=aA fg;clear fg;go_cut [11] from 55 to 61 (fun v w'=>w'=w5/\v=.bool (al||gl))
    case first=>as_aux_lemma=>
     cases al
     .go_wp2
      all_goals go_meet
      all_goals exact⟨rfl,rfl⟩
     .go_wp2
      all_goals go_meet
      all_goals exact⟨rfl,rfl⟩
    case rest=>
    obtain⟨hw,hv⟩:=hcut;have hw:=hw.symm;subst hw hv;clear e1;obtain⟨dn,fk⟩:=xE ((al||gl));rw[<-fk];have i7:=aA fk;clear fk;go_wp2_with fail;refine(UP s _ _ _ _ _ _ _ _ w5 (HS.o.inb.on ae.o.2.2.2.2.2.2.2.1)).mono ?_;rintro e w6 hp;obtain⟨ko,ku,kr,L6,rfl,cy,db⟩:=Vl (HS.o.inb.on ae.o.2.2.2.2.2.2.2.1) hp;obtain⟨ke,kf,rfl⟩:=cy.aC2.slice;obtain⟨kj,kk,rfl⟩:=cy.aC5.slice;obtain⟨kh,ki,rfl⟩:=cy.aC8.slice;obtain⟨hi,gj,fx⟩:=bA (aF (ae.o.2.2.2.2.2.2.2.2 _ rfl) db) cy (ae.o.noz.on db);replace af:=aA (aI.on aQ (aI.inb aQ af.o) db);have jq:=aA (show w5.heap.size<=w6.heap.size from db.size);have cf:=aA (show w.heap.size+7<w5.heap.size from qA (aE (ae.o.2.2.2.2.2.2.2.2 _ rfl)));unfold aX;clear hp cy db ae J L Q S U V W X aa ab M O P ad f l q r t y z D E F m p H ag ah ai Y0 Y1 Y2 Y3 Y4 Y5 Y6 Y7 aj ak an ao aq ar au av zY;go_upto_region 14 with (refine eK rfl _ (.tmp 10) (.tmp 63) rfl (w.heap.size+1+1+1+1+1+1+1) _ rfl rfl _ _ hi.o SE rfl (by simp[Value.oneCell']) ?_;intro w7 hj dq)
    have bb:∀{b},b≠w.heap.size+7->b≠w.heap.size+1+1+1+1+1+1+1:=fun h=>h
    have ch:Hid (iD (fun b=>(ok b/\b<w.heap.size)/\b<w5.heap.size) w5.heap.size (w.heap.size+1+1+1+1+1+1+1) w7 w7 s):=aA ⟨L6,none,_,_,_,_,_,_,_,_,hj.o,gj.o.stays dq.o (fun b d=>bb (qA d.1.2)) (fun b d _=>bb (qA cf.o)),aO.refl _ _⟩;have bu:=aA (fx.o.off dq.o (fun b d=>bb qo));replace af:=aA (aI.aDc aQ af.o (dq.o.mono (fun b _ d=>bb (by have:W0.heap.size<=b:=d.1;have:=bl.o;omega))));clear gj fx hi hj dq bb;obtain⟨⟨Y0,Y1,Y2,Y3,Y4,Y5,Y6,Y7⟩,aj,ak,an,ao,aq,ar,au,av⟩:=nR bu.o.2.2.2.2.2.2.1;have zY:=aE bu.o.2.2.2.2.2.2.1;go_upto_if 65 with (fail)
    clear Y0 Y1 Y2 Y3 Y4 Y5 Y6 Y7 aj ak an ao aq ar au av zY;have gu:=aA (show s.aC5.length<=256 from (AO.1 be.o.2).1);go_cut [4] from 66 to 69 (fun v w'=>v=.pointer (some ⟨w.heap.size+1+1,0,none⟩)/\Hid (iD (fun b=>(ok b/\b<w.heap.size)/\b<w5.heap.size) w5.heap.size (w.heap.size+1+1+1+1+1+1+1) w7 w' (if gl then eJ s o o.aDp else s)))
    case first=>as_aux_lemma=>
     cases gl
     .go_wp2
      all_goals go_meet
      all_goals exact⟨rfl,aA ch.o⟩
     .obtain⟨⟨f,l,q,r,t,y,z,D,E,F,m,p⟩,-⟩:=bS bu.o.2.1;have H:=aE bu.o.2.1;go_wp2_with (go_at_call 48;refine(UF o bx.o s o.aDp bx.o.2.2.2.2.2.2.2.2 w7 (fun h=>qA h.1.2) (qA cf.o) (qA gu.o) ch.o).mono ?_;rintro e w8 ⟨rfl,ib⟩;replace ch:=aA ib;clear ib)
      all_goals go_meet
      all_goals exact⟨rfl,aA ch.o⟩
    case rest=>
    obtain⟨hv,bn⟩:=hcut;subst hv;obtain⟨s0,fp⟩:=xE ((if gl then eJ s o o.aDp else s));rw[<-fp] at bn;have cu:=aA fp;clear fp ch;obtain⟨_,_,_,_,_,_,_,_,_,_,_,_,fs⟩:=bn.o;have bf:=aA (bu.o.off fs (fun b h=> .inl ⟨qA cf.o,fun e=>by omega⟩));replace af:=aA (aI.aDc aQ af.o (fs.mono (fun b _ d=> .inl ⟨d.2,fun e=>by have:W0.heap.size<=b:=d.1;have:=bl.o;omega⟩)));replace bn:=aA bn.o.here;clear fs bu;go_upto_if 70 with (fail)
    go_cut [14,15] from 16 to 105 (fun v1 v2 w'=>Hid (mB ok w (fV s ca cc ra rc na nc oa oc ta tc ua uc ka kc ba bc) (rF o) #[.complex .f64 (Cm.qb R.1.1.1) (Cm.qb R.1.1.2),.slice da R.1.2.length dc] (eX (oA s o R.1.1 R.1.2 gl dn)) (.slice da R.1.2.length dc) R.1.2 (if dn=true then cX s0 o else s0) w'))
    case first=>as_aux_lemma=>
     have je:Hid (mB ok w _ _ _ _ (.slice da R.1.2.length dc) R.1.2 s0 wc):=aA ⟨_,_,fun b d=> .inl d.1,qA cf.o,bn.o,bf.o,af.o.more aQ fun b d=>⟨qA bl.o,d.2⟩⟩;have il:=uF
     cases dn
     .obtain⟨⟨Y0,Y1,Y2,Y3,Y4,Y5,Y6,Y7⟩,aj,ak,an,ao,aq,ar,au,av⟩:=nR bf.o.2.2.2.2.2.2.1;have zY:=aE bf.o.2.2.2.2.2.2.1;go_wp2
      all_goals go_meet
      all_goals exact aA (Zg s o R.1.1 R.1.2 gl▸je.o.at (aJ _) (aH bf.o.2.2.2.2.2.2.1 0 _))
     .obtain⟨L8,km,kp,kv,ks,kt,kx,ky,kq,kn,de,e9,_⟩:=bn.o;have ig:kI 257 s0:=by rw[cu.o];split;(· exact DO (FK be.o) _ _);(· exact(FK be.o).more qo)
      have dj:=aA ig;have i1:Hid (∀c∈s0.aC2,c.aC9.length<=900000):=aA (by rw[cu.o,tB];exact fun c hc=>lT (be.o.1.each c hc).aC9 qo);have gr:Hid (s0.aDd.length<=900000/\0<=s0.aDg/\s0.aDg<=1000000):=aA (by rw[cu.o,(gU gl s o o.aDp).1,(gU gl s o o.aDp).2];exact⟨gg.o,e5.o.1,qA e5.o.2⟩);obtain⟨gw,dt,gx,ga⟩:=dJ (e9.sto (qA dj.o.aC2) (qA dj.o.aC5) (qA dj.o.aC8)) de e9.size (fy.o.on bf.o.2.2.2.2.2.2.2.1);have er:=aA (Kd s0 _ _ _ _ _ _ _ _ o bx.o wc gw.o ga.o (dj.o.more qo) i1.o gr.o.1 gr.o.2);obtain⟨⟨f,l,q,r,t,y,z,D,E,F,m,p⟩,-⟩:=bS bf.o.2.1;have H:=aE bf.o.2.1;unfold aX at de er;obtain⟨⟨X0,X1,X2,X3,X4,X5,X6,X7,X8,X9,bq,br,bs⟩,-⟩:=bK de;have zX:=aE de;clear de e9 ig;go_wp2_with fail;refine er.o.mono ?_;rintro e w9 ⟨K9,e6,L9,j0,j3,j7,j5,j6,j8,j9,j4,j2,rfl,hs,iv,fb,dv⟩;obtain⟨hg,gk,gn⟩:=bA (aF dt.o dv) fb fb.one;have ew:Hid (∀b,K9 b->(ok b/\b<w.heap.size)\/w.heap.size+8<=b):=aA (fun b d=>(hs b d).elim (fun h=>h.1.elim (fun h=> .inl h.1) (fun h=> .inr (qA cf.o))) (fun h=> .inr (qA (aE dt.o))));have du:Hid (w.heap.size+8<=e6/\w5.heap.size<=e6):=aA ⟨qA (aE dt.o),lT gx.o iv⟩;have gh:=aA (bf.o.on dv);have gy:=aA (aI.on aQ af.o dv);clear X0 X1 X2 X3 X4 X5 X6 X7 X8 X9 bq br bs zX f l q r t y z D E F m p H dv fb hs iv;go_upto_region 18 with (refine eK rfl _ (.tmp 10) (.tmp 73) rfl (w.heap.size+1+1+1+1+1+1+1) _ rfl rfl _ _ hg.o SE rfl gn.o ?_;intro ix hh dp)
      have bb:∀{b},b≠w.heap.size+7->b≠w.heap.size+1+1+1+1+1+1+1:=fun h=>h
      have az:Hid (mB ok w _ _ _ _ (.slice da R.1.2.length dc) R.1.2 (cX s0 o) ix):=aA ⟨K9,e6,ew.o,du.o.1,⟨L9,j0,j3,j7,j5,j6,j8,j9,j4,j2,hh.o,gk.o.stays dp.o (fun b d=>bb (by rcases ew.o b d with h|h<;>omega)) (fun b d _=>bb (qA du.o)),aO.refl _ _⟩,gh.o.off dp.o (fun b d=>bb qo),(aI.aDc aQ gy.o (dp.o.mono fun b _ d=>bb (qD d.1 bl.o))).more aQ fun b d=>⟨qD bl.o d.1,lL d.2 du.o.2⟩⟩;clear hh dp gh gy gk hg gn du ew dt gw er ga gx bb;obtain⟨⟨f,l,q,r,t,y,z,D,E,F,m,p⟩,-⟩:=bS az.o.aDD.2.1;have H:=aE az.o.aDD.2.1;obtain⟨⟨Y0,Y1,Y2,Y3,Y4,Y5,Y6,Y7⟩,aj,ak,an,ao,aq,ar,au,av⟩:=nR az.o.aDD.2.2.2.2.2.2.1;have zY:=aE az.o.aDD.2.2.2.2.2.2.1;by_cases hk:o.aC3=2
      .have b1:(o.aC3==(2:Int))=true:=by rw[hk];rfl
       have di:=aA hk;clear hk;obtain⟨hd,fl⟩:∃b,R.1.2.any (fun x=>decide (x.aC3=2)&&decide (x.arg=o.aDn))=b:=⟨_,rfl⟩;have cl:=Fe _ R.1.2 o.aDn ix az.o.obs;rw[fl] at cl;have cl:=aA cl;have gb:=aA fl;clear fl;obtain⟨⟨ag,ah⟩,-⟩:=fM az.o.aDD.2.2.2.2.2.1;have ai:=aE az.o.aDD.2.2.2.2.2.1;go_upto_region 19 with (go_at_call 50;refine cl.o.mono ?_;rintro e kb ⟨rfl,ht⟩;have bp:=aA (az.o.on ht);clear f l q r t y z D E F m p H Y0 Y1 Y2 Y3 Y4 Y5 Y6 Y7 aj ak an ao aq ar au av zY az cl ht ag ah ai;obtain⟨⟨f,l,q,r,t,y,z,D,E,F,m,p⟩,-⟩:=bS bp.o.aDD.2.1;have H:=aE bp.o.aDD.2.1;obtain⟨⟨Y0,Y1,Y2,Y3,Y4,Y5,Y6,Y7⟩,aj,ak,an,ao,aq,ar,au,av⟩:=nR bp.o.aDD.2.2.2.2.2.2.1;have zY:=aE bp.o.aDD.2.2.2.2.2.2.1)
       generalize ir:kb.setCell _ _=iy;have bd:Hid (mB ok w _ _ _ #[.int .i64 0,.complex .f64 (Cm.qb R.1.1.1) (Cm.qb R.1.1.2),.bool gl,.int .i64 0,.int .i64 0,.string ⟨#[]⟩,.bool hd,.int .i64 0] (.slice da R.1.2.length dc) R.1.2 (cX s0 o) iy):=aA (by rw[<-ir];exact bp.o.at (aJ _) (aH bp.o.aDD.2.2.2.2.2.2.1 6 _));clear ir f l q r t y z D E F m p H Y0 Y1 Y2 Y3 Y4 Y5 Y6 Y7 aj ak an ao aq ar au av zY bp;obtain⟨⟨f,l,q,r,t,y,z,D,E,F,m,p⟩,-⟩:=bS bd.o.aDD.2.1;have H:=aE bd.o.aDD.2.1;obtain⟨⟨Y0,Y1,Y2,Y3,Y4,Y5,Y6,Y7⟩,aj,ak,an,ao,aq,ar,au,av⟩:=nR bd.o.aDD.2.2.2.2.2.2.1;have zY:=aE bd.o.aDD.2.2.2.2.2.2.1
       cases hd
       .obtain⟨⟨J,L,Q,S,U,V,W,X,aa,ab,M,O,P⟩,-⟩:=bK bd.o.aDD.1;have ad:=aE bd.o.aDD.1;have fq:=HS.o.on bd.o.aDD.2.2.2.2.2.2.2.1;have cj:=DG s _ _ _ _ _ _ _ _ o.aDa iy fq;have i6:=aA (fun c hc=>DP (N:=o.aDa) (c:=c) fq hc);unfold aX at cj;have cj:=aA cj;clear fq;go_wp2_with fail;refine cj.o.mono ?_;intro e el hp;obtain⟨c,vf,vl,bo,rfl,dy,ic,hy⟩:=aAv hp i6.o;obtain⟨fa,fc,rfl,_⟩:=dy.2.2.2.1.slice;obtain⟨la,lc,rfl,_⟩:=dy.2.2.2.2.slice;obtain⟨W2,ec⟩:=xE (el.alloc (.cells (oZ c fa fc la lc) 128));have fj:Below el.heap.size el W2:=by rw[ec];exact aB _ _
        have C:Hid (W2.heap[el.heap.size]? =some (.cells (oZ c fa fc la lc) 128 (0,0))):=aA (by rw[ec];exact aM _ _ _ rfl);have bz:=aA ((bd.o.on hy).on fj);have bw:=KH c _ _ o.aDn W2 (dy.aDc (aK fj));obtain⟨v,hv⟩:∃v,gL c o.aDn=v:=⟨_,rfl⟩;rw[hv] at bw;have ja:Hid (v=((eV s o.aDa).map (fun c=>gL c o.aDn)).getD bF):=aA (by rw[ic,hv]);unfold aP dH at bw;have bw:=aA bw;have jn:=aA ec;clear ec hy fj dy ic hv hp f l q r t y z D E F m p H Y0 Y1 Y2 Y3 Y4 Y5 Y6 Y7 aj ak an ao aq ar au av zY J L Q S U V W X aa ab M O P ad bd cj;go_upto_region 21 with (fail)
        rw[<-jn.o];obtain⟨⟨f,l,q,r,t,y,z,D,E,F,m,p⟩,-⟩:=bS bz.o.aDD.2.1;have H:=aE bz.o.aDD.2.1;obtain⟨⟨Y0,Y1,Y2,Y3,Y4,Y5,Y6,Y7⟩,aj,ak,an,ao,aq,ar,au,av⟩:=nR bz.o.aDD.2.2.2.2.2.2.1;have zY:=aE bz.o.aDD.2.2.2.2.2.2.1;obtain⟨⟨C0,C1,C2,C3,C4⟩,-⟩:=dO C.o;have zC:=aE C.o;go_wp2_with fail;refine bw.o.mono ?_;rintro e kz ⟨rfl,ia⟩;have cb:=aA (bz.o.on ia);clear ia f l q r t y z D E F m p H Y0 Y1 Y2 Y3 Y4 Y5 Y6 Y7 aj ak an ao aq ar au av zY bz bw C0 C1 C2 C3 C4 zC;obtain⟨⟨f,l,q,r,t,y,z,D,E,F,m,p⟩,-⟩:=bS cb.o.aDD.2.1;have H:=aE cb.o.aDD.2.1;obtain⟨⟨Y0,Y1,Y2,Y3,Y4,Y5,Y6,Y7⟩,aj,ak,an,ao,aq,ar,au,av⟩:=nR cb.o.aDD.2.2.2.2.2.2.1;have zY:=aE cb.o.aDD.2.2.2.2.2.2.1;go_wp2
        all_goals go_meet
        all_goals exact aA (Wi s o R.1.1 R.1.2 gl di.o gb.o ja.o▸cb.o.at (((aJ _).trans (aJ _)).trans (aJ _)) (aH (aH (aH cb.o.aDD.2.2.2.2.2.2.1 3 _) 4 _) 5 _))
       .go_wp2
        all_goals go_meet
        all_goals exact aA (Wh s o R.1.1 R.1.2 gl di.o gb.o▸bd.o)
      .have b1:(o.aC3==(2:Int))=false:=bN.2 hk;have di:=aA hk;clear hk;go_wp2
       all_goals go_meet
       all_goals exact aA (Ln s o R.1.1 R.1.2 gl di.o▸az.o.at (aJ _) (aH az.o.aDD.2.2.2.2.2.2.1 6 _))
    case rest=>
    have HM:=hcut;clear hcut bn bf af
    try clear ha
    try clear dm
    try clear fz
    try clear fw
    try clear A
    try clear B
    try clear R1
    try clear R2
    try clear R3
    try clear T
    try clear Y
    try clear Z
    try clear AA
    try clear BB
    try clear HT
    try clear bg
    try clear HD
    try clear bm
    try clear gq
    try clear HK
    try clear a
    try clear e5
    try clear gg
    try clear gu
    try clear jq
    try clear cf
    try clear cg
    try clear fy
    obtain⟨s1,dz⟩:=xE ((if dn=true then cX s0 o else s0));rw[<-dz] at HM;have ih:kI 258 s1:=by
     have h0:kI 257 s0:=by rw[cu.o];split;(· exact DO (FK be.o) _ _);(· exact(FK be.o).more qo)
     rw[dz];split;(· exact Lo h0 o);(· exact h0.more qo)
    obtain⟨gf,jm,gi⟩:=bA ih dz (HR.o▸vH (pX s o) s.aC4);clear dz ih;obtain⟨K,base,hK,hz,hl,cx,fe⟩:=HM.o;have cm:=aA (And.intro hK hz);have ck:=YP o bx.o s1 _ R.1.2 dn wc (fun h=>by rcases hK _ h with h|h<;>omega) qo fe (fun b d=>⟨d.2,fun e=>qA d.1⟩) 258 gf.o (qA gi.o.2) hl;unfold fI cC at ck;have ck:=aA ck;have gm:=aA fe;clear hK hz hl fe;obtain⟨⟨f,l,q,r,t,y,z,D,E,F,m,p⟩,-⟩:=bS cx.2.1;have H:=aE cx.2.1;obtain⟨⟨ag,ah⟩,-⟩:=fM cx.2.2.2.2.2.1;have ai:=aE cx.2.2.2.2.2.1;clear cx;go_wp2_with fail;refine ck.o.mono ?_;rintro e kd ⟨rfl,K2,jy,hr,hn⟩;have bk:=aA (xX o dn R.1.2 258 s1 gf.o);obtain⟨s2,ea⟩:=xE (R.1.2.foldl (cY o dn) s1);rw[<-ea] at hn;have bk:Hid (kI 900000 s2):=aA (ea▸bk.o.more (qA gi.o.2));have et:=aA (LX gp.o HR.o cq.o jd.o iz.o i7.o cu.o (s2:=s2) (by rw[ea,jm.o]));obtain⟨L2,kl,ee,ei,eg,eh,ej,ek,ef,ed,dd,e8,fr⟩:=hn;have aw:=aA (HM.o.aDD.off fr (fun b d=> .inl ⟨qA cm.o.2,fun e=>by omega⟩));have ey:=aA (aI.aDc aQ gm.o (fr.mono fun b _ d=> .inl ⟨d.2,fun e=>qA d.1⟩));have gd:Hid (∀b,K2 b->(ok b/\b<w.heap.size)\/w.heap.size+8<=b):=aA (fun b d=>(hr b d).elim (cm.o.1 b) (fun h=> .inr (lT cm.o.2 h)));obtain⟨dk,hf,gv⟩:=bA e8 dd (e8.sto (qA bk.o.aC2) (qA bk.o.aC5) (qA bk.o.aC8));have cn:=Ll s2 _ _ _ _ _ _ _ _ kd gv.o;unfold aX at dd cn;obtain⟨⟨X0,X1,X2,X3,X4,X5,X6,X7,X8,X9,bq,br,bs⟩,-⟩:=bK dd;have zX:=aE dd;have cn:=aA cn;clear dd e8 fr jy hr HM gm ck ea f l q r t y z D E F m p H ag ah ai;obtain⟨ρ,fv⟩:=xE (oA s o R.1.1 R.1.2 gl dn);have iw:ρ.aDw=gl:=by rw[fv];rfl
    rw[<-fv] at aw et;have jl:=aA iw;clear fv iw;go_wp2_with fail;refine cn.o.mono ?_;rintro e en ⟨rfl,cz⟩;replace aw:=aA (aw.o.on cz);replace dk:=aA (dk.o.on cz);replace ey:=aA (aI.on aQ ey.o cz);have jo:=qK hf cz;clear cz cn hf gv X0 X1 X2 X3 X4 X5 X6 X7 X8 X9 bq br bs zX
    cases fm:qO s2
    .skip
     have jc:=aA (dh.o.trans (et.o.trans (iN (by rw[fm];decide))));have a:Hid (WJ w (fV s ca cc ra rc na nc oa oc ta tc ua uc ka kc ba bc) (rF o) #[.complex .f64 (Cm.qb R.1.1.1) (Cm.qb R.1.1.2),.slice da R.1.2.length dc] #[.int .i64 ρ.err,.complex .f64 (Cm.qb ρ.mark.1) (Cm.qb ρ.mark.2),.bool ρ.aDw,.int .i64 ρ.val.1,.int .i64 ρ.val.2.1,.string ρ.val.2.2,.bool ρ.hidden,.int .i64 ρ.at_] #[.int .i64 s2.aDb,ee,ei,eg,eh,.string s2.aC4.id,.bool s2.aC4.set,.int .i64 s2.aC4.alg,ej,ek,ef,ed,.int .i64 s2.aDg] en):=aA ⟨aw.o.1,aw.o.2.1,aw.o.2.2.2.2.2.1,aw.o.2.2.2.2.2.2.1,jo.o⟩;obtain⟨jj,ez,cr⟩:=bA aw.o.2.2.1 aw.o.2.2.2.1 aw.o.2.2.2.2.1;have ff:=dk.o.one;unfold aX at ff;have jh:=aA ff;clear ff fm;go_upto_region 26 with (fail)
     refine cB 15 [(0,false),(1,false),(2,false),(3,false),(4,false),(5,false),(6,false),(7,false),(8,false),(9,false),(10,false),(11,false),(12,true),(13,true),(14,true)] [(15,true)] (WJ w (fV s ca cc ra rc na nc oa oc ta tc ua uc ka kc ba bc) (rF o) #[.complex .f64 (Cm.qb R.1.1.1) (Cm.qb R.1.1.2),.slice da R.1.2.length dc] #[.int .i64 ρ.err,.complex .f64 (Cm.qb ρ.mark.1) (Cm.qb ρ.mark.2),.bool ρ.aDw,.int .i64 ρ.val.1,.int .i64 ρ.val.2.1,.string ρ.val.2.2,.bool ρ.hidden,.int .i64 ρ.at_] #[.int .i64 s2.aDb,ee,ei,eg,eh,.string s2.aC4.id,.bool s2.aC4.set,.int .i64 s2.aC4.alg,ej,ek,ef,ed,.int .i64 s2.aDg]) (by decide +kernel) (by decide +kernel) a.o ?_;simp only[List.cons_append,List.nil_append];obtain⟨⟨J,L,Q,S,U,V,W,X,aa,ab,M,O,P⟩,-⟩:=bK a.o.1;have ad:=aE a.o.1;obtain⟨⟨f,l,q,r,t,y,z,D,E,F,m,p⟩,-⟩:=bS a.o.2.1;have H:=aE a.o.2.1;obtain⟨⟨ag,ah⟩,-⟩:=fM a.o.2.2.1;have ai:=aE a.o.2.2.1;obtain⟨⟨Y0,Y1,Y2,Y3,Y4,Y5,Y6,Y7⟩,-⟩:=nR a.o.2.2.2.1;have zY:=aE a.o.2.2.2.1;obtain⟨⟨X0,X1,X2,X3,X4,X5,X6,X7,X8,X9,bq,br,bs⟩,-⟩:=bK a.o.2.2.2.2;have zX:=aE a.o.2.2.2.2
     repeat (refine dA rfl (fun K hK=> ?_);unfold rd;go_simp;refine hK _ (fun eo h1=> ?_) ?_;(· clear hK K J L Q S U V W X aa ab M O P ad f l q r t y z D E F m p H ag ah ai Y0 Y1 Y2 Y3 Y4 Y5 Y6 Y7 zY X0 X1 X2 X3 X4 X5 X6 X7 X8 X9 bq br bs zX;obtain⟨⟨J,L,Q,S,U,V,W,X,aa,ab,M,O,P⟩,-⟩:=bK h1.1;have ad:=aE h1.1;obtain⟨⟨f,l,q,r,t,y,z,D,E,F,m,p⟩,-⟩:=bS h1.2.1;have H:=aE h1.2.1;obtain⟨⟨ag,ah⟩,-⟩:=fM h1.2.2.1;have ai:=aE h1.2.2.1;obtain⟨⟨Y0,Y1,Y2,Y3,Y4,Y5,Y6,Y7⟩,-⟩:=nR h1.2.2.2.1;have zY:=aE h1.2.2.2.1;obtain⟨⟨X0,X1,X2,X3,X4,X5,X6,X7,X8,X9,bq,br,bs⟩,-⟩:=bK h1.2.2.2.2;have zX:=aE h1.2.2.2.2;unfold rd;go_simp);clear hK K)
     clear J L Q S U V W X aa ab M O P ad f l q r t y z D E F m p H ag ah ai Y0 Y1 Y2 Y3 Y4 Y5 Y6 Y7 zY X0 X1 X2 X3 X4 X5 X6 X7 X8 X9 bq br bs zX;refine bI rfl (fun K1 I=> ?_);unfold mv;refine kZ rfl _ (.tmp 4) (.tmp 113) rfl (w.heap.size+1+1) _ rfl rfl _ _ jj.o SE rfl jh.o ?_;intro wA ct cd;replace cd:Hid (aO (fun b=>b≠w.heap.size+1+1) en wA):=aA ((aK (Below.refl _ en).drew).trans cd.o);replace a:=aA (a.o.off (g:=w.heap.size+1+1) cd.o (j:=2) rfl qe);replace ez:=aA (nC ez.o (g:=w.heap.size+1+1) cd.o (n:=w.heap.size) (i:=3) (j:=2) rfl rfl qe);replace cr:=aA (nC cr.o (g:=w.heap.size+1+1) cd.o (n:=w.heap.size) (i:=4) (j:=2) rfl rfl qe);refine I _ _ (fun _=>a.o) ?_;clear I K1;refine bI rfl (fun K1 I=> ?_);unfold mv;refine kZ rfl _ (.tmp 5) (.tmp 114) rfl (w.heap.size+1+1+1) _ rfl rfl _ _ ez.o To rfl (by simp[Value.oneCell']) ?_;intro wB e0 dr;replace a:=aA (a.o.off (g:=w.heap.size+1+1+1) dr.o (j:=3) rfl qe);replace cr:=aA (nC cr.o (g:=w.heap.size+1+1+1) dr.o (n:=w.heap.size) (i:=4) (j:=3) rfl rfl qe);replace ct:=aA (nC ct.o (g:=w.heap.size+1+1+1) dr.o (n:=w.heap.size) (i:=2) (j:=3) rfl rfl qe);refine I _ _ (fun _=>a.o) ?_;clear I K1;refine bI rfl (fun K1 I=> ?_);unfold mv;refine kZ rfl _ (.tmp 6) (.tmp 124) rfl (w.heap.size+1+1+1+1) _ rfl rfl _ _ cr.o Tp rfl (by simp[Value.oneCell']) ?_;intro wD jk ds;replace a:=aA (a.o.off (g:=w.heap.size+1+1+1+1) ds.o (j:=4) rfl qe);replace ct:=aA (nC ct.o (g:=w.heap.size+1+1+1+1) ds.o (n:=w.heap.size) (i:=2) (j:=4) rfl rfl qe);replace e0:=aA (nC e0.o (g:=w.heap.size+1+1+1+1) ds.o (n:=w.heap.size) (i:=3) (j:=4) rfl rfl qe)
     refine I _ _ (fun _=>a.o) ?_;clear I K1;refine bI rfl (fun K1 I=> ?_);unfold mv;go_simp;refine I _ _ (fun h=>absurd h qe) ?_;clear I K1;unfold cH;have e4:Hid (aO (fun b=>b≠w.heap.size+2/\b≠w.heap.size+3/\b≠w.heap.size+4) en wD):=aA ((cd.o.mono fun b _ d=>d.1).trans ((dr.o.mono fun b _ d=>d.2.1).trans (ds.o.mono fun b _ d=>d.2.2)));have df:Hid (Below w.heap.size w wD):=aA (Lp aw.o.2.2.2.2.2.2.2.1 e4.o);have jf:=aA (dk.o.stays e4.o (fun b d=>aAw (gd.o b d)) (fun b d _=>Qz cm.o.2 d));have jg:=aA (aI.aDc aQ ey.o (e4.o.mono fun b _ d=>Zh d.1));obtain⟨⟨a0,a1,a2,a3,a4,a5,a6,a7,a8,a9,cv,cw,a12⟩,-⟩:=bK ct.o;obtain⟨⟨b0,b1,b2,b3,b4,b5,b6,b7⟩,-⟩:=nR e0.o;obtain⟨⟨c0,c1,c2,c3,c4,c5,c6,c7,c8,c9,jt,ju,c12,jv,jw,jx⟩,-⟩:=kR jk.o;go_wp2_with fail;unfold Exit.jump;refine bR (.tuple #[.agg #[.int .i64 s2.aDb,ee,ei,eg,eh,.string s2.aC4.id,.bool s2.aC4.set,.int .i64 s2.aC4.alg,ej,ek,ef,ed,.int .i64 s2.aDg],.agg #[.int .i64 ρ.err,.complex .f64 (Cm.qb ρ.mark.1) (Cm.qb ρ.mark.2),.bool ρ.aDw,.int .i64 ρ.val.1,.int .i64 ρ.val.2.1,.string ρ.val.2.2,.bool ρ.hidden,.int .i64 ρ.at_],.agg #[.int .i64 o.aC3,.string o.aDi,.string o.aDa,.string o.aDn,.string o.to_,.int .i64 o.val.1,.int .i64 o.val.2.1,.string o.val.2.2,.int .i64 o.aDq,.string o.text,.string o.aDp,.bool o.aDw,.int .i64 s.aDg,.complex .f64 (Cm.qb R.1.1.1) (Cm.qb R.1.1.2),.bool ρ.aDw,.slice da R.1.2.length dc],.int .i64 0]) ?_;obtain rfl:=jl.o;have eu:=jc.o;subst eu;exact⟨ee,ei,eg,eh,ej,ek,ef,ed,.agg (mX ⟨o,s.aDg,R.1.1,ρ.aDw,R.1.2⟩ (.slice da R.1.2.length dc)),rfl,(jf.o.sto (qA bk.o.aC2) (qA bk.o.aC5) (qA bk.o.aC8)).more (fun b d=>Zj cm.o.2 (d.imp (gd.o b) id)),⟨_,rfl,aI.more aQ jg.o (fun b d=>Zi d.1)⟩,df.o⟩
    .go_wp2;refine wp_goto (show 0=0/\JJ _ _ from ⟨rfl,?_⟩);rw[ev.o];show WI w _ _ G s _ _ _ _ _;refine JK 6 (oN s o).2 ?_ ⟨aA (dh.o.trans (et.o.trans (iP fm))),aA aw.o.1,aA aw.o.2.2.1,aA aw.o.2.2.2.1,aA aw.o.2.2.2.2.1,aA aw.o.2.2.2.2.2.2.2.1⟩;rfl
   .go_wp2;refine wp_goto (show 0=0/\JJ _ _ from ⟨rfl,?_⟩);rw[ev.o];show WI w _ _ G s _ _ _ _ _;refine JK R.2 (oN s o).2 ?_ ⟨aA (dh.o.trans (by rw[HR.o] at fo ⊢;exact LW gp.o fo)),aA HD.o.1,aA HD.o.2.2.1,aA HD.o.2.2.2.1,aA HD.o.2.2.2.2.1,aA HD.o.2.2.2.2.2.2.2.1⟩;rfl
  .go_wp2;refine wp_goto (show 0=0/\JJ _ _ from ⟨rfl,?_⟩);rw[ev.o];show WI w _ _ G s _ _ _ _ _;refine JK (oN s o).1 (oN s o).2 ?_ ⟨aA (dh.o.trans (LV ik)),aA (aF A.o bm.o),aA (aF R1.o bm.o),aA (aF R2.o bm.o),aA (aF R3.o bm.o),gq⟩;rfl
end Go.Proofs.YtkglnboglppgnaaGreatDoor
