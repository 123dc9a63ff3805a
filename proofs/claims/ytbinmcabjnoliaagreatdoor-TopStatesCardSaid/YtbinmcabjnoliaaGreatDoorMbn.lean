/- Lemmas. -/
import Derived.Test.YtbinmcabjnoliaaGreatDoorMbe
import Derived.Test.YtbinmcabjnoliaaGreatDoorMbj
import Derived.Test.YtbinmcabjnoliaaGreatDoorMbm
namespace Go.Proofs.YtbinmcabjnoliaaGreatDoor
open Go.RowKit
set_option linter.unusedVariables false
set_option linter.unusedSimpArgs false
set_option maxHeartbeats 16000000
open _root_.Go.Proofs.Tryz
set_option maxRecDepth 20000
theorem RW:(prog.info? 40).map (·.size)=some 13:=by kernel_rfl
theorem Tc:(prog.info? 78).map (·.size)=some 8:=by kernel_rfl
theorem Td:(prog.info? 92).map (·.size)=some 16:=by kernel_rfl
theorem aAj:(prog.info? 124).map (·.size)=some 2:=by kernel_rfl
def FC(ok:nP)(G:Sto×Rpl×Option Deci×Int)(w:World)(e:Ending)(w':World):Prop:=∃(vc vr vn vo vt vu vk vb vd:Value),e=.returned (.tuple #[.agg (aV G.1 vc vr vn vo vt vu vk vb),.agg (eV G.2.1),vd,.int .i64 G.2.2.2])/\eZ w' (fun b=>(ok b/\b<w.heap.size)\/w.heap.size<=b) G.1 vc vr vn vo vt vu vk vb/\(match G.2.2.1 with |none=>vd=.agg oY|some d=>∃a,vd=.agg (mT d a)/\aH jU w' (fun b=>w.heap.size<=b) a d.aC7)/\Below w.heap.size w w'
def VX(w:World)(vs d:Value)(G:Sto×Rpl×Option Deci×Int)(s:Sto)(cs c b:Array Value)(a:Act)(w':World):Prop:=
 ∃(e at_:Int) (u:Nat->Value),a={tmps:=#[vs,d,.pointer (some ⟨w.heap.size,0,none⟩),.pointer (some ⟨w.heap.size+1,0,none⟩),.pointer (some ⟨w.heap.size+1+1,0,none⟩),.pointer (some ⟨w.heap.size+1+1+1,0,none⟩),.pointer (some ⟨w.heap.size+1+1+1+1,0,none⟩),u 7,u 8,u 9,u 10,u 11,.int .i64 e,.int .i64 at_,u 14,u 15,u 16,u 17,u 18,u 19,u 20,u 21,u 22,u 23,u 24,u 25,u 26,u 27,u 28,u 29,u 30,u 31,u 32,u 33,u 34,u 35,u 36,u 37,u 38,u 39,u 40,u 41,u 42,u 43,u 44,u 45,u 46,u 47,u 48,u 49,u 50,u 51,u 52,u 53,u 54,u 55,u 56,u 57,u 58,u 59,u 60,u 61,u 62,u 63,u 64,u 65,u 66,u 67,u 68,u 69,u 70,u 71,u 72,u 73,u 74,u 75,u 76,u 77,u 78,u 79,u 80,u 81,u 82,u 83,u 84,u 85,u 86,u 87,u 88,u 89,u 90,u 91,u 92,u 93,u 94,u 95,u 96,u 97,u 98,u 99,u 100,u 101,u 102,u 103,u 104,u 105,u 106,u 107,u 108,u 109,u 110,u 111,u 112,u 113,u 114,u 115,u 116,u 117,u 118,u 119,u 120,u 121,u 122,u 123,u 124,u 125,u 126,u 127,u 128,u 129,u 130],defers:=[]}/\
  Hid (G=(s,{qM with err:=e,at_:=at_},none,e))/\Hid (w'.heap[w.heap.size]? =some (.cells cs 40 (0,0)))/\Hid (w'.heap[w.heap.size+1+1]? =some (.cells c 40 (0,0)))/\Hid (w'.heap[w.heap.size+1+1+1]? =some (.cells #[.int .i64 0,.complex .f64 0 0,.bool false,.int .i64 0,.int .i64 0,.string ⟨#[]⟩,.bool false,.int .i64 0] 78 (0,0)))/\Hid (w'.heap[w.heap.size+1+1+1+1]? =some (.cells b 92 (0,0)))/\Hid (Below w.heap.size w w')
theorem Kx(g:List Gv)(p:Po):Cm.QP (rL g p).1.1/\(rL g p).1.2.length<=600000:=by
 unfold rL;split
 .exact⟨⟨qe,qe⟩,qe⟩
 .rename_i h;exact⟨yW (uQ g 4 p),lT (yC g 4 p (LN (by simpa using h))) (Vs 4 qe)⟩
theorem vG(g:List Gv)(p:Po):Cm.QP (iF g p).1.1/\(iF g p).1.2.length<=600000:=by
 unfold iF;split
 .exact⟨⟨qe,qe⟩,qe⟩
 .exact Kx g _
def kZ(w:World)(cs os t y:Array Value)(z:Option (Array Value))(w':World):Prop:=w'.heap[w.heap.size]? =some (.cells cs 40 (0,0))/\w'.heap[w.heap.size+1]? =some (.cells os 71 (0,0))/\w'.heap[w.heap.size+1+1]? =some (.cells #[.int .i64 0,.slice none 0 0,.slice none 0 0,.slice none 0 0,.slice none 0 0,.string ⟨#[]⟩,.bool false,.int .i64 0,.slice none 0 0,.slice none 0 0,.slice none 0 0,.slice none 0 0,.int .i64 0] 40 (0,0))/\w'.heap[w.heap.size+1+1+1]? =some (.cells #[.int .i64 0,.complex .f64 0 0,.bool false,.int .i64 0,.int .i64 0,.string ⟨#[]⟩,.bool false,.int .i64 0] 78 (0,0))/\w'.heap[w.heap.size+1+1+1+1]? =some (.cells oY 92 (0,0))/\w'.heap[w.heap.size+1+1+1+1+1]? =some (.cells t 124 (0,0))/\w'.heap[w.heap.size+1+1+1+1+1+1]? =some (.cells y 78 (0,0))/\Below w.heap.size w w'/\∀zz,z=some zz->w'.heap[w.heap.size+1+1+1+1+1+1+1]? =some (.cells zz 40 (0,0))
section
variable {w w1 w2:World} {cs os t y:Array Value} {z:Option (Array Value)}
theorem kZ.stays(h:kZ w cs os t y z w1){q:nP}(c:aN q w1 w2)(a:∀b,b<=w.heap.size+7->q b):kZ w cs os t y z w2:=by
 obtain⟨h0,h1,h2,h3,h4,h5,h6,f,g⟩:=h;exact⟨aF h0 c (a _ qo),aF h1 c (a _ qo),aF h2 c (a _ qo),aF h3 c (a _ qo),aF h4 c (a _ qo),aF h5 c (a _ qo),aF h6 c (a _ qo),((aJ (ok:=fun b=>b<w.heap.size) f).trans (c.mono (fun b _ d=>a b qo))).below (fun k d=>⟨d,d⟩),fun zz e=>aF (g zz e) c (a _ qo)⟩
theorem kZ.noz(h:kZ w cs os t y z w1):kZ w cs os t y none w1:=⟨h.1,h.2.1,h.2.2.1,h.2.2.2.1,h.2.2.2.2.1,h.2.2.2.2.2.1,h.2.2.2.2.2.2.1,h.2.2.2.2.2.2.2.1,fun _ e=>(by cases e)⟩
theorem kZ.off(h:kZ w cs os t y none w1){q:nP}(c:aN q w1 w2)(a:∀b,b<=w.heap.size+6->q b):kZ w cs os t y none w2:=by
 obtain⟨h0,h1,h2,h3,h4,h5,h6,f,_⟩:=h;exact⟨aF h0 c (a _ qo),aF h1 c (a _ qo),aF h2 c (a _ qo),aF h3 c (a _ qo),aF h4 c (a _ qo),aF h5 c (a _ qo),aF h6 c (a _ qo),((aJ (ok:=fun b=>b<w.heap.size) f).trans (c.mono (fun b _ d=>a b qo))).below (fun k d=>⟨d,d⟩),fun _ e=>(by cases e)⟩
theorem kZ.on(h:kZ w cs os t y z w1)(a:Below w1.heap.size w1 w2):kZ w cs os t y z w2:=h.stays (aJ (ok:=fun _=>True) a) (fun _ _=>trivial)
theorem kZ.aEd(h:kZ w cs os t y z w1)(c:aN (fun b=>b≠w.heap.size+1+1+1+1+1) w1 w2){t2:Array Value}(g:w2.heap[w.heap.size+1+1+1+1+1]? =some (.cells t2 124 (0,0))):kZ w cs os t2 y z w2:=by
 obtain⟨h0,h1,h2,h3,h4,h5,h6,f,i⟩:=h;have a:∀{b},b≠w.heap.size+5->b≠w.heap.size+1+1+1+1+1:=fun h=>h
 exact⟨aF h0 c (a qo),aF h1 c (a qo),aF h2 c (a qo),aF h3 c (a qo),aF h4 c (a qo),g,aF h6 c (a qo),((aJ (ok:=fun b=>b<w.heap.size) f).trans (c.mono (fun b _ d=>a qo))).below (fun k d=>⟨d,d⟩),fun zz e=>aF (i zz e) c (a qo)⟩
theorem kZ.aDX(h:kZ w cs os t y z w1)(c:aN (fun b=>b≠w.heap.size+1+1+1+1+1+1) w1 w2){f:Array Value}(i:w2.heap[w.heap.size+1+1+1+1+1+1]? =some (.cells f 78 (0,0))):kZ w cs os t f z w2:=by
 obtain⟨h0,h1,h2,h3,h4,h5,h6,g,j⟩:=h;have a:∀{b},b≠w.heap.size+6->b≠w.heap.size+1+1+1+1+1+1:=fun h=>h
 exact⟨aF h0 c (a qo),aF h1 c (a qo),aF h2 c (a qo),aF h3 c (a qo),aF h4 c (a qo),aF h5 c (a qo),i,((aJ (ok:=fun b=>b<w.heap.size) g).trans (c.mono (fun b _ d=>a qo))).below (fun k d=>⟨d,d⟩),fun zz e=>aF (j zz e) c (a qo)⟩
end
def oL(s:Sto)(o:Op):Int×Int:=if dR s o=0/\o.aCR=7 then (fD o.text).2 else (dR s o,0)
theorem LS{s:Sto}{o:Op}(h:(oL s o).1≠0):cY s o=(s,{qM with err:=(oL s o).1,at_:=(oL s o).2},none,(oL s o).1):=iP h
theorem LU{s:Sto}{o:Op}(h:(oL s o).1=0)(h2:(iF (pU s o) s.aCS).2≠0):cY s o=(s,{qM with err:=(iF (pU s o) s.aCS).2,at_:=(oL s o).2},none,(iF (pU s o) s.aCS).2):=(iN (fun e=>e h)).trans (iP h2)
abbrev QB:Array Value:=#[.int .i64 0,.complex .f64 0 0,.bool false,.int .i64 0,.int .i64 0,.string ⟨#[]⟩,.bool false,.int .i64 0]
theorem JH{w:World}{vs d:Value}{G:Sto×Rpl×Option Deci×Int}{s:Sto}{cs c b:Array Value}{a:Act}{w':World}(e at_:Int)(ha:a={tmps:=#[vs,d,.pointer (some ⟨w.heap.size,0,none⟩),.pointer (some ⟨w.heap.size+1,0,none⟩),.pointer (some ⟨w.heap.size+1+1,0,none⟩),.pointer (some ⟨w.heap.size+1+1+1,0,none⟩),.pointer (some ⟨w.heap.size+1+1+1+1,0,none⟩),gT a 7,gT a 8,gT a 9,gT a 10,gT a 11,.int .i64 e,.int .i64 at_,gT a 14,gT a 15,gT a 16,gT a 17,gT a 18,gT a 19,gT a 20,gT a 21,gT a 22,gT a 23,gT a 24,gT a 25,gT a 26,gT a 27,gT a 28,gT a 29,gT a 30,gT a 31,gT a 32,gT a 33,gT a 34,gT a 35,gT a 36,gT a 37,gT a 38,gT a 39,gT a 40,gT a 41,gT a 42,gT a 43,gT a 44,gT a 45,gT a 46,gT a 47,gT a 48,gT a 49,gT a 50,gT a 51,gT a 52,gT a 53,gT a 54,gT a 55,gT a 56,gT a 57,gT a 58,gT a 59,gT a 60,gT a 61,gT a 62,gT a 63,gT a 64,gT a 65,gT a 66,gT a 67,gT a 68,gT a 69,gT a 70,gT a 71,gT a 72,gT a 73,gT a 74,gT a 75,gT a 76,gT a 77,gT a 78,gT a 79,gT a 80,gT a 81,gT a 82,gT a 83,gT a 84,gT a 85,gT a 86,gT a 87,gT a 88,gT a 89,gT a 90,gT a 91,gT a 92,gT a 93,gT a 94,gT a 95,gT a 96,gT a 97,gT a 98,gT a 99,gT a 100,gT a 101,gT a 102,gT a 103,gT a 104,gT a 105,gT a 106,gT a 107,gT a 108,gT a 109,gT a 110,gT a 111,gT a 112,gT a 113,gT a 114,gT a 115,gT a 116,gT a 117,gT a 118,gT a 119,gT a 120,gT a 121,gT a 122,gT a 123,gT a 124,gT a 125,gT a 126,gT a 127,gT a 128,gT a 129,gT a 130],defers:=[]})
 (h:Hid (G=(s,{qM with err:=e,at_:=at_},none,e))/\Hid (w'.heap[w.heap.size]? =some (.cells cs 40 (0,0)))/\Hid (w'.heap[w.heap.size+1+1]? =some (.cells c 40 (0,0)))/\Hid (w'.heap[w.heap.size+1+1+1]? =some (.cells QB 78 (0,0)))/\Hid (w'.heap[w.heap.size+1+1+1+1]? =some (.cells b 92 (0,0)))/\Hid (Below w.heap.size w w')):VX w vs d G s cs c b a w':=
 ⟨e,at_,fun n=>a.tmps.getD n undef,ha,h⟩
def nX(s:Sto)(o:Op)(m:Mk)(l:List Ob)(b a:Bool):Rpl:=
 let hidden:=a&&(decide (o.aCR=2)&&l.any (fun x=>decide (x.aCR=2)&&decide (x.arg=o.aDc)))
 let val:=if a&&(decide (o.aCR=2)&& !hidden) then ((eF s o.aCX).map (fun c=>gI c o.aDc)).getD bD else bD
 ⟨if a then 0 else 12,m,b,val,hidden,0⟩
theorem LV{s:Sto}{o:Op}{R:(Mk×List Ob)×Int}(hp:(oL s o).1=0)(f:R=iF (pU s o) s.aCS)(h2:R.2=0){a:Bool}(j:a=kU s o R.1.1){d b:Bool}(g:decide (R.1.1=(4,0))=d)(i:b=(d||a)){c:Sto}(k:c=if a=true then gB s o o.aDf else s){s2:Sto}(n:s2=R.1.2.foldl (cZ o b) (if b=true then dI c o else c)):
 cY s o=if qL s2=true then (s,{qM with err:=6,at_:=(oL s o).2},none,6) else (s2,nX s o R.1.1 R.1.2 a b,some ⟨o,s.aC2,R.1.1,a,R.1.2⟩,0):=by
 rw[SX];refine(iN (fun e=>e hp)).trans ?_;unfold Rw;rw[<-f];obtain⟨⟨m,l⟩,e⟩:=R;dsimp only at *;rw[iN (fun e=>e h2),<-j,g,<-i,<-k,<-n];rfl
theorem Yv(s:Sto)(o:Op)(m:Mk)(l:List Ob)(a:Bool):eV (nX s o m l a false)=#[.int .i64 12,.complex .f64 (Cm.qb m.1) (Cm.qb m.2),.bool a,.int .i64 0,.int .i64 0,.string ⟨#[]⟩,.bool false,.int .i64 0]:=rfl
theorem Ky(s:Sto)(o:Op)(m:Mk)(l:List Ob)(a:Bool)(h:o.aCR≠2):eV (nX s o m l a true)=#[.int .i64 0,.complex .f64 (Cm.qb m.1) (Cm.qb m.2),.bool a,.int .i64 0,.int .i64 0,.string ⟨#[]⟩,.bool false,.int .i64 0]:=by
 unfold nX eV;simp only[dF h,Bool.false_and,Bool.and_false,Bool.false_eq_true,if_false,if_true];rfl
theorem Vv(s:Sto)(o:Op)(m:Mk)(l:List Ob)(a:Bool)(h:o.aCR=2)(b:l.any (fun x=>decide (x.aCR=2)&&decide (x.arg=o.aDc))=true):eV (nX s o m l a true)=#[.int .i64 0,.complex .f64 (Cm.qb m.1) (Cm.qb m.2),.bool a,.int .i64 0,.int .i64 0,.string ⟨#[]⟩,.bool true,.int .i64 0]:=by
 unfold nX eV;simp only[dX h,b,Bool.true_and,Bool.not_true,Bool.false_eq_true,if_false,if_true];rfl
theorem Vw(s:Sto)(o:Op)(m:Mk)(l:List Ob)(a:Bool)(h:o.aCR=2)(b:l.any (fun x=>decide (x.aCR=2)&&decide (x.arg=o.aDc))=false){v:V3}(d:v=((eF s o.aCX).map (fun c=>gI c o.aDc)).getD bD):eV (nX s o m l a true)=#[.int .i64 0,.complex .f64 (Cm.qb m.1) (Cm.qb m.2),.bool a,.int .i64 v.1,.int .i64 v.2.1,.string v.2.2,.bool false,.int .i64 0]:=by
 unfold nX eV;simp only[dX h,b,Bool.true_and,Bool.not_false,if_true,d]
def lY(ok:nP)(w:World)(cs os t y:Array Value)(vd:Value)(l:List Ob)(s1:Sto)(w':World):Prop:=
 ∃(K:nP) (base:Nat),(∀b,K b->(ok b/\b<w.heap.size)\/w.heap.size+8<=b)/\w.heap.size+8<=base/\iB K base (w.heap.size+1+1+1+1+1+1+1) w' w' s1/\kZ w cs os t y none w'/\aH jU w' (fun b=>w.heap.size+8<=b/\b<base) vd l
section
variable {ok:nP} {w wa w':World} {cs os t y:Array Value} {vd:Value} {l:List Ob} {s1:Sto}
theorem lY.aDr(h:lY ok w cs os t y vd l s1 wa):kZ w cs os t y none wa:=by obtain⟨_,_,_,_,_,h,_⟩:=h;exact h
theorem lY.obs(h:lY ok w cs os t y vd l s1 wa):aH jU wa (fun b=>w.heap.size+8<=b) vd l:=by obtain⟨_,_,_,_,_,_,h⟩:=h;exact h.more aP fun b a=>a.1
theorem lY.on(h:lY ok w cs os t y vd l s1 wa)(a:Below wa.heap.size wa w'):lY ok w cs os t y vd l s1 w':=by
 obtain⟨K,base,h1,h2,⟨L,ro,vc,vr,vn,vo,vt,vu,vk,vb,h3,h4,_⟩,h5,h6⟩:=h;exact⟨K,base,h1,h2,⟨L,ro,vc,vr,vn,vo,vt,vu,vk,vb,aE h3 a,h4.on a,aN.refl _ _⟩,h5.on a,aH.on aP h6 a⟩
theorem lY.at(h:lY ok w cs os t y vd l s1 wa)(d:aN (fun b=>b≠w.heap.size+1+1+1+1+1+1) wa w'){e:Array Value}(f:w'.heap[w.heap.size+1+1+1+1+1+1]? =some (.cells e 78 (0,0))):lY ok w cs os t e vd l s1 w':=by
 obtain⟨K,base,h1,h2,⟨L,ro,vc,vr,vn,vo,vt,vu,vk,vb,h3,h4,_⟩,h5,h6⟩:=h;have c:∀{b},b≠w.heap.size+6->b≠w.heap.size+1+1+1+1+1+1:=fun h=>h
 exact⟨K,base,h1,h2,⟨L,ro,vc,vr,vn,vo,vt,vu,vk,vb,aF h3 d (c qo),h4.stays d (fun b a=>c (by rcases h1 b a with h|h<;>omega)) (fun b a _=>c qo),aN.refl _ _⟩,h5.aDX d f,aH.aC0 aP h6 (d.mono fun b _ a=>c (qA a.1))⟩
theorem bC.one{K:nP}{base:Nat}{s:Sto}{L:List Mix}{ro:Option Value}{vc vr vn vo vt vu vk vb:Value}(h:bC K base w s L ro vc vr vn vo vt vu vk vb):(aV s vc vr vn vo vt vu vk vb).all (·.oneCell')=true:=by
 obtain⟨_,_,rfl⟩:=h.aCQ.slice;obtain⟨_,_,rfl⟩:=h.aCU.slice;obtain⟨_,_,rfl⟩:=h.aCY.slice;obtain⟨_,_,rfl,_⟩:=(h.aC4.sl dC).slice;obtain⟨_,_,rfl,-⟩:=h.aCS.2.2.1.slice;obtain⟨_,_,rfl,-⟩:=h.aCS.2.2.2.1.slice;obtain⟨_,_,rfl,-⟩:=h.aCS.2.2.2.2.1.slice;obtain⟨_,_,rfl,-⟩:=h.aCS.2.2.2.2.2.slice;simp[aV,Value.oneCell']
end
theorem aAk{o:Option cF}{w:World}{e:Ending}{w':World}(h:AB o w e w')(g:∀c,o=some c->Ow c):∃c a d b,e=.returned (.tuple #[.agg #[.string c.id,.string c.aDj,.string c.aDa,a,d],.bool b])/\oT w' (fun _=>True) c a d/\(∀N,(o.map (fun c=>gI c N)).getD bD=gI c N)/\Below w.heap.size w w':=by
 rcases h with ⟨rfl,rfl,f⟩|⟨c,a,d,rfl,rfl,h⟩
 .exact⟨⟨⟨#[]⟩,⟨#[]⟩,⟨#[]⟩,[],[]⟩,_,_,_,rfl,⟨qe,qe,qe,aH.nil,aH.nil⟩,fun _=>rfl,f⟩
 .exact⟨c,a,d,_,rfl,(JA h (g c rfl)).more (fun _ _=>trivial),fun _=>rfl,h.2.2⟩
theorem Aq{n:Nat}{s:Sto}(h:kE n s)(i:Nat)(f:cF->cF)(e:∀c,(f c).log.length<=c.log.length+1):kE (n+1) (fE s i f):=
 ⟨by rw[AM];exact Nat.le_succ_of_le h.aCQ,Nat.le_succ_of_le h.aCU,Nat.le_succ_of_le h.aCY,fun c a=>by
   rcases KS a with h1|⟨d,b,rfl⟩
   .exact Nat.le_succ_of_le (h.aDi c h1)
   .have:=h.aDi d (List.mem_of_getElem? b);have:=e d;omega⟩
theorem Kz{n:Nat}{s:Sto}(h:kE n s)(o:Op):kE (n+1) (dI s o):=by
 have h0:=h.more (Nat.le_succ n);unfold dI;dsimp only;split
 .exact h0
 split
 .refine⟨?_,h0.aCU,h0.aCY,fun c a=> ?_⟩
  .simp only[aL,List.length_take,List.length_drop,List.length_cons,List.length_nil];have:=h.aCQ;omega
  .dsimp only at a;rw[List.append_assoc,List.mem_append,List.mem_append] at a
   rcases a with h1|h1|h1
   .exact h0.aDi c (List.mem_of_mem_take h1)
   .rw[List.mem_singleton] at h1;rw[h1];show 1<=n+1;omega
   .exact h0.aDi c (List.mem_of_mem_drop h1)
 split
 .exact Aq h _ _ (fun c=>by rw[xJ];unfold oC;simp)
 split
 .exact Aq h _ _ (fun c=>by unfold oC;simp)
 split
 .refine⟨h0.aCQ,?_,h0.aCY,h0.aDi⟩;dsimp only;split
  .rw[List.length_set];exact h0.aCU
  .exact h0.aCU
 split
 .split
  .exact h0
  .exact⟨h0.aCQ,h0.aCU,h0.aCY,h0.aDi⟩
 split
 .split
  .exact⟨h0.aCQ,h0.aCU,h0.aCY,h0.aDi⟩
  .exact h0
 split
 .exact⟨h0.aCQ,h0.aCU,h0.aCY,h0.aDi⟩
 .exact h0
def VY(w:World)(cs os t y x:Array Value)(w':World):Prop:=w'.heap[w.heap.size]? =some (.cells cs 40 (0,0))/\w'.heap[w.heap.size+1]? =some (.cells os 71 (0,0))/\w'.heap[w.heap.size+1+1+1+1+1]? =some (.cells t 124 (0,0))/\w'.heap[w.heap.size+1+1+1+1+1+1]? =some (.cells y 78 (0,0))/\w'.heap[w.heap.size+1+1+1+1+1+1+1]? =some (.cells x 40 (0,0))
theorem mY{w1 w2:World}{n b i j:Nat}{O:Obj}(h:w1.heap[b]? =some O){g:Nat}(a:aN (fun b=>b≠g) w1 w2)(c:b=n+i)(d:g=n+j)(e:i≠j):w2.heap[b]? =some O:=aF h a (show b≠g by omega)
theorem VY.off{w w1 w2:World}{cs os t y x:Array Value}(h:VY w cs os t y x w1){g j:Nat}(c:aN (fun b=>b≠g) w1 w2)(a:g=w.heap.size+j)(hj:2<=j/\j<=4):VY w cs os t y x w2:=
 ⟨mY h.1 c (i:=0) rfl a qo,mY h.2.1 c (i:=1) rfl a qo,mY h.2.2.1 c (i:=5) rfl a qo,mY h.2.2.2.1 c (i:=6) rfl a qo,mY h.2.2.2.2 c (i:=7) rfl a qo⟩
theorem Lb{w w1 w2:World}(h:Below w.heap.size w w1)(c:aN (fun b=>b≠w.heap.size+2/\b≠w.heap.size+3/\b≠w.heap.size+4) w1 w2):Below w.heap.size w w2:=
 ((aJ (ok:=fun b=>b<w.heap.size) h).trans (c.mono fun b _ d=>⟨qo,qo,qo⟩)).below (B:=w.heap.size) (fun k a=>⟨a,a⟩)
theorem aAl{n b:Nat}{p:Prop}(h:(p/\b<n)\/n+8<=b):b≠n+2/\b≠n+3/\b≠n+4:=by rcases h with ⟨-,h⟩|h<;>exact⟨qo,qo,qo⟩
theorem Qm{n b base:Nat}(h:n+8<=base)(a:base<=b):b≠n+2/\b≠n+3/\b≠n+4:=⟨qo,qo,qo⟩
theorem Yw{n b:Nat}(h:n+8<=b):b≠n+2/\b≠n+3/\b≠n+4:=⟨qo,qo,qo⟩
theorem Yx{n b:Nat}(h:n+8<=b):n<=b:=qo
theorem Yy{n b base:Nat}{p:Prop}(h:n+8<=base)(a:((p/\b<n)\/n+8<=b)\/base<=b):(p/\b<n)\/n<=b:=by
 rcases a with (h1|h1)|h1
 .exact .inl h1
 .exact .inr qo
 .exact .inr qo
theorem FD{s:Sto}(h:vB s):kE 256 s:=⟨lT h.1.few qe,(wI.1 h.2).1,(wI.1 h.2).2.1,(wI.1 h.2).2.2⟩
theorem YQ{ok:nP}(s:Sto)(vc vr vn vo vt vu vk vb:Value)(o:Op)(ho:kF o)(w:World)(h:eZ w ok s vc vr vn vo vt vu vk vb)(bt:gV w)(ij:vB s)(ie:s.aC4.length<=900000)(iq:0<=s.aC2/\s.aC2<=999999):
 Calls prog 24 #[.agg (aV s vc vr vn vo vt vu vk vb),fF o] w (FC ok (cY s o) w):=by
 obtain⟨ca,cc,ra,rc,na,nc,oa,oc,ta,tc,ua,uc,ka,kc,ba,bc,rfl,-,rfl,-,rfl,-,rfl,-,rfl,-,rfl,-,rfl,-,rfl,-⟩:=h.sl;obtain⟨HS,fy,be,bx,e5,gg⟩:=hD6 h bt ij ho iq ie;obtain⟨G,hG⟩:=xE (cY s o);rw[<-hG];have dh:=aA hG;obtain⟨W0,ay⟩:=xE ((((((((w.alloc (.cells (fT s ca cc ra rc na nc oa oc ta tc ua uc ka kc ba bc) 40)).alloc (.cells (rE o) 71)).alloc (.cells xH 40)).alloc (.cells QB 78)).alloc (.cells oY 92)).alloc (.cells #[.complex .f64 0 0,.slice none 0 0] 124)).alloc (.cells QB 78)).alloc (.cells xH 40));have cg:Hid (Below w.heap.size w W0):=aA (by rw[ay];exact aC (aC (aC (aC (aC (aC (aC (aB _ _) (aB _ _)) (aB _ _)) (aB _ _)) (aB _ _)) (aB _ _)) (aB _ _)) (aB _ _));have A:Hid (W0.heap[w.heap.size]? =some (.cells (fT s ca cc ra rc na nc oa oc ta tc ua uc ka kc ba bc) 40 (0,0))):=aA (by rw[ay];exact aE (aE (aE (aE (aE (aE (aE (aK _ _ _ qs) (aB _ _)) (aB _ _)) (aB _ _)) (aB _ _)) (aB _ _)) (aB _ _)) (aB _ _));have B:Hid (W0.heap[w.heap.size+1]? =some (.cells (rE o) 71 (0,0))):=aA (by rw[ay];exact aE (aE (aE (aE (aE (aE (aK _ _ _ qs) (aB _ _)) (aB _ _)) (aB _ _)) (aB _ _)) (aB _ _)) (aB _ _));have R1:Hid (W0.heap[w.heap.size+1+1]? =some (.cells xH 40 (0,0))):=aA (by rw[ay];exact aE (aE (aE (aE (aE (aK _ _ _ qs) (aB _ _)) (aB _ _)) (aB _ _)) (aB _ _)) (aB _ _));have R2:Hid (W0.heap[w.heap.size+1+1+1]? =some (.cells QB 78 (0,0))):=aA (by rw[ay];exact aE (aE (aE (aE (aK _ _ _ qs) (aB _ _)) (aB _ _)) (aB _ _)) (aB _ _));have R3:Hid (W0.heap[w.heap.size+1+1+1+1]? =some (.cells oY 92 (0,0))):=aA (by rw[ay];exact aE (aE (aE (aK _ _ _ qs) (aB _ _)) (aB _ _)) (aB _ _))
 have T:Hid (W0.heap[w.heap.size+1+1+1+1+1]? =some (.cells #[.complex .f64 0 0,.slice none 0 0] 124 (0,0))):=aA (by rw[ay];exact aE (aE (aK _ _ _ qs) (aB _ _)) (aB _ _));have Y:Hid (W0.heap[w.heap.size+1+1+1+1+1+1]? =some (.cells QB 78 (0,0))):=aA (by rw[ay];exact aE (aK _ _ _ qs) (aB _ _));have Z:Hid (W0.heap[w.heap.size+1+1+1+1+1+1+1]? =some (.cells xH 40 (0,0))):=aA (by rw[ay];exact aK _ _ _ qs);have fw:Hid (kZ w (fT s ca cc ra rc na nc oa oc ta tc ua uc ka kc ba bc) (rE o) #[.complex .f64 0 0,.slice none 0 0] QB (some xH) W0):=aA ⟨A.o,B.o,R1.o,R2.o,R3.o,T.o,Y.o,cg.o,fun zz e=>by obtain rfl:=Option.some.inj e;exact Z.o⟩;have dm:=aA (h.on cg.o);have fz:=aA (bt.on cg.o);unfold oY at ay;have ha:=aA ay;clear ay;unfold fF cB aV;clear h bt ij ho iq ie hG;go_enter func24,ntmps24;go_wp2;obtain⟨JJ,e7⟩:∃JJ:Act->World->Prop,JJ=fun a' w'=>VX w (.agg #[.int .i64 s.aCZ,.slice ca s.aCQ.length cc,.slice ra s.aCU.length rc,.slice na s.aCY.length nc,.slice oa s.aC4.length oc,.string s.aCS.id,.bool s.aCS.set,.int .i64 s.aCS.alg,.slice ta s.aCS.aC1.length tc,.slice ua s.aCS.aCT.length uc,.slice ka s.aCS.aC5.length kc,.slice ba s.aCS.aC7.length bc,.int .i64 s.aC2]) (.agg #[.int .i64 o.aCR,.string o.aC6,.string o.aCX,.string o.aDc,.string o.to_,.int .i64 o.val.1,.int .i64 o.val.2.1,.string o.val.2.2,.int .i64 o.aDd,.string o.text,.string o.aDf,.bool o.aDk]) G s (fT s ca cc ra rc na nc oa oc ta tc ua uc ka kc ba bc) xH oY a' w':=⟨_,rfl⟩
 refine uN 0 JJ (fun _ _=>0) rfl ?_ ?_
 .as_aux_lemma=>
  subst e7;rintro a' wr ⟨e,at_,u,rfl,jb,A,R1,R2,R3,HB⟩;have kg:¬(w.heap.size+1+1+1=w.heap.size+1+1):=qo;obtain⟨⟨a0,a1,a2,a3,a4,a5,a6,a7,a8,a9,cv,cw,a12⟩,-⟩:=bT A.o;have za:=aD A.o;go_wp2_with (first
   |(refine eI rfl _ (.tmp 4) (.tmp 125) rfl (w.heap.size+1+1) _ rfl rfl _ _ R1.o RW rfl (by simp[Value.oneCell']) ?_;intro w1 cp e2;replace R2:=qS R2 e2.o (by show (_:Nat)≠_;omega);replace R3:=qS R3 e2.o (by show (_:Nat)≠_;omega);clear a0 a1 a2 a3 a4 a5 a6 a7 a8 a9 cv cw a12 za)
   |(refine eI rfl _ (.tmp 5) (.tmp 128) rfl (w.heap.size+1+1+1) _ rfl rfl _ _ R2.o Tc rfl (by simp[Value.oneCell']) ?_;intro w2 cq e3;replace cp:=qS cp e3.o (by show (_:Nat)≠_;omega);replace R3:=aA (aF R3.o e3.o (by show (_:Nat)≠_;omega)))
   |(refine eI rfl _ (.tmp 6) (.tmp 129) rfl (w.heap.size+1+1+1+1) _ rfl rfl _ _ R3.o Td rfl (by simp[Value.oneCell']) ?_;intro w3 ji bg;replace cp:=qS cp bg.o (by show (_:Nat)≠_;omega);replace cq:=aA (aF cq.o bg.o (by show (_:Nat)≠_;omega))))
  have df:=aA (((aJ (ok:=fun b=>b<w.heap.size) HB.o).trans ((e2.o.mono (fun k _ hk=>by show (_:Nat)≠_;omega)).trans ((e3.o.mono (fun k _ hk=>by show (_:Nat)≠_;omega)).trans (bg.o.mono (fun k _ hk=>by show (_:Nat)≠_;omega))))).below (B:=w.heap.size) (fun k hk=>⟨hk,hk⟩));obtain⟨⟨a0,a1,a2,a3,a4,a5,a6,a7,a8,a9,cv,cw,a12⟩,-⟩:=bT cp.o;obtain⟨⟨b0,b1,b2,b3,b4,b5,b6,b7⟩,-⟩:=nN cq.o;obtain⟨⟨c0,c1,c2,c3,c4,c5,c6,c7,c8,c9,jt,ju,c12,jv,jw,jx⟩,-⟩:=kN ji.o;unfold Exit.jump;refine bR (.tuple #[.agg #[.int .i64 s.aCZ,.slice ca s.aCQ.length cc,.slice ra s.aCU.length rc,.slice na s.aCY.length nc,.slice oa s.aC4.length oc,.string s.aCS.id,.bool s.aCS.set,.int .i64 s.aCS.alg,.slice ta s.aCS.aC1.length tc,.slice ua s.aCS.aCT.length uc,.slice ka s.aCS.aC5.length kc,.slice ba s.aCS.aC7.length bc,.int .i64 s.aC2],.agg #[.int .i64 e,.complex .f64 0 0,.bool false,.int .i64 0,.int .i64 0,.string ⟨#[]⟩,.bool false,.int .i64 at_],.agg oY,.int .i64 e]) ?_;have eu:=jb.o;subst eu;exact⟨.slice ca s.aCQ.length cc,.slice ra s.aCU.length rc,.slice na s.aCY.length nc,.slice oa s.aC4.length oc,.slice ta s.aCS.aC1.length tc,.slice ua s.aCS.aCT.length uc,.slice ka s.aCS.aC5.length kc,.slice ba s.aCS.aC7.length bc,.agg oY,rfl,(HS.o.inb.aC0 ((aJ df.o).mono (fun k _ hk=>hk.2))).more (fun b d=> .inl d),rfl,df.o⟩
 .intro _;have bl:=aA (aD Z.o);have ev:=aA e7;clear e7;obtain⟨⟨a0,a1,a2,a3,a4,a5,a6,a7,a8,a9,cv,cw,a12⟩,-⟩:=bT A.o;obtain⟨⟨b0,b1,b2,b3,b4,b5,b6,b7,b8,b9,jr,js⟩,-⟩:=bO B.o;have zA:=aD A.o;have zB:=aD B.o;go_upto_region 5 with (fail)
  rw[<-ha.o];go_wp2_with fail;refine(KT s _ _ _ _ _ _ _ _ o bx.o W0 dm.o).mono ?_;rintro e w1 ⟨rfl,bh⟩;have AA:=A;have BB:=B;clear a0 a1 a2 a3 a4 a5 a6 a7 a8 a9 cv cw a12 b0 b1 b2 b3 b4 b5 b6 b7 b8 b9 jr js zA zB;replace AA:=qK AA bh;obtain⟨⟨J,L,Q,S,U,V,W,X,aa,ab,M,O,P⟩,_⟩:=bT AA.o;have ad:=aD AA.o;replace BB:=qK BB bh;obtain⟨⟨f,l,q,r,t,y,z,D,E,F,m,p⟩,_⟩:=bO BB.o;have H:=aD BB.o;replace bh:=aA bh;go_upto_region 6 with (fail)
  go_cut [25] from 19 to 25 (fun v w'=>w'=w1/\∃b:Bool,v=.bool b/\Hid (b=decide (dR s o=0/\o.aCR=7)))
  case first=>as_aux_lemma=>
   by_cases hE:dR s o=0
   .by_cases hK:o.aCR=7
    .go_wp2
     all_goals go_meet
     all_goals exact⟨rfl,_,rfl,aA (by simp[hE,hK])⟩
    .go_wp2
     all_goals go_meet
     all_goals exact⟨rfl,_,rfl,aA (by simp[hE,hK])⟩
   .go_wp2
    all_goals go_meet
    all_goals exact⟨rfl,_,rfl,aA (by simp[hE])⟩
  case rest=>
  obtain⟨hw,b,hv,HB⟩:=hcut;have hw:=hw.symm;subst hw hv;go_upto_if 25 with (fail)
  go_cut [12,13] from 26 to 32 (fun v12 j1 w'=>v12=.int .i64 (oL s o).1/\j1=.int .i64 (oL s o).2/\Hid (Below W0.heap.size W0 w'))
  case first=>as_aux_lemma=>
   cases b
   .go_wp2
    all_goals go_meet
    have hc:=HB.o;exact⟨by unfold oL;rw[iN (fun e=>by rw[dX e] at hc;exact Bool.noConfusion hc)],by unfold oL;rw[iN (fun e=>by rw[dX e] at hc;exact Bool.noConfusion hc)],bh⟩
   .go_wp2_with (go_at_call 47;refine(sB o.text _ (fz.o.on bh.o)).mono ?_;rintro e wp ⟨vp,rfl,jz,ep⟩;replace ep:=aA ep;clear jz)
    all_goals go_meet
    have hc:=HB.o;exact⟨by unfold oL;rw[iP (of_decide_eq_true hc.symm)],by unfold oL;rw[iP (of_decide_eq_true hc.symm)],aA (aC bh.o ep.o)⟩
  case rest=>
  clear J L Q S U V W X aa ab M O P ad;clear f l q r t y z D E F m p H;obtain⟨rfl,rfl,bm⟩:=hcut;clear HB bh;have gq:=qB cg bm.o;go_upto_if 34 with (fail)
  by_cases ik:(oL s o).1=0
  .skip
   have gp:=aA ik;go_upto_region 9 with (fail)
   have HK:=aA bm.o.drew;have a:Hid (wc.drew.heap[w.heap.size]? =some (.cells (fT s ca cc ra rc na nc oa oc ta tc ua uc ka kc ba bc) 40 (0,0))/\wc.drew.heap[w.heap.size+1]? =some (.cells (rE o) 71 (0,0))):=aA ⟨aE A.o HK.o,aE B.o HK.o⟩;refine cA 10 [(0,false),(1,false),(2,false),(3,false),(4,true),(5,true),(6,false),(7,false),(8,false),(9,true)] [(10,true)] (fun w'=>w'.heap[w.heap.size]? =some (.cells (fT s ca cc ra rc na nc oa oc ta tc ua uc ka kc ba bc) 40 (0,0))/\w'.heap[w.heap.size+1]? =some (.cells (rE o) 71 (0,0))) (by decide +kernel) (by decide +kernel) a.o ?_;simp only[List.cons_append,List.nil_append];obtain⟨⟨J,L,Q,S,U,V,W,X,aa,ab,M,O,P⟩,-⟩:=bT (a.o).1;obtain⟨⟨f,l,q,r,t,y,z,D,E,F,m,p⟩,-⟩:=bO (a.o).2;have ad:=aD (a.o).1;have H:=aD (a.o).2
   repeat (refine cU rfl (fun K hK=> ?_);unfold rd;go_simp;refine hK _ (fun eo h1=> ?_) ?_;(· clear hK K J L Q S U V W X aa ab M O P ad f l q r t y z D E F m p H;obtain⟨⟨J,L,Q,S,U,V,W,X,aa,ab,M,O,P⟩,-⟩:=bT (h1).1;obtain⟨⟨f,l,q,r,t,y,z,D,E,F,m,p⟩,-⟩:=bO (h1).2;have ad:=aD (h1).1;have H:=aD (h1).2;unfold rd;go_simp);clear hK K)
   refine bG rfl (fun K1 I=> ?_);unfold mv;go_simp;refine(Qc s _ _ _ _ _ _ _ _ o bx.o (fun c hc=>qA ((be.o.1.each c hc).aCW)) wc.drew (dm.o.on HK.o)).mono ?_;rintro e wa ⟨va,rfl,im,dw⟩;replace HK:=qB HK dw;replace a:=aA (And.intro (aE a.o.1 dw) (aE a.o.2 dw));have gz:=aA im;refine I _ _ (fun _=>a.o) ?_;clear I K1 im dw J L Q S U V W X aa ab M O P ad f l q r t y z D E F m p H;obtain⟨⟨J,L,Q,S,U,V,W,X,aa,ab,M,O,P⟩,-⟩:=bT a.o.1;obtain⟨⟨f,l,q,r,t,y,z,D,E,F,m,p⟩,-⟩:=bO a.o.2;have ad:=aD a.o.1;have H:=aD a.o.2;refine bG rfl (fun K1 I=> ?_);unfold mv;go_simp;refine(RI (lv:=3) (lR _) s.aCS _ _ _ _ va (pU s o) wa (dm.o.on HK.o).aCS gz.o).mono ?_;rintro e wi ⟨vd,rfl,eb,dx⟩;have iu:W0.heap.size<=wa.heap.size:=HK.o.size;obtain⟨R,hR⟩:=xE (iF (pU s o) s.aCS);rw[<-hR] at eb ⊢;have HR:=aA hR;clear hR;replace HK:=qB HK dx;replace a:=aA (And.intro (aE a.o.1 dx) (aE a.o.2 dx));obtain⟨da,dc,rfl,_⟩:=eb.slice;have af:=aA (aH.more aP eb (ok':=fun b=>W0.heap.size<=b) (fun b d=>lT iu d));clear iu;refine I _ _ (fun _=>a.o) ?_;clear I K1 eb dx gz J L Q S U V W X aa ab M O P ad f l q r t y z D E F m p H;obtain⟨⟨J,L,Q,S,U,V,W,X,aa,ab,M,O,P⟩,-⟩:=bT a.o.1;obtain⟨⟨f,l,q,r,t,y,z,D,E,F,m,p⟩,-⟩:=bO a.o.2;have ad:=aD a.o.1;have H:=aD a.o.2
   repeat (refine cU rfl (fun K hK=> ?_);unfold rd;go_simp;refine hK _ (fun eo h1=> ?_) ?_;(· clear hK K J L Q S U V W X aa ab M O P ad f l q r t y z D E F m p H;obtain⟨⟨J,L,Q,S,U,V,W,X,aa,ab,M,O,P⟩,-⟩:=bT h1.1;obtain⟨⟨f,l,q,r,t,y,z,D,E,F,m,p⟩,-⟩:=bO h1.2;have ad:=aD h1.1;have H:=aD h1.2;unfold rd;go_simp);clear hK K)
   have HD:=aA (fw.o.on HK.o);refine bG rfl (fun K1 I=> ?_);unfold mv;refine kX rfl _ (.tmp 8) (.tmp 42) rfl (w.heap.size+1+1+1+1+1) _ rfl rfl _ _ (aE T.o HK.o) aAj rfl (by simp[Value.oneCell']) ?_;intro w3 HT bg;have hq:∀{b},b≠w.heap.size+5->b≠w.heap.size+1+1+1+1+1:=fun h=>h
   replace a:=aA (And.intro (aF a.o.1 bg.o (hq qo)) (aF a.o.2 bg.o (hq qo)));refine I _ _ (fun _=>a.o) ?_;replace af:=aA (aH.aC0 aP af.o (bg.o.mono (fun b _ d=>hq (by have:W0.heap.size<=b:=d;have:=bl.o;omega))));clear I K1 hq J L Q S U V W X aa ab M O P ad f l q r t y z D E F m p H;replace HD:=aA (HD.o.aEd bg.o HT.o);refine bG rfl (fun K1 I=> ?_);unfold mv;go_simp;refine I _ _ (fun h=>absurd h qe) ?_;clear I K1;unfold cG;clear a;go_upto_if 45 with (fail)
   by_cases fo:R.2=0
   .skip
    have cq:=aA fo;go_upto_region 11 with (fail)
    have ax:=aA (HD.o.on (Below.refl _ _).drew);replace af:=aA (aH.on aP af.o (Below.refl _ _).drew);have a:Hid (w3.drew.heap[w.heap.size]? =some (.cells (fT s ca cc ra rc na nc oa oc ta tc ua uc ka kc ba bc) 40 (0,0))/\w3.drew.heap[w.heap.size+1]? =some (.cells (rE o) 71 (0,0))/\w3.drew.heap[w.heap.size+1+1+1+1+1]? =some (.cells #[.complex .f64 (Cm.qb R.1.1.1) (Cm.qb R.1.1.2),.slice da R.1.2.length dc] 124 (0,0))):=aA ⟨ax.o.1,ax.o.2.1,ax.o.2.2.2.2.2.1⟩;refine cA 10 [(0,false),(1,false),(2,false),(3,false),(4,false),(5,false),(7,false),(6,true),(8,true),(9,false)] [(10,true)] (fun w'=>w'.heap[w.heap.size]? =some (.cells (fT s ca cc ra rc na nc oa oc ta tc ua uc ka kc ba bc) 40 (0,0))/\w'.heap[w.heap.size+1]? =some (.cells (rE o) 71 (0,0))/\w'.heap[w.heap.size+1+1+1+1+1]? =some (.cells #[.complex .f64 (Cm.qb R.1.1.1) (Cm.qb R.1.1.2),.slice da R.1.2.length dc] 124 (0,0))) (by decide +kernel) (by decide +kernel) a.o ?_;simp only[List.cons_append,List.nil_append];obtain⟨⟨J,L,Q,S,U,V,W,X,aa,ab,M,O,P⟩,-⟩:=bT (a.o).1;obtain⟨⟨f,l,q,r,t,y,z,D,E,F,m,p⟩,-⟩:=bO (a.o).2.1;obtain⟨⟨ag,ah⟩,-⟩:=fK (a.o).2.2;have ad:=aD (a.o).1;have H:=aD (a.o).2.1;have ai:=aD (a.o).2.2
    repeat (refine cU rfl (fun K hK=> ?_);unfold rd;go_simp;refine hK _ (fun eo h1=> ?_) ?_;(· clear hK K J L Q S U V W X aa ab M O P ad f l q r t y z D E F m p H ag ah ai;obtain⟨⟨J,L,Q,S,U,V,W,X,aa,ab,M,O,P⟩,-⟩:=bT (h1).1;obtain⟨⟨f,l,q,r,t,y,z,D,E,F,m,p⟩,-⟩:=bO (h1).2.1;obtain⟨⟨ag,ah⟩,-⟩:=fK (h1).2.2;have ad:=aD (h1).1;have H:=aD (h1).2.1;have ai:=aD (h1).2.2;unfold rd;go_simp);clear hK K)
    refine bG rfl (fun K1 I=> ?_);unfold mv;go_simp;refine(YP s _ _ _ _ _ _ _ _ o R.1.1 (HR.o▸(vG _ _).1) w3.drew (HS.o.on ax.o.2.2.2.2.2.2.2.1) (fun x hx=>⟨(be.o.1.aDw x hx).1,(be.o.1.aDw x hx).2,be.o.1.aCZ.2⟩)).mono ?_;rintro e wb ⟨rfl,fh⟩;obtain⟨gl,bt⟩:=xE (kU s o R.1.1);rw[<-bt];have jd:=aA bt;clear bt;replace ax:=aA (ax.o.on fh);replace af:=aA (aH.on aP af.o fh);replace a:=aA (And.intro ax.o.1 (And.intro ax.o.2.1 ax.o.2.2.2.2.2.1));refine I _ _ (fun _=>a.o) ?_;clear I K1 fh J L Q S U V W X aa ab M O P ad f l q r t y z D E F m p H ag ah ai;obtain⟨⟨J,L,Q,S,U,V,W,X,aa,ab,M,O,P⟩,-⟩:=bT (a.o).1;obtain⟨⟨f,l,q,r,t,y,z,D,E,F,m,p⟩,-⟩:=bO (a.o).2.1;obtain⟨⟨ag,ah⟩,-⟩:=fK (a.o).2.2;have ad:=aD (a.o).1;have H:=aD (a.o).2.1;have ai:=aD (a.o).2.2;obtain⟨⟨Y0,Y1,Y2,Y3,Y4,Y5,Y6,Y7⟩,aj,ak,an,ao,aq,ar,au,av⟩:=nN ax.o.2.2.2.2.2.2.1;have zY:=aD ax.o.2.2.2.2.2.2.1;have il:=uE;refine bG rfl (fun K1 I=> ?_);unfold mv;go_simp;clear il;generalize ft:wb.setCell ⟨w.heap.size+1+1+1+1+1+1,1,none⟩ (.complex .f64 (Cm.qb R.1.1.1) (Cm.qb R.1.1.2))=w4;have bj:Hid (kZ w (fT s ca cc ra rc na nc oa oc ta tc ua uc ka kc ba bc) (rE o) #[.complex .f64 (Cm.qb R.1.1.1) (Cm.qb R.1.1.2),.slice da R.1.2.length dc] #[.int .i64 0,.complex .f64 (Cm.qb R.1.1.1) (Cm.qb R.1.1.2),.bool false,.int .i64 0,.int .i64 0,.string ⟨#[]⟩,.bool false,.int .i64 0] (some xH) w4):=aA (by rw[<-ft];exact ax.o.aDX (aI _) (aG ax.o.2.2.2.2.2.2.1 1 _));replace af:Hid (aH jU w4 (fun b=>W0.heap.size<=b) (.slice da R.1.2.length dc) R.1.2):=aA (by rw[<-ft];exact aH.aC0 aP af.o ((aI _).mono (fun b _ d e=>by have:W0.heap.size<=b:=d;have:=bl.o;omega)))
    clear ft;replace a:=aA (And.intro bj.o.1 (And.intro bj.o.2.1 bj.o.2.2.2.2.2.1));refine I _ _ (fun _=>a.o) ?_;clear I K1 ax J L Q S U V W X aa ab M O P ad f l q r t y z D E F m p H ag ah ai Y0 Y1 Y2 Y3 Y4 Y5 Y6 Y7 aj ak an ao aq ar au av zY;obtain⟨⟨J,L,Q,S,U,V,W,X,aa,ab,M,O,P⟩,-⟩:=bT (a.o).1;obtain⟨⟨f,l,q,r,t,y,z,D,E,F,m,p⟩,-⟩:=bO (a.o).2.1;obtain⟨⟨ag,ah⟩,-⟩:=fK (a.o).2.2;have ad:=aD (a.o).1;have H:=aD (a.o).2.1;have ai:=aD (a.o).2.2
    repeat (refine cU rfl (fun K hK=> ?_);unfold rd;go_simp;refine hK _ (fun eo h1=> ?_) ?_;(· clear hK K J L Q S U V W X aa ab M O P ad f l q r t y z D E F m p H ag ah ai;obtain⟨⟨J,L,Q,S,U,V,W,X,aa,ab,M,O,P⟩,-⟩:=bT (h1).1;obtain⟨⟨f,l,q,r,t,y,z,D,E,F,m,p⟩,-⟩:=bO (h1).2.1;obtain⟨⟨ag,ah⟩,-⟩:=fK (h1).2.2;have ad:=aD (h1).1;have H:=aD (h1).2.1;have ai:=aD (h1).2.2;unfold rd;go_simp);clear hK K)
    obtain⟨⟨Y0,Y1,Y2,Y3,Y4,Y5,Y6,Y7⟩,aj,ak,an,ao,aq,ar,au,av⟩:=nN bj.o.2.2.2.2.2.2.1;have zY:=aD bj.o.2.2.2.2.2.2.1;refine bG rfl (fun K1 I=> ?_);unfold mv;go_simp;generalize fu:w4.setCell ⟨w.heap.size+1+1+1+1+1+1,2,none⟩ (.bool gl)=w5;have ae:Hid (kZ w (fT s ca cc ra rc na nc oa oc ta tc ua uc ka kc ba bc) (rE o) #[.complex .f64 (Cm.qb R.1.1.1) (Cm.qb R.1.1.2),.slice da R.1.2.length dc] #[.int .i64 0,.complex .f64 (Cm.qb R.1.1.1) (Cm.qb R.1.1.2),.bool gl,.int .i64 0,.int .i64 0,.string ⟨#[]⟩,.bool false,.int .i64 0] (some xH) w5):=aA (by rw[<-fu];exact bj.o.aDX (aI _) (aG bj.o.2.2.2.2.2.2.1 2 _));replace af:Hid (aH jU w5 (fun b=>W0.heap.size<=b) (.slice da R.1.2.length dc) R.1.2):=aA (by rw[<-fu];exact aH.aC0 aP af.o ((aI _).mono (fun b _ d e=>by have:W0.heap.size<=b:=d;have:=bl.o;omega)));clear fu;refine I _ _ (fun h=>absurd h qe) ?_;clear I K1 bj a J L Q S U V W X aa ab M O P ad f l q r t y z D E F m p H ag ah ai Y0 Y1 Y2 Y3 Y4 Y5 Y6 Y7 aj ak an ao aq ar au av zY;unfold cG;obtain⟨⟨J,L,Q,S,U,V,W,X,aa,ab,M,O,P⟩,-⟩:=bT (And.intro ae.o.1 (And.intro ae.o.2.1 ae.o.2.2.2.2.2.1)).1;obtain⟨⟨f,l,q,r,t,y,z,D,E,F,m,p⟩,-⟩:=bO (And.intro ae.o.1 (And.intro ae.o.2.1 ae.o.2.2.2.2.2.1)).2.1;obtain⟨⟨ag,ah⟩,-⟩:=fK (And.intro ae.o.1 (And.intro ae.o.2.1 ae.o.2.2.2.2.2.1)).2.2;have ad:=aD (And.intro ae.o.1 (And.intro ae.o.2.1 ae.o.2.2.2.2.2.1)).1;have H:=aD (And.intro ae.o.1 (And.intro ae.o.2.1 ae.o.2.2.2.2.2.1)).2.1;have ai:=aD (And.intro ae.o.1 (And.intro ae.o.2.1 ae.o.2.2.2.2.2.1)).2.2;obtain⟨⟨Y0,Y1,Y2,Y3,Y4,Y5,Y6,Y7⟩,aj,ak,an,ao,aq,ar,au,av⟩:=nN ae.o.2.2.2.2.2.2.1;have zY:=aD ae.o.2.2.2.2.2.2.1
    go_upto_region 12 with (fail)
    obtain⟨al,fg⟩:∃b,decide (R.1.1=((4,0):Mk))=b:=⟨_,rfl⟩;have e1:((FloatKind.f64.format.order (Cm.qb R.1.1.1) 4607182418800017408==some .eq)&&(FloatKind.f64.format.order (Cm.qb R.1.1.2) 0==some .eq))=al:=(Cm.iU R.1.1.1 R.1.1.2 4 0 (HR.o▸(vG _ _).1) qe qe).trans ((sD R.1.1 (4,0)).trans fg);have iz:=aA fg;clear fg;go_cut [11] from 55 to 61 (fun v w'=>w'=w5/\v=.bool (al||gl))
    case first=>as_aux_lemma=>
     cases al
     .go_wp2
      all_goals go_meet
      all_goals exact⟨rfl,rfl⟩
     .go_wp2
      all_goals go_meet
      all_goals exact⟨rfl,rfl⟩
    case rest=>
    obtain⟨hw,hv⟩:=hcut;have hw:=hw.symm;subst hw hv;clear e1;obtain⟨dn,fk⟩:=xE ((al||gl));rw[<-fk];have i7:=aA fk;clear fk;go_wp2_with fail;refine(UH s _ _ _ _ _ _ _ _ w5 (HS.o.inb.on ae.o.2.2.2.2.2.2.2.1)).mono ?_;rintro e w6 hp;obtain⟨ko,ku,kr,L6,rfl,cy,db⟩:=Uz (HS.o.inb.on ae.o.2.2.2.2.2.2.2.1) hp;obtain⟨ke,kf,rfl⟩:=cy.aCQ.slice;obtain⟨kj,kk,rfl⟩:=cy.aCU.slice;obtain⟨kh,ki,rfl⟩:=cy.aCY.slice;obtain⟨hi,gj,fx⟩:=aY (aE (ae.o.2.2.2.2.2.2.2.2 _ rfl) db) cy (ae.o.noz.on db);replace af:=aA (aH.on aP (aH.inb aP af.o) db);have jq:=aA (show w5.heap.size<=w6.heap.size from db.size);have cf:=aA (show w.heap.size+7<w5.heap.size from qA (aD (ae.o.2.2.2.2.2.2.2.2 _ rfl)));unfold aV;clear hp cy db ae J L Q S U V W X aa ab M O P ad f l q r t y z D E F m p H ag ah ai Y0 Y1 Y2 Y3 Y4 Y5 Y6 Y7 aj ak an ao aq ar au av zY;go_upto_region 14 with (refine eI rfl _ (.tmp 10) (.tmp 63) rfl (w.heap.size+1+1+1+1+1+1+1) _ rfl rfl _ _ hi.o RW rfl (by simp[Value.oneCell']) ?_;intro w7 hj dq)
    have bb:∀{b},b≠w.heap.size+7->b≠w.heap.size+1+1+1+1+1+1+1:=fun h=>h
    have ch:Hid (iB (fun b=>(ok b/\b<w.heap.size)/\b<w5.heap.size) w5.heap.size (w.heap.size+1+1+1+1+1+1+1) w7 w7 s):=aA ⟨L6,none,_,_,_,_,_,_,_,_,hj.o,gj.o.stays dq.o (fun b d=>bb (qA d.1.2)) (fun b d _=>bb (qA cf.o)),aN.refl _ _⟩;have bu:=aA (fx.o.off dq.o (fun b d=>bb qo));replace af:=aA (aH.aC0 aP af.o (dq.o.mono (fun b _ d=>bb (by have:W0.heap.size<=b:=d.1;have:=bl.o;omega))));clear gj fx hi hj dq bb;obtain⟨⟨Y0,Y1,Y2,Y3,Y4,Y5,Y6,Y7⟩,aj,ak,an,ao,aq,ar,au,av⟩:=nN bu.o.2.2.2.2.2.2.1;have zY:=aD bu.o.2.2.2.2.2.2.1;go_upto_if 65 with (fail)
    clear Y0 Y1 Y2 Y3 Y4 Y5 Y6 Y7 aj ak an ao aq ar au av zY;have gu:=aA (show s.aCU.length<=256 from (wI.1 be.o.2).1);go_cut [4] from 66 to 69 (fun v w'=>v=.pointer (some ⟨w.heap.size+1+1,0,none⟩)/\Hid (iB (fun b=>(ok b/\b<w.heap.size)/\b<w5.heap.size) w5.heap.size (w.heap.size+1+1+1+1+1+1+1) w7 w' (if gl then gB s o o.aDf else s)))
    case first=>as_aux_lemma=>
     cases gl
     .go_wp2
      all_goals go_meet
      all_goals exact⟨rfl,aA ch.o⟩
     .obtain⟨⟨f,l,q,r,t,y,z,D,E,F,m,p⟩,-⟩:=bO bu.o.2.1;have H:=aD bu.o.2.1;go_wp2_with (go_at_call 56;refine(TX o bx.o s o.aDf bx.o.2.2.2.2.2.2.2.2 w7 (fun h=>qA h.1.2) (qA cf.o) (qA gu.o) ch.o).mono ?_;rintro e w8 ⟨rfl,ib⟩;replace ch:=aA ib;clear ib)
      all_goals go_meet
      all_goals exact⟨rfl,aA ch.o⟩
    case rest=>
    obtain⟨hv,bn⟩:=hcut;subst hv;obtain⟨s0,fp⟩:=xE ((if gl then gB s o o.aDf else s));rw[<-fp] at bn;have cu:=aA fp;clear fp ch;obtain⟨_,_,_,_,_,_,_,_,_,_,_,_,fs⟩:=bn.o;have bf:=aA (bu.o.off fs (fun b h=> .inl ⟨qA cf.o,fun e=>by omega⟩));replace af:=aA (aH.aC0 aP af.o (fs.mono (fun b _ d=> .inl ⟨d.2,fun e=>by have:W0.heap.size<=b:=d.1;have:=bl.o;omega⟩)));replace bn:=aA bn.o.here;clear fs bu;go_upto_if 70 with (fail)
    go_cut [14,15] from 16 to 105 (fun v1 v2 w'=>Hid (lY ok w (fT s ca cc ra rc na nc oa oc ta tc ua uc ka kc ba bc) (rE o) #[.complex .f64 (Cm.qb R.1.1.1) (Cm.qb R.1.1.2),.slice da R.1.2.length dc] (eV (nX s o R.1.1 R.1.2 gl dn)) (.slice da R.1.2.length dc) R.1.2 (if dn=true then dI s0 o else s0) w'))
    case first=>as_aux_lemma=>
     have je:Hid (lY ok w _ _ _ _ (.slice da R.1.2.length dc) R.1.2 s0 wc):=aA ⟨_,_,fun b d=> .inl d.1,qA cf.o,bn.o,bf.o,af.o.more aP fun b d=>⟨qA bl.o,d.2⟩⟩;have il:=uE
     cases dn
     .obtain⟨⟨Y0,Y1,Y2,Y3,Y4,Y5,Y6,Y7⟩,aj,ak,an,ao,aq,ar,au,av⟩:=nN bf.o.2.2.2.2.2.2.1;have zY:=aD bf.o.2.2.2.2.2.2.1;go_wp2
      all_goals go_meet
      all_goals exact aA (Yv s o R.1.1 R.1.2 gl▸je.o.at (aI _) (aG bf.o.2.2.2.2.2.2.1 0 _))
     .obtain⟨L8,km,kp,kv,ks,kt,kx,ky,kq,kn,de,e9,_⟩:=bn.o;have ig:kE 257 s0:=by rw[cu.o];split;(· exact DK (FD be.o) _ _);(· exact(FD be.o).more qo)
      have dj:=aA ig;have i1:Hid (∀c∈s0.aCQ,c.aCW.length<=900000):=aA (by rw[cu.o,tB];exact fun c hc=>lT (be.o.1.each c hc).aCW qo);have gr:Hid (s0.aC4.length<=900000/\0<=s0.aC2/\s0.aC2<=1000000):=aA (by rw[cu.o,(gR gl s o o.aDf).1,(gR gl s o o.aDf).2];exact⟨gg.o,e5.o.1,qA e5.o.2⟩);obtain⟨gw,dt,gx,ga⟩:=dG (e9.sto (qA dj.o.aCQ) (qA dj.o.aCU) (qA dj.o.aCY)) de e9.size (fy.o.on bf.o.2.2.2.2.2.2.2.1);have er:=aA (Jq s0 _ _ _ _ _ _ _ _ o bx.o wc gw.o ga.o (dj.o.more qo) i1.o gr.o.1 gr.o.2);obtain⟨⟨f,l,q,r,t,y,z,D,E,F,m,p⟩,-⟩:=bO bf.o.2.1;have H:=aD bf.o.2.1;unfold aV at de er;obtain⟨⟨X0,X1,X2,X3,X4,X5,X6,X7,X8,X9,bq,br,bs⟩,-⟩:=bT de;have zX:=aD de;clear de e9 ig;go_wp2_with fail;refine er.o.mono ?_;rintro e w9 ⟨K9,e6,L9,j0,j3,j7,j5,j6,j8,j9,j4,j2,rfl,hs,iv,fb,dv⟩;obtain⟨hg,gk,gn⟩:=aY (aE dt.o dv) fb fb.one;have ew:Hid (∀b,K9 b->(ok b/\b<w.heap.size)\/w.heap.size+8<=b):=aA (fun b d=>(hs b d).elim (fun h=>h.1.elim (fun h=> .inl h.1) (fun h=> .inr (qA cf.o))) (fun h=> .inr (qA (aD dt.o))));have du:Hid (w.heap.size+8<=e6/\w5.heap.size<=e6):=aA ⟨qA (aD dt.o),lT gx.o iv⟩;have gh:=aA (bf.o.on dv);have gy:=aA (aH.on aP af.o dv);clear X0 X1 X2 X3 X4 X5 X6 X7 X8 X9 bq br bs zX f l q r t y z D E F m p H dv fb hs iv;go_upto_region 18 with (refine eI rfl _ (.tmp 10) (.tmp 73) rfl (w.heap.size+1+1+1+1+1+1+1) _ rfl rfl _ _ hg.o RW rfl gn.o ?_;intro ix hh dp)
      have bb:∀{b},b≠w.heap.size+7->b≠w.heap.size+1+1+1+1+1+1+1:=fun h=>h
      have az:Hid (lY ok w _ _ _ _ (.slice da R.1.2.length dc) R.1.2 (dI s0 o) ix):=aA ⟨K9,e6,ew.o,du.o.1,⟨L9,j0,j3,j7,j5,j6,j8,j9,j4,j2,hh.o,gk.o.stays dp.o (fun b d=>bb (by rcases ew.o b d with h|h<;>omega)) (fun b d _=>bb (qA du.o)),aN.refl _ _⟩,gh.o.off dp.o (fun b d=>bb qo),(aH.aC0 aP gy.o (dp.o.mono fun b _ d=>bb (qD d.1 bl.o))).more aP fun b d=>⟨qD bl.o d.1,lL d.2 du.o.2⟩⟩;clear hh dp gh gy gk hg gn du ew dt gw er ga gx bb;obtain⟨⟨f,l,q,r,t,y,z,D,E,F,m,p⟩,-⟩:=bO az.o.aDr.2.1;have H:=aD az.o.aDr.2.1;obtain⟨⟨Y0,Y1,Y2,Y3,Y4,Y5,Y6,Y7⟩,aj,ak,an,ao,aq,ar,au,av⟩:=nN az.o.aDr.2.2.2.2.2.2.1;have zY:=aD az.o.aDr.2.2.2.2.2.2.1;by_cases hk:o.aCR=2
      .have b1:(o.aCR==(2:Int))=true:=by rw[hk];rfl
       have di:=aA hk;clear hk;obtain⟨hd,fl⟩:∃b,R.1.2.any (fun x=>decide (x.aCR=2)&&decide (x.arg=o.aDc))=b:=⟨_,rfl⟩;have cl:=Es _ R.1.2 o.aDc ix az.o.obs;rw[fl] at cl;have cl:=aA cl;have gb:=aA fl;clear fl;obtain⟨⟨ag,ah⟩,-⟩:=fK az.o.aDr.2.2.2.2.2.1;have ai:=aD az.o.aDr.2.2.2.2.2.1;go_upto_region 19 with (go_at_call 58;refine cl.o.mono ?_;rintro e kb ⟨rfl,ht⟩;have bp:=aA (az.o.on ht);clear f l q r t y z D E F m p H Y0 Y1 Y2 Y3 Y4 Y5 Y6 Y7 aj ak an ao aq ar au av zY az cl ht ag ah ai;obtain⟨⟨f,l,q,r,t,y,z,D,E,F,m,p⟩,-⟩:=bO bp.o.aDr.2.1;have H:=aD bp.o.aDr.2.1;obtain⟨⟨Y0,Y1,Y2,Y3,Y4,Y5,Y6,Y7⟩,aj,ak,an,ao,aq,ar,au,av⟩:=nN bp.o.aDr.2.2.2.2.2.2.1;have zY:=aD bp.o.aDr.2.2.2.2.2.2.1)
       generalize ir:kb.setCell _ _=iy;have bd:Hid (lY ok w _ _ _ #[.int .i64 0,.complex .f64 (Cm.qb R.1.1.1) (Cm.qb R.1.1.2),.bool gl,.int .i64 0,.int .i64 0,.string ⟨#[]⟩,.bool hd,.int .i64 0] (.slice da R.1.2.length dc) R.1.2 (dI s0 o) iy):=aA (by rw[<-ir];exact bp.o.at (aI _) (aG bp.o.aDr.2.2.2.2.2.2.1 6 _));clear ir f l q r t y z D E F m p H Y0 Y1 Y2 Y3 Y4 Y5 Y6 Y7 aj ak an ao aq ar au av zY bp;obtain⟨⟨f,l,q,r,t,y,z,D,E,F,m,p⟩,-⟩:=bO bd.o.aDr.2.1;have H:=aD bd.o.aDr.2.1;obtain⟨⟨Y0,Y1,Y2,Y3,Y4,Y5,Y6,Y7⟩,aj,ak,an,ao,aq,ar,au,av⟩:=nN bd.o.aDr.2.2.2.2.2.2.1;have zY:=aD bd.o.aDr.2.2.2.2.2.2.1
       cases hd
       .obtain⟨⟨J,L,Q,S,U,V,W,X,aa,ab,M,O,P⟩,-⟩:=bT bd.o.aDr.1;have ad:=aD bd.o.aDr.1;have fq:=HS.o.on bd.o.aDr.2.2.2.2.2.2.2.1;have cj:=xA s _ _ _ _ _ _ _ _ o.aCX iy fq;have i6:=aA (fun c hc=>DL (N:=o.aCX) (c:=c) fq hc);unfold aV at cj;have cj:=aA cj;clear fq;go_wp2_with fail;refine cj.o.mono ?_;intro e el hp;obtain⟨c,vf,vl,bo,rfl,dy,ic,hy⟩:=aAk hp i6.o;obtain⟨fa,fc,rfl,_⟩:=dy.2.2.2.1.slice;obtain⟨la,lc,rfl,_⟩:=dy.2.2.2.2.slice;obtain⟨W2,ec⟩:=xE (el.alloc (.cells (oW c fa fc la lc) 46));have fj:Below el.heap.size el W2:=by rw[ec];exact aB _ _
        have C:Hid (W2.heap[el.heap.size]? =some (.cells (oW c fa fc la lc) 46 (0,0))):=aA (by rw[ec];exact aK _ _ _ rfl);have bz:=aA ((bd.o.on hy).on fj);have bw:=KE c _ _ o.aDc W2 (dy.aC0 (aJ fj));obtain⟨v,hv⟩:∃v,gI c o.aDc=v:=⟨_,rfl⟩;rw[hv] at bw;have ja:Hid (v=((eF s o.aCX).map (fun c=>gI c o.aDc)).getD bD):=aA (by rw[ic,hv]);unfold aO dD at bw;have bw:=aA bw;have jn:=aA ec;clear ec hy fj dy ic hv hp f l q r t y z D E F m p H Y0 Y1 Y2 Y3 Y4 Y5 Y6 Y7 aj ak an ao aq ar au av zY J L Q S U V W X aa ab M O P ad bd cj;go_upto_region 21 with (fail)
        rw[<-jn.o];obtain⟨⟨f,l,q,r,t,y,z,D,E,F,m,p⟩,-⟩:=bO bz.o.aDr.2.1;have H:=aD bz.o.aDr.2.1;obtain⟨⟨Y0,Y1,Y2,Y3,Y4,Y5,Y6,Y7⟩,aj,ak,an,ao,aq,ar,au,av⟩:=nN bz.o.aDr.2.2.2.2.2.2.1;have zY:=aD bz.o.aDr.2.2.2.2.2.2.1;obtain⟨⟨C0,C1,C2,C3,C4⟩,-⟩:=cP C.o;have zC:=aD C.o;go_wp2_with fail;refine bw.o.mono ?_;rintro e kz ⟨rfl,ia⟩;have cb:=aA (bz.o.on ia);clear ia f l q r t y z D E F m p H Y0 Y1 Y2 Y3 Y4 Y5 Y6 Y7 aj ak an ao aq ar au av zY bz bw C0 C1 C2 C3 C4 zC;obtain⟨⟨f,l,q,r,t,y,z,D,E,F,m,p⟩,-⟩:=bO cb.o.aDr.2.1;have H:=aD cb.o.aDr.2.1;obtain⟨⟨Y0,Y1,Y2,Y3,Y4,Y5,Y6,Y7⟩,aj,ak,an,ao,aq,ar,au,av⟩:=nN cb.o.aDr.2.2.2.2.2.2.1;have zY:=aD cb.o.aDr.2.2.2.2.2.2.1;go_wp2
        all_goals go_meet
        all_goals exact aA (Vw s o R.1.1 R.1.2 gl di.o gb.o ja.o▸cb.o.at (((aI _).trans (aI _)).trans (aI _)) (aG (aG (aG cb.o.aDr.2.2.2.2.2.2.1 3 _) 4 _) 5 _))
       .go_wp2
        all_goals go_meet
        all_goals exact aA (Vv s o R.1.1 R.1.2 gl di.o gb.o▸bd.o)
      .have b1:(o.aCR==(2:Int))=false:=bN.2 hk;have di:=aA hk;clear hk;go_wp2
       all_goals go_meet
       all_goals exact aA (Ky s o R.1.1 R.1.2 gl di.o▸az.o.at (aI _) (aG az.o.aDr.2.2.2.2.2.2.1 6 _))
    case rest=>
    have HM:=hcut;clear hcut bn bf af
    try clear ha
    try clear dm
    try clear fz
    try clear fw
    try clear A
    try clear B
    try clear R1
    try clear R2
    try clear R3
    try clear T
    try clear Y
    try clear Z
    try clear AA
    try clear BB
    try clear HT
    try clear bg
    try clear HD
    try clear bm
    try clear gq
    try clear HK
    try clear a
    try clear e5
    try clear gg
    try clear gu
    try clear jq
    try clear cf
    try clear cg
    try clear fy
    obtain⟨s1,dz⟩:=xE ((if dn=true then dI s0 o else s0));rw[<-dz] at HM;have ih:kE 258 s1:=by
     have h0:kE 257 s0:=by rw[cu.o];split;(· exact DK (FD be.o) _ _);(· exact(FD be.o).more qo)
     rw[dz];split;(· exact Kz h0 o);(· exact h0.more qo)
    obtain⟨gf,jm,gi⟩:=aY ih dz (HR.o▸vG (pU s o) s.aCS);clear dz ih;obtain⟨K,base,hK,hz,hl,cx,fe⟩:=HM.o;have cm:=aA (And.intro hK hz);have ck:=YG o bx.o s1 _ R.1.2 dn wc (fun h=>by rcases hK _ h with h|h<;>omega) qo fe (fun b d=>⟨d.2,fun e=>qA d.1⟩) 258 gf.o (qA gi.o.2) hl;unfold fF cB at ck;have ck:=aA ck;have gm:=aA fe;clear hK hz hl fe;obtain⟨⟨f,l,q,r,t,y,z,D,E,F,m,p⟩,-⟩:=bO cx.2.1;have H:=aD cx.2.1;obtain⟨⟨ag,ah⟩,-⟩:=fK cx.2.2.2.2.2.1;have ai:=aD cx.2.2.2.2.2.1;clear cx;go_wp2_with fail;refine ck.o.mono ?_;rintro e kd ⟨rfl,K2,jy,hr,hn⟩;have bk:=aA (xW o dn R.1.2 258 s1 gf.o);obtain⟨s2,ea⟩:=xE (R.1.2.foldl (cZ o dn) s1);rw[<-ea] at hn;have bk:Hid (kE 900000 s2):=aA (ea▸bk.o.more (qA gi.o.2));have et:=aA (LV gp.o HR.o cq.o jd.o iz.o i7.o cu.o (s2:=s2) (by rw[ea,jm.o]));obtain⟨L2,kl,ee,ei,eg,eh,ej,ek,ef,ed,dd,e8,fr⟩:=hn;have aw:=aA (HM.o.aDr.off fr (fun b d=> .inl ⟨qA cm.o.2,fun e=>by omega⟩));have ey:=aA (aH.aC0 aP gm.o (fr.mono fun b _ d=> .inl ⟨d.2,fun e=>qA d.1⟩));have gd:Hid (∀b,K2 b->(ok b/\b<w.heap.size)\/w.heap.size+8<=b):=aA (fun b d=>(hr b d).elim (cm.o.1 b) (fun h=> .inr (lT cm.o.2 h)));obtain⟨dk,hf,gv⟩:=aY e8 dd (e8.sto (qA bk.o.aCQ) (qA bk.o.aCU) (qA bk.o.aCY));have cn:=Kw s2 _ _ _ _ _ _ _ _ kd gv.o;unfold aV at dd cn;obtain⟨⟨X0,X1,X2,X3,X4,X5,X6,X7,X8,X9,bq,br,bs⟩,-⟩:=bT dd;have zX:=aD dd;have cn:=aA cn;clear dd e8 fr jy hr HM gm ck ea f l q r t y z D E F m p H ag ah ai;obtain⟨ρ,fv⟩:=xE (nX s o R.1.1 R.1.2 gl dn);have iw:ρ.aDk=gl:=by rw[fv];rfl
    rw[<-fv] at aw et;have jl:=aA iw;clear fv iw;go_wp2_with fail;refine cn.o.mono ?_;rintro e en ⟨rfl,cz⟩;replace aw:=aA (aw.o.on cz);replace dk:=aA (dk.o.on cz);replace ey:=aA (aH.on aP ey.o cz);have jo:=qK hf cz;clear cz cn hf gv X0 X1 X2 X3 X4 X5 X6 X7 X8 X9 bq br bs zX
    cases fm:qL s2
    .skip
     have jc:=aA (dh.o.trans (et.o.trans (iN (by rw[fm];decide))));have a:Hid (VY w (fT s ca cc ra rc na nc oa oc ta tc ua uc ka kc ba bc) (rE o) #[.complex .f64 (Cm.qb R.1.1.1) (Cm.qb R.1.1.2),.slice da R.1.2.length dc] #[.int .i64 ρ.err,.complex .f64 (Cm.qb ρ.mark.1) (Cm.qb ρ.mark.2),.bool ρ.aDk,.int .i64 ρ.val.1,.int .i64 ρ.val.2.1,.string ρ.val.2.2,.bool ρ.hidden,.int .i64 ρ.at_] #[.int .i64 s2.aCZ,ee,ei,eg,eh,.string s2.aCS.id,.bool s2.aCS.set,.int .i64 s2.aCS.alg,ej,ek,ef,ed,.int .i64 s2.aC2] en):=aA ⟨aw.o.1,aw.o.2.1,aw.o.2.2.2.2.2.1,aw.o.2.2.2.2.2.2.1,jo.o⟩;obtain⟨jj,ez,cr⟩:=aY aw.o.2.2.1 aw.o.2.2.2.1 aw.o.2.2.2.2.1;have ff:=dk.o.one;unfold aV at ff;have jh:=aA ff;clear ff fm;go_upto_region 26 with (fail)
     refine cA 15 [(0,false),(1,false),(2,false),(3,false),(4,false),(5,false),(6,false),(7,false),(8,false),(9,false),(10,false),(11,false),(12,true),(13,true),(14,true)] [(15,true)] (VY w (fT s ca cc ra rc na nc oa oc ta tc ua uc ka kc ba bc) (rE o) #[.complex .f64 (Cm.qb R.1.1.1) (Cm.qb R.1.1.2),.slice da R.1.2.length dc] #[.int .i64 ρ.err,.complex .f64 (Cm.qb ρ.mark.1) (Cm.qb ρ.mark.2),.bool ρ.aDk,.int .i64 ρ.val.1,.int .i64 ρ.val.2.1,.string ρ.val.2.2,.bool ρ.hidden,.int .i64 ρ.at_] #[.int .i64 s2.aCZ,ee,ei,eg,eh,.string s2.aCS.id,.bool s2.aCS.set,.int .i64 s2.aCS.alg,ej,ek,ef,ed,.int .i64 s2.aC2]) (by decide +kernel) (by decide +kernel) a.o ?_;simp only[List.cons_append,List.nil_append];obtain⟨⟨J,L,Q,S,U,V,W,X,aa,ab,M,O,P⟩,-⟩:=bT a.o.1;have ad:=aD a.o.1;obtain⟨⟨f,l,q,r,t,y,z,D,E,F,m,p⟩,-⟩:=bO a.o.2.1;have H:=aD a.o.2.1;obtain⟨⟨ag,ah⟩,-⟩:=fK a.o.2.2.1;have ai:=aD a.o.2.2.1;obtain⟨⟨Y0,Y1,Y2,Y3,Y4,Y5,Y6,Y7⟩,-⟩:=nN a.o.2.2.2.1;have zY:=aD a.o.2.2.2.1;obtain⟨⟨X0,X1,X2,X3,X4,X5,X6,X7,X8,X9,bq,br,bs⟩,-⟩:=bT a.o.2.2.2.2;have zX:=aD a.o.2.2.2.2
     repeat (refine cU rfl (fun K hK=> ?_);unfold rd;go_simp;refine hK _ (fun eo h1=> ?_) ?_;(· clear hK K J L Q S U V W X aa ab M O P ad f l q r t y z D E F m p H ag ah ai Y0 Y1 Y2 Y3 Y4 Y5 Y6 Y7 zY X0 X1 X2 X3 X4 X5 X6 X7 X8 X9 bq br bs zX;obtain⟨⟨J,L,Q,S,U,V,W,X,aa,ab,M,O,P⟩,-⟩:=bT h1.1;have ad:=aD h1.1;obtain⟨⟨f,l,q,r,t,y,z,D,E,F,m,p⟩,-⟩:=bO h1.2.1;have H:=aD h1.2.1;obtain⟨⟨ag,ah⟩,-⟩:=fK h1.2.2.1;have ai:=aD h1.2.2.1;obtain⟨⟨Y0,Y1,Y2,Y3,Y4,Y5,Y6,Y7⟩,-⟩:=nN h1.2.2.2.1;have zY:=aD h1.2.2.2.1;obtain⟨⟨X0,X1,X2,X3,X4,X5,X6,X7,X8,X9,bq,br,bs⟩,-⟩:=bT h1.2.2.2.2;have zX:=aD h1.2.2.2.2;unfold rd;go_simp);clear hK K)
     clear J L Q S U V W X aa ab M O P ad f l q r t y z D E F m p H ag ah ai Y0 Y1 Y2 Y3 Y4 Y5 Y6 Y7 zY X0 X1 X2 X3 X4 X5 X6 X7 X8 X9 bq br bs zX;refine bG rfl (fun K1 I=> ?_);unfold mv;refine kX rfl _ (.tmp 4) (.tmp 113) rfl (w.heap.size+1+1) _ rfl rfl _ _ jj.o RW rfl jh.o ?_;intro wA ct cd;replace cd:Hid (aN (fun b=>b≠w.heap.size+1+1) en wA):=aA ((aJ (Below.refl _ en).drew).trans cd.o);replace a:=aA (a.o.off (g:=w.heap.size+1+1) cd.o (j:=2) rfl qe);replace ez:=aA (mY ez.o (g:=w.heap.size+1+1) cd.o (n:=w.heap.size) (i:=3) (j:=2) rfl rfl qe);replace cr:=aA (mY cr.o (g:=w.heap.size+1+1) cd.o (n:=w.heap.size) (i:=4) (j:=2) rfl rfl qe);refine I _ _ (fun _=>a.o) ?_;clear I K1;refine bG rfl (fun K1 I=> ?_);unfold mv;refine kX rfl _ (.tmp 5) (.tmp 114) rfl (w.heap.size+1+1+1) _ rfl rfl _ _ ez.o Tc rfl (by simp[Value.oneCell']) ?_;intro wB e0 dr;replace a:=aA (a.o.off (g:=w.heap.size+1+1+1) dr.o (j:=3) rfl qe);replace cr:=aA (mY cr.o (g:=w.heap.size+1+1+1) dr.o (n:=w.heap.size) (i:=4) (j:=3) rfl rfl qe);replace ct:=aA (mY ct.o (g:=w.heap.size+1+1+1) dr.o (n:=w.heap.size) (i:=2) (j:=3) rfl rfl qe);refine I _ _ (fun _=>a.o) ?_;clear I K1;refine bG rfl (fun K1 I=> ?_);unfold mv;refine kX rfl _ (.tmp 6) (.tmp 124) rfl (w.heap.size+1+1+1+1) _ rfl rfl _ _ cr.o Td rfl (by simp[Value.oneCell']) ?_;intro wD jk ds;replace a:=aA (a.o.off (g:=w.heap.size+1+1+1+1) ds.o (j:=4) rfl qe);replace ct:=aA (mY ct.o (g:=w.heap.size+1+1+1+1) ds.o (n:=w.heap.size) (i:=2) (j:=4) rfl rfl qe);replace e0:=aA (mY e0.o (g:=w.heap.size+1+1+1+1) ds.o (n:=w.heap.size) (i:=3) (j:=4) rfl rfl qe)
     refine I _ _ (fun _=>a.o) ?_;clear I K1;refine bG rfl (fun K1 I=> ?_);unfold mv;go_simp;refine I _ _ (fun h=>absurd h qe) ?_;clear I K1;unfold cG;have e4:Hid (aN (fun b=>b≠w.heap.size+2/\b≠w.heap.size+3/\b≠w.heap.size+4) en wD):=aA ((cd.o.mono fun b _ d=>d.1).trans ((dr.o.mono fun b _ d=>d.2.1).trans (ds.o.mono fun b _ d=>d.2.2)));have df:Hid (Below w.heap.size w wD):=aA (Lb aw.o.2.2.2.2.2.2.2.1 e4.o);have jf:=aA (dk.o.stays e4.o (fun b d=>aAl (gd.o b d)) (fun b d _=>Qm cm.o.2 d));have jg:=aA (aH.aC0 aP ey.o (e4.o.mono fun b _ d=>Yw d.1));obtain⟨⟨a0,a1,a2,a3,a4,a5,a6,a7,a8,a9,cv,cw,a12⟩,-⟩:=bT ct.o;obtain⟨⟨b0,b1,b2,b3,b4,b5,b6,b7⟩,-⟩:=nN e0.o;obtain⟨⟨c0,c1,c2,c3,c4,c5,c6,c7,c8,c9,jt,ju,c12,jv,jw,jx⟩,-⟩:=kN jk.o;go_wp2_with fail;unfold Exit.jump;refine bR (.tuple #[.agg #[.int .i64 s2.aCZ,ee,ei,eg,eh,.string s2.aCS.id,.bool s2.aCS.set,.int .i64 s2.aCS.alg,ej,ek,ef,ed,.int .i64 s2.aC2],.agg #[.int .i64 ρ.err,.complex .f64 (Cm.qb ρ.mark.1) (Cm.qb ρ.mark.2),.bool ρ.aDk,.int .i64 ρ.val.1,.int .i64 ρ.val.2.1,.string ρ.val.2.2,.bool ρ.hidden,.int .i64 ρ.at_],.agg #[.int .i64 o.aCR,.string o.aC6,.string o.aCX,.string o.aDc,.string o.to_,.int .i64 o.val.1,.int .i64 o.val.2.1,.string o.val.2.2,.int .i64 o.aDd,.string o.text,.string o.aDf,.bool o.aDk,.int .i64 s.aC2,.complex .f64 (Cm.qb R.1.1.1) (Cm.qb R.1.1.2),.bool ρ.aDk,.slice da R.1.2.length dc],.int .i64 0]) ?_;obtain rfl:=jl.o;have eu:=jc.o;subst eu;exact⟨ee,ei,eg,eh,ej,ek,ef,ed,.agg (mT ⟨o,s.aC2,R.1.1,ρ.aDk,R.1.2⟩ (.slice da R.1.2.length dc)),rfl,(jf.o.sto (qA bk.o.aCQ) (qA bk.o.aCU) (qA bk.o.aCY)).more (fun b d=>Yy cm.o.2 (d.imp (gd.o b) id)),⟨_,rfl,aH.more aP jg.o (fun b d=>Yx d.1)⟩,df.o⟩
    .go_wp2;refine wp_goto (show 0=0/\JJ _ _ from ⟨rfl,?_⟩);rw[ev.o];show VX w _ _ G s _ _ _ _ _;refine JH 6 (oL s o).2 ?_ ⟨aA (dh.o.trans (et.o.trans (iP fm))),aA aw.o.1,aA aw.o.2.2.1,aA aw.o.2.2.2.1,aA aw.o.2.2.2.2.1,aA aw.o.2.2.2.2.2.2.2.1⟩;rfl
   .go_wp2;refine wp_goto (show 0=0/\JJ _ _ from ⟨rfl,?_⟩);rw[ev.o];show VX w _ _ G s _ _ _ _ _;refine JH R.2 (oL s o).2 ?_ ⟨aA (dh.o.trans (by rw[HR.o] at fo ⊢;exact LU gp.o fo)),aA HD.o.1,aA HD.o.2.2.1,aA HD.o.2.2.2.1,aA HD.o.2.2.2.2.1,aA HD.o.2.2.2.2.2.2.2.1⟩;rfl
  .go_wp2;refine wp_goto (show 0=0/\JJ _ _ from ⟨rfl,?_⟩);rw[ev.o];show VX w _ _ G s _ _ _ _ _;refine JH (oL s o).1 (oL s o).2 ?_ ⟨aA (dh.o.trans (LS ik)),aA (aE A.o bm.o),aA (aE R1.o bm.o),aA (aE R2.o bm.o),aA (aE R3.o bm.o),gq⟩;rfl
end Go.Proofs.YtbinmcabjnoliaaGreatDoor
