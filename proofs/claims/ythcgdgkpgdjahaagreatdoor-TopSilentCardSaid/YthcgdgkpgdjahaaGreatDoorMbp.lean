/- Lemmas. -/
import Derived.Test.YthcgdgkpgdjahaaGreatDoorMbo
namespace Go.Proofs.YthcgdgkpgdjahaaGreatDoor
open Go.RowKit
set_option linter.unusedVariables false
set_option linter.unusedSimpArgs false
set_option maxHeartbeats 16000000
open _root_.Go.Proofs.Tryz
set_option maxRecDepth 20000
section
open Pv
structure Gx (w:World) (E J D base:Nat) (M K:Nat->Prop) (Q m n:Nat) (s:Sto) (vc vr vn vo vt vu vk vb:Value) (la:Option Addr) (lc:Nat) (lu:List Unit) (h:BitVec 64) (ra:Option Addr) (rc:Nat) (ru:List Unit) (da:Option Addr) (dc:Nat) (bs:List UInt8) (sy:Int):Prop where
 eng:w.heap[E]? =some (qP J s vc vr vn vo vt vu vk vb (.slice la lu.length lc) h)
 jou:w.heap[J]? =some (DX D (.slice ra ru.length rc))
 dsk:w.heap[D]? =some (pG Q da bs.length dc sy)
 sto:fM w K s vc vr vn vo vt vu vk vb
 log:aM (wQ 16) 16 68 w base (fun _=>False) (.slice la lu.length lc) lu
 aEJ:aM (wQ 1) 1 71 w base (fun _=>False) (.slice ra ru.length rc) ru
 byt:jF w K da (bF bs)
 len:bs.length=m
 lts:E<base/\J<base/\D<base/\base<=w.heap.size
 nes:E≠J/\E≠D/\J≠D
 mem:M E/\M J/\M D
 aEB:∀b,(Value.slice la lu.length lc).ownBlock=some b->M b
 aEA:∀b,(Value.slice ra ru.length rc).ownBlock=some b->M b
 kept:∀b,K b->¬M b/\b<w.heap.size
 low:∀b,M b->b<w.heap.size
 rows:lu.length<=n/\ru.length<=n
def nQ(w:World)(E D:Nat)(M K:nP)(Q m n:Nat)(s:Sto):Prop:=∃(J base:Nat) (vc vr vn vo vt vu vk vb:Value) (la:oD) (lc:Nat) (lu:List Unit) (h:BitVec 64) (ra:oD) (rc:Nat) (ru:List Unit) (da:oD) (dc:Nat) (bs:lU) (sy:Int),Gx w E J D base M K Q m n s vc vr vn vo vt vu vk vb la lc lu h ra rc ru da dc bs sy
theorem Gx.stays{w w':World}{E J D base:Nat}{M K:nP}{Q m n:Nat}{s:Sto}{vc vr vn vo vt vu vk vb:Value}{la:oD}{lc:Nat}{lu:List Unit}{h:BitVec 64}{ra:oD}{rc:Nat}{ru:List Unit}{da:oD}{dc:Nat}{bs:lU}{sy:Int}(H:Gx w E J D base M K Q m n s vc vr vn vo vt vu vk vb la lc lu h ra rc ru da dc bs sy){q:nP}(c:aN q w w')(d:∀b,M b\/K b->q b):Gx w' E J D base M K Q m n s vc vr vn vo vt vu vk vb la lc lu h ra rc ru da dc bs sy:={
 eng:=aF H.eng c (d _ (.inl H.mem.1))
 jou:=aF H.jou c (d _ (.inl H.mem.2.1))
 dsk:=aF H.dsk c (d _ (.inl H.mem.2.2))
 sto:=H.sto.aDW (c.mono fun b _ a=>d b (.inr a))
 log:=H.log.stays (kS 16) c (fun b a=>d b (.inl (H.aEB b a))) (fun _ h _=>h.elim)
 aEJ:=H.aEJ.stays (kS 1) c (fun b a=>d b (.inl (H.aEA b a))) (fun _ h _=>h.elim)
 byt:=H.byt.aDW (c.mono fun b _ a=>d b (.inr a))
 len:=H.len
 lts:=⟨H.lts.1,H.lts.2.1,H.lts.2.2.1,lT H.lts.2.2.2 c.size⟩
 nes:=H.nes
 mem:=H.mem
 aEB:=H.aEB
 aEA:=H.aEA
 kept:=fun b a=>⟨(H.kept b a).1,lL (H.kept b a).2 c.size⟩
 low:=fun b a=>lL (H.low b a) c.size
 rows:=H.rows}
theorem nQ.stays{w w':World}{E D:Nat}{M K:nP}{Q m n:Nat}{s:Sto}(H:nQ w E D M K Q m n s){q:nP}(c:aN q w w')(a:∀b,M b\/K b->q b):nQ w' E D M K Q m n s:=by
 obtain⟨J,base,vc,vr,vn,vo,vt,vu,vk,vb,la,lc,lu,h,ra,rc,ru,da,dc,bs,sy,h0⟩:=H;exact⟨J,base,vc,vr,vn,vo,vt,vu,vk,vb,la,lc,lu,h,ra,rc,ru,da,dc,bs,sy,h0.stays c a⟩
theorem nQ.on{w w':World}{E D:Nat}{M K:nP}{Q m n:Nat}{s:Sto}(H:nQ w E D M K Q m n s)(a:Below w.heap.size w w'):nQ w' E D M K Q m n s:=H.stays (aJ (ok:=fun _=>True) a) (fun _ _=>trivial)
def XU(E D:Nat)(M K:nP)(Q m n:Nat)(s:Sto)(o:Op)(w:World)(e:Ending)(w':World):Prop:=
 e=.returned (.agg (eH (bO s o).2.1))/\∃(c K':nP) (a:Nat),nQ w' E D c K' Q a (n+1) (bO s o).1/\(∀b,c b->M b\/w.heap.size<=b)/\(∀b,K' b->K b\/w.heap.size<=b)/\aN (fun b=>¬M b) w w'/\m<=a/\a<=m+400+o.text.size/\((bO s o).2.2.2≠0->a=m)
abbrev EP:Obj:= .cells #[.int .i64 0,.slice none 0 0,.slice none 0 0,.slice none 0 0,.slice none 0 0,.string ⟨#[]⟩,.bool false,.int .i64 0,.slice none 0 0,.slice none 0 0,.slice none 0 0,.slice none 0 0,.int .i64 0] 62
abbrev OM:Obj:= .cells #[.int .i64 0,.complex .f64 0 0,.bool false,.int .i64 0,.int .i64 0,.string ⟨#[]⟩,.bool false,.int .i64 0] 37
abbrev ON:Obj:= .cells #[.int .i64 0,.string ⟨#[]⟩,.string ⟨#[]⟩,.string ⟨#[]⟩,.string ⟨#[]⟩,.int .i64 0,.int .i64 0,.string ⟨#[]⟩,.int .i64 0,.string ⟨#[]⟩,.string ⟨#[]⟩,.bool false,.int .i64 0,.complex .f64 0 0,.bool false,.slice none 0 0] 68
structure xA (K:Nat->Prop) (W0 w':World) (G:Sto×Rpl×Option Deci×Int) (vs vd:Option Value) (p5 p6 p7:Option Nat):Prop where
 below:Below W0.heap.size W0 w'
 b5:∀g,p5=some g->W0.heap.size<=g/\w'.heap[g]? =some EP
 b6:∀g,p6=some g->W0.heap.size<=g/\w'.heap[g]? =some OM
 b7:∀g,p7=some g->W0.heap.size<=g/\w'.heap[g]? =some ON
 res:∀v,vs=some v->∃vc vr vn vo vt vu vk vb,v=.agg (aX G.1 vc vr vn vo vt vu vk vb)/\fM w' (fun b=>(K b\/W0.heap.size<=b)/\b<w'.heap.size/\some b≠p5/\some b≠p6/\some b≠p7) G.1 vc vr vn vo vt vu vk vb
 dec:∀v,vd=some v->(match G.2.2.1 with |none=>v=.agg pJ|some d=>∃a n c,v=.agg (nD d (.slice a n c)))
section
variable {K:nP} {W0 w' w2:World} {G:Sto×Rpl×Option Deci×Int} {vs vd:Option Value} {p5 p6 p7:Option Nat}
theorem xA.on5(H:xA K W0 w' G vs vd none p6 p7):xA K W0 (w'.alloc EP) G vs vd (some w'.heap.size) p6 p7:={
 below:=aC H.below (aB _ _)
 b5:=fun g a=>by injection a with a;subst a;exact⟨H.below.size,aK _ _ _ rfl⟩
 b6:=fun g a=>⟨(H.b6 g a).1,aE (H.b6 g a).2 (aB _ _)⟩
 b7:=fun g a=>⟨(H.b7 g a).1,aE (H.b7 g a).2 (aB _ _)⟩
 res:=fun v d=>by
  obtain⟨vc,vr,vn,vo,vt,vu,vk,vb,e,h⟩:=H.res v d;refine⟨vc,vr,vn,vo,vt,vu,vk,vb,e,(h.on (aB _ _)).more fun b c=>⟨c.1,?_,fun e=> ?_,c.2.2.2.1,c.2.2.2.2⟩⟩
  .have:=c.2.1;simp;omega
  .injection e with e;have:=c.2.1;omega
 dec:=H.dec}
theorem xA.on6(H:xA K W0 w' G vs vd p5 none p7):xA K W0 (w'.alloc OM) G vs vd p5 (some w'.heap.size) p7:={
 below:=aC H.below (aB _ _)
 b5:=fun g a=>⟨(H.b5 g a).1,aE (H.b5 g a).2 (aB _ _)⟩
 b6:=fun g a=>by injection a with a;subst a;exact⟨H.below.size,aK _ _ _ rfl⟩
 b7:=fun g a=>⟨(H.b7 g a).1,aE (H.b7 g a).2 (aB _ _)⟩
 res:=fun v d=>by
  obtain⟨vc,vr,vn,vo,vt,vu,vk,vb,e,h⟩:=H.res v d;refine⟨vc,vr,vn,vo,vt,vu,vk,vb,e,(h.on (aB _ _)).more fun b c=>⟨c.1,?_,c.2.2.1,fun e=> ?_,c.2.2.2.2⟩⟩
  .have:=c.2.1;simp;omega
  .injection e with e;have:=c.2.1;omega
 dec:=H.dec}
theorem xA.on7(H:xA K W0 w' G vs vd p5 p6 none):xA K W0 (w'.alloc ON) G vs vd p5 p6 (some w'.heap.size):={
 below:=aC H.below (aB _ _)
 b5:=fun g a=>⟨(H.b5 g a).1,aE (H.b5 g a).2 (aB _ _)⟩
 b6:=fun g a=>⟨(H.b6 g a).1,aE (H.b6 g a).2 (aB _ _)⟩
 b7:=fun g a=>by injection a with a;subst a;exact⟨H.below.size,aK _ _ _ rfl⟩
 res:=fun v d=>by
  obtain⟨vc,vr,vn,vo,vt,vu,vk,vb,e,h⟩:=H.res v d;refine⟨vc,vr,vn,vo,vt,vu,vk,vb,e,(h.on (aB _ _)).more fun b c=>⟨c.1,?_,c.2.2.1,c.2.2.2.1,fun e=> ?_⟩⟩
  .have:=c.2.1;simp;omega
  .injection e with e;have:=c.2.1;omega
 dec:=H.dec}
theorem xA.call(H:xA K W0 w' G none none p5 p6 p7)(m:∀b,K b->b<W0.heap.size){e:Ending}(h:FX K G w' e w2):∃v d,e=.returned (.tuple #[v,.agg (eH G.2.1),d,.int .i64 G.2.2.2])/\xA K W0 w2 G (some v) (some d) p5 p6 p7:=by
 obtain⟨vc,vr,vn,vo,vt,vu,vk,vb,d,rfl,n,k,j⟩:=h;refine⟨_,d,rfl,⟨aC H.below j,fun g f=>⟨(H.b5 g f).1,aE (H.b5 g f).2 j⟩,fun g f=>⟨(H.b6 g f).1,aE (H.b6 g f).2 j⟩,fun g f=>⟨(H.b7 g f).1,aE (H.b7 g f).2 j⟩,fun v i=> ?_,fun v i=> ?_⟩⟩
 .injection i with i;refine⟨vc,vr,vn,vo,vt,vu,vk,vb,i.symm,n.inb.more fun b l=> ?_⟩;have f:∀{p:Option Nat} {O:Obj},(∀g,p=some g->W0.heap.size<=g/\w'.heap[g]? =some O)->some b≠p:=fun hp e=>by
   have h1:=hp b e.symm
   rcases l.1 with h2|h2
   .have:=m b h2.1;omega
   .have:=aD h1.2;omega
  exact⟨l.1.imp (fun h=>h.1) (fun h=>lT H.below.size h),l.2,f H.b5,f H.b6,f H.b7⟩
 .injection i with i;subst i;split
  .rename_i h0;rw[h0] at k;exact k
  .rename_i q h0;rw[h0] at k;obtain⟨r,e,o⟩:=k;obtain⟨a,c,rfl,_⟩:=o.slice;exact⟨a,_,c,e⟩
end
def DoI(E z:Nat)(K:nP)(W0:World)(G:Sto×Rpl×Option Deci×Int)(a:Act)(w':World):Prop:=
 ∃(g5 g6 g7:Nat) (v d:Value) (u:Nat->Value),a={tmps:=#[.pointer (some ⟨E,0,none⟩),u 1,u 2,.pointer (some ⟨z,0,none⟩),.pointer (some ⟨z+1,0,none⟩),.pointer (some ⟨g5,0,none⟩),.pointer (some ⟨g6,0,none⟩),.pointer (some ⟨g7,0,none⟩),u 8,u 9,u 10,u 11,u 12,u 13,u 14,u 15,u 16,u 17,u 18,u 19,u 20,u 21,u 22,u 23,v,.agg (eH G.2.1),d,.int .i64 G.2.2.2,u 28,u 29,u 30,u 31,u 32,u 33,u 34,u 35,u 36,u 37,u 38,u 39,u 40,u 41,u 42,u 43,u 44,u 45,u 46,u 47,u 48,u 49,u 50,u 51,u 52],defers:=[]}/\xA K W0 w' G (some v) (some d) (some g5) (some g6) (some g7)
theorem Nk{E z:Nat}{K:nP}{W0:World}{G:Sto×Rpl×Option Deci×Int}{a:Act}{w':World}{g5 g6 g7:Nat}{v d:Value}(ha:a={tmps:=#[.pointer (some ⟨E,0,none⟩),gT a 1,gT a 2,.pointer (some ⟨z,0,none⟩),.pointer (some ⟨z+1,0,none⟩),.pointer (some ⟨g5,0,none⟩),.pointer (some ⟨g6,0,none⟩),.pointer (some ⟨g7,0,none⟩),gT a 8,gT a 9,gT a 10,gT a 11,gT a 12,gT a 13,gT a 14,gT a 15,gT a 16,gT a 17,gT a 18,gT a 19,gT a 20,gT a 21,gT a 22,gT a 23,v,.agg (eH G.2.1),d,.int .i64 G.2.2.2,gT a 28,gT a 29,gT a 30,gT a 31,gT a 32,gT a 33,gT a 34,gT a 35,gT a 36,gT a 37,gT a 38,gT a 39,gT a 40,gT a 41,gT a 42,gT a 43,gT a 44,gT a 45,gT a 46,gT a 47,gT a 48,gT a 49,gT a 50,gT a 51,gT a 52],defers:=[]})(h:xA K W0 w' G (some v) (some d) (some g5) (some g6) (some g7)):DoI E z K W0 G a w':=
 ⟨g5,g6,g7,v,d,fun n=>a.tmps.getD n undef,ha,h⟩
theorem Nl{K:nP}{G:Sto×Rpl×Option Deci×Int}{w w2:World}{e:Ending}(h:FX K G w e w2):Below w.heap.size w w2:=by obtain⟨_,_,_,_,_,_,_,_,_,_,_,_,h⟩:=h;exact h
theorem OO{s:bY}(h:eT s=true):s.size<=16:=by
 unfold eT at h;simp only[Bool.and_eq_true,decide_eq_true_eq] at h;exact h.2.2
theorem KH{s:bY}(h:¬mZ s=false):s.size<=16:=by
 unfold mZ at h;simp only[Bool.not_eq_false,Bool.or_eq_true,decide_eq_true_eq] at h
 rcases h with h|h
 .omega
 .exact OO h
theorem Sv{v:V3}(h:¬(v≠aY/\aT v=false)):v.2.2.size<=64:=by
 by_cases h0:v=aY
 .rw[h0];decide
 have h1:aT v=true:=by
  cases a:aT v
  .exact absurd ⟨h0,a⟩ h
  .rfl
 unfold aT at h1;split at h1
 .simp only[Bool.and_eq_true,decide_eq_true_eq] at h1;omega
 split at h1
 .simp only[decide_eq_true_eq] at h1;omega
 split at h1
 .simp only[Bool.and_eq_true,decide_eq_true_eq] at h1;omega
 split at h1
 .simp only[Bool.and_eq_true,decide_eq_true_eq] at h1;omega
 split at h1
 .simp only[Bool.and_eq_true,decide_eq_true_eq] at h1;have:=OO h1.2;omega
 .cases h1
theorem Sw{o:Op}(a:gW o=true):TC o:=by
 unfold gW at a;split at a
 .cases a
 rename_i h1;split at a
 .cases a
 rename_i h2;simp only[not_or] at h1 h2;have b:oM o=true:=by simpa using h1.2.1
 refine⟨OO (by simpa using h1.1),KH h2.1,KH h2.2.1,KH h2.2.2.1,Sv h2.2.2.2,?_,qA h1.2.2⟩;unfold oM at b;split at b
 .simp only[decide_eq_true_eq] at b;omega
 .simp only[Bool.and_eq_true,decide_eq_true_eq] at b;omega
theorem Ak{s:Sto}{o:Op}(h:(bO s o).2.2.2=0):TC o:=by
 have hw:=pU s o
 rcases a:bO s o with ⟨t,r,d,e⟩
 rw[a] at hw h
 cases hw with
 |none _ _ he k _=>exact absurd h he
 |some m l glass hidden v b j g c i f n=>exact Sw (oG b)
theorem Nn{s:Sto}{o:Op}(h:(bO s o).2.2.2≠0):(bO s o).1=s/\(bO s o).2.2.1=none:=by
 have hw:=pU s o
 rcases a:bO s o with ⟨t,r,d,e⟩
 rw[a] at hw h
 cases hw with
 |none _ _ he j _=>exact⟨rfl,rfl⟩
 |some m l glass hidden v k i f b g c n=>exact absurd rfl h
theorem Gy{s:Sto}{o:Op}(h:(bO s o).2.2.2=0):∃d,(bO s o).2.2.1=some d:=by
 have hw:=pU s o
 rcases a:bO s o with ⟨t,r,d,e⟩
 rw[a] at hw h
 cases hw with
 |none _ _ he j _=>exact absurd h he
 |some m l glass hidden v k i f b g c n=>exact⟨_,rfl⟩
theorem Cn{M K:nP}(E D Q m n k:Nat)(s:Sto)(o:Op)(ho:iU o)(w:World)(hX:nQ w E D M K Q m n s)(dj:iA w)(hB:jD k s)(hk:k<=900000)(hn:n<=800000)(di:m+400+o.text.size<=Q)(hQ:Q<=900000):
 Calls prog 7 #[.pointer (some ⟨E,0,none⟩),eZ o] w (XU E D M K Q m n s o w):=by
 obtain⟨J,base,vc,vr,vn,vo,vt,vu,vk,vb,la,lc,lu,h,ra,rc,ru,da,dc,bs,sy,H⟩:=hX;obtain⟨W0,bb⟩:=xE ((w.alloc (.cells (bX o) 32)).alloc (.cells RN 37));have bj:Below w.heap.size w W0:=by rw[bb];exact aC (aB _ _) (aB _ _)
 have O:Hid (W0.heap[w.heap.size]? =some (.cells (bX o) 32 (0,0))):=aA (by rw[bb];exact aE (aK _ _ _ rfl) (aB _ _));have R:Hid (W0.heap[w.heap.size+1]? =some (.cells RN 37 (0,0))):=aA (by rw[bb];exact aK _ _ _ qs);have H0:=aA (H.stays (aJ (ok:=fun _=>True) bj) (fun _ _=>trivial));obtain⟨bq,HN,ej,q,cr⟩:=gJ bj (And.intro hk (And.intro hn (And.intro di hQ))) ho hB (dj.on bj);have a7:=Ae (ok:=K) s vc vr vn vo vt vu vk vb o ho;obtain⟨G,hG⟩:=xE (bO s o);have aj:=aA hG;rw[<-hG] at a7;unfold eZ aX bX at *;have a7:=aA a7;have cb:=aA bb;clear bb bj ho dj hB hk hn di hQ hG;obtain⟨⟨B,C,T,U,V,W,X,Y,Z,e9,F,I,L,N,P,S⟩,-⟩:=lM H0.o.eng;have ze:=aD H0.o.eng;go_enter func7,ntmps7;go_upto_region 1 with (fail)
 rw[<-cb.o];go_wp2_with fail;refine(Jy J D _ W0 H0.o.jou).mono ?_;rintro e w1 ⟨rfl,ds⟩;rw[ds];clear ds w1;go_upto_region 3 with (fail)
 clear B C T U V W X Y Z e9 F I L N P S ze;have HC:Hid (W0.heap[E]? =some (qP J s vc vr vn vo vt vu vk vb (.slice la lu.length lc) h)/\W0.heap[w.heap.size]? =some (.cells (rS o) 32 (0,0))):=aA ⟨H0.o.eng,O.o⟩;have ck:Below W0.heap.size W0 W0.drew:=(Below.refl _ _).drew;have fk:=aA ck;have c7:∀b,K b->b<W0.heap.size:=fun b a=>lL (H0.o.kept b a).2 (lR _)
 have en:=aA c7;have cq:Hid (∀w',Below W0.heap.size W0 w'->Calls prog 15 #[.agg #[.int .i64 s.aDX,vc,vr,vn,vo,.string s.aDP.id,.bool s.aDP.set,.int .i64 s.aDP.alg,vt,vu,vk,vb,.int .i64 s.aD0],.agg #[.int .i64 o.aDN,.string o.aD3,.string o.aDU,.string o.aD7,.string o.to_,.int .i64 o.val.1,.int .i64 o.val.2.1,.string o.val.2.2,.int .i64 o.aEa,.string o.text,.string o.aEc,.bool o.aEh]] w' (FX K G w')):=aA (fun w' a=>a7.o w' (H0.o.sto.on a) (cr.o.on a) q.o.1 (lT q.o.1.1.aD1 qo) ⟨q.o.2.1,qD q.o.2.2 HN.o.1⟩);have bt:Hid (xA K W0 W0.drew G none none none none none):=aA ⟨ck,fun _ h=>(by cases h),fun _ h=>(by cases h),fun _ h=>(by cases h),fun _ h=>(by cases h),fun _ h=>(by cases h)⟩;clear ck a7 c7;refine MW 17 [(0,false),(1,false),(2,false),(3,false),(4,false)] 4 9 (fun i=>if i=5 then [6,7,8,9,10] else []) [(14,true),(15,true),(16,true)] [(17,true)] (fun w'=>w'.heap[E]? =some (qP J s vc vr vn vo vt vu vk vb (.slice la lu.length lc) h)/\w'.heap[w.heap.size]? =some (.cells (rS o) 32 (0,0)))
  (DoI E w.heap.size K W0 G)
  (by kernel_rfl) (by kernel_rfl) HC.o ?_ ?_
 .obtain⟨⟨B,C,T,U,V,W,X,Y,Z,e9,F,I,L,N,P,S⟩,-⟩:=lM HC.o.1;have ze:=aD HC.o.1;obtain⟨⟨o0,o1,o2,o3,o4,o5,o6,o7,o8,o9,an,ao⟩,-⟩:=bK HC.o.2;have zo:=aD HC.o.2
  repeat (refine dG rfl (fun K hK=> ?_);unfold rd;go_simp;refine hK _ (fun eb h1=> ?_) ?_;(· clear hK K B C T U V W X Y Z e9 F I L N P S ze o0 o1 o2 o3 o4 o5 o6 o7 o8 o9 an ao zo;obtain⟨⟨B,C,T,U,V,W,X,Y,Z,e9,F,I,L,N,P,S⟩,-⟩:=lM h1.1;have ze:=aD h1.1;obtain⟨⟨o0,o1,o2,o3,o4,o5,o6,o7,o8,o9,an,ao⟩,-⟩:=bK h1.2;have zo:=aD h1.2;unfold rd;go_simp);clear hK K)
  clear B C T U V W X Y Z e9 F I L N P S ze o0 o1 o2 o3 o4 o5 o6 o7 o8 o9 an ao zo;unfold cJ;intro _;have t:=bt;have c:Hid (W0.drew.heap[E]? =some (qP J s vc vr vn vo vt vu vk vb (.slice la lu.length lc) h)/\W0.drew.heap[w.heap.size]? =some (.cells (rS o) 32 (0,0))):=aA HC.o;clear bt HC;generalize W0.drew=WD at t c ⊢
  iterate 4 all_goals (
   (first
     |refine gQ [5,11,12,13] (by decide +kernel) ?_
     |refine gQ [11,12,13] (by decide +kernel) ?_
     |refine gQ [5,12,13] (by decide +kernel) ?_
     |refine gQ [5,11,13] (by decide +kernel) ?_
     |refine gQ [5,11,12] (by decide +kernel) ?_
     |refine gQ [5,11] (by decide +kernel) ?_
     |refine gQ [5,12] (by decide +kernel) ?_
     |refine gQ [5,13] (by decide +kernel) ?_
     |refine gQ [11,12] (by decide +kernel) ?_
     |refine gQ [11,13] (by decide +kernel) ?_
     |refine gQ [12,13] (by decide +kernel) ?_
     |refine gQ [5] (by decide +kernel) ?_
     |refine gQ [11] (by decide +kernel) ?_
     |refine gQ [12] (by decide +kernel) ?_
     |refine gQ [13] (by decide +kernel) ?_)
   (repeat' (refine Su ?_ ?_))
   all_goals first
    |(exact fun _ h=>(by cases h))
    |(refine⟨_,rfl,fun K1 f=> ?_⟩
      unfold mv;go_simp
      first
     |(refine f _ (World.alloc _ EP) ⟨aE c.o.1 (aB _ _),aE c.o.2 (aB _ _)⟩ ?_
       replace c:=aA (And.intro (aE c.o.1 (aB _ EP)) (aE c.o.2 (aB _ EP)));replace t:=aA t.o.on5;clear f K1;generalize World.alloc _ EP=W' at c t ⊢;simp only[Nat.reduceEqDiff,reduceIte,List.map_cons,List.map_nil];unfold cJ)
     |(refine f _ (World.alloc _ OM) ⟨aE c.o.1 (aB _ _),aE c.o.2 (aB _ _)⟩ ?_
       replace c:=aA (And.intro (aE c.o.1 (aB _ OM)) (aE c.o.2 (aB _ OM)));replace t:=aA t.o.on6;clear f K1;generalize World.alloc _ OM=W' at c t ⊢;simp only[Nat.reduceEqDiff,reduceIte,List.map_cons,List.map_nil];unfold cJ)
     |(refine f _ (World.alloc _ ON) ⟨aE c.o.1 (aB _ _),aE c.o.2 (aB _ _)⟩ ?_
       replace c:=aA (And.intro (aE c.o.1 (aB _ ON)) (aE c.o.2 (aB _ ON)));replace t:=aA t.o.on7;clear f K1;generalize World.alloc _ ON=W' at c t ⊢;simp only[Nat.reduceEqDiff,reduceIte,List.map_cons,List.map_nil];unfold cJ)
     |(refine(cq.o _ t.o.below).mono ?_
       intro e w2 hp;have a:=Nl hp;obtain⟨v,d,rfl,hd⟩:=t.o.call en.o hp;replace c:=aA (And.intro (aE c.o.1 a) (aE c.o.2 a));replace t:=aA hd;refine f _ _ c.o ?_;clear f K1 hp a hd;simp only[reduceIte,List.map_cons,List.map_nil]
       repeat (refine dG rfl (fun K hK=> ?_);unfold rd;go_simp;refine hK _ (fun eb h1=> ?_) ?_;(· clear hK K;unfold rd;go_simp);clear hK K)
       unfold cJ)))
  all_goals (unfold KG;exact Nk rfl t.o)
 .rintro a' w' ⟨g5,g6,g7,v,d,u,rfl,HD⟩ hC;obtain⟨du,dy,dw,dx,dz,ea,dv,dt,rfl,hS⟩:=HD.res v rfl;have bm:=HD.dec d rfl;have al:=HD.b5 _ rfl;have ae:=HD.b6 _ rfl;have af:=HD.b7 _ rfl;have h56:g5≠g6:=fun e=>by subst e;have h1:=Option.some.inj (al.2.symm.trans ae.2);injection h1 with _ h2;exact absurd h2 qe
  have h57:g5≠g7:=fun e=>by subst e;have h1:=Option.some.inj (al.2.symm.trans af.2);injection h1 with _ h2;exact absurd h2 qe
  have h67:g6≠g7:=fun e=>by subst e;have h1:=Option.some.inj (ae.2.symm.trans af.2);injection h1 with _ h2;exact absurd h2 qe
  have cj:W0.heap.size=w.heap.size+2:=by rw[cb.o];simp
  have ew:=aD H.eng;have g:Hid ((E≠g5/\w.heap.size≠g5)/\(E≠g6/\w.heap.size≠g6)/\(E≠g7/\w.heap.size≠g7)/\g5≠g6/\g5≠g7/\g6≠g7):=aA ⟨⟨qA al.1,qA al.1⟩,⟨qA ae.1,qA ae.1⟩,⟨qA af.1,qA af.1⟩,h56,h57,h67⟩;have ag:Hid (w.heap.size+2<=g5/\w.heap.size+2<=g6/\w.heap.size+2<=g7):=aA ⟨cj▸al.1,cj▸ae.1,cj▸af.1⟩;obtain⟨bc,ab,r,bu⟩:=dH al.2 ae.2 af.2 (Bq hS);have bw:Hid ((eH G.2.1).all (·.oneCell')=true):=aA (by simp[eH,Value.oneCell']);have cy:=aA hS;have c:Hid (w'.heap[E]? =some (qP J s vc vr vn vo vt vu vk vb (.slice la lu.length lc) h)/\w'.heap[w.heap.size]? =some (.cells (rS o) 32 (0,0))):=aA hC;have b9:=qK R HD.below;have a6:=aA HD.below;clear al ae af h56 h57 h67 ew hS hC HD HC O R cq bt cr;by_cases he:G.2.2.2=0
  .have ca:=aA (Ak (s:=s) (o:=o) (by rw[<-aj.o];exact he));obtain⟨dd,hd⟩:=Gy (s:=s) (o:=o) (by rw[<-aj.o];exact he);rw[<-aj.o] at hd;rw[hd] at bm;obtain⟨ax,nx,cx,rfl⟩:=bm;have be:Hid ((nD dd (.slice ax nx cx)).all (·.oneCell')=true):=aA (by simp[nD,Value.oneCell']);have b1:(G.2.2.2 != 0)=false:=by rw[he];rfl
   have HE:=aA he;clear he hd;refine bJ rfl (fun K1 f=> ?_);unfold mv;refine lF rfl _ (.tmp 5) (.tmp 24) rfl g5 _ rfl rfl _ _ bc.o (by kernel_rfl) rfl bu.o ?_;intro wA HA y;replace c:=aA (And.intro (aF c.o.1 y.o g.o.1.1) (aF c.o.2 y.o g.o.1.2));replace ab:=qS ab y.o g.o.2.2.2.1.symm;replace r:=qS r y.o g.o.2.2.2.2.1.symm;refine f _ _ (fun _=>c.o) ?_;clear f K1;refine bJ rfl (fun K1 f=> ?_);unfold mv;refine lF rfl _ (.tmp 6) (.tmp 25) rfl g6 _ rfl rfl _ _ ab.o (by kernel_rfl) rfl bw.o ?_;intro wB HB q;replace c:=aA (And.intro (aF c.o.1 q.o g.o.2.1.1) (aF c.o.2 q.o g.o.2.1.2));replace HA:=qS HA q.o g.o.2.2.2.1;replace r:=qS r q.o g.o.2.2.2.2.2.symm;refine f _ _ (fun _=>c.o) ?_;clear f K1;refine bJ rfl (fun K1 f=> ?_);unfold mv;refine lF rfl _ (.tmp 7) (.tmp 26) rfl g7 _ rfl rfl _ _ r.o (by kernel_rfl) rfl be.o ?_;intro wD cn z;replace c:=aA (And.intro (aF c.o.1 z.o g.o.2.2.1.1) (aF c.o.2 z.o g.o.2.2.1.2));replace HA:=qS HA z.o g.o.2.2.2.2.1;replace HB:=qS HB z.o g.o.2.2.2.2.2;refine f _ _ (fun _=>c.o) ?_;clear f K1;refine bJ rfl (fun K1 f=> ?_);unfold mv;go_simp;refine f _ _ (fun h=>absurd h qe) ?_;clear f K1;unfold cJ;have ah:Hid (aN (fun b=>b≠g5/\b≠g6/\b≠g7) w' wD):=aA ((y.o.mono fun b _ a=>a.1).trans ((q.o.mono fun b _ a=>a.2.1).trans (z.o.mono fun b _ a=>a.2.2)));clear y q z bc ab r;have bz:=qS b9 ah.o (by have:=ag.o;exact⟨qo,qo,qo⟩);have bh:=YS h o ej.o ca.o;have ar:Hid (aN (fun b=>b<w.heap.size) w wD):=aA ((aJ (aC bq.o a6.o)).trans (ah.o.mono fun b _ a=>by have:=ag.o;exact⟨qo,qo,qo⟩))
   have cd:=aA (H.stays ar.o (fun b a=>a.elim (H.low b) (fun h=>(H.kept b h).2)));have et:=aA (cy.o.aDW (ah.o.mono fun b _ a=>⟨fun e=>a.2.2.1 (by rw[e]),fun e=>a.2.2.2.1 (by rw[e]),fun e=>a.2.2.2.2 (by rw[e])⟩));have cf:=aA (And.intro a6.o.size (And.intro ah.o.size ar.o.size));unfold eZ bX at bh;have bh:=aA bh;have ed:=a6;have ev:=ah;clear cy b9 a6 ah bu bw be ar;go_upto_region 6 with (fail)
   refine cD 6 [(0,false),(1,false),(2,false),(3,false),(4,false),(5,true)] [(6,true)] (fun w'=>w'.heap[E]? =some (qP J s vc vr vn vo vt vu vk vb (.slice la lu.length lc) h)/\w'.heap[w.heap.size]? =some (.cells (rS o) 32 (0,0))) (by kernel_rfl) (by kernel_rfl) c.o ?_;simp only[List.cons_append,List.nil_append];obtain⟨⟨B,C,T,U,V,W,X,Y,Z,e9,F,I,L,N,P,S⟩,-⟩:=lM c.o.1;have ze:=aD c.o.1;obtain⟨⟨o0,o1,o2,o3,o4,o5,o6,o7,o8,o9,an,ao⟩,-⟩:=bK c.o.2;have zo:=aD c.o.2
   repeat (refine dG rfl (fun K hK=> ?_);unfold rd;go_simp;refine hK _ (fun eb h1=> ?_) ?_;(· clear hK K B C T U V W X Y Z e9 F I L N P S ze o0 o1 o2 o3 o4 o5 o6 o7 o8 o9 an ao zo;obtain⟨⟨B,C,T,U,V,W,X,Y,Z,e9,F,I,L,N,P,S⟩,-⟩:=lM h1.1;have ze:=aD h1.1;obtain⟨⟨o0,o1,o2,o3,o4,o5,o6,o7,o8,o9,an,ao⟩,-⟩:=bK h1.2;have zo:=aD h1.2;unfold rd;go_simp);clear hK K)
   clear B C T U V W X Y Z e9 F I L N P S ze o0 o1 o2 o3 o4 o5 o6 o7 o8 o9 an ao zo;refine bJ rfl (fun K1 f=> ?_);unfold mv;go_simp;refine(bh.o wD.drew).mono ?_;rintro e w5 ⟨⟨p,Ap,cp,rfl,hp,ff,dn,de⟩,dp⟩;have ad:=aA (aC (show Below wD.heap.size wD wD.drew from (Below.refl _ _).drew) de);have HP:=aA (And.intro (dp p Ap cp rfl) hp);have cz:=aA ((Bh dn).more (fun b a=>a):jF w5 (fun b=>wD.heap.size<=b/\b<w5.heap.size) Ap (bF p));replace c:=aA (And.intro (aE c.o.1 ad.o) (aE c.o.2 ad.o));refine f _ _ (fun _=>c.o) ?_;clear f K1 hp ff dn de dp;refine bJ rfl (fun K1 f=> ?_);unfold mv;go_simp;refine f _ _ (fun h=>absurd h qe) ?_;clear f K1;unfold cJ;have j:=aA (cd.o.stays (aJ (ok:=fun _=>True) ad.o) (fun _ _=>trivial));have er:=aA (et.o.on ad.o);obtain⟨⟨B,C,T,U,V,W,X,Y,Z,e9,F,I,L,N,P,S⟩,-⟩:=lM c.o.1;have ze:=aD c.o.1;have cm:=aA (Qq J D Q dc rc base da ra ru sy bs Ap cp p w5 j.o.nes.2.2 j.o.jou j.o.dsk j.o.aEJ ⟨j.o.lts.2.1,j.o.lts.2.2.1,j.o.lts.2.2.2⟩ (qD j.o.rows.2 HN.o) j.o.byt.lt (cz.o.more fun b a e=>by have h1:=cd.o.low D cd.o.mem.2.2;have:=a.1;omega) (qA HP.o.1) (qD HP.o.2 ca.o.text) (qF HP.o.2 HN.o j.o.len) HN.o.2.2.2);go_wp2_with fail;refine cm.o.mono ?_;rintro e w6 ⟨rfl,l,A6,ay,c6,az,a1,hl,dq,dk,df,dr,ae,c8,aa⟩;have x:=aA H.lts;have bf:Hid (∀b,(Value.slice ra ru.length rc).ownBlock=some b->base<=b/\b<w.heap.size):=aA (fun b a=>H.aEJ.lt b a);have ai:Hid (∀b,(Value.slice la lu.length lc).ownBlock=some b->base<=b/\b<w.heap.size):=aA (fun b a=>H.log.lt b a);have br:Hid (∀b,base<=b->(b≠E/\b≠J/\b≠D)):=aA (fun b a=>by have:=x.o;exact⟨qo,qo,qo⟩)
   have aq:Hid (∀b,w.heap.size<=b->b≠J/\b≠D/\some b≠(Value.slice ra ru.length rc).ownBlock):=aA (fun b a=>⟨qA x.o,qA x.o,fun e=>qA ((bf.o b e.symm).2)⟩);have ba:Hid (∀b,w.heap.size<=b->b≠E/\some b≠(Value.slice la lu.length lc).ownBlock):=aA (fun b a=>⟨qA x.o,fun e=>qA ((ai.o b e.symm).2)⟩);have a8:Hid (∀b,K b->(b≠J/\b≠D/\some b≠(Value.slice ra ru.length rc).ownBlock)/\(b≠E/\some b≠(Value.slice la lu.length lc).ownBlock)/\b<w.heap.size):=aA (fun b a=>by
    have hk:=H.kept b a;exact⟨⟨fun e=>hk.1 (e▸H.mem.2.1),fun e=>hk.1 (e▸H.mem.2.2),fun e=>hk.1 (H.aEA b e.symm)⟩,⟨fun e=>hk.1 (e▸H.mem.1),fun e=>hk.1 (H.aEB b e.symm)⟩,hk.2⟩)
   have cc:Hid (w.heap.size+2<=W0.heap.size):=aA (by rw[cb.o];simp);have cw:=aA (er.o.aDW (aa.mono fun b _ a=>a.1.elim (fun h=>(a8.o b h).1) (fun h=>aq.o b (qA cc.o))));have eh:=aA (aF c.o.1 aa ⟨j.o.nes.1,j.o.nes.2.1,fun e=>qD ((bf.o E e.symm).1) x.o⟩);obtain⟨ec,ab,ef,eo⟩:=dH (aF (aE HA.o ad.o) aa (aq.o g5 (qA ag.o))) (aF (aE HB.o ad.o) aa (aq.o g6 (qA ag.o))) (aF (aE cn.o ad.o) aa (aq.o g7 (qA ag.o))) (aF (aE bz.o ad.o) aa (aq.o (w.heap.size+1) qo));have ct:Hid (aM (wQ 16) 16 68 w6 base (fun _=>False) (.slice la lu.length lc) lu):=aA (j.o.log.stays (kS 16) aa (fun b a=>⟨(br.o b (ai.o b a).1).2.1,(br.o b (ai.o b a).1).2.2,fun e=>by
    rcases vX j.o.log j.o.aEJ qe with h1|h1
    .rw[h1] at a;cases a
    .exact h1 (a.trans e)⟩) (fun _ h _=>h.elim))
   have eu:=aA ((cz.o.aDW (aa.mono fun b _ a=>aq.o b (qD a.1 cf.o))).more fun b a=>(ba.o b (qD a.1 cf.o):b≠E/\some b≠(Value.slice la lu.length lc).ownBlock));have bd:=Kf E J base lc s G.1 vc vr vn vo vt vu vk vb du dy dw dx dz ea dv dt la lu h dd (.slice ax nx cx) rfl Ap cp p w6 cw.o eh.o ct.o ⟨x.o.1,lT j.o.lts.2.2.2 aa.size⟩ (qD j.o.rows.1 HN.o) eu.o (qD HP.o.2 ca.o.text);obtain⟨bx,el,eg,ee,bg,c1⟩:=hD6 (And.intro hl (And.intro dq c8)) dk df dr ae aa;have hA6:=ec.o;have hD6:=ef.o;unfold aX at hA6;unfold nD at hD6;unfold aX nD at bd;have bd:=aA bd;clear hl dq dk df dr ae c8 aa B C T U V W X Y Z e9 F I L N P S ze cm;obtain⟨⟨x0,x1,x2,x3,x4,x5,x6,x7,x8,x9,fg,fh,fj⟩,-⟩:=bW hA6;have zx:=aD hA6;obtain⟨⟨d0,d1,d2,d3,d4,d5,d6,d7,d8,d9,d10,d11,d12,d13,d14,d15⟩,-⟩:=lM hD6;have zd:=aD hD6;clear hA6 hD6;go_wp2_with fail;refine bd.o.mono ?_;rintro e w7 ⟨rfl,au,av,aw,h7,dm,dh,af,db,bp⟩;have r:=aF ab.o bp (ba.o g6 (qA ag.o));obtain⟨ep,ei,cu,ak,cv⟩:=gJ (aF eo.o bp (ba.o (w.heap.size+1) qo)) dh af bp (And.intro dm db);clear x0 x1 x2 x3 x4 x5 x6 x7 x8 x9 fg fh fj zx d0 d1 d2 d3 d4 d5 d6 d7 d8 d9 d10 d11 d12 d13 d14 d15 zd dh af bp dm db;unfold eH at r;obtain⟨⟨b0,b1,b2,b3,b4,b5,b6,b7⟩,-⟩:=nZ r;have zb:=aD r;clear r;go_wp2_with (refine eG rfl _ (.tmp 4) (.tmp 52) rfl (w.heap.size+1) _ rfl rfl _ _ ep.o (by kernel_rfl) rfl (by simp[Value.oneCell']) ?_;intro wE b8 A)
   obtain⟨⟨r0,r1,r2,r3,r4,r5,r6,r7⟩,-⟩:=nZ b8.o;refine bR (.agg #[.int .i64 G.2.1.err,.complex .f64 (Cm.qb G.2.1.mark.1) (Cm.qb G.2.1.mark.2),.bool G.2.1.aEh,.int .i64 G.2.1.val.1,.int .i64 G.2.1.val.2.1,.string G.2.1.val.2.2,.bool G.2.1.hidden,.int .i64 G.2.1.at_]) ?_;have hG:=aj.o;unfold XU;rw[<-hG];have fp:=ad.o.size;have fq:=c1.o.size;have fr:=ak.o.size;have ft:=A.o.size;have fs:=cf.o;have bl:∀b,(Value.slice au aw.length av).ownBlock=some b->(Value.slice la lu.length lc).ownBlock=some b\/w6.heap.size<=b:=cv.o.2;have cg:∀b,(Value.slice ay a1.length az).ownBlock=some b->(Value.slice ra ru.length rc).ownBlock=some b\/w5.heap.size<=b:=bx.o.2.2;have cl:w.heap.size+1≠E/\w.heap.size+1≠J/\w.heap.size+1≠D:=by have:=x.o;exact⟨qo,qo,qo⟩
   have ch:∀b,(Value.slice ay a1.length az).ownBlock=some b->b≠E/\some b≠(Value.slice la lu.length lc).ownBlock/\b≠w.heap.size+1:=fun b a=>by
    have h1:=bg.o.lt b a;refine⟨(br.o b h1.1).1,fun e=> ?_,fun e=> ?_⟩
    .rcases vX ct.o bg.o qe with h2|h2
     .rw[h2] at e;cases e
     .exact h2 (e.symm.trans a.symm)
    .rcases cg b a with h2|h2
     .have:=(bf.o b h2).2;omega
     .omega
   have ey:∀b,(Value.slice au aw.length av).ownBlock=some b->b≠w.heap.size+1:=fun b a e=>by
    rcases bl b a with h2|h2
    .have:=(ai.o b h2).2;omega
    .omega
   have bo:∀b,((K b\/W0.heap.size<=b)/\b<w'.heap.size)->(b≠E/\some b≠(Value.slice la lu.length lc).ownBlock)/\b≠w.heap.size+1/\some b≠(Value.slice au aw.length av).ownBlock/\some b≠(Value.slice ay a1.length az).ownBlock:=fun b a=>by
    have fl:=cc.o;refine⟨a.1.elim (fun h=>(a8.o b h).2.1) (fun h=>ba.o b qo),fun e=>a.1.elim (fun h=>qA ((a8.o b h).2.2)) (fun h=>by omega),fun e=> ?_,fun e=> ?_⟩
    .rcases bl b e.symm with h2|h2
     .exact a.1.elim (fun h=>(a8.o b h).2.1.2 h2.symm) (fun h=>qA ((ai.o b h2).2))
     .omega
    .rcases cg b e.symm with h2|h2
     .exact a.1.elim (fun h=>(a8.o b h).1.2.2 h2.symm) (fun h=>qA ((bf.o b h2).2))
     .omega
   have fb:=(cw.o.aDW (ak.o.mono fun b _ a=>(bo b ⟨a.1,a.2.1⟩).1)).aDW (A.o.mono fun b _ a=>(bo b ⟨a.1,a.2.1⟩).2.1);have fc:=ee.o.aDW (ak.o.mono fun b _ a=>ba.o b (qA a.1.1));have fe:=fc.aDW (A.o.mono fun b _ a=>by have:=a.1.1;show b≠w.heap.size+1;omega);have hlen:l.length=bs.length+(8+p.length):=bx.o.1;have fm:=H.len;have fo:=HP.o;refine⟨rfl,fun b=>M b\/(Value.slice au aw.length av).ownBlock=some b\/(Value.slice ay a1.length az).ownBlock=some b,fun b=>(K b\/w.heap.size<=b)/\b<wE.heap.size/\some b≠(Value.slice au aw.length av).ownBlock/\some b≠(Value.slice ay a1.length az).ownBlock,l.length,?_,?_,fun b a=>a.1,?_,qo,qo,fun h=>absurd HE.o h⟩
   .refine⟨J,base,du,dy,dw,dx,dz,ea,dv,dt,au,av,aw,h7,ay,az,a1,A6,c6,l,l.length,?_⟩;exact {
     eng:=aF ei.o A.o cl.1.symm
     jou:=aF (aF el.o ak.o ⟨j.o.nes.1.symm,fun e=>qD ((ai.o J e.symm).1) x.o⟩) A.o cl.2.1.symm
     dsk:=aF (aF eg.o ak.o ⟨j.o.nes.2.1.symm,fun e=>qD ((ai.o D e.symm).1) x.o⟩) A.o cl.2.2.symm
     sto:=fb.more fun b a=>⟨a.1.imp id (fun h=>qA cc.o),qA a.2.1,(bo b ⟨a.1,a.2.1⟩).2.2.1,(bo b ⟨a.1,a.2.1⟩).2.2.2⟩
     log:=cu.o.stays (kS 16) A.o (fun b a=>ey b a) (fun _ h _=>h.elim)
     aEJ:=(bg.o.stays (kS 1) ak.o (fun b a=>⟨(ch b a).1,(ch b a).2.1⟩) (fun _ h _=>h.elim)).stays (kS 1) A.o (fun b a=>(ch b a).2.2) (fun _ h _=>h.elim)
     byt:=fe.more fun b a=>⟨.inr (qA a.1.1),qA a.1.2,fun e=>by
      rcases bl b e.symm with h2|h2
      .have:=(ai.o b h2).2;have:=a.1.1;omega
      .have:=a.1.2;omega,a.2⟩
     len:=rfl
     lts:=⟨x.o.1,x.o.2.1,x.o.2.2.1,qA x.o.2.2.2⟩
     nes:=j.o.nes
     mem:=⟨.inl H.mem.1,.inl H.mem.2.1,.inl H.mem.2.2⟩
     aEB:=fun b a=> .inr (.inl a)
     aEA:=fun b a=> .inr (.inr a)
     kept:=fun b a=>⟨fun hm=>by
      rcases hm with h1|h1|h1
      .rcases a.1 with h2|h2
       .exact(H.kept b h2).1 h1
       .have:=H.low b h1;omega
      .exact a.2.2.1 h1.symm
      .exact a.2.2.2 h1.symm,a.2.1⟩
     low:=fun b hm=>by
      rcases hm with h1|h1|h1
      .have:=H.low b h1;omega
      .have:=(cu.o.lt b h1).2;omega
      .have:=(bg.o.lt b h1).2;omega
     rows:=⟨by rw[cv.o.1];have:=H.rows.1;omega,by rw[bx.o.2.1];have:=H.rows.2;omega⟩}
   .intro b hm
    rcases hm with h1|h1|h1
    .exact .inl h1
    .exact(bl b h1).imp (H.aEB b) (fun h=>by omega)
    .exact(cg b h1).imp (H.aEA b) (fun h=>by omega)
   .have ez:aN (fun b=>b<w.heap.size) w w5:=((aJ (aC bq.o ed.o)).trans (ev.o.mono fun b _ a=>by have:=ag.o;exact⟨qo,qo,qo⟩)).trans (aJ ad.o);have hM:∀b,¬M b->(b≠E/\b≠J/\b≠D)/\some b≠(Value.slice la lu.length lc).ownBlock/\some b≠(Value.slice ra ru.length rc).ownBlock:=fun b a=>⟨⟨fun e=>a (e▸H.mem.1),fun e=>a (e▸H.mem.2.1),fun e=>a (e▸H.mem.2.2)⟩,fun e=>a (H.aEB b e.symm),fun e=>a (H.aEA b e.symm)⟩
    have fa:aN (fun b=>¬M b/\b<w.heap.size) w w7:=((ez.mono fun b _ a=>a.2).trans (c1.o.mono fun b _ a=>⟨(hM b a.1).1.2.1,(hM b a.1).1.2.2,(hM b a.1).2.2⟩)).trans (ak.o.mono fun b _ a=>⟨(hM b a.1).1.1,(hM b a.1).2.1⟩);exact(fa.trans (A.o.mono fun b _ a=>by show b≠w.heap.size+1;have:=a.2;omega)).mono fun b h1 a=>⟨a,h1⟩
  .have bn:=Nn (s:=s) (o:=o) (by rw[<-aj.o];exact he);rw[<-aj.o] at bn;rw[bn.2] at bm;subst bm;have be:Hid (pJ.all (·.oneCell')=true):=aA (by simp[pJ,Value.oneCell']);have ek:=aA bn;have b1:(G.2.2.2 != 0)=true:=by simpa using he
   have HE:=aA he;clear bn he;refine bJ rfl (fun K1 f=> ?_);unfold mv;refine lF rfl _ (.tmp 5) (.tmp 24) rfl g5 _ rfl rfl _ _ bc.o (by kernel_rfl) rfl bu.o ?_;intro wA HA y;replace c:=aA (And.intro (aF c.o.1 y.o g.o.1.1) (aF c.o.2 y.o g.o.1.2));replace ab:=qS ab y.o g.o.2.2.2.1.symm;replace r:=qS r y.o g.o.2.2.2.2.1.symm;refine f _ _ (fun _=>c.o) ?_;clear f K1;refine bJ rfl (fun K1 f=> ?_);unfold mv;refine lF rfl _ (.tmp 6) (.tmp 25) rfl g6 _ rfl rfl _ _ ab.o (by kernel_rfl) rfl bw.o ?_;intro wB HB q;replace c:=aA (And.intro (aF c.o.1 q.o g.o.2.1.1) (aF c.o.2 q.o g.o.2.1.2));replace HA:=qS HA q.o g.o.2.2.2.1;replace r:=qS r q.o g.o.2.2.2.2.2.symm;refine f _ _ (fun _=>c.o) ?_;clear f K1;refine bJ rfl (fun K1 f=> ?_);unfold mv;refine lF rfl _ (.tmp 7) (.tmp 26) rfl g7 _ rfl rfl _ _ r.o (by kernel_rfl) rfl be.o ?_;intro wD cn z;replace c:=aA (And.intro (aF c.o.1 z.o g.o.2.2.1.1) (aF c.o.2 z.o g.o.2.2.1.2));replace HA:=qS HA z.o g.o.2.2.2.2.1;replace HB:=qS HB z.o g.o.2.2.2.2.2;refine f _ _ (fun _=>c.o) ?_;clear f K1;refine bJ rfl (fun K1 f=> ?_);unfold mv;go_simp;refine f _ _ (fun h=>absurd h qe) ?_;clear f K1;unfold cJ;have ah:Hid (aN (fun b=>b≠g5/\b≠g6/\b≠g7) w' wD):=aA ((y.o.mono fun b _ a=>a.1).trans ((q.o.mono fun b _ a=>a.2.1).trans (z.o.mono fun b _ a=>a.2.2)));clear y q z bc ab r;have bz:=qS b9 ah.o (by have:=ag.o;exact⟨qo,qo,qo⟩);have bk:=HB.o;unfold eH at bk;obtain⟨⟨b0,b1,b2,b3,b4,b5,b6,b7⟩,-⟩:=nZ bk;have zb:=aD bk
   clear bk;go_wp2_with (refine eG rfl _ (.tmp 4) (.tmp 30) rfl (w.heap.size+1) _ rfl rfl _ _ bz.o (by kernel_rfl) rfl (by simp[Value.oneCell']) ?_;intro wE b8 A)
   have ar:Hid (aN (fun b=>b<w.heap.size) w wE):=aA ((aJ (aC bq.o a6.o)).trans ((ah.o.mono fun b _ a=>by have:=ag.o;exact⟨qo,qo,qo⟩).trans (A.o.mono fun b _ a=>by show (_:Nat)≠_;omega)));obtain⟨⟨r0,r1,r2,r3,r4,r5,r6,r7⟩,-⟩:=nZ b8.o;refine bR (.agg #[.int .i64 G.2.1.err,.complex .f64 (Cm.qb G.2.1.mark.1) (Cm.qb G.2.1.mark.2),.bool G.2.1.aEh,.int .i64 G.2.1.val.1,.int .i64 G.2.1.val.2.1,.string G.2.1.val.2.2,.bool G.2.1.hidden,.int .i64 G.2.1.at_]) ?_;have hX:=H.stays ar.o (fun b a=>a.elim (H.low b) (fun h=>(H.kept b h).2));have hG:=aj.o;unfold XU;rw[<-hG];refine⟨rfl,M,K,m,?_,fun b a=> .inl a,fun b a=> .inl a,ar.o.mono fun b a _=>a,lR _,qo,fun _=>rfl⟩;rw[ek.o.1];exact⟨J,base,vc,vr,vn,vo,vt,vu,vk,vb,la,lc,lu,h,ra,rc,ru,da,dc,bs,sy,{hX with rows:=⟨Nat.le_succ_of_le hX.rows.1,Nat.le_succ_of_le hX.rows.2⟩}⟩
end
theorem Np{p:Prop}(h:p:=by
 go_wp2;go_ret;exact⟨by rw[HR.o];rfl,Below.refl _ _⟩):p:=h
structure Gl (w:World):Prop where
 aEI:iA w
 len:∃m,w.cell? ⟨0,0,none⟩=some (.int .i64 m)
 tab:Lib.TabIs prog w "internal/strconv.uint64pow10" .u64 Lib.pow10Tab
theorem XV:prog.globalNamed "internal/strconv.uint64pow10"=some 3:=by kernel_rfl
theorem Gl.lt{w:World}(h:Gl w):3<w.heap.size:=by
 have h1:=h.tab;unfold Lib.TabIs World.var? at h1;rw[XV] at h1
 rcases Nat.lt_or_ge 3 w.heap.size with h2|h2
 .exact h2
 .simp[Array.getElem?_eq_none h2] at h1
theorem Gl.stay{w w':World}{q:nP}(h:Gl w)(c:aN q w w')(a:∀b,b<6->q b):Gl w':={
 aEI:=h.aEI.stay c (a 2 qe)
 len:=by
  obtain⟨m,hm⟩:=h.len;exact⟨m,c.cell (p:=⟨0,0,none⟩) (a 0 qe) hm⟩
 tab:=by
  have h1:=h.tab;unfold Lib.TabIs World.var? at *;rw[XV] at *;simp only[Option.bind_some] at *;rw[c.block 3 h.lt (a 3 qe)];exact h1}
theorem Gl.on{w w':World}(h:Gl w)(a:Below w.heap.size w w'):Gl w':=h.stay (aJ (ok:=fun _=>True) a) (fun _ _=>trivial)
theorem IZ:∀(l:lU),(0<=Lib.indexByte l 32->cO l=(l.take (Lib.indexByte l 32).toNat,l.drop ((Lib.indexByte l 32).toNat+1)))/\(Lib.indexByte l 32<0->cO l=(l,[]))
 | []=>⟨fun h=>by simp[Lib.indexByte] at h,fun _=>rfl⟩
 |b::l=>by
  have d:=IZ l;have i:=Lib.indexByte_ge l 32;by_cases a:b=32
  .subst a;refine⟨fun _=>rfl,fun h=>by simp[Lib.indexByte] at h⟩
  .have c:b.toNat≠32:=fun e=>a (UInt8.toNat_inj.1 e)
   have f:cO (b::l)=(b::(cO l).1,(cO l).2):=by
    unfold cO;rw[List.takeWhile_cons_of_pos (by simpa using c),List.dropWhile_cons_of_pos (by simpa using c)]
   have g:Lib.indexByte (b::l) 32=if Lib.indexByte l 32== -1 then -1 else Lib.indexByte l 32+1:=by
    rw[Lib.indexByte,iN (by simpa using a)]
   rw[f,g];by_cases h1:Lib.indexByte l 32= -1
   .rw[iP (by simpa using h1)];refine⟨fun h=>absurd h qe,fun _=> ?_⟩;rw[d.2 qo]
   .rw[iN (by simpa using h1)];refine⟨fun _=> ?_,fun h=>by omega⟩;rw[d.1 qo];have e:(Lib.indexByte l 32+1).toNat=(Lib.indexByte l 32).toNat+1:=qo;rw[e];rfl
theorem Nq(l:lU):(Lib.cut l [32]).1=(cO l).1/\(Lib.cut l [32]).2.1=(cO l).2:=by
 have h:=IZ l;unfold Lib.cut;rw[Lib.index_one];split
 .rename_i h0;rw[h.1 h0];exact⟨rfl,rfl⟩
 .rename_i h0;rw[h.2 qo];exact⟨rfl,rfl⟩
theorem rI(s:bY)(c:s.size<=100000)(w:World)(b:Gl w):Calls prog 19 #[.string s] w (sG (.string (bs (cO s.data.toList).1)) (.string (bs (cO s.data.toList).2)) w):=by
 obtain⟨m,hm⟩:=b.len;have a:=aA (strings_Cut s ⟨#[32]⟩ m w qo hm);have h:=Nq s.data.toList;rw[show (⟨#[32]⟩:bY).data.toList=[32] from rfl,h.1,h.2] at a;unfold sG;clear b hm h;go_enter func19,ntmps19;go_wp2_with fail;refine a.o.mono ?_;rintro e w1 ⟨rfl,n,rfl⟩;go_wp2;go_ret2
 exact⟨rfl,gB (Below.refl _ _) ⟨_,rfl⟩⟩
theorem GH(s:bY):bs s.data.toList=s:=by unfold bs;rw[Array.toArray_toList]
theorem MX:xZ++[str "tick"]=[cK (1:Nat),cK (2:Nat),cK (3:Nat),cK (4:Nat),cK (5:Nat),cK (6:Nat),cK (7:Nat),cK (8:Nat)]:=by kernel_rfl
theorem Sx{s:bY}{k:Nat}(h1:1<=k)(h8:k<=8)(e:∀j:Nat,1<=j->j<k->cK j≠s)(he:cK k=s):oR s.data.toList=k:=by
 unfold oR;rw[MX,GH];have f:k=1\/k=2\/k=3\/k=4\/k=5\/k=6\/k=7\/k=8:=qo;have c:∀j:Nat,1<=j->j<k->decide (cK j=s)=false:=fun j a b=>dF (e j a b)
 have d:decide (cK k=s)=true:=dX he;clear he e
 rcases f with rfl|rfl|rfl|rfl|rfl|rfl|rfl|rfl
 .simp only[List.findIdx_cons,d];rfl
 .simp only[List.findIdx_cons,d,c 1 qe qe];rfl
 .simp only[List.findIdx_cons,d,c 1 qe qe,c 2 qe qe];rfl
 .simp only[List.findIdx_cons,d,c 1 qe qe,c 2 qe qe,c 3 qe qe];rfl
 .simp only[List.findIdx_cons,d,c 1 qe qe,c 2 qe qe,c 3 qe qe,c 4 qe qe];rfl
 .simp only[List.findIdx_cons,d,c 1 qe qe,c 2 qe qe,c 3 qe qe,c 4 qe qe,c 5 qe qe];rfl
 .simp only[List.findIdx_cons,d,c 1 qe qe,c 2 qe qe,c 3 qe qe,c 4 qe qe,c 5 qe qe,c 6 qe qe];rfl
 .simp only[List.findIdx_cons,d,c 1 qe qe,c 2 qe qe,c 3 qe qe,c 4 qe qe,c 5 qe qe,c 6 qe qe,c 7 qe qe];rfl
theorem Sy{s:bY}(d:∀j:Nat,1<=j->j<9->cK j≠s):oR s.data.toList=0:=by
 unfold oR;rw[MX,GH];have c:∀j:Nat,1<=j->j<9->decide (cK j=s)=false:=fun j a b=>dF (d j a b)
 simp only[List.findIdx_cons,c 1 qe qe,c 2 qe qe,c 3 qe qe,c 4 qe qe,c 5 qe qe,c 6 qe qe,c 7 qe qe,c 8 qe qe];rfl
theorem Sz(s:bY)(w:World):Calls prog 21 #[.string s] w (aP (.int .i64 (oR s.data.toList)) w):=by
 obtain⟨R,c⟩:=xE (oR s.data.toList);have r:=aA (fun (k:Nat) h1 h8 m he=>c.trans (Sx (s:=s) (k:=k) h1 h8 m he));have t:=aA (fun m=>c.trans (Sy (s:=s) m));have q:=aA (fun k w=>AP k w);rw[<-c];unfold aP at *;clear c;go_enter func21,ntmps21;go_wp2;go_loopw [3] (fun i wr=>∃(k:Nat),1<=k/\k<=9/\i=.int .i64 k/\Hid (∀j:Nat,1<=j->j<k->cK j≠s)/\Hid (Below w.heap.size w wr)) (fun i _=>9 - (intOf i).toNat)
 case atStart=>exact⟨1,qo,qo,rfl,aA (fun j a b=>by omega),aA (Below.refl _ _)⟩
 case round=>
  obtain⟨k,h1,h9,rfl,f,n⟩:=hrel;by_cases x:k<=8
  .have y:(k:Int)<=8:=qo;go_wp2_with fail;refine(q.o _ _).mono ?_;rintro e w1 ⟨rfl,p⟩;have o:=qB n p;have d:=aA (fun he=>r.o k h1 x f.o he);clear p;have l:Hid (cK (k:Int)≠s->∀j:Nat,1<=j->j<k+1->cK j≠s):=aA (fun he j a b=>by
    by_cases hj:j=k
    .rw[hj];exact he
    .exact f.o j a qo)
   by_cases he:cK (k:Int)=s
   .have b1:((cK (k:Int)).toList==s.toList)=true:=by rw[he];simp
    have g:=aA (d.o he);clear he d l;generalize cK (k:Int)=a at *;go_wp2;go_ret;exact⟨by rw[g.o];rfl,o.o⟩
   .have b1:((cK (k:Int)).toList==s.toList)=false:=by
     rw[Bool.eq_false_iff];intro h;exact he (FT (by simpa using h))
    have v:=aA (l.o he);clear he d l;generalize cK (k:Int)=a at b1 ⊢;go_wp2;go_round
    case rel=>exact⟨k+1,qo,qo,by go_num,v,o⟩
    case measure=>simp[intOf];omega
  .obtain rfl:k=9:=qo;have g:=aA (t.o (fun j a b=>f.o j a b));go_wp2;go_ret;exact⟨by rw[g.o];rfl,n.o⟩
theorem OQ:∀(l:lU) (a:Nat),(∀c∈l,bB c=true)->l.foldl (fun a c=>a * 10+(c.toNat - 48)) a<(a+1) * 10 ^ l.length
 | [],a,_=>by simp
 |c::l,a,h=>by
  have e:=(eY c).1 (h c List.mem_cons_self);have d:=OQ l (a * 10+(c.toNat - 48)) (fun x b=>h x (List.mem_cons_of_mem _ b));rw[List.foldl_cons,List.length_cons,Nat.pow_succ];refine lL d ?_;have h1:a * 10+(c.toNat - 48)+1<=(a+1) * 10:=qo
  calc (a * 10+(c.toNat - 48)+1) * 10 ^ l.length<=((a+1) * 10) * 10 ^ l.length:=Nat.mul_le_mul_right _ h1
   _=(a+1) * (10 ^ l.length * 10):=by rw[Nat.mul_assoc,Nat.mul_comm 10]
theorem MY{l:lU}(h:¬(l=[]\/9<l.length\/l.head?=some 48\/l.all bB=false)):jN l=(qH l:Int)/\Lib.atoiAll l=.ok (qH l:Int):=by
 simp only[not_or] at h;obtain⟨h1,h2,h3,h4⟩:=h;have a:∀c∈l,bB c=true:=by simpa using h4
 have b:=OQ l 0 a;have hp:10 ^ l.length<=10 ^ 9:=Nat.pow_le_pow_right qe qo;refine⟨?_,?_⟩
 .unfold jN;rw[iN (by simp only[not_or];exact⟨h1,h2,h3,h4⟩)]
 .rw[AB a h1,iP (by unfold qH;omega)]
theorem sU{l:lU}(h:l=[]\/9<l.length\/l.head?=some 48\/l.all bB=false):jN l=0:=by unfold jN;rw[iP h]
theorem Gz(s:bY)(H:s.size<=100000)(w:World)(G:iA w):Calls prog 23 #[.string s] w (aP (.int .i64 (jN s.data.toList)) w):=by
 have f:Hid (s.data.toList.length=s.size):=aA (by rw[Array.length_toList];rfl);unfold aP;by_cases h0:s=⟨#[]⟩
 .have HR:Hid (jN s.data.toList=0):=aA (sU (.inl (by rw[h0])));obtain⟨d1,D⟩:=fY s [] h0;clear h0;go_enter func23,ntmps23;exact Np
 .obtain⟨d1,D⟩:=fP s [] h0;have r:0<s.size:=by
   rcases Nat.eq_zero_or_pos s.size with h|h
   .exact absurd (FT (a:=s) (b:=⟨#[]⟩) (by
     have:s.data.toList=[]:=List.length_eq_zero_iff.1 (by rw[f.o];exact h);have E:s=⟨#[]⟩:=by rw[<-GH s,this];rfl
     rw[E])) h0
   .exact h
  have C:=aA r;clear h0;by_cases h9:9<s.size
  .have HR:Hid (jN s.data.toList=0):=aA (sU (.inr (.inl (by rw[f.o];exact h9))));have h91:(9:Int)<(s.size:Int):=qo;go_enter func23,ntmps23;exact Np
  .have h91:¬((9:Int)<(s.size:Int)):=qo;have p:s.data.toList.head?=some s[0]:=by
    rw[List.head?_eq_getElem?,gE (by rw[f.o];exact r)];rfl
   have g:=aA p;clear p;by_cases h48:(s[0].toNat:Int)=48
   .have HR:Hid (jN s.data.toList=0):=aA (sU (.inr (.inr (.inl (by rw[g.o];congr 1;exact UInt8.toNat_inj.1 (by show s[0].toNat=48;omega))))));clear g;generalize M:s[0].toNat=c0 at *;go_enter func23,ntmps23;exact Np
   .have B:Hid (s.data.toList.head?≠some 48):=aA (by
     rw[g.o];intro e;injection e with e;rw[e] at h48;exact h48 rfl)
    have t:=aA h9;clear g;go_enter func23,ntmps23;go_wp2;go_loop [3,20] (fun c i=>∃(k:Nat),k<=s.size/\i=.int .i64 k/\Hid (∀x∈s.data.toList.take k,bB x=true)) (fun _ i=>s.size - (intOf i).toNat)
    case atStart=>exact⟨0,qo,rfl,aA (fun x d=>by simp at d)⟩
    case round=>
     obtain⟨k,J,rfl,n⟩:=hrel;by_cases q:k<s.size
     .have z:Hid (bB s[k]=true->∀x∈s.data.toList.take (k+1),bB x=true):=aA (fun h x d=>by
       rw[List.take_succ_eq_append_getElem (by rw[f.o];exact q),List.mem_append,List.mem_singleton] at d
       rcases d with d|d
       .exact n.o x d
       .rw[d];exact h)
      have o:Hid (bB s[k]=false->jN s.data.toList=0):=aA (fun h=>sU (.inr (.inr (.inr (List.all_eq_false.2 ⟨s[k],by
       have:s.data.toList[k]'(by rw[f.o];exact q)=s[k]:=rfl;rw[<-this];exact List.getElem_mem _,by rw[h];decide⟩)))))
      have j:=aA (eY s[k]);by_cases K:(s[k].toNat:Int)<48
      .have HR:=aA (o.o (by rw[Bool.eq_false_iff];intro h;have:=(j.o.1 h).1;omega));exact Np
      .by_cases L:(57:Int)<(s[k].toNat:Int)
       .have HR:=aA (o.o (by rw[Bool.eq_false_iff];intro h;have:=(j.o.1 h).2;omega));exact Np
       .have A:=aA (z.o (j.o.2 ⟨qo,qo⟩));go_wp2;go_round
        case rel=>exact⟨k+1,qo,by go_num,A⟩
        case measure=>simp[intOf];omega
     .obtain rfl:k=s.size:=qo;have m:=aA (MY (l:=s.data.toList) (by
       simp only[not_or];refine⟨fun e=> ?_,by rw[f.o];exact t.o,B.o,?_⟩
       .have h1:=f.o;rw[e] at h1;have h2:=C.o;simp at h1;omega
       .rw[Bool.not_eq_false,List.all_eq_true];intro x d;exact n.o x (by rw[List.take_of_length_le (by rw[f.o];exact lR _)];exact d)))
      have y:=aA (TY s H (by rw[m.o.2];intro h;cases h) w G);go_wp2_with fail;refine y.o.mono ?_;rintro e w1 ⟨v,I,rfl,hm,F⟩;rw[m.o.2] at hm;obtain⟨rfl,rfl⟩:=hm;go_wp2;go_ret;exact⟨by rw[m.o.1];rfl,F⟩
end Go.Proofs.YthcgdgkpgdjahaaGreatDoor
