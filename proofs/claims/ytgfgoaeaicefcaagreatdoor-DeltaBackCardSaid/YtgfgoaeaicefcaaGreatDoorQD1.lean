/- Part of DeltaBack. -/
import Derived.Test.YtgfgoaeaicefcaaGreatDoorQD0
set_option maxHeartbeats 16000000
set_option maxRecDepth 100000
set_option linter.all false
namespace Go.Proofs.YtgfgoaeaicefcaaGreatDoor
open Go.RowKit Tryz
variable {w:Wq}{B i n:Nat}{v9 u:Value}{s:Wz}
def RO {α:Type}(same:α->α->Bool):Option α->Option α->Bool|some x,some y=>same x y|_,_=>false
theorem JV {α:Type}(same:α->α->Bool)(l m:List α):eZ (RO same) (l.map some) (m.map some)=eZ same l m:=by unfold eZ;rw[aa,aa,List.all_map];congr 2;funext x;simp only[Function.comp,IW];rfl
theorem sq {α:Type}{size G:Nat}{E:List Nat}{A:List Value->Value}{R:Wq->Nat->List Value->α->Prop}{same:α->α->Bool}(P:QF G E A)(O:E.length=size)(K:IE R E)(L:By R)(H:uF R){l m:List α}{C:Nat}(S:aX size R w B v9 l)(T:aX size R w B u m)(hB:B<=w.heap.size)(M:oD C)(N:∀W c d x y,JJ w W->R W W.heap.size c x->R W W.heap.size d y->Calls prog C #[A c,A d] W (dP (same x y) W)):Calls prog G #[v9,u,.func (.func C) #[] #[]] w (dP (eZ same l m) w):=by classical
 subst O;obtain⟨F,h1,h2,h3,p⟩:=S;obtain⟨ds,z,Z,U,D⟩:=T;obtain⟨f,hf⟩:∃f:List Value->Option α,∀c x,R w B c x->f c=some x:=⟨λc=>if h:∃x,R w B c x then some h.choose else none,λc x a=>by have h:∃x,R w B c x:=⟨x,a⟩;show(if h:∃x,R w B c x then some h.choose else none)=some x;rw[dif_pos h,L.eq h.choose_spec a]⟩;have V:F.map f=l.map some:=Ck (R:=λw B c o=>∃x,o=some x/\R w B c x) (w:=w) (B:=B) (λc o h=>by obtain⟨x,rfl,h⟩:=h;exact hf c x h) (by rw[aa];exact h1) λi c o b g=>by rw[aq]at g;cases a:l[i]? with|none=>rw[a]at g;cases g|some x=>rw[a]at g;cases g;exact⟨x,rfl,p i c x b a⟩
 have X:ds.map f=m.map some:=Ck (R:=λw B c o=>∃x,o=some x/\R w B c x) (w:=w) (B:=B) (λc o h=>by obtain⟨x,rfl,h⟩:=h;exact hf c x h) (by rw[aa];exact z) λi c o b g=>by rw[aq]at g;cases a:m[i]? with|none=>rw[a]at g;cases g|some x=>rw[a]at g;cases g;exact⟨x,rfl,D i c x b a⟩
 have e:=MA (q:=λc d=>RO same (f c) (f d)) (same:=RO same) (f:=f) F ds λ_ _=>rfl;rw[V,X,JV]at e;rw[<-e];have k:∀{es:List (List Value)}{n:List α},es.length=n.length->(∀(i:Nat) c x,es[i]?=some c->n[i]?=some x->R w B c x)->∀c∈es,∃x,R w B c x:=λY h c b=>by obtain⟨i,hi,rfl⟩:=List.mem_iff_getElem.1 b;exact⟨_,h i _ _ (aF hi) (aF (by omega))⟩
 refine P (by rw[h1];exact h3.ki hB (KI.below Jz)) (λc b=>?_) (by rw[z];exact U.ki hB (KI.below Jz)) (λc b=>?_) M λW c d t b j=>?_
 .obtain⟨x,a⟩:=k h1 p c b;exact K.sh a
 .obtain⟨x,a⟩:=k z D c b;exact K.sh a
 .obtain⟨x,a⟩:=k h1 p c b;obtain⟨y,J⟩:∃y,R w B d y:=by
   rcases j with j|j
   .exact k h1 p d j
   .exact k z D d j
  have I:=aI hB t.size;have:=N W c d x y t (H.go I (KI.below (t.mono hB)) a) (H.go I (KI.below (t.mono hB)) J);simp only[hf c x a,hf d y J];exact this
theorem OQ (x y:Wz)(w:Wq):Calls prog 174 #[.string x,.string y] w (dP (bg x y) w):=by have h:=Hi (show bg x y=(x.toList==y.toList)from rfl);generalize bg x y=b at*;go_enter func174,ntmps174;go_wp2_with fail;go_ret;exact⟨by rw[h.o];rfl,aB _ _⟩
theorem Ol {l m:List Wz}(b:dk w B v9 l)(e:dk w B u m)(hB:B<=w.heap.size):Calls prog 173 #[v9,u,.func (.func 174) #[] #[]] w (dP (eZ bg l m) w):=by obtain⟨_,_,_,_,P⟩:=xg;exact sq P rfl la tJ ak b e hB (λa w=>by kernel_rfl) λW c d x y h f g=>by obtain⟨rfl,_⟩:=f;obtain⟨rfl,_⟩:=g;exact OQ x y W
theorem On {l m:List eQ}(b:aX 3 fQ w B v9 l)(e:aX 3 fQ w B u m)(hB:B<=w.heap.size):Calls prog 28 #[v9,u,.func (.func 29) #[] #[]] w (dP (eZ ij l m) w):=by obtain⟨P,_,_,_,_⟩:=xg;exact sq P rfl sb KJ ak b e hB (λa w=>by kernel_rfl) λW c d x y h f g=>OO x y c d f g
theorem MB {l m:List dE}(b:aX 3 da w B v9 l)(e:aX 3 da w B u m)(hB:B<=w.heap.size):Calls prog 30 #[v9,u,.func (.func 31) #[] #[]] w (dP (eZ gp l m) w):=by obtain⟨_,P,_,_,_⟩:=xg;exact sq P rfl qp Hh dz b e hB (λa w=>by kernel_rfl) λW c d x y h f g=>Lg x y c d f g Jq
theorem JW {l m:List dc}(b:aX 3 fw w B v9 l)(e:aX 3 fw w B u m)(hB:B<=w.heap.size):Calls prog 91 #[v9,u,.func (.func 86) #[] #[]] w (dP (eZ fX l m) w):=by obtain⟨_,_,_,P,_⟩:=xg;exact sq P rfl mT KH ak b e hB (λa w=>by kernel_rfl) λW c d x y h f g=>ON x y c d f g
section
variable {w:Wq} {B:Nat}
theorem OM (x y:db)(c d:List Value)(hx:gn w B c x)(hy:gn w B d y)(hB:B<=w.heap.size):Calls prog 90 #[.agg c.toArray,.agg d.toArray] w (dP (vO x y) w):=by
 obtain⟨K,U,L,V,M,X,N,Y,rfl,tf,tm,ts,tt⟩:=ew hx;obtain⟨O,Z,P,dm,S,ds,T,dt,rfl,uf,um,us,ut⟩:=ew hy;obtain⟨W0,q8⟩:=Jj (w.alloc (.cells #[I6 x.prio,.slice K x.frm.length U,.slice L x.mat.length V,.slice M x.sets.length X,.slice N x.dst.length Y] 50 (0,0)));obtain⟨g,qa⟩:=Jj (W0.alloc (.cells #[I6 y.prio,.slice O y.frm.length Z,.slice P y.mat.length dm,.slice S y.sets.length ds,.slice T y.dst.length dt] 50 (0,0)));obtain⟨vr,q7,jl,hX,hY⟩:=EC q8 qa;replace jl:=Hi jl;have jn:=Hi λW (a:JJ g W)=>ik ((a.block _ (by omega)).t hX);have F:=Hi λW (a:JJ g W)=>ik ((a.block _ (by omega)).t hY);have b:=Hi λW (a:JJ g W)=>jl.o.t (a.mono (by omega));have k:=Hi λW (a:JJ g W)=>Ol (l:=x.frm) (m:=y.frm) (B:=w.heap.size) (tf.below (b.o W a) hB) (uf.below (b.o W a) hB) (b.o W a).size;have c1:=Hi λW (a:JJ g W)=>uS x.mat y.mat _ _ _ W (tm.below (b.o W a) hB) (um.below (b.o W a) hB) (b.o W a).size;have c2:=Hi λW (a:JJ g W)=>No x.sets y.sets _ _ _ W (dZ ts hB (av (b.o W a) hB)) (dZ us hB (av (b.o W a) hB)) (b.o W a).size;have D:=Hi λW (a:JJ g W)=>ov x.dst y.dst _ _ _ W (tt.below (b.o W a) hB) (ut.below (b.o W a) hB) (b.o W a).size;have jf:=Hi λW (a:JJ g W)=>(⟨(jn.o W a).1,(jn.o W a).2.1,(jn.o W a).2.2.1,(jn.o W a).2.2.2.1,(jn.o W a).2.2.2.2,(F.o W a).1,(F.o W a).2.1,(F.o W a).2.2.1,(F.o W a).2.2.2.1,(F.o W a).2.2.2.2⟩:W.cell? ⟨w.heap.size,0,none⟩=some (I6 x.prio)/\W.cell? ⟨w.heap.size,1,none⟩=some (.slice K x.frm.length U)/\W.cell? ⟨w.heap.size,2,none⟩=some (.slice L x.mat.length V)/\W.cell? ⟨w.heap.size,3,none⟩=some (.slice M x.sets.length X)/\W.cell? ⟨w.heap.size,4,none⟩=some (.slice N x.dst.length Y)/\W.cell? ⟨w.heap.size+1,0,none⟩=some (I6 y.prio)/\W.cell? ⟨w.heap.size+1,1,none⟩=some (.slice O y.frm.length Z)/\W.cell? ⟨w.heap.size+1,2,none⟩=some (.slice P y.mat.length dm)/\W.cell? ⟨w.heap.size+1,3,none⟩=some (.slice S y.sets.length ds)/\W.cell? ⟨w.heap.size+1,4,none⟩=some (.slice T y.dst.length dt));have jm:=Hi (aB g.heap.size g);obtain⟨a0,a1,p,q,t,b0,b1,z,A,C⟩:=jf.o _ jm.o;have f:Hid (vO x y=((x.prio==y.prio)&&(eZ bg x.frm y.frm&&(fc fj x.mat y.mat&&(fc kO x.sets y.sets&&fc bg x.dst y.dst))))):=Hi rfl;generalize vO x y=R at*;clear hx hy hX hY tf tm ts tt uf um us ut;by_cases hn:x.prio=y.prio;case neg=>have I:(x.prio==y.prio)=false:=beq_eq_false_iff_ne.2 hn;have j:=Hi (show R=false by rw[f.o,I];rfl);clear k c1 c2 D;go_enter func90,ntmps90;go_wp2_with fail;go_ret;exact⟨by rw[j.o];rfl,b.o _ jm.o⟩
 have I:(x.prio==y.prio)=true:=beq_iff_eq.2 hn;rw[I,az]at f;clear hn;go_enter func90,ntmps90;cases h0:eZ bg x.frm y.frm
 .rw[h0]at f k;have j:=Hi (show R=false from f.o);clear c1 c2 D;go_wp2_with((with_reducible refine(k.o _ jm.o).mono ?_);rintro e J ⟨rfl,o⟩;have k0:=(JK jm.o o));go_ret;exact⟨by rw[j.o];rfl,b.o _ k0⟩
 rw[h0,az]at f;rw[h0]at k;cases h1:fc fj x.mat y.mat
 .rw[h1]at f c1;have j:=Hi (show R=false from f.o);clear c2 D;go_wp2_with(first|((with_reducible refine(c1.o _ k0).mono ?_);rintro e z1 ⟨rfl,E⟩;have h:=(JK k0 E))|((with_reducible refine(k.o _ jm.o).mono ?_);rintro e J ⟨rfl,o⟩;have k0:=JK jm.o o;obtain⟨a0,a1,p,q,t,b0,b1,z,A,C⟩:=jf.o _ k0));go_ret;exact⟨by rw[j.o];rfl,b.o _ h⟩
 rw[h1,az]at f;rw[h1]at c1;cases h2:fc kO x.sets y.sets
 .rw[h2]at f c2;have j:=Hi (show R=false from f.o);clear D;go_wp2_with(first|((with_reducible refine(c2.o _ h).mono ?_);rintro e z2 ⟨rfl,H⟩;have G:=(JK h H))|((with_reducible refine(c1.o _ k0).mono ?_);rintro e z1 ⟨rfl,E⟩;have h:=JK k0 E;obtain⟨a0,a1,p,q,t,b0,b1,z,A,C⟩:=jf.o _ h)|((with_reducible refine(k.o _ jm.o).mono ?_);rintro e J ⟨rfl,o⟩;have k0:=JK jm.o o;obtain⟨a0,a1,p,q,t,b0,b1,z,A,C⟩:=jf.o _ k0));go_ret;exact⟨by rw[j.o];rfl,b.o _ G⟩
 rw[h2,az]at f;rw[h2]at c2;go_wp2_with(first|((with_reducible refine(D.o _ G).mono ?_);rintro e z3 ⟨rfl,j3⟩;have k3:=(JK G j3))|((with_reducible refine(c2.o _ h).mono ?_);rintro e z2 ⟨rfl,H⟩;have G:=JK h H;obtain⟨a0,a1,p,q,t,b0,b1,z,A,C⟩:=jf.o _ G)|((with_reducible refine(c1.o _ k0).mono ?_);rintro e z1 ⟨rfl,E⟩;have h:=JK k0 E;obtain⟨a0,a1,p,q,t,b0,b1,z,A,C⟩:=jf.o _ h)|((with_reducible refine(k.o _ jm.o).mono ?_);rintro e J ⟨rfl,o⟩;have k0:=JK jm.o o;obtain⟨a0,a1,p,q,t,b0,b1,z,A,C⟩:=jf.o _ k0));go_ret;exact⟨by rw[f.o];rfl,b.o _ k3⟩
end
theorem PF (l m:List gP)(v9 u:Value)(B:Nat)(w:Wq)(g:aX 3 iu w B v9 l)(j:aX 3 iu w B u m)(hB:B<=w.heap.size):Calls prog 87 #[v9,u,.func (.func 88) #[] #[]] w (dP (fc fJ l m) w):=by
 obtain⟨A,ca,rfl,ha1,ha2⟩:=aX.form g;obtain⟨D,cd,rfl,hd1,hd2⟩:=aX.form j;have O:=Hi (aB w.heap.size w);by_cases hlen:l.length=m.length;case neg=>
  have hR:=Hi (nL (e:=fJ) hlen);have U:((l.length:Int) !=(m.length:Int))=true:=by simp;omega
  generalize fc fJ l m=R at*;clear g j;go_enter func87,ntmps87;go_wp2_with fail;go_ret;exact⟨by rw[hR.o];rfl,O.o⟩
 have U:((l.length:Int) !=(m.length:Int))=false:=by simp;omega
 have Z:Hid (fc fJ l m=fc fJ (l.drop 0) (m.drop 0)):=Hi rfl;have X:=Hi hlen;generalize fc fJ l m=R at*;replace g:=Hi g;replace j:=Hi j;clear hlen;go_enter func87,ntmps87;go_wp2_with fail;clear U;go_loopw [17] (λi wr=>∃k:Nat,k<=l.length/\i=I6 k/\Hid (R=fc fJ (l.drop k) (m.drop k))/\Hid (JJ w wr))(λi _=>l.length-(intOf i).toNat);case atStart=>exact⟨0,aK _,rfl,Z,O⟩
 case round=>
  obtain⟨k,hk,rfl,t,q⟩:=hrel;obtain⟨a,rfl⟩:=Jv wr;clear Z O;by_cases hlt:k<l.length
  .have vp:k<m.length:=by have:=X.o;omega
   have p:=av q.o hB;have h1:=g.o.keep (w':=a) Jq p λ_ _ h=>h.keep Jq p;have h2:=j.o.keep (w':=a) Jq p λ_ _ h=>h.keep Jq p;obtain⟨b,off,rfl⟩:=aX.addr h1 (by omega);obtain⟨H,j9,rfl⟩:=aX.addr h2 (by omega);obtain⟨hq1,c1,x,V,K,E⟩:=aX.el h1 hlt;obtain⟨P,c2,y,W,L,o⟩:=aX.el h2 vp;have F:=aI hB q.o.size;obtain⟨c,N⟩:=Jj (a.alloc (.cells c1.toArray 121 (0,0)));obtain⟨d,vm⟩:=Jj (c.alloc (.cells c2.toArray 121 (0,0)));have q7:c.heap.size=a.heap.size+1:=Jw N;have J:JJ a c:=Jk N;have I:JJ c d:=Jk vm;have jy:JJ a d:=J.t (I.mono (by omega));have S:d.heap[a.heap.size]?=some (.cells c1.toArray 121 (0,0)):=(I.block _ (by omega)).t (Jy N);have T:d.heap[a.heap.size+1]?=some (.cells c2.toArray 121 (0,0)):=by rw[<-q7,<-vm];exact aG c _
   have j8:=av jy F;have C:=Hi (OP x y c1 c2 (K.keep (w':=d) Jq j8) (L.keep (w':=d) Jq j8) (aI F jy.size));have vv:=o;have G:=av J F;obtain⟨Am,cm,rfl,_,_⟩:=iO K;obtain⟨Dm,dm,rfl,_,_⟩:=iO L;have e10:a.cell? ⟨b,off+k*3,none⟩=some (.string x.port):=E 0 _ rfl;have e11:a.cell? ⟨b,off+k*3+1,none⟩=some (.bool x.permit):=E 1 _ rfl;have e12:a.cell? ⟨b,off+k*3+2,none⟩=some (.slice Am x.mat.length cm):=E 2 _ rfl;have e20:c.cell? ⟨H,j9+k*3,none⟩=some (.string y.port):=(G _ _ P).t (o 0 _ rfl);have e21:c.cell? ⟨H,j9+k*3+1,none⟩=some (.bool y.permit):=(G _ _ P).t (o 1 _ rfl);have e22:c.cell? ⟨H,j9+k*3+2,none⟩=some (.slice Dm y.mat.length dm):=(G _ _ P).t (o 2 _ rfl);obtain⟨x0,x1,x2⟩:=bd S;obtain⟨y0,y1,y2⟩:=bd T;have z:=Hi (t.o.t (oX V W));have Y:=Hi (JK q.o jy);have vn:=Hi q.o.size;have vo:=Hi jy.size;have i1:(k:Int)<(m.length:Int):=by omega
   clear t V W h1 h2 K L E o vv S T J I jy j8 G p F;cases heq:fJ x y
   .rw[heq]at C z;have f:=Hi (show R=false from z.o);go_wp2_with((with_reducible refine(C.o).mono ?_);rintro e wy ⟨rfl,M⟩);go_ret;exact⟨by rw[f.o];rfl,Y.o.t (M.mono (aI vn.o vo.o))⟩
   .rw[heq]at C z;have f:=Hi (show R=fc fJ (l.drop (k+1)) (m.drop (k+1))from z.o);go_wp2_with((with_reducible refine(C.o).mono ?_);rintro e wy ⟨rfl,M⟩);go_roundw;case rel=>exact⟨k+1,by omega,by go_num,f,Hi (Y.o.t (M.mono (aI vn.o vo.o)))⟩
    case measure=>simp[intOf];omega
  .have f:Hid (R=true):=Hi (by rw[t.o,bL (by omega),bL (by have:=X.o;omega)];rfl);clear t;go_wp2_with fail;go_ret;exact⟨by rw[f.o];rfl,q.o⟩
theorem Om {l m:List db}(b:aX 5 gn w B v9 l)(e:aX 5 gn w B u m)(hB:B<=w.heap.size):Calls prog 89 #[v9,u,.func (.func 90) #[] #[]] w (dP (eZ vO l m) w):=by obtain⟨_,_,P,_,_⟩:=xg;exact sq P rfl sZ KG lG b e hB (λa w=>by kernel_rfl) λW c d x y h f g=>OM x y c d f g Jq
theorem Qc (x y:ay)(B:Nat)(w:Wq)(c d:List Value)(hx:jB w B c x)(hy:jB w B d y)(hB:B<=w.heap.size)(E:FA x y=true):Calls prog 27 #[.agg c.toArray,.agg d.toArray] w (dP true w):=by
 obtain⟨K,Y,L,Z,J,X,M,cr,O,cw,N,cu,rfl,_,_,pi,po,pg,pr,pw,pu⟩:=fD hx;obtain⟨R,mi,S,mo,P,mg,T,mr,V,mw,U,mu,rfl,_,_,qi,qo,qg,qr,qw,qu⟩:=fD hy;obtain⟨W0,q8⟩:=Jj (w.alloc (.cells #[.string x.name,.slice K x.ins.length Y,.slice L x.outs.length Z,.slice J x.guards.length X,.slice M x.rules.length cr,.slice O x.owns.length cw,.slice N x.routes.length cu] 42 (0,0)));obtain⟨f,qa⟩:=Jj (W0.alloc (.cells #[.string y.name,.slice R y.ins.length mi,.slice S y.outs.length mo,.slice P y.guards.length mg,.slice T y.rules.length mr,.slice V y.owns.length mw,.slice U y.routes.length mu] 42 (0,0)));obtain⟨vr,q7,jl,hX,hY⟩:=EC q8 qa;replace jl:=Hi jl;have jn:=Hi λW (a:JJ f W)=>au ((a.block _ (by omega)).t hX);have g:=Hi λW (a:JJ f W)=>au ((a.block _ (by omega)).t hY);have b:=Hi λW (a:JJ f W)=>jl.o.t (a.mono (by omega));unfold FA at E;simp only[aS]at E;obtain⟨q2,r0,r1,r2,r3,r4,r5⟩:=E;have c0:=Hi λW (a:JJ f W)=>by simpa only[r0]using ov x.ins y.ins _ _ _ W (pi.below (b.o W a) hB) (qi.below (b.o W a) hB) (b.o W a).size
 have c1:=Hi λW (a:JJ f W)=>by simpa only[r1]using ov x.outs y.outs _ _ _ W (po.below (b.o W a) hB) (qo.below (b.o W a) hB) (b.o W a).size
 have c2:=Hi λW (a:JJ f W)=>by simpa only[r2]using PF x.guards y.guards _ _ _ W (pg.keep hB (av (b.o W a) hB) λ_ _ h=>h.keep hB (av (b.o W a) hB)) (qg.keep hB (av (b.o W a) hB) λ_ _ h=>h.keep hB (av (b.o W a) hB)) (b.o W a).size
 have c3:=Hi λW (a:JJ f W)=>by simpa only[r3]using Om (l:=x.rules) (m:=y.rules) (B:=w.heap.size) (pr.keep hB (av (b.o W a) hB) λ_ _ h=>h.keep hB (av (b.o W a) hB)) (qr.keep hB (av (b.o W a) hB) λ_ _ h=>h.keep hB (av (b.o W a) hB)) (b.o W a).size
 have c4:=Hi λW (a:JJ f W)=>by simpa only[r4]using JW (l:=x.owns) (m:=y.owns) (B:=w.heap.size) (dZ pw hB (av (b.o W a) hB)) (dZ qw hB (av (b.o W a) hB)) (b.o W a).size
 have c5:=Hi λW (a:JJ f W)=>by simpa only[r5]using JW (l:=x.routes) (m:=y.routes) (B:=w.heap.size) (dZ pu hB (av (b.o W a) hB)) (dZ qu hB (av (b.o W a) hB)) (b.o W a).size
 have jf:=Hi λW (a:JJ f W)=>(⟨(jn.o W a).1,(jn.o W a).2.1,(jn.o W a).2.2.1,(jn.o W a).2.2.2.1,(jn.o W a).2.2.2.2.1,(jn.o W a).2.2.2.2.2.1,(jn.o W a).2.2.2.2.2.2,(g.o W a).1,(g.o W a).2.1,(g.o W a).2.2.1,(g.o W a).2.2.2.1,(g.o W a).2.2.2.2.1,(g.o W a).2.2.2.2.2.1,(g.o W a).2.2.2.2.2.2⟩:W.cell? ⟨w.heap.size,0,none⟩=some (.string x.name)/\W.cell? ⟨w.heap.size,1,none⟩=some (.slice K x.ins.length Y)/\W.cell? ⟨w.heap.size,2,none⟩=some (.slice L x.outs.length Z)/\W.cell? ⟨w.heap.size,3,none⟩=some (.slice J x.guards.length X)/\W.cell? ⟨w.heap.size,4,none⟩=some (.slice M x.rules.length cr)/\W.cell? ⟨w.heap.size,5,none⟩=some (.slice O x.owns.length cw)/\W.cell? ⟨w.heap.size,6,none⟩=some (.slice N x.routes.length cu)/\W.cell? ⟨w.heap.size+1,0,none⟩=some (.string y.name)/\W.cell? ⟨w.heap.size+1,1,none⟩=some (.slice R y.ins.length mi)/\W.cell? ⟨w.heap.size+1,2,none⟩=some (.slice S y.outs.length mo)/\W.cell? ⟨w.heap.size+1,3,none⟩=some (.slice P y.guards.length mg)/\W.cell? ⟨w.heap.size+1,4,none⟩=some (.slice T y.rules.length mr)/\W.cell? ⟨w.heap.size+1,5,none⟩=some (.slice V y.owns.length mw)/\W.cell? ⟨w.heap.size+1,6,none⟩=some (.slice U y.routes.length mu));have jm:=Hi (aB f.heap.size f);obtain⟨a0,a1,j,k,o,p,q,b0,b1,t,z,A,C,D⟩:=jf.o _ jm.o;clear hx hy hX hY pi qi po qo pg qg pr qr pw qw pu qu r0 r1 r2 r3 r4 r5;go_enter func27,ntmps27;go_wp2_with(first|((with_reducible refine(c5.o _ I).mono ?_);rintro e z5 ⟨rfl,j5⟩;have k5:=(JK I j5))|((with_reducible refine(c4.o _ H).mono ?_);rintro e z4 ⟨rfl,j4⟩;have I:=JK H j4;obtain⟨a0,a1,j,k,o,p,q,b0,b1,t,z,A,C,D⟩:=jf.o _ I)|((with_reducible refine(c3.o _ G).mono ?_);rintro e z3 ⟨rfl,j3⟩;have H:=JK G j3;obtain⟨a0,a1,j,k,o,p,q,b0,b1,t,z,A,C,D⟩:=jf.o _ H)|((with_reducible refine(c2.o _ F).mono ?_);rintro e z2 ⟨rfl,j2⟩;have G:=JK F j2;obtain⟨a0,a1,j,k,o,p,q,b0,b1,t,z,A,C,D⟩:=jf.o _ G)|((with_reducible refine(c1.o _ k0).mono ?_);rintro e z1 ⟨rfl,j1⟩;have F:=JK k0 j1;obtain⟨a0,a1,j,k,o,p,q,b0,b1,t,z,A,C,D⟩:=jf.o _ F)|((with_reducible refine(c0.o _ jm.o).mono ?_);rintro e z0 ⟨rfl,j0⟩;have k0:=JK jm.o j0;obtain⟨a0,a1,j,k,o,p,q,b0,b1,t,z,A,C,D⟩:=jf.o _ k0));go_ret;exact⟨rfl,b.o _ k5⟩
end Go.Proofs.YtgfgoaeaicefcaaGreatDoor
namespace Go.Proofs.YtgfgoaeaicefcaaGreatDoor
open Go.RowKit Tryz
variable {w:Wq}{B i n:Nat}{v9 u:Value}{s:Wz}
attribute [local go_sem ↓] Go.wp_at_zero Go.wp_at_succ
def nP (B:Nat)(w:Wq):Prop:=∀w',Below B w w'->gu w'
theorem nP.env (h:nP B w):gu w:=h w Jz
theorem nP.next {w1:Wq}(h:nP B w)(a:Below B w w1):nP B w1:=λw' b=>h w' (a.t b)
theorem nP.of (E:gu w):nP w.heap.size w:=λ_ a=>E.below a
theorem nP.mono {B':Nat}(h:nP B w)(hB:B<=B'):nP B' w:=λw' a=>h w' (a.mono hB)
def qV (w:Wq)(g:Nat)(l:List Tk):Prop:=g<w.heap.size/\∀(k:Nat)(t:Tk),l[k]?=some t->∀(j:Nat)(u:Value),t.cells[j]?=some u->w.cell? ⟨g,k*4+j,none⟩=some u
theorem qV.block {w':Wq}{g:Nat}{l:List Tk}(h:qV w g l)(b:w'.heap[g]?=w.heap[g]?):qV w' g l:=⟨(Array.getElem?_eq_some_iff.1 (b.t (lR h.1))).1,λk t d j u c=>(dH (a:=⟨g,k*4+j,none⟩) b).t (h.2 k t d j u c)⟩
theorem qV.below {w':Wq}{L g:Nat}{l:List Tk}(h:qV w g l)(a:Below L w w')(b:g<L):qV w' g l:=h.block (a.block g b)
abbrev zA (g cap:Nat)(l:List Tk):Value:=.slice (some ⟨g,0,none⟩) l.length cap
def dD (l:List Tk)(i:Nat):List Pc:=(l.map Tk.key).drop i
theorem dI {l:List Tk}{k:Int}{R:List Pc}(h:dD l i=(k,s)::R):∃t,l[i]?=some t/\t.kind=k/\t.text=s/\dD l (i+1)=R/\i<l.length:=by
 have a:i<l.length:=by refine Nat.lt_of_not_le λb=>?_;unfold dD at h;rw[bL (by rw[aa];exact b)]at h;cases h
 have ht:l[i]?=some l[i]:=aF a;unfold dD at h;rw[fP (x:=l[i].key) (by rw[aq,ht];rfl)]at h;injection h with h1 h2;unfold Tk.key at h1;rw[Bu]at h1;exact⟨l[i],ht,h1.1,h1.2,h2,a⟩
structure Kx (Q:Nat)(w w':Wq):Prop where
 os:w'.os=w.os
 tape:w'.tape=w.tape
 output:w'.output=w.output
 size:w.heap.size<=w'.heap.size
 block:∀k,k<w.heap.size->k≠Q->k≠Q+1->w'.heap[k]?=w.heap[k]?
section
variable {Q:Nat} {w w1 w2:Wq}
theorem Kx.refl (Q:Nat)(w:Wq):Kx Q w w:=⟨rfl,rfl,rfl,al _,λ_ _ _ _=>rfl⟩
theorem Kx.t (h:Kx Q w w1)(k:Kx Q w1 w2):Kx Q w w2:=⟨k.os.t h.os,k.tape.t h.tape,k.output.t h.output,aI h.size k.size,λb a h1 h2=>(k.block b (bZ a h.size) h1 h2).t (h.block b a h1 h2)⟩
theorem Kx.of (h:JJ w w1):Kx Q w w1:=⟨h.os,h.tape,h.output,h.size,λb a _ _=>h.block b a⟩
theorem Kx.set (h:Kx Q w w1){p:Addr}(c:p.block=Q\/p.block=Q+1\/w.heap.size<=p.block)(u:Value):Kx Q w (w1.setCell p u):=⟨h.os,h.tape,h.output,by simpa[World.setCell]using h.size,λb a h1 h2=>(aT w1 p u b (by omega)).t (h.block b a h1 h2)⟩
theorem Kx.below (h:Kx Q w w1)(hQ:Q<=w.heap.size):Below Q w w1:=⟨h.os,h.tape,h.output,h.size,λb a=>h.block b (by omega) (by omega) (by omega)⟩
end
structure Rd where
 Q:Nat
 g:Nat
 cap:Nat
 l:List Tk
 bc:Array Value
 vb:Value
 vl:Value
 vs:Value
def Rd.box (r:Rd)(i:Nat):Array Value:=#[zA r.g r.cap r.l,I6 i,.string ⟨#[]⟩,.slice none 0 0,.string ⟨#[]⟩,.bool false,r.vb,r.vl,r.vs,.bool false,.bool false,.bool false,.bool false,.bool false,.bool false,.bool false,.bool false,.bool false,.bool false,.bool false,.bool false,.bool false,.bool false]
structure Rd.At (r:Rd)(i:Nat)(w:Wq):Prop where
 box:w.heap[r.Q+1]?=some (.cells (r.box i) 80 (0,0))bq:w.heap[r.Q]?=some (.cells r.bc 42 (0,0))gQ:r.g<r.Q
 toks:qV w r.g r.l
 env:nP r.Q w
 len:r.l.length<=32769
 txt:∀t∈r.l,t.text.size<=16384
abbrev Rd.p (r:Rd):Value:=.pointer (some ⟨r.Q+1,0,none⟩)
section
variable {r:Rd} {i:Nat} {w w':Wq}
theorem Rd.At.lt (h:r.At i w):r.Q+1<w.heap.size:=(Array.getElem?_eq_some_iff.1 h.box).1
theorem Rd.At.free (h:r.At i w)(j:Nat):w.frozen? ⟨r.Q+1,j,none⟩=false:=af h.box j
theorem Rd.At.c0 (h:r.At i w):w.cell? ⟨r.Q+1,0,none⟩=some (zA r.g r.cap r.l):=by rw[aA w _ 0 _ _ (0,0) h.box];rfl
theorem Rd.At.c1 (h:r.At i w):w.cell? ⟨r.Q+1,1,none⟩=some (I6 i):=by rw[aA w _ 1 _ _ (0,0) h.box];rfl
theorem Rd.At.up (h:r.At i w)(a:JJ w w'):r.At i w':=have b:=h.lt;⟨(a.block _ b).t h.box,(a.block _ (by omega)).t h.bq,h.gQ,h.toks.below a h.toks.1,h.env.next (a.mono (by omega)),h.len,h.txt⟩
theorem Rd.At.setAt (h:r.At i w)(j:Nat):r.At j (w.setCell ⟨r.Q+1,1,none⟩ (I6 j)):=have a:=(aB (r.Q+1) w).setCell (p:=⟨r.Q+1,1,none⟩) Jq (I6 j);⟨am w _ 1 _ _ _ h.box,(a.block _ (bQ _)).t h.bq,h.gQ,h.toks.below a (by have:=h.gQ;omega),h.env.next (a.mono (fe _)),h.len,h.txt⟩
end
def Rd.St (r:Rd)(i:Nat)(v9:Value)(w:Wq)(e:Ending)(w':Wq):Prop:=e=.returned v9/\Kx r.Q w w'/\r.At i w'
def Tk.v (t:Tk):Value:=.agg #[I6 t.kind,.string t.text,I6 t.line,I6 t.col]
theorem ou {r:Rd}(P:r.At i w){t:Tk}(ht:r.l[i]?=some t):Calls prog 136 #[r.p] w λe w'=>e=.returned t.v/\JJ w w':=by
 obtain⟨W,c⟩:=Jj (w.alloc (.cells #[I6 0,.string ⟨#[]⟩,I6 0,I6 0] 198 (0,0)));have d:=Hi (show JJ w W by exact Jk c);have a:=show W.heap[w.heap.size]?=some (.cells #[I6 0,.string ⟨#[]⟩,I6 0,I6 0] 198 (0,0))by exact Jy c
 have F:=af a;have o:=aA W _ 0 _ _ _ a;have q:=aA W _ 1 _ _ _ a;have x:=aA W _ 2 _ _ _ a;have y:=aA W _ 3 _ _ _ a;simp only[aQ,aN,aO]at o q x y;replace a:=Hi a;replace P:=P.up d.o;obtain⟨Q,g,cap,l,bc,vb,vl,vs⟩:=r;have G:=P.c0;have H:=P.c1;have hi:i<l.length:=(List.getElem?_eq_some_iff.1 ht).1;have A:W.cell? ⟨g,i*4,none⟩=some (I6 t.kind):=P.toks.2 i t ht 0 _ rfl;have C:W.cell? ⟨g,i*4+1,none⟩=some (.string t.text):=P.toks.2 i t ht 1 _ rfl;have D:W.cell? ⟨g,i*4+2,none⟩=some (I6 t.line):=P.toks.2 i t ht 2 _ rfl;have E:W.cell? ⟨g,i*4+3,none⟩=some (I6 t.col):=P.toks.2 i t ht 3 _ rfl;have z:(i:Int)<(l.length:Int):=by omega
 have b0:(0:Int)<=(i:Int):=by omega
 clear P ht hi;go_enter func136,ntmps136;go_upto_region 1 with fail;clear c;go_still_tail 10,(by kernel_rfl);go_wp2_with fail;have b:=(((am _ _ 3 _ _ (I6 t.col) (am _ _ 2 _ _ (I6 t.line) (am _ _ 1 _ _ (.string t.text) (am _ _ 0 _ _ (I6 t.kind) a.o))))));have f:=aA _ _ 0 _ _ _ b;have h:=aA _ _ 1 _ _ _ b;have j:=aA _ _ 2 _ _ _ b;have k:=aA _ _ 3 _ _ _ b;have m:=d.o.setCell (p:=⟨w.heap.size,0,none⟩) Jq (I6 t.kind)|>.setCell (p:=⟨w.heap.size,1,none⟩) Jq (.string t.text)|>.setCell (p:=⟨w.heap.size,2,none⟩) Jq (I6 t.line)|>.setCell (p:=⟨w.heap.size,3,none⟩) Jq (I6 t.col)|>.drew;generalize(((W.setCell ⟨w.heap.size,0,none⟩ (I6 t.kind)).setCell ⟨w.heap.size,1,none⟩ (.string t.text)).setCell ⟨w.heap.size,2,none⟩ (I6 t.line)).setCell ⟨w.heap.size,3,none⟩ (I6 t.col)=Z at*;refine dJ (v:=t.v) ?_ rfl ⟨rfl,m⟩;simp at f h j k;simp[results,results136,go_sem,f,h,j,k,Tk.v]
theorem Rd.At.step {r:Rd}{W:Wq}(P:r.At i w){t:Tk}(_:r.l[i]?=some t)(d:JJ w W){b:Nat}(f:w.heap.size<=b)(e:W.cell? ⟨b,1,none⟩=some (.string s)):r.At (i+1) (W.setCell ⟨r.Q+1,1,none⟩ (I6 ((i:Int)+1)))/\Kx r.Q w (W.setCell ⟨r.Q+1,1,none⟩ (I6 ((i:Int)+1)))/\W.cell? ⟨r.Q+1,1,none⟩=some (I6 i)/\W.frozen? ⟨r.Q+1,1,none⟩=false/\(W.setCell ⟨r.Q+1,1,none⟩ (I6 ((i:Int)+1))).cell? ⟨b,1,none⟩=some (.string s):=have c:=P.up d;⟨c.setAt (i+1),(Kx.of d).set (.inr (.inl rfl)) _,c.c1,c.free 1,(dH (a:=⟨b,1,none⟩) (aT _ ⟨r.Q+1,1,none⟩ _ b (by have:=P.lt;show b≠r.Q+1;omega))).t e⟩
theorem qh {w1 W:Wq}{t:Tk}(a:JJ w w1)(b:w1.alloc (.cells #[I6 t.kind,.string t.text,I6 t.line,I6 t.col] 198 (0,0))=W):JJ w W/\W.cell? ⟨w1.heap.size,0,none⟩=some (I6 t.kind)/\W.cell? ⟨w1.heap.size,1,none⟩=some (.string t.text):=by subst b;have h:=aG w1 (.cells #[I6 t.kind,.string t.text,I6 t.line,I6 t.col] 198 (0,0));exact⟨a.alloc a.size _,by rw[aA _ _ 0 _ _ _ h];rfl,by rw[aA _ _ 1 _ _ _ h];rfl⟩
theorem JE {r:Rd}(P:r.At i w){t:Tk}(ht:r.l[i]?=some t)(k:Int)(j:t.kind=k):Calls prog 139 #[r.p,I6 k] w (r.St (i+1) (.string t.text) w):=by
 have d:=Hi (ou P ht);have g:=Hi λW a b s o m=>P.step (W:=W) ht a (b:=b) (s:=s) o m;have y:IntKind.i64.wrap ((i:Int)+1)=(i:Int)+1:=bu _ (by have:=P.len;have:=(List.getElem?_eq_some_iff.1 ht).1;omega);have x:(t.kind !=k)=false:=by rw[j];simp
 clear P ht j;unfold Tk.v at d;go_enter func139,ntmps139;go_upto_region 4 with(go_at_call 136;refine d.o.mono ?_;rintro e w1 ⟨rfl,a⟩;obtain⟨W,h⟩:=Jj (w1.alloc (.cells #[I6 t.kind,.string t.text,I6 t.line,I6 t.col] 198 (0,0)));obtain⟨jk,q,l⟩:=qh a h;replace jk:=Hi jk;have p:=a.size;clear a);obtain⟨c,f,A,z,C⟩:=g.o W jk.o w1.heap.size t.text p l;replace c:=Hi c;replace f:=Hi f;clear h q l g d;go_wp2_with fail;go_ret;exact⟨rfl,f.o,c.o⟩
theorem JD {r:Rd}(P:r.At i w){t:Tk}(ht:r.l[i]?=some t)(k:Int)(s:Wz):Calls prog 218 #[r.p,I6 k,.string s] w (r.St (if t.kind=k/\t.text=s then i+1 else i) (.bool (decide (t.kind=k/\t.text=s))) w):=by
 have d:=Hi (ou P ht);have f:=Hi λW a b s y x=>P.step (W:=W) ht a (b:=b) (s:=s) y x;have m:=Hi λW (a:JJ w W)=>P.up a;have z:IntKind.i64.wrap ((i:Int)+1)=(i:Int)+1:=bu _ (by have:=P.len;have:=(List.getElem?_eq_some_iff.1 ht).1;omega);clear P ht;unfold Tk.v at d;by_cases hk:t.kind=k
 .have q:(t.kind !=k)=false:=by rw[hk];simp
  by_cases hs:t.text=s
  .have bs':(t.text.toList==s.toList)=true:=by rw[hs];simp
   rw[ax ⟨hk,hs⟩,aV (show t.kind=k/\t.text=s from⟨hk,hs⟩)];clear hk hs m;go_enter func218,ntmps218;go_upto_region 4 with(go_at_call 136;refine d.o.mono ?_;rintro e w1 ⟨rfl,a⟩;obtain⟨W,c⟩:=Jj (w1.alloc (.cells #[I6 t.kind,.string t.text,I6 t.line,I6 t.col] 198 (0,0)));obtain⟨jk,p,g⟩:=qh a c;replace jk:=Hi jk;have o:=a.size;clear a);obtain⟨j,l,C,A,D⟩:=f.o W jk.o w1.heap.size t.text o g;replace j:=Hi j;replace l:=Hi l;clear c p g f d;go_wp2_with fail;go_ret;exact⟨rfl,l.o,j.o⟩
  .have bs':(t.text.toList==s.toList)=false:=by rw[dU];exact λh=>hs (sN (Array.ext' (by simpa only[ab]using h)))
   rw[ap (λh=>hs h.2),aM (λh:t.kind=k/\t.text=s=>hs h.2)];clear hk hs f;go_enter func218,ntmps218;go_upto_region 3 with(go_at_call 136;refine d.o.mono ?_;rintro e w1 ⟨rfl,a⟩;obtain⟨W,c⟩:=Jj (w1.alloc (.cells #[I6 t.kind,.string t.text,I6 t.line,I6 t.col] 198 (0,0)));obtain⟨jk,p,g⟩:=qh a c;replace jk:=Hi jk;have o:=a.size;clear a);go_wp2_with fail;go_ret;exact⟨rfl,.of jk.o,m.o W jk.o⟩
 .have q:(t.kind !=k)=true:=by simpa using hk
  rw[ap (λh=>hk h.1),aM (λh:t.kind=k/\t.text=s=>hk h.1)];clear hk f;go_enter func218,ntmps218;go_upto_region 3 with(go_at_call 136;refine d.o.mono ?_;rintro e w1 ⟨rfl,a⟩;obtain⟨W,c⟩:=Jj (w1.alloc (.cells #[I6 t.kind,.string t.text,I6 t.line,I6 t.col] 198 (0,0)));obtain⟨jk,p,g⟩:=qh a c;replace jk:=Hi jk;have o:=a.size;clear a);go_wp2_with fail;go_ret;exact⟨rfl,.of jk.o,m.o W jk.o⟩
theorem Od {r:Rd}(P:r.At i w){t:Tk}(ht:r.l[i]?=some t)(k:Int)(s:Wz)(d:t.kind=k)(hs:t.text=s):Calls prog 216 #[r.p,I6 k,.string s] w (r.St (i+1) (.tuple #[]) w):=by have c:=JD P ht k s;rw[ax ⟨d,hs⟩,aV (show t.kind=k/\t.text=s from⟨d,hs⟩)]at c;have c:=Hi c;clear P ht d hs;go_enter func216,ntmps216;go_wp2_with(go_at_call 218;refine c.o.mono ?_;rintro e w1 ⟨rfl,a,b⟩;replace a:=Hi a;replace b:=Hi b);go_end0;exact⟨rfl,a.o,b.o⟩
theorem Qj {r:Rd}(P:r.At i w){t:Tk}(ht:r.l[i]?=some t):(t.kind=2->bo t.text=true->Calls prog 76 #[r.p] w (r.St (i+1) (.string t.text) w))/\(t.kind=3->nu t.text->Calls prog 159 #[r.p] w (r.St (i+1) (.string t.text) w)):=by
 have m:=Hi (ou P ht);have y:=Hi λW (a:JJ w W)=>P.up a;have d:=Hi λW (a:JJ w W)=>JE (P.up a) ht;have o:=Hi λW (a:JJ w W)=>(P.up a).env.env;have q:=P.txt t (aE ht);unfold Tk.v at m;clear P ht;refine⟨λb c=>?_,λb c=>?_⟩;have g:Hid (∀W,gu W->Calls prog 138 #[.string t.text] W (Bq W)):=Hi λW _=>(oZ t.text W (by omega)).mono λe w' h=>⟨by rw[h.1];unfold bo at c;rw[c],h.2▸aB _ _⟩;have d:=Hi λW a=>d.o W a 2 b;have x:(t.kind !=2)=false:=by rw[b];rfl
 clear b c q;go_enter func76,ntmps76;rotate_left;have g:Hid (∀W,gu W->Calls prog 196 #[.string t.text] W (Bq W)):=Hi λW E=>DL t.text c W E;have d:=Hi λW a=>d.o W a 3 b;have x:(t.kind !=3)=false:=by rw[b];rfl
 clear b c q;go_enter func159,ntmps159;all_goals go_upto_region 2 with(go_at_call 136;refine m.o.mono ?_;rintro e w1 ⟨rfl,a⟩;obtain⟨W,p⟩:=Jj (w1.alloc (.cells #[I6 t.kind,.string t.text,I6 t.line,I6 t.col] 198 (0,0)));obtain⟨jk,C,D⟩:=qh a p;replace jk:=Hi jk;have z:=a.size;clear a);clear p;go_wp2_with(first|(go_at_call 138;refine(g.o _ (o.o _ jk.o)).mono ?_;rintro e w2 ⟨rfl,f⟩;have l:=Hi (JK jk.o f);clear f)|(go_at_call 196;refine(g.o _ (o.o _ jk.o)).mono ?_;rintro e w2 ⟨rfl,f⟩;have l:=Hi (JK jk.o f);clear f)|(go_at_call 139;refine(d.o _ l.o).mono ?_;rintro e A ⟨rfl,j,k⟩;replace j:=Hi j;replace k:=Hi k));go_ret;exact⟨rfl,(Kx.of l.o).t j.o,k.o⟩
end Go.Proofs.YtgfgoaeaicefcaaGreatDoor
namespace Go.Proofs.YtgfgoaeaicefcaaGreatDoor
open Go.RowKit Tryz
variable {w:Wq}{B i n:Nat}{v9 u:Value}{s:Wz}
def Ee:eF:=⟨⟨#[]⟩,0,0,0,0,0,⟨#[]⟩⟩
def bJ.nodes:bJ->List de|.leaf b=>[⟨if b then 1 else 2,Ee⟩]|.test t=>[⟨3,t⟩]|.not x=>x.nodes++[⟨4,Ee⟩]|.and l r=>l.nodes++r.nodes++[⟨5,Ee⟩]|.or l r=>l.nodes++r.nodes++[⟨6,Ee⟩]
theorem QM {t:eF}(h:zT t=true):t=Ee:=by obtain⟨a,b,c,d,e,f,g⟩:=t;simp only[zT,bC]at h;obtain⟨rfl,rfl,rfl,rfl,rfl,rfl,rfl⟩:=h;rfl
def xa:List bJ->List de|[]=>[]|t::r=>xa r++t.nodes
theorem CL {p q:List bJ}{n:de}(h:pq p n=some q):xa q=xa p++[n]:=by
 obtain⟨k,t⟩:=n;unfold pq at h;dsimp only at h;split at h
 .cases h
 rename_i h0;have ht:k≠3->t=Ee:=λh3=>QM (by cases e:zT t;exact absurd ⟨h3,e⟩ h0;rfl);repeat' split at h
 all_goals first|(cases h;done)|(subst_vars;injection h with h;subst h;simp only[xa,bJ.nodes,aH];first|rfl|(have e:=ht (by decide);subst e;rfl)|skip)
theorem vR:∀{l:List de}{p q:List bJ},jY p l=some q->xa q=xa p++l
 |[],p,q,h=>by unfold jY at h;injection h with h;subst h;simp|n::r,p,q,h=>by
  unfold jY at h;split at h
  .rename_i e;rw[vR h,CL e,aH];rfl
  .cases h
theorem Bj {l:List de}{t:bJ}(h:jT l=some t):t.nodes=l:=by
 unfold jT so at h;split at h
 .rename_i u e;injection h with h;subst h;have:=vR e;simpa[xa]using this
 .cases h
def lq:bJ->bJ×List bJ|.and l r=>((lq l).1,(lq l).2++[r])|t=>(t,[])
def vS:bJ->bJ×List bJ|.or l r=>((vS l).1,(vS l).2++[r])|t=>(t,[])
def iz (s:Pc)(k:bJ->List Pc)(l:List bJ):List Pc:=l.flatMap λf=>s::k f
def ke (o:Int)(l:List bJ):List de:=l.flatMap λf=>f.nodes++[⟨o,Ee⟩]
def iH:List bJ->Nat|[]=>0|f::r=>f.sz+1+iH r
theorem oJ:∀l m:List bJ,iH (l++m)=iH l+iH m|[],m=>by simp[iH]|x::l,m=>by simp only[aW,iH,oJ l m];omega
def rO (t:bJ):List Pc:=DN t.tks t.joined
def sH (t:bJ):List Pc:=DN t.tks t.isOr
def AH:bJ->Bool|.and _ _=>true|_=>false
theorem pm (t:bJ):1<=t.sz:=by cases t<;>simp[bJ.sz]
theorem vG {P:eF->Prop}:∀t:bJ,sH t=rO (lq t).1++iz (7,ba [38]) rO (lq t).2/\t.nodes=(lq t).1.nodes++ke 5 (lq t).2/\t.sz=(lq t).1.sz+iH (lq t).2/\(∀f,f=(lq t).1\/f∈(lq t).2->(AH t=true->f.sz<t.sz)/\f.nest+f.joined.toNat<=t.nest+t.isOr.toNat/\(t.All P->f.All P))
 |.leaf b=>by simp[lq,sH,rO,iz,ke,iH,AH,bJ.isOr,bJ.joined]|.test t=>by simp[lq,sH,rO,iz,ke,iH,AH,bJ.isOr,bJ.joined]|.not x=>by simp[lq,sH,rO,iz,ke,iH,AH,bJ.isOr,bJ.joined]|.or l r=>by simp[lq,sH,rO,iz,ke,iH,AH,bJ.isOr,bJ.joined]|.and l r=>by
  obtain⟨h1,h2,h3,g⟩:=vG (P:=P) l;refine⟨?_,?_,?_,?_⟩
  .show DN l.tks l.isOr++(7,ba [38])::DN r.tks r.joined=_;rw[show DN l.tks l.isOr=sH l from rfl,h1];simp[lq,iz,rO,jG]
  .simp only[bJ.nodes,lq,h2,ke,jG,aH,eJ,jI,aZ]
  .have:=oJ (lq l).2 [r];simp only[iH]at this;simp only[bJ.sz,lq];omega
  .intro f hf;have k:=pm l;have hr:=pm r;have d:(bJ.and l r).nest=max (l.nest+l.isOr.toNat) (r.nest+r.joined.toNat):=rfl;have j:(bJ.and l r).sz=l.sz+r.sz+1:=rfl;rcases(show f=(lq l).1\/f∈(lq l).2\/f=r by simpa[lq]using hf)with hf|hf|rfl
   .obtain⟨_,b,c⟩:=g f (.inl hf);refine⟨λ_=>?_,by rw[d];show _<=_+0;omega,λh=>c h.1⟩;rw[hf,j];omega
   .obtain⟨_,b,c⟩:=g f (.inr hf);have:f.sz<=iH (lq l).2:=by obtain⟨a,q,e⟩:=List.append_of_mem hf;rw[e,oJ];simp only[iH];omega
    exact⟨λ_=>by omega,by rw[d];show _<=_+0;omega,λh=>c h.1⟩
   .exact⟨λ_=>by omega,by rw[d];show _<=_+0;omega,λh=>h.2⟩
theorem xe {P:eF->Prop}:∀t:bJ,t.tks=sH (vS t).1++iz (7,ba [124]) sH (vS t).2/\t.nodes=(vS t).1.nodes++ke 6 (vS t).2/\t.sz=(vS t).1.sz+iH (vS t).2/\(∀f,f=(vS t).1\/f∈(vS t).2->(t.isOr=true->f.sz<t.sz)/\f.nest+f.isOr.toNat<=t.nest/\(t.All P->f.All P))
 |.leaf b=>by simp[vS,sH,iz,ke,iH,bJ.isOr,DN]|.test t=>by simp[vS,sH,iz,ke,iH,bJ.isOr,DN]|.not x=>by simp[vS,sH,iz,ke,iH,bJ.isOr,DN]|.and l r=>by simp[vS,sH,iz,ke,iH,bJ.isOr,DN]|.or l r=>by
  obtain⟨h1,h2,h3,g⟩:=xe (P:=P) l;refine⟨?_,?_,?_,?_⟩
  .show l.tks++(7,ba [124])::DN r.tks r.isOr=_;rw[h1];simp[vS,iz,sH,jG]
  .simp only[bJ.nodes,vS,h2,ke,jG,aH,eJ,jI,aZ]
  .have:=oJ (vS l).2 [r];simp only[iH]at this;simp only[bJ.sz,vS];omega
  .intro f hf;have k:=pm l;have hr:=pm r;have d:(bJ.or l r).nest=max l.nest (r.nest+r.isOr.toNat):=rfl;have j:(bJ.or l r).sz=l.sz+r.sz+1:=rfl;rcases(show f=(vS l).1\/f∈(vS l).2\/f=r by simpa[vS]using hf)with hf|hf|rfl
   .obtain⟨_,b,c⟩:=g f (.inl hf);refine⟨λ_=>?_,by rw[d];omega,λh=>c h.1⟩;rw[hf,j];omega
   .obtain⟨_,b,c⟩:=g f (.inr hf);have:f.sz<=iH (vS l).2:=by obtain⟨a,q,e⟩:=List.append_of_mem hf;rw[e,oJ];simp only[iH];omega
    exact⟨λ_=>by omega,by rw[d];omega,λh=>c h.1⟩
   .exact⟨λ_=>by omega,by rw[d];omega,λh=>h.2⟩
def wN (n:Nat)(R:List Pc):Prop:=∃k s q,R=(k,s)::q/\(k=7->s≠ba [47]/\s≠ba [46,46]/\(1<=n->s≠ba [38])/\(2<=n->s≠ba [124]))
theorem wN.le {m:Nat}{R:List Pc}(h:wN n R)(a:m<=n):wN m R:=by obtain⟨k,s,q,h1,h2⟩:=h;exact⟨k,s,q,h1,λe=>⟨(h2 e).1,(h2 e).2.1,λh=>(h2 e).2.2.1 (by omega),λh=>(h2 e).2.2.2 (by omega)⟩⟩
theorem wN.word {k:Int}{q:List Pc}(a:k≠7):wN n ((k,s)::q):=⟨k,s,q,rfl,λh=>absurd h a⟩
theorem wN.close {q:List Pc}:wN n ((7,ba [41])::q):=⟨7,_,q,rfl,λ_=>by simp[ba]⟩
theorem wN.bar {q:List Pc}:wN 1 ((7,ba [124])::q):=⟨7,_,q,rfl,λ_=>by simp[ba]⟩
theorem wN.amp {q:List Pc}:wN 0 ((7,ba [38])::q):=⟨7,_,q,rfl,λ_=>by simp[ba]⟩
end Go.Proofs.YtgfgoaeaicefcaaGreatDoor
