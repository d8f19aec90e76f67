/- Part of DeltaBack. -/
import Derived.Test.YtgfgoaeaicefcaaGreatDoorQC8
import Derived.Test.YtgfgoaeaicefcaaGreatDoorQC7
set_option maxHeartbeats 16000000
set_option maxRecDepth 100000
set_option linter.all false
namespace Go.Proofs.YtgfgoaeaicefcaaGreatDoor
open Go.RowKit Tryz
variable {n size b base B j bytes k m:Nat}{e T:TypeId}{ds:List (List Value)}{xs d us c:List Value}{v v1:Value}{w:Wq}
structure sM (n:Nat)(c:bE):Prop where
 f:c.fields.length<=n
 b:c.boxes.length<=n
 l:c.links.length<=n
 s:c.slices.length<=n
 x:∀x∈c.boxes,(∀k,eA x k<=n)/\(∀g∈x.guards,g.mat.length<=n)/\∀r∈x.rules,r.frm.length<=n/\r.mat.length<=n/\r.sets.length<=n/\r.dst.length<=n
 y:∀y∈c.slices,y.ports.length<=n/\y.whr.length<=n
abbrev FP:Array Value:=#[.string ⟨#[]⟩,.slice none 0 0,.string ⟨#[]⟩,.bool false,.slice none 0 0,.slice none 0 0,.slice none 0 0]
structure Cp [Hq](w0:Wq)(B0:Nat)(c:bE)(vf vb vl vs:Value)(ph i k:Nat)(T:Nat->Nat)(cs:List (List Value))(w:Wq):Prop where
 C:Co w0 B0 c vf vb vl vs ph i k T cs w
 hB:B0<=w0.heap.size
 B:JJ w0 w
 box:w.heap[w0.heap.size]?=some (.cells (eO c vf vb vl vs) 27 (0,0))res:w.heap[w0.heap.size+1]?=some (.cells FP 27 (0,0))t1:∀b,B0<=b->b<w0.heap.size+2->T b=1
 tq:∀b,Hq.q b->T b=1
 hQ:∀b,Hq.q b->b<w0.heap.size
theorem pM {a:Wq}(f:B<=b):∀(c:List Value)(o:Nat)(w:Wq),Below B a w->Below B a (w.setCells b o c)|[],_,_,h=>h|u::c,o,_,h=>pM f c (o+1) _ (h.setCell f u)
theorem gV {α:Type}{R:Wq->Nat->List Value->α->Prop}{f:List Nat}(o:IE R f){l:List α}(r:ds.length=l.length)(h:∀(n:Nat) d y,ds[n]?=some d->l[n]?=some y->R w B d y):∀d∈ds,vJ f d:=λd q=>by obtain⟨j,a⟩:=fg q;have s:=(List.getElem?_eq_some_iff.1 a).1;exact o.sh (h j d _ a (aF (by omega)))
theorem gU {l:List Nat}(h:∀d∈ds,vJ l d):∀u∈ds.flatten,u.oneCell'=true:=λu a=>by obtain⟨d,f,a⟩:=List.mem_flatten.1 a;exact(h d f).one u a
def Rn:Nat->List Nat|0=>[0]|1=>[0]|2=>[0,2,3]|3=>[1,3,3,3,3]|_=>[1,1,0]
theorem Ou {x:ay}(h:ds.length=eA x k)(l:∀n d,ds[n]?=some d->F0 x w B n d k):∀d∈ds,vJ (Rn k) d:=by match k with|0=>exact gV la h λn d y a f=>l n d a y f|1=>exact gV la h λn d y a f=>l n d a y f|2=>exact gV CQ h λn d y a f=>l n d a y f|3=>exact gV sZ h λn d y a f=>l n d a y f|4=>exact gV mT h λn d y a f=>l n d a y f|n+5=>exact gV mT h λn d y a f=>l n d a y f
section
variable {w:Wq} {g cap:Nat}
theorem dv (h:w.ownsRow base e size (.slice (some ⟨g,0,none⟩) n cap) n xs)(o:Nat):w.frozen? ⟨g,o,none⟩=false:=by
 rcases h.2 with⟨h,_⟩|⟨f,jn,l,h,_,a,_⟩
 .cases h
 .cases h;exact af a o
theorem sk {A:Option Addr}(h:w.ownsRow base e size (.slice A n cap) n xs)(a:0<n):∃g,A=some ⟨g,0,none⟩:=by
 rcases h.2 with⟨_,h0⟩|⟨g,jn,f,h,_⟩
 .omega
 .cases h;exact⟨g,rfl⟩
theorem dx (h:w.ownsRow base e size (.slice (some ⟨g,0,none⟩) n cap) n ds.flatten)(a:∀d∈ds,d.length=size){u:Value}(f:ds[m]?=some d)(l:d[j]?=some u):w.cell? ⟨g,m*size+j,none⟩=some u:=by have:=ai h (g:=g) rfl _ u (iP size ds a m j d u f l);rwa[bh,aY]at this
end
section
variable [Hq] {w0 w w1:Wq} {B0 g cap:Nat} {c:bE} {vf vb vl vs:Value} {ph i k:Nat} {T:Nat→Nat} {cs:List (List Value)}
theorem Cp.below (S:Cp w0 B0 c vf vb vl vs ph i k T cs w)(a:JJ w w1):Cp w0 B0 c vf vb vl vs ph i k T cs w1:=have h2:=(Array.getElem?_eq_some_iff.1 S.res).1;⟨S.C.below a,S.hB,(JK S.B a),(a.block _ (by omega)).t S.box,(a.block _ h2).t S.res,S.t1,S.tq,S.hQ⟩
theorem Cp.here (S:Cp w0 B0 c vf vb vl vs ph i k T cs w):KI B0 w0 w/\B0<=w.heap.size:=⟨KI.below (S.B.mono S.hB),aI S.hB S.B.size⟩
theorem Cp.cell (S:Cp w0 B0 c vf vb vl vs ph i k T cs w)(f:vb=.slice (some ⟨g,0,none⟩) c.boxes.length cap){u:Value}(a:cs[n]?=some d)(l:d[j]?=some u):w.cell? ⟨g,n*7+j,none⟩=some u:=by have h:=S.C.row;rw[f]at h;have:=ai h (g:=g) rfl _ u (iP 7 cs S.C.lens n j d u a l);rwa[bh,aY]at this
theorem Cp.free (S:Cp w0 B0 c vf vb vl vs ph i k T cs w)(a:vb=.slice (some ⟨g,0,none⟩) c.boxes.length cap)(o:Nat):w.frozen? ⟨g,o,none⟩=false:=dv (a▸S.C.row) o
theorem Cp.raw (S:Cp w0 B0 c vf vb vl vs ph i k T cs w){x:ay}(t:c.boxes[i]?=some x)(r:cs[i]?=some (.string x.name::us))(s:us[k]?=some v):∃ds:List (List Value),ds.length=eA x k/\(∀c∈ds,c.length=tC k)/\Sl w w.heap.size (tC k) v (eA x k) ds.flatten/\(∀i c,ds[i]?=some c->F0 x (hole w0 Hq.q) B0 i c k)/\∀u∈ds.flatten,u.oneCell'=true:=by obtain⟨y,a,_,q⟩:=S.C.raw r t;injection a with _ a;subst a;obtain⟨ds,f,l,o,h⟩:=(q k v s).2 (by omega);exact⟨ds,f,l,o.ki S.here.2 S.here.1.q,h,gU (Ou f h)⟩
theorem Cp.markq (S:Cp w0 B0 c vf vb vl vs ph i k T cs w){h t:Nat}(f:w1.ownsRow w.heap.size e h v n xs):∀b,Hq.q b->mark T v t b=1:=λb a=>by
 rw[lc λe=>?_]
 .exact S.tq b a
 .have:=(f.lt b e).1;have:=S.hQ b a;have:=S.B.size;omega
theorem Cp.tb (S:Cp w0 B0 c vf vb vl vs ph i k T cs w)(a:vb=.slice (some ⟨g,0,none⟩) c.boxes.length cap):T g=2:=S.C.tb g (by rw[a];rfl)
theorem Cp.put (S:Cp w0 B0 c vf vb vl vs ph i k T cs w)(A:k<6){x:ay}(C:c.boxes[i]?=some x)(q:cs[i]?=some (.string x.name::us))(r:vb=.slice (some ⟨g,0,none⟩) c.boxes.length cap)(o:JJ w w1)(t:ds.length=eA x k)(u:∀d∈ds,d.length=tC k)(y:∀n d,ds[n]?=some d->F0 x (hole w0 Hq.q) B0 n d k)(f:w1.ownsRow w.heap.size (QB k) (tC k) v1 (eA x k) ds.flatten):∃s l,l[i]?=some (.string x.name::us.set k v1)/\Cp w0 B0 c vf vb vl vs ph i (k+1) s l (w1.setCell ⟨g,i*7+(k+1),none⟩ v1):=by
 have h1:=S.C.put A S.hB S.B C q r o t u y f;have h2:=S.below o;have h3:=S.B.size;have F:=S.tb r;have tH:=S.t1 w0.heap.size S.hB (by omega);have G:=S.t1 (w0.heap.size+1) (by have:=S.hB;omega) (by omega);have a:=(S.C.Z g (by rw[F];decide)).1;have z:w0.heap.size<=g:=kg λh=>by
  rcases a with a|a
  .have:=S.t1 g a (by omega);omega
  .have:=S.tq g a;omega
 refine⟨_,_,ei (List.getElem?_eq_some_iff.1 q).1,h1,S.hB,h2.B.setCell z _,(aT w1 _ v1 _ (λe=>by have e:w0.heap.size=g:=e;rw[e]at tH;omega)).t h2.box,(aT w1 _ v1 _ (λe=>by have e:w0.heap.size+1=g:=e;rw[e]at G;omega)).t h2.res,λb D E=>?_,S.markq f,S.hQ⟩;rw[lc λe=>?_]
 .exact S.t1 b D E
 .have:=(f.lt b e).1;have:=(Array.getElem?_eq_some_iff.1 S.res).1;omega
theorem Cp.shift (S:Cp w0 B0 c vf vb vl vs ph i 6 T cs w):Cp w0 B0 c vf vb vl vs ph (i+1) 0 T cs w:=by
 refine⟨⟨S.C.Z,S.C.f,S.C.row,S.C.tb,S.C.len,λj l x h1 h2=>?_,S.C.l,S.C.s⟩,S.hB,S.B,S.box,S.res,S.t1,S.tq,S.hQ⟩;obtain⟨us,o,f,q,r⟩:=S.C.el j l x h1 h2;refine⟨us,o,f,q,λa v h=>?_⟩;have t:a<6:=by rw[<-f];exact(List.getElem?_eq_some_iff.1 h).1
 have s:(j<i+1\/j=i+1/\a<0)↔(j<i\/j=i/\a<6):=by omega
 have:=r a v h;unfold N5 at this⊢;rw[s];exact this
theorem Cp.own (S:Cp w0 B0 c vf vb vl vs ph i k T cs w){x:ay}{a:Nat}(l:a<k)(r:c.boxes[i]?=some x)(o:cs[i]?=some (.string x.name::us))(q:us[a]?=some v):∃ds:List (List Value),ds.length=eA x a/\(∀c∈ds,c.length=tC a)/\w.ownsRow B0 (QB a) (tC a) v (eA x a) ds.flatten/\∀i c,ds[i]?=some c->F0 x (hole w (Tz T)) w.heap.size i c a:=by obtain⟨s,f,_,h⟩:=S.C.raw o r;injection f with _ f;subst f;exact((h a v q).1 (.inr ⟨rfl,l⟩)).1
theorem Cp.inner (S:Cp w0 B0 c vf vb vl vs ph i k T cs w){x:ay}{a:Nat}(t:a<k)(I:a<6)(z:c.boxes[i]?=some x)(u:cs[i]?=some (.string x.name::us))(y:us[a]?=some (.slice (some ⟨g,0,none⟩) (eA x a) cap))(q:JJ w w1)(A:ds.length=eA x a)(C:∀d∈ds,d.length=tC a)(D:w.ownsRow B0 (QB a) (tC a) (.slice (some ⟨g,0,none⟩) (eA x a) cap) (eA x a) ds.flatten)(E:∀n d,ds[n]?=some d->F0 x (hole w (Tz T)) w.heap.size n d a)(J:ds[n]?=some d)(K:j<tC a)(v1:Value)(M:KI w.heap.size (hole w (Tz T)) (hole (w1.setCell ⟨g,n*tC a+j,none⟩ v1) (Tz T))->(∀{size m:Nat}{e:TypeId}{xs:List Value},w1.ownsRow w.heap.size e size v1 m xs->m<=140737488355328->Sl (hole (w1.setCell ⟨g,n*tC a+j,none⟩ v1) (Tz T)) w1.heap.size size v1 m xs)->F0 x (hole (w1.setCell ⟨g,n*tC a+j,none⟩ v1) (Tz T)) w1.heap.size n (d.set j v1) a):Cp w0 B0 c vf vb vl vs ph i k T cs (w1.setCell ⟨g,n*tC a+j,none⟩ v1):=by
 obtain⟨R,o,_,F⟩:=S.C.raw u z;injection o with _ o;subst o;have H:T g=tg i a:=((F a _ y).1 (.inr ⟨rfl,t⟩)).2 g rfl;have Q:5<=T g:=by rw[H];unfold tg;omega
 have h2:=S.below q;have h3:=S.B.size;have tH:=S.t1 w0.heap.size S.hB (by omega);have P:=S.t1 (w0.heap.size+1) (by have:=S.hB;omega) (by omega);have f:=S.C.Z g (by omega);have G:w0.heap.size<=g:=kg λh=>by
  rcases f.1 with f|f
  .have:=S.t1 g f (by omega);omega
  .have:=S.tq g f;omega
 have N:KI w.heap.size (hole w (Tz T)) (hole (w1.setCell ⟨g,n*tC a+j,none⟩ v1) (Tz T)):=KI.of λb r l=>⟨l,(aT w1 _ v1 b (λe=>l (by have e:b=g:=e;rw[e];show T g≠0;omega))).t (q.block b r)⟩;have O:∀{size m:Nat}{e:TypeId}{xs:List Value},w1.ownsRow w.heap.size e size v1 m xs->m<=140737488355328->Sl (hole (w1.setCell ⟨g,n*tC a+j,none⟩ v1) (Tz T)) w1.heap.size size v1 m xs:=λh L=>by have s:=fh (bW (a:=⟨g,n*tC a+j,none⟩) h (λe=>by have:=(h.lt g e).1;omega) v1) L;rw[dr]at s;exact kB s λb r l=>by have:=(h.lt b r).1;have:=(S.C.Z b l).2;omega
 exact⟨S.C.inner t I z u y q A C D E J K v1 (M N O),S.hB,h2.B.setCell G _,(aT w1 _ v1 _ (λe=>by have e:w0.heap.size=g:=e;rw[e]at tH;omega)).t h2.box,(aT w1 _ v1 _ (λe=>by have e:w0.heap.size+1=g:=e;rw[e]at P;omega)).t h2.res,S.t1,S.tq,S.hQ⟩
theorem Cp.mark (S:Cp w0 B0 c vf vb vl vs ph i k T cs w){l t:Nat}(a:w1.ownsRow w.heap.size e l v n xs):∀b,B0<=b->b<w0.heap.size+2->mark T v t b=1:=λb f h=>by
 rw[lc λe=>?_]
 .exact S.t1 b f h
 .have:=(a.lt b e).1;have:=(Array.getElem?_eq_some_iff.1 S.res).1;omega
theorem Cp.links (S:Cp w0 B0 c vf vb vl vs 0 i k T cs w)(f:JJ w w1)(l:ds.length=c.links.length)(o:∀d∈ds,d.length=3)(q:∀(n:Nat) d x,ds[n]?=some d->c.links[n]?=some x->fQ w0 B0 d x)(a:w1.ownsRow w.heap.size 62 3 v1 c.links.length ds.flatten):∃h,Cp w0 B0 c vf vb v1 vs 1 i k h cs (w1.setCell ⟨w0.heap.size,5,none⟩ v1):=have h2:=S.below f;⟨_,S.C.links S.hB S.B (S.t1 _ S.hB (by omega)) f l o q a,S.hB,h2.B.setCell Jq _,am _ _ 5 _ _ _ h2.box,(aT w1 _ v1 _ (by show w0.heap.size+1≠w0.heap.size;omega)).t h2.res,S.mark a,S.markq a,S.hQ⟩
theorem Cp.slices (S:Cp w0 B0 c vf vb vl vs 1 i k T cs w)(f:JJ w w1)(l:ds.length=c.slices.length)(o:∀d∈ds,d.length=3)(q:∀(n:Nat) d x,ds[n]?=some d->c.slices[n]?=some x->da (hole w0 Hq.q) B0 d x)(a:w1.ownsRow w.heap.size 68 3 v1 c.slices.length ds.flatten):∃h,Cp w0 B0 c vf vb vl v1 2 i k h cs (w1.setCell ⟨w0.heap.size,6,none⟩ v1):=have h2:=S.below f;⟨_,S.C.slices S.hB S.B (S.t1 _ S.hB (by omega)) f l o q a,S.hB,h2.B.setCell Jq _,am _ _ 6 _ _ _ h2.box,(aT w1 _ v1 _ (by show w0.heap.size+1≠w0.heap.size;omega)).t h2.res,S.mark a,S.markq a,S.hQ⟩
theorem Cp.innerS (S:Cp w0 B0 c vf vb vl (.slice (some ⟨g,0,none⟩) c.slices.length cap) 2 i k T cs w)(o:JJ w w1)(s:ds.length=c.slices.length)(t:∀d∈ds,d.length=3)(u:w.ownsRow B0 68 3 (.slice (some ⟨g,0,none⟩) c.slices.length cap) c.slices.length ds.flatten)(y:∀(n:Nat) d x,ds[n]?=some d->c.slices[n]?=some x->da (hole w (Tz T)) w.heap.size d x)(A:ds[n]?=some d)(C:j<3)(v1:Value)(E:KI w.heap.size (hole w (Tz T)) (hole (w1.setCell ⟨g,n*3+j,none⟩ v1) (Tz T))->(∀{size m:Nat}{e:TypeId}{xs:List Value},w1.ownsRow w.heap.size e size v1 m xs->m<=140737488355328->Sl (hole (w1.setCell ⟨g,n*3+j,none⟩ v1) (Tz T)) w1.heap.size size v1 m xs)->∀x,c.slices[n]?=some x->da (hole (w1.setCell ⟨g,n*3+j,none⟩ v1) (Tz T)) w1.heap.size (d.set j v1) x):Cp w0 B0 c vf vb vl (.slice (some ⟨g,0,none⟩) c.slices.length cap) 2 i k T cs (w1.setCell ⟨g,n*3+j,none⟩ v1):=by
 have I:T g=4:=(S.C.s.1 Jq).2 g rfl;have h2:=S.below o;have h3:=S.B.size;have tH:=S.t1 w0.heap.size S.hB (by omega);have H:=S.t1 (w0.heap.size+1) (by have:=S.hB;omega) (by omega);have f:=S.C.Z g (by omega);have z:w0.heap.size<=g:=kg λh=>by
  rcases f.1 with f|f
  .have:=S.t1 g f (by omega);omega
  .have:=S.tq g f;omega
 have F:KI w.heap.size (hole w (Tz T)) (hole (w1.setCell ⟨g,n*3+j,none⟩ v1) (Tz T)):=KI.of λb q l=>⟨l,(aT w1 _ v1 b (λe=>l (by have e:b=g:=e;rw[e];show T g≠0;omega))).t (o.block b q)⟩;have G:∀{size m:Nat}{e:TypeId}{xs:List Value},w1.ownsRow w.heap.size e size v1 m xs->m<=140737488355328->Sl (hole (w1.setCell ⟨g,n*3+j,none⟩ v1) (Tz T)) w1.heap.size size v1 m xs:=λh D=>by have r:=fh (bW (a:=⟨g,n*3+j,none⟩) h (λe=>by have:=(h.lt g e).1;omega) v1) D;rw[dr]at r;exact kB r λb q l=>by have:=(h.lt b q).1;have:=(S.C.Z b l).2;omega
 exact⟨S.C.innerS o s t u y A C v1 (E F G),S.hB,h2.B.setCell z _,(aT w1 _ v1 _ (λe=>by have e:w0.heap.size=g:=e;rw[e]at tH;omega)).t h2.box,(aT w1 _ v1 _ (λe=>by have e:w0.heap.size+1=g:=e;rw[e]at H;omega)).t h2.res,S.t1,S.tq,S.hQ⟩
theorem rT:∀(vs:List Value)(o:Nat)(w:Wq)(l:List Value),w.heap[b]?=some (.cells l.toArray e (0,0))->l.length=o+vs.length->(w.setCells b o vs).heap[b]?=some (.cells (l.take o++vs).toArray e (0,0))|[],o,w,l,h,hl=>by simp only[aL,eG]at hl;rw[<-hl,kh,aZ];exact h|v::vs,o,w,l,h,hl=>by unfold World.setCells;have h1:=am w b o _ _ v h;have:=rT vs (o+1) (w.setCell ⟨b,o,none⟩ v) (l.set o v) (by rw[h1];simp) (by simp only[dX,aD]at hl⊢;omega);rw[this,List.take_succ_eq_append_getElem (by simp only[dX,aD]at hl⊢;omega)];simp;exact List.take_set_of_le Jq
theorem vN {T:Nat->Nat}(a:T b=1):∀(vs:List Value)(o:Nat)(w w':Wq),Ev T T (λs=>s=1) w w'->Ev T T (λs=>s=1) w (w'.setCells b o vs)|[],_,_,_,h=>h|v::vs,o,w,w',h=>vN a vs (o+1) w _ ⟨by rw[dr];exact h.size,λk l f=>(aT w' _ v k (λe=>f (by have e:k=b:=e;rw[e];exact a))).t (h.block k l f),h.tag,h.ne⟩
theorem xU:∀(vs:List Value)(o:Nat)(w:Wq),(w.setCells b o vs).heap.size=w.heap.size|[],_,_=>rfl|v::vs,o,w=>by unfold World.setCells;rw[xU vs,dr]
theorem Cp.fin (S:Cp w0 B0 c vf vb vl vs ph i k T cs w){W:Wq}(a:w.setCells (w0.heap.size+1) 0 (eO c vf vb vl vs).toList=W):Co w0 B0 c vf vb vl vs ph i k T cs W/\JJ w0 W/\W.heap[w0.heap.size+1]?=some (.cells (eO c vf vb vl vs) 27 (0,0)):=by subst a;have h1:=S.t1 (w0.heap.size+1) (by have:=S.hB;omega) (by omega);have E:=vN h1 (eO c vf vb vl vs).toList 0 w w ⟨al _,λ_ _ _=>rfl,λ_ _=>rfl,by decide⟩;refine⟨S.C.ev E (λt h e=>by omega) λb f=>by rw[xU];exact S.C.Z b f,pM (fe _) _ _ _ S.B,?_⟩;exact rT (eO c vf vb vl vs).toList 0 w FP.toList S.res rfl
end
def uD (n:Nat)(x:ay):Prop:=(∀k,eA x k<=n)/\(∀g∈x.guards,g.mat.length<=n)/\∀r∈x.rules,r.frm.length<=n/\r.mat.length<=n/\r.sets.length<=n/\r.dst.length<=n
theorem uD.of {x:ay}(h0:x.ins.length<=n)(h1:x.outs.length<=n)(h2:x.guards.length<=n)(h3:x.rules.length<=n)(a:x.owns.length<=n)(f:x.routes.length<=n)(h:∀g∈x.guards,g.mat.length<=n)(l:∀r∈x.rules,r.frm.length<=n/\r.mat.length<=n/\r.sets.length<=n/\r.dst.length<=n):uD n x:=⟨λk=>by match k with|0=>exact h0|1=>exact h1|2=>exact h2|3=>exact h3|4=>exact a|_+5=>exact f,h,l⟩
theorem uD.up {x:ay}(h:uD n x)(a:n<=m):uD m x:=by obtain⟨h1,h2,h3⟩:=h;refine⟨λk=>aI (h1 k) a,λg f=>aI (h2 g f) a,λr hr=>?_⟩;have:=h3 r hr;omega
theorem ot {α:Type}{p:α->Bool}{l m:List α}(h:jz p l=some m):m.length<=l.length/\∀x∈m,x∈l:=by
 unfold jz at h;split at h
 .cases h;exact⟨gT _ _,λx a=>(List.mem_filter.1 a).1⟩
 .cases h
theorem vH {α:Type}{p:α->Bool}{y:α}{l m:List α}(h:addL p y l=some m):m.length<=l.length+1/\∀x∈m,x∈l\/x=y:=by
 unfold addL at h;split at h
 .cases h
 .cases h;exact⟨by simp,λx a=>by simpa using a⟩
theorem Ow {o:Bo}{z u:ay}(Q:64<=n)(G:NX o)(h:uD n z)(f:o.app z=some u):uD (n+48) u:=by obtain⟨h1,h2,h3⟩:=h.up (oC n 48);obtain⟨F,O,P⟩:=h;have k0:=h1 0;have q:=h1 1;have t:=h1 2;have y:=h1 3;have A:=h1 4;have C:=h1 5;have I:=F 0;have J:=F 1;have K:=F 2;have L:=F 3;have M:=F 4;have N:=F 5;simp only[eA]at k0 q t y A C I J K L M N;cases o with
 |adIn l=>simp only[Bo.app]at f;split at f<;>cases f;exact .of (by have:=G.2.2;simp;omega) q t y A C h2 h3|adOut l=>simp only[Bo.app]at f;split at f<;>cases f;exact .of k0 (by have:=G.2.2;simp;omega) t y A C h2 h3|adGd g=>
  cases f;exact .of k0 q (by simp;omega) y A C (λx D=>by
   rcases List.mem_append.1 D with D|D
   .exact h2 x D
   .rw[List.mem_singleton.1 D];have:=G.2.1;omega) h3|noIn s=>obtain⟨l,a,rfl⟩:=Option.map_eq_some_iff.1 f;have:=(ot a).1;exact .of (by show l.length<=_;omega) q t y A C h2 h3|noOut s=>obtain⟨l,a,rfl⟩:=Option.map_eq_some_iff.1 f;have:=(ot a).1;exact .of k0 (by show l.length<=_;omega) t y A C h2 h3|noGd s=>obtain⟨l,a,rfl⟩:=Option.map_eq_some_iff.1 f;have E:=ot a;have:=E.1;exact .of k0 q (by show l.length<=_;omega) y A C (λg H=>h2 g (E.2 g H)) h3|noRl k=>obtain⟨l,a,rfl⟩:=Option.map_eq_some_iff.1 f;have E:=ot a;have:=E.1;exact .of k0 q t (by show l.length<=_;omega) A C h2 λr hr=>h3 r (E.2 r hr)|adRl r=>
  obtain⟨l,a,rfl⟩:=Option.map_eq_some_iff.1 f;have E:=vH a;have:=E.1;exact .of k0 q t (by show l.length<=_;omega) A C h2 λx D=>by
   rcases E.2 x D with D|rfl
   .exact h3 x D
   .have w:=(show zO x from G);have:=w.frm.2;have:=w.mat.1;have:=w.sets.1;have:=w.dst.2;omega|noOw v k=>obtain⟨l,a,rfl⟩:=Option.map_eq_some_iff.1 f;have:=(ot a).1;exact .of k0 q t y (by show l.length<=_;omega) C h2 h3|adOw p=>obtain⟨l,a,rfl⟩:=Option.map_eq_some_iff.1 f;have:=(vH a).1;exact .of k0 q t y (by show l.length<=_;omega) C h2 h3|noRt v k=>obtain⟨l,a,rfl⟩:=Option.map_eq_some_iff.1 f;have:=(ot a).1;exact .of k0 q t y A (by show l.length<=_;omega) h2 h3|adRt p=>obtain⟨l,a,rfl⟩:=Option.map_eq_some_iff.1 f;have:=(vH a).1;exact .of k0 q t y A (by show l.length<=_;omega) h2 h3
theorem Kp {s:Wz}{f:ay->Option ay}(hf:∀z u,f z=some u->uD n z->uD (n+48) u):∀{l m:List ay},LJ s f l=some m->(∀x∈l,uD n x)->m.length=l.length/\∀x∈m,uD (n+48) x
 |[],_,h,_=>by cases h|b::r,m,h,hp=>by
  unfold LJ at h;split at h
  .obtain⟨u,t,rfl⟩:=Option.map_eq_some_iff.1 h;exact⟨rfl,λx a=>by
   rcases List.mem_cons.1 a with rfl|a
   .exact hf b x t (hp b (.head _))
   .exact(hp x (.tail _ a)).up (oC n 48)⟩
  .obtain⟨q,o,rfl⟩:=Option.map_eq_some_iff.1 h;obtain⟨e,y⟩:=Kp hf o λx a=>hp x (.tail _ a);exact⟨by simp[e],λx a=>by
   rcases List.mem_cons.1 a with rfl|a
   .exact(hp x (.head _)).up (oC n 48)
   .exact y x a⟩
theorem sM.up {c:bE}(h:sM n c)(a:n<=m):sM m c:=⟨aI h.f a,aI h.b a,aI h.l a,aI h.s a,λx f=>uD.up (h.x x f) a,λy l=>by have:=h.y y l;omega⟩
theorem Ov {e:Ed}{c d:bE}(D:64<=n)(A:DX e)(h:sM n c)(q:e.app c=some d):sM (n+48) d:=by have H:=h.up (oC n 48);cases e with
 |noBox s=>obtain⟨l,a,rfl⟩:=Option.map_eq_some_iff.1 q;have f:=ot a;exact⟨H.f,aI f.1 H.b,H.l,H.s,λx r=>H.x x (f.2 x r),H.y⟩|adBox s=>obtain⟨l,a,rfl⟩:=Option.map_eq_some_iff.1 q;have f:=vH a;have:=f.1;have:=h.b;exact⟨H.f,by show l.length<=_;omega,H.l,H.s,λx r=>by
  rcases f.2 x r with r|rfl
  .exact H.x x r
  .exact uD.of (aK _) (aK _) (aK _) (aK _) (aK _) (aK _) (λg C=>(bG C).elim) λg C=>(bG C).elim,H.y⟩|noLk s=>obtain⟨l,a,rfl⟩:=Option.map_eq_some_iff.1 q;exact⟨H.f,H.b,aI (ot a).1 H.l,H.s,H.x,H.y⟩|adLk x=>obtain⟨l,a,rfl⟩:=Option.map_eq_some_iff.1 q;have:=(vH a).1;have:=h.l;exact⟨H.f,H.b,by show l.length<=_;omega,H.s,H.x,H.y⟩|noSl s=>obtain⟨l,a,rfl⟩:=Option.map_eq_some_iff.1 q;have f:=ot a;exact⟨H.f,H.b,H.l,aI f.1 H.s,H.x,λy t=>H.y y (f.2 y t)⟩|adSl x=>obtain⟨l,a,rfl⟩:=Option.map_eq_some_iff.1 q;have f:=vH a;have:=f.1;have:=h.s;exact⟨H.f,H.b,H.l,by show l.length<=_;omega,H.x,λy t=>by
  rcases f.2 y t with t|rfl
  .exact H.y y t
  .have:=A.2.2.1;have:=A.2.2.2.1;omega⟩|at_ s o=>obtain⟨l,a,rfl⟩:=Option.map_eq_some_iff.1 q;obtain⟨e,r⟩:=Kp (n:=n) (λz u E F=>Ow D A.2 F E) a h.x;exact⟨H.f,by show l.length<=_;have:=H.b;omega,H.l,H.s,r,H.y⟩
theorem Hu {c:bE}(h:jE c=true):sM 64 c:=by
 have w:=kQ h;have hf:c.fields.length<=64:=by unfold jE oW nz at h;simp only[aS,bC]at h;omega
 refine⟨hf,by have:=w.box.1;omega,by have:=w.lnk.1;omega,by have:=w.slc.1;omega,λx f=>?_,λy l=>?_⟩
 .have b:=w.box.2 x f;exact uD.of (by have:=b.ins.2;omega) (by have:=b.outs.2;omega) b.grd.1 b.rul.1 b.own.1 b.rou.1 (λg a=>(b.grd.2 g a).2.1) λr hr=>by have r:=b.rul.2 r hr;have:=r.frm.2;have:=r.mat.1;have:=r.sets.1;have:=r.dst.2;omega
 .have s:=w.slc.2 y l;have:=s.2.2.1;have:=s.2.2.2.1;omega
theorem A7 {α β:Type}{f:β->α->Option α}:∀(l:List β)(a b:α),iN f l a=some b->∃p:Nat->α,p 0=a/\p l.length=b/\∀i e,l[i]?=some e->f e (p i)=some (p (i+1))|[],a,b,h=>by cases h;exact⟨λ_=>a,rfl,rfl,λi e h=>by simp at h⟩|x::r,a,b,h=>by obtain⟨c,h1,h2⟩:=Option.bind_eq_some_iff.1 (show(f x a).bind (iN f r)=some b from h);obtain⟨p,p0,q,s⟩:=A7 r c b h2;exact⟨λi=>match i with|0=>a|i+1=>p i,rfl,q,λi e o=>by cases i with|zero=>cases o;show f x a=some (p 0);rw[p0];exact h1|succ i=>exact s i e o⟩
theorem BD {a b:bE}(h:nE a b=true):nE b a=true:=by unfold nE at h⊢;simp only[aS,dj]at h⊢;obtain⟨h1,h2,h3,f,l,o⟩:=h;exact⟨h2,h1,h3.symm,f.symm,l.symm,(fO nN _ _).2 ((fO nN _ _).1 o).symm⟩
structure Ro (a b:bE)(es:List Ed)(n:Nat)(p:Nat->bE):Prop where
 p0:p 0=a
 st:∀i e,es[i]?=some e->e.app (p i)=some (p (i+1))/\DX e
 mid:wE (p n) b
 fin:wE (p es.length) a
 lim:∀i,i<=es.length->sM 4294967296 (p i)txt:es.map uJ=eP a b++eP b a
 len:n=(eP a b).length
theorem Bc (a b:bE):(eP a b).length<=100000:=by
 unfold eP;split;case isFalse=>exact aK _
 rename_i l;have h:jE a=true/\jE b=true:=by unfold nE at l;simp only[aS]at l;exact⟨l.1,l.2.1⟩
 have q:=kQ h.1;have f:=kQ h.2;generalize ja a.boxes b.boxes=k;have t:=q.box.1;have u:=f.box.1;have y:=q.lnk.1;have z:=f.lnk.1;have A:=q.slc.1;have C:=f.slc.1;have h1:((a.boxes.zip b.boxes).take k).length<=16:=by rw[bv,List.length_zip];omega
 have h2:=qN qD 800 ((a.boxes.zip b.boxes).take k) λp o=>by have o:=ff o;exact th (q.box.2 _ (pS o).1) (f.box.2 _ (pS o).2)
 have h3:=qN su 801 (b.boxes.drop k) λx s=>by have r:=eH s;have:=th (ww (f.box.2 x r)) (f.box.2 x r);unfold su;rw[aC,fV];omega
 have D:=jr ij nV lM a.links b.links;have E:=jr gp pD lX a.slices b.slices;have F:(b.boxes.drop k).length<=16:=by rw[bH];omega
 have G:(a.boxes.drop k).length<=16:=by rw[bH];omega
 unfold qR;rw[aC,aC,aC,aC,aa];omega
theorem Rl {a b:bE}(h:nE a b=true):∃es n p,Ro a b es n p:=by
 have F:=BD h;have E:=h;unfold nE at E;simp only[aS,dj]at E;obtain⟨l,r,ht,hr,hs,hf⟩:=E;replace ht:=IN.1 ht;replace hr:=IN.1 hr;replace hf:=(fO nN _ _).1 hf;obtain⟨t,M,C⟩:=GI (tY l) (tY r) ht hf hr hs (wE.refl a);obtain⟨D,N,O⟩:=GI (tY r) (tY l) ht.symm hf.symm hr.symm hs.symm C;have u:(zK a b (ja a.boxes b.boxes)).map uJ=eP a b:=by rw[C8];unfold eP;rw[ax h]
 have x:(zK b a (ja b.boxes a.boxes)).map uJ=eP b a:=by rw[C8];unfold eP;rw[ax F]
 have w1:=KW (kQ l) (kQ r) (ja a.boxes b.boxes);have Q:=KW (kQ r) (kQ l) (ja b.boxes a.boxes);generalize zK a b (ja a.boxes b.boxes)=E1 at*;generalize zK b a (ja b.boxes a.boxes)=E2 at*;obtain⟨p,p0,z,I⟩:=A7 E1 a t M;obtain⟨q,J,K,L⟩:=A7 E2 t D N;obtain⟨P,y⟩:∃P:Nat->bE,P=λi=>if i<=E1.length then p i else q (i-E1.length):=⟨_,rfl⟩;have o:∀i,i<=E1.length->P i=p i:=λi hi=>by rw[y];exact ax hi
 have s:∀i,P (E1.length+i)=q i:=λi=>by
  rw[y];show(if E1.length+i<=E1.length then _ else _)=_;split
  .have:i=0:=by omega
   subst this;rw[eG,z,J]
  .rw[eu]
 have A:∀i e,(E1++E2)[i]?=some e->e.app (P i)=some (P (i+1))/\DX e:=λi e f=>by
  by_cases hi:i<E1.length
  .rw[ee hi]at f;rw[o i (by omega),o (i+1) (by omega)];exact⟨I i e f,w1 e (aE f)⟩
  .rw[dy (by omega)]at f;obtain⟨j,rfl⟩:∃j,i=E1.length+j:=⟨i-E1.length,by omega⟩;rw[eu]at f;rw[s j,eM,s (j+1)];exact⟨L j e f,Q e (aE f)⟩
 have H:E1.length=(eP a b).length:=by rw[<-u,aa]
 have R:E2.length=(eP b a).length:=by rw[<-x,aa]
 have G:∀i,i<=(E1++E2).length->sM (64+48*i) (P i):=λi=>by induction i with|zero=>intro _;rw[o 0 (aK _),p0];exact Hu l|succ i ih=>intro hi;obtain⟨h1,h2⟩:=A i _ (aF (by omega));have:=Ov (by omega) h2 (ih (by omega)) h1;rwa[eM]at this
 refine⟨E1++E2,E1.length,P,(o 0 (aK _)).t p0,A,?_,?_,λi hi=>(G i hi).up ?_,by rw[bK,u,x],H⟩
 .rw[o _ Jq,z];exact C
 .rw[aC,s,K];exact O
 .have:=Bc a b;have:=Bc b a;rw[aC]at hi;omega
theorem oz {g cap:Nat}:∀(c:List Value)(o:Nat)(w:Wq)(A y r:List Value),y.length=c.length->A.length=o->w.ownsRow base e size (.slice (some ⟨g,0,none⟩) n cap) n (A++y++r)->(w.setCells g o c).ownsRow base e size (.slice (some ⟨g,0,none⟩) n cap) n (A++c++r)
 |[],_,_,A,y,r,hy,_,h=>by rw[List.length_eq_zero_iff.1 hy]at h;exact h|u::c,o,w,A,[],r,hy,_,h=>by simp at hy|u::c,o,w,A,y0::y,r,hy,ho,h=>by
  unfold World.setCells;have h1:=(iA h o u).1;have e:(A++y0::y++r).set o u=(A++[u])++y++r:=by subst ho;simp
  rw[e]at h1;have h2:=oz c (o+1) _ (A++[u]) y r (by simpa using hy) (by simp[ho]) h1;simpa using h2
theorem mV {a:Wq}(f:B<=b):∀(c:List Value)(o:Nat)(w:Wq),Below B a w->Below B a (w.setCells b o c)|[],_,_,h=>h|u::c,o,_,h=>mV f c (o+1) _ (h.setCell f u)
theorem zD (E:qZ T e size bytes)(u:(prog.info? e).map (λi=>i.zero.map λz=>z.cells.toList.all (·.oneCell'))=some (some true)){g cap:Nat}(h:w.ownsRow base e size (.slice (some ⟨g,0,none⟩) n cap) n xs){i:Nat}(hi:i<n):∃w',(∀(c:Nat)(ty:TypeId),(Builtin.clear_ #[T] ty #[.slice (some ⟨g,i*size,none⟩) (n-i) c]).run prog w=.ok (.tuple #[]) w')/\w'.ownsRow base e size (.slice (some ⟨g,0,none⟩) i cap) i (xs.take (i*size))/\Below base w w':=by
 obtain⟨X,z,h1,h2,h3,S,s⟩:=E.hi;rw[h1,jk,h2,jk,j8,j8,fL]at u;obtain⟨l,a|⟨D,jn,r,a,x,q,A,J,C,ht⟩⟩:=h
 .cases a.1
 .cases a;have f:∀w,(zeroValue e).run prog w=.ok z w:=λw=>by simp[zeroValue,typeInfo,h1,h2]
  obtain⟨Z,o⟩:=Jj ((Builtin.zeroCells z.cells (n-i)).toList);have O:Z.length=(n-i)*size:=by rw[<-o];simp[Builtin.zeroCells,s]
  have Q:∀v∈Z,v.oneCell'=true:=λv f=>by rw[<-o]at f;simp only[Builtin.zeroCells,Array.toList_map,pZ]at f;obtain⟨j,_,rfl⟩:=f;have:j%z.cells.size<z.cells.size:=Nat.mod_lt _ (by rw[s];exact E.hs);rw[getElem!_pos z.cells _ this];exact u _ (by simp)
  have V:i*size+(n-i)*size=n*size:=by rw[<-jU];congr 1;omega
  have jy:∀j,j<Z.length->(w.cell? ⟨g,i*size+j,none⟩).isSome=true:=λj U=>by
   rw[aA w g _ r e (0,0) q];have:i*size+j<r.size:=by rw[C];have:=yv size A;omega
   simp[this]
  have L:=run_storeCells_cells (P:=prog) g (i*size) Z 0 w (by simpa using jy) (λj _=>af q _) Q;obtain⟨m,G⟩:∃m,n-i=m+1:=⟨n-i-1,by omega⟩;have hr:∀(c:Nat)(ty:TypeId),(Builtin.clear_ #[T] ty #[.slice (some ⟨g,i*size,none⟩) (n-i) c]).run prog w=.ok (.tuple #[]) (w.setCells g (i*size) Z):=λc ty=>by rw[G]at o⊢;simp[Builtin.clear_,rn E.ht,f,o,L]
  have H:w.ownsRow base e size (.slice (some ⟨g,0,none⟩) n cap) n (xs.take (i*size)++xs.drop (i*size)++[]):=by rw[gS,aZ];exact⟨l,.inr ⟨g,cap,r,rfl,x,q,A,J,C,ht⟩⟩
  have F:=oz Z (i*size) w _ _ _ (by rw[bH,l,O];omega) (by rw[bv,l];omega) H;refine⟨_,hr,⟨by rw[bv,l];omega,?_⟩,mV x _ _ _ Jz⟩;obtain⟨_,a|⟨D,jn,y,a,I,K,W,N,M,R⟩⟩:=F
  .cases a.1
  .cases a;refine .inr ⟨g,cap,y,rfl,I,K,by omega,N,M,?_⟩;have t:(y.toList.take (n*size)).take (i*size)=xs.take (i*size):=by rw[R,aZ,List.take_left'];rw[bv,l];omega
   rw[yx,jl (by omega)]at t;exact t
theorem BR (h:prog.underlying T=some (.slice e)):prog.elem T=e:=by unfold Program.elem;rw[h]
theorem qZ.szOf (E:qZ T e size bytes)(w:Wq):(sizeOf (prog.elem T)).run prog w=.ok size w:=by obtain⟨h,z,h1,h2,h3,a,f⟩:=E.hi;rw[BR E.ht];simp[sizeOf,typeInfo,h1,h3]
theorem tK (E:qZ T e size bytes)(A:Option Addr){c:Nat}(a:k<=n)(w:Wq):(Instr.sliceAt T (.slice A n c) (some (I6 (k:Int))) none none).run prog w=.ok (.slice (if c=k then A else A.map λx=>x.add (k*size)) (n-k) (c-k)) w:=by
 have h:prog.underlying T=some (.slice (prog.elem T)):=by rw[BR E.ht];exact E.ht
 rw[Gt (h:=h),run_slice_l (ht:=h) (h0:=by omega) (h1:=by omega),E.szOf];simp[sliced,Result.andThen]
theorem EG (E:qZ T e size bytes)(A:Option Addr){c:Nat}(a:k<=c)(w:Wq):(Instr.sliceAt T (.slice A n c) none (some (I6 (k:Int))) none).run prog w=.ok (.slice A k c) w:=by
 have h:prog.underlying T=some (.slice (prog.elem T)):=by rw[BR E.ht];exact E.ht
 rw[Gt (h:=h),run_slice_h (ht:=h) (h0:=by omega) (h2:=by omega),E.szOf];by_cases h0:c=0
 .subst h0;have:k=0:=by omega
  subst this;simp[sliced,Result.andThen]
 .cases A<;>simp[sliced,Result.andThen,Addr.add,h0]
theorem AG {α:Type}(p:α->Bool):∀(l:List α)(k:Nat),l.any p=true->∃A d R,l=A++d::R/\(∀x∈A,p x=false)/\p d=true/\rZ p l k=(k+A.length:Nat)
 |[],_,h=>by simp at h|x::r,k,h=>by
  cases hx:p x
  .rw[lx,hx,Bz]at h;obtain⟨A,d,R,h1,h2,h3,f⟩:=AG p r (k+1) h;refine⟨x::A,d,R,by rw[h1];rfl,λy a=>?_,h3,?_⟩
   .rcases List.mem_cons.1 a with rfl|a
    .exact hx
    .exact h2 y a
   .unfold rZ;rw[hx,ap (by simp),f,aD];congr 1;omega
  .exact⟨[],x,r,rfl,λy a=>(by cases a),hx,by unfold rZ;rw[ax hx];rfl⟩
theorem HX (h:c.length=n+1):∃v a,c=v::a/\a.length=n:=by cases c with|nil=>simp at h|cons v c=>exact⟨v,c,rfl,by simpa using h⟩
structure Dl (w0:Wq)(base:Nat)(e:TypeId)(size:Nat)(g cap:Nat)(p:List Value->Bool)(cs:List (List Value))(i j:Nat)(kept mid rest:List (List Value))(w:Wq):Prop where
 S:∃done,cs=done++rest/\done.length=j/\kept=done.filter λc=>!p c
 ki:kept.length=i
 m:i+mid.length=j
 pos:mid≠[]ml:∀c∈mid,c.length=size
 own:w.ownsRow base e size (.slice (some ⟨g,0,none⟩) cs.length cap) cs.length (kept++mid++rest).flatten
 B:Below base w0 w
section
variable {w0 w w':Wq} {base:Nat} {e:TypeId} {size g cap:Nat} {p:List Value→Bool} {cs kept mid rest:List (List Value)} {i j:Nat}
theorem Dl.skip (h:Dl w0 base e size g cap p cs i j kept mid (c::rest) w)(t:c.length=size)(u:p c=true)(f:JJ w w')(s:base<=w.heap.size):Dl w0 base e size g cap p cs i (j+1) kept (mid++[c]) rest w':=by
 obtain⟨⟨done,h1,h2,h3⟩,l,x,y,o,q,r⟩:=h;refine⟨⟨done++[c],by rw[h1];simp,by simp[h2],by rw[rL,h3];simp[u]⟩,l,by simp;omega,by simp,λd a=>?_,?_,r.t (f.mono s)⟩
 .rcases List.mem_append.1 a with a|a
  .exact o d a
  .rw[List.mem_singleton.1 a];exact t
 .have:=aU q f;simpa using this
theorem Dl.put (h:Dl w0 base e size g cap p cs i j kept mid (c::rest) w)(r:c.length=size)(F:∀c∈cs,c.length=size)(G:p c=false)(q:JJ w w')(C:base<=w.heap.size):∃m,Dl w0 base e size g cap p cs (i+1) (j+1) (kept++[c]) m rest (w'.setCells g (i*size) c):=by obtain⟨⟨done,h1,h2,h3⟩,f,y,z,l,o,A⟩:=h;cases mid with|nil=>exact absurd rfl z|cons d m=>
 have s:=aU o q;have D:base<=g:=(o.lt g rfl).1;have t:(kept++d::m++c::rest).flatten=kept.flatten++d++(m.flatten++(c++rest.flatten)):=by simp
 rw[t]at s;have E:kept.flatten.length=i*size:=by rw[ui kept λx a=>F x (by rw[h1];rw[h3]at a;exact eI _ (List.mem_filter.1 a).1),f]
 have u:=oz c (i*size) w' _ _ _ (by rw[r];exact l d bT) E s;refine⟨m++[c],⟨done++[c],by rw[h1];simp,by simp[h2],by rw[rL,h3];simp[G]⟩,by simp[f],by simp at y⊢;omega,by simp,λx a=>?_,?_,mV D _ _ _ (A.t (q.mono C))⟩
 .rcases List.mem_append.1 a with a|a
  .exact l x (bU _ a)
  .rw[List.mem_singleton.1 a];exact r
 .simpa using u
end
end Go.Proofs.YtgfgoaeaicefcaaGreatDoor
namespace Go.Proofs.YtgfgoaeaicefcaaGreatDoor
open Go.RowKit Tryz
variable {n size b base B j bytes k m:Nat}{e T:TypeId}{ds:List (List Value)}{xs d us c:List Value}{v v1:Value}{w:Wq}
attribute [local go_sem ↓] Go.wp_at_zero Go.wp_at_succ
def kU (c:List Value):Value:=.agg c.toArray
def B1 (c:List Value):Value:=c.headD undef
def Pq (h:Nat)(a:List Nat)(f:List Value->Value):Prop:=∀{cs:List (List Value)}{v:Value}{jf:Nat}{cap:Array Value}{p:List Value->Bool}{w:Wq},Sl w w.heap.size a.length v cs.length cs.flatten->(∀c∈cs,vJ a c)->oD jf->(∀W c,JJ w W->c∈cs->Calls prog jf (#[f c]++cap) W (dP (p c) W))->Calls prog h #[v,.func (.func jf) #[] cap] w λe w'=>e=.returned (I6 (rZ p cs 0))/\JJ w w'
theorem J6:Pq 243 [0,3,3,3,3,3,3] kU/\Pq 115 [0,0,1] kU/\Pq 130 [0,3,3] kU/\Pq 323 [0] B1/\Pq 324 [0,2,3] kU/\Pq 186 [1,3,3,3,3] kU/\Pq 190 [1,1,0] kU:=by refine⟨?_,?_,?_,?_,?_,?_,?_⟩;intro cs v jf cap p w f l jm o;obtain⟨A,q,rfl,_,_,_,_⟩:=id f;go_enter func243,ntmps243;rotate_left;intro cs v jf cap p w f l jm o;obtain⟨A,q,rfl,_,_,_,_⟩:=id f;go_enter func115,ntmps115;rotate_left;intro cs v jf cap p w f l jm o;obtain⟨A,q,rfl,_,_,_,_⟩:=id f;go_enter func130,ntmps130;rotate_left;intro cs v jf cap p w f l jm o;obtain⟨A,q,rfl,_,_,_,_⟩:=id f;go_enter func323,ntmps323;rotate_left;intro cs v jf cap p w f l jm o;obtain⟨A,q,rfl,_,_,_,_⟩:=id f;go_enter func324,ntmps324;rotate_left;intro cs v jf cap p w f l jm o;obtain⟨A,q,rfl,_,_,_,_⟩:=id f;go_enter func186,ntmps186;rotate_left;intro cs v jf cap p w f l jm o;obtain⟨A,q,rfl,_,_,_,_⟩:=id f;go_enter func190,ntmps190;rotate_left;all_goals(
 have H:=Hi (aB w.heap.size w);have G:Hid (rZ p cs 0=rZ p (cs.drop 0) 0):=Hi rfl;generalize rZ p cs 0=R at*;replace f:=Hi f;replace o:=Hi o;replace l:=Hi l;have hcf':∀a w,(callFunc jf a).run prog w=.ok (.enter jf a) w:=jm;clear jm;have U:cs.length<=q/\q<=9223372036854775807/\cs.length<=140737488355328:=by obtain⟨_,_,h,h1,h2,_⟩:=f.o;cases h;exact⟨h1,h2⟩
 obtain⟨Y,Z,hc3⟩:=U;go_wp2_with fail;go_loopw [8] (λi wr=>∃k:Nat,k<=cs.length/\i=I6 k/\Hid (R=rZ p (cs.drop k) k)/\Hid (JJ w wr))(λi _=>cs.length-(intOf i).toNat);case atStart=>exact⟨0,aK _,rfl,G,H⟩
 case round=>
  obtain⟨k,hk,rfl,x,u⟩:=hrel;obtain⟨V,rfl⟩:=Jv wr;clear G H;by_cases hlt:k<cs.length
  .obtain⟨b,off,c,rfl,_,z,r⟩:=CN (f.o.below u.o Jq) (λc P=>(l.o c P).len) hlt;have y:=Hi (o.o V c u.o (aE z));have t:=Hi (x.o.t (yB z));have C:=l.o c (aE z);clear x z;generalize Q:p c=px at y t;clear Q;repeat(obtain⟨v,X,S,F,j9⟩:=C.split;clear C;subst S;(first|(obtain⟨s,rfl⟩:=F)|(obtain⟨A,n,m,rfl⟩:=F));have C:=j9;clear j9)
   obtain rfl:=C.none;have E:=r 0 _ rfl;(try have J:=r 1 _ rfl);(try have K:=r 2 _ rfl);(try have L:=r 3 _ rfl);(try have M:=r 4 _ rfl);(try have N:=r 5 _ rfl);(try have O:=r 6 _ rfl);clear r;simp only[aD,aL,aY,eG]at E;(try simp only[gr]at E);(try simp only[aD,aL,aY,Nat.reduceAdd]at J);(try simp only[aD,aL,aY,Nat.reduceAdd]at K);(try simp only[aD,aL,aY,Nat.reduceAdd]at L);(try simp only[aD,aL,aY,Nat.reduceAdd]at M);(try simp only[aD,aL,aY,Nat.reduceAdd]at N);(try simp only[aD,aL,aY,Nat.reduceAdd]at O);simp only[kU,B1,iF]at y;cases px
   .replace t:=Hi (show R=rZ p (cs.drop (k+1)) (k+1)from t.o);go_wp2_with((with_reducible refine(y.o).mono ?_);rintro e W ⟨rfl,D⟩);go_roundw;case rel=>exact⟨k+1,by omega,by go_num,t,Hi (JK u.o D)⟩
    case measure=>simp[intOf];omega
   .replace t:=Hi (show R=(k:Int)from t.o);go_wp2_with((with_reducible refine(y.o).mono ?_);rintro e W ⟨rfl,D⟩);go_ret;exact⟨by rw[t.o];rfl,(JK u.o D)⟩
  .have I:Hid (R=-1):=Hi (by rw[x.o,bL (by omega)];rfl);clear x;go_wp2_with fail;go_ret;exact⟨by rw[I.o];rfl,u.o⟩)
end Go.Proofs.YtgfgoaeaicefcaaGreatDoor
