/- Part of DeltaBack. -/
import Derived.Test.YtgfgoaeaicefcaaGreatDoorQA8
set_option maxHeartbeats 16000000
set_option maxRecDepth 100000
set_option linter.all false
namespace Go.Proofs.YtgfgoaeaicefcaaGreatDoor
open Go.RowKit Tryz
variable {v u v1:Value}{w w':Wq}{n size B t b j g oo k a cap sz:Nat}{xs c:List Value}{ds:List (List Value)}{e:TypeId}
open Classical in
noncomputable def hole (w:Wq)(Z:Nat->Prop):Wq:={w with heap:=w.heap.mapIdx λi oo=>if Z i then .cells #[] 0 (0,0)else oo}
theorem ef {Z:Nat->Prop}:(hole w Z).cell? ⟨b,oo,none⟩=some u↔¬Z b/\w.cell? ⟨b,oo,none⟩=some u:=by classical
 have f:(hole w Z).heap[b]?=(w.heap[b]?).map λx=>if Z b then Obj.cells #[] 0 (0,0)else x:=by unfold hole;rw[Array.getElem?_mapIdx]
 by_cases h:Z b
 .refine⟨λd=>?_,λd=>absurd h d.1⟩;cases hw:w.heap[b]? with|none=>rw[hw]at f;simp[World.cell?,f]at d|some ob=>rw[hw,jk,ax h]at f;rw[aA (hole w Z) b oo #[] 0 (0,0) f]at d;simp at d
 .have e:(hole w Z).cell? ⟨b,oo,none⟩=w.cell? ⟨b,oo,none⟩:=dH (w:=w) (a:=⟨b,oo,none⟩) (by rw[f];cases w.heap[b]?<;>simp[h]);rw[e];exact⟨λd=>⟨h,d⟩,λd=>d.2⟩
def KI (B:Nat)(w w':Wq):Prop:=∀b oo u,b<B->w.cell? ⟨b,oo,none⟩=some u->w'.cell? ⟨b,oo,none⟩=some u
section
variable {w w':Wq} {B B':Nat} {Z Z':Nat→Prop}
theorem KI.below (d:Below B w w'):KI B w w':=λb oo u h f=>(d.cell (p:=⟨b,oo,none⟩) h).t f
theorem KI.o:KI B (hole w Z) w:=λ_ _ _ _ d=>(ef.1 d).2
theorem KI.of (m:∀b,b<B->¬Z b->¬Z' b/\w'.heap[b]?=w.heap[b]?):KI B (hole w Z) (hole w' Z'):=λb oo u f h=>by obtain⟨h1,h2⟩:=ef.1 h;obtain⟨h3,d⟩:=m b f h1;exact ef.2 ⟨h3,(dH (w:=w) (a:=⟨b,oo,none⟩) d).t h2⟩
theorem Sl.ki (h:Sl w B size v n xs)(hB:B<=B')(q:KI B w w'):Sl w' B' size v n xs:=by obtain⟨A,cap,y,h1,h2,h3,d⟩:=h;refine⟨A,cap,y,h1,h2,h3,λr=>?_⟩;obtain⟨b,off,f,m,p⟩:=d r;exact⟨b,off,f,by omega,λj u s=>q _ _ _ m (p j u s)⟩
structure uF {α:Type}(R:Wq->Nat->List Value->α->Prop):Prop where go:∀{w w':Wq}{B B':Nat}{c:List Value}{x:α},B<=B'->KI B w w'->R w B c x->R w' B' c x
theorem aX.ki {α:Type}{R:Wq->Nat->List Value->α->Prop}(g:uF R){l:List α}(h:aX size R w B v l)(hB:B<=B')(d:KI B w w'):aX size R w' B' v l:=by obtain⟨cs,p,hs,m,f⟩:=h;exact⟨cs,p,hs,m.ki hB d,λi c x h1 h2=>g.go hB d (f i c x h1 h2)⟩
end
theorem ak {α:Type}{P:List Value->α->Prop}:uF λ_ _=>P:=⟨λ_ _ h=>h⟩
theorem mP:uF iu:=by refine⟨λ{w w'} {B B'} {c x} hB hk h=>?_⟩;obtain⟨v,h1,h2,h3⟩:=h;exact⟨v,h1,h2,h3.ki ak hB hk⟩
theorem lG:uF gn:=by refine⟨λ{w w'} {B B'} {c x} hB hk h=>?_⟩;obtain⟨a,b,d,e,h1,h2,h3,f,m⟩:=h;exact⟨a,b,d,e,h1,aX.ki ak h2 hB hk,h3.ki ak hB hk,f.ki ak hB hk,aX.ki ak m hB hk⟩
theorem dz:uF da:=by refine⟨λ{w w'} {B B'} {c x} hB hk h=>?_⟩;obtain⟨a,b,h1,h2,h3,d⟩:=h;exact⟨a,b,h1,h2,aX.ki ak h3 hB hk,d.ki ak hB hk⟩
theorem lg:uF jB:=by refine⟨λ{w w'} {B B'} {c x} hB hk h=>?_⟩;obtain⟨a,b,d,e,f,g,h1,h2,h3,m,p,q,r,s⟩:=h;exact⟨a,b,d,e,f,g,h1,h2,aX.ki ak h3 hB hk,aX.ki ak m hB hk,p.ki mP hB hk,q.ki lG hB hk,r.ki ak hB hk,s.ki ak hB hk⟩
theorem lW {B':Nat}{c:bE}{vf vb vl vs:Value}(h:fE w B c vf vb vl vs)(hB:B<=B')(d:KI B w w'):fE w' B' c vf vb vl vs:=⟨h.f.ki ak hB d,h.b.ki lg hB d,h.l.ki ak hB d,h.s.ki dz hB d,h.ht,h.hr⟩
theorem ui:∀(cs:List (List Value)),(∀c∈cs,c.length=n)->cs.flatten.length=cs.length*n|[],_=>by simp|c::cs,h=>by rw[dh,aC,h c (by simp),ui cs (λc d=>h c (by simp[d])),aD,Dq];omega
def Kn:Nat->Value->Prop|0,v=>∃s,v=.string s|1,v=>∃k,v=I6 k|2,v=>∃b,v=.bool b|_,v=>∃A n c,v=.slice A n c
inductive vJ:List Nat->List Value->Prop|nil:vJ [] []|cons {k:Nat}{v:Value}{ks:List Nat}{c:List Value}:Kn k v->vJ ks c->vJ (k::ks) (v::c)
theorem vJ.split {f:List Nat}(h:vJ (k::f) c):∃v d,c=v::d/\Kn k v/\vJ f d:=by cases h with|cons h1 h2=>exact⟨_,_,rfl,h1,h2⟩
theorem vJ.none (h:vJ [] c):c=[]:=by cases h;rfl
theorem vJ.len {d:List Nat}(h:vJ d c):c.length=d.length:=by induction h with|nil=>rfl|cons _ _ ih=>simp[ih]
theorem Kn.one (h:Kn k v):v.oneCell'=true:=by
 unfold Kn at h;split at h
 .obtain⟨_,rfl⟩:=h;rfl
 .obtain⟨_,rfl⟩:=h;rfl
 .obtain⟨_,rfl⟩:=h;rfl
 .obtain⟨_,_,_,rfl⟩:=h;rfl
theorem vJ.one {f:List Nat}(h:vJ f c):∀u∈c,u.oneCell'=true:=by induction h with|nil=>intro u d;cases d|cons h1 _ ih=>
 intro u d;rcases List.mem_cons.1 d with rfl|d
 .exact h1.one
 .exact ih u d
theorem Qe (h:Sl w B size v n xs):Kn 3 v:=by obtain⟨A,c,rfl,_⟩:=h;exact⟨A,n,c,rfl⟩
theorem jK {α:Type}{R:Wq->Nat->List Value->α->Prop}{l:List α}(h:aX size R w B v l):Kn 3 v:=by obtain⟨_,_,_,d,_⟩:=h;exact Qe d
structure IE {α:Type}(R:Wq->Nat->List Value->α->Prop)(ks:List Nat):Prop where sh:∀{w:Wq}{B:Nat}{c:List Value}{x:α},R w B c x->vJ ks c
theorem la:IE FH [0]:=⟨λh=>by obtain⟨rfl,_⟩:=h;exact .cons ⟨_,rfl⟩ .nil⟩
theorem Gq:IE yj [0,1]:=⟨λh=>by obtain⟨rfl,_⟩:=h;exact .cons ⟨_,rfl⟩ (.cons ⟨_,rfl⟩ .nil)⟩
theorem xT:IE yg [1,0,1,1,1,1,1,0]:=⟨λh=>by obtain⟨rfl,_⟩:=h;exact .cons ⟨_,rfl⟩ (.cons ⟨_,rfl⟩ (.cons ⟨_,rfl⟩ (.cons ⟨_,rfl⟩ (.cons ⟨_,rfl⟩ (.cons ⟨_,rfl⟩ (.cons ⟨_,rfl⟩ (.cons ⟨_,rfl⟩ .nil)))))))⟩
theorem Lj:IE K6 [0,1]:=⟨λh=>by obtain⟨rfl,_⟩:=h;exact .cons ⟨_,rfl⟩ (.cons ⟨_,rfl⟩ .nil)⟩
theorem sb:IE fQ [0,0,1]:=⟨λh=>by obtain⟨rfl,_⟩:=h;exact .cons ⟨_,rfl⟩ (.cons ⟨_,rfl⟩ (.cons ⟨_,rfl⟩ .nil))⟩
theorem mT:IE fw [1,1,0]:=⟨λh=>by obtain⟨rfl,_⟩:=h;exact .cons ⟨_,rfl⟩ (.cons ⟨_,rfl⟩ (.cons ⟨_,rfl⟩ .nil))⟩
theorem CQ:IE iu [0,2,3]:=⟨λh=>by obtain⟨v,rfl,_,h⟩:=h;exact .cons ⟨_,rfl⟩ (.cons ⟨_,rfl⟩ (.cons (jK h) .nil))⟩
theorem sZ:IE gn [1,3,3,3,3]:=⟨λh=>by obtain⟨_,_,_,_,rfl,h1,h2,h3,d⟩:=h;exact .cons ⟨_,rfl⟩ (.cons (jK h1) (.cons (jK h2) (.cons (jK h3) (.cons (jK d) .nil))))⟩
theorem qp:IE da [0,3,3]:=⟨λh=>by obtain⟨_,_,rfl,_,h1,h2⟩:=h;exact .cons ⟨_,rfl⟩ (.cons (jK h1) (.cons (jK h2) .nil))⟩
theorem Ay:IE jB [0,3,3,3,3,3,3]:=⟨λh=>by obtain⟨_,_,_,_,_,_,rfl,_,h1,h2,h3,d,f,m⟩:=h;exact .cons ⟨_,rfl⟩ (.cons (jK h1) (.cons (jK h2) (.cons (jK h3) (.cons (jK d) (.cons (jK f) (.cons (jK m) .nil))))))⟩
theorem CN {A:Option Addr}{cs:List (List Value)}(h:Sl w B size (.slice A cs.length cap) cs.length cs.flatten)(q:∀c∈cs,c.length=size)(d:k<cs.length):∃b off c,A=some ⟨b,off,none⟩/\b<B/\cs[k]?=some c/\∀j u,c[j]?=some u->w.cell? ⟨b,off+k*size+j,none⟩=some u:=by obtain⟨y,z,s,_,_,_,f⟩:=h;cases s;obtain⟨b,off,rfl,m,p⟩:=f (by omega);refine⟨b,off,cs[k],rfl,m,aF d,λj u r=>?_⟩;rw[eM];exact p _ u (iP size cs q k j _ u (aF d) r)
def IJ {α:Type}(e:TypeId)(size:Nat)(R:Wq->Nat->List Value->α->Prop)(w:Wq)(base:Nat)(Z:Nat->Prop)(v:Value)(l:List α):Prop:=∃cs:List (List Value),cs.length=l.length/\(∀c∈cs,c.length=size)/\w.ownsRow base e size v l.length cs.flatten/\∀(i:Nat)(c:List Value)(x:α),cs[i]?=some c->l[i]?=some x->R (hole w Z) w.heap.size c x
section
variable {α : Type} {e:TypeId} {size base base':Nat} {R:Wq→Nat→List Value→α→Prop} {w w':Wq} {Z Z':Nat→Prop} {v:Value} {l:List α}
theorem fh (h:w.ownsRow base e size v n xs)(p:n<=140737488355328):Sl w w.heap.size size v n xs:=by
 rcases h.2 with⟨rfl,rfl⟩|⟨g,cap,q,rfl,r,f,h1,h2,h3,m⟩
 .exact⟨none,0,rfl,al _,by omega,h.1,λh=>absurd h (lw _)⟩
 .refine⟨_,cap,rfl,h1,⟨h2,p⟩,h.1,λ_=>⟨g,0,rfl,(Array.getElem?_eq_some_iff.1 f).1,λj u d=>?_⟩⟩;rw[aY,aA w g j q e (0,0) f];rw[<-m,gc]at d;split at d
  .simpa using d
  .cases d
theorem IJ.keep (g:uF R)(h:IJ e size R w base Z v l)(hs:w.heap.size<=w'.heap.size)(r:∀b,v.ownBlock=some b->w'.heap[b]?=w.heap[b]?)(q:∀b,b<w.heap.size->¬Z b->¬Z' b/\w'.heap[b]?=w.heap[b]?)(z:base'<=base):IJ e size R w' base' Z' v l:=by
 obtain⟨cs,h1,h2,h3,d⟩:=h;refine⟨cs,h1,h2,⟨h3.1,?_⟩,λi c x m s=>g.go hs (KI.of q) (d i c x m s)⟩;rcases h3.2 with h|⟨b,cap,y,rfl,jf,p,f⟩
 .exact .inl h
 .exact .inr ⟨b,cap,y,rfl,by omega,(r b rfl).t p,f⟩
theorem IJ.lt (h:IJ e size R w base Z v l)(d:v.ownBlock=some b):base<=b/\b<w.heap.size:=by obtain⟨cs,_,_,h3,_⟩:=h;exact h3.lt b d
end
end Go.Proofs.YtgfgoaeaicefcaaGreatDoor
namespace Go.Proofs.YtgfgoaeaicefcaaGreatDoor
open Go.RowKit Tryz
variable {v u v1:Value}{w w':Wq}{n size B t b j g oo k a cap sz:Nat}{xs c:List Value}{ds:List (List Value)}{e:TypeId}
theorem dr (w:Wq)(a:Addr)(u:Value):(w.setCell a u).heap.size=w.heap.size:=by simp[World.setCell]
def QB:Nat->TypeId|0=>9|1=>9|2=>121|3=>50|_=>96
def tC:Nat->Nat|0=>1|1=>1|2=>3|3=>5|_=>3
def eA (x:ay):Nat->Nat|0=>x.ins.length|1=>x.outs.length|2=>x.guards.length|3=>x.rules.length|4=>x.owns.length|_=>x.routes.length
def F0 (x:ay)(w:Wq)(B i:Nat)(c:List Value):Nat->Prop|0=>∀y,x.ins[i]?=some y->FH w B c y|1=>∀y,x.outs[i]?=some y->FH w B c y|2=>∀y,x.guards[i]?=some y->iu w B c y|3=>∀y,x.rules[i]?=some y->gn w B c y|4=>∀y,x.owns[i]?=some y->fw w B c y|_=>∀y,x.routes[i]?=some y->fw w B c y
theorem xt {x:ay}{B' i:Nat}(h:F0 x w B i c k)(hB:B<=B')(f:KI B w w'):F0 x w' B' i c k:=by
 unfold F0 at h⊢;split at h
 .exact λy d=>h y d
 .exact λy d=>h y d
 .exact λy d=>mP.go hB f (h y d)
 .exact λy d=>lG.go hB f (h y d)
 .exact λy d=>h y d
 .exact λy d=>h y d
def LR (k:Nat)(w:Wq)(B:Nat)(v:Value)(x:ay):Prop:=∃cs:List (List Value),cs.length=eA x k/\(∀c∈cs,c.length=tC k)/\Sl w B (tC k) v (eA x k) cs.flatten/\∀i c,cs[i]?=some c->F0 x w B i c k
def LO (k:Nat)(w:Wq)(base:Nat)(Z:Nat->Prop)(v:Value)(x:ay):Prop:=∃cs:List (List Value),cs.length=eA x k/\(∀c∈cs,c.length=tC k)/\w.ownsRow base (QB k) (tC k) v (eA x k) cs.flatten/\∀i c,cs[i]?=some c->F0 x (hole w Z) w.heap.size i c k
section
variable {k:Nat} {w w':Wq} {B B' base base':Nat} {Z Z':Nat→Prop} {v:Value} {x:ay}
theorem LR.ki (h:LR k w B v x)(hB:B<=B')(d:KI B w w'):LR k w' B' v x:=by obtain⟨cs,h1,h2,h3,f⟩:=h;exact⟨cs,h1,h2,h3.ki hB d,λi c m=>xt (f i c m) hB d⟩
theorem LO.lt (h:LO k w base Z v x)(d:v.ownBlock=some b):base<=b/\b<w.heap.size:=by obtain⟨cs,_,_,h3,_⟩:=h;exact h3.lt b d
theorem LO.keep (h:LO k w base Z v x)(hs:w.heap.size<=w'.heap.size)(r:∀b,v.ownBlock=some b->w'.heap[b]?=w.heap[b]?)(q:∀b,b<w.heap.size->¬Z b->¬Z' b/\w'.heap[b]?=w.heap[b]?)(y:base'<=base):LO k w' base' Z' v x:=by
 obtain⟨cs,h1,h2,h3,d⟩:=h;refine⟨cs,h1,h2,⟨h3.1,?_⟩,λi c m=>xt (d i c m) hs (KI.of q)⟩;rcases h3.2 with h|⟨b,cap,s,rfl,jf,p,f⟩
 .exact .inl h
 .exact .inr ⟨b,cap,s,rfl,by omega,(r b rfl).t p,f⟩
end
theorem jM {α:Type}{R:Wq->Nat->List Value->α->Prop}{l:List α}:aX size R w B v l↔∃cs:List (List Value),cs.length=l.length/\(∀c∈cs,c.length=size)/\Sl w B size v l.length cs.flatten/\∀(i:Nat)(c:List Value),cs[i]?=some c->∀y:α,l[i]?=some y->R w B c y:=⟨λ⟨cs,h1,h2,h3,h4⟩=>⟨cs,h1,h2,h3,λi c d y f=>h4 i c y d f⟩,λ⟨cs,h1,h2,h3,h4⟩=>⟨cs,h1,h2,h3,λi c y d f=>h4 i c d y f⟩⟩
theorem vF {x:ay}:jB w B c x↔∃vs,c=.string x.name::vs/\vs.length=6/\Sm x.name/\∀k v,vs[k]?=some v->LR k w B v x:=by
 constructor
 .rintro⟨q,r,p,s,m,vb,rfl,f,h0,h1,h2,h3,y,z⟩;refine⟨[q,r,p,s,m,vb],rfl,rfl,f,λk v d=>?_⟩;match k,d with|0,d=>cases d;exact jM.1 h0|1,d=>cases d;exact jM.1 h1|2,d=>cases d;exact jM.1 h2|3,d=>cases d;exact jM.1 h3|4,d=>cases d;exact jM.1 y|5,d=>cases d;exact jM.1 z
 .rintro⟨vs,rfl,A,f,h⟩;match vs,A with|[q,r,p,s,m,vb],_=>exact⟨q,r,p,s,m,vb,rfl,f,jM.2 (h 0 _ rfl),jM.2 (h 1 _ rfl),jM.2 (h 2 _ rfl),jM.2 (h 3 _ rfl),jM.2 (h 4 _ rfl),jM.2 (h 5 _ rfl)⟩
def tg (j a:Nat):Nat:=6*j+a+5
theorem EH {f d:Nat}(m:a<6)(p:d<6)(h:tg j a=tg f d):j=f/\a=d:=by unfold tg at h;omega
abbrev Tz (T:Nat->Nat):Nat->Prop:=λb=>T b≠0
def N5 (w0:Wq)(B0:Nat)(T:Nat->Nat)(w:Wq)(j a:Nat)(own:Prop)(v:Value)(x:ay):Prop:=(own->LO a w B0 (Tz T) v x/\∀b,v.ownBlock=some b->T b=tg j a)/\(¬own->LR a w0 B0 v x)
def sL {α:Type}(e:TypeId)(size:Nat)(R:Wq->Nat->List Value->α->Prop)(B0:Nat)(T:Nat->Nat)(w:Wq)(t:Nat)(v:Value)(l:List α):Prop:=IJ e size R w B0 (Tz T) v l/\∀b,v.ownBlock=some b->T b=t
structure Ev (T T':Nat->Nat)(G:Nat->Prop)(w w':Wq):Prop where
 size:w.heap.size<=w'.heap.size
 block:∀b,b<w.heap.size->¬G (T b)->w'.heap[b]?=w.heap[b]?
 tag:∀b,b<w.heap.size->T' b=T b
 ne:¬G 0
section
variable {w0 w w':Wq} {T T':Nat→Nat} {G:Nat→Prop} {B0:Nat}
theorem Ev.hk (E:Ev T T' G w w'):∀b,b<w.heap.size->¬Tz T b->¬Tz T' b/\w'.heap[b]?=w.heap[b]?:=λb d f=>by have h0:T b=0:=ri f;exact⟨by show¬T' b≠0;rw[E.tag b d];exact f,E.block b d (by rw[h0];exact E.ne)⟩
theorem Ev.below (d:JJ w w'):Ev T T (λ_=>False) w w':=⟨d.size,λb h _=>d.block b h,λ_ _=>rfl,id⟩
theorem LO.ev {x:ay}(h:LO a w B0 (Tz T) v x/\∀b,v.ownBlock=some b->T b=t)(E:Ev T T' G w w')(f:¬G t):LO a w' B0 (Tz T') v x/\∀b,v.ownBlock=some b->T' b=t:=by obtain⟨h1,h2⟩:=h;refine⟨h1.keep E.size (λb d=>E.block b (h1.lt d).2 (by rw[h2 b d];exact f)) E.hk Jq,λb d=>?_⟩;rw[E.tag b (h1.lt d).2];exact h2 b d
theorem N5.ev {own:Prop}{x:ay}(h:N5 w0 B0 T w j a own v x)(E:Ev T T' G w w')(f:¬G (tg j a)):N5 w0 B0 T' w' j a own v x:=⟨λd=>LO.ev (h.1 d) E f,h.2⟩
theorem sL.ev {α:Type}{R:Wq->Nat->List Value->α->Prop}{l:List α}(f:uF R)(h:sL e size R B0 T w t v l)(E:Ev T T' G w w')(m:¬G t):sL e size R B0 T' w' t v l:=by obtain⟨h1,h2⟩:=h;refine⟨h1.keep f E.size (λb d=>E.block b (h1.lt d).2 (by rw[h2 b d];exact m)) E.hk Jq,λb d=>?_⟩;rw[E.tag b (h1.lt d).2];exact h2 b d
end
theorem kB {Z:Nat->Prop}(h:Sl w B size v n xs)(r:∀b,v.ownBlock=some b->¬Z b):Sl (hole w Z) B size v n xs:=by obtain⟨A,cap,rfl,h1,h2,h3,d⟩:=h;refine⟨A,cap,rfl,h1,h2,h3,λp=>?_⟩;obtain⟨b,off,rfl,f,m⟩:=d p;exact⟨b,off,rfl,f,λj u q=>ef.2 ⟨r b rfl,m j u q⟩⟩
class Hq where
 q:Nat→Prop
theorem KI.q [Hq](h:KI B w w'):KI B (hole w Hq.q) w':=λb oo u f d=>h b oo u f (ef.1 d).2
structure Co [Hq](w0:Wq)(B0:Nat)(c:bE)(vf vb vl vs:Value)(ph i k:Nat)(T:Nat->Nat)(cs:List (List Value))(w:Wq):Prop where
 Z:∀b,T b≠0->(B0<=b\/Hq.q b)/\b<w.heap.size
 f:eX (hole w (Tz T)) w.heap.size vf c.fields
 row:w.ownsRow B0 42 7 vb c.boxes.length cs.flatten
 tb:∀b,vb.ownBlock=some b->T b=2
 len:cs.length=c.boxes.length
 el:∀j cj x,cs[j]?=some cj->c.boxes[j]?=some x->∃us,cj=.string x.name::us/\us.length=6/\Sm x.name/\∀a v,us[a]?=some v->N5 (hole w0 Hq.q) B0 T w j a (j<i\/j=i/\a<k) v x
 l:(1<=ph->sL 62 3 fQ B0 T w 3 vl c.links)/\(¬1<=ph->aX 3 fQ (hole w0 Hq.q) B0 vl c.links)s:(2<=ph->sL 68 3 da B0 T w 4 vs c.slices)/\(¬2<=ph->aX 3 da (hole w0 Hq.q) B0 vs c.slices)
section
variable [Hq] {w0 w w1:Wq} {B0 H:Nat} {c:bE} {vf vb vl vs:Value} {ph i k:Nat} {T T':Nat→Nat} {G:Nat→Prop} {cs:List (List Value)}
theorem Co.ev (S:Co w0 B0 c vf vb vl vs ph i k T cs w)(E:Ev T T' G w w1)(d:∀t,2<=t->¬G t)(A:∀b,T' b≠0->(B0<=b\/Hq.q b)/\b<w1.heap.size):Co w0 B0 c vf vb vl vs ph i k T' cs w1:=by
 refine⟨A,S.f.ki ak E.size (KI.of E.hk),⟨S.row.1,?_⟩,λb f=>?_,S.len,λj p x h1 h2=>?_,⟨λh=>(S.l.1 h).ev ak E (d 3 (by decide)),S.l.2⟩,⟨λh=>(S.s.1 h).ev dz E (d 4 (by decide)),S.s.2⟩⟩
 .rcases S.row.2 with h|⟨b,cap,D,rfl,jf,m,z⟩
  .exact .inl h
  .exact .inr ⟨b,cap,D,rfl,jf,(E.block b (Array.getElem?_eq_some_iff.1 m).1 (by rw[S.tb b rfl];exact d 2 Jq)).t m,z⟩
 .rw[E.tag b (S.row.lt b f).2];exact S.tb b f
 .obtain⟨us,q,r,s,y⟩:=S.el j p x h1 h2;exact⟨us,q,r,s,λa v C=>(y a v C).ev E (d _ (by unfold tg;omega))⟩
theorem Co.below (S:Co w0 B0 c vf vb vl vs ph i k T cs w)(d:JJ w w1):Co w0 B0 c vf vb vl vs ph i k T cs w1:=S.ev (Ev.below d) (λ_ _=>id) λb h=>⟨(S.Z b h).1,bZ (S.Z b h).2 d.size⟩
def mark (T:Nat->Nat)(v:Value)(t:Nat):Nat->Nat:=λb=>if v.ownBlock=some b then t else T b
theorem lc (h:v.ownBlock=some b->False):mark T v t b=T b:=ap h
theorem xo (h:v.ownBlock=some b):mark T v t b=t:=ax h
theorem Ev.store (d:JJ w w1)(m:w1.ownsRow w.heap.size e sz v n xs)(f:T g≠0):Ev T (mark T v t) (λs=>s=T g) w (w1.setCell ⟨g,oo,none⟩ u):=⟨by simpa[World.setCell]using d.size,λb jf h=>(aT w1 ⟨g,oo,none⟩ u b (λe=>h (by rw[e]))).t (d.block b jf),λb jf=>lc λe=>by have:=(m.lt b e).1;omega,λe=>f e.symm⟩
theorem Ev.mono {G d:Nat->Prop}(E:Ev T T' G w w')(h:∀s,G s->d s)(h0:¬d 0):Ev T T' d w w':=⟨E.size,λb f p=>E.block b f λm=>p (h _ m),E.tag,h0⟩
theorem Co.raw (S:Co w0 B0 c vf vb vl vs ph i k T cs w){d:List Value}{x:ay}(h1:cs[j]?=some d)(h2:c.boxes[j]?=some x):∃us,d=.string x.name::us/\us.length=6/\∀a v,us[a]?=some v->N5 (hole w0 Hq.q) B0 T w j a (j<i\/j=i/\a<k) v x:=by obtain⟨us,f,h,_,m⟩:=S.el j d x h1 h2;exact⟨us,f,h,m⟩
end
theorem jv:∀(cs:List (List Value))(i j:Nat)(c:List Value)(u:Value),(∀c∈cs,c.length=size)->cs[i]?=some c->j<size->cs.flatten.set (i*size+j) u=(cs.set i (c.set j u)).flatten
 |[],i,j,c,u,_,h,_=>by simp at h|d::cs,0,j,c,u,hs,h,hj=>by cases h;have f:=hs d bT;rw[dh,Dn,aY,List.set_append_left _ _ (by omega),ac,dh]|d::cs,i+1,j,c,u,hs,h,hj=>by
  have f:=hs d bT;have e:(i+1)*size+j=d.length+(i*size+j):=by rw[Dq,f];omega
  rw[dh,e,List.set_append_right _ _ (by omega),eu,jv cs i j c u (λc m=>hs c (bU _ m)) h hj,ae,dh]
section
variable [Hq] {w0 w w1:Wq} {B0 H g cap:Nat} {c:bE} {vf vb vl vs:Value} {ph i k:Nat} {T T':Nat→Nat} {G:Nat→Prop} {cs:List (List Value)}
theorem Co.lens (S:Co w0 B0 c vf vb vl vs ph i k T cs w):∀d∈cs,d.length=7:=λd p=>by obtain⟨j,f⟩:=fg p;have q:=(List.getElem?_eq_some_iff.1 f).1;obtain⟨us,h,m,_⟩:=S.el j d _ f (aF (by rw[<-S.len];exact q));rw[h,aD,m]
theorem Co.put (S:Co w0 B0 c vf vb vl vs ph i k T cs w)(hk:k<6)(hB:B0<=w0.heap.size)(h0:JJ w0 w){x:ay}{us:List Value}(D:c.boxes[i]?=some x)(A:cs[i]?=some (.string x.name::us))(r:vb=.slice (some ⟨g,0,none⟩) c.boxes.length cap)(p:JJ w w1)(K:ds.length=eA x k)(L:∀d∈ds,d.length=tC k)(M:∀n d,ds[n]?=some d->F0 x (hole w0 Hq.q) B0 n d k)(q:w1.ownsRow w.heap.size (QB k) (tC k) v1 (eA x k) ds.flatten):Co w0 B0 c vf vb vl vs ph i (k+1) (mark T v1 (tg i k)) (cs.set i (.string x.name::us.set k v1)) (w1.setCell ⟨g,i*7+(k+1),none⟩ v1):=by
 have tb:=S.tb g (by rw[r];rfl);have E:=Ev.store (T:=T) (t:=tg i k) (g:=g) (oo:=i*7+(k+1)) (u:=v1) p q (by rw[tb];decide);rw[tb]at E;have hgl:=(S.row.lt g (by rw[r];rfl)).2;have hw:w0.heap.size<=w.heap.size:=h0.size;obtain⟨jn,s,N,O,P⟩:=S.el i _ x A D;injection s with _ s;subst s;have jy:=aU S.row p;rw[r]at jy;have jm:=(iA jy (i*7+(k+1)) v1).1;rw[jv cs i (k+1) _ v1 S.lens A (by omega),<-r]at jm;refine⟨λb h=>?_,S.f.ki ak E.size (KI.of E.hk),jm,λb jf=>?_,by rw[dX];exact S.len,λj J y h1 h2=>?_,⟨λh=>(S.l.1 h).ev ak E (by decide),S.l.2⟩,⟨λh=>(S.s.1 h).ev dz E (by decide),S.s.2⟩⟩
 .rw[dr];by_cases hvb:v1.ownBlock=some b
  .have:=q.lt b hvb;exact⟨.inl (by omega),by omega⟩
  .rw[lc hvb]at h;have f:=S.Z b h;have:=p.size;exact⟨f.1,by omega⟩
 .rw[E.tag b (S.row.lt b jf).2];exact S.tb b jf
 .have I:∀j a,¬(tg j a=2):=λj a=>by unfold tg;omega
  by_cases hj:j=i
  .subst hj;rw[ei (List.getElem?_eq_some_iff.1 A).1]at h1;cases h1;cases D.symm.t h2;refine⟨_,rfl,by rw[dX];exact N,O,λa v jl=>?_⟩;by_cases ha:a=k
   .subst ha;rw[ei (by omega)]at jl;cases jl;refine⟨λ_=>⟨⟨ds,K,L,?_,λn d Y=>?_⟩,λb jf=>xo jf⟩,λh=>absurd (.inr ⟨rfl,bQ _⟩) h⟩
    .exact Go.Joins.ownsRow_le (bW (a:=⟨g,_,none⟩) q (λe=>by have:=(q.lt g e).1;omega) v1) (by omega)
    .refine xt (M n d Y) (by have:=p.size;rw[dr];omega) λb oo u j3 j4=>?_;obtain⟨F,j1⟩:=ef.1 j4;refine ef.2 ⟨λh=>?_,?_⟩
     .by_cases hvb:v1.ownBlock=some b
      .have:=(q.lt b hvb).1;omega
      .have C:mark T v1 (tg j a) b≠0:=h;rw[lc hvb]at C;rcases(S.Z b C).1 with f|f
       .omega
       .exact F f
     .have Q:(w1.setCell ⟨g,j*7+(a+1),none⟩ v1).heap[b]?=w0.heap[b]?:=by rw[aT w1 _ v1 b (λe=>by have e:b=g:=e;rcases(S.Z g (by rw[tb];decide)).1 with f|f;omega;exact F (e▸f)),p.block b (by omega),h0.block b (by omega)]
      exact(dH (w:=w0) (a:=⟨b,oo,none⟩) Q).t j1
   .rw[gt (λe=>ha e.symm)]at jl;have m:=(P a v jl).ev E (I j a);have z:(j<j\/j=j/\a<k+1)↔(j<j\/j=j/\a<k):=by omega
    unfold N5 at m⊢;rw[z];exact m
  .rw[gt (λe=>hj e.symm)]at h1;obtain⟨jn,U,V,W,X⟩:=S.el j J y h1 h2;refine⟨jn,U,V,W,λa v jl=>?_⟩;have m:=(X a v jl).ev E (I j a);have z:(j<i\/j=i/\a<k+1)↔(j<i\/j=i/\a<k):=by omega
   unfold N5 at m⊢;rw[z];exact m
theorem Co.inner (S:Co w0 B0 c vf vb vl vs ph i k T cs w){x:ay}{us:List Value}(D:a<k)(ha6:a<6)(M:c.boxes[i]?=some x)(L:cs[i]?=some (.string x.name::us))(I:us[a]?=some (.slice (some ⟨g,0,none⟩) (eA x a) cap))(p:JJ w w1)(Q:ds.length=eA x a)(A:∀d∈ds,d.length=tC a)(U:w.ownsRow B0 (QB a) (tC a) (.slice (some ⟨g,0,none⟩) (eA x a) cap) (eA x a) ds.flatten)(V:∀n d,ds[n]?=some d->F0 x (hole w (Tz T)) w.heap.size n d a){d:List Value}(F:ds[n]?=some d)(hj:j<tC a)(v1:Value)(hn:F0 x (hole (w1.setCell ⟨g,n*tC a+j,none⟩ v1) (Tz T)) w1.heap.size n (d.set j v1) a):Co w0 B0 c vf vb vl vs ph i k T cs (w1.setCell ⟨g,n*tC a+j,none⟩ v1):=by
 obtain⟨jn,C,e2,e3,J⟩:=S.el i _ x L M;injection C with _ C;subst C;have z:T g=tg i a:=((J a _ I).1 (.inr ⟨rfl,D⟩)).2 g rfl;have j6:T g≠0:=by rw[z];unfold tg;omega
 have E:Ev T T (λs=>s=tg i a) w (w1.setCell ⟨g,n*tC a+j,none⟩ v1):=⟨by simpa[World.setCell]using p.size,λb jf j2=>(aT w1 ⟨g,_,none⟩ v1 b (λe=>j2 (by rw[e];exact z))).t (p.block b jf),λ_ _=>rfl,λe=>j6 (z.t e.symm)⟩;have O:∀t,t<5->¬t=tg i a:=λt h=>by unfold tg;omega
 refine⟨λb h=>?_,S.f.ki ak E.size (KI.of E.hk),?_,λb jf=>S.tb b jf,S.len,λN P y h1 h2=>?_,⟨λh=>(S.l.1 h).ev ak E (O 3 (by decide)),S.l.2⟩,⟨λh=>(S.s.1 h).ev dz E (O 4 (by decide)),S.s.2⟩⟩
 .have Y:=S.Z b h;have:=p.size;rw[dr];exact⟨Y.1,by omega⟩
 .refine bW (a:=⟨g,_,none⟩) (aU S.row p) (λe=>?_) v1;have:=(S.tb g e).symm.t z;unfold tg at this;omega
 .obtain⟨jn,r,K,W,X⟩:=S.el N P y h1 h2;refine⟨jn,r,K,W,λq v' jl=>?_⟩;have j5:q<6:=by rw[<-K];exact(List.getElem?_eq_some_iff.1 jl).1
  by_cases hja:N=i/\q=a
  .obtain⟨rfl,rfl⟩:=hja;cases M.symm.t h2;cases L.symm.t h1;injection r with _ r;subst r;cases I.symm.t jl;refine⟨λ_=>⟨⟨ds.set n (d.set j v1),by rw[dX];exact Q,λy f=>?_,?_,λm y f=>?_⟩,((J _ _ I).1 (.inr ⟨rfl,D⟩)).2⟩,λh=>absurd (.inr ⟨rfl,D⟩) h⟩
   .rcases lO f with h|rfl
    .exact A y h
    .rw[dX];exact A d (aE F)
   .have:=(iA (aU U p) (n*tC q+j) v1).1;rw[jv ds n j d v1 A F hj]at this;exact this
   .by_cases hm:m=n
    .subst hm;rw[ei (List.getElem?_eq_some_iff.1 F).1]at f;cases f;rw[dr];exact hn
    .rw[gt (λe=>hm e.symm)]at f;exact xt (V m y f) E.size (KI.of E.hk)
  .exact(X q v' jl).ev E λe=>hja (EH j5 ha6 e)
theorem Co.hZ (S:Co w0 B0 c vf vb vl vs ph i k T cs w)(f:JJ w w1)(m:w1.ownsRow w.heap.size e sz v n xs)(hB:B0<=w.heap.size):∀b,mark T v t b≠0->(B0<=b\/Hq.q b)/\b<(w1.setCell ⟨g,oo,none⟩ u).heap.size:=λb h=>by
 rw[dr];by_cases hvb:v.ownBlock=some b
 .have:=m.lt b hvb;exact⟨.inl (by omega),by omega⟩
 .rw[lc hvb]at h;have d:=S.Z b h;have:=f.size;exact⟨d.1,by omega⟩
theorem Co.old (S:Co w0 B0 c vf vb vl vs ph i k T cs w)(hB:B0<=w0.heap.size)(h0:JJ w0 w)(q:JJ w w1)(s:w1.ownsRow w.heap.size e sz v n xs)(r:T g≠0):KI B0 (hole w0 Hq.q) (hole (w1.setCell ⟨g,oo,none⟩ u) (Tz (mark T v t))):=λb A D C z=>by obtain⟨m,y⟩:=ef.1 z;exact ef.2 ⟨λh=>by
 have:=h0.size;by_cases hvb:v.ownBlock=some b
 .have:=(s.lt b hvb).1;omega
 .have f:mark T v t b≠0:=h;rw[lc hvb]at f;rcases(S.Z b f).1 with d|d
  .omega
  .exact m d,by
 have:=h0.size;have p:(w1.setCell ⟨g,oo,none⟩ u).heap[b]?=w0.heap[b]?:=by rw[aT w1 _ u b (λe=>by have e:b=g:=e;rcases(S.Z g r).1 with d|d;omega;exact m (e▸d)),q.block b (by omega),h0.block b (by omega)]
 exact(dH (w:=w0) (a:=⟨b,A,none⟩) p).t y⟩
theorem Co.links (S:Co w0 B0 c vf vb vl vs 0 i k T cs w)(hB:B0<=w0.heap.size)(h0:JJ w0 w)(tH:T H=1)(p:JJ w w1)(q:ds.length=c.links.length)(r:∀d∈ds,d.length=3)(s:∀(n:Nat) d x,ds[n]?=some d->c.links[n]?=some x->fQ w0 B0 d x)(m:w1.ownsRow w.heap.size 62 3 v1 c.links.length ds.flatten):Co w0 B0 c vf vb v1 vs 1 i k (mark T v1 3) cs (w1.setCell ⟨H,5,none⟩ v1):=by have y:=h0.size;have E:=Ev.store (T:=T) (t:=3) (g:=H) (oo:=5) (u:=v1) p m (by rw[tH];decide);rw[tH]at E;have f:=S.ev E (λt ht e=>by omega) (S.hZ p m (by omega));have j8:=(S.Z H (by rw[tH];decide)).2;exact⟨f.Z,f.f,f.row,f.tb,f.len,f.el,⟨λ_=>⟨⟨ds,q,r,Go.Joins.ownsRow_le (bW (a:=⟨H,_,none⟩) m (λe=>by have:=(m.lt H e).1;omega) v1) (by omega),λn d x h1 h2=>s n d x h1 h2⟩,λb h=>xo h⟩,λh=>absurd Jq h⟩,⟨λh=>absurd h (by decide),λ_=>f.s.2 (by decide)⟩⟩
theorem Co.slices (S:Co w0 B0 c vf vb vl vs 1 i k T cs w)(hB:B0<=w0.heap.size)(h0:JJ w0 w)(tH:T H=1)(p:JJ w w1)(q:ds.length=c.slices.length)(r:∀d∈ds,d.length=3)(s:∀(n:Nat) d x,ds[n]?=some d->c.slices[n]?=some x->da (hole w0 Hq.q) B0 d x)(m:w1.ownsRow w.heap.size 68 3 v1 c.slices.length ds.flatten):Co w0 B0 c vf vb vl v1 2 i k (mark T v1 4) cs (w1.setCell ⟨H,6,none⟩ v1):=by have y:=h0.size;have E:=Ev.store (T:=T) (t:=4) (g:=H) (oo:=6) (u:=v1) p m (by rw[tH];decide);rw[tH]at E;have f:=S.ev E (λt ht e=>by omega) (S.hZ p m (by omega));have j8:=(S.Z H (by rw[tH];decide)).2;exact⟨f.Z,f.f,f.row,f.tb,f.len,f.el,⟨λ_=>f.l.1 Jq,λh=>absurd (by decide) h⟩,⟨λ_=>⟨⟨ds,q,r,Go.Joins.ownsRow_le (bW (a:=⟨H,_,none⟩) m (λe=>by have:=(m.lt H e).1;omega) v1) (by omega),λn d x h1 h2=>dz.go (by have:=p.size;rw[dr];omega) (S.old hB h0 p m (by rw[tH];decide)) (s n d x h1 h2)⟩,λb h=>xo h⟩,λh=>absurd Jq h⟩⟩
theorem Co.innerS (S:Co w0 B0 c vf vb vl (.slice (some ⟨g,0,none⟩) c.slices.length cap) 2 i k T cs w)(p:JJ w w1)(F:ds.length=c.slices.length)(q:∀d∈ds,d.length=3)(I:w.ownsRow B0 68 3 (.slice (some ⟨g,0,none⟩) c.slices.length cap) c.slices.length ds.flatten)(J:∀(n:Nat) d x,ds[n]?=some d->c.slices[n]?=some x->da (hole w (Tz T)) w.heap.size d x){d:List Value}(r:ds[n]?=some d)(P:j<3)(v1:Value)(Q:∀x,c.slices[n]?=some x->da (hole (w1.setCell ⟨g,n*3+j,none⟩ v1) (Tz T)) w1.heap.size (d.set j v1) x):Co w0 B0 c vf vb vl (.slice (some ⟨g,0,none⟩) c.slices.length cap) 2 i k T cs (w1.setCell ⟨g,n*3+j,none⟩ v1):=by
 have z:T g=4:=(S.s.1 Jq).2 g rfl;have E:Ev T T (λs=>s=4) w (w1.setCell ⟨g,n*3+j,none⟩ v1):=⟨by simpa[World.setCell]using p.size,λb jf V=>(aT w1 ⟨g,_,none⟩ v1 b (λe=>V (by rw[e];exact z))).t (p.block b jf),λ_ _=>rfl,by decide⟩;refine⟨λb h=>?_,S.f.ki ak E.size (KI.of E.hk),?_,λb jf=>S.tb b jf,S.len,λU D y h1 h2=>?_,⟨λh=>(S.l.1 h).ev ak E (by decide),S.l.2⟩,⟨λ_=>⟨⟨ds.set n (d.set j v1),by rw[dX];exact F,λy f=>?_,?_,λm y x f A=>?_⟩,(S.s.1 Jq).2⟩,λh=>absurd Jq h⟩⟩
 .have O:=S.Z b h;have:=p.size;rw[dr];exact⟨O.1,by omega⟩
 .exact bW (a:=⟨g,_,none⟩) (aU S.row p) (λe=>by have:=(S.tb g e).symm.t z;omega) v1
 .obtain⟨jn,K,L,M,N⟩:=S.el U D y h1 h2;exact⟨jn,K,L,M,λC W jl=>(N C W jl).ev E (by unfold tg;omega)⟩
 .rcases lO f with h|rfl
  .exact q y h
  .rw[dX];exact q d (aE r)
 .have:=(iA (aU I p) (n*3+j) v1).1;rw[jv ds n j d v1 q r P]at this;exact this
 .by_cases hm:m=n
  .subst hm;rw[ei (List.getElem?_eq_some_iff.1 r).1]at f;cases f;rw[dr];exact Q x A
  .rw[gt (λe=>hm e.symm)]at f;exact dz.go E.size (KI.of E.hk) (J m y x f A)
open Classical in
noncomputable def sT [Hq] (B0 S:Nat) (vb:Value):Nat→Nat:=fun b=>if vb.ownBlock=some b then 2 else if (B0≤b∧b<S)∨Hq.q b then 1 else 0
theorem Co.start (h:fE (hole w0 Hq.q) B0 c vf vb vl vs)(hQ:∀b,Hq.q b->b<w0.heap.size)(hB:B0<=w0.heap.size)(h0:JJ w0 w)(hs:w0.heap.size+2<=w.heap.size){p m:Value}{fs cs:List (List Value)}(E:fs.length=c.fields.length)(F:∀d∈fs,d.length=2)(I:∀(n:Nat) d x,fs[n]?=some d->c.fields[n]?=some x->yj (hole w0 Hq.q) B0 d x)(r:w.ownsRow (w0.heap.size+2) 37 2 p c.fields.length fs.flatten)(J:c.fields.length<=140737488355328)(c1:cs.length=c.boxes.length)(s:∀(n:Nat) d x,cs[n]?=some d->c.boxes[n]?=some x->jB (hole w0 Hq.q) B0 d x)(q:w.ownsRow (w0.heap.size+2) 42 7 m c.boxes.length cs.flatten)(M:∀b,p.ownBlock=some b->m.ownBlock≠some b):Co w0 B0 c p m vl vs 0 0 0 (sT B0 (w0.heap.size+2) m) cs w:=by
 refine⟨λb f=>?_,⟨fs,E,F,kB (fh r J) λb f L=>L ?_,λn d x h1 h2=>I n d x h1 h2⟩,Go.Joins.ownsRow_le q (by omega),λb f=>ax f,c1,λj y x h1 h2=>?_,⟨λh=>absurd h (by decide),λ_=>h.l⟩,⟨λh=>absurd h (by decide),λ_=>h.s⟩⟩
 .unfold sT at f;by_cases h1:m.ownBlock=some b
  .have:=q.lt b h1;exact⟨.inl (by omega),by omega⟩
  .rw[ap h1]at f;by_cases h2:(B0<=b/\b<w0.heap.size+2)\/Hq.q b
   .rcases h2 with h2|h2
    .exact⟨.inl h2.1,by omega⟩
    .have:=hQ b h2;exact⟨.inr h2,by omega⟩
   .rw[ap h2]at f;exact absurd rfl f
 .unfold sT;have:=(r.lt b f).1;rw[ap (M b f),ap (by rintro(h|h);omega;have:=hQ b h;omega)]
 .obtain⟨us,z,A,C,D⟩:=vF.1 (s j y x h1 h2);exact⟨us,z,A,C,λa v K=>⟨λN=>by omega,λ_=>D a v K⟩⟩
end
end Go.Proofs.YtgfgoaeaicefcaaGreatDoor
