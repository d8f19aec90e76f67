/- Part of DeltaBack. -/
import Derived.Test.YtgfgoaeaicefcaaGreatDoorQD5
set_option maxHeartbeats 16000000
set_option maxRecDepth 100000
set_option linter.all false
namespace Go.Proofs.YtgfgoaeaicefcaaGreatDoor
open Go.RowKit Tryz
variable {W:Wq}{v:Value}{B size:Nat}{uu d:List Value}
def LM (h:Nat)(e:TypeId)(size b:Nat):Prop:=∀{v:Value}{n:Nat}{xs:List Value}{w:Wq},Sl w w.heap.size size v n xs->(∀u∈xs,u.oneCell'=true)->n*b<=140737488355328->Calls prog h #[v] w λf w'=>∃a,f=.returned a/\JJ w w'/\w'.ownsRow w.heap.size e size a n xs
theorem E4:LM 65 37 2 24/\LM 66 42 7 160/\LM 67 9 1 16/\LM 68 121 3 48/\LM 69 46 8 80/\LM 70 50 5 104/\LM 71 127 2 24/\LM 72 96 3 32/\LM 73 62 3 40/\LM 74 68 3 64:=by refine⟨?_,?_,?_,?_,?_,?_,?_,?_,?_,?_⟩;intro v n xs w e h1 m;obtain⟨A,cap,rfl,_,f,l,h2⟩:=e;have E:=M2;go_enter func65,ntmps65;rotate_left;intro v n xs w e h1 m;obtain⟨A,cap,rfl,_,f,l,h2⟩:=e;have E:=yS;go_enter func66,ntmps66;rotate_left;intro v n xs w e h1 m;obtain⟨A,cap,rfl,_,f,l,h2⟩:=e;have E:=gG;go_enter func67,ntmps67;rotate_left;intro v n xs w e h1 m;obtain⟨A,cap,rfl,_,f,l,h2⟩:=e;have E:=nf;go_enter func68,ntmps68;rotate_left;intro v n xs w e h1 m;obtain⟨A,cap,rfl,_,f,l,h2⟩:=e;have E:=PC;go_enter func69,ntmps69;rotate_left;intro v n xs w e h1 m;obtain⟨A,cap,rfl,_,f,l,h2⟩:=e;have E:=BS;go_enter func70,ntmps70;rotate_left;intro v n xs w e h1 m;obtain⟨A,cap,rfl,_,f,l,h2⟩:=e;have E:=Nx;go_enter func71,ntmps71;rotate_left;intro v n xs w e h1 m;obtain⟨A,cap,rfl,_,f,l,h2⟩:=e;have E:=uj;go_enter func72,ntmps72;rotate_left;intro v n xs w e h1 m;obtain⟨A,cap,rfl,_,f,l,h2⟩:=e;have E:=BT;go_enter func73,ntmps73;rotate_left;intro v n xs w e h1 m;obtain⟨A,cap,rfl,_,f,l,h2⟩:=e;have E:=wk;go_enter func74,ntmps74;rotate_left;all_goals(obtain⟨D,z,hi,K,I,L,J⟩:=E.hi;have q:=λ(w:Wq)(a:Option Addr)(n c F C:Nat)=>Lib.run_eql_slice_nil w _ _ a n c F C E.ht;have t:=Hi l;clear l;cases A with
 |none=>
  have h0:n=0:=QJ λh=>by obtain⟨b,off,p,_⟩:=h2 h;cases p
  subst h0;clear h2;go_wp2_with fail;go_ret;have:=t.o;rw[Dn]at this;rw[List.length_eq_zero_iff.1 this];exact⟨_,rfl,aB _ _,dF ..⟩|some a=>
  have G:=Hi (show∀j u,xs[j]?=some u->w.cell? (a.add j)=some u from λj u o=>by
   by_cases h:0<n
   .obtain⟨b,off,p,_,f⟩:=h2 h;cases p;rw[bh];exact f j u o
   .have:xs.length=0:=by rw[t.o,QJ h,Dn]
    rw[List.length_eq_zero_iff.1 this]at o;cases o);replace h1:=Hi h1;clear h2;go_wp2_with(at_builtin;refine wpList_append_own _ rfl _ _ _ rfl w.heap.size _ D z _ _ E.ht hi K I L J E.hs _ _ _ rfl (World.ownsRow_made w #[] 0 Jq (aK _) (by simp)) a n cap xs rfl t.o (λj u o=>lP _ (G.o j u o)) h1.o (by unfold maxLen;omega) (by rw[aY];exact m) (by simp) ?_;intro H w1 r y _;replace r:=Hi r;replace y:=Hi y);go_ret;exact⟨H,rfl,((aB _ w).alloc Jq _).grown y.o (by simp) (by rintro k ⟨⟩;exact al _),by simpa using r.o⟩)
end Go.Proofs.YtgfgoaeaicefcaaGreatDoor
namespace Go.Proofs.YtgfgoaeaicefcaaGreatDoor
open Go.RowKit Tryz
variable {W:Wq}{v:Value}{B size:Nat}{uu d:List Value}
attribute [local go_sem ↓] Go.wp_at_zero Go.wp_at_succ
def Pj (m:Nat)(e:TypeId)(a:List Nat)(h:Nat)(l:List Value->Value):Prop:=∀{cs:List (List Value)}{v:Value}{b:Nat}{cap:Array Value}{p:List Value->Bool}{w:Wq},Sl w w.heap.size a.length v cs.length cs.flatten->(∀c∈cs,vJ a c)->cs.any p=true->cs.length*h<=140737488355328->oD b->(∀W c,JJ w W->c∈cs->Calls prog b (#[l c]++cap) W (dP (p c) W))->Calls prog m #[v,.func (.func b) #[] cap] w λj w'=>∃f,j=.returned f/\JJ w w'/\w'.ownsRow w.heap.size e a.length f (cs.filter λc=>!p c).length (cs.filter λc=>!p c).flatten
theorem vq {α:Type}(p:α->Bool):∀l:List α,l.any p=true->(l.filter λc=>!p c).length<l.length
 |[],h=>by simp at h|x::r,h=>by
  cases hx:p x
  .rw[lx,hx,Bz]at h;have:=vq p r h;simp[hx];simpa using this
  .have:=gT (λc=>!p c) r;simp[hx];omega
theorem rk:Pj 157 42 [0,3,3,3,3,3,3] 160 kU/\Pj 161 62 [0,0,1] 40 kU/\Pj 164 68 [0,3,3] 64 kU/\Pj 229 9 [0] 16 B1/\Pj 234 121 [0,2,3] 48 kU/\Pj 237 50 [1,3,3,3,3] 104 kU/\Pj 241 96 [1,1,0] 32 kU:=by obtain⟨O,M,D,N,j8,j9,I⟩:=PH;obtain⟨R,G,H,K,Q,L,S,E,J,C⟩:=E4;refine⟨?_,?_,?_,?_,?_,?_,?_⟩;intro cs v t cap p w a b jf n l j;have c1:=Hi (G a (gU b) n);have c2:=Hi λ(w1:Wq)(v1:Value)(f:JJ w w1)(q:w1.ownsRow w.heap.size 42 7 v1 cs.length cs.flatten)=>O q (by obtain⟨_,_,_,_,h,_⟩:=a;exact h.2) b jf f.size l (λW c jn o=>j W c (f.t jn) o);obtain⟨A,r,rfl,_⟩:=id a;go_enter func157,ntmps157;rotate_left;intro cs v t cap p w a b jf n l j;have c1:=Hi (J a (gU b) n);have c2:=Hi λ(w1:Wq)(v1:Value)(f:JJ w w1)(q:w1.ownsRow w.heap.size 62 3 v1 cs.length cs.flatten)=>M q (by obtain⟨_,_,_,_,h,_⟩:=a;exact h.2) b jf f.size l (λW c jn o=>j W c (f.t jn) o);obtain⟨A,r,rfl,_⟩:=id a;go_enter func161,ntmps161;rotate_left;intro cs v t cap p w a b jf n l j;have c1:=Hi (C a (gU b) n);have c2:=Hi λ(w1:Wq)(v1:Value)(f:JJ w w1)(q:w1.ownsRow w.heap.size 68 3 v1 cs.length cs.flatten)=>D q (by obtain⟨_,_,_,_,h,_⟩:=a;exact h.2) b jf f.size l (λW c jn o=>j W c (f.t jn) o);obtain⟨A,r,rfl,_⟩:=id a;go_enter func164,ntmps164;rotate_left;intro cs v t cap p w a b jf n l j;have c1:=Hi (H a (gU b) n);have c2:=Hi λ(w1:Wq)(v1:Value)(f:JJ w w1)(q:w1.ownsRow w.heap.size 9 1 v1 cs.length cs.flatten)=>N q (by obtain⟨_,_,_,_,h,_⟩:=a;exact h.2) b jf f.size l (λW c jn o=>j W c (f.t jn) o);obtain⟨A,r,rfl,_⟩:=id a;go_enter func229,ntmps229;rotate_left;intro cs v t cap p w a b jf n l j;have c1:=Hi (K a (gU b) n);have c2:=Hi λ(w1:Wq)(v1:Value)(f:JJ w w1)(q:w1.ownsRow w.heap.size 121 3 v1 cs.length cs.flatten)=>j8 q (by obtain⟨_,_,_,_,h,_⟩:=a;exact h.2) b jf f.size l (λW c jn o=>j W c (f.t jn) o);obtain⟨A,r,rfl,_⟩:=id a;go_enter func234,ntmps234;rotate_left;intro cs v t cap p w a b jf n l j;have c1:=Hi (L a (gU b) n);have c2:=Hi λ(w1:Wq)(v1:Value)(f:JJ w w1)(q:w1.ownsRow w.heap.size 50 5 v1 cs.length cs.flatten)=>j9 q (by obtain⟨_,_,_,_,h,_⟩:=a;exact h.2) b jf f.size l (λW c jn o=>j W c (f.t jn) o);obtain⟨A,r,rfl,_⟩:=id a;go_enter func237,ntmps237;rotate_left;intro cs v t cap p w a b jf n l j;have c1:=Hi (E a (gU b) n);have c2:=Hi λ(w1:Wq)(v1:Value)(f:JJ w w1)(q:w1.ownsRow w.heap.size 96 3 v1 cs.length cs.flatten)=>I q (by obtain⟨_,_,_,_,h,_⟩:=a;exact h.2) b jf f.size l (λW c jn o=>j W c (f.t jn) o);obtain⟨A,r,rfl,_⟩:=id a;go_enter func241,ntmps241;rotate_left;all_goals(clear O M D N j8 j9 I R G H K Q L S E J C;have jm:=vq p cs jf;have X:(((cs.filter λc=>!p c).length:Int)==(cs.length:Int))=false:=beq_eq_false_iff_ne.2 (by omega);clear a b jf n l j;generalize(cs.filter λc=>!p c).flatten=F at*;generalize(cs.filter λc=>!p c).length=m at*;go_wp2_with(first|((with_reducible refine(c1.o).mono ?_);rintro e w1 ⟨v1,rfl,y,z⟩;have P:=Hi (c2.o w1 v1 y z);obtain⟨U,Y,rfl⟩:=dQ z;replace y:=Hi y;clear z)|((with_reducible refine(P.o).mono ?_);rintro e w2 ⟨v2,rfl,jn,u⟩;obtain⟨V,Z,rfl⟩:=dQ u;replace jn:=Hi jn;replace u:=Hi u));go_ret;exact⟨_,rfl,y.o.t jn.o,u.o⟩)
end Go.Proofs.YtgfgoaeaicefcaaGreatDoor
namespace Go.Proofs.YtgfgoaeaicefcaaGreatDoor
open Go.RowKit Tryz
variable {W:Wq}{v:Value}{B size:Nat}{uu d:List Value}
abbrev T1 (T:Nat->Nat):Nat->Prop:=λb=>T b=1
section
variable [Hq] {w0 w w':Wq} {B0 g cap:Nat} {c:bE} {vf vb vl vs:Value} {i k:Nat} {T T':Nat→Nat} {cs:List (List Value)}
theorem LO.readZ {a t l:Nat}{x:ay}{Z:Nat->Prop}(h:LO a w l (Tz T) v x/\∀b,v.ownBlock=some b->T b=t)(j:∀b,Z b->T b≠0/\T b≠t)(p:eA x a<=140737488355328):LR a (hole w Z) w.heap.size v x:=by obtain⟨⟨cs,h1,h2,h3,m⟩,n⟩:=h;exact⟨cs,h1,h2,kB (fh h3 p) λb e f=>(j b f).2 (n b e),λi c o=>xt (m i c o) Jq (KI.of λb _ e=>⟨λf=>e (j b f).1,rfl⟩)⟩
theorem sL.readZ {α:Type}{e:TypeId}{t:Nat}{R:Wq->Nat->List Value->α->Prop}{l:List α}{Z:Nat->Prop}(m:uF R)(h:sL e size R B0 T w t v l)(j:∀b,Z b->T b≠0/\T b≠t)(p:l.length<=140737488355328):aX size R (hole w Z) w.heap.size v l:=by obtain⟨⟨cs,h1,h2,h3,n⟩,o⟩:=h;exact⟨cs,h1,h2,kB (fh h3 p) λb a f=>(j b f).2 (o b a),λi c x h1 h2=>m.go Jq (KI.of λb _ a=>⟨λf=>a (j b f).1,rfl⟩) (n i c x h1 h2)⟩
theorem Co.lst (S:Co w0 B0 c vf vb vl vs 2 c.boxes.length 0 T cs w){j:Nat}{x:ay}(f:c.boxes[j]?=some x):∃uu,cs[j]?=some (.string x.name::uu)/\uu.length=6/\Sm x.name/\∀a v,uu[a]?=some v->LO a w B0 (Tz T) v x/\∀b,v.ownBlock=some b->T b=tg j a:=by have e:=(List.getElem?_eq_some_iff.1 f).1;obtain⟨uu,h,l,m,n⟩:=S.el j _ x (aF (by rw[S.len];exact e)) f;exact⟨uu,by rw[<-h];exact aF _,l,m,λa v o=>(n a v o).1 (.inl e)⟩
theorem Co.conf (S:Co w0 B0 c vf vb vl vs 2 c.boxes.length 0 T cs w)(l:sM 4294967296 c)(ht:Sm c.title)(hr:Sm c.routing):fE (hole w (T1 T)) w.heap.size c vf vb vl vs:=by
 have f:∀{n:Nat},n<=4294967296->n<=140737488355328:=λh=>by omega
 refine⟨S.f.ki ak Jq (KI.of λb _ m=>⟨λe=>m (by show T b≠0;rw[show T b=1 from e];decide),rfl⟩),⟨cs,S.len,S.lens,kB (fh S.row (f l.b)) λb m e=>by have:=S.tb b m;have e:T b=1:=e;omega,λj u x h1 h2=>?_⟩,(S.l.1 (by decide)).readZ ak (λb e=>by have e:T b=1:=e;omega) (f l.l),(S.s.1 (by decide)).readZ dz (λb e=>by have e:T b=1:=e;omega) (f l.s),ht,hr⟩;obtain⟨uu,o,p,q,r⟩:=S.lst h2;cases h1.symm.t o;exact vF.2 ⟨uu,rfl,p,q,λa v t=>LO.readZ (r a v t) (λb e=>by have e:T b=1:=e;unfold tg;omega) (f ((l.x x (aE h2)).1 a))⟩
theorem Co.upd (S:Co w0 B0 c vf vb vl vs 2 c.boxes.length 0 T cs w)(p:sM 4294967296 c)(ht:Sm c.title)(hr:Sm c.routing){x x':ay}(G:c.boxes[i]?=some x)(J:x'.name=x.name)(H:cs[i]?=some (.string x.name::uu))(F:uu.length=6)(I:k<6){V:Wq}{B':Nat}(hs:w.heap.size<=B')(m:KI w.heap.size (hole w λb=>T b=1\/T b=2\/T b=tg i k) V){r:Value}(P:Sl V B' 7 vb c.boxes.length (cs.set i (.string x.name::uu.set k r)).flatten)(O:LR k V B' r x')(N:∀a,a<6->a≠k->∀w B v,LR a w B v x->LR a w B v x'):fE V B' {c with boxes:=c.boxes.set i x'} vf vb vl vs:=by
 have o:∀{n:Nat},n<=4294967296->n<=140737488355328:=λh=>by omega
 obtain⟨Z,E⟩:∃Z:Nat->Prop,Z=λb=>T b=1\/T b=2\/T b=tg i k:=⟨_,rfl⟩;rw[<-E]at m;have K:∀b,Z b->T b≠0:=λb l=>by rw[E]at l;unfold tg at l;omega
 have u:∀t,t≠1->t≠2->t≠tg i k->∀b,Z b->T b≠0/\T b≠t:=λt h1 h2 h3 b l=>⟨K b l,λe=>by rw[E]at l;omega⟩;refine⟨(S.f.ki ak Jq (KI.of λb _ Q=>⟨λl=>Q (K b l),rfl⟩)).ki ak hs m,⟨cs.set i (.string x.name::uu.set k r),by rw[dX];show _=(c.boxes.set i x').length;rw[dX];exact S.len,λd M=>?_,?_,λj R y h1 h2=>?_⟩,((S.l.1 (by decide)).readZ ak (u 3 (by decide) (by decide) (by unfold tg;omega)) (o p.l)).ki ak hs m,((S.s.1 (by decide)).readZ dz (u 4 (by decide) (by decide) (by unfold tg;omega)) (o p.s)).ki dz hs m,ht,hr⟩
 .rcases lO M with h|rfl
  .exact S.lens d h
  .rw[aD,dX,F]
 .show Sl _ _ _ _ (c.boxes.set i x').length _;rw[dX];exact P
 .have h2:(c.boxes.set i x')[j]?=some y:=h2;by_cases hj:j=i
  .subst hj;rw[ei (List.getElem?_eq_some_iff.1 H).1]at h1;rw[ei (List.getElem?_eq_some_iff.1 G).1]at h2;cases h1;cases h2;obtain⟨L,z,A,C,D⟩:=S.lst G;cases H.symm.t z;refine vF.2 ⟨uu.set k r,by rw[J],by rw[dX];exact F,by rw[J];exact C,λa v f=>?_⟩;have q:a<6:=by have:=(List.getElem?_eq_some_iff.1 f).1;rw[dX,F]at this;exact this
   by_cases hak:a=k
   .subst hak;rw[ei (by omega)]at f;cases f;exact O
   .rw[gt (λe=>hak e.symm)]at f;exact N a q hak _ _ _ ((LO.readZ (D a v f) (u _ (by unfold tg;omega) (by unfold tg;omega) λe=>hak (EH q I e).2) (o ((p.x x (aE G)).1 a))).ki hs m)
  .rw[gt (λe=>hj e.symm)]at h1 h2;obtain⟨L,z,A,C,D⟩:=S.lst h2;cases h1.symm.t z;refine vF.2 ⟨L,rfl,A,C,λa v f=>?_⟩;have q:a<6:=by rw[<-A];exact(List.getElem?_eq_some_iff.1 f).1
   exact(LO.readZ (D a v f) (u _ (by unfold tg;omega) (by unfold tg;omega) λe=>hj (EH q I e).1) (o ((p.x y (aE h2)).1 a))).ki hs m
end
theorem Nw {α:Type}{p:List Value->Bool}{q:α->Bool}:∀(cs:List (List Value))(l:List α),cs.length=l.length->(∀(i:Nat) c (x:α),cs[i]?=some c->l[i]?=some x->p c=q x)->(cs.filter λc=>!p c).length=(l.filter λx=>!q x).length/\∀(i:Nat) c (x:α),(cs.filter λc=>!p c)[i]?=some c->(l.filter λx=>!q x)[i]?=some x->∃j:Nat,cs[j]?=some c/\l[j]?=some x
 |[],[],_,_=>⟨rfl,λi c x h _=>by simp at h⟩|[],_::_,h,_=>by simp at h|_::_,[],h,_=>by simp at h|c::cs,x::l,h,hp=>by
  obtain⟨h1,h2⟩:=Nw cs l (by simpa using h) λi c x h1 h2=>hp (i+1) c x (by simpa using h1) (by simpa using h2);have h0:=hp 0 c x rfl rfl;cases hq:q x
  .rw[hq]at h0;rw[Pn (by simp[h0]),Pn (by simp[hq])];refine⟨by simp[h1],λi d y a b=>?_⟩;cases i with|zero=>cases a;cases b;exact⟨0,rfl,rfl⟩|succ i=>obtain⟨j,h3,e⟩:=h2 i d y (by simpa using a) (by simpa using b);exact⟨j+1,by simpa using h3,by simpa using e⟩
  .rw[hq]at h0;rw[Pp (by simp[h0]),Pp (by simp[hq])];refine⟨h1,λi d y a b=>?_⟩;obtain⟨j,h3,e⟩:=h2 i d y a b;exact⟨j+1,by simpa using h3,by simpa using e⟩
theorem DT {α:Type}{p:List Value->Bool}{q:α->Bool}:∀(cs:List (List Value))(l:List α),cs.length=l.length->(∀(i:Nat) c (x:α),cs[i]?=some c->l[i]?=some x->p c=q x)->cs.any p=l.any q|[],[],_,_=>rfl|[],_::_,h,_=>by simp at h|_::_,[],h,_=>by simp at h|c::cs,x::l,h,hp=>by rw[lx,lx,hp 0 c x rfl rfl,DT cs l (by simpa using h) λi c x h1 h2=>hp (i+1) c x (by simpa using h1) (by simpa using h2)]
def uI (s:Wz):List Value->Bool|.string t::_=>decide (t=s)|_=>false
def Np (k:Int):List Value->Bool|.int _ v::_=>decide (v=k)|_=>false
def NP (v l:Int):List Value->Bool|.int _ a::.int _ b::_=>decide (a=v/\b=l)|_=>false
def Z3 [Hq](B0 b:Nat):Prop:=(B0<=b/\b<B0+3)\/Hq.q b
structure iU [Hq](w0:Wq)(B0:Nat)(c:bE)(Hd:Nat)(vf vb vl vs:Value)(T:Nat->Nat)(cs:List (List Value))(w:Wq):Prop where
 C:Co w0 B0 c vf vb vl vs 2 c.boxes.length 0 T cs w
 box:w.heap[Hd]?=some (.cells (eO c vf vb vl vs) 27 (0,0))tH:T Hd=1
 hB:B0<=w.heap.size
 L:sM 4294967296 c
 ht:Sm c.title
 hr:Sm c.routing
 t3:∀b,Z3 B0 b->T b=1
 q:∀b,Hq.q b->b<B0
 h3:B0+3<=Hd
def uG [Hq](B0 Hd:Nat)(a:bE)(w w':Wq):Prop:=Below (B0+3) w w'/\∃vf vb vl vs,w'.heap[Hd]?=some (.cells (eO a vf vb vl vs) 27 (0,0))/\fE (hole w' (Z3 B0)) w'.heap.size a vf vb vl vs
def vK [Hq](B0 Hd:Nat)(a:bE)(w:Wq)(e:Ending)(w':Wq):Prop:=e=.returned (.tuple #[])/\uG B0 Hd a w w'
section
variable [Hq] {w0 w w1 w':Wq} {B0 Hd:Nat} {c:bE} {vf vb vl vs v1:Value} {T:Nat→Nat} {cs ds:List (List Value)}
theorem iU.hd (D:iU w0 B0 c Hd vf vb vl vs T cs w):B0<=Hd/\Hd<w.heap.size:=⟨by have:=D.h3;omega,(D.C.Z Hd (by rw[D.tH];decide)).2⟩
theorem iU.h4 (D:iU w0 B0 c Hd vf vb vl vs T cs w):B0+3<=w.heap.size:=aI D.h3 (bD D.hd.2)
theorem iU.b3 (D:iU w0 B0 c Hd vf vb vl vs T cs w)(a:Below B0 w w1)(e:∀b,b<w.heap.size->T b=1->b≠Hd->w1.heap[b]?=w.heap[b]?):Below (B0+3) w w1:=⟨a.os,a.tape,a.output,a.size,λk h=>by
 by_cases h0:k<B0
 .exact a.block k h0
 .have:=D.h3;have:=D.hd.2;exact e k (by omega) (D.t3 k (.inl ⟨by omega,h⟩)) (by omega)⟩
theorem iU.kz (D:iU w0 B0 c Hd vf vb vl vs T cs w){Z:Nat->Prop}(h:KI w.heap.size (hole w Z) w1)(e:∀b,T b=1->Z b):KI w.heap.size (hole w Z) (hole w1 (Z3 B0)):=λb o u jm a=>ef.2 ⟨λf=>(ef.1 a).1 (e b (D.t3 b f)),h b o u jm a⟩
theorem iU.conf (D:iU w0 B0 c Hd vf vb vl vs T cs w):fE (hole w (T1 T)) w.heap.size c vf vb vl vs:=D.C.conf D.L D.ht D.hr
theorem iU.ev (D:iU w0 B0 c Hd vf vb vl vs T cs w)(hs:w.heap.size<=w1.heap.size)(f:∀b,b<w.heap.size->T b≠1->w1.heap[b]?=w.heap[b]?)(a:w1.heap[Hd]?=w.heap[Hd]?):iU w0 B0 c Hd vf vb vl vs T cs w1:=⟨D.C.ev ⟨hs,λb l j=>f b l j,λ_ _=>rfl,by decide⟩ (G:=λs=>s=1) (λt ht e=>by omega) λb h=>⟨(D.C.Z b h).1,bZ (D.C.Z b h).2 hs⟩,a.t D.box,D.tH,aI D.hB hs,D.L,D.ht,D.hr,D.t3,D.q,D.h3⟩
theorem iU.below (D:iU w0 B0 c Hd vf vb vl vs T cs w)(a:JJ w w1):iU w0 B0 c Hd vf vb vl vs T cs w1:=D.ev a.size (λb h _=>a.block b h) (a.block _ D.hd.2)
theorem iU.cell (D:iU w0 B0 c Hd vf vb vl vs T cs w)(j:Nat):w.cell? ⟨Hd,j,none⟩=(eO c vf vb vl vs)[j]?:=aA w Hd j _ _ (0,0) D.box
theorem iU.free (D:iU w0 B0 c Hd vf vb vl vs T cs w)(j:Nat):w.frozen? ⟨Hd,j,none⟩=false:=af D.box j
theorem iU.st (D:iU w0 B0 c Hd vf vb vl vs T cs w)(f:JJ w w1)(j:Nat)(u:Value):Below (B0+3) w (w1.setCell ⟨Hd,j,none⟩ u)/\KI w.heap.size (hole w (T1 T)) (hole (w1.setCell ⟨Hd,j,none⟩ u) (Z3 B0))/\(w1.setCell ⟨Hd,j,none⟩ u).heap[Hd]?=some (.cells ((eO c vf vb vl vs).setIfInBounds j u) 27 (0,0)):=⟨D.b3 ((f.mono D.hB).setCell D.hd.1 _) λb jm _ m=>(aT w1 _ u b m).t (f.block b jm),D.kz (λb o x jm l=>by obtain⟨h1,h2⟩:=ef.1 l;exact(dH (w:=w) (a:=⟨b,o,none⟩) ((aT w1 _ u b (λe=>h1 (by have e:b=Hd:=e;rw[e];exact D.tH))).t (f.block b jm))).t h2) (λ_ h=>h),am w1 Hd j _ _ u ((f.block _ D.hd.2).t D.box)⟩
theorem EP {α:Type}{e:TypeId}{R:Wq->Nat->List Value->α->Prop}(r:uF R){f:List α}(l:JJ w w1)(A:Hd<w.heap.size)(h3:B0+3<=Hd)(z:∀b,Hq.q b->b<B0)(o:ds.length=f.length)(p:∀d∈ds,d.length=size)(m:w1.ownsRow w.heap.size e size v1 f.length ds.flatten)(y:f.length<=140737488355328){j:Nat}{u:Value}{Z:Nat->Prop}(t:KI w.heap.size (hole w Z) (hole (w1.setCell ⟨Hd,j,none⟩ u) (Z3 B0)))(q:∀(n:Nat) d x,ds[n]?=some d->f[n]?=some x->R (hole w Z) w.heap.size d x):aX size R (hole (w1.setCell ⟨Hd,j,none⟩ u) (Z3 B0)) (w1.setCell ⟨Hd,j,none⟩ u).heap.size v1 f:=⟨ds,o,p,kB (fh (bW (a:=⟨Hd,j,none⟩) m (λe=>by have:=(m.lt Hd e).1;omega) u) y) (λb l h=>by have:=(m.lt b l).1;rcases h with h|h;omega;have:=z b h;omega),λn d x h1 h2=>r.go (by rw[dr];exact l.size) t (q n d x h1 h2)⟩
theorem iU.finB (D:iU w0 B0 c Hd vf vb vl vs T cs w)(b:JJ w w1){a:List ay}(f:ds.length=a.length)(h:∀d∈ds,d.length=7)(j:∀(n:Nat) d x,ds[n]?=some d->a[n]?=some x->jB (hole w (T1 T)) w.heap.size d x)(m:w1.ownsRow w.heap.size 42 7 v1 a.length ds.flatten)(l:a.length<=140737488355328):uG B0 Hd {c with boxes:=a} w (w1.setCell ⟨Hd,4,none⟩ v1):=by
 obtain⟨h1,h2,h3⟩:=D.st b 4 v1;have e:=D.conf;have hs:w.heap.size<=(w1.setCell ⟨Hd,4,none⟩ v1).heap.size:=by rw[dr];exact b.size
 exact⟨h1,vf,v1,vl,vs,h3,e.f.ki ak hs h2,EP lg b D.hd.2 D.h3 D.q f h m l h2 j,e.l.ki ak hs h2,e.s.ki dz hs h2,D.ht,D.hr⟩
theorem iU.finL (D:iU w0 B0 c Hd vf vb vl vs T cs w)(b:JJ w w1){a:List eQ}(f:ds.length=a.length)(h:∀d∈ds,d.length=3)(j:∀(n:Nat) d x,ds[n]?=some d->a[n]?=some x->fQ (hole w (T1 T)) w.heap.size d x)(m:w1.ownsRow w.heap.size 62 3 v1 a.length ds.flatten)(l:a.length<=140737488355328):uG B0 Hd {c with links:=a} w (w1.setCell ⟨Hd,5,none⟩ v1):=by
 obtain⟨h1,h2,h3⟩:=D.st b 5 v1;have e:=D.conf;have hs:w.heap.size<=(w1.setCell ⟨Hd,5,none⟩ v1).heap.size:=by rw[dr];exact b.size
 exact⟨h1,vf,vb,v1,vs,h3,e.f.ki ak hs h2,e.b.ki lg hs h2,EP ak b D.hd.2 D.h3 D.q f h m l h2 j,e.s.ki dz hs h2,D.ht,D.hr⟩
theorem iU.finS (D:iU w0 B0 c Hd vf vb vl vs T cs w)(b:JJ w w1){a:List dE}(f:ds.length=a.length)(h:∀d∈ds,d.length=3)(j:∀(n:Nat) d x,ds[n]?=some d->a[n]?=some x->da (hole w (T1 T)) w.heap.size d x)(m:w1.ownsRow w.heap.size 68 3 v1 a.length ds.flatten)(l:a.length<=140737488355328):uG B0 Hd {c with slices:=a} w (w1.setCell ⟨Hd,6,none⟩ v1):=by
 obtain⟨h1,h2,h3⟩:=D.st b 6 v1;have e:=D.conf;have hs:w.heap.size<=(w1.setCell ⟨Hd,6,none⟩ v1).heap.size:=by rw[dr];exact b.size
 exact⟨h1,vf,vb,vl,v1,h3,e.f.ki ak hs h2,e.b.ki lg hs h2,e.l.ki ak hs h2,EP dz b D.hd.2 D.h3 D.q f h m l h2 j,D.ht,D.hr⟩
theorem mG {α:Type}{o:Nat}{R:Wq->Nat->List Value->α->Prop}{t:List Nat}(C:IE R t){l b:List α}{p:List Value->Bool}{q:α->Bool}(h:aX size R W B v l)(F:∀{c x},R W B c x->p c=q x)(a:jz q l=some b)(E:l.length<=4294967296)(G:o<=160):∃cs:List (List Value),cs.length=l.length/\(∀c∈cs,c.length=size)/\Sl W B size v cs.length cs.flatten/\(∀c∈cs,vJ t c)/\cs.any p=true/\cs.length*o<=140737488355328/\(cs.filter λc=>!p c).length=b.length/\(∀d∈cs.filter λc=>!p c,d.length=size)/\b.length<=140737488355328/\∀(n:Nat) d x,(cs.filter λc=>!p c)[n]?=some d->b[n]?=some x->R W B d x:=by
 obtain⟨cs,h1,h2,h3,e⟩:=h;have r:∀(i:Nat) c (x:α),cs[i]?=some c->l[i]?=some x->p c=q x:=λi c x D m=>F (e i c x D m);unfold jz at a;by_cases ha:l.any q=true
 .rw[ax ha]at a;cases a;obtain⟨z,A⟩:=Nw cs l h1 r;have:=gT (λx=>!q x) l;exact⟨cs,h1,h2,by rw[h1];exact h3,gV C h1 e,by rw[DT cs l h1 r];exact ha,by rw[h1];exact aI (yw E G) (by decide),z,λd f=>h2 d (List.mem_filter.1 f).1,by omega,λn d x f m=>by obtain⟨j,u,y⟩:=A n d x f m;exact e j d x u y⟩
 .rw[ap ha]at a;cases a
end
def LC (b:Nat)(e:List Nat)(a:List Value->Value)(u:Value)(p:List Value->Bool):Prop:=∀{W:Wq}{nv:Nat}{c:List Value},W.cell? ⟨nv,0,none⟩=some u->vJ e c->Calls prog b (#[a c]++#[.pointer (some ⟨nv,0,none⟩)]) W (dP (p c) W)
theorem GA (a b:Int):(a==b)=decide (a=b):=rfl
theorem yK (s:Wz)(k:Int):LC 158 [0,3,3,3,3,3,3] kU (.string s) (uI s)/\LC 162 [0,0,1] kU (.string s) (uI s)/\LC 165 [0,3,3] kU (.string s) (uI s)/\LC 230 [0] B1 (.string s) (uI s)/\LC 232 [0] B1 (.string s) (uI s)/\LC 235 [0,2,3] kU (.string s) (uI s)/\LC 238 [1,3,3,3,3] kU (I6 k) (Np k):=by refine⟨?_,?_,?_,?_,?_,?_,?_⟩;intro W nv c b a;show Calls _ _ #[kU c,.pointer (some ⟨nv,0,none⟩)] _ _;go_enter func158,ntmps158;rotate_left;intro W nv c b a;show Calls _ _ #[kU c,.pointer (some ⟨nv,0,none⟩)] _ _;go_enter func162,ntmps162;rotate_left;intro W nv c b a;show Calls _ _ #[kU c,.pointer (some ⟨nv,0,none⟩)] _ _;go_enter func165,ntmps165;rotate_left;intro W nv c b a;show Calls _ _ #[B1 c,.pointer (some ⟨nv,0,none⟩)] _ _;go_enter func230,ntmps230;rotate_left;intro W nv c b a;show Calls _ _ #[B1 c,.pointer (some ⟨nv,0,none⟩)] _ _;go_enter func232,ntmps232;rotate_left;intro W nv c b a;show Calls _ _ #[kU c,.pointer (some ⟨nv,0,none⟩)] _ _;go_enter func235,ntmps235;rotate_left;intro W nv c b a;show Calls _ _ #[kU c,.pointer (some ⟨nv,0,none⟩)] _ _;go_enter func238,ntmps238;rotate_left;all_goals(
 repeat(obtain⟨v,j,h,f,e⟩:=a.split;clear a;subst h;(first|(obtain⟨q,rfl⟩:=f)|(obtain⟨A,n,m,rfl⟩:=f));have a:=e;clear e)
 obtain rfl:=a.none;clear a;have l:=lK;have hi:=GA;have p:=λo=>lP (W:=W) o b;simp only[kU,B1,iF,uI,Np];go_wp2_with fail;go_ret;first|exact⟨rfl,Jz.alloc Jq _⟩|exact⟨rfl,aB _ _⟩)
theorem Hf (v l a b:Int)(t:Wz)(q:Bool){nv:Nat}(f:W.cell? ⟨nv,0,none⟩=some (I6 v))(e:W.cell? ⟨nv,1,none⟩=some (I6 l))(h1:(v==a)=q):Calls prog 224 #[.agg #[I6 a,I6 b,.string t],.pointer (some ⟨nv,0,none⟩)] W (dP (q&&(l==b)) W):=by have j:=λo=>lP (W:=W) o f;have h:=λo=>lP (W:=W) o e;cases q;all_goals(go_enter func224,ntmps224;go_wp2_with fail;go_ret;exact⟨rfl,(aB W.heap.size W).alloc Jq _⟩)
theorem tI (v l:Int){nv:Nat}{c:List Value}(j:W.cell? ⟨nv,0,none⟩=some (I6 v))(e:W.cell? ⟨nv,1,none⟩=some (I6 l))(m:vJ [1,1,0] c):Calls prog 224 (#[kU c]++#[.pointer (some ⟨nv,0,none⟩)]) W (dP (NP v l c) W):=by
 obtain⟨r,q,rfl,⟨a,rfl⟩,n⟩:=m.split;obtain⟨v1,c1,rfl,⟨b,rfl⟩,p⟩:=n.split;obtain⟨u,c2,rfl,⟨t,rfl⟩,o⟩:=p.split;obtain rfl:=o.none;have f:NP v l [I6 a,I6 b,.string t]=((v==a)&&(l==b)):=by show decide (a=v/\b=l)=_;rw[eD];simp only[aS,dj,bC];exact⟨λh=>⟨h.1.symm,h.2.symm⟩,λh=>⟨h.1.symm,h.2.symm⟩⟩
 rw[f];exact Hf v l a b t _ j e rfl
section
variable {w0 w:Wq} {B0 Hd nv:Nat} {c:bE} {vf vb vl vs:Value} {T:Nat→Nat} {cs:List (List Value)} {s:Wz}
theorem Ja {x:ay}(h:jB W B d x):uI s d=decide (x.name=s):=by obtain⟨_,_,_,_,_,_,rfl,_⟩:=h;rfl
theorem Fp {x:eQ}(h:fQ W B d x):uI s d=decide (x.frm=s):=by obtain⟨rfl,_⟩:=h;rfl
theorem Cg {x:dE}(h:da W B d x):uI s d=decide (x.name=s):=by obtain⟨_,_,rfl,_⟩:=h;rfl
theorem EQ [Hq](D:iU w0 B0 c Hd vf vb vl vs T cs w)(G:w.cell? ⟨nv,0,none⟩=some (.string s)):(∀{f},jz (λx=>decide (x.name=s)) c.boxes=some f->Calls prog 156 #[.pointer (some ⟨Hd,0,none⟩),.pointer (some ⟨nv,0,none⟩)] w (vK B0 Hd {c with boxes:=f} w))/\(∀{f},jz (λx=>decide (x.frm=s)) c.links=some f->Calls prog 160 #[.pointer (some ⟨Hd,0,none⟩),.pointer (some ⟨nv,0,none⟩)] w (vK B0 Hd {c with links:=f} w))/\(∀{f},jz (λx=>decide (x.name=s)) c.slices=some f->Calls prog 163 #[.pointer (some ⟨Hd,0,none⟩),.pointer (some ⟨nv,0,none⟩)] w (vK B0 Hd {c with slices:=f} w)):=by
 obtain⟨L,jy,jk,_,_,_,_⟩:=yK s 0;obtain⟨I,jl,J,_,_,_,_⟩:=rk;have jm:=bB w _ G;have y:=λW (b:JJ w W)=>(b.cell (p:=⟨nv,0,none⟩) jm).t G;have hC:=D.conf;obtain⟨O,U,rfl⟩:∃A k,vb=.slice A c.boxes.length k:=by obtain⟨A,k,e,_⟩:=hC.b.form;exact⟨A,k,e⟩
 obtain⟨P,V,rfl⟩:∃A k,vl=.slice A c.links.length k:=by obtain⟨A,k,e,_⟩:=hC.l.form;exact⟨A,k,e⟩
 obtain⟨Q,X,rfl⟩:∃A k,vs=.slice A c.slices.length k:=by obtain⟨A,k,e,_⟩:=hC.s.form;exact⟨A,k,e⟩
 obtain⟨Y,Z,r2,r3,r4,r5,r6⟩:=au D.box;have hN:=Hi λ(W:Wq)(b:JJ w W)=>au (D.below b).box;have hF:=Hi λ(W:Wq)(b:JJ w W)=>(D.below b).free;refine⟨?_,?_,?_⟩;intro f t;obtain⟨ds,z,C,m,j,n,o,l,q,r,u⟩:=mG Ay hC.b Ja t D.L.b (by decide:160<=160);have h:=I (p:=uI s) (m.ki Jq KI.o) j n o (λa w=>by kernel_rfl) (λW c b E=>L (y W b) (j c E));rw[l]at h;have M:=Hi λw1 v1 (b:JJ w w1)(F:w1.ownsRow w.heap.size 42 7 v1 f.length _)=>D.finB b l q u F r;replace h:=Hi h;clear G jm y hC D L jy jk I jl J t z C m j n o l q r u;go_enter func156,ntmps156;rotate_left;intro f t;obtain⟨ds,z,C,m,j,n,o,l,q,r,u⟩:=mG sb hC.l Fp t D.L.l (by decide:40<=160);have h:=jl (p:=uI s) (m.ki Jq KI.o) j n o (λa w=>by kernel_rfl) (λW c b E=>jy (y W b) (j c E));rw[l]at h;have M:=Hi λw1 v1 (b:JJ w w1)(F:w1.ownsRow w.heap.size 62 3 v1 f.length _)=>D.finL b l q u F r;replace h:=Hi h;clear G jm y hC D L jy jk I jl J t z C m j n o l q r u;go_enter func160,ntmps160;rotate_left;intro f t;obtain⟨ds,z,C,m,j,n,o,l,q,r,u⟩:=mG qp hC.s Cg t D.L.s (by decide:64<=160);have h:=J (p:=uI s) (m.ki Jq KI.o) j n o (λa w=>by kernel_rfl) (λW c b E=>jk (y W b) (j c E));rw[l]at h;have M:=Hi λw1 v1 (b:JJ w w1)(F:w1.ownsRow w.heap.size 68 3 v1 f.length _)=>D.finS b l q u F r;replace h:=Hi h;clear G jm y hC D L jy jk I jl J t z C m j n o l q r u;go_enter func163,ntmps163;rotate_left;all_goals(go_wp2_with((with_reducible refine(h.o).mono ?_);rintro e w1 ⟨v1,rfl,H,K⟩;obtain⟨N,S,rfl⟩:=dQ K;obtain⟨s0,s1,s2,s3,s4,s5,s6⟩:=hN.o w1 H;have R:=hF.o w1 H;replace H:=Hi H;replace K:=Hi K);go_end0;exact⟨rfl,M.o w1 _ H.o K.o⟩)
end
section
variable {w0 w w1:Wq} {B0 Hd g cap i k:Nat} {c:bE} {vf vb vl vs:Value} {T:Nat→Nat} {cs:List (List Value)} {x:ay}
theorem Q7 [Hq](D:iU w0 B0 c Hd vf vb vl vs T cs w){s:Wz}(a:c.boxes[i]?=some x)(h:x.name=s)(hf:∀j y,j<i->c.boxes[j]?=some y->y.name≠s)(p:vb=.slice (some ⟨g,0,none⟩) c.boxes.length cap):Calls prog 82 #[.pointer (some ⟨Hd,0,none⟩),.string s] w λe w'=>e=.returned (.pointer (some ⟨g,i*7,none⟩))/\JJ w w':=by
 obtain⟨r,t,u,z,I,A,C⟩:=au D.box;subst p;have F:=(List.getElem?_eq_some_iff.1 a).1;have E:c.boxes.length<=4294967296:=D.L.b;have q:=Hi λ(m:Nat)(f:m<=i)=>(show∃n:Wz,w.cell? ⟨g,m*7,none⟩=some (.string n)/\(n.toList==s.toList)=decide (m=i)from by
  obtain⟨y,b⟩:∃y,c.boxes[m]?=some y:=⟨_,aF (by omega)⟩;obtain⟨uu,o,_⟩:=D.C.lst b;refine⟨y.name,dx D.C.row D.C.lens o (j:=0) rfl,?_⟩;rw[lK];by_cases e:m=i
  .subst e;cases a.symm.t b;rw[aV h,aV rfl]
  .rw[aM (hf m y (by omega) b),aM e]);clear a h hf D r t u z A C;go_enter func82,ntmps82;go_wp2_with fail;go_loopw [11] (λv wr=>∃m:Nat,m<=i/\v=I6 m/\w=wr)(λv _=>i-(intOf v).toNat);case atStart=>exact⟨0,aK _,rfl,rfl⟩
 case round=>
  obtain⟨m,f,rfl,rfl⟩:=hrel;obtain⟨n,H,l⟩:=q.o m f;have G:m<c.boxes.length:=by omega
  by_cases e:m=i
  .rw[aV e]at l;subst e;go_wp2_with fail;go_ret;exact⟨rfl,aB _ _⟩
  .rw[aM e]at l;go_wp2_with fail;go_roundw;case rel=>exact⟨m+1,by omega,by go_num,by first|rfl|trivial⟩
   case measure=>simp[intOf];omega
theorem iU.upd [Hq](D:iU w0 B0 c Hd vf vb vl vs T cs w){x':ay}{v1:Value}(E:c.boxes[i]?=some x)(y:x'.name=x.name)(l:cs[i]?=some (.string x.name::uu))(A:uu.length=6)(j:vb=.slice (some ⟨g,0,none⟩) c.boxes.length cap)(t:k<6)(hs:w.heap.size<=w1.heap.size)(f:∀b,b<w.heap.size->T b≠tg i k->w1.heap[b]?=w.heap[b]?)(hB:Below B0 w w1)(C:LR k (hole (w1.setCell ⟨g,i*7+(k+1),none⟩ v1) (Z3 B0)) (w1.setCell ⟨g,i*7+(k+1),none⟩ v1).heap.size v1 x')(z:∀a,a<6->a≠k->∀w B v,LR a w B v x->LR a w B v x'):uG B0 Hd {c with boxes:=c.boxes.set i x'} w (w1.setCell ⟨g,i*7+(k+1),none⟩ v1):=by
 have tb:=D.C.tb g (by rw[j];rfl);have G:=D.C.row.lt g (by rw[j];rfl);have n:w1.ownsRow B0 42 7 vb c.boxes.length cs.flatten:=by
  refine⟨D.C.row.1,?_⟩;rcases D.C.row.2 with h|⟨b,K,H,e,I,q,r⟩
  .exact .inl h
  .refine .inr ⟨b,K,H,e,I,(f b (Array.getElem?_eq_some_iff.1 q).1 ?_).t q,r⟩;rw[D.C.tb b (by rw[e];rfl)];unfold tg;omega
 rw[j]at n;have m:=(iA n (i*7+(k+1)) v1).1;rw[jv cs i (k+1) _ v1 D.C.lens l (by omega),<-j]at m;have p:∀b,T b≠2->b≠g:=λb h e=>h (by rw[e];exact tb);refine⟨D.b3 (hB.setCell G.1 _) λb jm h1 _=>(aT w1 _ v1 b (p b (by omega))).t (f b jm (by unfold tg;omega)),vf,vb,vl,vs,?_,D.C.upd D.L D.ht D.hr E y l A t (by rw[dr];exact hs) (D.kz (λb o u jm J=>?_) λ_=>.inl) (kB (fh m (aI D.L.b (by decide))) λb f F=>?_) C z⟩;rotate_left
 .obtain⟨h1,h2⟩:=ef.1 J;exact(dH (w:=w) (a:=⟨b,o,none⟩) ((aT w1 _ v1 b (p b λe=>h1 (.inr (.inl e)))).t (f b jm λe=>h1 (.inr (.inr e))))).t h2
 .have:=D.C.tb b f;have:=D.t3 b F;omega
 exact(aT w1 _ v1 Hd (λe=>by have e:Hd=g:=e;have:=D.tH;rw[e]at this;omega)).t ((f Hd D.hd.2 (by rw[D.tH];unfold tg;omega)).t D.box)
theorem iU.lst [Hq](D:iU w0 B0 c Hd vf vb vl vs T cs w)(e:c.boxes[i]?=some x)(j:cs[i]?=some (.string x.name::uu))(l:uu[k]?=some v):LR k (hole w λb=>T b=1\/T b=2) w.heap.size v x:=by obtain⟨n,f,m,_,h⟩:=D.C.lst e;cases j.symm.t f;refine LO.readZ (h k v l) (λb a=>by rcases a with a|a<;>(unfold tg;omega)) ?_;have:=(D.L.x x (aE e)).1 k;omega
theorem iU.ki2 [Hq](D:iU w0 B0 c Hd vf vb vl vs T cs w)(h:vb=.slice (some ⟨g,0,none⟩) c.boxes.length cap)(f:JJ w w1)(o:Nat)(u:Value):KI w.heap.size (hole w λb=>T b=1\/T b=2) (w1.setCell ⟨g,o,none⟩ u):=λb j x jm l=>by obtain⟨h1,h2⟩:=ef.1 l;exact(dH (w:=w) (a:=⟨b,j,none⟩) ((aT w1 _ u b (λe=>h1 (by have e:b=g:=e;rw[e];exact .inr (D.C.tb g (by rw[h];rfl))))).t (f.block b jm))).t h2
theorem iU.us [Hq](D:iU w0 B0 c Hd vf vb vl vs T cs w)(n:c.boxes[i]?=some x):∃a b e f h j,cs[i]?=some [.string x.name,a,b,e,f,h,j]:=by obtain⟨uu,l,m,_⟩:=D.C.lst n;match uu,m with|[a,b,e,f,h,j],_=>exact⟨a,b,e,f,h,j,l⟩
theorem iU.gv [Hq](D:iU w0 B0 c Hd vf vb vl vs T cs w)(a:c.boxes[i]?=some x):∃g cap,vb=.slice (some ⟨g,0,none⟩) c.boxes.length cap:=by
 have:=(List.getElem?_eq_some_iff.1 a).1;rcases D.C.row.2 with⟨_,h⟩|⟨g,cap,_,h,_⟩
 .omega
 .exact⟨g,cap,h⟩
end
end Go.Proofs.YtgfgoaeaicefcaaGreatDoor
