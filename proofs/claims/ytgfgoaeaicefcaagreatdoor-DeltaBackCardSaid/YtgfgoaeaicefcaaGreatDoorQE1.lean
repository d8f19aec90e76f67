/- Part of DeltaBack. -/
import Derived.Test.YtgfgoaeaicefcaaGreatDoorQE0
set_option maxHeartbeats 16000000
set_option maxRecDepth 100000
set_option linter.all false
namespace Go.Proofs.YtgfgoaeaicefcaaGreatDoor
open Go.RowKit Tryz
variable {w:Wq}{jf k:Nat}{v:Value}{s n:Wz}{e:TypeId}
theorem Md {Z:Nat->Prop}{b:Nat}(h:¬Z b):(hole w Z).heap[b]?=w.heap[b]?:=by unfold hole;simp[h]
theorem Mc {Z:Nat->Prop}:(hole w Z).heap.size=w.heap.size:=by simp[hole]
theorem Oh {Z:Nat->Prop}{size n:Nat}{xs:List Value}(h:w.ownsRow jf e size v n xs)(a:∀b,jf<=b->¬Z b)(f:n<=140737488355328):Sl (hole w Z) w.heap.size size v n xs:=by have:=fh (qE h λg d=>Md (a g (h.lt g d).1)) f;rwa[Mc]at this
theorem EX {α:Type}{R:Wq->Nat->List Value->α->Prop}{f:α->List Value}{Z:Nat->Prop}{size:Nat}{l:List α}(h:w.ownsRow jf e size v l.length (l.flatMap f))(a:∀b,jf<=b->¬Z b)(m:l.length<=140737488355328)(hf:∀x∈l,(f x).length=size/\∀W B,R W B (f x) x):aX size R (hole w Z) w.heap.size v l:=⟨l.map f,by simp,λd g=>by obtain⟨x,o,rfl⟩:=List.mem_map.1 g;exact(hf x o).1,by rw[<-List.flatMap_def];exact Oh h a m,λi d x h1 h2=>by rw[aq,h2]at h1;cases h1;exact(hf x (aE h2)).2 _ _⟩
theorem EV {Z:Nat->Prop}{l:List Wz}(h:di w jf v l)(a:∀b,jf<=b->¬Z b)(d:l.length<=140737488355328)(hs:∀s∈l,Sm s):dk (hole w Z) w.heap.size v l:=EX (f:=λs=>[.string s]) (by rw[List.flatMap_def,qM];exact h) a d λs h=>⟨rfl,λ_ _=>⟨rfl,hs s h⟩⟩
theorem Og {Z:Nat->Prop}{l:List iV}(h:DY w jf v l)(a:∀b,jf<=b->¬Z b)(d:l.length<=140737488355328)(hs:∀s∈l,Sm s.field):AT (hole w Z) w.heap.size v l:=EX (f:=λs:iV=>[.string s.field,I6 s.value]) h a d λs h=>⟨rfl,λ_ _=>⟨rfl,hs s h⟩⟩
theorem lS (h:bo s=true):Sm s:=aI (eN h).2 (by decide)
theorem Ak (h:nu s):Sm s:=aI (mI h) (by decide)
theorem Li {t:eF}(h:sJ t):Sm t.field/\Sm t.pat:=by
 have h1:=mO h.nm;refine⟨aI h1.2 (by decide),?_⟩;by_cases h4:t.form=4
 .exact aI (h.pat4 h4).1.2 (by decide)
 .unfold Sm;rw[h.pat h4];exact aK _
theorem oL:∀{t:bJ},t.All sJ->∀n∈t.nodes,Sm n.test.field/\Sm n.test.pat
 |.leaf b,_,n,a=>by rw[List.mem_singleton.1 a];exact⟨aK _,aK _⟩|.test t,h,n,a=>by rw[List.mem_singleton.1 a];exact Li h|.not x,h,n,a=>by
  rcases List.mem_append.1 a with a|a
  .exact oL (t:=x) h n a
  .rw[List.mem_singleton.1 a];exact⟨aK _,aK _⟩|.and x y,h,n,a=>by
  rcases List.mem_append.1 a with a|a
  .rcases List.mem_append.1 a with a|a
   .exact oL h.1 n a
   .exact oL h.2 n a
  .rw[List.mem_singleton.1 a];exact⟨aK _,aK _⟩|.or x y,h,n,a=>by
  rcases List.mem_append.1 a with a|a
  .rcases List.mem_append.1 a with a|a
   .exact oL h.1 n a
   .exact oL h.2 n a
  .rw[List.mem_singleton.1 a];exact⟨aK _,aK _⟩
theorem sQ {l:List de}(h:IU l):∃t:bJ,ma l=t.tks/\t.nodes=l/\t.sz<=64/\t.nest<=32/\t.All sJ:=by obtain⟨h1,t,ht,b,a⟩:=h;exact⟨t,by unfold ma;rw[ht],Bj ht,by rw[rD ht];exact h1,b,mm ht a⟩
theorem OC {l:List de}(h:IU l):∀n∈l,Sm n.test.field/\Sm n.test.pat:=by obtain⟨t,_,rfl,_,_,a⟩:=sQ h;exact oL a
theorem EW {Z:Nat->Prop}{l:List de}(h:mt w jf v l)(d:∀b,jf<=b->¬Z b)(a:IU l):iq (hole w Z) w.heap.size v l:=EX (f:=JX) h d (aI a.1 (by decide)) λs h=>⟨rfl,λ_ _=>⟨rfl,OC a s h⟩⟩
theorem Kr {f:ay->Option ay}:∀{l a:List ay},LJ s f l=some a->∃i x x',l[i]?=some x/\x.name=s/\(∀j y,j<i->l[j]?=some y->y.name≠s)/\f x=some x'/\a=l.set i x'
 |[],_,h=>by cases h|b::r,a,h=>by
  unfold LJ at h;split at h
  .rename_i e;cases hx:f b with|none=>rw[hx]at h;cases h|some x'=>rw[hx]at h;cases h;exact⟨0,b,x',rfl,e,λj y d=>absurd d (Nat.not_lt_zero j),hx,rfl⟩
  .rename_i e;cases hx:LJ s f r with|none=>rw[hx]at h;cases h|some r'=>rw[hx]at h;cases h;obtain⟨i,x,x',h1,h2,h3,m,o⟩:=Kr hx;refine⟨i+1,x,x',h1,h2,λj y d g=>?_,m,by rw[o];rfl⟩;cases j with|zero=>cases g;exact e|succ j=>exact h3 j y (by omega) g
theorem yC {v:Int}(h0:0<=v)(h1:v<=4294967295):mq (bs (eT v)) v:=⟨h0,h1,.inl (dG _)⟩
theorem JH {v:Int}(h0:0<=v)(h1:v<=4294967295):mq (bs (ba (gE v))) v:=⟨h0,h1,.inr (dG _)⟩
def IY [Hq](r:Rd)(w:Wq)(B0 Hd:Nat)(c':bE)(e:Ending)(w':Wq):Prop:=∃a b,e=.returned (.func (.func a) #[] b)/\oD a/\Kx r.Q w w'/\∀W,JJ w' W->Calls prog a (#[.pointer (some ⟨Hd,0,none⟩)]++b) W (vK B0 Hd c' W)
section
variable {w0 w w1 w':Wq} {B0 Hd j:Nat} {c c':bE} {vf vb vl vs:Value} {T:Nat→Nat} {cs:List (List Value)} {r:Rd} {e:Ending} {Y:Rd→Wq→Prop}
structure Dd [Hq](r:Rd)(w0:Wq)(B0:Nat)(c:bE)(Hd:Nat)(vf vb vl vs:Value)(T:Nat->Nat)(cs:List (List Value))(w:Wq):Prop where
 D:iU w0 B0 c Hd vf vb vl vs T cs w
 q:T r.Q=1/\T (r.Q+1)=1
 h:r.Q+1<Hd
 vb:r.vb=.slice (some ⟨r.Q,0,none⟩) 1 1
 bc:r.bc=(DM ⟨#[]⟩).toArray
 vl:r.vl=.slice none 0 0
 vs:r.vs=.slice none 0 0
theorem Dd.kx [Hq](b:Dd r w0 B0 c Hd vf vb vl vs T cs w)(a:Kx r.Q w w1):iU w0 B0 c Hd vf vb vl vs T cs w1:=b.D.ev a.size (λk f d=>a.block k f (λe=>d (by rw[e];exact b.q.1)) λe=>d (by rw[e];exact b.q.2)) (a.block _ b.D.hd.2 (by have:=b.h;omega) (by have:=b.h;omega))
theorem Dd.tz [Hq](b:Dd r w0 B0 c Hd vf vb vl vs T cs w)(h:w.heap.size<=k):¬Tz T k:=λe=>by have:=(b.D.C.Z k e).2;omega
theorem Px.done [Hq](h:Px r w j Y e w')(G:∀b d,Y b d->Kx r.Q w d->∃f t k0 g u p l x q,b.vb=.slice f t k0/\b.vl=.slice g u p/\b.vs=.slice l x q/\∀W,JJ d W->Kx r.Q w W->Calls prog 85 #[.pointer (some ⟨Hd,0,none⟩),.agg #[.string ⟨#[]⟩,.slice none 0 0,.string ⟨#[]⟩,.bool false,.slice f t k0,.slice g u p,.slice l x q]] W (vK B0 Hd c' W)):IY r w B0 Hd c' e w':=by obtain⟨K,b,d,rfl,hQ,I,m,F,H,z,J,A⟩:=h;obtain⟨f,t,k0,g,u,p,l,x,q,B,C,D,E⟩:=G b d H m;refine⟨_,_,rfl,λa w=>by kernel_rfl,m.t (Kx.of z),λW y=>?_⟩;have o:=JK z y;exact Pa ((F.up o)) ((y.block _ (Array.getElem?_eq_some_iff.1 A).1).t (by rw[A];unfold Oc;rw[Rd.p_eq hQ])) B C D (E W o (m.t (Kx.of o)))
end
section
variable {w0 w:Wq} {B0 Hd:Nat} {c:bE} {vf vb vl vs:Value} {T:Nat→Nat} {cs:List (List Value)} {r:Rd} {se:Wz}
theorem Ke [Hq](P:r.At 0 w)(b:Dd r w0 B0 c Hd vf vb vl vs T cs w)(h:dD r.l 0=wl (.adBox s)++[(1,se)])(o:bo s=true){l'}(z:addL (λx=>decide (x.name=s)) ⟨s,[],[],[],[],[],[]⟩ c.boxes=some l'):Calls prog 25 #[r.p] w (IY r w B0 Hd {c with boxes:=l'}):=by
 have h0:dD r.l 0=(2,ba [98,111,120])::(2,s)::[(1,se)]:=h;obtain⟨_,_,_,_,h1,_⟩:=dI h0;obtain⟨_,_,_,_,h2,_⟩:=dI h1;refine(uX (j:=2) (Y:=λq w'=>∃u jf,q={r with vb:=u}/\r.Q+1<jf/\w'.ownsRow jf 42 7 u 2 (DM ⟨#[]⟩++DM s)) P h0 (l:=[98,111,120]) (n:=3) (p:=2) (F:=143) (by rw[ab];rfl) (by simp[wH]) (iR (k:=0) rfl) (by decide) (λa w=>by kernel_rfl) (λW D f=>(Ha f h1 o b.vb b.bc).mono ?_) h2).mono λe w' h=>h.done ?_
 .rintro e w' ⟨u,rfl,m,t,d⟩;exact⟨rfl,{r with vb:=u},rfl,rfl,m,t,u,W.heap.size,rfl,f.lt,d⟩
 .rintro q E ⟨u,jf,rfl,C,d⟩ m;obtain⟨g,B,rfl,_⟩:=je d (by decide);exact⟨_,_,_,_,_,_,_,_,_,rfl,b.vl,b.vs,λW y A=>Pf (b.kx A) (lS o) (aU d y) z⟩
theorem NA [Hq](P:r.At 0 w)(b:Dd r w0 B0 c Hd vf vb vl vs T cs w){x:eQ}(h:dD r.l 0=wl (.adLk x)++[(1,se)])(d:NW x){l'}(A:addL (λy=>decide (y.frm=x.frm)) x c.links=some l'):Calls prog 25 #[r.p] w (IY r w B0 Hd {c with links:=l'}):=by
 have h0:dD r.l 0=(2,ba [108,105,110,107])::(vX x++[(1,se)]):=h;obtain⟨_,_,_,_,h1,_⟩:=dI h0;have h2:=gW h1;refine(uX (j:=0+1+(vX x).length) (Y:=λq w'=>∃u jf,q={r with vl:=u}/\r.Q+1<jf/\w'.ownsRow jf 62 3 u 1 [.string x.frm,.string x.dst,I6 x.cost]) P h0 (l:=[108,105,110,107]) (n:=10) (p:=2) (F:=150) (by rw[ab];rfl) (by simp[wH]) (iR (k:=1) rfl) (by decide) (λa w=>by kernel_rfl) (λW E m=>(O2 m h1 d.1 d.2.1 ⟨by have:=d.2.2.1;omega,by have:=d.2.2.2;omega⟩ (by simp) b.vl).mono ?_) h2).mono λe w' h=>h.done ?_
 .rintro e w' ⟨u,rfl,o,t,f⟩;exact⟨rfl,{r with vl:=u},rfl,rfl,o,t,u,W.heap.size,rfl,m.lt,f⟩
 .rintro q G ⟨u,jf,rfl,D,f⟩ o;obtain⟨g,C,rfl,_⟩:=je f (by decide);exact⟨_,_,_,_,_,_,_,_,_,b.vb,rfl,b.vs,λW z B=>NM (b.kx B) ⟨Ak d.1,Ak d.2.1⟩ (aU f z) A⟩
theorem M9 [Hq](P:r.At 0 w)(b:Dd r w0 B0 c Hd vf vb vl vs T cs w){x:dE}(h:dD r.l 0=wl (.adSl x)++[(1,se)])(f:NU x){l'}(K:addL (λy=>decide (y.name=x.name)) x c.slices=some l'):Calls prog 25 #[r.p] w (IY r w B0 Hd {c with slices:=l'}):=by
 obtain⟨t,z,ht⟩:=sQ f.2.2.2;have h0:dD r.l 0=(2,ba [115,108,105,99,101])::(2,x.name)::(kG x.ports++(2,ba [119,104,101,114,101])::(t.tks++[(1,se)])):=by have h:dD r.l 0=(xy::(2,x.name)::(kG x.ports++(2,ba [119,104,101,114,101])::ma x.whr))++[(1,se)]:=h;rw[h,z];simp[xy]
 obtain⟨_,_,_,_,h1,_⟩:=dI h0;have h2:dD r.l (0+1+(1+x.ports.length+1+t.tks.length))=[(1,se)]:=by
  have:=gW (A:=(2,x.name)::(kG x.ports++(2,ba [119,104,101,114,101])::t.tks)) (B:=[(1,se)]) (l:=r.l) (i:=0+1) (by rw[h1];simp);have e:((2,x.name)::(kG x.ports++(2,ba [119,104,101,114,101])::t.tks):List Pc).length=1+x.ports.length+1+t.tks.length:=by unfold kG;simp;omega
  rwa[e]at this
 refine(uX (Y:=λI w'=>∃u jf a d,I={r with vs:=u}/\r.Q+1<jf/\w.heap.size<=jf/\w'.ownsRow jf 68 3 u 1 [.string x.name,a,d]/\di w' jf a x.ports/\mt w' jf d x.whr) P h0 (l:=[115,108,105,99,101]) (n:=11) (p:=2) (F:=151) (by rw[ab];rfl) (by simp[wH]) (iR (k:=2) rfl) (by decide) (λa w=>by kernel_rfl) (λW C D=>(MT D h1 f.1 f.2.1 (.word (by decide)) ht b.vs).mono ?_) h2).mono λe w' h=>h.done ?_
 .rintro e w' ⟨u,a,d,rfl,E,J,o,m,hN⟩;exact⟨rfl,{r with vs:=u},rfl,rfl,E,J,u,W.heap.size,a,d,rfl,D.lt,C,o,m,hN⟩
 .rintro I U ⟨u,jf,a,d,rfl,Q,C,o,m,hN⟩ E;obtain⟨g,O,rfl,_⟩:=je o (by decide);obtain⟨M,cap,rfl,_⟩:=gN m;have G:∀k,jf<=k->¬Tz T k:=λk z=>b.tz (aI C z);refine⟨_,_,_,_,_,_,_,_,_,b.vb,b.vl,rfl,λW q L=>?_⟩;have H:=EW (aU hN q) G f.2.2.2;obtain⟨N,S,R,rfl⟩:∃A n k,d=.slice A n k:=by obtain⟨_,_,_,⟨A,k,e,_⟩,_⟩:=H;exact⟨_,_,_,e⟩
  exact Ks (b.kx L) ⟨_,_,rfl,lS f.1,EV (aU m q) G (aI f.2.2.1 (by decide)) λs h=>Ak (f.2.1 s h),H⟩ (aU o q) K
end
section
variable {w0 w:Wq} {B0 Hd i j:Nat} {c:bE} {vf vb vl vs:Value} {T:Nat→Nat} {cs:List (List Value)} {r:Rd} {se:Wz}
theorem iE {w':Wq}{a:Nat}{xs:Array Value}(h:w.heap[a]?=some (.cells xs e (0,0)))(b:JJ w w'):w'.cell? ⟨a,k,none⟩=xs[k]?:=aA w' a k _ _ (0,0) ((b.block _ (Array.getElem?_eq_some_iff.1 h).1).t h)
theorem Ba [Hq](P:r.At 0 w)(b:Dd r w0 B0 c Hd vf vb vl vs T cs w){R:List Pc}{d:Nat}{c':bE}(h:dD r.l 0=(2,ba [110,111])::R)(u:dD r.l 3=[(1,se)])(q:oD d)(t:∀W,r.At 1 W->Calls prog 83 #[r.p] W (IF r W 3 d (.cells #[.string s] 9 (0,0))))(hC:∀{W:Wq}{a:Nat},iU w0 B0 c Hd vf vb vl vs T cs W->W.cell? ⟨a,0,none⟩=some (.string s)->Calls prog d #[.pointer (some ⟨Hd,0,none⟩),.pointer (some ⟨a,0,none⟩)] W (vK B0 Hd c' W)):Calls prog 25 #[r.p] w (IY r w B0 Hd c'):=by
 refine(F4 (Y:=λfv w'=>∃a,fv=.func (.func d) #[] #[.pointer (some ⟨a,0,none⟩)]/\w'.heap[a]?=some (.cells #[.string s] 9 (0,0))) (fv:=λ_=>.bool true) P h (λW p=>(t W p).mono ?_) u).mono ?_
 .rintro e w' ⟨a,rfl,f,l,_,_,g⟩;exact⟨_,_,rfl,f,l,a,rfl,g⟩
 .rintro e w' ⟨j8,x,y,rfl,f,l,⟨a,hf,g⟩,o⟩;injection hf with hf1 hf2 hf3;injection hf1 with hf1;subst hf1 hf3;have jl:=f.t (Kx.of o);exact⟨_,_,rfl,q,jl,λW m=>hC (b.kx (jl.t (Kx.of m))) (iE g (JK o m))⟩
theorem Kd [Hq](P:r.At 0 w)(b:Dd r w0 B0 c Hd vf vb vl vs T cs w):(∀{s:Wz}{d},dD r.l 0=wl (.noBox s)++[(1,se)]->bo s=true->jz (λx=>decide (x.name=s)) c.boxes=some d->Calls prog 25 #[r.p] w (IY r w B0 Hd {c with boxes:=d}))/\(∀{s:Wz}{d},dD r.l 0=wl (.noLk s)++[(1,se)]->nu s->jz (λx=>decide (x.frm=s)) c.links=some d->Calls prog 25 #[r.p] w (IY r w B0 Hd {c with links:=d}))/\(∀{s:Wz}{d},dD r.l 0=wl (.noSl s)++[(1,se)]->bo s=true->jz (λx=>decide (x.name=s)) c.slices=some d->Calls prog 25 #[r.p] w (IY r w B0 Hd {c with slices:=d})):=by
 refine⟨?_,?_,?_⟩;all_goals intro s d h m l;obtain⟨_,_,_,_,h1,_⟩:=dI (h:dD r.l 0=F6::_::_::[(1,se)]);obtain⟨_,_,_,_,h2,_⟩:=dI h1;obtain⟨_,_,_,_,h3,_⟩:=dI h2
 .exact Ba P b h h3 (λa w=>by kernel_rfl) (λW f=>(O1 f).1 h1 m) λD g=>(EQ D g).1 l
 .exact Ba P b h h3 (λa w=>by kernel_rfl) (λW f=>(O1 f).2.1 h1 m) λD g=>(EQ D g).2.1 l
 .exact Ba P b h h3 (λa w=>by kernel_rfl) (λW f=>(O1 f).2.2 h1 m) λD g=>(EQ D g).2.2 l
theorem rA [Hq](P:r.At 0 w)(b:Dd r w0 B0 c Hd vf vb vl vs T cs w){R:List Pc}{m:Nat}{O:Obj}{x x':ay}(h:dD r.l 0=(2,ba [110,111])::(2,ba [97,116])::(2,n)::R)(J:dD r.l j=[(1,se)])(K:bo n=true)(H:oD m)(E:c.boxes[i]?=some x)(L:x.name=n)(hf:∀j y,j<i->c.boxes[j]?=some y->y.name≠n)(I:∀W,r.At 3 W->Calls prog 166 #[r.p] W (IF r W j m O))(hC:∀{W:Wq}{d g cap:Nat},iU w0 B0 c Hd vf vb vl vs T cs W->vb=.slice (some ⟨g,0,none⟩) c.boxes.length cap->W.heap[d]?=some O->Calls prog m #[.pointer (some ⟨g,i*7,none⟩),.pointer (some ⟨d,0,none⟩)] W (lQ B0 Hd i c x' W)):Calls prog 25 #[r.p] w (IY r w B0 Hd {c with boxes:=c.boxes.set i x'}):=by
 obtain⟨_,_,_,_,h1,_⟩:=dI h;refine(F4 (Y:=λfv w'=>∃l f d,fv=.func (.func 167) #[] #[.pointer (some ⟨f,0,none⟩),.pointer (some ⟨l,0,none⟩)]/\w'.heap[l]?=some (.cells #[.string n] 9 (0,0))/\w'.cell? ⟨f,0,none⟩=some (.func (.func m) #[] #[.pointer (some ⟨d,0,none⟩)])/\w'.heap[d]?=some O) (fv:=λ_=>.bool true) P h (λW G=>(MU G h1 K I).mono ?_) J).mono ?_
 .rintro e w' ⟨l,f,d,rfl,u,z,_,t,o,q⟩;exact⟨_,_,rfl,u,z,l,f,d,rfl,t,o,q⟩
 .rintro e w' ⟨j8,N,Q,rfl,u,z,⟨l,f,d,M,t,o,q⟩,B⟩;injection M with hf1 hf2 hf3;injection hf1 with hf1;subst hf1 hf3;have jl:=u.t (Kx.of B);obtain⟨g,cap,C⟩:=b.D.gv E;refine⟨_,_,rfl,λa w=>by kernel_rfl,jl,λW A=>?_⟩;have jm:=JK B A;have D:=b.kx (jl.t (Kx.of A));exact NE D E L hf C (iE t jm) ((jm.cell (p:=⟨f,0,none⟩) (bB _ _ o)).t o) H λW' F=>hC (D.below F) C (((JK jm F).block _ (Array.getElem?_eq_some_iff.1 q).1).t q)
end
section
variable {w0 w:Wq} {B0 Hd i j:Nat} {c:bE} {vf vb vl vs:Value} {T:Nat→Nat} {cs:List (List Value)} {r:Rd} {se:Wz}
theorem rB [Hq](P:r.At 0 w)(b:Dd r w0 B0 c Hd vf vb vl vs T cs w){U:Wz}{R:List Pc}{l:List UInt8}{nn p:Int}{F:Nat}{x x':ay}{Y:Value->Wq->Prop}(h:dD r.l 0=(2,ba [97,116])::(2,n)::(2,U)::R)(hend:dD r.l j=[(1,se)])(hn:bo n=true)(hs:U.toList=l)(hk:(l,nn,p,F,true)∈wH)(hm:DR.any (bg U)=true)(hE:oD F)(hx:c.boxes[i]?=some x)(hxn:x.name=n)(hf:∀j y,j<i->c.boxes[j]?=some y->y.name≠n)(hR:∀W,w.heap.size<=W.heap.size->r.At 3 W->Calls prog F #[r.p] W (λe w'=>∃u,e=.returned (.tuple #[])/\Kx r.Q W w'/\(r.body k u).At j w'/\Y u w'))(hA:∀{u V},Y u V->∃f L E m M G o N H q O I t Q J z S K,(r.body k u).bc=#[.string ⟨#[]⟩,.slice f L E,.slice m M G,.slice o N H,.slice q O I,.slice t Q J,.slice z S K]/\∀{W:Wq}{g cap:Nat},JJ V W->iU w0 B0 c Hd vf vb vl vs T cs W->vb=.slice (some ⟨g,0,none⟩) c.boxes.length cap->Calls prog 81 #[.pointer (some ⟨g,i*7,none⟩),.agg #[.string ⟨#[]⟩,.slice f L E,.slice m M G,.slice o N H,.slice q O I,.slice t Q J,.slice z S K]] W (lQ B0 Hd i c x' W)):Calls prog 25 #[r.p] w (IY r w B0 Hd {c with boxes:=c.boxes.set i x'}):=by
 refine(HZ (Y:=λr' w'=>∃u,r'=r.body k u/\Y u w') P h hn hs hk hm hE (λW hz P'=>(hR W hz P').mono ?_) hend).mono ?_
 .rintro e w' ⟨u,rfl,A,B,C⟩;exact⟨rfl,r.body k u,rfl,rfl,A,B,u,rfl,C⟩
 .rintro e w' ⟨p1,p4,r',V,rfl,⟨hQ,hl,A,B,⟨u,rfl,C⟩,Z,hq1,h1⟩,hq4,X⟩;obtain⟨f,L,E,m,M,G,o,N,H,q,O,I,t,Q,J,z,S,K,j6,hC⟩:=hA C;obtain⟨g,cap,hg⟩:=b.D.gv hx;have jl:=A.t (Kx.of Z);refine⟨_,_,rfl,λa w=>by kernel_rfl,jl,λW d=>?_⟩;have jm:=JK Z d;have D:=b.kx (jl.t (Kx.of d));exact Pb (r:=r.body k u) D hx hxn hf hg (B.up jm) ((d.block _ (Array.getElem?_eq_some_iff.1 h1).1).t h1) ((d.block _ (Array.getElem?_eq_some_iff.1 X).1).t X) b.vb j6 λW' j0=>hC (JK jm j0) (D.below j0) hg
theorem Dd.at [Hq](b:Dd r w0 B0 c Hd vf vb vl vs T cs w)(h0:0<k)(a:k<=6):r.bc[k]?=some (.slice none 0 0):=by
 rw[b.bc];rcases k with _|_|_|_|_|_|_|k
 .omega
 all_goals first|rfl|omega
theorem Dd.put [Hq](b:Dd r w0 B0 c Hd vf vb vl vs T cs w)(k:Nat)(u:Value):(r.body k u).bc=(DM ⟨#[]⟩).toArray.setIfInBounds k u:=by rw[<-b.bc];rfl
theorem map_some {α β:Type}{f:α->β}{o:Option α}{y:β}(h:o.map f=some y):∃x,o=some x/\y=f x:=by cases o with|none=>cases h|some x=>cases h;exact⟨x,rfl,rfl⟩
theorem GC {α:Type}{p:Prop}[Decidable p]{a x:α}(h:(if p then some a else none)=some x):p/\x=a:=by
 split at h
 .rename_i b;cases h;exact⟨b,rfl⟩
 .cases h
theorem PJ [Hq](P:r.At 0 w)(b:Dd r w0 B0 c Hd vf vb vl vs T cs w){o:Bo}{x x':ay}(h:dD r.l 0=wl (.at_ n o)++[(1,se)])(J:bo n=true)(g:NX o)(q:c.boxes[i]?=some x)(K:x.name=n)(hf:∀j y,j<i->c.boxes[j]?=some y->y.name≠n)(I:o.app x=some x'):Calls prog 25 #[r.p] w (IY r w B0 Hd {c with boxes:=c.boxes.set i x'}):=by
 have L:∀{R:List Pc}{s:Wz},dD r.l 0=F6::AF::(2,n)::(2,s)::R->dD r.l 3=(2,s)::R:=λh=>by obtain⟨_,_,_,_,h1,_⟩:=dI h;obtain⟨_,_,_,_,h2,_⟩:=dI h1;obtain⟨_,_,_,_,h3,_⟩:=dI h2;exact h3
 have jk:∀{R:List Pc}{s:Wz},dD r.l 0=AF::(2,n)::(2,s)::R->dD r.l 3=R:=λh=>by obtain⟨_,_,_,_,h1,_⟩:=dI h;obtain⟨_,_,_,_,h2,_⟩:=dI h1;obtain⟨_,_,_,_,h3,_⟩:=dI h2;exact h3
 have Z:∀{k:Nat},w.heap.size<=k->∀z,k<=z->¬Tz T z:=λhk z H=>b.tz (aI hk H);cases o with|noIn s=>obtain⟨O,E,rfl⟩:=map_some I;have h:dD r.l 0=F6::AF::(2,n)::Qs::(2,s)::[(1,se)]:=h;exact rA P b h (gW (A:=[Qs,(2,s)]) (L h)) J (λa w=>by kernel_rfl) q K hf (λW B=>(uW B).1 (L h) g) λD C f=>(Az D q C).1 (iE f Jz) E|noOut s=>obtain⟨O,E,rfl⟩:=map_some I;have h:dD r.l 0=F6::AF::(2,n)::J3::(2,s)::[(1,se)]:=h;exact rA P b h (gW (A:=[J3,(2,s)]) (L h)) J (λa w=>by kernel_rfl) q K hf (λW B=>(uW B).2.1 (L h) g) λD C f=>(Az D q C).2.1 (iE f Jz) E|noGd s=>obtain⟨O,E,rfl⟩:=map_some I;have h:dD r.l 0=F6::AF::(2,n)::uZ::(2,s)::[(1,se)]:=h;exact rA P b h (gW (A:=[uZ,(2,s)]) (L h)) J (λa w=>by kernel_rfl) q K hf (λW B=>(uW B).2.2.1 (L h) g) λD C f=>(Az D q C).2.2.1 (iE f Jz) E|noRl k=>obtain⟨O,E,rfl⟩:=map_some I;have h:dD r.l 0=F6::AF::(2,n)::xz::(4,eT k)::[(1,se)]:=h;exact rA P b h (gW (A:=[xz,(4,eT k)]) (L h)) J (λa w=>by kernel_rfl) q K hf (λW B=>(uW B).2.2.2.1 (L h) (yC g.1 (wF g.2 (by decide)))) λD C f=>(Az D q C).2.2.2 (iE f Jz) E|noOw v l=>obtain⟨O,E,rfl⟩:=map_some I;have h:dD r.l 0=F6::AF::(2,n)::Hb::(4,eT v)::(7,ba [47])::(4,eT l)::[(1,se)]:=h;exact rA P b h (gW (A:=[Hb,(4,eT v),(7,ba [47]),(4,eT l)]) (L h)) J (λa w=>by kernel_rfl) q K hf (λW B=>(uW B).2.2.2.2.1 (L h) ⟨yC g.1.1 g.1.2,yC g.2.1 (wF g.2.2 (by decide))⟩) λD C f=>(Fg D q C).1 (iE f Jz) (iE f Jz) (iE f Jz) E|noRt v l=>obtain⟨O,E,rfl⟩:=map_some I;have h:dD r.l 0=F6::AF::(2,n)::uY::(4,eT v)::(7,ba [47])::(4,eT l)::[(1,se)]:=h;exact rA P b h (gW (A:=[uY,(4,eT v),(7,ba [47]),(4,eT l)]) (L h)) J (λa w=>by kernel_rfl) q K hf (λW B=>(uW B).2.2.2.2.2 (L h) ⟨yC g.1.1 g.1.2,yC g.2.1 (wF g.2.2 (by decide))⟩) λD C f=>(Fg D q C).2 (iE f Jz) (iE f Jz) (iE f Jz) E|adIn l=>obtain⟨jy,jn,X⟩:=g;obtain⟨j4,rfl⟩:=GC I;cases l with|nil=>exact absurd rfl jn|cons s l=>
    have h:dD r.l 0=AF::(2,n)::Qs::(nW (s::l)++[(1,se)]):=h;rw[xm]at h;refine rB (k:=1) (l:=[105,110]) (nn:=4) (p:=1) (F:=144) (Y:=λu w'=>∃jf,w'.ownsRow jf 9 1 u (s::l).length ((s::l).map Value.string)) P b h (gW (A:=(2,s)::rM false l) (jk h)) J (by rw[ab];rfl) (by simp[wH]) (iR (k:=0) rfl) (λa w=>by kernel_rfl) q K hf (λW H B=>((AE B (jk h) jy (aI X (by decide)) (by simp) b.vb Jq).1 (b.at (by decide) (by decide))).mono ?_) ?_
    .rintro e w' ⟨u,rfl,M,N,f⟩;exact⟨u,rfl,M,(by rw[aD,Dv _ 1,<-eM];exact N),_,f⟩
    .rintro u S ⟨jf,f⟩;obtain⟨V,U,rfl,_⟩:=je f (by simp);exact⟨_,_,_,_,_,_,_,_,_,_,_,_,_,_,_,_,_,_,b.put _ _,λG D C=>Ph D q C jn (λs hs=>lS (jy s hs)) (aI X (by decide)) (aU f G) j4⟩|adOut l=>obtain⟨jy,jn,X⟩:=g;obtain⟨j4,rfl⟩:=GC I;cases l with|nil=>exact absurd rfl jn|cons s l=>
    have h:dD r.l 0=AF::(2,n)::J3::(nW (s::l)++[(1,se)]):=h;rw[xm]at h;refine rB (k:=2) (l:=[111,117,116]) (nn:=5) (p:=1) (F:=145) (Y:=λu w'=>∃jf,w'.ownsRow jf 9 1 u (s::l).length ((s::l).map Value.string)) P b h (gW (A:=(2,s)::rM false l) (jk h)) J (by rw[ab];rfl) (by simp[wH]) (iR (k:=1) rfl) (λa w=>by kernel_rfl) q K hf (λW H B=>((AE B (jk h) jy (aI X (by decide)) (by simp) b.vb Jq).2 (b.at (by decide) (by decide))).mono ?_) ?_
    .rintro e w' ⟨u,rfl,M,N,f⟩;exact⟨u,rfl,M,(by rw[aD,Dv _ 1,<-eM];exact N),_,f⟩
    .rintro u S ⟨jf,f⟩;obtain⟨V,U,rfl,_⟩:=je f (by simp);exact⟨_,_,_,_,_,_,_,_,_,_,_,_,_,_,_,_,_,_,b.put _ _,λG D C=>NO D q C jn (λs hs=>lS (jy s hs)) (aI X (by decide)) (aU f G) j4⟩|adGd y=>
  cases I;obtain⟨t,hk,ht⟩:=sQ g.2;have h:dD r.l 0=AF::(2,n)::uZ::((2,y.port)::(2,if y.permit then ba [112,101,114,109,105,116]else ba [100,101,110,121])::ma y.mat++[(1,se)]):=h;rw[hk]at h;refine rB (k:=3) (l:=[103,117,97,114,100]) (nn:=6) (p:=1) (F:=146) (Y:=λu w'=>∃jf Q,w.heap.size<=jf/\w'.ownsRow jf 121 3 u 1 [.string y.port,.bool y.permit,Q]/\mt w' jf Q y.mat) P b h (gW (A:=(2,y.port)::(2,if y.permit then ba [112,101,114,109,105,116]else ba [100,101,110,121])::t.tks) (jk h)) J (by rw[ab];rfl) (by simp[wH]) (iR (k:=2) rfl) (λa w=>by kernel_rfl) q K hf (λW H B=>(MV B (jk h) g.1 (.word (by decide)) ht.2.1 ht.2.2.1 ht.2.2.2 b.vb Jq (b.at (by decide) (by decide))).mono ?_) ?_
  .rintro e w' ⟨Q,⟨u,rfl,M,N,f⟩,hN⟩;exact⟨u,rfl,M,(by simp only[aD];rw[show 3+(t.tks.length+1+1)=3+2+t.tks.length by omega];exact N),_,Q,H,f,ht.1▸hN⟩
  .rintro u S ⟨jf,Q,H,f,hN⟩;obtain⟨V,U,rfl,_⟩:=je f (by simp);obtain⟨A,k,rfl⟩:∃A k,Q=.slice A y.mat.length k:=by rcases hN.2 with⟨h,h0⟩|⟨_,_,_,h,_⟩<;>exact⟨_,_,by first|exact h|(rw[h,h0])⟩
   exact⟨_,_,_,_,_,_,_,_,_,_,_,_,_,_,_,_,_,_,b.put _ _,λG D C=>H6 D q C ⟨_,rfl,lS g.1,EW (aU hN G) (Z H) g.2⟩ (aU f G)⟩|adRl y=>
  obtain⟨O,E,rfl⟩:=map_some I;obtain⟨t,ht⟩:=sQ g.mat;have h:dD r.l 0=AF::(2,n)::xz::(vP y++[(1,se)]):=h;refine rB (k:=4) (l:=[114,117,108,101]) (nn:=7) (p:=1) (F:=147) (Y:=λu w'=>∃jf a b c d,w.heap.size<=jf/\w'.ownsRow jf 50 5 u 1 [I6 y.prio,a,b,c,d]/\di w' jf a y.frm/\mt w' jf b y.mat/\DY w' jf c y.sets/\di w' jf d y.dst) P b h (gW (jk h)) J (by rw[ab];rfl) (by simp[wH]) (iR (k:=3) rfl) (λa w=>by kernel_rfl) q K hf (λW H B=>(O0 B (jk h) g ht (by decide) b.vb Jq (b.at (by decide) (by decide))).mono ?_) ?_
  .rintro e w' ⟨a,b2,c2,d,⟨u,rfl,M,N,f⟩,h1,h2,h3,h4⟩;exact⟨u,rfl,M,N,_,a,b2,c2,d,H,f,h1,h2,h3,h4⟩
  .rintro u S ⟨jf,a,b2,c2,d,H,f,h1,h2,h3,h4⟩;obtain⟨V,U,rfl,_⟩:=je f (by simp);have sl:∀{v:Value}{ty:TypeId}{sz m:Nat}{xs:List Value},S.ownsRow jf ty sz v m xs->∃A k,v=.slice A m k:=λh=>by rcases h.2 with⟨h,h0⟩|⟨_,_,_,h,_⟩<;>exact⟨_,_,by first|exact h|(rw[h,h0])⟩
   obtain⟨A1,k1,rfl⟩:=sl h1;obtain⟨A2,k2,rfl⟩:=sl h2;obtain⟨A3,k3,rfl⟩:=sl h3;obtain⟨A4,k4,rfl⟩:=sl h4;exact⟨_,_,_,_,_,_,_,_,_,_,_,_,_,_,_,_,_,_,b.put _ _,λG D C=>Ku D q C ⟨_,_,_,_,rfl,EV (aU h1 G) (Z H) (aI g.frm.2 (by decide)) (λs h=>lS (g.frm.1 s h)),EW (aU h2 G) (Z H) g.mat,Og (aU h3 G) (Z H) (aI g.sets.1 (by decide)) (λs h=>lS (g.sets.2 s h).1),EV (aU h4 G) (Z H) (aI g.dst.2 (by decide)) (λs h=>lS (g.dst.1 s h))⟩ (aU f G) E⟩|adOw y=>
  obtain⟨O,E,rfl⟩:=map_some I;have h:dD r.l 0=AF::(2,n)::Hb::(vQ y++[(1,se)]):=h;refine rB (k:=5) (l:=[111,119,110]) (nn:=8) (p:=1) (F:=148) (Y:=λu w'=>∃jf,w'.ownsRow jf 96 3 u 1 [I6 y.value,I6 y.len,.string y.dst]) P b h (gW (jk h)) J (by rw[ab];rfl) (by simp[wH]) (iR (k:=4) rfl) (λa w=>by kernel_rfl) q K hf (λW H B=>((xw B (jk h) (JH g.value.1 g.value.2) (nU g.len.1 (wF g.len.2 (by decide))) g.dst b.vb Jq).1 (b.at (by decide) (by decide))).mono ?_) ?_
  .rintro e w' ⟨u,rfl,M,N,f⟩;exact⟨u,rfl,M,N,_,f⟩
  .rintro u S ⟨jf,f⟩;obtain⟨V,U,rfl,_⟩:=je f (by simp);exact⟨_,_,_,_,_,_,_,_,_,_,_,_,_,_,_,_,_,_,b.put _ _,λG D C=>NN D q C ⟨rfl,lS g.dst⟩ (aU f G) E⟩|adRt y=>
  obtain⟨O,E,rfl⟩:=map_some I;have h:dD r.l 0=AF::(2,n)::uY::(vQ y++[(1,se)]):=h;refine rB (k:=6) (l:=[114,111,117,116,101]) (nn:=9) (p:=1) (F:=149) (Y:=λu w'=>∃jf,w'.ownsRow jf 96 3 u 1 [I6 y.value,I6 y.len,.string y.dst]) P b h (gW (jk h)) J (by rw[ab];rfl) (by simp[wH]) (iR (k:=5) rfl) (λa w=>by kernel_rfl) q K hf (λW H B=>((xw B (jk h) (JH g.value.1 g.value.2) (nU g.len.1 (wF g.len.2 (by decide))) g.dst b.vb Jq).2 (b.at (by decide) (by decide))).mono ?_) ?_
  .rintro e w' ⟨u,rfl,M,N,f⟩;exact⟨u,rfl,M,N,_,f⟩
  .rintro u S ⟨jf,f⟩;obtain⟨V,U,rfl,_⟩:=je f (by simp);exact⟨_,_,_,_,_,_,_,_,_,_,_,_,_,_,_,_,_,_,b.put _ _,λG D C=>H5 D q C ⟨rfl,lS g.dst⟩ (aU f G) E⟩
theorem J2 [Hq](P:r.At 0 w)(b:Dd r w0 B0 c Hd vf vb vl vs T cs w){e:Ed}{c':bE}(h:dD r.l 0=wl e++[(1,se)])(d:DX e)(f:e.app c=some c'):Calls prog 25 #[r.p] w (IY r w B0 Hd c'):=by cases e with|noBox s=>obtain⟨g,a,rfl⟩:=map_some f;exact(Kd P b).1 h d a|adBox s=>obtain⟨g,a,rfl⟩:=map_some f;exact Ke P b h d a|noLk s=>obtain⟨g,a,rfl⟩:=map_some f;exact(Kd P b).2.1 h d a|adLk x=>obtain⟨g,a,rfl⟩:=map_some f;exact NA P b h d a|noSl s=>obtain⟨g,a,rfl⟩:=map_some f;exact(Kd P b).2.2 h d a|adSl x=>obtain⟨g,a,rfl⟩:=map_some f;exact M9 P b h d a|at_ n o=>obtain⟨g,a,rfl⟩:=map_some f;obtain⟨i,x,x',h1,h2,h3,l,rfl⟩:=Kr a;exact PJ P b h d.1 d.2 h1 h2 h3 l
end
end Go.Proofs.YtgfgoaeaicefcaaGreatDoor
