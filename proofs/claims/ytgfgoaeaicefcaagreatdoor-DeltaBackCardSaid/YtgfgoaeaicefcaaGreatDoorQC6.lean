/- Part of DeltaBack. -/
import Derived.Test.YtgfgoaeaicefcaaGreatDoorQC4
set_option maxHeartbeats 16000000
set_option maxRecDepth 100000
set_option linter.all false
namespace Go.Proofs.YtgfgoaeaicefcaaGreatDoor
open Go.RowKit Tryz
variable {v:Int}{s:Wz}
theorem Lh {r:bM}(h:ge r=true):r.head?≠some 61:=by cases r with|nil=>simp|cons c q=>simp only[ge,fH,aS,dj]at h;rcases h with(((rfl|rfl)|rfl)|rfl)|⟨rfl,a⟩<;>simp
theorem pY {l r:bM}{L:List Pc}(a:cZ l=true)(hr:ge r=true)(h:Lx r L):Lx (l++r) ((2,ba l)::L):=by have:=Lx.tok (.name (t:=ba l) (by rw[dG];exact a) hr) h;rwa[dG]at this
theorem Ri {r:bM}{L:List Pc}(a:cZ (bs s)=true)(hr:ge r=true)(h:Lx r L):Lx (bs s++r) ((2,s)::L):=.tok (.name a hr) h
theorem IS {r:bM}{L:List Pc}(a:bo s=true)(hr:ge r=true)(h:Lx r L):Lx (bs s++r) ((2,s)::L):=Ri (by unfold bo at a;rw[aS]at a;exact a.1) hr h
theorem Fz (i:Nat){l r:bM}{L:List Pc}(a:gx[i]?=some (ba l))(hr:r.head?≠some 61)(h:Lx r L):Lx (l++r) ((7,ba l)::L):=by have:=Lx.tok (.sign (t:=ba l) (aE a) hr) h;rwa[dG]at this
theorem MO {r:bM}{L:List Pc}(h0:0<=v)(h1:v<=4294967295)(hr:ge r=true)(h:Lx r L):Lx (bs (ez v)++r) ((4,ez v)::L):=.tok (.num v (nU h0 h1) hr) h
theorem Rh {r:bM}{L:List Pc}(h0:0<=v)(h1:v<=4294967295)(hr:ge r=true)(h:Lx r L):Lx (gE v++r) ((4,ba (gE v))::L):=by have:=Lx.tok (t:=ba (gE v)) (.num v ⟨h0,h1,.inr (dG _)⟩ hr) h;rwa[dG]at this
theorem Rj {r:bM}{L:List Pc}(h0:0<=v)(h1:v<=4294967295)(hr:ge r=true)(h:Lx r L):Lx (bs (eT v)++r) ((4,eT v)::L):=.tok (.num v ⟨h0,h1,.inl rfl⟩ hr) h
theorem GD (a b:Wz):bs (ju a b)=bs a++46::bs b:=by unfold ju;rw[bY,bY,aH];rfl
theorem QA {r:bM}{L:List Pc}(hs:nu s)(hr:ge r=true)(h:Lx r L):Lx (bs s++r) ((3,s)::L):=by obtain⟨a,b,c,d,rfl⟩:=hs;unfold bo at c d;rw[aS]at c d;exact .tok (.port (bs a) (bs b) c.1 d.1 (GD a b) hr) h
theorem KY {l:bM}(h:dA l=6):l.head?≠some 61:=λe=>by cases l with|nil=>cases e|cons c q=>
 obtain rfl:c=61:=by simpa using e
 exact absurd h (by show¬nh _=6;decide)
theorem F8 (h0:0<=v)(r:bM):(bs (eT v)++r).head?≠some 61:=KY (gH h0 r).1
theorem Ea (h0:0<=v)(r:bM):(bs (ez v)++r).head?≠some 61:=by
 unfold ez;split
 .exact F8 h0 r
 .rw[dG];unfold gE;simp only[aH];exact KY (gH (by omega) _).1
def Iq (t:eF):List Pc:=(2,t.field)::(7,yt t.op)::(if t.form=2 then[(4,ba (gE t.lo)),(7,ba [47]),(4,ez t.len)]else if t.form=3 then[(4,ez t.lo),(7,ba [46,46]),(4,ez t.hi)]else if t.form=4 then[(5,ba [37]++t.pat)]else[(4,ez t.lo)])
def DN (l:List Pc)(b:Bool):List Pc:=if b then(7,ba [40])::l++[(7,ba [41])]else l
def bJ.tks:bJ->List Pc|.leaf b=>[(2,if b then FE else xk)]|.test t=>Iq t|.not x=>(7,ba [33])::DN x.tks x.joined|.and l r=>DN l.tks l.isOr++(7,ba [38])::DN r.tks r.joined|.or l r=>l.tks++(7,ba [124])::DN r.tks r.isOr
theorem L5 {op:Int}(h:1<=op/\op<=6):yt op∈gx:=by
 have:op=1\/op=2\/op=3\/op=4\/op=5\/op=6:=by omega
 rcases this with rfl|rfl|rfl|rfl|rfl|rfl<;>simp[yt,gx,ba]
theorem MK {t:eF}(h:sJ t){r:bM}{L:List Pc}(hr:ge r=true)(a:Lx r L):Lx (bs (oI t)++r) (Iq t++L):=by
 have b:∀{q:bM}{M:List Pc},Lx q M->Lx (bs (tF t)++q) ((2,t.field)::(7,yt t.op)::M):=λ{q M} hM=>by unfold tF;simp only[bY,dG,aH,eR];exact Ri h.nm rfl (.blank (.tok (.sign (L5 h.op) (by simp)) (.blank hM)))
 unfold oI Iq;split
 .simp only[bY,dG,aH,eR,aW,ag];exact b (Rh h.lo.1.1 h.lo.1.2 rfl (Fz 15 (l:=[47]) rfl (Ea h.len.1.1 _) (MO h.len.1.1 (by have:=h.len.1.2;omega) hr a)))
 split
 .simp only[bY,dG,aH,eR,aW,ag];exact b (MO h.lo.1.1 h.lo.1.2 rfl (Fz 3 (l:=[46,46]) rfl (Ea h.hi.1.1 _) (MO h.hi.1.1 h.hi.1.2 hr a)))
 split
 .rename_i c;obtain⟨⟨d,e⟩,f⟩:=h.pat4 c;simp only[bY,dG,aH,eR,aW,ag];have:=Lx.tok (.pat d e f hr) a;simp only[bY,dG,aH,eR]at this;exact b this
 .simp only[bY,dG,aH,eR,aW,ag];exact b (MO h.lo.1.1 h.lo.1.2 hr a)
theorem Cx {l:bM}(h:cZ l=true)(r:bM):(l++r).head?≠some 61:=by obtain⟨h1,_⟩:=(jq l).1 h;intro e;cases l with|nil=>cases h1|cons c q=>
 obtain rfl:c=61:=by simpa using e
 exact absurd h1 (by show¬nh _=5;decide)
theorem rE (s:Wz)(b:Bool)(r:bM):bs (zM s b)++r=if b then 40::(bs s++41::r)else bs s++r:=by
 unfold zM;cases b
 .rfl
 .simp only[vY,bY,dG,aH,aW,ag]
theorem qe:∀{t:bJ},t.All sJ->∀r,(bs t.text++r).head?≠some 61
 |.leaf b,_,r=>by cases b<;>simp[bJ.text,bs,ba]|.test t,h,r=>by
  have:∃q,bs (oI t)++r=bs t.field++q:=by
   unfold oI tF;repeat' split
   all_goals(simp only[bY,aH];exact⟨_,rfl⟩)
  obtain⟨q,a⟩:=this;show(bs (oI t)++r).head?≠_;rw[a];exact Cx (sJ.nm h) q|.not x,h,r=>by simp[bJ.text,bY,dG]|.and x y,h,r=>by
  unfold bJ.text;simp only[bY,aH];rw[rE];split
  .simp
  .exact qe h.1 _|.or x y,h,r=>by unfold bJ.text;simp only[bY,aH];exact qe h.1 _
theorem MJ:∀{t:bJ},t.All sJ->∀{r:bM}{L:List Pc},ge r=true->Lx r L->Lx (bs t.text++r) (t.tks++L):=by
 have c:∀{t:bJ}(b:Bool),t.All sJ->(∀{r:bM}{L:List Pc},ge r=true->Lx r L->Lx (bs t.text++r) (t.tks++L))->∀{r:bM}{L:List Pc},ge r=true->Lx r L->Lx (bs (zM t.text b)++r) (DN t.tks b++L):=λ{t} b ha ih {r L} hr a=>by
  rw[rE];unfold DN;cases b
  .exact ih hr a
  .simp only[vY,aW,aH,eR];exact Fz 5 (l:=[40]) rfl (qe ha _) (ih rfl (Fz 6 (l:=[41]) rfl (Lh hr) a))
 intro t;induction t with
 |leaf b=>
   intro _ r L hr a;cases b
   .exact pY (l:=[110,111,110,101]) (by decide) hr a
   .exact pY (l:=[97,110,121]) (by decide) hr a|test t=>exact λh {r L} hr a=>MK h hr a|not x ih=>
   intro h r L hr a;unfold bJ.text bJ.tks;simp only[bY,dG,aH,eR,aW];refine Fz 7 (l:=[33]) rfl ?_ (c (t:=x) x.joined h (ih h) hr a);rw[rE];split
   .simp
   .exact qe (t:=x) h _|and x y ih1 ih2=>intro h r L hr a;unfold bJ.text bJ.tks;simp only[bY,dG,aH,aW,ag];exact c (t:=x) x.isOr h.1 (ih1 h.1) rfl (.blank (Fz 11 (l:=[38]) rfl (by simp) (.blank (c (t:=y) y.joined h.2 (ih2 h.2) hr a))))|or x y ih1 ih2=>intro h r L hr a;unfold bJ.text bJ.tks;simp only[bY,dG,aH,aW,ag];exact ih1 h.1 rfl (.blank (Fz 12 (l:=[124]) rfl (by simp) (.blank (c (t:=y) y.isOr h.2 (ih2 h.2) hr a))))
def ma (l:List de):List Pc:=match jT l with|some t=>t.tks|none=>[]
theorem xr {l:List de}(h:IU l){r:bM}{L:List Pc}(hr:ge r=true)(a:Lx r L):Lx (bs (gi l)++r) (ma l++L):=by obtain⟨_,t,ht,_,b⟩:=h;unfold gi ma;rw[ht];exact MJ (mm ht b) hr a
def nW (l:List Wz):List Pc:=l.map λs=>(2,s)
def mj:List Wz->List Pc|[]=>[]|[s]=>[(2,s)]|s::r=>(2,s)::(7,ba [44])::mj r
theorem BK (a:Wz):∀(s:Wz)(r:List Wz),bs (gF (s::r) a)=if r=[]then bs s else bs s++(bs a++bs (gF r a))|s,[]=>by simp[gF,bs,Lib.join]|s,q::r=>by unfold gF bs;simp[Lib.join]
theorem tA:∀{l:List Wz},jb l->l≠[]->∀{r:bM}{L:List Pc},ge r=true->Lx r L->Lx (bs (gF l (ba [32]))++r) (nW l++L)
 |[],_,h,_,_,_,_=>absurd rfl h|s::l,hn,_,r,L,hr,hL=>by
  rw[BK];unfold nW;have hs:=hn s bT;split
  .rename_i e;subst e;exact IS hs hr hL
  .rename_i e;simp only[aH,dG,aW,ag,bP];exact IS hs rfl (.blank (tA (λq a=>hn q (bU _ a)) e hr hL))
theorem Cr:∀{l:List Wz},jb l->l≠[]->∀{r:bM}{L:List Pc},ge r=true->Lx r L->Lx (bs (gF l (ba [44,32]))++r) (mj l++L)
 |[],_,h,_,_,_,_=>absurd rfl h|s::l,hn,_,r,L,hr,hL=>by
  rw[BK];have hs:=hn s bT;split
  .rename_i e;subst e;exact IS hs hr hL
  .rename_i e;have:mj (s::l)=(2,s)::(7,ba [44])::mj l:=by cases l with|nil=>exact absurd rfl e|cons q l=>rfl
   rw[this];simp only[aH,dG,aW,ag];exact IS hs rfl (Fz 13 (l:=[44]) rfl (by simp) (.blank (Cr (λq a=>hn q (bU _ a)) e hr hL)))
def mD (x:iV):List Pc:=[(2,x.field),(7,ba [61]),(4,ez x.value)]
def pv:List iV->List Pc|[]=>[]|[x]=>mD x|x::r=>mD x++(7,ba [44])::pv r
theorem mU:∀(l:List iV)(k:Nat)(a:Wz),bs (kC a k l)=bs a++bs (kC (ba []) k l)|[],k,a=>by simp[kC,dG]|x::r,k,a=>by unfold kC;rw[mU r,mU r (k+1) ((ba []++_)++_)];simp only[bY,dG,aH,ag]
theorem Fv:∀{l:List iV},(∀x∈l,bo x.field=true/\0<=x.value/\x.value<=4294967295)->l≠[]->∀{k:Nat}{r:bM}{L:List Pc},ge r=true->Lx r L->Lx (bs (kC (ba []) k l)++r) ((if k=0 then[(2,ba [115,101,116])]else[(7,ba [44])])++(pv l++L))
 |[],_,h,_,_,_,_,_=>absurd rfl h|x::l,hn,_,k,r,L,hr,hL=>by
  obtain⟨h1,h2,h3⟩:=hn x bT;have b:∀{q:bM}{M:List Pc},ge q=true->Lx q M->Lx ((if k=0 then[32,115,101,116,32]else[44,32])++(bs (setT x)++q)) ((if k=0 then[(2,ba [115,101,116])]else[(7,ba [44])])++(mD x++M)):=λ{q M} a hM=>by
   have hs:Lx (bs (setT x)++q) (mD x++M):=by unfold setT mD;simp only[bY,dG,aH,aW,ag];exact IS h1 rfl (.blank (Fz 8 (l:=[61]) rfl (by simp) (.blank (MO h2 h3 a hM))))
   split
   .exact .blank (pY (l:=[115,101,116]) (by decide) rfl (.blank hs))
   .exact Fz 13 (l:=[44]) rfl (by simp) (.blank hs)
  have d:bs (if k=0 then ba [32,115,101,116,32]else ba [44,32])=if k=0 then[32,115,101,116,32]else[44,32]:=by split<;>rfl
  unfold kC;rw[mU];simp only[bY,dG,aH,ag,d];by_cases e:l=[]
  .subst e;simp only[kC,dG,ag];exact b hr hL
  .have f:pv (x::l)=mD x++(7,ba [44])::pv l:=by cases l with|nil=>exact absurd rfl e|cons q l=>rfl
   rw[f];have c:=Fv (λq a=>hn q (bU _ a)) e (k:=k+1) hr hL;rw[ap (by omega)]at c;simp only[aH,aW];refine b ?_ c;cases l with|nil=>exact absurd rfl e|cons q l=>unfold kC;rw[mU,ap (by omega)];simp only[bY,dG,aH,aW,ag];rfl
theorem IN {x y:Wz}:x.toList=y.toList↔x=y:=by rw[ab,ab];exact⟨λh=>by cases x;cases y;simpa using h,λh=>by rw[h]⟩
theorem er (x y:Wz):bg x y=true↔x=y:=by unfold bg;rw[dj,IN]
theorem fO {α:Type}{e:α->α->Bool}(h:∀x y,e x y=true↔x=y):∀l m,fc e l m=true↔l=m|[],[]=>by simp[fc]|[],_::_=>by simp[fc]|_::_,[]=>by simp[fc]|x::r,y::q=>by simp[fc,h,fO h r q]
theorem sC (x y:de):fj x y=true↔x=y:=by obtain⟨a,b,c,d,e,f,g,h⟩:=x;obtain⟨i,j,k,l,m,n,o,p⟩:=y;simp only[fj,aS,dj,IN,de.mk.injEq,eF.mk.injEq,and_assoc]
theorem nN (x y:dO):iK x y=true↔x=y:=by cases x;cases y;simp only[iK,aS,dj,IN,dO.mk.injEq]
theorem Hl (x y:iV):kO x y=true↔x=y:=by cases x;cases y;simp only[kO,aS,dj,IN,iV.mk.injEq]
theorem Ey (x y:eQ):ij x y=true↔x=y:=by cases x;cases y;simp only[ij,aS,dj,IN,eQ.mk.injEq,and_assoc]
theorem yR (x y:dc):fX x y=true↔x=y:=by cases x;cases y;simp only[fX,aS,dj,IN,dc.mk.injEq,and_assoc]
theorem sD (x y:gP):fJ x y=true↔x=y:=by cases x;cases y;simp only[fJ,aS,dj,IN,fO sC,gP.mk.injEq]
theorem C6 (x y:dE):gp x y=true↔x=y:=by cases x;cases y;simp only[gp,aS,dj,IN,fO sC,fO er,dE.mk.injEq]
def zE (r:db):db:={r with frm:=nR r.frm}
theorem Ex (x y:db):iy De x y=true↔zE x=zE y:=by cases x;cases y;simp only[iy,De,zE,aS,dj,fO sC,fO Hl,fO er,db.mk.injEq]
def jz {α:Type}(p:α->Bool)(l:List α):Option (List α):=if l.any p=true then some (l.filter λx=>!p x)else none
def addL {α:Type}(p:α->Bool)(x:α)(l:List α):Option (List α):=if l.any p=true then none else some (l++[x])
inductive Bo where|noIn (s:Wz)|noOut (s:Wz)|adIn (l:List Wz)|adOut (l:List Wz)|noGd (s:Wz)|adGd (g:gP)|noRl (k:Int)|adRl (r:db)|noOw (v l:Int)|adOw (o:dc)|noRt (v l:Int)|adRt (o:dc)
inductive Ed where|noBox (s:Wz)|adBox (s:Wz)|noLk (s:Wz)|adLk (x:eQ)|noSl (s:Wz)|adSl (x:dE)|at_ (s:Wz)(o:Bo)
def mp (v l:Int)(o:dc):Bool:=decide (o.value=v/\o.len=l)
def lz (l:List Wz)(b:ay):Prop:=(b.ins++b.outs++l).Nodup
instance(l:List Wz)(b:ay):Decidable (lz l b):=by unfold lz;infer_instance
def Bo.app:Bo->ay->Option ay|.noIn s,b=>(jz (λx=>decide (x=s)) b.ins).map λl=>{b with ins:=l}|.noOut s,b=>(jz (λx=>decide (x=s)) b.outs).map λl=>{b with outs:=l}|.adIn l,b=>if lz l b then some {b with ins:=b.ins++l}else none|.adOut l,b=>if lz l b then some {b with outs:=b.outs++l}else none|.noGd s,b=>(jz (λx=>decide (x.port=s)) b.guards).map λl=>{b with guards:=l}|.adGd g,b=>some {b with guards:=b.guards++[g]}|.noRl k,b=>(jz (λx=>decide (x.prio=k)) b.rules).map λl=>{b with rules:=l}|.adRl r,b=>(addL (λx=>decide (x.prio=r.prio)) r b.rules).map λl=>{b with rules:=l}|.noOw v l,b=>(jz (mp v l) b.owns).map λl=>{b with owns:=l}|.adOw o,b=>(addL (mp o.value o.len) o b.owns).map λl=>{b with owns:=l}|.noRt v l,b=>(jz (mp v l) b.routes).map λl=>{b with routes:=l}|.adRt o,b=>(addL (mp o.value o.len) o b.routes).map λl=>{b with routes:=l}
def LJ (s:Wz)(f:ay->Option ay):List ay->Option (List ay)|[]=>none|b::r=>if b.name=s then(f b).map (.::r)else(LJ s f r).map (b::·)
def Ed.app:Ed->bE->Option bE|.noBox s,c=>(jz (λx=>decide (x.name=s)) c.boxes).map λl=>{c with boxes:=l}|.adBox s,c=>(addL (λx=>decide (x.name=s)) ⟨s,[],[],[],[],[],[]⟩ c.boxes).map λl=>{c with boxes:=l}|.noLk s,c=>(jz (λx=>decide (x.frm=s)) c.links).map λl=>{c with links:=l}|.adLk x,c=>(addL (λy=>decide (y.frm=x.frm)) x c.links).map λl=>{c with links:=l}|.noSl s,c=>(jz (λx=>decide (x.name=s)) c.slices).map λl=>{c with slices:=l}|.adSl x,c=>(addL (λy=>decide (y.name=x.name)) x c.slices).map λl=>{c with slices:=l}|.at_ s o,c=>(LJ s o.app c.boxes).map λl=>{c with boxes:=l}
def iN {α β:Type}(f:β->α->Option α):List β->α->Option α|[],a=>some a|x::r,a=>(f x a).bind (iN f r)
theorem gL {α β:Type}{f:β->α->Option α}:∀{l m:List β}{a b:α},iN f l a=some b->iN f (l++m) a=iN f m b|[],_,a,b,h=>by cases h;rfl|x::r,m,a,b,h=>by simp only[iN,aW]at h⊢;cases hx:f x a with|none=>rw[hx]at h;cases h|some y=>rw[hx]at h;exact gL (l:=r) h
theorem oN {α β:Type}{f:β->α->Option α}{x:β}{l:List β}{a b:α}(h:f x a=some b):iN f (x::l) a=iN f l b:=by simp only[iN,h];rfl
theorem ku {A P β γ:Type}{f:β->A->Option A}{g:γ->P->Option P}(h:γ->β)(c:A->P)(b:A->P->A)(h1:∀d a,f (h d) a=(g d (c a)).map (b a))(h2:∀a p,c (b a p)=p)(h3:∀a p q,b (b a p) q=b a q)(i:∀a,b a (c a)=a):∀(l:List γ)(a:A)(p:P),iN g l (c a)=some p->iN f (l.map h) a=some (b a p)|[],a,p,e=>by cases e;rw[i];rfl|d::l,a,p,e=>by simp only[iN,bP,h1]at e⊢;cases hg:g d (c a)with|none=>rw[hg]at e;cases e|some q=>rw[hg]at e;have:=ku h c b h1 h2 h3 i l (b a q) p (by rw[h2];exact e);rw[h3]at this;exact this
def pk {α β:Type}(same:α->α->Bool)(aw c:α->β)(a b:List α):List β:=(a.filter λx=>!(b.any λy=>same x y)).map aw++(b.filter λy=>!(a.any λx=>same x y)).map c
theorem CT {α β γ:Type}{f:β->α->Option α}(g:γ->β):∀(l:List γ)(a:α),iN f (l.map g) a=iN (λd=>f (g d)) l a|[],_=>rfl|x::r,a=>by simp only[iN,bP];cases f (g x) a with|none=>rfl|some y=>exact CT g r y
theorem sj {α I:Type}[DecidableEq I](id:α->I):∀(ds:List I)(l:List α),ds.Nodup->(∀d∈ds,d∈l.map id)->iN (λd l=>jz (λx=>decide (id x=d)) l) ds l=some (l.filter λx=>!decide (id x∈ds))
 |[],l,_,_=>by simp[iN,List.filter_eq_self.2]|d::ds,l,hn,hm=>by
  rw[jm]at hn;have h1:(l.any λx=>decide (id x=d))=true:=by obtain⟨x,a,e⟩:=List.mem_map.1 (hm d bT);exact List.any_eq_true.2 ⟨x,a,by simp[e]⟩
  have g:=sj id ds (l.filter λx=>!decide (id x=d)) hn.2 λe b=>by obtain⟨x,a,c⟩:=List.mem_map.1 (hm e (bU _ b));refine List.mem_map.2 ⟨x,List.mem_filter.2 ⟨a,?_⟩,c⟩;have:id x≠d:=λh=>hn.1 (by rw[<-h,c];exact b);simp[this]
  rw[oN (f:=λd l=>jz (λx=>decide (id x=d)) l) (ax h1),g,List.filter_filter];congr 1;refine List.filter_congr λx _=>?_;rw[eD];simp only[aS,bz,bX,dN,P9];exact And.comm
theorem GT {α I:Type}[DecidableEq I](id:α->I):∀(ds l:List α),(ds.map id).Nodup->(∀d∈ds,id d∉l.map id)->iN (λd l=>addL (λx=>decide (id x=id d)) d l) ds l=some (l++ds)
 |[],l,_,_=>by simp[iN]|d::ds,l,hn,hm=>by
  rw[bP,jm]at hn;have h1:¬(l.any λx=>decide (id x=id d))=true:=λh=>by obtain⟨x,b,e⟩:=List.any_eq_true.1 h;exact hm d bT (List.mem_map.2 ⟨x,b,by simpa using e⟩)
  have c:=GT id ds (l++[d]) hn.2 λe a h=>by
   rw[bK,jn]at h;rcases h with h|h
   .exact hm e (bU _ a) h
   .have:id e=id d:=by simpa using h
    exact hn.1 (by rw[<-this];exact dl a)
  rw[oN (f:=λd l=>addL (λx=>decide (id x=id d)) d l) (ap h1),c];simp
theorem pC {α β:Type}(f:α->β):∀l:List α,(l.map f).Nodup->l.Nodup/\∀x∈l,∀y∈l,f x=f y->x=y
 |[],_=>⟨fF,λx h=>by cases h⟩|a::l,h=>by
  rw[bP,jm]at h;obtain⟨h1,h2⟩:=pC f l h.2;refine⟨List.nodup_cons.2 ⟨λd=>h.1 (dl d),h1⟩,λx b y c e=>?_⟩;rcases List.mem_cons.1 b with b|b<;>rcases List.mem_cons.1 c with c|c
  .rw[b,c]
  .exact absurd (by rw[<-b,e];exact dl c) h.1
  .exact absurd (by rw[<-c,<-e];exact dl b) h.1
  .exact h2 x b y c e
theorem jP {α β:Type}{f:α->β}{p:α->Bool}{l:List α}(h:(l.map f).Nodup):((l.filter p).map f).Nodup:=h.sublist (List.filter_sublist.map f)
theorem Ih {α I:Type}[DecidableEq I](f:α->α)(c:α->I)(o:∀x,c (f x)=c x)(same:α->α->Bool)(hs:∀x y,same x y=true↔f x=f y){a b l:List α}(C:(a.map c).Nodup)(q:(b.map c).Nodup)(u:(l.map f).Perm (a.map f)):∃m n,iN (λd l=>jz (λx=>decide (c x=c d)) l) (a.filter λx=>!(b.any λy=>same x y)) l=some m/\iN (λd l=>addL (λx=>decide (c x=c d)) d l) (b.filter λy=>!(a.any λx=>same x y)) m=some n/\(n.map f).Perm (b.map f):=by
 have A:∀z:List α,z.map c=(z.map f).map c:=λz=>by rw[eh];exact jF λx _=>(o x).symm
 have P:∀i,i∈l.map c↔i∈a.map c:=λi=>by rw[A l,A a];exact(u.map c).mem_iff
 have K:∀x,(!(b.any λy=>same x y))=true↔f x∉b.map f:=λx=>by rw[bz,<-Ga,GX,pZ];exact not_congr ⟨λ⟨y,h1,h2⟩=>⟨y,h1,((hs x y).1 h2).symm⟩,λ⟨y,h1,h2⟩=>⟨y,h1,(hs x y).2 h2.symm⟩⟩
 have hB:∀y,(!(a.any λx=>same x y))=true↔f y∉a.map f:=λy=>by rw[bz,<-Ga,GX,pZ];exact not_congr ⟨λ⟨x,h1,h2⟩=>⟨x,h1,(hs x y).1 h2⟩,λ⟨x,h1,h2⟩=>⟨x,h1,(hs x y).2 h2⟩⟩
 have G:=sj c ((a.filter λx=>!(b.any λy=>same x y)).map c) l (jP C) λd g=>by obtain⟨x,j,rfl⟩:=List.mem_map.1 g;exact(P _).2 (dl (List.mem_filter.1 j).1)
 rw[CT]at G;generalize L:a.filter (λx=>!(b.any λy=>same x y))=D at*;have H:∀x,x∈D↔x∈a/\f x∉b.map f:=λx=>by rw[<-L,IV,K]
 generalize t:b.filter (λy=>!(a.any λx=>same x y))=E at*;have jk:∀x,x∈E↔x∈b/\f x∉a.map f:=λx=>by rw[<-t,IV,hB]
 have J:∀{z:List α},(z.map c).Nodup->∀x∈z,∀y∈z,c x=c y->x=y:=λh=>(pC c _ h).2;have Q:(l.filter λx=>!decide (c x∈D.map c)).map f=(l.map f).filter λk=>!decide (c k∈D.map c):=by rw[List.filter_map];congr 1;exact List.filter_congr λx _=>by show _=!decide (c (f x)∈_);rw[o]
 have jl:∀k,k∈(l.filter λx=>!decide (c x∈D.map c)).map f↔k∈a.map f/\k∈b.map f:=λk=>by
  rw[Q,IV,u.mem_iff];constructor
  .rintro⟨h1,h2⟩;refine⟨h1,?_⟩;obtain⟨x,j,rfl⟩:=List.mem_map.1 h1;refine ri λO=>?_;simp only[bz,bX]at h2;exact h2 (by rw[o];exact dl ((H x).2 ⟨j,O⟩))
  .rintro⟨h1,h2⟩;refine⟨h1,?_⟩;obtain⟨x,j,rfl⟩:=List.mem_map.1 h1;simp only[bz,bX];intro h3;obtain⟨d,g,e⟩:=List.mem_map.1 h3;rw[o]at e;obtain⟨r,p⟩:=(H d).1 g;rw[J C d r x j e]at p;exact p h2
 generalize N:l.filter (λx=>!decide (c x∈D.map c))=M at*;have jy:=GT c E M (by rw[<-t];exact jP q) λd g h=>by obtain⟨x,j,e⟩:=List.mem_map.1 h;obtain⟨h1,h2⟩:=(jl (f x)).1 (dl j);obtain⟨r,p⟩:=(jk d).1 g;obtain⟨y,w,F⟩:=List.mem_map.1 h2;have:y=d:=J q y w d r (by rw[<-e,<-o y,F,o]);rw[<-this,F]at p;exact p h1
 refine⟨M,M++E,G,jy,?_⟩;have B:∀{z:List α},(z.map c).Nodup->(z.map f).Nodup:=λ{z} h=>by rw[A]at h;exact(pC c _ h).1
 have R:(M.map f).Nodup:=by have:=(u.nodup_iff).2 (B C);rw[<-N];exact jP this
 rw[bK];refine(List.perm_ext_iff_of_nodup ?_ (B q)).2 λk=>?_
 .refine List.nodup_append.2 ⟨R,B (by rw[<-t];exact jP q),λx j y w e=>?_⟩;subst e;obtain⟨d,g,rfl⟩:=List.mem_map.1 w;exact((jk d).1 g).2 ((jl _).1 j).1
 .rw[jn,jl];constructor
  .rintro(h|h)
   .exact h.2
   .obtain⟨d,g,rfl⟩:=List.mem_map.1 h;exact dl ((jk d).1 g).1
  .intro h;by_cases h1:k∈a.map f
   .exact .inl ⟨h1,h⟩
   .obtain⟨d,g,rfl⟩:=List.mem_map.1 h;exact .inr (dl ((jk d).2 ⟨g,h1⟩))
def xZ (x y:ay):List Bo:=((if fc bg x.ins y.ins=true then[]else x.ins.map .noIn)++(if fc bg x.outs y.outs=true then[]else x.outs.map .noOut))++((if fc bg x.ins y.ins=true\/y.ins.length=0 then[]else[.adIn y.ins])++(if fc bg x.outs y.outs=true\/y.outs.length=0 then[]else[.adOut y.outs]))
def tG (x y:ay):List Bo:=if fc fJ x.guards y.guards=true then[]else(ga [] x.guards).map .noGd++y.guards.map .adGd
def JA (x y:ay):List Bo:=pk (iy De) (λr=>.noRl r.prio) .adRl x.rules y.rules
def Nq (x y:ay):List Bo:=pk fX (λo=>.noOw o.value o.len) .adOw x.owns y.owns
def Fh (x y:ay):List Bo:=pk fX (λo=>.noRt o.value o.len) .adRt x.routes y.routes
def ya (x y:ay):List Bo:=(((xZ x y++tG x y)++JA x y)++Nq x y)++Fh x y
def ME (x:ay):List Ed:=.adBox x.name::(ya (bare x) x).map (.at_ x.name)
def JN (p:ay×ay):List Ed:=(ya p.1 p.2).map (.at_ p.1.name)
def Jr (a b:bE):List Ed:=pk ij (λx=>.noLk x.frm) .adLk a.links b.links
def Fc (a b:bE):List Ed:=pk gp (λx=>.noSl x.name) .adSl a.slices b.slices
def zK (a b:bE)(k:Nat):List Ed:=(((a.boxes.drop k).map (λx=>.noBox x.name)++((a.boxes.zip b.boxes).take k).flatMap JN)++(b.boxes.drop k).flatMap ME)++(Jr a b++Fc a b)
structure vL (x y:ay):Prop where
 nm:x.name=y.name
 ins:x.ins=y.ins
 outs:x.outs=y.outs
 grd:x.guards=y.guards
 rul:(x.rules.map zE).Perm (y.rules.map zE)own:x.owns.Perm y.owns
 rou:x.routes.Perm y.routes
def IP (o:dc):Int×Int:=(o.value,o.len)
structure Na (x:ay):Prop where
 port:(x.ins++x.outs).Nodup
 rul:(x.rules.map (·.prio)).Nodup
 own:(x.owns.map IP).Nodup
 rou:(x.routes.map IP).Nodup
structure Uq (c:bE):Prop where
 nm:(c.boxes.map (·.name)).Nodup
 box:∀x∈c.boxes,Na x
 lnk:(c.links.map (·.frm)).Nodup
 slc:(c.slices.map (·.name)).Nodup
theorem vL.rfl' (x:ay):vL x x:=⟨rfl,rfl,rfl,rfl,.refl _,.refl _,.refl _⟩
theorem Na.bare (x:ay):Na (bare x):=⟨fF,fF,fF,fF⟩
theorem QS (l:List Wz)(b:l.Nodup):iN (λd l=>jz (λx=>decide (x=d)) l) l l=some []:=by
 have:=sj (λx:Wz=>x) l l b λd a=>by simpa using a
 rw[this];congr 1;rw[List.filter_eq_nil_iff];intro x c;simp[c]
theorem G6 {x y z:ay}(hi:z.ins=x.ins)(a:z.outs=x.outs)(d:(x.ins++x.outs).Nodup)(c:(y.ins++y.outs).Nodup):iN Bo.app (xZ x y) z=some {z with ins:=y.ins,outs:=y.outs}:=by
 have i:=(List.nodup_append.1 d).1;have j:=(List.nodup_append.1 d).2.1;have k:iN Bo.app (if fc bg x.ins y.ins=true then[]else x.ins.map .noIn) z=some {z with ins:=if x.ins=y.ins then y.ins else[]}:=by
  by_cases e:x.ins=y.ins
  .rw[ax ((fO er _ _).2 e),ax e,<-e,<-hi];rfl
  .rw[ap (λh=>e ((fO er _ _).1 h)),ap e];exact ku (f:=Bo.app) Bo.noIn (·.ins) (λb l=>{b with ins:=l}) (λ_ _=>rfl) (λ_ _=>rfl) (λ_ _ _=>rfl) (λ_=>rfl) x.ins z [] (by rw[hi];exact QS _ i)
 have m:∀z:ay,z.outs=x.outs->iN Bo.app (if fc bg x.outs y.outs=true then[]else x.outs.map .noOut) z=some {z with outs:=if x.outs=y.outs then y.outs else[]}:=λz a=>by
  by_cases e:x.outs=y.outs
  .rw[ax ((fO er _ _).2 e),ax e,<-e,<-a];rfl
  .rw[ap (λh=>e ((fO er _ _).1 h)),ap e];exact ku (f:=Bo.app) Bo.noOut (·.outs) (λb l=>{b with outs:=l}) (λ_ _=>rfl) (λ_ _=>rfl) (λ_ _ _=>rfl) (λ_=>rfl) x.outs z [] (by rw[a];exact QS _ j)
 have g:=(List.nodup_append.1 c).1;have p:=(List.nodup_append.1 c).2.1;have n:∀z:ay,z.ins=(if x.ins=y.ins then y.ins else[])->z.outs=(if x.outs=y.outs then y.outs else[])->iN Bo.app (if fc bg x.ins y.ins=true\/y.ins.length=0 then[]else[.adIn y.ins]) z=some {z with ins:=y.ins}:=λz hi a=>by
  by_cases e:x.ins=y.ins
  .rw[ax e]at hi;rw[ax (.inl ((fO er _ _).2 e)),<-hi];rfl
  .rw[ap e]at hi;by_cases h0:y.ins.length=0
   .rw[ax (.inr h0),List.length_eq_zero_iff.1 h0,<-hi];rfl
   .rw[ap (λh=>h.elim (λh=>e ((fO er _ _).1 h)) h0)];have:lz y.ins z:=by
     unfold lz;rw[hi,a];split
     .exact(List.perm_append_comm.nodup_iff).1 c
     .simpa using g
    simp only[iN,Bo.app,ax this,hi];rfl
 have o:∀z:ay,z.ins=y.ins->z.outs=(if x.outs=y.outs then y.outs else[])->iN Bo.app (if fc bg x.outs y.outs=true\/y.outs.length=0 then[]else[.adOut y.outs]) z=some {z with outs:=y.outs}:=λz hi a=>by
  by_cases e:x.outs=y.outs
  .rw[ax e]at a;rw[ax (.inl ((fO er _ _).2 e)),<-a];rfl
  .rw[ap e]at a;by_cases h0:y.outs.length=0
   .rw[ax (.inr h0),List.length_eq_zero_iff.1 h0,<-a];rfl
   .rw[ap (λh=>h.elim (λh=>e ((fO er _ _).1 h)) h0)];have:lz y.outs z:=by unfold lz;rw[hi,a];simpa using c
    simp only[iN,Bo.app,ax this,a];rfl
 unfold xZ;exact(gL ((gL k).t (m _ a))).t ((gL (n _ rfl rfl)).t (o _ rfl rfl))
theorem wZ:∀(l:List gP)(a:List Wz),a.Nodup->(ga a l).Nodup/\∀p,p∈ga a l↔p∈a\/p∈l.map (·.port)
 |[],a,h=>⟨h,λp=>by simp[ga]⟩|u::r,a,h=>by
  have b:a.any (bg u.port)=true↔u.port∈a:=by rw[GX];exact⟨λ⟨x,h1,h2⟩=>by rw[(er _ _).1 h2];exact h1,λh=>⟨_,h,(er _ _).2 rfl⟩⟩
  unfold ga;by_cases e:u.port∈a
  .rw[ax (b.2 e)];obtain⟨h1,h2⟩:=wZ r a h;refine⟨h1,λp=>?_⟩;rw[h2,bP,dN];exact⟨λh=>h.elim .inl λh=>.inr (.inr h),λh=>h.elim .inl λh=>h.elim (λh=>.inl (by rw[h];exact e)) .inr⟩
  .rw[ap (λh=>e (b.1 h))];obtain⟨h1,h2⟩:=wZ r (a++[u.port]) (List.nodup_append.2 ⟨h,by simp,λx d y f c=>e (by rw[<-List.mem_singleton.1 f,<-c];exact d)⟩);refine⟨h1,λp=>?_⟩;rw[h2,bP,dN,jn,fY,or_assoc]
theorem yH:∀(l:List gP)(z:ay),iN Bo.app (l.map .adGd) z=some {z with guards:=z.guards++l}|[],z=>by simp[iN]|g::l,z=>by rw[bP,oN (b:={z with guards:=z.guards++[g]}) rfl,yH l];simp
theorem Em {x y z:ay}(h:z.guards=x.guards):iN Bo.app (tG x y) z=some {z with guards:=y.guards}:=by
 unfold tG;by_cases e:x.guards=y.guards
 .rw[ax ((fO sD _ _).2 e),<-e,<-h];rfl
 .rw[ap (λh=>e ((fO sD _ _).1 h))];obtain⟨h1,h2⟩:=wZ x.guards [] fF;have hr:=sj (λg:gP=>g.port) (ga [] x.guards) x.guards h1 λd a=>by simpa using(h2 d).1 a
  rw[List.filter_eq_nil_iff.2 λg c=>by have:g.port∈ga [] x.guards:=(h2 _).2 (.inr (dl c));simp[this]]at hr;rw[gL (ku (f:=Bo.app) Bo.noGd (·.guards) (λb l=>{b with guards:=l}) (λ_ _=>rfl) (λ_ _=>rfl) (λ_ _ _=>rfl) (λ_=>rfl) _ z [] (by rw[h];exact hr)),yH];rfl
theorem rG (o:dc):mp o.value o.len=λx=>decide (IP x=IP o):=by funext x;unfold mp IP;rw[eD];simp
theorem oH {A α β I:Type}[DecidableEq I]{f:β->A->Option A}(g:A->List α)(b:A->List α->A)(aw h:α->β)(c:α->I)(h1:∀d a,f (aw d) a=(jz (λx=>decide (c x=c d)) (g a)).map (b a))(h2:∀d a,f (h d) a=(addL (λx=>decide (c x=c d)) d (g a)).map (b a))(i:∀a p,g (b a p)=p)(j:∀a p q,b (b a p) q=b a q)(k:∀a,b a (g a)=a)(e:α->α)(u:∀x,c (e x)=c x)(same:α->α->Bool)(hs:∀x y,same x y=true↔e x=e y){l m:List α}{a:A}(z:(l.map c).Nodup)(nm:(m.map c).Nodup)(w:((g a).map e).Perm (l.map e)):∃n,iN f (pk same aw h l m) a=some (b a n)/\(n.map e).Perm (m.map e):=by obtain⟨p,n,o,r,t⟩:=Ih e c u same hs z nm w;refine⟨n,?_,t⟩;unfold pk;rw[gL (ku aw g b h1 i j k _ a p o),ku h g b h2 i j k _ (b a p) n (by rw[i];exact r),j]
theorem GQ {x y z:ay}(c:vL z x)(e:Na x)(g:Na y)(j:x.name=y.name):∃u,iN Bo.app (ya x y) z=some u/\vL u y:=by have h1:=G6 (y:=y) c.ins c.outs e.port g.port;have h2:=Em (x:=x) (y:=y) (z:={z with ins:=y.ins,outs:=y.outs}) c.grd;obtain⟨r,h3,k⟩:=oH (f:=Bo.app) (·.rules) (λb l=>{b with rules:=l}) (λr=>.noRl r.prio) .adRl (·.prio) (λ_ _=>rfl) (λ_ _=>rfl) (λ_ _=>rfl) (λ_ _ _=>rfl) (λ_=>rfl) zE (λ_=>rfl) (iy De) Ex (a:={z with ins:=y.ins,outs:=y.outs,guards:=y.guards}) e.rul g.rul c.rul;obtain⟨o,h,m⟩:=oH (f:=Bo.app) (·.owns) (λb l=>{b with owns:=l}) (λr=>.noOw r.value r.len) .adOw IP (λd a=>by rw[<-rG];rfl) (λd a=>by rw[<-rG];rfl) (λ_ _=>rfl) (λ_ _ _=>rfl) (λ_=>rfl) (λx=>x) (λ_=>rfl) fX yR (a:={z with ins:=y.ins,outs:=y.outs,guards:=y.guards,rules:=r}) e.own g.own (by simpa using c.own);obtain⟨q,i,n⟩:=oH (f:=Bo.app) (·.routes) (λb l=>{b with routes:=l}) (λr=>.noRt r.value r.len) .adRt IP (λd a=>by rw[<-rG];rfl) (λd a=>by rw[<-rG];rfl) (λ_ _=>rfl) (λ_ _ _=>rfl) (λ_=>rfl) (λx=>x) (λ_=>rfl) fX yR (a:={z with ins:=y.ins,outs:=y.outs,guards:=y.guards,rules:=r,owns:=o}) e.rou g.rou (by simpa using c.rou);refine⟨{z with ins:=y.ins,outs:=y.outs,guards:=y.guards,rules:=r,owns:=o,routes:=q},?_,c.nm.t j,rfl,rfl,rfl,k,by simpa using m,by simpa using n⟩;unfold ya;exact(gL ((gL ((gL ((gL h1).t h2)).t h3)).t h)).t i
def L2 {α β:Type}(R:α->β->Prop):List α->List β->Prop|[],[]=>True|x::l,y::m=>R x y/\L2 R l m|_,_=>False
theorem L2.app {α β:Type}{R:α->β->Prop}:∀{l:List α}{m:List β}{a:List α}{m':List β},L2 R l m->L2 R a m'->L2 R (l++a) (m++m')|[],[],_,_,_,h=>h|[],_::_,_,_,h,_=>h.elim|_::_,[],_,_,h,_=>h.elim|_::_,_::_,_,_,h,k=>⟨h.1,L2.app h.2 k⟩
theorem L2.refl {α:Type}{R:α->α->Prop}(h:∀x,R x x):∀l,L2 R l l|[]=>trivial|x::l=>⟨h x,L2.refl h l⟩
theorem L2.nms:∀{l m:List ay},L2 vL l m->l.map (·.name)=m.map (·.name)|[],[],_=>rfl|[],_::_,h=>h.elim|_::_,[],h=>h.elim|x::l,y::m,h=>by rw[bP,bP,h.1.nm,L2.nms h.2]
theorem L2.take {α β:Type}{R:α->β->Prop}:∀{l:List α}{m:List β}(k:Nat),L2 R l m->L2 R (l.take k) (m.take k)|[],[],_,_=>by simp[L2]|[],_::_,_,h=>h.elim|_::_,[],_,h=>h.elim|_::_,_::_,0,_=>trivial|_::_,_::_,k+1,h=>⟨h.1,L2.take k h.2⟩
structure wE (c d:bE):Prop where
 t:c.title=d.title
 f:c.fields=d.fields
 r:c.routing=d.routing
 s:c.slim=d.slim
 b:L2 vL c.boxes d.boxes
 l:c.links.Perm d.links
 x:c.slices.Perm d.slices
theorem wE.refl (c:bE):wE c c:=⟨rfl,rfl,rfl,rfl,L2.refl vL.rfl' _,.refl _,.refl _⟩
theorem Ko (s:Wz)(f:ay->Option ay)(z:ay)(c:z.name=s)(b:List ay):∀a:List ay,s∉a.map (·.name)->LJ s f (a++z::b)=(f z).map λu=>a++u::b|[],_=>by show(if z.name=s then _ else _)=_;rw[ax c];rfl|p::a,h=>by rw[bP,dN,P9]at h;show(if p.name=s then _ else(LJ s f (a++z::b)).map _)=_;rw[ap (Ne.symm h.1),Ko s f z c b a h.2];cases f z<;>rfl
theorem Pe {o:Bo}{z u:ay}(h:o.app z=some u):u.name=z.name:=by cases o;all_goals simp only[Bo.app]at h;first|(obtain⟨l,_,rfl⟩:=Option.map_eq_some_iff.1 h;rfl)|(split at h<;>cases h;rfl)|(cases h;rfl)
theorem FC (s:Wz)(a d:List ay)(hs:s∉a.map (·.name)):∀(e:List Bo)(c:bE)(z u:ay),z.name=s->iN Bo.app e z=some u->iN Ed.app (e.map (.at_ s)) {c with boxes:=a++z::d}=some {c with boxes:=a++u::d}/\u.name=s|[],c,z,u,hz,h=>by cases h;exact⟨rfl,hz⟩|o::e,c,z,u,hz,h=>by simp only[iN]at h;cases ho:o.app z with|none=>rw[ho]at h;cases h|some y=>rw[ho]at h;have f:=(Pe ho).t hz;obtain⟨h1,h2⟩:=FC s a d hs e c y u f h;refine⟨?_,h2⟩;rw[bP,oN (b:={c with boxes:=a++y::d}) (by show(LJ s o.app (a++z::d)).map _=_;rw[Ko s _ z hz d a hs,ho];rfl)];exact h1
theorem zr:∀(A B a b:List ay)(c:bE),L2 vL a (A.take (ja A B))->((b++a).map (·.name)).Nodup->(∀x∈A,Na x)->(∀x∈B,Na x)->∃us,iN Ed.app (((A.zip B).take (ja A B)).flatMap JN) {c with boxes:=b++a}=some {c with boxes:=b++us}/\L2 vL us (B.take (ja A B))/\us.map (·.name)=a.map (·.name)
 |[],B,a,b,c,h,_,_,_=>by
  have:ja [] B=0:=by cases B<;>rfl
  rw[this]at h⊢;cases a with|nil=>exact⟨[],rfl,trivial,rfl⟩|cons _ _=>exact h.elim
 |x::A,[],a,b,c,h,_,_,_=>by cases a with|nil=>exact⟨[],rfl,trivial,rfl⟩|cons _ _=>exact h.elim
 |x::A,y::B,a,b,c,h,hn,hA,hB=>by
  unfold ja at h⊢;by_cases e:x.name=y.name
  .rw[ax (by rw[dj,IN];exact e)]at h⊢;cases a with|nil=>exact h.elim|cons z a=>
   rw[iM]at h;obtain⟨d,h⟩:=h;obtain⟨u,h1,h2⟩:=GQ d (hA x bT) (hB y bT) e;have jf:x.name∉b.map (·.name):=λj=>by rw[bK,bP]at hn;exact(List.nodup_append.1 hn).2.2 _ j _ bT d.nm.symm
   obtain⟨h3,g⟩:=FC x.name b a jf (ya x y) c z u d.nm h1;have k:(((b++[u])++a).map (·.name)).Nodup:=by
    have i:((b++[u])++a).map (·.name)=(b++z::a).map (·.name):=by simp[g,d.nm]
    rw[i];exact hn
   obtain⟨us,m,n,o⟩:=zr A B a (b++[u]) c h k (λx f=>hA x (bU _ f)) λx f=>hB x (bU _ f);refine⟨u::us,?_,by rw[iM];exact⟨h2,n⟩,by rw[bP,bP,o,g,d.nm]⟩;rw[List.zip_cons_cons,iM,eJ];refine(gL (l:=JN (x,y)) h3).t ?_;simpa using m
  .rw[ap (λh=>e (by rw[dj,IN]at h;exact h))]at h⊢;cases a with|nil=>exact⟨[],rfl,trivial,rfl⟩|cons _ _=>exact h.elim
theorem Ci:∀(B a:List ay)(c:bE),((a++B).map (·.name)).Nodup->(∀x∈B,Na x)->∃us,iN Ed.app (B.flatMap ME) {c with boxes:=a}=some {c with boxes:=a++us}/\L2 vL us B
 |[],a,c,_,_=>⟨[],by simp[iN],trivial⟩|y::B,a,c,hn,hB=>by
  obtain⟨u,h1,h2⟩:=GQ (vL.rfl' (bare y)) (Na.bare y) (hB y bT) rfl;have jf:y.name∉a.map (·.name):=λj=>by rw[bK,bP]at hn;exact(List.nodup_append.1 hn).2.2 _ j _ bT rfl
  obtain⟨h3,g⟩:=FC y.name a [] jf (ya (bare y) y) c (bare y) u rfl h1;obtain⟨us,d,k⟩:=Ci B (a++[u]) c (by
   have f:((a++[u])++B).map (·.name)=(a++y::B).map (·.name):=by simp[g]
   rw[f];exact hn) λx b=>hB x (bU _ b);refine⟨u::us,?_,h2,k⟩;have i:(Ed.adBox y.name).app {c with boxes:=a}=some {c with boxes:=a++[bare y]}:=by show(addL _ _ a).map _=_;unfold addL;rw[ap (λh=>by obtain⟨x,b,e⟩:=List.any_eq_true.1 h;exact jf (List.mem_map.2 ⟨x,b,by simpa using e⟩))];rfl
  rw[eJ];unfold ME;rw[aW,oN i];refine(gL h3).t ?_;simp only[aH,eR]at d;exact d
theorem HY {α β:Type}[DecidableEq β](f:α->β)(l:List α)(k:Nat)(h:(l.map f).Nodup):l.filter (λx=>!decide (f x∈(l.drop k).map f))=l.take k:=by
 have e:l=l.take k++l.drop k:=(gS k l).symm;rw[e,bK,List.nodup_append]at h;conv=>lhs;arg 2;rw[e]
 rw[rL,List.filter_eq_self.2 λx a=>?_,List.filter_eq_nil_iff.2 λx a=>?_,aZ]
 .have:=dl (f:=f) a;intro h;rw[bz,bX]at h;exact h this
 .have:f x∉(l.drop k).map f:=λb=>h.2.2 _ (dl a) _ b rfl;simp only[bz,bX];exact this
theorem GI {a b c:bE}(g:Uq a)(e:Uq b)(ht:a.title=b.title)(hf:a.fields=b.fields)(hr:a.routing=b.routing)(hs:a.slim=b.slim)(h:wE c a):∃d,iN Ed.app (zK a b (ja a.boxes b.boxes)) c=some d/\wE d b:=by
 obtain⟨k,i⟩:∃k,k=ja a.boxes b.boxes:=⟨_,rfl⟩;have j:(c.boxes.map (·.name)).Nodup:=by rw[h.b.nms];exact g.nm
 have h1:iN Ed.app ((a.boxes.drop k).map (λx=>.noBox x.name)) c=some {c with boxes:=c.boxes.take k}:=by
  have o:(a.boxes.drop k).map (·.name)=(c.boxes.drop k).map (·.name):=by rw[Bv,Bv,h.b.nms]
  have:=sj (λx:ay=>x.name) ((c.boxes.drop k).map (·.name)) c.boxes (by rw[Bv];exact j.sublist (List.drop_sublist _ _)) λd m=>by rw[Bv]at m;exact eH m
  rw[HY _ _ _ j,<-o]at this;rw[show(a.boxes.drop k).map (λx:ay=>Ed.noBox x.name)=((a.boxes.drop k).map (·.name)).map Ed.noBox by rw[eh];rfl];exact ku (f:=Ed.app) Ed.noBox (·.boxes) (λc l=>{c with boxes:=l}) (λ_ _=>rfl) (λ_ _=>rfl) (λ_ _ _=>rfl) (λ_=>rfl) _ c _ this
 obtain⟨us,h2,h3,B⟩:=zr a.boxes b.boxes (c.boxes.take k) [] c (by rw[<-i];exact h.b.take k) (by rw[ag,List.map_take];exact j.sublist (List.take_sublist _ _)) g.box e.box;rw[<-i]at h2 h3;have w:((us++b.boxes.drop k).map (·.name)).Nodup:=by rw[bK,h3.nms,<-bK,gS];exact e.nm
 obtain⟨vs,p,q⟩:=Ci (b.boxes.drop k) us c w λx u=>e.box x (eH u);obtain⟨n,r,y⟩:=oH (f:=Ed.app) (·.links) (λc l=>{c with links:=l}) (λx=>.noLk x.frm) .adLk (·.frm) (λ_ _=>rfl) (λ_ _=>rfl) (λ_ _=>rfl) (λ_ _ _=>rfl) (λ_=>rfl) (λx=>x) (λ_=>rfl) ij Ey (a:={c with boxes:=us++vs}) g.lnk e.lnk (by simpa using h.l);obtain⟨A,t,z⟩:=oH (f:=Ed.app) (·.slices) (λc l=>{c with slices:=l}) (λx=>.noSl x.name) .adSl (·.name) (λ_ _=>rfl) (λ_ _=>rfl) (λ_ _=>rfl) (λ_ _ _=>rfl) (λ_=>rfl) (λx=>x) (λ_=>rfl) gp C6 (a:={c with boxes:=us++vs,links:=n}) g.slc e.slc (by simpa using h.x);refine⟨{c with boxes:=us++vs,links:=n,slices:=A},?_,h.t.t ht,h.f.t hf,h.r.t hr,h.s.t hs,?_,by simpa using y,by simpa using z⟩
 .rw[<-i];unfold zK;exact(gL ((gL ((gL h1).t h2)).t p)).t ((gL r).t t)
 .have:=h3.app q;rwa[gS]at this
end Go.Proofs.YtgfgoaeaicefcaaGreatDoor
