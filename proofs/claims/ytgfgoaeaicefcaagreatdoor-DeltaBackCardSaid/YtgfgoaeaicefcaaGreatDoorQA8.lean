/- Part of DeltaBack. -/
import Derived.Test.YtgfgoaeaicefcaaGreatDoorQA4
set_option maxHeartbeats 16000000
set_option maxRecDepth 100000
set_option linter.all false
namespace Go.Proofs.YtgfgoaeaicefcaaGreatDoor
open Go.RowKit Tryz
variable {w:Wq}{e:TypeId}{base size n:Nat}{v:Value}{xs:List Value}
def uK (c:UInt8):Bool:=c.toNat==48||c.toNat==49||c.toNat==120
def BB (l:bM):Bool:=l.all uK&&(decide (0<l.length)&&decide (l.length<=32))
theorem DA (s:Wz)(p:Nat)(h:p<s.size):((Utf8.decode s p).1=48\/(Utf8.decode s p).1=49\/(Utf8.decode s p).1=120)↔uK s[p]=true:=by
 by_cases ha:(s[p]'h).toNat<128
 .rw[Hn s p h ha];simp[uK];omega
 .have h1:=(decode_high s p h (by omega)).1;simp only[uK,fH,dj];omega
theorem zL (s:Wz)(p:Nat)(h:p<s.size)(ht:uK s[p]=true):(Utf8.decode s p).2=1:=by
 have b:(s[p]'h).toNat<128:=by simp only[uK,fH,dj]at ht;omega
 rw[Hn s p h b]
theorem Cc (s:Wz)(hs:s.size<=9223372036854775807)(w:Wq):Calls prog 211 #[.string s] w λe w'=>e=.returned (.bool (BB (bs s)))/\JJ w w':=by
 go_enter func211,ntmps211;go_wp2_with fail;go_loopw [] (λwr=>∃p:Nat,p<=s.size/\wr=w.iter s p/\Hid ((bs s).all uK=((bs s).drop p).all uK))(λwr=>s.size-wr.iterPos w.heap.size);case atStart=>exact⟨0,by omega,rfl,Hi rfl⟩
 case round=>
  obtain⟨p,t,rfl,hr⟩:=hrel;by_cases jk:p<s.size
  .have i:=λty=>run_next_any (P:=prog) w s p ty jk;have d:=Hi (DA s p jk);have g:=qd s p jk;have j9:=Hi (World.iterPos_iter w s p);by_cases ht:uK s[p]=true
   .have j:=zL s p jk ht;rw[j]at i;have f:=Hi (show(bs s).all uK=((bs s).drop (p+1)).all uK by rw[hr.o,jh s p jk,eC,ht];rfl);have b:=d.o.2 ht;clear d hr g j ht;generalize(Utf8.decode s p).1=c at*;have k:=Hi (World.iterPos_iter w s (p+1));rcases b with b|b|b;all_goals
     subst b;go_wp2_with fail;go_roundw;case rel=>exact⟨p+1,by omega,rfl,f⟩
     case measure=>rw[j9.o,k.o];omega
   .have b:¬((Utf8.decode s p).1=48\/(Utf8.decode s p).1=49\/(Utf8.decode s p).1=120):=λh=>ht (d.o.1 h);have H:=Hi (show BB (bs s)=false by unfold BB;rw[hr.o,jh s p jk,eC,show uK s[p]=false by simpa using ht];rfl);have u:=Hi (World.iter_extends w s (p+(Utf8.decode s p).2));clear d hr g ht;generalize(Utf8.decode s p).1=c at*;have l:((c:Int) !=48)=true:=by rw[rF];intro h;exact b (.inl (by omega))
    have m:((c:Int) !=49)=true:=by rw[rF];intro h;exact b (.inr (.inl (by omega)))
    have q:((c:Int) !=120)=true:=by rw[rF];intro h;exact b (.inr (.inr (by omega)))
    clear b;go_wp2_with fail;go_ret;exact⟨en H.o.symm,Jz.alloc Jq _⟩
  .have i:=λty=>run_next_end (P:=prog) w s p ty jk;have f:=Hi (show(bs s).all uK=true by rw[hr.o,iL s p jk];rfl);clear hr;by_cases hz:s.size=0
   .have H:=Hi (show BB (bs s)=false by unfold BB;rw[dM,aM (show¬0<s.size by omega)];simp);obtain rfl:=Ae s hz;go_wp2_with fail;go_ret;exact⟨en H.o.symm,Jz.alloc Jq _⟩
   .have r:=jw s hz;have H:=Hi (show BB (bs s)=decide ((s.size:Int)<=32)by unfold BB;rw[f.o,dM,aV (show 0<s.size by omega)];simp only[az];congr 1;exact propext ⟨λh=>by omega,λh=>by omega⟩);go_wp2_with fail;go_ret;exact⟨en H.o.symm,Jz.alloc Jq _⟩
theorem Hp {c:UInt8}(h:i7 c=true):iG c=true:=by unfold i7 at h;unfold iG jN fC ie gX;simp only[fH,dj]at h;simp only[fH,bC];omega
theorem E9 {a b:Wz}(h:bs a=bs b):a=b:=by rw[<-AQ a,h,AQ]
theorem vu {s t:Wz}{r:bM}(h:bs s=bs t++r):s.extract 0 t.size=t:=E9 (by rw[GP,h];exact my)
def mR (s:Wz):List Wz->Nat|[]=>0|g::r=>if g.size<=s.size/\s.extract 0 g.size=g then g.size else mR s r
theorem xQ (s:Wz):∀l,mR s l=CP (bs s) l
 |[]=>rfl|g::r=>by
  unfold mR CP;rw[xQ s r];have:(g.size<=s.size/\s.extract 0 g.size=g)↔(bs g).isPrefixOf (bs s)=true:=by
   rw[List.isPrefixOf_iff_prefix];constructor
   .rintro⟨_,h2⟩;refine⟨(bs s).drop g.size,?_⟩;conv=>lhs;arg 1;rw[<-h2,GP]
    exact gS _ _
   .rintro⟨q,b⟩;refine⟨?_,vu b.symm⟩;have:=congrArg List.length b;rw[aC,dM,dM]at this;omega
  by_cases h:g.size<=s.size/\s.extract 0 g.size=g
  .rw[ax h,ax (this.1 h)]
  .rw[ap h,ap λe=>h (this.2 e)]
theorem EL (W:Wq)(k:Nat)(g:Wz)(h:gx[k]?=some g):(Instr.index 252 (.agg Ax) (I6 k)).run prog W=.ok (.string g) W:=by
 have c:k<16:=(List.getElem?_eq_some_iff.1 h).1;have b:g=gx.getD k ByteArray.empty:=by rw[LL,h];rfl
 subst b;clear h;have:k=0\/k=1\/k=2\/k=3\/k=4\/k=5\/k=6\/k=7\/k=8\/k=9\/k=10\/k=11\/k=12\/k=13\/k=14\/k=15:=by omega
 rcases this with rfl|rfl|rfl|rfl|rfl|rfl|rfl|rfl|rfl|rfl|rfl|rfl|rfl|rfl|rfl|rfl<;>(show _=_;kernel_rfl)
theorem uQ (k:Nat)(g:Wz)(h:gx[k]?=some g):1<=g.size/\g.size<=2:=by
 have c:k<16:=(List.getElem?_eq_some_iff.1 h).1;have b:g=gx.getD k ByteArray.empty:=by rw[LL,h];rfl
 subst b;clear h;have:k=0\/k=1\/k=2\/k=3\/k=4\/k=5\/k=6\/k=7\/k=8\/k=9\/k=10\/k=11\/k=12\/k=13\/k=14\/k=15:=by omega
 rcases this with rfl|rfl|rfl|rfl|rfl|rfl|rfl|rfl|rfl|rfl|rfl|rfl|rfl|rfl|rfl|rfl<;>decide
def K9 (w:Wq)(k:Int)(n:Nat)(e:Ending)(w':Wq):Prop:=e=.returned (.tuple #[I6 k,I6 n,I6 0,I6 0])/\JJ w w'
theorem JM {k:Int}{t s:Wz}{r:bM}(h:K2 k t r)(hs:bs s=bs t++r)(hz:s.size<4294967281)(w:Wq)(E:gu w):Calls prog 132 #[.string s] w (K9 w k t.size):=by
 have j:=Hi (ll s 0 w (by omega) (by omega) (by omega));rw[show(bs s).drop (0:Int).toNat=bs s from rfl]at j;have H:=Hi E;have m:=vu hs;clear E;have h1:(dA (bs s)=5/\rW (bs s)=q4 k t.size 0 0)\/(k=4/\dA (bs s)=6/\gA (bs s)=t.size/\∃v,mq (bs t) v)\/(k=5/\dA (bs s)=7/\ck (bs (s.extract 1 s.size))+1=t.size/\BB (bs (s.extract 1 t.size))=true)\/(k=7/\dA (bs s)=0/\t.size=mR s gx/\t.size≠0):=by
  rw[hs,xQ,hs];cases h with|name a b=>exact .inl (Fy a b)|port p q a b e c=>rw[show t.size=(bs t).length from rfl,e];exact .inl (Fx a b c)|num v a b=>exact .inr (.inl ⟨rfl,(BG a b).1,(BG a b).2,v,a⟩)|@pat p r a b c d=>
    have O:bs (s.extract 1 s.size)=bs p++r:=by rw[td,hs,bY,dG];rfl
    have S:ck (bs p++r)=p.size:=by rw[lZ _ _ λx m=>Hp (List.all_eq_true.1 c x m),(oK d).1];rfl
    refine .inr (.inr (.inl ⟨rfl,by rw[bY,dG];rfl,by rw[O,S,aJ,bn,Dv];rfl,?_⟩));have P:bs (s.extract 1 (ba [37]++p).size)=bs p:=by rw[lJ,hs,bY,dG,aJ,bn,fV];show(bs p++r).take (1+p.size-1)=bs p;rw[eu];exact my
    rw[P];unfold BB;rw[dM];simp only[aS,bC];exact⟨c,by omega,b⟩|sign a b=>obtain⟨i,hi⟩:=fg a;exact .inr (.inr (.inr ⟨rfl,(BF a b).2,(BF a b).1.symm,by have:=(uQ i _ hi).1;omega⟩))
 rcases h1 with⟨L,f⟩|⟨rfl,M,f,v,I⟩|⟨rfl,B,f,D⟩|⟨rfl,k0,G,X⟩
 .have c1:=zB s w (by omega);rw[f]at c1;have c1:=Hi c1;rw[L]at j;clear L f h hs m;go_enter func132,ntmps132;go_wp2_with(first|(go_at_call 131;refine j.o.mono ?_;rintro e l ⟨rfl,rfl⟩)|(go_at_call 207;refine c1.o.mono ?_;rintro e l ⟨rfl,rfl⟩;unfold V4));((try simp only[Exit.inBlock,Exit.then]);refine dJ (jC rfl _ _ _) rfl ?_);exact⟨rfl,aB _ _⟩
 .have c1:=Hi (zG s w (by omega));rw[f]at c1;rw[M]at j;have Z:t.size<=s.size:=by have:=congrArg List.length hs;rw[aC,dM,dM]at this;omega
  have c2:=Hi (λw E=>zw t I (by omega) w E);rw[<-m]at c2;clear M f h hs m I;generalize t.size=n at*;go_enter func132,ntmps132;go_wp2_with(first|(go_at_call 131;refine j.o.mono ?_;rintro e l ⟨rfl,rfl⟩)|(go_at_call 208;refine c1.o.mono ?_;rintro e l ⟨rfl,rfl⟩)|(go_at_call 209;refine(c2.o _ H.o).mono ?_;rintro e l ⟨rfl,C⟩));((try simp only[Exit.inBlock,Exit.then]);refine dJ (jC rfl _ _ _) rfl ?_);exact⟨rfl,C⟩
 .have U:=iC s 1 s.size;have Y:(s.extract 1 s.size).size=s.size-1:=by rw[gD];omega
  have c1:=Hi (pa (s.extract 1 s.size) w (by omega));have Z:ck (bs (s.extract 1 s.size))<=s.size-1:=by have:=oh (bs (s.extract 1 s.size));rw[dM]at this;omega
  have h1:1<=s.size:=by refine B2 λe=>?_;rw[List.length_eq_zero_iff.1 (show(bs s).length=0 from e)]at B;cases B
  rw[B]at j;generalize ck (bs (s.extract 1 s.size))=n at*;rw[<-f,Dv n 1]at D;have V:=iC s 1 (1+n);have c2:=Hi (λw=>Cc (s.extract 1 (1+n)) (by omega) w);rw[D]at c2;have f:=Hi f;clear U V Y B h hs m D;go_enter func132,ntmps132;go_wp2_with(first|(go_at_call 131;refine j.o.mono ?_;rintro e l ⟨rfl,rfl⟩)|(go_at_call 210;refine c1.o.mono ?_;rintro e l ⟨rfl,rfl⟩)|(go_at_call 211;refine(c2.o _).mono ?_;rintro e l ⟨rfl,C⟩));((try simp only[Exit.inBlock,Exit.then]);refine dJ (jC rfl _ _ _) rfl ?_);exact⟨by rw[<-f.o];simp[Int.add_comm],C⟩
 rw[k0]at j;replace G:=Hi G;clear k0 h hs m;obtain⟨tt,R,A⟩:=H.o.signs;have J:=Hi EL;obtain⟨z,F⟩:∃z,z=Ax:=⟨_,rfl⟩;have jm:(prog.info? 252).map (·.size)=some z.size:=by rw[F];kernel_rfl
 rw[<-F]at A J;have jm:=Hi jm;have A:=Hi A;clear F;go_enter func132,ntmps132;go_wp2_with fail;refine j.o.mono ?_;rintro e l ⟨rfl,rfl⟩;go_wp2_with(refine wpList_load_row rfl 252 _ rfl 2 rfl tt z R _ A.o underlying252 rfl jm.o ?_);go_loop [66] (λi=>∃k:Nat,k<=16/\i=I6 k/\Hid (t.size=mR s (gx.drop k)))(λi=>16-(intOf i).toNat);case atStart=>exact⟨0,by omega,rfl,G⟩
 case round=>
  obtain⟨k,hk,rfl,hr⟩:=hrel;by_cases jk:k<16
  .obtain⟨g,j8⟩:∃g,gx[k]?=some g:=⟨_,aF (show k<gx.length from jk)⟩;have hix:=λW=>J.o W k g j8;obtain⟨hg1,hg2⟩:=uQ k g j8;have u:=Hi (hr.o.t (show mR s (gx.drop k)=if g.size<=s.size/\s.extract 0 g.size=g then g.size else mR s (gx.drop (k+1))by rw[fP j8];rfl));clear hr j8;by_cases hge:g.size<=s.size
   .by_cases jy:s.extract 0 g.size=g
    .have y:=Hi (u.o.t (ax ⟨hge,jy⟩));have N:((s.extract 0 g.size).toList==g.toList)=true:=by rw[jy];simp
     have jy:=Hi jy;clear u;go_wp2_with fail;((try simp only[Exit.inBlock,Exit.then]);refine dJ (jC rfl _ _ _) rfl ?_);rw[y.o];exact⟨rfl,aB _ _⟩
    .have y:=Hi (u.o.t (ap (λh=>jy h.2)));have N:((s.extract 0 g.size).toList==g.toList)=false:=by rw[dU];intro h;apply jy;rw[ab,ab]at h;exact WideShapes.bytes_inj h
     clear u jy;go_wp2_with fail;go_round;case rel=>exact⟨k+1,by omega,by go_num,y⟩
     case measure=>simp[intOf];omega
   .have y:=Hi (u.o.t (ap (λh=>hge h.1)));clear u;go_wp2_with fail;go_round;case rel=>exact⟨k+1,by omega,by go_num,y⟩
    case measure=>simp[intOf];omega
  .exact absurd (hr.o.t (by rw[fB (show¬k<gx.length from jk)];rfl)) X
def Exit.jumps (J:Nat->Act->Wq->Prop)(Q:Exit->Act->Wq->Prop):Exit->Act->Wq->Prop|.goto l,a,w=>J l a w|e,a,w=>Q e a w
theorem yz {P:Program}{a:Act}{Q:Exit->Act->Wq->Prop}{c:Code}(J:Nat->Act->Wq->Prop)(μ:Nat->Act->Wq->Nat)(t:∀l a w,J l a w->∃jj,findLabel c l=some jj/\jj.wp P (Exit.jumps (λh i w'=>J h i w'/\μ h i w'<μ l a w) Q) a w)(first:c.wp P (Exit.jumps J Q) a w):(Code.scope c).wp P Q a w:=by
 intro b k m;have C:∀n l a w,μ l a w=n->J l a w->∀jj,findLabel c l=some jj->∃e i w',Q e i w'/\Arrives P (lone (b.at a (.code jj::.inScope c::k)) m w) b k m e i w':=by intro n;induction n using Nat.strongRecOn with|_ n ih=>intro l a w D A jj hr;obtain⟨E,y,B⟩:=t l a w A;rw[hr]at y;cases y;obtain⟨e,d,f,g,jf⟩:=B b (.inScope c::k) m;cases e with|normal=>exact⟨.normal,d,f,g,Steps.trans jf (.one step_inScope)⟩|exit id=>exact⟨.exit id,d,f,g,λs r=>jf s (by simp[exitTo,r])⟩|goto h=>obtain⟨z,jk⟩:=g;obtain⟨jn,j,_⟩:=t h d f z;obtain⟨q,p,x,u,jl⟩:=ih _ (by omega) h d f rfl z jn j;exact⟨q,p,x,u,.of_steps (jf _ (by simp[gotoIn,j])) jl⟩|ret=>exact⟨_,d,f,g,jf⟩|panic ch=>exact⟨_,d,f,g,jf⟩|outgrown=>exact⟨_,d,f,g,jf⟩
 obtain⟨e,d,f,g,jf⟩:=first b (.inScope c::k) m;cases e with|normal=>exact⟨.normal,d,f,g,.head xN (Steps.trans jf (.one step_inScope))⟩|exit id=>exact⟨.exit id,d,f,g,λs r=>.head xN (jf s (by simp[exitTo,r]))⟩|goto h=>obtain⟨jn,j,_⟩:=t h d f g;obtain⟨q,p,x,u,jl⟩:=C _ h d f rfl g jn j;exact⟨q,p,x,u,.of_steps (.head xN (jf _ (by simp[gotoIn,j]))) jl⟩|ret=>exact⟨_,d,f,g,.of_steps (.one xN) jf⟩|panic ch=>exact⟨_,d,f,g,.of_steps (.one xN) jf⟩|outgrown=>exact⟨_,d,f,g,.of_steps (.one xN) jf⟩
theorem xE {P:Program}{a:Act}{Q:Exit->Act->Wq->Prop}{c:Code}(J:Nat->Act->Wq->Prop)(μ:Nat->Act->Wq->Nat)(g:∀l a w,J l a w->∃y,findLabel c l=some (Code.seq .skip y)/\y.wp P (Exit.jumps (λf b w'=>J f b w'/\μ f b w'<μ l a w) Q) a w)(first:(∀l a w,J l a w->∃y,findLabel c l=some (Code.seq .skip y)/\y.wp P (Exit.jumps J Q) a w)->c.wp P (Exit.jumps J Q) a w):(Code.scope c).wp P Q a w:=yz J μ (λl a w h=>let⟨y,hy,hw⟩:=g l a w h;⟨_,hy,wp_seq (wp_skip hw)⟩) (first λl a w h=>let⟨y,hy,hw⟩:=g l a w h;⟨y,hy,Code.wp_mono (λe b w' d=>by cases e<;>first|exact d|exact d.1) hw⟩)
theorem qE {w':Wq}(h:w.ownsRow base e size v n xs)(d:∀g,v.ownBlock=some g->w'.heap[g]?=w.heap[g]?):w'.ownsRow base e size v n xs:=by
 obtain⟨h1,h2⟩:=h;refine⟨h1,?_⟩;rcases h2 with h2|⟨g,cap,f,rfl,b,c,r⟩
 .exact .inl h2
 .exact .inr ⟨g,cap,f,rfl,b,(d g rfl).t c,r⟩
theorem aU {w':Wq}(h:w.ownsRow base e size v n xs)(b:JJ w w'):w'.ownsRow base e size v n xs:=qE h λg c=>b.block g (h.lt g c).2
structure qZ (T e:TypeId)(size bytes:Nat):Prop where
 ht:prog.underlying T=some (.slice e)hi:∃i z,prog.info? e=some i/\i.zero=some z/\i.size=size/\i.bytes=bytes/\z.cells.size=size
 hs:0<size
theorem qZ.mk' {T:TypeId}{bytes:Nat}{z:Value}(ht:prog.underlying T=some (.slice e))(hi:(prog.info? e).map (λi=>(i.zero,i.size,i.bytes))=some (some z,size,bytes))(c:z.cells.size=size)(hs:0<size):qZ T e size bytes:=by obtain⟨d,h1,h2,h3,b⟩:=mc hi;exact⟨ht,⟨d,z,h1,h2,h3,b,c⟩,hs⟩
section
variable {T e:TypeId} {size bytes:Nat} {w:Wq} {ops:Array Oper} {jj:List Oper} {o:Oper} {a:Act} {Q:Exit→Act→Wq→Prop} {K:Act→Wq→Prop} {EE:Prop}
def K7 (w:Wq)(base:Nat)(e:TypeId)(size n:Nat)(v:Value)(xs us:List Value)(H:Nat)(u:Value)(w':Wq):Prop:=∃g cap,u=.slice (some ⟨g,0,none⟩) (n+1) cap/\w'.ownsRow base e size u (n+1) (xs++us)/\w.grownBy w' v.ownBlock/\Below base w w'/\(v.ownBlock=some g\/g=H+1)/\g<w'.heap.size
theorem Lv (E:qZ T e size bytes)(m:o.guard=none)(s x:Operand)(t:o.op=.call {callee:=.builtin .append,args:=#[s,x],argTypes:=#[T,T]})(base n:Nat)(v:Value)(xs:List Value)(hs:a.eval s=v)(c:w.ownsRow base e size v n xs)(H:Nat)(us:List Value)(F:us.length=size)(j:w.heap[H]?=some (.cells us.toArray e (0,0)))(B:w.heap.size=H+1)(A:a.eval x=.slice (some ⟨H,0,none⟩) 1 1)(y:∀u∈us,u.oneCell'=true)(q:(n+1)*bytes<=140737488355328)(r:n+1<=maxLen)(b:base<=w.heap.size)(l:∀u w',K7 w base e size n v xs us H u w'->wpList prog ops Q jj (a.put o.dst u) w'):wpList prog ops Q (o::jj) a w:=by obtain⟨i,z,h1,h2,h3,f,h⟩:=E.hi;refine wpList_append_lies _ m s x T t base e i z size bytes E.ht h1 h2 h3 f h E.hs v n xs hs c ⟨H,0,none⟩ 1 1 us A (by omega) (World.news_of_block j) y (by decide) r q b (H+1) B ?_;intro g cap w' D d C jk;exact l _ w' ⟨g,cap,rfl,D,d,(aB base w).grown d b (λk p=>(c.lt k p).1),C,jk⟩
theorem ic (E:qZ T e size bytes)(m:o.guard=none)(s x:Operand)(t:o.op=.call {callee:=.builtin .append,args:=#[s,x],argTypes:=#[T,T]})(base n:Nat)(v:Value)(xs:List Value)(hs:a.eval s=v)(c:w.ownsRow base e size v n xs)(H:Nat)(us:List Value)(F:us.length=size)(j:w.heap[H]?=some (.cells us.toArray e (0,0)))(B:w.heap.size=H+1)(A:a.eval x=.slice (some ⟨H,0,none⟩) 1 1)(y:∀u∈us,u.oneCell'=true)(q:(n+1)*bytes<=140737488355328)(r:n+1<=maxLen)(b:base<=w.heap.size)(l:∀u w',K7 w base e size n v xs us H u w'->K (a.put o.dst u) w'):if Region.wanted o (yielded ops a.tmps)=true then Oper.wp prog o a w K Q else EE:=by obtain⟨i,z,h1,h2,h3,f,h⟩:=E.hi;refine step_append_lies _ m s x T t base e i z size bytes E.ht h1 h2 h3 f h E.hs v n xs hs c ⟨H,0,none⟩ 1 1 us A (by omega) (World.news_of_block j) y (by decide) r q b (H+1) B ?_;intro g cap w' D d C jk;exact l _ w' ⟨g,cap,rfl,D,d,(aB base w).grown d b (λk p=>(c.lt k p).1),C,jk⟩
end
theorem Nx:qZ 48 127 2 24:=qZ.mk' underlying48 (z:=.agg #[.string ByteArray.empty,I6 0]) (by kernel_rfl) rfl (by decide)
theorem uj:qZ 40 96 3 32:=qZ.mk' underlying40 (z:=.agg #[I6 0,I6 0,.string ByteArray.empty]) (by kernel_rfl) rfl (by decide)
theorem nf:qZ 38 121 3 48:=qZ.mk' underlying38 (z:=.agg #[.string ByteArray.empty,.bool false,.slice none 0 0]) (by kernel_rfl) rfl (by decide)
theorem BT:qZ 24 62 3 40:=qZ.mk' underlying24 (z:=.agg #[.string ByteArray.empty,.string ByteArray.empty,I6 0]) (by kernel_rfl) rfl (by decide)
theorem yS:qZ 23 42 7 160:=qZ.mk' underlying23 (z:=.agg #[.string ByteArray.empty,.slice none 0 0,.slice none 0 0,.slice none 0 0,.slice none 0 0,.slice none 0 0,.slice none 0 0]) (by kernel_rfl) rfl (by decide)
theorem wk:qZ 25 68 3 64:=qZ.mk' underlying25 (z:=.agg #[.string ByteArray.empty,.slice none 0 0,.slice none 0 0]) (by kernel_rfl) rfl (by decide)
theorem BS:qZ 39 50 5 104:=qZ.mk' underlying39 (z:=.agg #[I6 0,.slice none 0 0,.slice none 0 0,.slice none 0 0,.slice none 0 0]) (by kernel_rfl) rfl (by decide)
theorem gG:qZ 29 9 1 16:=qZ.mk' underlying29 (z:=.string ByteArray.empty) (by kernel_rfl) rfl (by decide)
theorem M2:qZ 22 37 2 24:=qZ.mk' underlying22 (z:=.agg #[.string ByteArray.empty,I6 0]) (by kernel_rfl) rfl (by decide)
theorem PC:qZ 47 46 8 80:=qZ.mk' underlying47 (z:=.agg #[I6 0,.string ByteArray.empty,I6 0,I6 0,I6 0,I6 0,I6 0,.string ByteArray.empty]) (by kernel_rfl) rfl (by decide)
theorem dQ {b:Nat}(h:w.ownsRow base e b v n xs):∃A c,v=.slice A n c:=by
 rcases h.2 with⟨rfl,rfl⟩|⟨g,cap,d,rfl,_⟩
 .exact⟨none,0,rfl⟩
 .exact⟨_,cap,rfl⟩
end Go.Proofs.YtgfgoaeaicefcaaGreatDoor
