/- Part of DeltaBack. -/
import Derived.Test.YtgfgoaeaicefcaaGreatDoorQA3
import Derived.Lib.SplitLaws
set_option maxHeartbeats 16000000
set_option maxRecDepth 100000
set_option linter.all false
namespace Go.Proofs.YtgfgoaeaicefcaaGreatDoor
open Go.RowKit Tryz
variable {w a:Wq}{M:Nat}{v:Int}
theorem G8 (s d:Wz)(w:Wq)(hs:s.size<=9223372036854775807)(i:d.size<4294967281)(h:∀(j:Nat) b,d.data.toList[j]?=some b->b.toNat<128):Calls prog 315 #[.string s,.string d] w λe w'=>e=.returned (.bool (mn (bs s) (bs d)))/\JJ w w':=by have c:=Hi (Any.strings_Trim_laid lays160 (by kernel_rfl) s d w hs i h);have g:Hid ((Lib.trimS s.data.toList d.data.toList=[])↔mn (bs s) (bs d)=true):=Hi (zV _ _);generalize Lib.trimS s.data.toList d.data.toList=q at*;generalize mn (bs s) (bs d)=r at*;go_enter func315,ntmps315;go_wp2_with fail;refine c.o.mono ?_;rintro e w' ⟨rfl,f⟩;clear c;cases q with|nil=>have:r=true:=g.o.1 rfl;subst this;go_wp2;go_ret;exact⟨rfl,f⟩|cons x q=>
 have:r=false:=by cases r with|false=>rfl|true=>exact absurd (g.o.2 rfl) (by simp)
 subst this;go_wp2;go_ret;exact⟨rfl,f⟩
theorem G7 (s:Wz)(w:Wq)(hs:s.size<=9223372036854775807):Calls prog 315 #[.string s,.string ⟨#[48,49,50,51,52,53,54,55,56,57]⟩] w λe w'=>e=.returned (.bool (mn (bs s) tS))/\JJ w w':=G8 s ⟨#[48,49,50,51,52,53,54,55,56,57]⟩ w hs (by decide) (ascii_of_all (by decide))
theorem mF {o:Option Nat}{b:Bool}(h:qF o=.tuple #[I6 v,.bool b]):Ending.returned (.tuple #[I6 v,.bool b])=.returned (qF o):=by rw[h]
theorem Ae (s:Wz)(h:s.size=0):s=ByteArray.empty:=by cases s with|mk d=>simpa using h
theorem vw (s:Wz)(b:Int)(w:Wq)(hs:s.size<=9223372036854775807)(h0:0<=b)(h1:b<=9223372036854775807):Calls prog 278 #[.string s,I6 b] w λe w'=>e=.returned (qF (pI (bs s) b.toNat))/\JJ w w':=by
 by_cases hz:s.size=0
 .have H:=Hi (show qF (pI (bs s) b.toNat)=.tuple #[I6 0,.bool false]by rw[Ae s hz];rfl);obtain rfl:=Ae s hz;go_enter func278,ntmps278;go_wp2;go_ret2;exact⟨mF H.o,aB _ _⟩
 have n:=jw s hz;by_cases hl:10<s.size
 .have H:=Hi (show qF (pI (bs s) b.toNat)=.tuple #[I6 0,.bool false]by unfold pI;rw[ax (.inr (by rw[dM];exact hl))];rfl);go_enter func278,ntmps278;go_wp2;go_ret2;exact⟨mF H.o,aB _ _⟩
 have jm:¬(bs s=[]\/10<(bs s).length):=by
  rintro(h|h)
  .exact hz (by rw[<-dM,h];rfl)
  .rw[dM]at h;omega
 have c1:=Hi (G7 s w hs);have d:=Hi (show pI (bs s) b.toNat=if mn (bs s) tS=false then none else if(bs s).head?=some 48/\bs s≠[48]then none else if b.toNat<lI (bs s)then none else some (lI (bs s))by rw[pI,ap jm]);have g:=Hi (show mn (bs s) tS=true->(bs s).all fC=true from λh=>by unfold mn at h;rw[<-h];congr 1;funext c;exact(DB c).symm);have l:=Hi (show bs s≠[]from λh=>jm (.inl h));clear jm;by_cases hA:mn (bs s) tS=true
 .rw[hA]at c1 d;have g:=Hi (g.o hA);clear hA;have y:0<s.size:=by omega
  have i:=Hi (show bs s=s[0]::(bs s).drop 1 from by simpa using jh s 0 y);have k:=Hi (strconv_Atoi s (lI (bs s)) (by omega) (Km _ l.o g.o));have D:lI (bs s)<10000000000:=Ho _ g.o (by rw[dM];omega);have d:=Hi (d.o.t (ap (by simp)));by_cases hlead:s[0].toNat=48/\s.size≠1
  .obtain⟨jy,p⟩:=hlead;have H:=Hi (show qF (pI (bs s) b.toNat)=.tuple #[I6 0,.bool false]by rw[d.o,ax ⟨by rw[i.o];simp[<-UInt8.toNat_inj,jy],λe=>p (by rw[<-dM,e];rfl)⟩];rfl);have F:(s.toList==[48])=false:=by
    rw[dU];intro e;apply p;have t:bs s=[48]:=by rw[<-e];exact(ab s).symm
    rw[<-dM,t];rfl
   have E:((s[0].toNat:Int)==48)=true:=by simp;omega
   clear d jy k i g l;go_enter func278,ntmps278;go_wp2_with(go_at_call 315;refine c1.o.mono ?_;rintro e w' ⟨rfl,f⟩);go_ret2;exact⟨mF H.o,f⟩
  .have d:=Hi (d.o.t (ap (show¬((bs s).head?=some 48/\bs s≠[48])by rintro⟨j,z⟩;rw[i.o]at j;simp only[List.head?_cons,j8]at j;apply hlead;refine⟨by rw[j];rfl,λh1=>z ?_⟩;rw[i.o,j,nC (by rw[dM];omega)])));have o:((s[0].toNat:Int)==48)=false\/(((s[0].toNat:Int)==48)=true/\(s.toList==[48])=true):=by
    by_cases jy:s[0].toNat=48
    .refine .inr ⟨by simp;omega,?_⟩;rw[dj,ab];show bs s=[48];have h1:s.size=1:=by
      by_cases h1:s.size=1
      .exact h1
      .exact absurd ⟨jy,h1⟩ hlead
     rw[i.o,nC (by rw[dM];omega),(UInt8.toNat_inj.1 (by rw[jy];rfl):s[0]=48)]
    .exact .inl (by simp;omega)
   have q:=Hi (λw=>(k.o w).mono (R':=λe w'=>e=.returned (.tuple #[I6 (lI (bs s)),.nilIface])/\JJ w w') (λe w' ⟨n,u,hu⟩=>⟨n,by rw[hu];exact wD _ _ _⟩));clear k hlead i g l;generalize lI (bs s)=v at*;by_cases hv:b.toNat<v
   .have H:=Hi (show qF (pI (bs s) b.toNat)=.tuple #[I6 0,.bool false]by rw[d.o,ax hv];rfl);have A:b<(v:Int):=by omega
    clear d hv;rcases o with jy|⟨jy,x⟩;all_goals go_enter func278,ntmps278;go_wp2_with(first|(go_at_call 315;refine c1.o.mono ?_;rintro e B ⟨rfl,f⟩)|(go_at_call 317;refine(q.o _).mono ?_;rintro e C ⟨rfl,m⟩));go_ret2;exact⟨mF H.o,(JK f m)⟩
   .have H:=Hi (show qF (pI (bs s) b.toNat)=.tuple #[I6 v,.bool true]by rw[d.o,ap hv];rfl);have A:(v:Int)<=b:=by omega
    clear d hv;rcases o with jy|⟨jy,x⟩;all_goals go_enter func278,ntmps278;go_wp2_with(first|(go_at_call 315;refine c1.o.mono ?_;rintro e B ⟨rfl,f⟩)|(go_at_call 317;refine(q.o _).mono ?_;rintro e C ⟨rfl,m⟩));go_ret2;exact⟨mF H.o,(JK f m)⟩
 .have r:mn (bs s) tS=false:=by simpa using hA
  rw[r]at c1 d;have H:=Hi (show qF (pI (bs s) b.toNat)=.tuple #[I6 0,.bool false]by rw[d.o];rfl);clear d hA r g;go_enter func278,ntmps278;go_wp2_with(go_at_call 315;refine c1.o.mono ?_;rintro e w' ⟨rfl,f⟩);go_ret2;exact⟨mF H.o,f⟩
def ge:bM->Bool|[]=>true|c::q=>c==32||c==41||c==44||c==47||(c==46&&q.head?==some 46)
theorem oK {r:bM}(h:ge r=true):ck r=0/\gA r=0/\(r.head?.map (·.toNat)=some 46->dA (r.drop 1)≠5):=by cases r with|nil=>exact⟨rfl,rfl,λh=>by cases h⟩|cons c q=>
 simp only[ge,fH,aS,dj]at h;rcases h with(((rfl|rfl)|rfl)|rfl)|⟨rfl,b⟩;iterate 4 exact⟨rfl,rfl,λh=>by simp at h⟩
 cases q with|nil=>cases b|cons d q=>
  obtain rfl:d=46:=by simpa using b
  exact⟨rfl,rfl,λ_=>by show nh _≠5;decide⟩
theorem lZ:∀(a r:bM),(∀c∈a,iG c=true)->ck (a++r)=a.length+ck r|[],r,_=>by simp|x::a,r,h=>by have:=lZ a r λc b=>h c (bU _ b);simp only[aW,ck,h x bT,vY,this,aD];omega
theorem Ch:∀l:bM,nm false l=l.all iG|[]=>rfl|c::r=>by simp only[nm,eC,Ch r,iG,Bz];cases jN c<;>cases fC c<;>simp
theorem jq (l:bM):cZ l=true↔dA l=5/\(∀c∈l,iG c=true)/\l.length<=24:=by cases l with|nil=>simp[cZ,dA]|cons c r=>
 have e:nm true (c::r)=(jN c&&r.all iG):=by simp only[nm,Ch,Dy,Bool.and_true];cases jN c<;>simp
 simp only[cZ,e,aS,bC,aD,dA,tX,fL,List.forall_mem_cons,iG,fH];constructor
 .rintro⟨_,h1,h2,h3⟩;exact⟨h2,⟨.inl h2,h3⟩,h1⟩
 .rintro⟨h1,⟨_,h2⟩,h3⟩;exact⟨by omega,h3,h1,h2⟩
theorem vD {a r:bM}(h:a≠[]):dA (a++r)=dA a:=by cases a with|nil=>exact absurd rfl h|cons c a=>rfl
theorem tW {a:bM}{k:Int}(h:dA a=k)(b:k≠1):a≠[]:=λe=>b (by rw[<-h,e];rfl)
theorem Fy {t r:bM}(h:cZ t=true)(hr:ge r=true):dA (t++r)=5/\rW (t++r)=q4 2 t.length 0 0:=by obtain⟨h1,h2,h3⟩:=(jq t).1 h;obtain⟨c,_,d⟩:=oK hr;have b:=lZ t r h2;rw[c,eG]at b;refine⟨(vD (tW h1 (by decide))).t h1,?_⟩;unfold rW;rw[b,ap (by omega),jJ,<-kV,jJ,ap λh=>d h.1 h.2]
theorem Fx {a b r:bM}(f:cZ a=true)(g:cZ b=true)(hr:ge r=true):dA (a++46::b++r)=5/\rW (a++46::b++r)=q4 3 (a++46::b).length 0 0:=by
 obtain⟨h1,h2,h3⟩:=(jq a).1 f;obtain⟨d,i,l⟩:=(jq b).1 g;obtain⟨k,_,_⟩:=oK hr;have h:ck (a++46::(b++r))=a.length:=by rw[lZ a _ h2];rfl
 have c:=lZ b r i;rw[k,eG]at c;have e:a++46::b++r=a++46::(b++r):=by simp
 have j:dA (b++r)=5:=(vD (tW d (by decide))).t d;refine⟨by rw[e];exact(vD (tW h1 (by decide))).t h1,?_⟩;unfold rW;rw[e,h,ap (by omega),jJ,<-kV,jJ,ax ⟨rfl,j⟩];show(if 24<ck (b++r)then _ else _)=_;rw[ap (by omega)];show q4 3 (↑a.length+1+↑(ck (b++r))) 0 0=_;rw[c];simp only[aC,aD,q4,Bu,and_true,true_and];omega
theorem M7 {u:Nat}(h:¬u<10):Lib.decDigits u=Lib.decDigits (u/10)++[UInt8.ofNat (48+u%10)]:=by rw[Lib.decDigits,dif_neg h]
theorem BW {n:Nat}(h:n<10):(UInt8.ofNat (48+n)).toNat=48+n:=by rw[UInt8.toNat_ofNat'];omega
theorem BY:∀u:Nat,(Lib.decDigits u).all fC=true/\lI (Lib.decDigits u)=u/\Lib.decDigits u≠[]/\((Lib.decDigits u).head?=some 48->Lib.decDigits u=[48]):=by intro u;induction u using Nat.strongRecOn with|_ u ih=>
 have f:∀n,n<10->fC (UInt8.ofNat (48+n))=true:=λn h=>by unfold fC gX;rw[BW h];simp only[bC];omega
 by_cases h:u<10
 .rw[Lib.decDigits_one h];refine⟨by rw[eC,f u h];rfl,?_,List.cons_ne_nil _ _,λe=>by simpa using e⟩;show 0*10+((UInt8.ofNat (48+u)).toNat-48)=u;rw[BW h];omega
 .obtain⟨a,b,c,d⟩:=ih (u/10) (by omega);rw[M7 h];refine⟨by rw[List.all_append,a,eC,f (u%10) (by omega)];rfl,?_,by simp,λe=>?_⟩
  .unfold lI at b⊢;rw[List.foldl_append,b];show u/10*10+((UInt8.ofNat (48+u%10)).toNat-48)=u;rw[BW (by omega)];omega
  .have:=d (by cases hq:Lib.decDigits (u/10)with|nil=>exact absurd hq c|cons x q=>rw[hq]at e;exact e);rw[this]at b;have:(0:Nat)=u/10:=b;omega
theorem BX (h0:0<=v):∃u:Nat,v=u/\Lib.itoa v=Lib.decDigits u:=⟨v.toNat,by omega,by unfold Lib.itoa;rw[ap (by omega)]⟩
theorem J8 {f:Nat}(h0:0<=v)(h1:v<=f)(h2:v<10000000000):pI (Lib.itoa v) f=some v.toNat:=by
 obtain⟨u,rfl,e⟩:=BX h0;obtain⟨a,b,c,d⟩:=BY u;have i:(Lib.itoa (u:Int)).length<=10:=jO h0 9 (by omega);rw[e]at i⊢;have g:mn (Lib.decDigits u) tS=true:=by unfold mn;rw[<-a];congr 1;funext c;exact DB c
 unfold pI;rw[ap (λh=>h.elim c λh=>by omega),ap (by rw[g];simp),ap (λh=>h.2 (d h.1)),b,ap (by omega)];rfl
theorem xj:∀(a r:bM),a.all fC=true->gA (a++r)=a.length+gA r
 |[],r,_=>by simp|x::a,r,h=>by
  rw[eC,aS]at h;have:=xj a r h.2;have b:iG x=true:=by unfold iG;rw[h.1];simp
  simp only[aW,gA,b,Dy,vY,this,aD];omega
theorem gH (h0:0<=v)(r:bM):dA (Lib.itoa v++r)=6/\∀q,gA (Lib.itoa v++q)=(Lib.itoa v).length+gA q:=by obtain⟨u,rfl,e⟩:=BX h0;obtain⟨a,_,c,_⟩:=BY u;rw[e];refine⟨?_,λq=>xj _ q a⟩;cases hd:Lib.decDigits u with|nil=>exact absurd hd c|cons x l=>rw[hd,eC,aS]at a;exact(wC _).2 a.1
theorem rr {r:bM}(h:dA r=6):gA (46::r)=gA r+1:=by show(if iG 46||(_==46&&dA r==6)then _ else _)=_;rw[h];rfl
def mq (t:bM)(v:Int):Prop:=0<=v/\v<=4294967295/\(t=Lib.itoa v\/t=gE v)
theorem BG {t r:bM}(h:mq t v)(hr:ge r=true):dA (t++r)=6/\gA (t++r)=t.length:=by
 obtain⟨h0,h1,rfl|rfl⟩:=h
 .obtain⟨a,b⟩:=gH h0 r;exact⟨a,by rw[b,(oK hr).2.1];rfl⟩
 .have c:0<=v/16777216%256:=by omega
  have d:0<=v/65536%256:=by omega
  have e:0<=v/256%256:=by omega
  have f:0<=v%256:=by omega
  unfold gE;simp only[aH,eR,aW,ag];refine⟨(gH c _).1,?_⟩;rw[(gH c []).2,rr (gH d _).1,(gH d []).2,rr (gH e _).1,(gH e []).2,rr (gH f _).1,(gH f []).2,(oK hr).2.1];simp only[aC,aD]
theorem nU (h0:0<=v)(h1:v<=4294967295):mq (bs (ez v)) v:=by
 refine⟨h0,h1,?_⟩;unfold ez;split
 .exact .inl rfl
 .exact .inr rfl
def CP (l:bM):List Wz->Nat|[]=>0|g::r=>if(bs g).isPrefixOf l then g.size else CP l r
theorem BF {g:Wz}{r:bM}(b:g∈gx)(hr:r.head?≠some 61):CP (bs g++r) gx=g.size/\dA (bs g++r)=0:=by
 simp only[gx,dN,bG,jf]at b;have d:List.isPrefixOf [61] r=false:=by cases r with|nil=>rfl|cons c r=>have:c≠61:=λe=>hr (by rw[e];rfl);simp[List.isPrefixOf,Ne.symm this]
 rcases b with rfl|rfl|rfl|rfl|rfl|rfl|rfl|rfl|rfl|rfl|rfl|rfl|rfl|rfl|rfl|rfl;all_goals refine⟨?_,rfl⟩
 all_goals simp[CP,gx,bs,List.isPrefixOf,d,ByteArray.size]
inductive K2:Int->Wz->bM->Prop|name {t r}:cZ (bs t)=true->ge r=true->K2 2 t r|port {t r} (a b:bM):cZ a=true->cZ b=true->bs t=a++46::b->ge r=true->K2 3 t r|num {t r} (v:Int):mq (bs t) v->ge r=true->K2 4 t r|pat {p r}:1<=p.size->p.size<=32->mZ p=true->ge r=true->K2 5 (ba [37]++p) r|sign {t r}:t∈gx->r.head?≠some 61->K2 7 t r
abbrev Pc:=Int×Wz
inductive Lx:bM->List Pc->Prop|nil:Lx [] []|blank {r l}:Lx r l->Lx (32::r) l|tok {k t r l}:K2 k t r->Lx r l->Lx (bs t++r) ((k,t)::l)
theorem Jp {s:Wz}{k:Int}(h:K2 k s []):Lx (bs s) [(k,s)]:=by have:=Lx.tok h .nil;rwa[aZ]at this
theorem bY (a b:Wz):bs (a++b)=bs a++bs b:=by unfold bs;rw[ByteArray.data_append];simp
theorem dG (l:bM):bs (ba l)=l:=by simp[bs,ba]
theorem AI (c:UInt8)(b:bM):∀a:bM,c∉a->Lib.index (a++c::b) [c]=(a.length:Nat)|[],_=>by simp[Lib.index,List.isPrefixOf]|x::a,h=>by rw[dN,P9]at h;have d:=AI c b a h.2;simp only[aW,Lib.index,List.isPrefixOf,beq_eq_false_iff_ne.2 h.1,yy,d];rw[ap (by simp),ap (by rw[dj];omega),aD];omega
theorem oo (c:UInt8)(a b:bM)(k:Nat)(h:c∉a):Lib.splitK [c] 0 (k+1) (a++c::b)=a::Lib.splitK [c] 0 k b:=by
 have hi:=AI c b a h;show(if Lib.index (a++c::b) [c]==-1 then _ else _)=_;rw[hi,ap (by rw[dj];omega)];have e:((a.length:Nat):Int).toNat=a.length:=by omega
 rw[e,eG,my,<-kV,jJ];rfl
theorem CM (c:Wz)(b k:Nat)(s:Wz):Lib.splitB c b k s=(Lib.splitK (bs c) b k (bs s)).map ba:=by
 rw[show Lib.splitK (bs c) b k (bs s)=_ from(Lib.splitB_data c b k s).symm,eh];conv=>lhs;rw[<-List.map_id (Lib.splitB c b k s)]
 exact jF λx _=>by cases x;simp[ba]
theorem qx (c:UInt8)(a b:bM)(h:c∉a):Lib.count (a++c::b) [c]=Lib.count b [c]+1:=by rw[Lib.count_one,Lib.count_one,List.count_append,List.count_cons_self,List.count_eq_zero.2 h];omega
theorem AQ (s:Wz):ba (bs s)=s:=by cases s;simp[ba,bs]
def kH (s:Wz):List Wz:=Lib.splitB ⟨#[46]⟩ 0 (Lib.countB s ⟨#[46]⟩) s
theorem zF (s:Wz):(kH s).length=Lib.countB s ⟨#[46]⟩+1:=Lib.splitB_all _ (by decide) 0 _ s rfl
theorem zZ (c:Wz)(b:Nat):∀(k:Nat)(s p:Wz),p∈Lib.splitB c b k s->p.size<=s.size
 |0,s,p,h=>by simp only[Lib.splitB_zero,fY]at h;rw[h];exact al _|k+1,s,p,h=>by
  unfold Lib.splitB at h;split at h
  .simp only[fY]at h;rw[h];exact al _
  .rcases List.mem_cons.1 h with rfl|h
   .exact iC _ _ _
   .exact aI (zZ c b k _ p h) (iC _ _ _)
def mW (v:Nat):List Wz->Option Nat|[]=>some v|p::r=>match pI (bs p) 255 with|some n=>mW (v*256+n) r|none=>none
def rU (s:Wz):Option Nat:=if(kH s).length=4 then mW 0 (kH s)else none
theorem zu (a:Nat)(b:a<9223372036854775808):(BitVec.ofInt 64 (a:Int)).toNat=a:=by rw[BitVec.ofInt_natCast,BitVec.toNat_ofNat];exact Nat.mod_eq_of_lt (by omega)
theorem O4 (a b:Nat)(c:a<9223372036854775808)(d:b<9223372036854775808):bits .or .i64 (a:Int) (b:Int)=((a|||b:Nat):Int):=by have e:a|||b<2^63:=Nat.or_lt_two_pow (by omega) (by omega);show IntKind.i64.wrap ((BitVec.ofInt 64 (a:Int)|||BitVec.ofInt 64 (b:Int)).toNat:Int)=_;rw[BitVec.toNat_or,zu a c,zu b d,IntKind.wrap_i64];omega
theorem Oi (a n:Nat)(c:n<256):(a*256)|||n=a*256+n:=by have:=Nat.two_pow_add_eq_or_of_lt (i:=8) (b:=n) c a;rw[Nat.mul_comm a 256];exact this.symm
theorem M6 {l:bM}{b n:Nat}(h:pI l b=some n):n<=b:=by
 unfold pI at h;split at h
 .cases h
 .split at h
  .cases h
  .split at h
   .cases h
   .split at h
    .cases h
    .simp only[j8]at h;omega
theorem JG (s:Wz)(hs:s.size<4294967281)(w:Wq)(E:gu w):Calls prog 275 #[.string s] w λe w'=>e=.returned (qF (rU s))/\JJ w w':=by
 obtain⟨m,t⟩:=E.maxlen;have c1:=Hi (strings_Split s ⟨#[46]⟩ m w hs t (by decide));have j:=Hi (zF s);have jl:=Hi (show∀k p,(kH s)[k]?=some p->(w.alloc (.cells ((Lib.splitB ⟨#[46]⟩ 0 (Lib.countB s ⟨#[46]⟩) s).map Value.string).toArray 9)).cell? ⟨w.heap.size,k,none⟩=some (.string p)from λk p h=>by rw[World.cell?_alloc_new];simp only[aQ,aq];unfold kH at h;rw[h];rfl);have c:∃W,W=(w.alloc (.cells ((Lib.splitB ⟨#[46]⟩ 0 (Lib.countB s ⟨#[46]⟩) s).map Value.string).toArray 9)):=⟨_,rfl⟩;obtain⟨W,c⟩:=c;have q:JJ w W:=by rw[c];exact Jz.alloc Jq _
 have A:w.heap.size<W.heap.size:=by rw[c];simp
 rw[<-c]at c1 jl;have D:=Hi (show∀p,p∈kH s->p.size<=s.size from λp h=>zZ _ _ _ _ p h);clear c t E;have d:=Hi (show rU s=if(kH s).length=4 then mW 0 (kH s)else none from rfl);generalize Lib.countB s ⟨#[46]⟩=n at*;go_enter func275,ntmps275;go_wp2_with fail;refine c1.o.mono ?_;rintro e G ⟨rfl,rfl⟩;clear c1;by_cases h4:n+1=4
 .obtain rfl:n=3:=by omega
  have z:=Hi (d.o.t (ax j.o));clear d h4;go_wp2_with fail;go_loopw [5,17] (λF r wr=>∃(k jk:Nat),k<=4/\r=I6 k/\F=I6 jk/\Hid (jk<256^k)/\Hid (rU s=mW jk ((kH s).drop k))/\JJ G wr) (λ_ r _=>4-(intOf r).toNat);case atStart=>exact⟨0,0,by omega,rfl,rfl,Hi (by decide),z,aB _ _⟩
  case round=>
   obtain⟨k,jk,L,rfl,rfl,g,f,l⟩:=hrel;by_cases qs:k<4
   .obtain⟨p,i⟩:∃p,(kH s)[k]?=some p:=⟨_,aF (by rw[j.o];omega)⟩;have K:wr.cell? ⟨w.heap.size,k,none⟩=some (.string p):=(l.cell (p:=⟨w.heap.size,k,none⟩) A).t (jl.o k p i);have O:p.size<=s.size:=D.o p (aE i);have b:=Hi (show rU s=match pI (bs p) 255 with|some n=>mW (jk*256+n) ((kH s).drop (k+1))|none=>none by rw[f.o,fP i];rfl);have J:jk<16777216:=bZ g.o (aI (oe (by decide) (show k<=3 by omega)) (by decide));have C:=Hi (show∀n,n<=255->jk*256+n<256^(k+1)from λn u=>by have:=g.o;rw[QH];omega);have y:=Hi (show∀n,pI (bs p) 255=some n->n<=255 from λn h=>M6 h);have c2:=Hi (λw=>vw p 255 w (by omega) (by omega) (by omega));rw[show(255:Int).toNat=255 from rfl]at c2;clear f g i jl;generalize pI (bs p) 255=o at*;go_wp2_with fail;refine(c2.o _).mono ?_;rintro e P ⟨rfl,x⟩;clear c2;cases o with|none=>unfold qF;dsimp only[Option.getD_none,Option.isSome_none];have b:=Hi (show qF (rU s)=.tuple #[I6 0,.bool false]by rw[b.o];rfl);go_wp2_with fail;go_ret2;exact⟨mF b.o,q.t ((JK l x).mono (by omega))⟩|some n=>
     unfold qF;dsimp only[Option.getD_some,rJ];have u:n<=255:=y.o n rfl;have b:=Hi (show rU s=mW (jk*256+n) ((kH s).drop (k+1))from b.o);have N:bits .or .i64 ((jk:Int)*256) (n:Int)=((jk*256+n:Nat):Int):=by have:=O4 (jk*256) n (by omega) (by omega);rw[Oi jk n (by omega)]at this;rw[<-this];congr 1
     go_wp2_with fail;go_roundw;case rel=>exact⟨k+1,jk*256+n,by omega,by go_num,by go_num,Hi (C.o n u),b,(JK l x)⟩
     case measure=>simp[intOf];omega
   .have B:k=4:=by omega
    have H:=Hi (show qF (rU s)=.tuple #[I6 jk,.bool true]by rw[f.o,fB (by rw[j.o];omega)];rfl);clear f g jl B;go_wp2_with fail;go_ret2;exact⟨mF H.o,q.t (l.mono (by omega))⟩
 .have H:=Hi (show qF (rU s)=.tuple #[I6 0,.bool false]by rw[d.o,ap (by rw[j.o];exact h4)];rfl);have I:(((n:Int)+1) !=4)=true:=by simp;omega
  clear d h4;go_wp2_with fail;go_ret2;exact⟨mF H.o,q⟩
theorem KX (h0:0<=v){c:UInt8}(b:fC c=false):c∉Lib.itoa v:=λh=>by obtain⟨u,rfl,e⟩:=BX h0;rw[e]at h;rw[List.all_eq_true.1 (BY u).1 c h]at b;cases b
theorem Oe (h0:0<=v)(h1:v<=4294967295):rU (ba (gE v))=some v.toNat:=by
 have n:∀k:Int,0<=k%256->(46:UInt8)∉Lib.itoa (k%256):=λk h=>KX h (by decide);have e:gE v=Lib.itoa (v/16777216%256)++46::(Lib.itoa (v/65536%256)++46::(Lib.itoa (v/256%256)++46::Lib.itoa (v%256))):=by unfold gE;simp
 have c:=n (v/16777216) (by omega);have f:=n (v/65536) (by omega);have g:=n (v/256) (by omega);have m:=n v (by omega);have j:kH (ba (gE v))=[ba (Lib.itoa (v/16777216%256)),ba (Lib.itoa (v/65536%256)),ba (Lib.itoa (v/256%256)),ba (Lib.itoa (v%256))]:=by
  have l:Lib.count (Lib.itoa (v%256)) [46]=0:=by rw[Lib.count_one];exact List.count_eq_zero.2 m
  have i:Lib.countB (ba (gE v)) ⟨#[46]⟩=3:=by show Lib.count (bs (ba (gE v))) [46]=3;rw[dG,e,qx _ _ _ c,qx _ _ _ f,qx _ _ _ g,l]
  unfold kH;rw[i,CM,dG,e,show bs (⟨#[46]⟩:Wz)=[46]from rfl,oo _ _ _ _ c,oo _ _ _ _ f,oo _ _ _ _ g];rfl
 have d:∀x:Int,0<=x->x<=255->pI (bs (ba (Lib.itoa x))) 255=some x.toNat:=λx a b=>by rw[dG];exact J8 a (by omega) (by omega)
 unfold rU;rw[j,ax (show([_,_,_,_]:List Wz).length=4 from rfl)];simp only[mW,d _ (show 0<=v/16777216%256 by omega) (by omega),d _ (show 0<=v/65536%256 by omega) (by omega),d _ (show 0<=v/256%256 by omega) (by omega),d _ (show 0<=v%256 by omega) (by omega)];congr 1;omega
theorem zw (s:Wz)(h:mq (bs s) v)(hs:s.size<4294967281)(w:Wq)(E:gu w):Calls prog 209 #[.string s] w λe w'=>e=.returned (.tuple #[I6 v,.bool true])/\JJ w w':=by
 obtain⟨h0,h1,d⟩:=h;have c1:=strings_Contains_one s 46 w;have A:=Hi (show(v.toNat:Int)=v by omega);have f:Hid (qF (some v.toNat)=.tuple #[I6 v,.bool true]):=Hi (by unfold qF;simp[A.o]);rcases d with d|d
 .have u:∀c:UInt8,fC c=false->c∉bs s:=λc B=>by rw[d];exact KX h0 B
  have x:¬0<=Lib.indexByte s.data.toList 46:=λhi=>by obtain⟨o,f⟩:=Ps hi;exact u 46 (by decide) (aE (Lib.indexByte_some f).1)
  rw[aM x]at c1;have y:∀a b:UInt8,fC b=false->Lib.hasPrefix s.data.toList [a,b]=false:=λa b j=>by rw[<-Ga];intro h;unfold Lib.hasPrefix at h;obtain⟨t,ht⟩:=List.isPrefixOf_iff_prefix.1 h;exact u b j (show b∈s.data.toList by rw[<-ht];simp)
  have r:=λ(p:Wz) w=>strings_CutPrefix s p w;have g:∀w,∃q,Calls prog 276 #[.string s,.string ⟨#[48,120]⟩] w λe w'=>e=.returned (.tuple #[.string q,.bool false])/\w'=w:=λw=>by have:=r ⟨#[48,120]⟩ w;rw[show Lib.hasPrefix s.data.toList ((⟨#[48,120]⟩:Wz).data.toList)=false from y 48 120 (by decide)]at this;exact⟨_,this⟩
  have i:∀w,∃q,Calls prog 276 #[.string s,.string ⟨#[48,98]⟩] w λe w'=>e=.returned (.tuple #[.string q,.bool false])/\w'=w:=λw=>by have:=r ⟨#[48,98]⟩ w;rw[show Lib.hasPrefix s.data.toList ((⟨#[48,98]⟩:Wz).data.toList)=false from y 48 98 (by decide)]at this;exact⟨_,this⟩
  obtain⟨G,g⟩:=g w;obtain⟨q4,i⟩:=i w;have n:=vw s 4294967295 w (by omega) (by omega) (by omega);rw[d,show(4294967295:Int).toNat=4294967295 from rfl,J8 h0 (by omega) (by omega),f.o]at n;have c1:=Hi c1;have g:=Hi g;have i:=Hi i;have n:=Hi n;clear E d u x y r f;go_enter func209,ntmps209;go_wp2_with fail;refine c1.o.mono ?_;rintro e m ⟨rfl,rfl⟩;go_wp2_with fail;refine g.o.mono ?_;rintro e m ⟨rfl,rfl⟩;go_wp2_with fail;refine i.o.mono ?_;rintro e m ⟨rfl,rfl⟩;go_wp2_with fail;refine n.o.mono ?_;rintro e m ⟨rfl,j⟩;go_wp2_with fail;go_ret2;exact⟨rfl,j⟩
 .have hi:0<=Lib.indexByte s.data.toList 46:=by
   have:=Lib.indexByte_none (l:=s.data.toList) (c:=46);have F:=Lib.indexByte_ge s.data.toList 46;refine ri λx=>?_;have D:(46:UInt8)∈s.data.toList:=by rw[show s.data.toList=_ from d];unfold gE;simp
   obtain⟨k,C⟩:=fg D;exact this (by omega) k C
  rw[aV hi]at c1;have c2:=JG s hs w E;have z:s=ba (gE v):=by rw[<-d,AQ]
  rw[z,Oe h0 h1,<-z,f.o]at c2;have c1:=Hi c1;have c2:=Hi c2;clear E d hi f z;go_enter func209,ntmps209;go_wp2_with(first|(go_at_call 274;refine c1.o.mono ?_;rintro e m ⟨rfl,rfl⟩)|(go_at_call 275;refine c2.o.mono ?_;rintro e m ⟨rfl,j⟩));go_ret2;exact⟨rfl,j⟩
theorem qd (s:Wz)(pos:Nat)(h:pos<s.size):1<=(Utf8.decode s pos).2:=by
 by_cases ha:(s[pos]'h).toNat<128
 .rw[Hn s pos h ha];exact al _
 .exact(decode_high s pos h (by omega)).2
def em (s:Wz)(pos:Nat):Nat:=if h:pos<s.size then 1+em s (pos+(Utf8.decode s pos).2)else 0 termination_by s.size-pos decreasing_by have:=qd s pos h;omega
theorem mE (s:Wz):∀n pos,s.size-pos<=n->em s pos<=n
 |0,pos,h=>by rw[em,dif_neg (by omega)];exact al _|n+1,pos,h=>by
  rw[em];split
  .rename_i b;have:=qd s pos b;have:=mE s n (pos+(Utf8.decode s pos).2) (by omega);omega
  .omega
structure lN where
 text:Wz
 pos:Nat
 line:Int
 col:Int
 opn:Bool
 toks:Value
def lN.cells (m:lN):Array Value:=#[.string m.text,I6 m.pos,I6 m.line,I6 m.col,.bool m.opn,m.toks]
def dW (w:Wq)(M:Nat)(m:lN):Prop:=w.heap[M]?=some (.cells m.cells 112 (0,0))
theorem Mk (w:Wq)(r:Option Nat):w.grownBy w r:=⟨rfl,rfl,rfl,al _,λ_ _ _=>rfl⟩
theorem KC {b c:Wq}{r:Option Nat}(h:a.grownBy b r)(k:b.grownBy c r):a.grownBy c r:=⟨k.os.t h.os,k.tape.t h.tape,k.output.t h.output,aI h.size k.size,λi hi jm=>(k.block i (bZ hi h.size) jm).t (h.block i hi jm)⟩
theorem Mm {r:Option Nat}(h:a.grownBy w r):a.grownBy w.drew r:=⟨h.os,h.tape,h.output,h.size,h.block⟩
theorem KE {b c:Wq}{r:Option Nat}(h:a.grownBy b r)(k:JJ b c):a.grownBy c r:=KC h ⟨k.os,k.tape,k.output,k.size,λi hi _=>k.block i hi⟩
theorem yL {g:Nat}(h:a.grownBy w (some g))(o:Nat)(u:Value):a.grownBy (w.setCell ⟨g,o,none⟩ u) (some g):=⟨h.os,h.tape,h.output,by simpa[World.setCell]using h.size,λi hi jm=>(aT w ⟨g,o,none⟩ u i (λe=>jm (by rw[e]))).t (h.block i hi jm)⟩
theorem Hg {r:Option Nat}(h:a.grownBy w r){k:Nat}(b:a.heap.size<=k)(s:Wz)(q:Nat):a.grownBy (w.iterAt k s q) r:=⟨h.os,h.tape,h.output,by simpa[World.iterAt]using h.size,λi hi jm=>by rw[<-h.block i hi jm];show(w.heap.setIfInBounds k _)[i]?=_;rw[pU,ap (by omega)]⟩
theorem dW.lt {m:lN}(h:dW w M m):M<w.heap.size:=(Array.getElem?_eq_some_iff.1 h).1
theorem dW.free {m:lN}(h:dW w M m)(i:Nat):w.frozen? ⟨M,i,none⟩=false:=by unfold dW at h;simp[World.frozen?,h]
theorem dW.of_block {w':Wq}{m:lN}(h:dW w M m)(b:w'.heap[M]?=w.heap[M]?):dW w' M m:=b.t h
theorem dW.c0 {m:lN}(h:dW w M m):w.cell? ⟨M,0,none⟩=some (.string m.text):=by have:=aA w M 0 _ _ (0,0) h;simpa[lN.cells]using this
theorem dW.c1 {m:lN}(h:dW w M m):w.cell? ⟨M,1,none⟩=some (I6 m.pos):=by have:=aA w M 1 _ _ (0,0) h;simpa[lN.cells]using this
theorem dW.c2 {m:lN}(h:dW w M m):w.cell? ⟨M,2,none⟩=some (I6 m.line):=by have:=aA w M 2 _ _ (0,0) h;simpa[lN.cells]using this
theorem dW.c3 {m:lN}(h:dW w M m):w.cell? ⟨M,3,none⟩=some (I6 m.col):=by have:=aA w M 3 _ _ (0,0) h;simpa[lN.cells]using this
theorem dW.c4 {m:lN}(h:dW w M m):w.cell? ⟨M,4,none⟩=some (.bool m.opn):=by have:=aA w M 4 _ _ (0,0) h;simpa[lN.cells]using this
theorem dW.c5 {m:lN}(h:dW w M m):w.cell? ⟨M,5,none⟩=some m.toks:=by have:=aA w M 5 _ _ (0,0) h;simpa[lN.cells]using this
theorem dW.set {m m':lN}(h:dW w M m)(i:Nat)(v:Value)(b:m.cells.setIfInBounds i v=m'.cells):dW (w.setCell ⟨M,i,none⟩ v) M m':=by unfold dW at h⊢;rw[<-b];simp[World.setCell,ny,h]
theorem qK (M:Nat)(m:lN)(size:Nat)(w:Wq)(f:dW w M m)(H:m.pos+size<=m.text.size)(ht:m.text.size<=4294967295)(D:0<=m.col)(E:m.col<=4611686018427387904):Calls prog 133 #[.pointer (some ⟨M,0,none⟩),I6 size] w λe w'=>e=.returned (.tuple #[])/\dW w' M {m with pos:=m.pos+size,col:=m.col+em (m.text.extract m.pos (m.pos+size)) 0}/\w.grownBy w' (some M):=by
 obtain⟨text,pos,line,col,opn,toks⟩:=m;dsimp only at*;have o:=f.c0;have h:=f.c1;have n:=Hi f;clear f;dsimp only at o h;have C:IntKind.i64.wrap ((pos:Int)+(size:Int))=(pos:Int)+(size:Int):=bu _ (by omega);have b0:(0:Int)<=(pos:Int):=by omega
 have b1:(pos:Int)<=(pos:Int)+(size:Int):=by omega
 have B:(pos:Int)+(size:Int)<=(text.size:Int):=by omega
 go_enter func133,ntmps133;go_wp2_with fail;go_still_tail 15,(by kernel_rfl);go_wp2_with fail;have A:=n.o.lt;obtain⟨q,d⟩:∃q,q=text.extract pos (pos+size):=⟨_,rfl⟩;rw[<-d];have d:=Hi d;have vb:q.size<=4294967295:=by rw[d.o];have:=iC text pos (pos+size);omega
 have x:=Hi (show∀p,em q p<=4294967295 from λp=>aI (mE q q.size p (by omega)) vb);clear o h;go_loopw [] (λwr=>∃(p c:Nat),wr.heap[w.heap.size]?=some (.stringIter q p)/\c<=4294967295/\Hid (em q 0=c+em q p)/\dW wr M ⟨text,pos,line,col+c,opn,toks⟩/\w.grownBy wr (some M)) (λwr=>q.size-wr.iterPos w.heap.size);case atStart=>refine⟨0,0,World.iter_heap _ _ _,by omega,Hi (by simp),?_,KE (Mm (Mk _ _)) (Jz.alloc Jq _)⟩;rw[show col+((0:Nat):Int)=col by simp];exact n.o.of_block (Below.heap_alloc w.drew _ M A)
 case round=>
  obtain⟨p,c,b,F,hr,j9,k⟩:=hrel;by_cases hp:p<q.size
  .have t:=λty=>Lib.run_next_any_at (P:=prog) wr w.heap.size q p ty b hp;have G:=qd q p hp;have i:=Hi (show em q 0=(c+1)+em q (p+(Utf8.decode q p).2)from by have:=hr.o;rw[show em q p=1+em q (p+(Utf8.decode q p).2)by rw[em,dif_pos hp]]at this;omega);have z:c+1<=4294967295:=by have:=x.o 0;have:=i.o;omega
   have jn:=Lib.iterAt_heap wr w.heap.size q p (p+(Utf8.decode q p).2) b;have r:=Hg k Jq q (p+(Utf8.decode q p).2);have g:dW (wr.iterAt w.heap.size q (p+(Utf8.decode q p).2)) M ⟨text,pos,line,col+c,opn,toks⟩:=j9.of_block (by show(wr.heap.setIfInBounds _ _)[M]?=_;rw[pU,ap (by omega)]);have l:(wr.iterPos w.heap.size)=p:=by simp[World.iterPos,b]
   have l:=Hi l;obtain⟨j,s⟩:∃j,j=wr.iterAt w.heap.size q (p+(Utf8.decode q p).2):=⟨_,rfl⟩;rw[<-s]at jn r g t;clear s hr b j9 k;have u:=g.c3;have y:=g.free 3;dsimp only at u;have jn:=Hi jn;go_wp2_with fail;go_roundw;case rel=>
    refine⟨p+(Utf8.decode q p).2,c+1,?_,z,i,?_,yL r _ _⟩
    .rw[aT _ _ _ _ (by show _≠M;omega)];exact jn.o
    .exact g.set 3 _ (by simp[lN.cells];omega)
   case measure=>
    rw[l.o];have:(j.setCell ⟨M,3,none⟩ (I6 (col+↑c+1))).iterPos w.heap.size=p+(Utf8.decode q p).2:=by unfold World.iterPos;rw[aT _ _ _ _ (by show _≠M;omega),jn.o]
    first|(rw[this];omega)|(simp only[this];omega)
  .have t:=λty=>Lib.run_next_end_at (P:=prog) wr w.heap.size q p ty b hp;have i:=Hi (show em q 0=c from by have:=hr.o;rwa[show em q p=0 by rw[em,dif_neg hp]]at this);have h:=j9.c1;have y:=j9.free 1;dsimp only at h;clear b hr;go_wp2_with fail;go_end0;refine⟨rfl,?_,yL k _ _⟩;rw[<-d.o,i.o];exact j9.set 1 _ (by simp[lN.cells])
end Go.Proofs.YtgfgoaeaicefcaaGreatDoor
