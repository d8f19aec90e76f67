/- Part of DeltaBack. -/
import Derived.Test.YtgfgoaeaicefcaaGreatDoorQC6
set_option maxHeartbeats 16000000
set_option maxRecDepth 100000
set_option linter.all false
namespace Go.Proofs.YtgfgoaeaicefcaaGreatDoor
open Go.RowKit Tryz
variable {t n:Wz}{v:Int}
def jS (c:UInt8):Prop:=33<=c.toNat/\c.toNat<=126
theorem CA {c:UInt8}(h:iG c=true):jS c:=by unfold iG jN fC ie gX at h;simp only[fH,bC]at h;unfold jS;omega
theorem sv {l:bM}(h:cZ l=true):∀c∈l,jS c:=λc a=>CA (((jq l).1 h).2.1 c a)
theorem tD (h0:0<=v):∀c∈Lib.itoa v,jS c:=by obtain⟨u,rfl,e⟩:=BX h0;rw[e];intro c a;have:=List.all_eq_true.1 (BY u).1 c a;exact CA (by unfold iG;rw[this];simp)
theorem JF (v:Int):∀c∈gE v,jS c:=λc a=>by unfold gE at a;simp only[jn,dN,bG,jf]at a;rcases a with((((((h|rfl)|h)|rfl)|h)|rfl)|h);all_goals first|(unfold jS;decide)|exact tD (by omega) c h
theorem MC {t:bM}(h:mq t v):∀c∈t,jS c:=by
 obtain⟨h0,_,rfl|rfl⟩:=h
 .exact tD h0
 .exact JF v
theorem OH {k:Int}{r:bM}(h:K2 k t r):∀c∈bs t,jS c:=by cases h with
 |name h _=>exact sv h|port a b ha hb e _=>
  rw[e];intro c d;rcases List.mem_append.1 d with h|h
  .exact sv ha c h
  .rcases List.mem_cons.1 h with rfl|h
   .unfold jS;decide
   .exact sv hb c h|num v h _=>exact MC h|pat _ _ h _=>
  rw[bY,dG];intro c d;rcases List.mem_cons.1 d with rfl|d
  .unfold jS;decide
  .have:=List.all_eq_true.1 h c d;unfold i7 at this;simp only[fH,dj]at this;unfold jS;omega|sign h _=>simp only[gx,dN,bG,jf]at h;rcases h with rfl|rfl|rfl|rfl|rfl|rfl|rfl|rfl|rfl|rfl|rfl|rfl|rfl|rfl|rfl|rfl<;>(simp[bs,jS])
theorem Ot {b:bM}{L:List Pc}(h:Lx b L):∀c∈b,c=32\/jS c:=by induction h with
 |nil=>intro c a;cases a|blank _ ih=>
  intro c a;rcases List.mem_cons.1 a with h|h
  .exact .inl h
  .exact ih c h|tok h _ ih=>
  intro c a;rcases List.mem_append.1 a with h1|h1
  .exact .inr (OH h c h1)
  .exact ih c h1
def kY (b:bM):Prop:=∃a c,b=a++[c]/\jS c
theorem kY.app {b:bM}(h:kY b)(a:bM):kY (a++b):=by obtain⟨x,c,rfl,d⟩:=h;exact⟨a++x,c,by simp,d⟩
theorem kY.all {b:bM}(h:∀c∈b,jS c)(a:b≠[]):kY b:=⟨b.dropLast,b.getLast a,(List.dropLast_concat_getLast a).symm,h _ (List.getLast_mem a)⟩
theorem uL {l:bM}(h:cZ l=true):kY l:=.all (sv h) (tW ((jq l).1 h).1 (by decide))
theorem uM {s:Wz}(h:bo s=true):kY (bs s):=uL (by unfold bo at h;rw[aS]at h;exact h.1)
theorem sY (h0:0<=v):kY (bs (ez v)):=by
 have h1:∀v:Int,0<=v->Lib.itoa v≠[]:=λv h0 e=>by have:=(gH h0 []).1;rw[e]at this;cases this
 unfold ez;split
 .exact .all (tD h0) (h1 v h0)
 .rw[dG];exact .app (.all (tD (by omega)) (h1 _ (by omega))) _
theorem qk:∀{t:bJ},t.All sJ->kY (bs t.text)
 |.leaf b,_=>by cases b<;>exact uL (by decide)|.test t,h=>by
  have h:sJ t:=h;show kY (bs (oI t));unfold oI;split
  .rw[bY];exact(sY h.len.1.1).app _
  split
  .rw[bY];exact(sY h.hi.1.1).app _
  split
  .rename_i a;obtain⟨⟨g,i⟩,f⟩:=h.pat4 a;rw[bY];refine kY.app (.all (λc d=>?_) λe=>?_) _
   .have:=List.all_eq_true.1 f c d;unfold i7 at this;simp only[fH,dj]at this;unfold jS;omega
   .have:=congrArg List.length e;rw[dM,aL]at this;omega
  .rw[bY];exact(sY h.lo.1.1).app _|.not x,h=>by
  unfold bJ.text;rw[bY];refine kY.app ?_ _;have:=rE x.text x.joined [];rw[aZ]at this;rw[this];split
  .exact⟨40::bs x.text,41,rfl,by unfold jS;decide⟩
  .rw[aZ];exact qk (t:=x) h|.and x y,h=>by
  unfold bJ.text;rw[bY];refine kY.app ?_ _;have:=rE y.text y.joined [];rw[aZ]at this;rw[this];split
  .exact⟨40::bs y.text,41,rfl,by unfold jS;decide⟩
  .rw[aZ];exact qk (t:=y) h.2|.or x y,h=>by
  unfold bJ.text;rw[bY];refine kY.app ?_ _;have:=rE y.text y.isOr [];rw[aZ]at this;rw[this];split
  .exact⟨40::bs y.text,41,rfl,by unfold jS;decide⟩
  .rw[aZ];exact qk (t:=y) h.2
theorem xH {l:List de}(h:IU l):kY (bs (gi l)):=by obtain⟨_,t,ht,_,a⟩:=h;unfold gi;rw[ht];exact qk (mm ht a)
theorem xI:∀{l:List Wz}(a:Wz),jb l->l≠[]->kY (bs (gF l a))
 |[],_,_,h=>absurd rfl h|s::l,a,hn,_=>by
  rw[BK];split
  .exact uM (hn s bT)
  .rename_i e;exact .app (.app (xI a (λq b=>hn q (bU _ b)) e) _) _
theorem Gi {s:Wz}(h:nu s):kY (bs s):=by obtain⟨a,b,_,c,rfl⟩:=h;rw[GD];exact .app (.app (uM c) [46]) _
theorem rq (a b:bM)(h:(10:UInt8)∉a):iW (a++10::b)=ba a::iW b:=by
 have e:∀L:bM,iW L=(Lib.splitK [10] 0 (Lib.count L [10]) L).map ba:=λL=>by unfold iW;rw[CM];simp[bs,IR]
 rw[e,e,qx _ _ _ h,oo _ _ _ _ h];rfl
theorem yT {c:UInt8}(h:c.toNat<128)(l:bM):Lib.decodeL (c::l)=(c.toNat,1):=Hn ⟨(c::l).toArray⟩ 0 (by simp[ByteArray.size]) h
theorem zy {c:UInt8}(h:jS c):Lib.isSpaceR c.toNat=false:=by unfold jS at h;unfold Lib.isSpaceR;simp only[Bool.or_eq_false_iff,xB,bX,dU];omega
theorem CH {b:bM}(p:∃c q,b=c::q/\jS c)(ht:kY b):Lib.trimSpaceD b=b/\Lib.trimSpaceD (32::32::b)=b:=by
 obtain⟨c,q,e,j⟩:=p;have h:∀f,Lib.trimLeftD f b=b:=λf=>by cases f with|zero=>rfl|succ f=>unfold Lib.trimLeftD;rw[e,yT (by have:=j.2;omega),ap (by simp),zy j];rfl
 have i:∀f,Lib.trimRightD f b=b:=λf=>by cases f with|zero=>rfl|succ f=>
  obtain⟨a,d,m,k⟩:=ht;have o:b.getD (b.length-1) 0=d:=by rw[m];simp
  unfold Lib.trimRightD;rw[ap (by rw[e];simp)];have:Lib.decodeLastL b=(d.toNat,1):=by unfold Lib.decodeLastL;rw[ap (by rw[e];simp),o,ax (by have:=k.2;omega)]
  rw[this,zy k];rfl
 have g:∀f l,Lib.trimLeftD (f+1) (32::l)=Lib.trimLeftD f l:=λf l=>by rw[Lib.trimLeftD,ap (by simp),yT (by decide) l,ax (by decide)];rfl
 unfold Lib.trimSpaceD;refine⟨by rw[h,i],?_⟩;rw[show(32::32::b).length=b.length+1+1 from rfl,g,g,h,i]
def yu (n:Wz):ay:=⟨n,[],[],[],[],[],[]⟩
def LI (n:Wz):Bo->Wz|.noIn s=>noIn (yu n) s|.noOut s=>noOut (yu n) s|.adIn l=>Hz (yu n) l|.adOut l=>AR (yu n) l|.noGd s=>jg (yu n) s|.adGd g=>ji (yu n) g|.noRl k=>kJ (yu n) ⟨k,[],[],[],[]⟩|.adRl r=>lL (yu n) r|.noOw v l=>pP (yu n) ⟨v,l,ba []⟩|.adOw o=>qU (yu n) o|.noRt v l=>lU (yu n) ⟨v,l,ba []⟩|.adRt o=>mJ (yu n) o
def uJ:Ed->Wz|.noBox s=>noBox (yu s)|.adBox s=>adBox (yu s)|.noLk s=>nV ⟨s,ba [],0⟩|.adLk x=>lM x|.noSl s=>pD ⟨s,[],[]⟩|.adSl x=>lX x|.at_ n o=>LI n o
theorem oG {α β:Type}(t:β->Wz)(same:α->α->Bool)(aw c:α->β)(a b:List α):(pk same aw c a b).map t=fb same (t∘aw) (t∘c) a b:=by unfold pk fb;rw[bK,eh,eh]
theorem Ki (x y:ay):(ya x y).map (λo=>LI x.name o)=ti De x y:=by
 unfold ya ti JA Nq Fh;rw[bK,bK,bK,bK,oG,oG,oG];congr 1;congr 1;congr 1;congr 1
 .unfold xZ jo;rw[bK,bK,bK];congr 1
  .congr 1
   .split
    .rfl
    .rw[eh];rfl
   .split
    .rfl
    .rw[eh];rfl
  .congr 1
   .split<;>rfl
   .split<;>rfl
 .unfold tG ii;split
  .rfl
  .rw[bK,eh,eh];rfl
theorem C8 (a b:bE)(k:Nat):(zK a b k).map uJ=qR a b k:=by
 have h1:∀x y:ay,((ya x y).map (Ed.at_ x.name)).map uJ=ti De x y:=λx y=>by rw[<-Ki,eh];rfl
 unfold zK qR Jr Fc;rw[bK,bK,bK,bK,oG,oG,eh,List.map_flatMap,List.map_flatMap];congr 1;congr 1
 .congr 1;congr 1;funext p;exact h1 p.1 p.2
 .congr 1;funext x;unfold ME su;rw[bP];exact congrArg _ (h1 (bare x) x)
def NX:Bo->Prop|.noIn s=>bo s=true|.noOut s=>bo s=true|.noGd s=>bo s=true|.adIn l=>jb l/\l≠[]/\l.length<=48|.adOut l=>jb l/\l≠[]/\l.length<=48|.adGd g=>N0 g|.noRl k=>0<=k/\k<=65535|.adRl r=>zO r|.noOw v l=>(0<=v/\v<=4294967295)/\0<=l/\l<=32|.adOw o=>vI o|.noRt v l=>(0<=v/\v<=4294967295)/\0<=l/\l<=32|.adRt o=>vI o
def DX:Ed->Prop|.noBox s=>bo s=true|.adBox s=>bo s=true|.noSl s=>bo s=true|.noLk s=>nu s|.adLk x=>NW x|.adSl x=>NU x|.at_ n o=>bo n=true/\NX o
def F6:Pc:=(2,ba [110,111])
def AF:Pc:=(2,ba [97,116])
def Qv:Pc:=(2,ba [98,111,120])
def J4:Pc:=(2,ba [108,105,110,107])
def xy:Pc:=(2,ba [115,108,105,99,101])
def Qs:Pc:=(2,ba [105,110])
def J3:Pc:=(2,ba [111,117,116])
def uZ:Pc:=(2,ba [103,117,97,114,100])
def xz:Pc:=(2,ba [114,117,108,101])
def Hb:Pc:=(2,ba [111,119,110])
def uY:Pc:=(2,ba [114,111,117,116,101])
def O3:Pc:=(2,ba [116,111])
def vP (u:db):List Pc:=(4,ez u.prio)::((if u.frm=[]then[]else(2,ba [102,114,111,109])::nW u.frm)++((2,ba [109,97,116,99,104])::ma u.mat++((if u.sets=[]then[]else(2,ba [115,101,116])::pv u.sets)++(if u.dst=[]then[(2,ba [100,114,111,112])]else O3::mj u.dst))))
def vQ (o:dc):List Pc:=[(4,ba (gE o.value)),(7,ba [47]),(4,ez o.len),O3,(2,o.dst)]
def vX (x:eQ):List Pc:=(3,x.frm)::(7,ba [45,62])::(3,x.dst)::(if x.cost=1 then[]else[(2,ba [99,111,115,116]),(4,ez x.cost)])
def kG (l:List Wz):List Pc:=l.map λs=>(3,s)
def EK (s:dE):List Pc:=(2,s.name)::(kG s.ports++(2,ba [119,104,101,114,101])::ma s.whr)
def En (g:gP):List Pc:=(2,g.port)::(2,if g.permit then ba [112,101,114,109,105,116]else ba [100,101,110,121])::ma g.mat
def IT:Bo->List Pc|.noIn s=>[Qs,(2,s)]|.noOut s=>[J3,(2,s)]|.adIn l=>Qs::nW l|.adOut l=>J3::nW l|.noGd s=>[uZ,(2,s)]|.adGd g=>uZ::En g|.noRl k=>[xz,(4,eT k)]|.adRl r=>xz::vP r|.noOw v l=>[Hb,(4,eT v),(7,ba [47]),(4,eT l)]|.adOw o=>Hb::vQ o|.noRt v l=>[uY,(4,eT v),(7,ba [47]),(4,eT l)]|.adRt o=>uY::vQ o
def Bo.isNo:Bo->Bool|.noIn _=>true|.noOut _=>true|.noGd _=>true|.noRl _=>true|.noOw _ _=>true|.noRt _ _=>true|_=>false
def wl:Ed->List Pc|.noBox s=>[F6,Qv,(2,s)]|.adBox s=>[Qv,(2,s)]|.noLk s=>[F6,J4,(3,s)]|.adLk x=>J4::vX x|.noSl s=>[F6,xy,(2,s)]|.adSl x=>xy::EK x|.at_ n o=>if o.isNo then F6::AF::(2,n)::IT o else AF::(2,n)::IT o
theorem ML {u:db}(h:zO u):Lx (bs (io u)) (xz::vP u)/\kY (bs (io u)):=by
 have f:∃q,bs (io u)=bs (oO u)++q/\Lx q (if u.dst=[]then[(2,ba [100,114,111,112])]else O3::mj u.dst)/\ge q=true/\kY q:=by
  unfold io;by_cases e:u.dst=[]
  .rw[ax (by rw[e];rfl),ax e,bY,dG];exact⟨_,rfl,.blank (pY (l:=[100,114,111,112]) (r:=[]) (by decide) rfl .nil),rfl,.app (uL (l:=[100,114,111,112]) (by decide)) [32]⟩
  .rw[ap (λh=>e (List.length_eq_zero_iff.1 h)),ap e];simp only[bY,dG,aH];have:=Cr h.dst.1 e (r:=[]) rfl .nil;rw[aZ,aZ]at this;exact⟨_,rfl,.blank (pY (l:=[116,111]) (by decide) rfl (.blank this)),rfl,.app (xI _ h.dst.1 e) _⟩
 obtain⟨q,c,h1,b,t1⟩:=f;have hs:∃p,bs (oO u)=bs (pN u)++p/\Lx (p++q) ((if u.sets=[]then[]else(2,ba [115,101,116])::pv u.sets)++(if u.dst=[]then[(2,ba [100,114,111,112])]else O3::mj u.dst))/\ge (p++q)=true:=by
  unfold oO;rw[mU];refine⟨_,rfl,?_⟩;by_cases e:u.sets=[]
  .rw[e];exact⟨h1,b⟩
  .rw[ap e];have:=Fv h.sets.2 e (k:=0) b h1;refine⟨this,?_⟩;cases hu:u.sets with|nil=>exact absurd hu e|cons x l=>unfold kC;rw[mU,ax rfl];simp only[bY,dG,aH,aW,ag];rfl
 obtain⟨p,d,h2,i⟩:=hs;have g:=xr h.mat i h2;have h3:Lx (bs (pN u)++(p++q)) (xz::vP u):=by
  unfold pN vP;simp only[bY,dG,aH,aW,ag];have jl:Lx (32::109::97::116::99::104::32::(bs (gi u.mat)++(p++q))) ((2,ba [109,97,116,99,104])::(ma u.mat++((if u.sets=[]then[]else(2,ba [115,101,116])::pv u.sets)++(if u.dst=[]then[(2,ba [100,114,111,112])]else O3::mj u.dst)))):=
   .blank (pY (l:=[109,97,116,99,104]) (by decide) rfl (.blank g));have a:u.prio<=4294967295:=by have:=h.prio.2;omega
  unfold si;by_cases e:u.frm=[]
  .rw[ax (by rw[e];rfl),ax e];unfold pO;simp only[bY,dG,aH,aW,ag];exact pY (l:=[114,117,108,101]) (by decide) rfl (.blank (MO h.prio.1 a rfl jl))
  .rw[ap (λh=>e (List.length_eq_zero_iff.1 h)),ap e];unfold pO;simp only[bY,dG,aH,aW,ag];exact pY (l:=[114,117,108,101]) (by decide) rfl (.blank (MO h.prio.1 a rfl (.blank (pY (l:=[102,114,111,109]) (by decide) rfl (.blank (tA h.frm.1 e rfl jl))))))
 rw[c,d,aH];exact⟨h3,by rw[<-aH];exact t1.app _⟩
theorem Fw {o:dc}(h:vI o):Lx (bs (fp o)) (vQ o)/\kY (bs (fp o)):=by
 unfold fp vQ;simp only[bY,dG,aH,aW,ag];have b:o.len<=4294967295:=by have:=h.len.2;omega
 have a:=IS h.dst (r:=[]) rfl .nil;rw[aZ]at a;exact⟨Rh h.value.1 h.value.2 rfl (Fz 15 (l:=[47]) rfl (Ea h.len.1 _) (MO h.len.1 b rfl (.blank (pY (l:=[116,111]) (by decide) rfl (.blank a))))),.app (.app (.app (.app (uM h.dst) [32,116,111,32]) _) [47]) _⟩
theorem MM {x:eQ}(h:NW x):Lx (bs (i6 x)) (J4::vX x)/\kY (bs (i6 x)):=by
 have h0:0<=x.cost:=by have:=h.2.2.1;omega
 have h1:x.cost<=4294967295:=by have:=h.2.2.2;omega
 unfold i6 vX;by_cases e:x.cost=1
 .rw[ax e,ax e];simp only[bY,dG,aH,aW,ag];have a:=QA h.2.1 (r:=[]) rfl .nil;rw[aZ]at a;exact⟨pY (l:=[108,105,110,107]) (by decide) rfl (.blank (QA h.1 rfl (.blank (Fz 4 (l:=[45,62]) rfl (by simp) (.blank a))))),.app (.app (.app (Gi h.2.1) [32,45,62,32]) _) [108,105,110,107,32]⟩
 .rw[ap e,ap e];simp only[bY,dG,aH,aW,ag];have a:=MO h0 h1 (r:=[]) rfl .nil;rw[aZ]at a;exact⟨pY (l:=[108,105,110,107]) (by decide) rfl (.blank (QA h.1 rfl (.blank (Fz 4 (l:=[45,62]) rfl (by simp) (.blank (QA h.2.1 rfl (.blank (pY (l:=[99,111,115,116]) (by decide) rfl (.blank a))))))))),
  .app (.app (.app (.app (.app (sY h0) [32,99,111,115,116,32]) _) [32,45,62,32]) _) [108,105,110,107,32]⟩
theorem oQ:∀(l:List Wz)(a:Wz),bs (iI a l)=bs a++bs (iI (ba []) l)|[],a=>by simp[iI,dG]|q::r,a=>by unfold iI;rw[oQ r,oQ r (ba []++_)];simp only[bY,dG,aH,ag]
theorem Cq:∀{l:List Wz},(∀q∈l,nu q)->∀{r:bM}{L:List Pc},ge r=true->Lx r L->Lx (bs (iI (ba []) l)++r) (kG l++L)/\ge (bs (iI (ba []) l)++r)=true|[],_,r,L,hr,hL=>⟨hL,hr⟩|q::l,h,r,L,hr,hL=>by obtain⟨h1,h2⟩:=Cq (λx a=>h x (bU _ a)) hr hL;unfold iI;rw[oQ];simp only[bY,dG,aH,aW,ag];exact⟨.blank (QA (h q bT) h2 h1),rfl⟩
theorem Jn {s:dE}(h:NU s):Lx (bs (gw s)) (xy::EK s)/\kY (bs (gw s)):=by obtain⟨h1,h2,_,h3⟩:=h;unfold gw EK;rw[bY,bY,oQ];simp only[bY,dG,aH,aW,ag];have a:=xr h3 (r:=[]) rfl .nil;rw[aZ,aZ]at a;obtain⟨b,c⟩:=Cq h2 (r:=32::119::104::101::114::101::32::bs (gi s.whr)) rfl (.blank (pY (l:=[119,104,101,114,101]) (by decide) rfl (.blank a)));exact⟨pY (l:=[115,108,105,99,101]) (by decide) rfl (.blank (IS h1 c b)),.app (.app (.app (.app (xH h3) [32,119,104,101,114,101,32]) _) _) [115,108,105,99,101,32]⟩
theorem Jo {g:gP}(h:N0 g):∃t:Wz,kK g=ba [32,32]++t/\Lx (bs t) (uZ::En g)/\kY (bs t)/\∃q,bs t=103::q:=by
 obtain⟨h1,h2⟩:=h;have a:=xr h2 (r:=[]) rfl .nil;rw[aZ,aZ]at a;refine⟨ba [103,117,97,114,100,32]++g.port++(if g.permit then ba [32,112,101,114,109,105,116,32]else ba [32,100,101,110,121,32])++gi g.mat,?_,?_,?_,?_⟩
 .unfold kK;rw[<-jV,<-jV,<-jV];congr 3
 .unfold En;cases g.permit
  .simp only[bY,dG,aH,aW,ag,jW,LH];exact pY (l:=[103,117,97,114,100]) (by decide) rfl (.blank (IS h1 rfl (.blank (pY (l:=[100,101,110,121]) (by decide) rfl (.blank a)))))
  .simp only[bY,dG,aH,aW,ag,vY];exact pY (l:=[103,117,97,114,100]) (by decide) rfl (.blank (IS h1 rfl (.blank (pY (l:=[112,101,114,109,105,116]) (by decide) rfl (.blank a)))))
 .rw[bY];exact(xH h2).app _
 .simp only[bY,dG,aH,aW];exact⟨_,rfl⟩
theorem ue {c:UInt8}{a:Wz}(h:∃q,bs a=c::q)(b:Wz):∃q,bs (a++b)=c::q:=by obtain⟨q,e⟩:=h;exact⟨q++bs b,by rw[bY,e];rfl⟩
theorem Lq (u:db):∃q,bs (io u)=114::q:=by
 have h1:∃q,bs (pO u)=114::q:=by unfold pO;exact ue ⟨_,dG _⟩ _
 have h2:∃q,bs (si u)=114::q:=by
  unfold si;split
  .exact h1
  .exact ue h1 _
 have a:∃q,bs (oO u)=114::q:=by
  unfold oO;obtain⟨q,e⟩:∃q,bs (pN u)=114::q:=by unfold pN;exact ue h2 _
  rw[mU,e];exact⟨_,rfl⟩
 unfold io;split
 .exact ue a _
 .exact ue (ue a _) _
theorem MP (x:eQ):∃q,bs (i6 x)=108::q:=by unfold i6;split<;>(simp only[bY,dG,aW];exact⟨_,rfl⟩)
theorem I4 (s:dE):∃q,bs (gw s)=115::q:=by unfold gw;rw[bY,bY,oQ];simp only[bY,dG,aW];exact⟨_,rfl⟩
theorem JY {b:bM}{L:List Pc}(h:Lx b L):(10:UInt8)∉b:=λa=>by
 rcases Ot h 10 a with e|e
 .cases e
 .exact absurd e (by unfold jS;decide)
theorem Cu {L:List Pc}(a:Lx (bs t) L)(b:∃c q,bs t=c::q/\jS c)(ht:kY (bs t)):fi (bs t++[10]) 0=t:=by unfold fi;rw[rq _ [] (JY a)];show(⟨(Lib.trimSpaceD (ba (bs t)).data.toList).toArray⟩:Wz)=t;rw[AQ,show t.data.toList=bs t from rfl,(CH b ht).1];exact AQ t
theorem Js {L:List Pc}(d:(10:UInt8)∉bs n)(a:Lx (bs t) L)(b:∃c q,bs t=c::q/\jS c)(ht:kY (bs t)):fi (bs n++10::(32::32::(bs t++[10]))) 1=t:=by
 have h2:(10:UInt8)∉32::32::bs t:=λh=>by
  rcases List.mem_cons.1 h with h|h
  .cases h
  rcases List.mem_cons.1 h with h|h
  .cases h
  .exact JY a h
 unfold fi;rw[rq _ _ d,show(32::32::(bs t++[10]):bM)=(32::32::bs t)++10::[]by simp,rq _ _ h2];show(⟨(Lib.trimSpaceD (ba (32::32::bs t)).data.toList).toArray⟩:Wz)=t;rw[show(ba (32::32::bs t)).data.toList=32::32::bs t from dG _,(CH b ht).2];exact AQ t
theorem Mj (a:bo n=true):(10:UInt8)∉bs (ba [98,111,120,32]++n):=by have:=JY (pY (l:=[98,111,120]) (by decide) (r:=32::bs n) rfl (.blank (by have:=IS a (r:=[]) rfl .nil;rwa[aZ]at this)));rw[bY,dG];exact this
theorem Hx {x:ay}{L:List Pc}(f:bo x.name=true)(b:l8 x=bs (ba [98,111,120,32]++x.name)++10::(bs (ba [32,32]++t)++[10]))(a:Lx (bs t) L)(d:∃c q,bs t=c::q/\jS c)(ht:kY (bs t)):ib x=((ba [97,116,32]++x.name)++ba [32])++t:=by
 unfold ib;congr 1;have e:fo [x] [] []=bs (ba [98,111,120,32]++x.name)++10::(32::32::(bs t++[10])):=by unfold fo bV;simp only[eJ,jI,aZ,b];rw[bY (ba [32,32]),dG];rfl
 rw[e];exact Js (Mj f) a d ht
theorem tB {b:bM}{K:List Pc}(c:bo n=true)(a:Lx b K):Lx (97::116::32::(bs n++32::b)) (AF::(2,n)::K):=pY (l:=[97,116]) (by decide) rfl (.blank (IS c rfl (.blank a)))
theorem sy {b:bM}{K:List Pc}(a:Lx b K):Lx (110::111::32::b) (F6::K):=pY (l:=[110,111]) (by decide) rfl (.blank a)
theorem wW {x:ay}{L:List Pc}(b:bo x.name=true)(d:l8 x=bs (ba [98,111,120,32]++x.name)++10::(bs (ba [32,32]++t)++[10]))(a:Lx (bs t) L)(e:∃c q,bs t=c::q/\jS c)(ht:kY (bs t)):Lx (bs (ib x)) (AF::(2,x.name)::L)/\(ib x).size=x.name.size+4+t.size:=by rw[Hx b d a e ht];refine⟨?_,by simp only[aJ,bn,aD,aL];omega⟩;simp only[bY,dG,aH,aW,ag];exact tB b a
theorem Qn {e:Ed}(h:DX e):Lx (bs (uJ e)) (wl e)/\(uJ e).size<=16384:=by have m:∀{s:Wz},bo s=true->Lx (bs s) [(2,s)]/\s.size<=24:=λ{s} hs=>⟨by have:=IS hs (r:=[]) rfl .nil;rwa[aZ]at this,(eN hs).2⟩;have u:∀{s:Wz},nu s->Lx (bs s) [(3,s)]/\s.size<=49:=λ{s} hs=>⟨by have:=QA hs (r:=[]) rfl .nil;rwa[aZ]at this,mI hs⟩;cases e with
 |noBox s=>obtain⟨a,b⟩:=m h;unfold uJ noBox wl;simp only[bY,dG,aJ,bn,aD,aL];exact⟨sy (pY (l:=[98,111,120]) (by decide) rfl (.blank a)),by show 7+s.size<=_;omega⟩|adBox s=>obtain⟨a,b⟩:=m h;unfold uJ adBox wl;simp only[bY,dG,aJ,bn,aD,aL];exact⟨pY (l:=[98,111,120]) (by decide) rfl (.blank a),by show 4+s.size<=_;omega⟩|noLk s=>obtain⟨a,b⟩:=u h;unfold uJ nV wl;simp only[bY,dG,aJ,bn,aD,aL];exact⟨sy (pY (l:=[108,105,110,107]) (by decide) rfl (.blank a)),by omega⟩|noSl s=>obtain⟨a,b⟩:=m h;unfold uJ pD wl;simp only[bY,dG,aJ,bn,aD,aL];exact⟨sy (pY (l:=[115,108,105,99,101]) (by decide) rfl (.blank a)),by omega⟩|adLk x=>
  obtain⟨a,b⟩:=MM h;obtain⟨q,j⟩:=MP x;have:lM x=i6 x:=by
   have e:fo [] [x] []=bs (i6 x)++[10]:=by simp[fo,bV,bs]
   unfold lM;rw[e];exact Cu a ⟨_,q,j,by unfold jS;decide⟩ b
  show Lx (bs (lM x)) _/\(lM x).size<=_;rw[this];exact⟨a,by have:=xu h;omega⟩|adSl x=>
  obtain⟨a,b⟩:=Jn h;obtain⟨q,j⟩:=I4 x;have:lX x=gw x:=by
   have e:fo [] [] [x]=bs (gw x)++[10]:=by simp[fo,bV,bs]
   unfold lX;rw[e];exact Cu a ⟨_,q,j,by unfold jS;decide⟩ b
  show Lx (bs (lX x)) _/\(lX x).size<=_;rw[this];exact⟨a,by have:=uO h;omega⟩|at_ n o=>
  obtain⟨i,f⟩:=h;have w:=(eN i).2;have hi:∀{v:Int},0<=v->v<=4294967295->Lx (bs (eT v)) [(4,eT v)]/\(eT v).size<=10:=λ{v} h0 h1=>⟨by have:=Rj h0 h1 (r:=[]) rfl .nil;rwa[aZ]at this,jO h0 9 (by omega)⟩;have jk:∀{v l:Int},(0<=v/\v<=4294967295)->(0<=l/\l<=32)->Lx (bs (l9 ⟨v,l,ba []⟩)) [(4,eT v),(7,ba [47]),(4,eT l)]/\(l9 ⟨v,l,ba []⟩).size<=30:=λ{v l} h1 h2=>by have a1:=hi h1.1 h1.2;have p:=hi (v:=l) h2.1 (by omega);unfold l9;simp only[bY,dG,aH,aW,ag,aJ,bn,aD,aL];exact⟨Rj h1.1 h1.2 rfl (Fz 15 (l:=[47]) rfl (by have:=F8 h2.1 [];rwa[aZ]at this) p.1),by omega⟩
  cases o with|noIn s=>obtain⟨a,b⟩:=m f;unfold uJ LI noIn yu wl IT;simp only[bY,dG,aH,aW,ag,aJ,bn,aD,aL];exact⟨sy (tB i (pY (l:=[105,110]) (by decide) rfl (.blank a))),by omega⟩|noOut s=>obtain⟨a,b⟩:=m f;unfold uJ LI noOut yu wl IT;simp only[bY,dG,aH,aW,ag,aJ,bn,aD,aL];exact⟨sy (tB i (pY (l:=[111,117,116]) (by decide) rfl (.blank a))),by omega⟩|noGd s=>obtain⟨a,b⟩:=m f;unfold uJ LI jg yu wl IT;simp only[bY,dG,aH,aW,ag,aJ,bn,aD,aL];exact⟨sy (tB i (pY (l:=[103,117,97,114,100]) (by decide) rfl (.blank a))),by omega⟩|adIn l=>obtain⟨h1,h2,h3⟩:=f;have a:=tA h1 h2 (r:=[]) rfl .nil;rw[aZ,aZ]at a;have b:=jZ h1 (ba [32]);unfold uJ LI Hz yu wl IT;simp only[bY,dG,aH,aW,ag,aJ,bn,aD,aL]at b⊢;exact⟨tB i (pY (l:=[105,110]) (by decide) rfl (.blank a)),by omega⟩|adOut l=>obtain⟨h1,h2,h3⟩:=f;have a:=tA h1 h2 (r:=[]) rfl .nil;rw[aZ,aZ]at a;have b:=jZ h1 (ba [32]);unfold uJ LI AR yu wl IT;simp only[bY,dG,aH,aW,ag,aJ,bn,aD,aL]at b⊢;exact⟨tB i (pY (l:=[111,117,116]) (by decide) rfl (.blank a)),by omega⟩|noRl k=>obtain⟨a,b⟩:=hi (v:=k) f.1 (by have:=f.2;omega);unfold uJ LI kJ QC yu wl IT;simp only[bY,dG,aH,aW,ag,aJ,bn,aD,aL];exact⟨sy (tB i (pY (l:=[114,117,108,101]) (by decide) rfl (.blank a))),by omega⟩|noOw v l=>obtain⟨a,b⟩:=jk f.1 f.2;unfold uJ LI pP QC yu wl IT;simp only[bY,dG,aH,aW,ag,aJ,bn,aD,aL];exact⟨sy (tB i (pY (l:=[111,119,110]) (by decide) rfl (.blank a))),by omega⟩|noRt v l=>obtain⟨a,b⟩:=jk f.1 f.2;unfold uJ LI lU QC yu wl IT;simp only[bY,dG,aH,aW,ag,aJ,bn,aD,aL];exact⟨sy (tB i (pY (l:=[114,111,117,116,101]) (by decide) rfl (.blank a))),by omega⟩|adGd g=>obtain⟨t,e,a,b,q,j⟩:=Jo f;obtain⟨c,d⟩:=wW (x:=⟨n,[],[],[g],[],[],[]⟩) i (by rw[<-e];simp[l8,bV,bs]) a ⟨_,q,j,by unfold jS;decide⟩ b;have hs:=xv f;rw[e,aJ,bn]at hs;exact⟨c,aI (iT d) (by simp only[aD,aL]at hs;show n.size+4+t.size<=_;omega)⟩|adRl r=>obtain⟨a,b⟩:=ML f;obtain⟨q,j⟩:=Lq r;obtain⟨c,d⟩:=wW (x:=⟨n,[],[],[],[r],[],[]⟩) i (by simp[l8,bV,bs]) a ⟨_,q,j,by unfold jS;decide⟩ b;have hs:=xV f;exact⟨c,aI (iT d) (by show n.size+4+_<=_;omega)⟩|adOw o=>obtain⟨a,b⟩:=Fw f;obtain⟨c,d⟩:=wW (x:=⟨n,[],[],[],[],[o],[]⟩) (t:=ba [111,119,110,32]++fp o) (L:=Hb::vQ o) i (by simp[l8,bV,bs,ba,jV]) (by rw[bY,dG];exact pY (l:=[111,119,110]) (by decide) rfl (.blank a)) ⟨111,_,by rw[bY,dG];rfl,by unfold jS;decide⟩ (by rw[bY];exact b.app _);have hs:=oP f;rw[aJ,bn]at d;exact⟨c,aI (iT d) (by show n.size+4+(4+_)<=_;omega)⟩|adRt o=>obtain⟨a,b⟩:=Fw f;obtain⟨c,d⟩:=wW (x:=⟨n,[],[],[],[],[],[o]⟩) (t:=ba [114,111,117,116,101,32]++fp o) (L:=uY::vQ o) i (by simp[l8,bV,bs,ba,jV]) (by rw[bY,dG];exact pY (l:=[114,111,117,116,101]) (by decide) rfl (.blank a)) ⟨114,_,by rw[bY,dG];rfl,by unfold jS;decide⟩ (by rw[bY];exact b.app _);have hs:=oP f;rw[aJ,bn]at d;exact⟨c,aI (iT d) (by show n.size+4+(6+_)<=_;omega)⟩
def eZ {α:Type}(same:α->α->Bool)(a b:List α):Bool:=decide (a.length=b.length)&&a.all λx=>decide (a.countP (same x)=b.countP (same x))
def vO (x y:db):Bool:=(x.prio==y.prio)&&(eZ bg x.frm y.frm&&(fc fj x.mat y.mat&&(fc kO x.sets y.sets&&fc bg x.dst y.dst)))
def FA (x y:ay):Bool:=(x.name.toList==y.name.toList)&&(fc bg x.ins y.ins&&(fc bg x.outs y.outs&&(fc fJ x.guards y.guards&&(eZ vO x.rules y.rules&&(eZ fX x.owns y.owns&&eZ fX x.routes y.routes)))))
def Fe (c d:bE):Bool:=(c.title.toList==d.title.toList)&&((c.routing.toList==d.routing.toList)&&((c.slim==d.slim)&&(fc iK c.fields d.fields&&(fc FA c.boxes d.boxes&&(eZ ij c.links d.links&&eZ gp c.slices d.slices)))))
theorem oU {α K:Type}{same:α->α->Bool}(c:α->K)(hs:∀x y z,c y=c z->same x y=same x z){a b:List α}(h:(a.map c).Perm (b.map c)):eZ same a b=true:=by
 unfold eZ;have e:=h.length_eq;rw[aa,aa]at e;rw[aV e,az,fL];intro x _;rw[bC];have d:∃g:K->Bool,∀y,same x y=g (c y):=by classical refine⟨λk=>decide (∃y,c y=k/\same x y=true),λy=>?_⟩;rw[eD,bC];exact⟨λh=>⟨y,rfl,h⟩,λ⟨z,h1,h2⟩=>by rw[<-hs x z y h1];exact h2⟩
 obtain⟨g,d⟩:=d;have:∀l:List α,l.countP (same x)=(l.map c).countP g:=λl=>by rw[IW];congr 1;funext y;exact d y
 rw[this a,this b];exact h.countP_eq g
theorem I0 {l m:List Wz}(h:nR l=nR m):l.Perm m:=by
 have a:∀l:List Wz,(nR l).Perm l:=λl=>by
  unfold nR Gn;have:=((List.mergeSort_perm (l.map λs=>s.data.toList) λx y=>decide (x<=y))).map λd:List UInt8=>(⟨d.toArray⟩:Wz);rw[eh]at this;have e:(l.map ((λd:List UInt8=>(⟨d.toArray⟩:Wz))∘λs=>s.data.toList))=l:=by
   conv=>rhs;rw[<-List.map_id l]
   exact jF λx _=>by cases x;rfl
  rw[e]at this;exact this
 exact(a l).symm.t (h▸a m)
theorem EZ {f l m:List Wz}(h:l.Perm m):eZ bg f l=eZ bg f m:=by unfold eZ;rw[h.length_eq];congr 2;funext x;rw[h.countP_eq]
theorem Gw (x y z:db)(h:zE y=zE z):vO x y=vO x z:=by cases y;cases z;simp only[zE,db.mk.injEq]at h;obtain⟨rfl,h1,rfl,rfl,rfl⟩:=h;unfold vO;simp only[EZ (I0 h1)]
theorem NI {x y:ay}(h:vL x y):FA x y=true:=by unfold FA;rw[h.nm,h.ins,h.outs,h.grd,oU zE Gw h.rul,oU id (λ_ _ _ h=>congrArg _ h) (by simpa using h.own),oU id (λ_ _ _ h=>congrArg _ h) (by simpa using h.rou),(fO er _ _).2 rfl,(fO er _ _).2 rfl,(fO sD _ _).2 rfl];simp
theorem DP:∀{l m:List ay},L2 vL l m->fc FA l m=true|[],[],_=>rfl|[],_::_,h=>h.elim|_::_,[],h=>h.elim|x::l,y::m,h=>by unfold fc;rw[NI h.1,DP h.2];rfl
theorem CS {c d:bE}(h:wE c d):Fe c d=true:=by unfold Fe;rw[h.t,h.f,h.r,h.s,DP h.b,oU id (λ_ _ _ h=>congrArg _ h) (by simpa using h.l),oU id (λ_ _ _ h=>congrArg _ h) (by simpa using h.x),(fO nN _ _).2 rfl];simp
theorem mf {α β:Type}(f:α->β){P:List α->α->Bool}(c:∀a x,P a x=true->∀y∈a,f y≠f x):∀l a,fT P a l=true->(l.map f).Nodup/\∀x∈l,∀y∈a,f y≠f x
 |[],_,_=>⟨fF,λx h=>by cases h⟩|x::l,a,h=>by
  unfold fT at h;rw[aS]at h;obtain⟨h1,h2⟩:=mf f c l _ h.2;refine⟨?_,λy b z d=>?_⟩
  .rw[bP,jm];refine⟨λg=>?_,h1⟩;obtain⟨y,b,e⟩:=List.mem_map.1 g;exact h2 y b x (by simp) e.symm
  .rcases List.mem_cons.1 b with rfl|b
   .exact c _ _ h.1 z d
   .exact h2 y b z (eI _ d)
theorem ve:∀l c,me c l=true->l.Nodup/\∀x∈l,x∉c
 |[],_,_=>⟨fF,λx h=>by cases h⟩|x::l,c,h=>by
  unfold me at h;simp only[aS,bz]at h;obtain⟨h1,h2⟩:=ve l _ h.2;refine⟨List.nodup_cons.2 ⟨λa=>h2 x a (by simp),h1⟩,λy b a=>?_⟩;rcases List.mem_cons.1 b with rfl|b
  .exact sr h.1.2 a
  .exact h2 y b (eI _ a)
theorem vU:∀(l:List ay) jj,iv jj l=true->((l.map (·.name)).Nodup/\∀x∈l,x.name∉jj)/\∀x∈l,(x.ins++x.outs).Nodup
 |[],_,_=>⟨⟨fF,λx h=>by cases h⟩,λx h=>by cases h⟩|x::l,jj,h=>by
  unfold iv at h;simp only[aS,bz]at h;obtain⟨⟨⟨_,h0⟩,hf⟩,h⟩:=h;obtain⟨⟨h1,h2⟩,h3⟩:=vU l _ h;refine⟨⟨?_,λy a b=>?_⟩,λy a=>?_⟩
  .rw[bP,jm];refine⟨λb=>?_,h1⟩;obtain⟨y,a,e⟩:=List.mem_map.1 b;exact h2 y a (by simp[e])
  .rcases List.mem_cons.1 a with rfl|a
   .exact sr h0 b
   .exact h2 y a (eI _ b)
  .rcases List.mem_cons.1 a with rfl|a
   .exact(ve _ _ hf).1
   .exact h3 y a
theorem vW {f:i8}{q:List (Wz×Bool)}:∀(l:List eQ)(a:i8),iw f q a l=true->(l.map (·.frm)).Nodup/\∀x∈l,(a x.frm).isSome=true
 |[],_,_=>⟨fF,λx h=>by cases h⟩|x::l,a,h=>by
  unfold iw at h;simp only[aS]at h;obtain⟨⟨_,h0⟩,h⟩:=h;obtain⟨h1,h2⟩:=vW l _ h;have c:∀s,(DE a x.frm s).isSome=true->s≠x.frm/\(a s).isSome=true:=λs h=>by
   unfold DE at h;by_cases e:s=x.frm
   .rw[ax e]at h;cases h
   .rw[ap e]at h;exact⟨e,h⟩
  refine⟨?_,λy b=>?_⟩
  .rw[bP,jm];refine⟨λd=>?_,h1⟩;obtain⟨y,b,e⟩:=List.mem_map.1 d;exact(c _ (h2 y b)).1 e
  .rcases List.mem_cons.1 b with rfl|b
   .exact h0
   .exact(c _ (h2 y b)).2
theorem FD {α:Type}{p:α->Bool}{l:List α}(h:l.any p=false):∀x∈l,p x=false:=λx a=>by rw[Dx]at h;simpa using h x a
theorem tY {c:bE}(h:jE c=true):Uq c:=by
 unfold jE at h;simp only[aS]at h;obtain⟨⟨⟨⟨⟨_,_⟩,k⟩,f⟩,j⟩,hs⟩:=h;obtain⟨⟨m,_⟩,p⟩:=vU _ _ k;unfold pH at f;rw[fL]at f;refine⟨m,λx i=>?_,(vW _ _ j).1,(mf (·.name) (λb x h y a e=>?_) _ _ hs).1⟩
 .have d:=f x i;unfold tj at d;simp only[aS]at d;obtain⟨⟨⟨_,hr⟩,l⟩,ht⟩:=d;have g:∀b o,gh c (kF x) x.ins.length b o=true->∀y∈b,IP y≠IP o:=λb o h y a e=>by unfold gh at h;simp only[aS,bz]at h;have:=FD h.1.2 y a;unfold IP at e;rw[Bu]at e;rw[bX]at this;exact this e
  refine⟨p x i,(mf (·.prio) (λb r h y a e=>?_) _ _ hr).1,(mf IP g _ _ l).1,(mf IP g _ _ ht).1⟩;unfold nH at h;simp only[aS,bz]at h;have:=FD h.1.1.1.1.1.2 y a;rw[bX]at this;exact this e
 .unfold rm at h;simp only[aS,bz]at h;have:=FD h.1.1.2 y a;rw[bX]at this;exact this e
theorem pj {α β:Type}{same:α->α->Bool}{aw c:α->β}{a b:List α}{e:β}(h:e∈pk same aw c a b):(∃x∈a,e=aw x)\/∃x∈b,e=c x:=by
 unfold pk at h;rcases List.mem_append.1 h with h|h;all_goals obtain⟨x,d,rfl⟩:=List.mem_map.1 h
 .exact .inl ⟨x,(List.mem_filter.1 d).1,rfl⟩
 .exact .inr ⟨x,(List.mem_filter.1 d).1,rfl⟩
theorem Kh {x y:ay}(c:NS x)(b:NS y):∀o∈ya x y,NX o:=by
 have f:∀{o:dc},vI o->(0<=o.value/\o.value<=4294967295)/\0<=o.len/\o.len<=32:=λh=>⟨h.value,h.len⟩;intro o a;unfold ya at a;rcases List.mem_append.1 a with a|a;rcases List.mem_append.1 a with a|a;rcases List.mem_append.1 a with a|a;rcases List.mem_append.1 a with a|a
 .unfold xZ at a;rcases List.mem_append.1 a with a|a
  .rcases List.mem_append.1 a with a|a
   .split at a
    .cases a
    .obtain⟨s,hs,rfl⟩:=List.mem_map.1 a;exact c.ins.1 s hs
   .split at a
    .cases a
    .obtain⟨s,hs,rfl⟩:=List.mem_map.1 a;exact c.outs.1 s hs
  .rcases List.mem_append.1 a with a|a
   .split at a
    .cases a
    .rename_i h;rw[List.mem_singleton.1 a];exact⟨b.ins.1,λe=>h (.inr (by rw[e];rfl)),b.ins.2⟩
   .split at a
    .cases a
    .rename_i h;rw[List.mem_singleton.1 a];exact⟨b.outs.1,λe=>h (.inr (by rw[e];rfl)),b.outs.2⟩
 .unfold tG at a;split at a
  .cases a
  rcases List.mem_append.1 a with a|a
  .obtain⟨s,hs,rfl⟩:=List.mem_map.1 a;rcases((wZ x.guards [] fF).2 s).1 hs with h|h
   .cases h
   .obtain⟨g,d,rfl⟩:=List.mem_map.1 h;exact(c.grd.2 g d).1
  .obtain⟨g,d,rfl⟩:=List.mem_map.1 a;exact b.grd.2 g d
 .rcases pj a with⟨r,hr,rfl⟩|⟨r,hr,rfl⟩
  .exact(c.rul.2 r hr).prio
  .exact b.rul.2 r hr
 .rcases pj a with⟨r,hr,rfl⟩|⟨r,hr,rfl⟩
  .exact f (c.own.2 r hr)
  .exact b.own.2 r hr
 .rcases pj a with⟨r,hr,rfl⟩|⟨r,hr,rfl⟩
  .exact f (c.rou.2 r hr)
  .exact b.rou.2 r hr
theorem KW {a b:bE}(f:RY a)(g:RY b)(k:Nat):∀e∈zK a b k,DX e:=by
 intro e c;unfold zK at c;rcases List.mem_append.1 c with c|c;rcases List.mem_append.1 c with c|c;rcases List.mem_append.1 c with c|c
 .obtain⟨x,d,rfl⟩:=List.mem_map.1 c;exact(f.box.2 x (eH d)).nm
 .obtain⟨p,j,c⟩:=List.mem_flatMap.1 c;obtain⟨o,h,rfl⟩:=List.mem_map.1 c;have i:=pS (ff j);have h1:=f.box.2 _ i.1;exact⟨h1.nm,Kh h1 (g.box.2 _ i.2) o h⟩
 .obtain⟨x,d,c⟩:=List.mem_flatMap.1 c;have h1:=g.box.2 x (eH d);rcases List.mem_cons.1 c with rfl|c
  .exact h1.nm
  .obtain⟨o,h,rfl⟩:=List.mem_map.1 c;exact⟨h1.nm,Kh (ww h1) h1 o h⟩
 .rcases List.mem_append.1 c with c|c
  .rcases pj c with⟨x,d,rfl⟩|⟨x,d,rfl⟩
   .exact(f.lnk.2 x d).1
   .exact g.lnk.2 x d
  .rcases pj c with⟨x,d,rfl⟩|⟨x,d,rfl⟩
   .exact(f.slc.2 x d).1
   .exact g.slc.2 x d
end Go.Proofs.YtgfgoaeaicefcaaGreatDoor
