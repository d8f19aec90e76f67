/- Part of DeltaBack. -/
import Derived.Test.YtgfgoaeaicefcaaGreatDoorQA2
import Derived.Test.YtgfgoaeaicefcaaGreatDoorQSh
import Derived.Shelf.Strings.SlTrimAscii
import Derived.Lib.AppendIntMem
import Derived.Shelf.Strings.BuilderK
set_option maxHeartbeats 16000000
set_option maxRecDepth 100000
set_option linter.all false
namespace Go.Proofs.YtgfgoaeaicefcaaGreatDoor
open Go.RowKit Tryz
variable {w w':Wq}{T:TypeId}
theorem OI (w:Wq)(x:Value):(Instr.typeAssert (.iface 323 x) 219 323 true).run prog w=.ok (.tuple #[x,.bool true]) w:=by kernel_rfl
theorem Nm (w:Wq)(x:Value):(Instr.typeAssert (.iface 324 x) 219 324 true).run prog w=.ok (.tuple #[x,.bool true]) w:=by kernel_rfl
def zP:Value:=.agg #[.nilIface,.nilIface]
theorem CK (w:Wq)(x:Value):(Instr.typeAssert (.iface 317 x) 219 323 true).run prog w=.ok (.tuple #[zP,.bool false]) w:=by kernel_rfl
theorem xK (w:Wq)(x:Value):(Instr.typeAssert (.iface 317 x) 219 324 true).run prog w=.ok (.tuple #[zP,.bool false]) w:=by kernel_rfl
theorem CJ (w:Wq)(x:Value):(Instr.typeAssert (.iface 287 x) 219 323 true).run prog w=.ok (.tuple #[zP,.bool false]) w:=by kernel_rfl
theorem xJ (w:Wq)(x:Value):(Instr.typeAssert (.iface 287 x) 219 324 true).run prog w=.ok (.tuple #[zP,.bool false]) w:=by kernel_rfl
theorem EI (w:Wq)(x:Value):(Instr.typeAssert (.iface 319 x) 219 323 true).run prog w=.ok (.tuple #[zP,.bool false]) w:=by kernel_rfl
theorem zX (w:Wq)(x:Value):(Instr.typeAssert (.iface 319 x) 219 324 true).run prog w=.ok (.tuple #[zP,.bool false]) w:=by kernel_rfl
theorem zY (w:Wq)(x:Value):(Instr.typeAssert (.iface 323 x) 219 324 true).run prog w=.ok (.tuple #[zP,.bool false]) w:=by kernel_rfl
theorem Gj (w:Wq)(x:Value):(Instr.typeAssert (.iface 324 x) 219 323 true).run prog w=.ok (.tuple #[zP,.bool false]) w:=by kernel_rfl
def N1 (b:Bool)(w:Wq)(e:Ending)(a:Wq):Prop:=e=.returned (.bool b)/\a=w
theorem AY (t:bJ)(w:Wq):Calls prog 431 #[eY t] w (N1 t.isOr w):=by have b:=Nm;have h1:=xK;have h2:=xJ;have h3:=zX;have a:=zY;generalize zP=z at*;cases t<;>(simp only[eY,bJ.isOr];go_enter func431,ntmps431;go_wp2_with fail;go_ret;exact⟨rfl,rfl⟩)
theorem sP (t:bJ)(w:Wq):Calls prog 423 #[eY t] w (N1 t.joined w):=by have g:=Nm;have h1:=xK;have h2:=xJ;have h3:=zX;have f:=zY;have a:=OI;have b:=CK;have c:=CJ;have d:=EI;have e:=Gj;generalize zP=z at*;cases t<;>(simp only[eY,bJ.joined];go_enter func423,ntmps423;go_wp2_with fail;go_ret;exact⟨rfl,rfl⟩)
theorem FR (b:Bool)(w:Wq):Calls prog 430 #[.bool b] w λe a=>e=.returned (I6 b.toNat)/\a=w:=by cases b<;>(go_enter func430,ntmps430;go_wp2_with fail;go_ret;exact⟨rfl,rfl⟩)
def qG:bJ->FuncId|.leaf _=>416|.test _=>411|.not _=>420|.and _ _=>427|.or _ _=>433
def IL (n:Nat)(w:Wq)(e:Ending)(w':Wq):Prop:=e=.returned (I6 n)/\JJ w w'
theorem mH (t:bJ):∃T x,eY t=.iface T x/\(∀w,(method 548 T x "reach/expr.nesting").run prog w=.ok (qG t,x) w)/\(∀w,(nilAhead 470 T x "reach/expr.nesting").run prog w=.ok (some false) w)/\∀w,(callFunc (qG t) #[x]).run prog w=.ok (.enter (qG t) #[x]) w:=by cases t<;>exact⟨_,_,rfl,λw=>by kernel_rfl,λw=>by kernel_rfl,λw=>by kernel_rfl⟩
def qX (t:bJ):Prop:=∀(x:Value)(w:Wq),(∃T,eY t=.iface T x)->Calls prog (qG t) #[x] w (IL t.nest w)
theorem QP (t:bJ)(h:qX t)(g:t.nest<=1000)(w:Wq):Calls prog 420 #[.agg #[eY t]] w (IL (bJ.not t).nest w):=by have a:=Hi (sP t);obtain⟨T,x,b,i,k,l⟩:=mH t;have f:=Hi λw'=>h x w' ⟨T,b⟩;rw[b]at a⊢;generalize qG t=F at*;clear h b;have hN:(bJ.not t).nest=t.nest+(if t.joined then 2 else 1):=rfl;generalize(bJ.not t).nest=N at*;generalize t.nest=n at*;obtain⟨j,c⟩:=Jj t.joined;rw[c]at hN a;clear c;cases j;all_goals simp only[vY,LH,jW]at hN;subst hN;go_enter func420,ntmps420;go_wp2_with(first|(go_at_call 423;refine(a.o _).mono ?_;rintro e m ⟨rfl,rfl⟩)|(refine(f.o _).mono ?_;rintro e o ⟨rfl,d⟩;have vb:=Hi (((aB w.heap.size w).alloc Jq _).t (d.mono (by simp)));clear d));go_ret;exact⟨by go_num,vb.o⟩
theorem B8 (l r:bJ)(a:qX l)(hr:qX r)(c d:Bool)(z:l.nest<=1000)(A:r.nest<=1000)(w:Wq):Calls prog 425 #[.agg #[eY l,eY r],I6 c.toNat,I6 d.toNat] w (IL (max (l.nest+c.toNat) (r.nest+d.toNat)) w):=by
 obtain⟨T1,i,o,C,E,G⟩:=mH l;obtain⟨b,j,m,D,F,H⟩:=mH r;have c1:=Hi λw'=>a i w' ⟨T1,o⟩;have c2:=Hi λw'=>hr j w' ⟨b,m⟩;rw[o,m];generalize qG l=F1 at*;generalize qG r=F2 at*;clear a hr o m;generalize l.nest=n1 at*;generalize r.nest=n2 at*;obtain⟨W,k⟩:=Jj (w.alloc (.cells #[.iface T1 i,.iface b j] 321 (0,0)));have v:=Hi (show JJ w W by rw[<-k];exact(aB w.heap.size w).alloc Jq _);have f:W.heap[w.heap.size]?=some (.cells #[.iface T1 i,.iface b j] 321 (0,0)):=Jy k;have a:=(Array.getElem?_eq_some_iff.1 f).1;have t:=aA W _ 0 _ _ _ f;have u:=aA W _ 1 _ _ _ f;simp only[aQ,aN,aO]at t u;clear f;have I:=sO c;have B:=sO d;generalize c.toNat=k1 at*;generalize d.toNat=k2 at*;go_enter func425,ntmps425;go_upto_region 1 with fail;clear k;have J:IntKind.i64.wrap ((n1:Int)+(k1:Int))=(n1:Int)+(k1:Int):=bu _ (by omega);have K:IntKind.i64.wrap ((n2:Int)+(k2:Int))=(n2:Int)+(k2:Int):=bu _ (by omega);have g:=Hi λn=>ar (aB W.heap.size W) n;go_region_held3 (λW'=>W'.cell? ⟨w.heap.size,0,none⟩=some (.iface T1 i)/\W'.cell? ⟨w.heap.size,1,none⟩=some (.iface b j))(first|exact hHeld|go_keep|exact⟨(h.cell (p:=⟨w.heap.size,0,none⟩) a).t t,(h.cell (p:=⟨w.heap.size,1,none⟩) a).t u⟩|exact⟨(jl.cell (p:=⟨w.heap.size,0,none⟩) a).t t,(jl.cell (p:=⟨w.heap.size,1,none⟩) a).t u⟩)((first|(have s:=jl;(with_reducible refine(c1.o _).mono ?_);rintro e x ⟨rfl,q⟩;have h:=(JK s q))|(have s:=jl;(with_reducible refine(c2.o _).mono ?_);rintro e x ⟨rfl,q⟩;have h:=(JK s q))|((with_reducible refine(c1.o _).mono ?_);rintro e y ⟨rfl,j8⟩;have jl:=(g.o 1).t (j8.mono (g.o 1).size))|((with_reducible refine(c2.o _).mono ?_);rintro e y ⟨rfl,j8⟩;have jl:=(g.o 1).t (j8.mono (g.o 1).size))));all_goals have hF:=Hi (JK v.o h);go_wp2_with fail
 all_goals go_ret;refine⟨?_,hF.o⟩;show Ending.returned (I6 _)=_;congr 2;omega
theorem QQ (l r:bJ)(a:qX l)(hr:qX r)(o:l.nest<=1000)(q:r.nest<=1000)(w:Wq):Calls prog 427 #[.agg #[eY l,eY r]] w (IL (bJ.and l r).nest w):=by
 have k:=Hi (AY l);have m:=Hi (sP r);have z:=Hi FR;have j:=Hi λx y w'=>B8 l r a hr x y o q w';obtain⟨T1,h,g,_⟩:=mH l;obtain⟨c,i,f,_⟩:=mH r;have hN:(bJ.and l r).nest=max (l.nest+l.isOr.toNat) (r.nest+r.joined.toNat):=rfl;rw[g,f]at j⊢;rw[g]at k;rw[f]at m;clear a hr g f o q;generalize(bJ.and l r).nest=N at*;generalize l.isOr=b1 at*;generalize r.joined=b2 at*;replace hN:=Hi hN;obtain⟨W,d⟩:=Jj (w.alloc (.cells #[.iface T1 h,.iface c i] 323 (0,0)));have A:=Hi (show JJ w W by rw[<-d];exact(aB w.heap.size w).alloc Jq _);have b:W.heap[w.heap.size]?=some (.cells #[.iface T1 h,.iface c i] 323 (0,0)):=Jy d;have a:=(Array.getElem?_eq_some_iff.1 b).1;have u:=aA W _ 0 _ _ _ b;have v:=aA W _ 1 _ _ _ b;simp only[aQ,aN,aO]at u v;clear b;go_enter func427,ntmps427;go_upto_region 1 with fail;clear d;have s:=Hi λn=>ar (aB W.heap.size W) n;go_region_held3 (λW'=>W'.cell? ⟨w.heap.size,0,none⟩=some (.iface T1 h)/\W'.cell? ⟨w.heap.size,1,none⟩=some (.iface c i))(first|exact hHeld|go_keep|exact⟨(jl.cell (p:=⟨w.heap.size,0,none⟩) a).t u,(jl.cell (p:=⟨w.heap.size,1,none⟩) a).t v⟩)((first|((with_reducible refine(j.o b1 b2 _).mono ?_);rintro e B ⟨rfl,j8⟩;have jl:=(s.o 1).t (j8.mono (s.o 1).size))|((with_reducible refine(k.o _).mono ?_);rintro e t ⟨rfl,rfl⟩)|((with_reducible refine(m.o _).mono ?_);rintro e t ⟨rfl,rfl⟩)|((with_reducible refine(z.o _ _).mono ?_);rintro e t ⟨rfl,rfl⟩)));all_goals have hF:=Hi (JK A.o jl);go_wp2_with fail
 all_goals go_ret;exact⟨by rw[hN.o];rfl,hF.o⟩
theorem RJ (l r:bJ)(a:qX l)(hr:qX r)(m:l.nest<=1000)(o:r.nest<=1000)(w:Wq):Calls prog 433 #[.agg #[eY l,eY r]] w (IL (bJ.or l r).nest w):=by
 have k:=Hi (AY r);have v:=Hi FR;have j:=Hi (show∀(b:Bool)(w':Wq),Calls prog 425 #[.agg #[eY l,eY r],I6 0,I6 b.toNat] w' (IL (max (l.nest+false.toNat) (r.nest+b.toNat)) w')from λb w'=>B8 l r a hr false b m o w');obtain⟨T1,h,s,_⟩:=mH l;obtain⟨d,i,g,_⟩:=mH r;have hN:(bJ.or l r).nest=max (l.nest+false.toNat) (r.nest+r.isOr.toNat):=rfl;rw[s,g]at j⊢;rw[g]at k;clear a hr s g m o;generalize(bJ.or l r).nest=N at*;generalize r.isOr=b2 at*;replace hN:=Hi hN;obtain⟨W,f⟩:=Jj (w.alloc (.cells #[.iface T1 h,.iface d i] 324 (0,0)));have x:=Hi (show JJ w W by rw[<-f];exact(aB w.heap.size w).alloc Jq _);have c:W.heap[w.heap.size]?=some (.cells #[.iface T1 h,.iface d i] 324 (0,0)):=Jy f;have a:=(Array.getElem?_eq_some_iff.1 c).1;have t:=aA W _ 0 _ _ _ c;have u:=aA W _ 1 _ _ _ c;simp only[aQ,aN,aO]at t u;clear c;go_enter func433,ntmps433;go_upto_region 1 with fail;clear f;have q:=Hi λn=>ar (aB W.heap.size W) n;go_region_held3 (λW'=>W'.cell? ⟨w.heap.size,0,none⟩=some (.iface T1 h)/\W'.cell? ⟨w.heap.size,1,none⟩=some (.iface d i))(first|exact hHeld|go_keep|exact⟨(jl.cell (p:=⟨w.heap.size,0,none⟩) a).t t,(jl.cell (p:=⟨w.heap.size,1,none⟩) a).t u⟩)((first|((with_reducible refine(j.o b2 _).mono ?_);rintro e z ⟨rfl,j8⟩;have jl:=(q.o 1).t (j8.mono (q.o 1).size))|((with_reducible refine(k.o _).mono ?_);rintro e y ⟨rfl,rfl⟩)|((with_reducible refine(v.o _ _).mono ?_);rintro e y ⟨rfl,rfl⟩)));all_goals have hF:=Hi (JK x.o jl);go_wp2_with fail
 all_goals go_ret;exact⟨by rw[hN.o];rfl,hF.o⟩
theorem pE:∀t:bJ,t.nest<=1000->qX t
 |.leaf b,_=>by rintro x w ⟨T,a⟩;injection a with _ hx;subst hx;simp only[qG,bJ.nest];go_enter func416,ntmps416;go_wp2_with fail;go_ret;exact⟨rfl,(aB w.heap.size w).alloc Jq _⟩|.test t,_=>by rintro x w ⟨T,a⟩;injection a with _ hx;subst hx;simp only[qG,bJ.nest,fM];go_enter func411,ntmps411;go_wp2_with fail;go_ret;exact⟨rfl,(aB w.heap.size w).alloc Jq _⟩|.not t,h=>by
  have h1:t.nest<=1000:=by simp only[bJ.nest]at h;omega
  rintro x w ⟨T,a⟩;injection a with _ hx;subst hx;exact QP t (pE t h1) h1 w|.and l r,h=>by
  have h1:l.nest<=1000/\r.nest<=1000:=by simp only[bJ.nest]at h;omega
  rintro x w ⟨T,a⟩;injection a with _ hx;subst hx;exact QQ l r (pE l h1.1) (pE r h1.2) h1.1 h1.2 w|.or l r,h=>by
  have h1:l.nest<=1000/\r.nest<=1000:=by simp only[bJ.nest]at h;omega
  rintro x w ⟨T,a⟩;injection a with _ hx;subst hx;exact RJ l r (pE l h1.1) (pE r h1.2) h1.1 h1.2 w
def gx:List Wz:=[⟨#[33,61]⟩,⟨#[60,61]⟩,⟨#[62,61]⟩,⟨#[46,46]⟩,⟨#[45,62]⟩,⟨#[40]⟩,⟨#[41]⟩,⟨#[33]⟩,⟨#[61]⟩,⟨#[60]⟩,⟨#[62]⟩,⟨#[38]⟩,⟨#[124]⟩,⟨#[44]⟩,⟨#[58]⟩,⟨#[47]⟩]
def Ax:Array Value:=(gx.map Value.string).toArray
def rR:List Bool:=[false,false,false,false,true,false,false,false,true,false,true,false,true,true,false,false,false,false,false,true]
def FV:Array Value:=(rR.map Value.bool).toArray
structure gu (w:Wq):Prop where
 maxlen:∃m,w.cell? ⟨6,0,none⟩=some (I6 m)errS:∃ev,w.cell? ⟨10,0,none⟩=some ev/\(ev=.nilIface\/∃te pe,ev=.iface te pe)u8:Lib.Utf8Tabs 4 5 w
 signs:∃t fr,w.heap[2]?=some (.cells Ax t fr)used:∃t fr,w.heap[7]?=some (.cells FV t fr)pow:Lib.TabIs prog w "internal/strconv.uint64pow10" .u64 Lib.pow10Tab
 asp:Lib.TabIs prog w "strings.asciiSpace" .u8 Lib.asciiSpaceTab
 wht:Lib.WhiteTab 1 w
theorem gI (b:JJ w w'){a:Addr}{v:Value}(h:w.cell? a=some v):w'.cell? a=some v:=(b.cell (bB w a h)).t h
theorem gu.below (h:gu w)(a:JJ w w'):gu w' where maxlen:=let⟨m,hm⟩:=h.maxlen;⟨m,gI a hm⟩;errS:=let⟨ev,h1,h2⟩:=h.errS;⟨ev,gI a h1,h2⟩;u8:=⟨λc e=>gI a (h.u8.1 c e),λi hi=>⟨gI a (h.u8.2 i hi).1,gI a (h.u8.2 i hi).2⟩⟩;signs:=let⟨t,fr,hs⟩:=h.signs;⟨t,fr,(a.block _ (Array.getElem?_eq_some_iff.1 hs).1).t hs⟩;used:=let⟨t,fr,hs⟩:=h.used;⟨t,fr,(a.block _ (Array.getElem?_eq_some_iff.1 hs).1).t hs⟩;pow:=Lib.tabBelow_of_tabIs h.pow _ a;asp:=Lib.tabBelow_of_tabIs h.asp _ a;wht:=by obtain⟨T,g,R,f,h1,h2,h3,b,d⟩:=h.wht;exact⟨T,g,R,f,gI a h1,gI a h2,gI a h3,gI a b,λi hi=>gI a (d i hi)⟩
theorem gu.drewN (h:gu w)(n:Nat):gu (w.drewN n):=h.below (ar Jz n)
theorem gu.alloc (h:gu w)(o:Obj):gu (w.alloc o):=h.below (Jz.alloc Jq o)
theorem gu.qt (h:gu w)(q:Qt w w'):gu w':=h.below (q.below _)
theorem gu.use (h:gu w)(i:Nat)(b:Bool)(c:rR[i]?=some b):w.cell? ⟨7,i,none⟩=some (.bool b):=by obtain⟨t,a,hs⟩:=h.used;rw[aA w _ i _ _ a hs];simp[FV,c]
theorem gu.uses (h:gu w)(i j k m:Nat){a b c d:Bool}(h0:rR[i]?=some a)(h1:rR[j]?=some b)(h2:rR[k]?=some c)(h3:rR[m]?=some d):w.cell? ⟨7,i,none⟩=some (.bool a)/\w.cell? ⟨7,j,none⟩=some (.bool b)/\w.cell? ⟨7,k,none⟩=some (.bool c)/\w.cell? ⟨7,m,none⟩=some (.bool d):=⟨h.use i a h0,h.use j b h1,h.use k c h2,h.use m d h3⟩
structure QL (T:TypeId):Prop where
 lies:liesAt prog prog.depth T (2/prog.cellsOf T) 0 179 1=true
 ne:T≠5
theorem Q9:QL 179:=⟨by kernel_rfl,by decide⟩
theorem Q8:QL 181:=⟨by kernel_rfl,by decide⟩
abbrev FL (T:TypeId)(B b:Nat)(l:bM)(w:Wq):Prop:=Lib.IsBuilderF T 5 B b (Lib.byteCells l) w
abbrev jc (b:Nat)(w w':Wq):Prop:=Lib.OthersKept 5 (some b) w w'
theorem Kl (X:QL T)(b:Nat)(w:Wq)(h0:w.cell? ⟨b,0,none⟩=some (.pointer none))(c:w.shape? b=some (T,2))(g:w.frozen? ⟨b,0,none⟩=false):Calls prog 250 #[.pointer (some ⟨b,0,none⟩)] w λe w'=>e=.returned (.tuple #[])/\w'=w.setCell ⟨b,0,none⟩ (.pointer (some ⟨b,0,none⟩)):=by obtain⟨j,a,d⟩:=Option.map_eq_some_iff.1 (show(prog.info? 179).map (·.size)=some 2 by kernel_rfl);have f:=Hi X.lies;replace d:=Hi d;replace a:=Hi a;replace c:=Hi c;go_enter func250,ntmps250;go_wp2;rw[Lib.run_to_unsafe w ⟨b,0,none⟩ underlying176 underlying327 a.o (by rw[d.o];decide) c.o (Nat.zero_lt_succ 1)];simp only[Result.andThen];rw[Nd];go_wp2;rw[run_callFunc_extern func293 (by kernel_rfl) (by kernel_rfl) (by kernel_rfl) (e:=Extern.AbiNoEscape.same) (by kernel_rfl)];rw[Lib.run_noEscape];simp only[Result.andThen];rw[Nd];go_wp2;rw[Lib.run_from_unsafe w ⟨b,0,none⟩ underlying327 underlying176 a.o c.o f.o];simp only[Result.andThen];rw[Nd];go_wp2;go_end0;exact⟨rfl,rfl⟩
theorem NK (b:Nat)(w:Wq)(h0:w.cell? ⟨b,0,none⟩=some (.pointer (some ⟨b,0,none⟩))):Calls prog 250 #[.pointer (some ⟨b,0,none⟩)] w λe w'=>e=.returned (.tuple #[])/\w'=w:=by obtain⟨j,a,_⟩:=Option.map_eq_some_iff.1 (show(prog.info? 179).map (·.size)=some 2 by kernel_rfl);replace a:=Hi a;go_enter func250,ntmps250;go_wp2;rw[Lib.run_neq_ptr_same w _ underlying176 a.o];go_wp2;go_end0;exact⟨rfl,rfl⟩
theorem DS (X:QL T)(B b:Nat)(bs:List Value)(w:Wq)(h:Lib.IsBuilderF T 5 B b bs w):Calls prog 250 #[.pointer (some ⟨b,0,none⟩)] w λe w'=>e=.returned (.tuple #[])/\(Lib.BuilderAtF T 5 B b (.pointer (some ⟨b,0,none⟩)) bs w'/\Below B w w'/\jc b w w'):=by
 rcases h with h|h
 .refine(Kl X b w h.cell0 h.shape h.frozen0).mono ?_;rintro e w' ⟨rfl,rfl⟩;exact⟨rfl,h.used _,(aB B w).setCell (p:=⟨b,0,none⟩) h.1 _,(Da _ _ w).setCell ⟨b,0,none⟩ rfl _⟩
 .refine(NK b w h.cell0).mono ?_;rintro e w' ⟨rfl,rfl⟩;exact⟨rfl,h,aB B _,Da _ _ _⟩
theorem AO:(prog.info? 5).map (λi=>(i.zero,i.size,i.bytes))=some (some (.int .u8 0),1,1):=by kernel_rfl
theorem FB (X:QL T)(B b:Nat)(l:bM)(s:Wz)(w:Wq)(h:FL T B b l w)(C:l.length+s.size<=140737488355328)(J:B<=w.heap.size):Calls prog 184 #[.pointer (some ⟨b,0,none⟩),.string s] w λe w'=>(∃v,e=.returned v)/\FL T B b (l++s.data.toList) w'/\Below B w w'/\jc b w w':=by
 obtain⟨D,hi,m,j9,n⟩:=mc AO;have y:=Hi (DS X B b _ w h);have hi:=Hi hi;have m:=Hi m;have j9:=Hi j9;have n:=Hi n;have z:=Hi X.ne;go_enter func184,ntmps184;go_wp2_with(go_at_call 250;refine y.o.mono ?_);rintro e r ⟨rfl,⟨hB,v,jl,a,jy⟩,i,q⟩;have c1:r.cell? ⟨b,1,none⟩=some v:=by rw[lu jl];rfl
 rw[fK]at a;have L:=i.size;go_wp2_with(at_builtin;refine Lib.wpList_append_own_stringF _ rfl _ _ 177 9 rfl B 5 D underlying177 underlying9 hi.o m.o j9.o n.o _ _ _ rfl a s rfl (by unfold maxLen;omega) C (by omega) ?_);intro F o jn jm _;have E:b<r.heap.size:=(Array.getElem?_eq_some_iff.1 jl).1;have j:o.heap[b]?=some (.cells #[.pointer (some ⟨b,0,none⟩),v] T (0,0)):=(jm.block b E λe=>jy e.symm).t jl;have G:o.cell? ⟨b,1,none⟩=some v:=by rw[lu j];rfl
 have H:o.frozen? ⟨b,1,none⟩=false:=af j 1;obtain⟨c,d,cap,rfl⟩:∃c d cap,F=.slice c d cap:=by
  rcases jn.2 with⟨f,_⟩|⟨g,cap,K,I,f,_⟩
  .exact⟨_,_,_,f⟩
  .exact⟨_,_,_,f⟩
 have t:=Hi (Lib.BuilderAtF.put (T:=T) (e:=5) hB j (bs':=Lib.byteCells (l++s.data.toList)) (by rw[fK,aC];simpa[Lib.byteCells,Lib.strCells]using jn) z.o);have u:=Hi ((i.grown jm (by omega) (λk A=>(a.lt k A).1)).setCell (p:=⟨b,1,none⟩) hB (.slice c d cap));have x:=Hi ((q.grown jm (Lib.ownsRowF_kind a)).setCell ⟨b,1,none⟩ rfl (.slice c d cap));clear jn jm a jy jl q i h;go_wp2_with fail;go_ret2;exact⟨⟨_,rfl⟩,.inr t.o,u.o,x.o⟩
theorem NL (X:QL T)(B b:Nat)(l:bM)(c:UInt8)(w:Wq)(h:FL T B b l w)(L:l.length+1<=140737488355328)(K:B<=w.heap.size):Calls prog 198 #[.pointer (some ⟨b,0,none⟩),.int .u8 c.toNat] w λe w'=>(∃v,e=.returned v)/\FL T B b (l++[c]) w'/\Below B w w'/\jc b w w':=by
 obtain⟨E,hi,o,j9,q⟩:=mc AO;have A:=Hi (DS X B b _ w h);have hi:=Hi hi;have o:=Hi o;have j9:=Hi j9;have q:=Hi q;have C:=Hi X.ne;go_enter func198,ntmps198;go_wp2_with(go_at_call 250;refine A.o.mono ?_);rintro e d ⟨rfl,⟨hB,v,jl,a,jy⟩,m,t⟩;have c1:d.cell? ⟨b,1,none⟩=some v:=by rw[lu jl];rfl
 rw[fK]at a;have N:=m.size;go_wp2_with(at_builtin;(refine wpList_append_ownF _ rfl _ _ 177 rfl B 5 E (.int .u8 0) 1 1 underlying177 hi.o o.o j9.o q.o rfl (by decide) _ _ _ rfl (a.alloc _) ⟨d.heap.size,0,none⟩ 1 1 [.int .u8 c.toNat] rfl rfl (World.news_of_block (aG d _)) (by intro u s;simp only[dN,bG,jf]at s;subst s;rfl) (by unfold maxLen;omega) (by omega) (by simp;omega) ?_));intro G r jn jm _;have F:b<d.heap.size:=(Array.getElem?_eq_some_iff.1 jl).1;have n:r.heap[b]?=some (.cells #[.pointer (some ⟨b,0,none⟩),v] T (0,0)):=by rw[jm.block b (by simp;omega) λe=>jy e.symm,Lib.alloc_old d _ b F];exact jl
 have H:r.cell? ⟨b,1,none⟩=some v:=by rw[lu n];rfl
 have I:r.frozen? ⟨b,1,none⟩=false:=af n 1;obtain⟨f,i,cap,rfl⟩:∃f i cap,G=.slice f i cap:=by
  rcases jn.2 with⟨j,_⟩|⟨g,cap,M,J,j,_⟩
  .exact⟨_,_,_,j⟩
  .exact⟨_,_,_,j⟩
 have x:=Hi (Lib.BuilderAtF.put (T:=T) (e:=5) hB n (bs':=Lib.byteCells (l++[c])) (by rw[fK,aC];simpa[Lib.byteCells]using jn) C.o);have y:=Hi (((m.alloc (by omega) _).grown jm (by simp;omega) (λk D=>(a.lt k D).1)).setCell (p:=⟨b,1,none⟩) hB (.slice f i cap));have z:=Hi (((t.alloc _).grown jm (Lib.ownsRowF_kind (a.alloc _))).setCell ⟨b,1,none⟩ rfl (.slice f i cap));clear jn jm a jy jl t m h;go_wp2_with fail;go_ret;exact⟨⟨_,rfl⟩,.inr x.o,y.o,z.o⟩
theorem Kk (B b:Nat)(l:bM)(w:Wq)(h:FL T B b l w):Calls prog 124 #[.pointer (some ⟨b,0,none⟩)] w λe w'=>e=.returned (I6 l.length)/\w=w':=by
 obtain⟨p,hB,v,jl,d,jy⟩:∃p,Lib.BuilderAtF T 5 B b p (Lib.byteCells l) w:=by
  rcases h with h|h
  .exact⟨_,h⟩
  .exact⟨_,h⟩
 rw[fK]at d;obtain⟨a,cap,rfl⟩:∃a cap,v=.slice a l.length cap:=by
  rcases d.2 with⟨c,h0⟩|⟨g,cap,i,f,c,_⟩
  .exact⟨none,0,by rw[c,h0]⟩
  .exact⟨_,_,c⟩
 have c1:w.cell? ⟨b,1,none⟩=some (.slice a l.length cap):=by rw[lu jl];rfl
 clear jl d jy;go_enter func124,ntmps124;go_wp2_with fail;go_ret;exact⟨rfl,rfl⟩
theorem AP (B b:Nat)(l:bM)(w:Wq)(h:FL T B b l w)(h0:l≠[]):Calls prog 125 #[.pointer (some ⟨b,0,none⟩)] w λe w'=>e=.returned (.string ⟨l.toArray⟩)/\FL T B b l w'/\Below B w w'/\jc b w w':=by
 obtain⟨p,i,G⟩:∃p,(p=.pointer none\/p=.pointer (some ⟨b,0,none⟩))/\Lib.BuilderAtF T 5 B b p (Lib.byteCells l) w:=by
  rcases h with h|h
  .exact⟨_,.inl rfl,h⟩
  .exact⟨_,.inr rfl,h⟩
 obtain⟨hB,v,jl,d,jy⟩:=G;have F:l.length≠0:=by simpa using h0
 rw[fK]at d;obtain⟨g,cap,a,c,rfl,m,f,y,C,k,z,D⟩:∃g cap a c,v=.slice (some ⟨g,0,none⟩) l.length cap/\B<=g/\w.heap[g]?=some (.cells a 5 c)/\c.2<=l.length*1/\l.length<=cap/\cap<=maxLen/\a.size=cap*1/\a.toList.take (l.length*1)=Lib.byteCells l:=by
  rcases d.2 with⟨_,u⟩|⟨g,cap,a,c,s,r⟩
  .exact absurd u F
  .exact⟨g,cap,a,c,s,r⟩
 have c1:w.drew.cell? ⟨b,1,none⟩=some (.slice (some ⟨g,0,none⟩) l.length cap):=by have:w.drew.heap[b]?=some (.cells #[p,.slice (some ⟨g,0,none⟩) l.length cap] T (0,0)):=jl;rw[lu this];rfl
 have H:(Builtin.unsafeSliceData_ #[177] 239 #[.slice (some ⟨g,0,none⟩) l.length cap]).run prog w.drew=.ok (.pointer (some ⟨g,0,none⟩)) w.drew:=Lib.run_unsafeSliceData_row _ _ _ _ _ _ (by omega);have I:(Builtin.unsafeString_ #[239,3] 9 #[.pointer (some ⟨g,0,none⟩),I6 l.length]).run prog w.drew=.ok (.string ⟨l.toArray⟩) (w.drew.freeze ⟨g,0,none⟩ l.length):=by refine Lib.run_unsafeString_row w.drew 239 3 9 5 underlying239 (by kernel_rfl) g a.size (by have A:w.drew.heap[g]?=some (.cells a 5 c):=f;simp[World.shape?,A]) l h0 (by omega) (by unfold maxLen at k;omega) ?_;intro j x t;have:=d.cells (g:=g) rfl j (.int .u8 x.toNat) (by simp[Lib.byteCells,t]);exact this
 have E:Hid (FL T B b l (w.drew.freeze ⟨g,0,none⟩ l.length)):=Hi (by
  have q:Lib.BuilderAtF T 5 B b p (Lib.byteCells l) w.drew:=⟨hB,_,jl,by rw[fK];exact d,jy⟩;have hF:=q.froze (g:=g) (cap:=cap) (by rw[fK];exact c1);rw[fK]at hF;rcases i with rfl|rfl
  .exact .inl hF
  .exact .inr hF);have n:=Hi (Lib.below_freeze (Below.drew (aB B w)) (p:=⟨g,0,none⟩) m l.length);have o:=Hi (((Da _ (some b) w).drew).freeze ⟨g,0,none⟩ l.length ⟨a,c,f⟩);clear i jl d jy f y C k z D m;go_enter func125,ntmps125;go_wp2;go_region;all_goals(go_wp2;go_ret;exact⟨rfl,E.o,n.o,o.o⟩)
theorem Kc (s:Wz)(k:Nat)(h:k<s.size):dA ((bs s).drop k)=nh s[k].toNat:=by rw[jh s k h];rfl
theorem Ht (s:Wz)(k:Nat)(h:¬k<s.size):dA ((bs s).drop k)=1:=by rw[iL s k h];rfl
theorem DH (s:Wz)(k:Nat)(w:Wq)(b:s.size<=9223372036854775807)(a:k<=9223372036854775807):Calls prog 131 #[.string s,I6 k] w λe w'=>e=.returned (I6 (dA ((bs s).drop k)))/\w=w':=by
 by_cases jt:k<s.size
 .have H:=Hi (Kc s k jt);go_enter func131,ntmps131;go_wp2;all_goals(go_ret;refine⟨jL ?_,rfl⟩;rw[H.o];clear H;(try simp only[dj,dU,ne_eq]at*);unfold nh;(repeat' split)<;>omega)
 .have H:=Hi (Ht s k jt);go_enter func131,ntmps131;go_wp2;go_ret;exact⟨jL H.o.symm,rfl⟩
theorem ll (s:Wz)(k:Int)(w:Wq)(hs:s.size<=9223372036854775807)(h0:0<=k)(a:k<=9223372036854775807):Calls prog 131 #[.string s,I6 k] w λe w'=>e=.returned (I6 (dA ((bs s).drop k.toNat)))/\w=w':=by obtain⟨n,rfl⟩:=Ps h0;rw[eW];exact DH s n w hs (by omega)
theorem yE (s:Wz)(k:Int)(w:Wq)(hs:s.size<=9223372036854775807)(h0:0<=k)(a:k<=9223372036854775807):Calls prog 273 #[.string s,I6 k] w λe w'=>e=.returned (.bool (pL ((bs s).drop k.toNat)))/\w=w':=by have b:Hid (pL ((bs s).drop k.toNat)=(dA ((bs s).drop k.toNat)==5||dA ((bs s).drop k.toNat)==6)):=Hi rfl;have c:=Hi (ll s k w hs h0 a);generalize dA ((bs s).drop k.toNat)=q at*;go_enter func273,ntmps273;go_wp2_with fail;refine c.o.mono ?_;rintro e w' ⟨rfl,rfl⟩;go_wp2;all_goals(go_ret;refine⟨en ?_,rfl⟩;rw[b.o];(try simp[*]))
theorem EA (s:Wz)(k:Nat)(h:k<s.size):ck ((bs s).drop k)=if pL ((bs s).drop k)then ck ((bs s).drop (k+1))+1 else 0:=by rw[jh s k h,xF];rfl
theorem CB (s:Wz)(k:Nat)(h:¬k<s.size):ck ((bs s).drop k)=0:=by rw[iL s k h];rfl
theorem zU (s:Wz)(k:Nat)(h:¬k<s.size):pL ((bs s).drop k)=false:=by rw[iL s k h];rfl
theorem pa (s:Wz)(w:Wq)(hs:s.size<=9223372036854775807):Calls prog 210 #[.string s] w λe w'=>e=.returned (I6 (ck (bs s)))/\w=w':=by
 go_enter func210,ntmps210;go_wp2_with fail;go_loop [3] (λi=>∃k:Nat,k<=s.size/\i=I6 k/\Hid (ck (bs s)=k+ck ((bs s).drop k)))(λi=>s.size-(intOf i).toNat);case atStart=>exact⟨0,aK _,rfl,Hi (by simp)⟩
 case round=>
  obtain⟨k,f,rfl,a⟩:=hrel;go_wp2_with fail;refine(yE s k _ hs (by omega) (by omega)).mono ?_;rintro e w' ⟨rfl,rfl⟩;rw[eW];by_cases jt:k<s.size
  .have d:=Hi (EA s k jt);generalize pL ((bs s).drop k)=b at*;cases b
   .have c:Hid (ck (bs s)=k):=by refine Hi ?_;rw[a.o,d.o];simp
    clear d a;go_wp2;go_ret;exact⟨jL (by rw[c.o]),rfl⟩
   .have c:Hid (ck (bs s)=(k+1)+ck ((bs s).drop (k+1))):=by refine Hi ?_;rw[a.o,d.o];simp;omega
    clear d a;go_wp2;go_round;case rel=>exact⟨k+1,by omega,by go_num,c⟩
    case measure=>simp[intOf];omega
  .have c:Hid (ck (bs s)=k):=by refine Hi ?_;rw[a.o,CB s k jt];rfl
   rw[zU s k jt];clear a;go_wp2;go_ret;exact⟨jL (by rw[c.o]),rfl⟩
theorem HA (s:Wz)(k:Nat)(h:k<s.size):gA ((bs s).drop k)=if pL ((bs s).drop k)||(s[k].toNat==46&&dA ((bs s).drop (k+1))==6)then gA ((bs s).drop (k+1))+1 else 0:=by rw[jh s k h,xF];rfl
theorem Eb (s:Wz)(k:Nat)(h:¬k<s.size):gA ((bs s).drop k)=0:=by rw[iL s k h];rfl
theorem zG (s:Wz)(w:Wq)(hs:s.size<=9223372036854775806):Calls prog 208 #[.string s] w λe w'=>e=.returned (I6 (gA (bs s)))/\w=w':=by
 go_enter func208,ntmps208;go_wp2_with fail;go_loop [3] (λi=>∃k:Nat,k<=s.size/\i=I6 k/\Hid (gA (bs s)=k+gA ((bs s).drop k)))(λi=>s.size-(intOf i).toNat);case atStart=>exact⟨0,aK _,rfl,Hi (by simp)⟩
 case round=>
  obtain⟨k,o,rfl,d⟩:=hrel;go_wp2_with fail;refine(yE s k _ (by omega) (by omega) (by omega)).mono ?_;rintro e w' ⟨rfl,rfl⟩;rw[eW];by_cases jt:k<s.size
  .have g:=Hi (HA s k jt);have m:Hid (gA (bs s)=k+gA ((bs s).drop k)):=d;have c:(pL ((bs s).drop k)||(s[k].toNat==46&&dA ((bs s).drop (k+1))==6))=true->Hid (gA (bs s)=(k+1)+gA ((bs s).drop (k+1))):=λh=>by refine Hi ?_;rw[d.o,g.o,ax h];omega
   have b:(pL ((bs s).drop k)||(s[k].toNat==46&&dA ((bs s).drop (k+1))==6))=false->Hid (gA (bs s)=k):=λh=>by refine Hi ?_;rw[d.o,g.o,ap (by rw[h];simp)];rfl
   have c:=Hi c;have b:=Hi b;clear g d m;by_cases hb:pL ((bs s).drop k)=true
   .rw[hb];have a:=c.o (by rw[hb];rfl);clear c b hb;go_wp2_with fail;go_round;case rel=>exact⟨k+1,by omega,by go_num,a⟩
    case measure=>simp[intOf];omega
   .have f:pL ((bs s).drop k)=false:=by simpa using hb
    rw[f];by_cases hd:s[k].toNat=46
    .have n:((s[k].toNat:Int)==46)=true:=by simp;omega
     have l:Hid ((dA ((bs s).drop (k+1))==6)=true->Hid (gA (bs s)=(k+1)+gA ((bs s).drop (k+1)))):=Hi λh=>c.o (by rw[f,hd,h];rfl);have j:Hid ((dA ((bs s).drop (k+1))==6)=false->Hid (gA (bs s)=k)):=Hi λh=>b.o (by rw[f,hd,h];rfl);clear hb f c b hd;go_wp2_with fail;refine(ll s (k+1) _ (by omega) (by omega) (by omega)).mono ?_;rintro e w' ⟨rfl,rfl⟩;rw[show((k:Int)+1).toNat=k+1 from by omega];by_cases hq:dA ((bs s).drop (k+1))=6
     .rw[hq];have a:=l.o (by rw[hq];rfl);clear l j hq;go_wp2_with fail;go_round;case rel=>exact⟨k+1,by omega,by go_num,a⟩
      case measure=>simp[intOf];omega
     .have a:=j.o (by simpa using hq);have p:(dA ((bs s).drop (k+1))==6)=false:=by simpa using hq
      clear l j hq;generalize dA ((bs s).drop (k+1))=q at*;go_wp2_with fail;go_ret;exact⟨jL (by rw[a.o]),rfl⟩
    .have n:((s[k].toNat:Int)==46)=false:=by simp;omega
     have a:=b.o (by rw[f];simp[hd]);clear hb f c b hd;go_wp2_with fail;go_ret;exact⟨jL (by rw[a.o]),rfl⟩
  .have a:Hid (gA (bs s)=k):=by refine Hi ?_;rw[d.o,Eb s k jt];rfl
   rw[zU s k jt];clear d;go_wp2_with fail;go_ret;exact⟨jL (by rw[a.o]),rfl⟩
abbrev q4 (a b c d:Int):Int×Int×Int×Int:=(a,b,c,d)
def rW (l:bM):Int×Int×Int×Int:=if 24<ck l then q4 0 0 0 36 else if(l.drop (ck l)).head?.map (·.toNat)=some 46/\dA (l.drop (ck l+1))=5 then(if 24<ck (l.drop (ck l+1))then q4 0 0 0 36 else q4 3 (ck l+1+ck (l.drop (ck l+1))) 0 0)else q4 2 (ck l) 0 0
def V4 (q:Int×Int×Int×Int):Value:=.tuple #[I6 q.1,I6 q.2.1,I6 q.2.2.1,I6 q.2.2.2]
theorem uR {a b c d:Int}{q:Int×Int×Int×Int}(h:q=(a,b,c,d)):Ending.returned (.tuple #[I6 a,I6 b,I6 c,I6 d])=.returned (V4 q):=by rw[h];rfl
theorem iC (s:Wz)(a b:Nat):(s.extract a b).size<=s.size:=by rw[<-dM,lJ,bv,bH,dM];omega
theorem Mh (s:Wz)(k:Nat)(h:k<s.size):((bs s).drop k).head?.map (·.toNat)=some s[k].toNat:=by rw[jh s k h];rfl
theorem zB (s:Wz)(w:Wq)(hs:s.size<=9223372036854775806):Calls prog 207 #[.string s] w λe w'=>e=.returned (V4 (rW (bs s)))/\w=w':=by
 have n:ck (bs s)<=s.size:=oh (bs s);have a:Hid (rW (bs s)=if 24<ck (bs s)then q4 0 0 0 36 else if((bs s).drop (ck (bs s))).head?.map (·.toNat)=some 46/\dA ((bs s).drop (ck (bs s)+1))=5 then(if 24<ck ((bs s).drop (ck (bs s)+1))then q4 0 0 0 36 else q4 3 (ck (bs s)+1+ck ((bs s).drop (ck (bs s)+1))) 0 0)else q4 2 (ck (bs s)) 0 0):=Hi rfl;have c1:=Hi (pa s w (by omega));generalize hf:ck (bs s)=f at*;clear hf;go_enter func207,ntmps207;go_wp2_with fail;refine c1.o.mono ?_;rintro e w' ⟨rfl,rfl⟩;clear c1;by_cases h24:24<f
 .have H:=Hi (a.o.t (ax h24));clear a;go_wp2_with fail;((try simp only[Exit.inBlock,Exit.then]);refine dJ (jC rfl _ _ _) rfl ?_);exact⟨uR H.o,rfl⟩
 have a:=Hi (a.o.t (ap h24));by_cases d:f=s.size
 .have H:Hid (rW (bs s)=q4 2 f 0 0):=by refine Hi (a.o.t (ap ?_));rw[nC (by rw[dM];omega)];simp
  have j:((f:Int)==s.size)=true:=by simp;omega
  have d:=Hi d;clear a;go_wp2_with fail;((try simp only[Exit.inBlock,Exit.then]);refine dJ (jC rfl _ _ _) rfl ?_);exact⟨uR (by rw[H.o,d.o]),rfl⟩
 have l:f<s.size:=by omega
 have j:((f:Int)==s.size)=false:=by simp;omega
 have c:=Hi (Mh s f l);by_cases hdot:s[f].toNat=46
 .have k:((s[f].toNat:Int) !=46)=false:=by simp;omega
  have a:Hid (rW (bs s)=if dA ((bs s).drop (f+1))=5 then(if 24<ck ((bs s).drop (f+1))then q4 0 0 0 36 else q4 3 (f+1+ck ((bs s).drop (f+1))) 0 0)else q4 2 f 0 0):=by refine Hi (a.o.t ?_);rw[c.o,hdot];simp
  have b:=Hi (ll s (f+1) w (by omega) (by omega) (by omega));rw[show((f:Int)+1).toNat=f+1 from by omega]at b;clear c hdot;by_cases h5:dA ((bs s).drop (f+1))=5
  .have a:=Hi (a.o.t (ax h5));rw[h5]at b;clear h5;have o:ck (bs (s.extract (f+1) s.size))<=s.size:=by have:=oh (bs (s.extract (f+1) s.size));rw[td,bH,dM]at this;rw[td];omega
   have h:Hid ((bs s).drop (f+1)=bs (s.extract (f+1) s.size)):=Hi (td s (f+1)).symm;rw[h.o]at a;clear h;have c2:=Hi (pa (s.extract (f+1) s.size) w (by have:=iC s (f+1) s.size;omega));generalize ck (bs (s.extract (f+1) s.size))=g at*;go_wp2_with fail;refine b.o.mono ?_;rintro e w' ⟨rfl,rfl⟩;clear b;go_wp2_with fail;refine c2.o.mono ?_;rintro e w' ⟨rfl,rfl⟩;clear c2;by_cases hg24:24<g
   .have a:=Hi (a.o.t (ax hg24));go_wp2_with fail;((try simp only[Exit.inBlock,Exit.then]);refine dJ (jC rfl _ _ _) rfl ?_);exact⟨uR a.o,rfl⟩
   .have a:=Hi (a.o.t (ap hg24));go_wp2_with fail;((try simp only[Exit.inBlock,Exit.then]);refine dJ (jC rfl _ _ _) rfl ?_);exact⟨uR a.o,rfl⟩
  .have i:=Hi (a.o.t (ap h5));clear a;have m:(dA ((bs s).drop (f+1)) !=5)=true:=by simpa using h5
   generalize dA ((bs s).drop (f+1))=q at*;clear h5;go_wp2_with fail;refine b.o.mono ?_;rintro e w' ⟨rfl,rfl⟩;clear b;go_wp2_with fail;((try simp only[Exit.inBlock,Exit.then]);refine dJ (jC rfl _ _ _) rfl ?_);exact⟨uR i.o,rfl⟩
 .have k:((s[f].toNat:Int) !=46)=true:=by simp;omega
  have H:Hid (rW (bs s)=q4 2 f 0 0):=by refine Hi (a.o.t (ap ?_));rw[c.o];simp[hdot]
  clear a c hdot;go_wp2_with fail;((try simp only[Exit.inBlock,Exit.then]);refine dJ (jC rfl _ _ _) rfl ?_);exact⟨uR H.o,rfl⟩
theorem below_freeze {B:Nat}{a:Wq}(h:Below B a w){p:Addr}(c:B<=p.block)(n:Nat):Below B a (w.freeze p n):=by
 unfold World.freeze;split
 .exact h
 .refine h.t ⟨rfl,rfl,rfl,by simp,λk b=>?_⟩;simp only[ny];rw[ap (by omega)]
theorem wD (w:Wq)(e:TypeId)(s:Wz):JJ w (Lib.bytesWorld w e s):=by unfold Lib.bytesWorld;exact below_freeze ((Jz.drew).alloc Jq _) Jq _
theorem ng {α:Type}(p:α->Bool):∀l:List α,l.dropWhile p=[]↔∀x∈l,p x=true
 |[]=>by simp|a::l=>by
  cases h:p a
  .simp[h]
  .simp[h,ng p l]
theorem rX {α:Type}(p:α->Bool):∀(l:List α)(x:α),x∈l->p x=false->x∈l.dropWhile p
 |[],x,h,_=>absurd h (by simp)|a::l,x,h,hp=>by
  cases ha:p a
  .simpa[ha]using h
  .rcases List.mem_cons.1 h with rfl|h
   .rw[hp]at ha;cases ha
   .simpa[ha]using rX p l x h hp
def mn (l a:bM):Bool:=l.all (a.contains .)
theorem zV (l a:bM):(Lib.trimS l a=[])↔mn l a=true:=by
 unfold Lib.trimS Lib.trimLeftS Lib.trimRightS mn;constructor
 .intro h;rw[ng]at h;rw[fL];intro x b;cases hc:a.contains x
  .have h1:=rX (a.contains .) l.reverse x (by simpa using b) hc;have:=h x (by simpa using h1);rw[hc]at this;exact absurd this (by simp)
  .rfl
 .intro h;rw[fL]at h;have:l.reverse.dropWhile (a.contains .)=[]:=by rw[ng];intro x b;exact h x (by simpa using b)
  rw[this];rfl
def tS:bM:=[48,49,50,51,52,53,54,55,56,57]
theorem Ig {p q:UInt8->Bool}(h:(List.range 256).all (λn=>p (UInt8.ofNat n)==q (UInt8.ofNat n))=true)(c:UInt8):p c=q c:=by rw[fL]at h;have:=h c.toNat (List.mem_range.2 c.toNat_lt);simpa using this
theorem DB (c:UInt8):tS.contains c=fC c:=Ig (p:=λc=>tS.contains c) (q:=fC) (by decide+kernel) c
def lI (l:bM):Nat:=l.foldl (λa c=>a*10+(c.toNat-48)) 0
theorem vx:∀(l:bM)(a:Nat),l.all fC=true->Lib.decFrom a l=some (l.foldl (λa c=>a*10+(c.toNat-48)) a)
 |[],a,_=>rfl|c::r,a,h=>by
  simp only[eC,aS]at h;have b:Lib.digitVal c=some (c.toNat-48):=by have:=h.1;simp only[fC,gX,bC]at this;simp[Lib.digitVal,this]
  simp only[Lib.decFrom,b,List.foldl_cons];exact vx r _ h.2
theorem Km (l:bM)(jy:l≠[])(h:l.all fC=true):Lib.atoi l=some (lI l:Int):=by cases l with|nil=>exact absurd rfl jy|cons c r=>
 have a:fC c=true:=by simp only[eC,aS]at h;exact h.1
 have h1:(c==45)=false:=by rw[dU];rintro rfl;revert a;decide
 have h2:(c==43)=false:=by rw[dU];rintro rfl;revert a;decide
 unfold Lib.atoi;simp only[h1,h2,jW,LH,Lib.decNat,List.isEmpty_cons,vx _ _ h,jk,lI]
def qF (o:Option Nat):Value:=.tuple #[I6 (o.getD 0:Nat),.bool o.isSome]
def pI (l:bM)(a:Nat):Option Nat:=if l=[]\/10<l.length then none else if mn l tS=false then none else if l.head?=some 48/\l≠[48]then none else if a<lI l then none else some (lI l)
theorem AM:∀(l:bM)(a:Nat),l.all fC=true->l.foldl (λa c=>a*10+(c.toNat-48)) a<(a+1)*10^l.length|[],a,_=>by simp|c::r,a,h=>by simp only[eC,aS]at h;have h1:=h.1;simp only[fC,gX,bC]at h1;have:=AM r (a*10+(c.toNat-48)) h.2;simp only[List.foldl_cons,aD];refine bZ this ?_;rw[QH,Nat.mul_comm (10^r.length) 10,<-Nat.mul_assoc];exact yv _ (by omega)
theorem Ho (l:bM)(h:l.all fC=true)(a:l.length<=10):lI l<10000000000:=by have:=AM l 0 h;refine bZ this ?_;rw[aY,IK];exact aI (oe (by decide) a) (by decide)
end Go.Proofs.YtgfgoaeaicefcaaGreatDoor
