/- A part of the proof of DeltaLines: Prt5 Prt6. -/
import Derived.Test.YtdhehcobnbcmdaaGreatDoorPP4
import Derived.Test.YtdhehcobnbcmdaaGreatDoorPMo13
import Derived.Recover
import Derived.Defers
import Derived.KernelRfl
import Derived.Test.YtdhehcobnbcmdaaGreatDoorPMo14
set_option linter.all false
namespace Go.Proofs.YtdhehcobnbcmdaaGreatDoor
open Go.RowKit
set_option maxRecDepth 100000 in
set_option maxHeartbeats 1600000 in
theorem c_idle (p q:Addr)(w:World) :
    CallsD Tryz.prog 76 #[.pointer (some p), .pointer (some q)] .returning w fun e u' w'=>
      e=.returned (.tuple #[])∧u'=.returning∧w'=w:=by
  refine callsD_of_wpS Tryz.func76 rfl fun c₀ cs hu=>?_
  apply wpS_seq
  apply wpS_region
  simp [wpOpsS,go_sem,recoverD,hu,Tryz.ntmps76,Exit.thenS]
  refine wpS_of_wp ?_
  go_wp2_with fail
  refine ⟨rfl,_,rfl, .tuple #[],by simp [results,Tryz.results76,go_sem],rfl,hu,rfl⟩
set_option maxRecDepth 100000 in
set_option maxHeartbeats 1600000 in
theorem c_head0 (v:Value)(Af:Option Addr)(cf:Nat)(vb vl vs:Value)(w:World) :
    Calls Tryz.prog 78 #[v, .agg #[.string ⟨#[]⟩, .slice Af 0 cf, .string ⟨#[]⟩, .bool false,vb,vl,vs]] w fun e w'=>(∃ u,e=.returned u)∧Below w.heap.size w w':=by
  obtain ⟨W,hW⟩:∃ W,w.alloc (.cells #[.string ⟨#[]⟩, .slice Af 0 cf, .string ⟨#[]⟩, .bool false,vb,vl,vs] 27 (0,0))=W:=⟨_,rfl⟩
  have hbW:=Lib.hid (show Below w.heap.size w W by rw [← hW];exact (Below.refl w.heap.size w).alloc (Nat.le_refl _) _)
  have hX:W.heap[w.heap.size]?=some (.cells #[.string ⟨#[]⟩, .slice Af 0 cf, .string ⟨#[]⟩, .bool false,vb,vl,vs] 27 (0,0)):=by rw [← hW];exact heap_alloc_new w _
  have hlt:w.heap.size<W.heap.size:=by rw [← hW];simp
  obtain ⟨x0,x1,x2,x3,_,_,_⟩:=cells7 hX
  have hcx:=Lib.hid fun W' (hb:Below W.heap.size W W')=>cells7 ((hb.block _ hlt).trans hX)
  have cq:=Lib.hid (n_Quote0 W)
  clear hX
  go_enter Tryz.func78,Tryz.ntmps78
  go_wp2_with (go_at_call 107;refine cq.out.mono ?_;rintro e w2 ⟨⟨s,rfl⟩,hb⟩;obtain ⟨y0,y1,y2,y3,_,_,_⟩:=hcx.out _ hb;have hb2:=Lib.hid (hbW.out.trans (hb.mono hbW.out.size));clear hb)
  go_end0
  exact ⟨⟨_,rfl⟩,hb2.out⟩
end Go.Proofs.YtdhehcobnbcmdaaGreatDoor
namespace Go.Proofs.YtdhehcobnbcmdaaGreatDoor
open Go.RowKit
attribute [local go_sem ↓] Go.wp_at_zero Go.wp_at_succ
def WrB (b:BoxS):Prop:=b.ins=[]∧b.outs=[]∧goodN b.name=true∧(∀ g∈b.guards,WrG g)∧(∀ g∈b.rules,WrR g)∧(∀ g∈b.owns,WrP g)∧∀ g∈b.routes,WrP g
def allL (bxs:List BoxS)(lks:List LinkS)(sls:List SliceS):Bytes:=(bxs.flatMap boxL++linesL linkT lks)++linesL sliceT sls
theorem flat_snoc {α : Type}(f : α→Bytes){l:List α}{k:Nat}{x : α}(h:l[k]?=some x):(l.take (k+1)).flatMap f=(l.take k).flatMap f++f x:=by rw [take_snoc h];simp
theorem flat_le {α : Type}(f : α→Bytes):∀ (l:List α) (k:Nat),((l.take k).flatMap f).length≤(l.flatMap f).length
  | [],k=>by simp
  | x::r,0=>by simp
  | x :: r, k + 1 => by
    have:=flat_le f r k
    simp only [List.take_succ_cons,List.flatMap_cons,List.length_append]
    omega
theorem flat_at {α : Type}(f : α→Bytes){l:List α}{k:Nat}{x : α}(h:l[k]?=some x):((l.take k).flatMap f).length+(f x).length≤(l.flatMap f).length:=by
  have:=flat_le f l (k+1)
  rw [flat_snoc f h,List.length_append] at this
  exact this
set_option maxHeartbeats 16000000 in
set_option maxRecDepth 100000 in
theorem c_Print (bxs : List BoxS) (lks : List LinkS) (sls : List SliceS) (Af : Option Addr) (cf : Nat) (vb vl vs : Value) (B : Nat) (w : World) (hb : SlOf 7 BoxC w B vb bxs) (hl : SlOf 3 LinkC w B vl lks) (hs : SlOf 3 SliceC w B vs sls) (hB : B ≤ w.heap.size) (E : Env w)
    (wB:∀ b∈bxs,WrB b) (wL:∀ x∈lks,WrL x) (wS:∀ s∈sls,WrS s) (hlen:(allL bxs lks sls).length≤16384) (hne:allL bxs lks sls≠[]) :
    Calls Tryz.prog 45 #[.agg #[.string ⟨#[]⟩, .slice Af 0 cf, .string ⟨#[]⟩, .bool false,vb,vl,vs]] w fun e w'=>e=.returned (.tuple #[.string ⟨(allL bxs lks sls).toArray⟩, .int .i64 0])∧Below w.heap.size w w':=by
  obtain ⟨Ab,cb,rfl,hcb1,hcb2⟩:=SlOf.form hb
  obtain ⟨Al,cl,rfl,hcl1,hcl2⟩:=SlOf.form hl
  obtain ⟨As,cs,rfl,hcs1,hcs2⟩:=SlOf.form hs
  have hmf:∀ (fn:Fn) (first cap:Array Value) (w:World),(Instr.makeFunc fn first cap).run Tryz.prog w=.ok (.func fn first cap) w:=fun _ _ _ _=>rfl
  obtain ⟨W0,hW0⟩:∃ W0,w.alloc (.cells #[.string ⟨#[]⟩, .slice Af 0 cf, .string ⟨#[]⟩, .bool false, .slice Ab bxs.length cb, .slice Al lks.length cl, .slice As sls.length cs] 27 (0,0))=W0:=⟨_,rfl⟩
  have hz0:W0.heap.size=w.heap.size+1:=by rw [← hW0];simp
  obtain ⟨W1,hW1⟩:∃ W1,W0.alloc (.cells #[.string ⟨#[]⟩] 9 (0,0))=W1:=⟨_,rfl⟩
  have hz1:W1.heap.size=w.heap.size+2:=by rw [← hW1];simp [hz0]
  obtain ⟨W2,hW2⟩:∃ W2,W1.alloc (.cells #[.int .i64 0] 30 (0,0))=W2:=⟨_,rfl⟩
  have hz2:W2.heap.size=w.heap.size+3:=by rw [← hW2];simp [hz1]
  obtain ⟨W3,hW3⟩:∃ W3,W2.alloc (.cells #[.pointer none, .slice none 0 0] PB (0,0))=W3:=⟨_,rfl⟩
  have hz3:W3.heap.size=w.heap.size+4:=by rw [← hW3];simp [hz2]
  have hb0:Below w.heap.size w W0:=by rw [← hW0];exact (Below.refl _ _).alloc (Nat.le_refl _) _
  have hb01:Below W0.heap.size W0 W1:=by rw [← hW1];exact (Below.refl _ _).alloc (Nat.le_refl _) _
  have hb12:Below W1.heap.size W1 W2:=by rw [← hW2];exact (Below.refl _ _).alloc (Nat.le_refl _) _
  have hb23:Below W2.heap.size W2 W3:=by rw [← hW3];exact (Below.refl _ _).alloc (Nat.le_refl _) _
  have hb3:=Lib.hid (show Below w.heap.size w W3 from ((hb0.trans (hb01.mono (by omega))).trans (hb12.mono (by omega))).trans (hb23.mono (by omega)))
  have q0:W3.heap[w.heap.size]?=some (.cells #[.string ⟨#[]⟩, .slice Af 0 cf, .string ⟨#[]⟩, .bool false, .slice Ab bxs.length cb, .slice Al lks.length cl, .slice As sls.length cs] 27 (0,0)):=
    (hb23.block _ (by omega)).trans ((hb12.block _ (by omega)).trans ((hb01.block _ (by omega)).trans (by rw [← hW0];exact heap_alloc_new w _)))
  have q1:W3.heap[w.heap.size+1]?=some (.cells #[.string ⟨#[]⟩] 9 (0,0)):=(hb23.block _ (by omega)).trans ((hb12.block _ (by omega)).trans (by rw [← hz0,← hW1];exact heap_alloc_new W0 _))
  have q2:W3.heap[w.heap.size+2]?=some (.cells #[.int .i64 0] 30 (0,0)):=(hb23.block _ (by omega)).trans (by rw [← hz1,← hW2];exact heap_alloc_new W1 _)
  have q3:W3.heap[w.heap.size+3]?=some (.cells #[.pointer none, .slice none 0 0] PB (0,0)):=by rw [← hz2,← hW3];exact heap_alloc_new W2 _
  have hP0:Hid (PS (w.heap.size+3) (w.heap.size+3) W3 [] W3):=Lib.hid ⟨.inl ⟨Nat.le_refl _,_,q3,World.ownsRowF_nil _ _ _ _,by intro e;cases e⟩,Below.refl _ _⟩
  have hcx:=Lib.hid fun W (hb:Below (w.heap.size+3) W3 W)=>cells7 ((hb.block w.heap.size (by omega)).trans q0)
  have hc1:=Lib.hid fun W (hb:Below (w.heap.size+3) W3 W)=>(hb.block (w.heap.size+1) (by omega)).trans q1
  have hc2:=Lib.hid fun W (hb:Below (w.heap.size+3) W3 W)=>(hb.block (w.heap.size+2) (by omega)).trans q2
  have hbz:=Lib.hid fun W (hb:Below (w.heap.size+3) W3 W)=>hb3.out.trans (hb.mono (by omega))
  have hE:=Lib.hid fun W (hb:Below (w.heap.size+3) W3 W)=>E.below (hbz.out W hb)
  have kk:=keepB hb3.out hB
  have hBx:=Lib.hid (hb.keep (w':=W3) (B':=w.heap.size+3) (by omega) kk fun _ _ h=>h.keep (by omega) kk)
  have hLx:=Lib.hid (pureSl (w':=W3) (B':=w.heap.size+3) hl (by omega) kk)
  have hSx:=Lib.hid (hs.keep (w':=W3) (B':=w.heap.size+3) (by omega) kk fun _ _ h=>h.keep (by omega) kk)
  obtain ⟨x0,x1,x2,x3,x4,x5,x6⟩:=cells7 q0
  have ch:=Lib.hid fun v=>c_head0 v Af cf (.slice Ab bxs.length cb) (.slice Al lks.length cl) (.slice As sls.length cs) W3
  replace wB:=Lib.hid wB
  replace wL:=Lib.hid wL
  replace wS:=Lib.hid wS
  replace hlen:=Lib.hid hlen
  replace hne:=Lib.hid hne
  have hz3h:=Lib.hid hz3
  clear hb hl hs E kk q0 q1 q2 q3 hb0 hb01 hb12 hb23 hz3
  go_enter_defers Tryz.func45,Tryz.ntmps45
  go_wp2_with (go_at_call 78;refine (ch.out _).mono ?_;rintro e w5 ⟨⟨u5,rfl⟩,hb⟩;have hP5:=Lib.hid (hP0.out.below (by have:=hz3h.out;omega) hb);have hz5:=Lib.hid (Nat.le_trans (Nat.le_of_eq hz3h.out.symm) hb.size);obtain ⟨y0,y1,y2,y3,y4,y5,y6⟩:=hcx.out _ hP5.out.b;clear hb ch)
  clear hW0 hW1 hW2 hW3 hz0 hz1 hz2 x0 x1 x2 x3 x4 x5 x6 y0 y1 y2 y3 y4 y5 y6 hP0
  have hlB:(bxs.flatMap boxL).length+((linesL linkT lks).length+(linesL sliceT sls).length)≤16384:=by have:=hlen.out;unfold allL at this;simp only [List.length_append] at this;omega
  have hs0:Hid (PS (w.heap.size+3) (w.heap.size+3) W3 ((bxs.take 0).flatMap boxL) w5):=Lib.hid (by simpa using hP5.out)
  go_loopw [24] (fun i wr=>∃ k:Nat,k≤bxs.length∧i=.int .i64 k∧Hid (PS (w.heap.size+3) (w.heap.size+3) W3 ((bxs.take k).flatMap boxL) wr)∧Hid (w.heap.size+4≤wr.heap.size)) (fun i _=>bxs.length-(intOf i).toNat)
  case atStart=>exact ⟨0,Nat.zero_le _,rfl,hs0,hz5⟩
  case round=>
    obtain ⟨k,hk,rfl,hP,hz⟩:=hrel
    obtain ⟨wo,rfl⟩:∃ wo,wo=wr:=⟨_,rfl⟩
    clear hs0 hP5 hz5
    by_cases hlt:k<bxs.length
    · obtain ⟨b,off,rfl⟩:=SlOf.addr hBx.out (by omega)
      obtain ⟨hbb,cc,x,hx,hc,hj⟩:=SlOf.el hBx.out hlt
      obtain ⟨Ai,ci,Ao,co,Ag,cg,Ar,cr,Aw,cw,Au,cu,rfl,_,hxn,hti,hto,hG,hU,hO,hT⟩:=box_form hc
      obtain ⟨w1,w2,w3,w4,w5',w6,w7⟩:=wB.out x (List.mem_of_getElem? hx)
      have hi0:x.ins.length=0:=by rw [w1];rfl
      have ho0:x.outs.length=0:=by rw [w2];rfl
      rw [hi0,ho0] at hj
      have hcell:=fun j u (h:_=some u)=>((hP.out.b.cell (p:=⟨b,off+k*7+j,none⟩) hbb).trans (hj j u h))
      have e0:wo.cell? ⟨b,off+k*7,none⟩=some (.string x.name):=hcell 0 _ rfl
      have e1:=hcell 1 _ rfl
      have e2:=hcell 2 _ rfl
      have e3:=hcell 3 _ rfl
      have e4:=hcell 4 _ rfl
      have e5:=hcell 5 _ rfl
      have e6:=hcell 6 _ rfl
      have hfa:=flat_at boxL hx
      have hF:Hid (∀ W',PS (w.heap.size+3) (w.heap.size+3) W3 ((bxs.take k).flatMap boxL++boxL x) W'→PS (w.heap.size+3) (w.heap.size+3) W3 ((bxs.take (k+1)).flatMap boxL) W'):=Lib.hid fun W' h=>by rw [flat_snoc boxL hx];exact h
      obtain ⟨wa,hwa⟩:∃ wa,wo.alloc (.cells (boxF x Ai Ao ci co Ag Ar Aw Au cg cr cw cu) 43 (0,0))=wa:=⟨_,rfl⟩
      have hba:Below wo.heap.size wo wa:=by rw [← hwa];exact (Below.refl _ _).alloc (Nat.le_refl _) _
      have hza:wa.heap.size=wo.heap.size+1:=by rw [← hwa];simp
      have hXa:wa.heap[wo.heap.size]?=some (.cells (boxF x Ai Ao ci co Ag Ar Aw Au cg cr cw cu) 43 (0,0)):=by rw [← hwa];exact heap_alloc_new wo _
      obtain ⟨z0,z1,z2,z3,z4,z5,z6⟩:=cells7 hXa
      have hPa:=hP.out.below (by have:=hz.out;omega) hba
      have hzo:=hz.out
      have cB:=Lib.hid (c_box (w.heap.size+3) (w.heap.size+3) x Ai Ao ci co Ag Ar Aw Au cg cr cw cu _ W3 wa hPa (fun W' h=>hE.out W' h) (by omega) (by omega) hG hU hO hT w3 w4 w5' w6 w7 (by omega))
      clear hj hcell hc hx hti hto hG hU hO hT hfa hPa hba hP hz hXa
      go_wp2_with (go_at_call 79;refine cB.out.mono ?_;rintro e w8 ⟨⟨u8,rfl⟩,hP8,_,hz8⟩;have hP9:=Lib.hid (hF.out _ hP8);have hz9:=Lib.hid (show w.heap.size+4≤w8.heap.size by omega);clear hP8 hz8 cB)
      go_roundw
      case rel=>exact ⟨k+1,by omega,by go_num,hP9,hz9⟩
      case measure=>simp [intOf];omega
    have hke:bxs.take k=bxs:=List.take_of_length_le (by omega)
    rw [hke] at hP
    obtain ⟨L1,hL1⟩:∃ L1,L1=bxs.flatMap boxL:=⟨_,rfl⟩
    rw [← hL1] at hP hlB
    have hs0:Hid (PS (w.heap.size+3) (w.heap.size+3) W3 (L1++linesL linkT (lks.take 0)) wo):=Lib.hid (by simpa [linesL] using hP.out)
    obtain ⟨_,_,_,_,_,y5,_⟩:=hcx.out _ hP.out.b
    replace hL1:=Lib.hid hL1
    go_wp2_with fail
    clear y5
    go_loopw [35] (fun i wr=>∃ k:Nat,k≤lks.length∧i=.int .i64 k∧Hid (PS (w.heap.size+3) (w.heap.size+3) W3 (L1++linesL linkT (lks.take k)) wr)∧Hid (w.heap.size+4≤wr.heap.size)) (fun i _=>lks.length-(intOf i).toNat)
    case atStart=>exact ⟨0,Nat.zero_le _,rfl,hs0,hz⟩
    case round=>
      obtain ⟨k,hk,rfl,hP,hz⟩:=hrel
      obtain ⟨wo,rfl⟩:∃ wo,wo=wr:=⟨_,rfl⟩
      clear hs0
      by_cases hlt:k<lks.length
      · obtain ⟨b,off,rfl⟩:=SlOf.addr hLx.out (by omega)
        obtain ⟨hbb,cc,x,hx,⟨hc,hxf,hxd⟩,hj⟩:=SlOf.el hLx.out hlt
        subst hc
        have hwx:=wL.out x (List.mem_of_getElem? hx)
        have e0:wo.cell? ⟨b,off+k*3,none⟩=some (.string x.frm):=(hP.out.b.cell (p:=⟨b,off+k*3,none⟩) hbb).trans (hj 0 _ rfl)
        have e1:wo.cell? ⟨b,off+k*3+1,none⟩=some (.string x.dst):=(hP.out.b.cell (p:=⟨b,off+k*3+1,none⟩) hbb).trans (hj 1 _ rfl)
        have e2:wo.cell? ⟨b,off+k*3+2,none⟩=some (.int .i64 x.cost):=(hP.out.b.cell (p:=⟨b,off+k*3+2,none⟩) hbb).trans (hj 2 _ rfl)
        have hF:Hid (∀ W',PS (w.heap.size+3) (w.heap.size+3) W3 (L1++linesL linkT (lks.take k)++((linkT x).data.toList++[10])) W'→PS (w.heap.size+3) (w.heap.size+3) W3 (L1++linesL linkT (lks.take (k+1))) W'):=Lib.hid fun W' h=>by rw [linesL_snoc linkT hx,← List.append_assoc];exact h
        have hle:=linesL_le linkT lks k
        have zf:=full_le hwx.1
        have zd:=full_le hwx.2.1
        have zn:=numT_le (v:=x.cost) (by have:=hwx.2.2.1;omega)
        have zl:=linkT_le hwx
        obtain ⟨wa,hwa⟩:∃ wa,wo.alloc (.cells #[.string x.frm, .string x.dst, .int .i64 x.cost] 63 (0,0))=wa:=⟨_,rfl⟩
        have hba:Below wo.heap.size wo wa:=by rw [← hwa];exact (Below.refl _ _).alloc (Nat.le_refl _) _
        have hza:wa.heap.size=wo.heap.size+1:=by rw [← hwa];simp
        have hXa:wa.heap[wo.heap.size]?=some (.cells #[.string x.frm, .string x.dst, .int .i64 x.cost] 63 (0,0)):=by rw [← hwa];exact heap_alloc_new wo _
        have hzo:=hz.out
        have hPa:=Lib.hid (hP.out.below (by omega) hba)
        have hca:=Lib.hid fun W (hb:Below wa.heap.size wa W)=>cells3' ((hb.block wo.heap.size (by omega)).trans hXa)
        obtain ⟨z0,z1,z2⟩:=hca.out _ (Below.refl _ _)
        have hla:wo.heap.size<wa.heap.size:=by omega
        have hBa:w.heap.size+3≤wa.heap.size:=by omega
        have hEa:=Lib.hid fun W (hb:Below wa.heap.size wa W)=>hE.out _ (hPa.out.below hBa hb).b
        have cF:=Lib.hid fun W (hb:Below wa.heap.size wa W)=>c_port x.frm hwx.1 W (hEa.out W hb)
        have cD:=Lib.hid fun W (hb:Below wa.heap.size wa W)=>c_port x.dst hwx.2.1 W (hEa.out W hb)
        have cV:=Lib.hid fun W (hb:Below wa.heap.size wa W)=>c_number x.cost (by have:=hwx.2.2.1;omega) (by have:=hwx.2.2.2;omega) W (hEa.out W hb)
        have hbase:Hid (linkT x=if x.cost=1 then ((ba [108,105,110,107,32]++x.frm)++ba [32,45,62,32])++x.dst else (((ba [108,105,110,107,32]++x.frm)++ba [32,45,62,32])++x.dst)++(ba [32,99,111,115,116,32]++numT x.cost)):=Lib.hid rfl
        have cL:=Lib.hid fun W (hb:Below wa.heap.size wa W)=>ps_line (linkT x) (hPa.out.below hBa hb) (Nat.le_trans hBa hb.size) (by rw [List.length_append];omega)
        generalize numT x.cost=NV at *
        generalize hLT:linkT x=LT at *
        replace hLT:=Lib.hid hLT
        have hbk:=(Below.refl wa.heap.size wa).drew
        have g1:¬ 9223372036854775807<5+x.frm.size:=by omega
        have g2:¬ 9223372036854775807<5+x.frm.size+4:=by omega
        have g3:¬ 9223372036854775807<5+x.frm.size+4+x.dst.size:=by omega
        have hls9:=Lib.hid (show 5+x.frm.size+4+x.dst.size≤200 by omega)
        clear hj hx hba hP hz
        go_upto_region 12 with fail
        clear hwa
        go_region_held3 (fun W'=>W'.cell? ⟨wo.heap.size,0,none⟩=some (.string x.frm)∧W'.cell? ⟨wo.heap.size,1,none⟩=some (.string x.dst))
          (first|exact hHeld|go_keep|exact ⟨(hbk.cell (p:=⟨wo.heap.size,0,none⟩) hla).trans z0,(hbk.cell (p:=⟨wo.heap.size,1,none⟩) hla).trans z1⟩)
          ((first
            | (go_at_call 80;(with_reducible refine (cF.out _ hbk).mono ?_);rintro e wy ⟨rfl,hbB⟩;replace hbk:=hbk.trans (hbB.mono hbk.size);clear hbB)
            | (go_at_call 80;(with_reducible refine (cD.out _ hbk).mono ?_);rintro e wy ⟨rfl,hbB⟩;replace hbk:=hbk.trans (hbB.mono hbk.size);clear hbB)))
        all_goals
          have hb2:=Lib.hid hbk
          clear hbk z0 z1 z2 cF cD e0 e1 e2
          obtain ⟨_,_,z2⟩:=hca.out _ hb2.out
          by_cases hc1:x.cost=1
          · have hEq:=Lib.hid (hbase.out.trans (if_pos hc1))
            have hc1':(x.cost != 1)=false:=by simp [hc1]
            have cL2:=Lib.hid (cL.out _ hb2.out)
            rw [hEq.out] at cL2 hF
            clear hbase hc1 cL cV hLT hEq
            go_wp2_with (go_at_call 82;(refine (cL2.out).mono ?_);rintro e wy ⟨⟨vy,rfl⟩,hPy,_⟩;have hPl:=Lib.hid (hF.out _ hPy);have hzl:Hid (w.heap.size+4≤wy.heap.size):=Lib.hid (by have:=hPl.out.b.size;have:=hz3h.out;omega);clear hPy cL2)
            go_roundw
            case rel=>exact ⟨k+1,by omega,by go_num,hPl,hzl⟩
            case measure=>simp [intOf];omega
          · have hEq:=Lib.hid (hbase.out.trans (if_neg hc1))
            have hc1':(x.cost != 1)=true:=by simp [hc1]
            have g4:¬ 9223372036854775807<6+NV.size:=by omega
            have g5:¬ 9223372036854775807<5+x.frm.size+4+x.dst.size+(6+NV.size):=by omega
            rw [hEq.out] at cL hF
            have cV2:=Lib.hid (cV.out _ hb2.out)
            have hbT:=Lib.hid fun W'=>fun hb=>hb2.out.trans (Below.mono (w':=W') hb hb2.out.size)
            clear hbase hc1 hLT hEq cV
            go_wp2_with (first
              | (go_at_call 81;refine cV2.out.mono ?_;rintro e wn ⟨rfl,hbn⟩;have cL2:=Lib.hid (cL.out _ (hbT.out _ hbn));clear cV2 hbn cL)
              | (go_at_call 82;(refine (cL2.out).mono ?_);rintro e wy ⟨⟨vy,rfl⟩,hPy,_⟩;have hPl:=Lib.hid (hF.out _ hPy);have hzl:Hid (w.heap.size+4≤wy.heap.size):=Lib.hid (by have:=hPl.out.b.size;have:=hz3h.out;omega);clear hPy cL2))
            go_roundw
            case rel=>exact ⟨k+1,by omega,by go_num,hPl,hzl⟩
            case measure=>simp [intOf];omega
      have hke:lks.take k=lks:=List.take_of_length_le (by omega)
      rw [hke] at hP
      obtain ⟨L2,hL2⟩:∃ L2,L2=L1++linesL linkT lks:=⟨_,rfl⟩
      rw [← hL2] at hP
      have hL2l:L2.length=L1.length+(linesL linkT lks).length:=by rw [hL2,List.length_append]
      have hs0:Hid (PS (w.heap.size+3) (w.heap.size+3) W3 (L2++linesL sliceT (sls.take 0)) wo):=Lib.hid (by simpa [linesL] using hP.out)
      obtain ⟨_,_,_,_,_,_,y6⟩:=hcx.out _ hP.out.b
      replace hL2:=Lib.hid hL2
      go_wp2_with fail
      clear y6
      go_loopw [64] (fun i wr=>∃ k:Nat,k≤sls.length∧i=.int .i64 k∧Hid (PS (w.heap.size+3) (w.heap.size+3) W3 (L2++linesL sliceT (sls.take k)) wr)∧Hid (w.heap.size+4≤wr.heap.size)) (fun i _=>sls.length-(intOf i).toNat)
      case atStart=>exact ⟨0,Nat.zero_le _,rfl,hs0,hz⟩
      case round=>
        obtain ⟨k,hk,rfl,hP,hz⟩:=hrel
        obtain ⟨wo,rfl⟩:∃ wo,wo=wr:=⟨_,rfl⟩
        clear hs0
        by_cases hlt:k<sls.length
        · obtain ⟨b,off,rfl⟩:=SlOf.addr hSx.out (by omega)
          obtain ⟨hbb,cc,x,hx,hc,hj⟩:=SlOf.el hSx.out hlt
          obtain ⟨Ap,cp,Aw,cw,rfl,hxn,hti,hnd⟩:=slice_form hc
          obtain ⟨w1,w2,w3,w4⟩:=wS.out x (List.mem_of_getElem? hx)
          have e0:wo.cell? ⟨b,off+k*3,none⟩=some (.string x.name):=(hP.out.b.cell (p:=⟨b,off+k*3,none⟩) hbb).trans (hj 0 _ rfl)
          have e1:wo.cell? ⟨b,off+k*3+1,none⟩=some (.slice Ap x.ports.length cp):=(hP.out.b.cell (p:=⟨b,off+k*3+1,none⟩) hbb).trans (hj 1 _ rfl)
          have e2:wo.cell? ⟨b,off+k*3+2,none⟩=some (.slice Aw x.whr.length cw):=(hP.out.b.cell (p:=⟨b,off+k*3+2,none⟩) hbb).trans (hj 2 _ rfl)
          have hF:Hid (∀ W',PS (w.heap.size+3) (w.heap.size+3) W3 (L2++linesL sliceT (sls.take k)++((sliceT x).data.toList++[10])) W'→PS (w.heap.size+3) (w.heap.size+3) W3 (L2++linesL sliceT (sls.take (k+1))) W'):=Lib.hid fun W' h=>by rw [linesL_snoc sliceT hx,← List.append_assoc];exact h
          have hle:=linesL_le sliceT sls k
          have zl:=sliceT_le (s:=x) ⟨w1,w2,w3,w4⟩
          have znm:=goodN_le w1
          have zm:=nodesT_le w4
          have hcap:x.ports.length≤cp:=by obtain ⟨_,_,h,h1,_⟩:=SlOf.form hti;injection h with _ _ h;subst h;exact h1
          obtain ⟨wa,hwa⟩:∃ wa,wo.alloc (.cells #[.string x.name, .slice Ap x.ports.length cp, .slice Aw x.whr.length cw] 69 (0,0))=wa:=⟨_,rfl⟩
          have hba:Below wo.heap.size wo wa:=by rw [← hwa];exact (Below.refl _ _).alloc (Nat.le_refl _) _
          have hza:wa.heap.size=wo.heap.size+1:=by rw [← hwa];simp
          have hXa:wa.heap[wo.heap.size]?=some (.cells #[.string x.name, .slice Ap x.ports.length cp, .slice Aw x.whr.length cw] 69 (0,0)):=by rw [← hwa];exact heap_alloc_new wo _
          have hzo:=hz.out
          have hPa:=Lib.hid (hP.out.below (by omega) hba)
          have hca:=Lib.hid fun W (hb:Below wa.heap.size wa W)=>cells3' ((hb.block wo.heap.size (by omega)).trans hXa)
          obtain ⟨z0,z1,_⟩:=hca.out _ (Below.refl _ _)
          have hBa:w.heap.size+3≤wa.heap.size:=by omega
          have hEa:=Lib.hid fun W (hb:Below wa.heap.size wa W)=>hE.out _ (hPa.out.below hBa hb).b
          have hka:=Lib.hid fun W (hb:Below wa.heap.size wa W) b o (h:b<w.heap.size+3)=>(bcell (hPa.out.below hBa hb).b).1 b o h
          have cN:=Lib.hid fun W'=>c_name x.name w1 W'
          have cM:=Lib.hid fun W (hb:Below wa.heap.size wa W)=>c_nodes x.whr _ (w.heap.size+3) W (pureSl hnd (Nat.le_refl _) (hka.out W hb)) (Nat.le_trans hBa hb.size) w4 (hEa.out W hb)
          have cL:=Lib.hid fun W (hb:Below wa.heap.size wa W)=>ps_line (sliceT x) (hPa.out.below hBa hb) (Nat.le_trans hBa hb.size) (by rw [List.length_append];omega)
          have hST:sliceT x=(portsTx (ba [115,108,105,99,101,32]++x.name) x.ports++ba [32,119,104,101,114,101,32])++nodesT x.whr:=rfl
          rw [hST] at cL hF
          generalize nodesT x.whr=NT at *
          have htx:=Lib.hid fun W (hb:Below wa.heap.size wa W)=>hti.keep (w':=W) (Nat.le_refl _) (hka.out W hb)
          have hfull:=Lib.hid w2
          obtain ⟨PX,hPX⟩:∃ PX,PX=portsTx (ba [115,108,105,99,101,32]++x.name) x.ports:=⟨_,rfl⟩
          rw [← hPX] at cL hF
          have hPX':=Lib.hid hPX
          have g1:¬ 9223372036854775807<6+x.name.size:=by omega
          have hra:=Lib.hid (Below.refl wa.heap.size wa)
          clear hj hc hx hba hP hz hti hnd hST hPX
          go_wp2_with (go_at_call 83;refine (cN.out _).mono ?_;rintro e wn ⟨rfl,hwn⟩;subst wn;clear cN)
          clear hwa z0 z1 e0 e1 e2
          have hs0:Hid (PX=portsTx ((⟨#[115,108,105,99,101,32]⟩:ByteArray)++x.name) (x.ports.drop 0)∧((⟨#[115,108,105,99,101,32]⟩:ByteArray)++x.name).size≤30+50*0):=Lib.hid ⟨hPX'.out,by rw [ByteArray.size_append,show (⟨#[115,108,105,99,101,32]⟩:ByteArray).size=6 from rfl];omega⟩
          go_loopw [12,75] (fun s i wr=>∃ (j:Nat) (S:ByteArray),j≤x.ports.length∧i=.int .i64 j∧s=.string S∧Hid (PX=portsTx S (x.ports.drop j)∧S.size≤30+50*j)∧Hid (Below wa.heap.size wa wr)) (fun _ i _=>x.ports.length-(intOf i).toNat)
          case atStart=>exact ⟨0,_,Nat.zero_le _,rfl,rfl,hs0,hra⟩
          case round=>
            obtain ⟨j,S,hjl,rfl,rfl,HR,hbw⟩:=hrel
            obtain ⟨wi,rfl⟩:∃ wi,wi=wr:=⟨_,rfl⟩
            clear hs0 hra
            obtain ⟨HR1,HR2⟩:=HR.out
            by_cases hlt9:j<x.ports.length
            · have htw:=htx.out _ hbw.out
              obtain ⟨bp,op,rfl⟩:=SlOf.addr htw (by omega)
              obtain ⟨_,q,hq,_,e0⟩:=texts_el htw hlt9
              have hfq:=hfull.out q (List.mem_of_getElem? hq)
              have zq:=full_le hfq
              rw [drop_at hq] at HR1
              have HRn:=Lib.hid (show PX=portsTx (S++(ba [32]++q)) (x.ports.drop (j+1)) from HR1)
              have cP:=Lib.hid (c_port q hfq wi (hEa.out _ hbw.out))
              have hbn:=Lib.hid fun W' (hb:Below wi.heap.size wi W')=>hbw.out.trans (hb.mono hbw.out.size)
              have g1:¬ 9223372036854775807<1+q.size:=by omega
              have g2:¬ 9223372036854775807<S.size+(1+q.size):=by omega
              clear HR HR1 htw hq hfq
              go_wp2_with (go_at_call 80;refine cP.out.mono ?_;rintro e wy ⟨rfl,hb⟩;have hb2:=Lib.hid (hbn.out _ hb);clear hb cP)
              go_roundw
              case rel=>exact ⟨j+1,S++(ba [32]++q),by omega,by go_num,rfl,Lib.hid ⟨HRn.out,by simp only [ByteArray.size_append,ba_size,List.length_cons,List.length_nil];omega⟩,hb2⟩
              case measure=>simp [intOf];omega
            · rw [drop_end hlt9] at HR1
              have hPS:S=PX:=HR1.symm
              subst hPS
              obtain ⟨_,_,z2⟩:=hca.out _ hbw.out
              have cM2:=Lib.hid (cM.out _ hbw.out)
              have hbn:=Lib.hid fun W' (hb:Below wi.heap.size wi W')=>hbw.out.trans (hb.mono hbw.out.size)
              have g1:¬ 9223372036854775807<S.size+7:=by omega
              have g2:¬ 9223372036854775807<S.size+7+NT.size:=by omega
              clear HR HR1 cM
              go_wp2_with (first
                | (go_at_call 84;refine cM2.out.mono ?_;rintro e wn ⟨rfl,hb⟩;have cL2:=Lib.hid (cL.out _ (hbn.out _ hb));clear cM2 hb cL)
                | (go_at_call 82;(refine (cL2.out).mono ?_);rintro e wy ⟨⟨vy,rfl⟩,hPy,_⟩;have hPl:=Lib.hid (hF.out _ hPy);have hzl:Hid (w.heap.size+4≤wy.heap.size):=Lib.hid (by have:=hPl.out.b.size;have:=hz3h.out;omega);clear hPy cL2))
              go_roundw
              case rel=>exact ⟨k+1,by omega,by go_num,hPl,hzl⟩
              case measure=>simp [intOf];omega
        have hke:sls.take k=sls:=List.take_of_length_le (by omega)
        rw [hke] at hP
        obtain ⟨L3,hL3⟩:∃ L3,L3=L2++linesL sliceT sls:=⟨_,rfl⟩
        rw [← hL3] at hP
        have hLa:L3=allL bxs lks sls:=by rw [hL3,hL2.out,hL1.out];rfl
        have hl3:L3.length≤16384:=by rw [hLa];exact hlen.out
        have hl3':¬ ((L3.length:Int)>16384):=by omega
        have cLn:=Lib.hid (bl_len (w.heap.size+3) (w.heap.size+3) L3 wo hP.out.a)
        have cSt:=Lib.hid (bl_string (w.heap.size+3) (w.heap.size+3) L3 wo hP.out.a (by rw [hLa];exact hne.out))
        have hbF:=Lib.hid hP.out.b
        replace hLa:=Lib.hid hLa
        clear hP hL3 hl3
        go_wp2_with (first
          | (go_at_call 85;refine cLn.out.mono ?_;rintro e w7 ⟨rfl,rfl⟩;clear cLn)
          | (go_at_call 86;refine cSt.out.mono ?_;rintro e w8 ⟨rfl,_,hb8,_⟩;have h18:=hc1.out _ (hbF.out.trans hb8);have h28:=hc2.out _ (hbF.out.trans hb8);have H18:=Lib.hid h18;have H28:=Lib.hid h28;have a1:=cell_of_one h18;have a2:=cell_of_one h28;have f1:=free_of_one h18;have f2:=free_of_one h28;have hb9:=Lib.hid (hbF.out.trans hb8);clear hb8 h18 h28 cSt))
        have z1:((w8.setCell ⟨w.heap.size+1,0,none⟩ (.string ⟨L3.toArray⟩)).setCell ⟨w.heap.size+2,0,none⟩ (.int .i64 0)).cell? ⟨w.heap.size+1,0,none⟩=some (.string ⟨L3.toArray⟩):=
          cell_of_one ((Below.heap_setCell _ ⟨w.heap.size+2,0,none⟩ _ (w.heap.size+1) (by show w.heap.size+1≠w.heap.size+2;omega)).trans (one_setCell H18.out))
        have z2:((w8.setCell ⟨w.heap.size+1,0,none⟩ (.string ⟨L3.toArray⟩)).setCell ⟨w.heap.size+2,0,none⟩ (.int .i64 0)).cell? ⟨w.heap.size+2,0,none⟩=some (.int .i64 0):=
          cell_of_one (one_setCell ((Below.heap_setCell _ ⟨w.heap.size+1,0,none⟩ _ (w.heap.size+2) (by show w.heap.size+2≠w.heap.size+1;omega)).trans H28.out))
        have hbE:=((hbz.out _ hb9.out).setCell (p:=⟨w.heap.size+1,0,none⟩) (by show w.heap.size≤w.heap.size+1;omega) (.string ⟨L3.toArray⟩)).setCell (p:=⟨w.heap.size+2,0,none⟩) (by show w.heap.size≤w.heap.size+2;omega) (.int .i64 0)
        refine leaves_cons (f:=76) (args:=#[.pointer (some ⟨w.heap.size+1,0,none⟩), .pointer (some ⟨w.heap.size+2,0,none⟩)]) (by simp) (by simp [go_sem]) ?_
        refine (c_idle _ _ _).mono ?_
        rintro e u' w9 ⟨rfl,rfl,rfl⟩
        exact ⟨.tuple #[.string ⟨L3.toArray⟩, .int .i64 0],by simp [results,Tryz.results45,go_sem,z1,z2],by rw [hLa.out],hbE⟩
end Go.Proofs.YtdhehcobnbcmdaaGreatDoor
