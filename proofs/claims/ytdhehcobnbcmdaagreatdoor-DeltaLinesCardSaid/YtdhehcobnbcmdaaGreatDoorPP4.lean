/- A part of the proof of DeltaLines: Prt4. -/
import Derived.Test.YtdhehcobnbcmdaaGreatDoorPP1
import Derived.Test.YtdhehcobnbcmdaaGreatDoorPMo8
set_option linter.all false
namespace Go.Proofs.YtdhehcobnbcmdaaGreatDoor
open Go.RowKit
abbrev PB:TypeId:=136
theorem bat_below {B b:Nat}{l:Bytes}{w w':World}(h:BAt PB B b l w)(hb:Below w.heap.size w w'):BAt PB B b l w':=by
  have key:∀ p,Lib.BuilderAtF PB 5 B b p (Lib.byteCells l) w→Lib.BuilderAtF PB 5 B b p (Lib.byteCells l) w':=by
    rintro p ⟨h1,v,h2,h3,h4⟩
    refine ⟨h1,v,(hb.block _ (Array.getElem?_eq_some_iff.1 h2).1).trans h2,?_,h4⟩
    obtain ⟨k1,k2|⟨g,cap,cur,fz,hv,hbg,hg,r⟩⟩:=h3
    · exact ⟨k1, .inl k2⟩
    · exact ⟨k1, .inr ⟨g,cap,cur,fz,hv,hbg,(hb.block _ (Array.getElem?_eq_some_iff.1 hg).1).trans hg,r⟩⟩
  rcases h with h|h
  · exact .inl (key _ h)
  · exact .inr (key _ h)
theorem linesL_snoc {α : Type}(f : α→ByteArray){l:List α}{k:Nat}{x : α}(h:l[k]?=some x):linesL f (l.take (k+1))=linesL f (l.take k)++((f x).data.toList++[10]):=by rw [take_snoc h];simp [linesL]
theorem linesL_le {α : Type}(f : α→ByteArray):∀ (l:List α) (k:Nat),(linesL f (l.take k)).length≤(linesL f l).length
  | [],k=>by simp [linesL]
  | x::r,0=>by simp [linesL]
  | x :: r, k + 1 => by
    have:=linesL_le f r k
    unfold linesL at this ⊢
    simp only [List.take_succ_cons,List.flatMap_cons,List.length_append]
    omega
structure PS (Bb pb:Nat)(w0:World)(l:Bytes)(W:World):Prop where
  a:BAt PB Bb pb l W
  b:Below Bb w0 W
section
variable {Bb pb:Nat} {w0 W W':World} {l:Bytes}
theorem PS.below (h:PS Bb pb w0 l W)(hz:Bb≤W.heap.size)(hb:Below W.heap.size W W'):PS Bb pb w0 l W':=⟨bat_below h.a hb,h.b.trans (hb.mono hz)⟩
theorem kept {g:Nat}{cs:Array Value}{T:TypeId}{fr:Nat×Nat}(hk:KeepB pb W W')(hg:g≠pb)(hT:T≠5)(h:W.heap[g]?=some (.cells cs T fr)):W'.heap[g]?=some (.cells cs T fr):=
  hk g _ h (fun e=>hg (Option.some.inj e)) (fun c fz e=>by injection e with _ e _;exact hT e)
theorem ps_line (s:ByteArray)(h:PS Bb pb w0 l W)(hz:Bb≤W.heap.size)(hl:l.length+s.size+1≤1000000) :
    Calls Tryz.prog 82 #[.pointer (some ⟨pb,0,none⟩), .string s] W fun e w'=>(∃ v,e=.returned v)∧PS Bb pb w0 (l++(s.data.toList++[10])) w'∧KeepB pb W w':=
  (c_line Bb pb l s W h.a (by omega) hz).mono fun _ _ ⟨h1,h2,h3,h4⟩=>⟨h1,⟨h2,h.b.trans h3⟩,h4⟩
end
abbrev boxF (x:BoxS)(Ai Ao:Option Addr)(ci co:Nat)(Ag Ar Aw Au:Option Addr)(cg cr cw cu:Nat):Array Value:=#[.string x.name, .slice Ai 0 ci, .slice Ao 0 co, .slice Ag x.guards.length cg, .slice Ar x.rules.length cr, .slice Aw x.owns.length cw, .slice Au x.routes.length cu]
theorem boxL_is (x:BoxS):boxL x=((((⟨#[98,111,120,32]⟩++x.name).data.toList++[10])++linesL lineT x.guards)++linesL (fun u=>ba [32,32]++ruleT u) x.rules++linesL (fun o=>ba [32,32,111,119,110,32]++prefT o) x.owns)++linesL (fun o=>ba [32,32,114,111,117,116,101,32]++prefT o) x.routes:=by
  unfold boxL
  rw [show linesL id [ba [98,111,120,32]++x.name]=(⟨#[98,111,120,32]⟩++x.name).data.toList++[10] from List.append_nil _]
  simp only [List.append_assoc]
set_option maxHeartbeats 16000000 in
set_option maxRecDepth 100000 in
theorem c_box (Bb pb : Nat) (x : BoxS) (Ai Ao : Option Addr) (ci co : Nat) (Ag Ar Aw Au : Option Addr) (cg cr cw cu : Nat) (l : Bytes) (w0 w : World) (h : PS Bb pb w0 l w) (hE : ∀ W, Below Bb w0 W → Env W) (hBw : Bb ≤ w.heap.size) (hpb : pb < w.heap.size)
    (hG:SlOf 3 LineC w0 Bb (.slice Ag x.guards.length cg) x.guards) (hU:SlOf 5 RuleC w0 Bb (.slice Ar x.rules.length cr) x.rules) (hO:Prefs w0 Bb (.slice Aw x.owns.length cw) x.owns) (hT:Prefs w0 Bb (.slice Au x.routes.length cu) x.routes)
    (hn:goodN x.name=true) (wG:∀ g∈x.guards,WrG g) (wU:∀ g∈x.rules,WrR g) (wO:∀ g∈x.owns,WrP g) (wT:∀ g∈x.routes,WrP g) (hlen:l.length+(boxL x).length≤900000) :
    Calls Tryz.prog 79 #[.pointer (some ⟨pb,0,none⟩), .agg (boxF x Ai Ao ci co Ag Ar Aw Au cg cr cw cu)] w fun e w'=>(∃ v,e=.returned v)∧PS Bb pb w0 (l++boxL x) w'∧KeepB pb w w'∧w.heap.size≤w'.heap.size:=by
  rw [boxL_is] at hlen ⊢
  simp only [List.length_append] at hlen
  obtain ⟨sg1,sg2⟩:x.guards.length≤cg∧x.guards.length≤140737488355328:=by obtain ⟨_,_,h,h1,h2⟩:=SlOf.form hG;injection h with _ _ h;subst h;exact ⟨h1,h2.2⟩
  obtain ⟨su1,su2⟩:x.rules.length≤cr∧x.rules.length≤140737488355328:=by obtain ⟨_,_,h,h1,h2⟩:=SlOf.form hU;injection h with _ _ h;subst h;exact ⟨h1,h2.2⟩
  obtain ⟨so1,so2⟩:x.owns.length≤cw∧x.owns.length≤140737488355328:=by obtain ⟨_,_,h,h1,h2⟩:=SlOf.form hO;injection h with _ _ h;subst h;exact ⟨h1,h2.2⟩
  obtain ⟨st1,st2⟩:x.routes.length≤cu∧x.routes.length≤140737488355328:=by obtain ⟨_,_,h,h1,h2⟩:=SlOf.form hT;injection h with _ _ h;subst h;exact ⟨h1,h2.2⟩
  obtain ⟨W,hW⟩:∃ W,w.alloc (.cells (boxF x Ai Ao ci co Ag Ar Aw Au cg cr cw cu) 43 (0,0))=W:=⟨_,rfl⟩
  have hbW:Below w.heap.size w W:=by rw [← hW];exact (Below.refl w.heap.size w).alloc (Nat.le_refl _) _
  have hX:W.heap[w.heap.size]?=some (.cells (boxF x Ai Ao ci co Ag Ar Aw Au cg cr cw cu) 43 (0,0)):=by rw [← hW];exact heap_alloc_new w _
  have hzW:W.heap.size=w.heap.size+1:=by rw [← hW];simp
  have hP:=h.below hBw hbW
  have hKW:KeepB pb w W:=fun k o hk _ _=>(hbW.block _ (Array.getElem?_eq_some_iff.1 hk).1).trans hk
  obtain ⟨x0,x1,x2,_,_,_,_⟩:=cells7 hX
  have zn:=goodN_le hn
  have cn:=Lib.hid fun W'=>c_name x.name hn W'
  have cl:=Lib.hid (ps_line (⟨#[98,111,120,32]⟩++x.name) hP (by omega) (by simp only [ByteArray.size_append];rw [show (⟨#[98,111,120,32]⟩:ByteArray).size=4 from rfl];omega))
  have hk:=Lib.hid fun W' (hb:Below Bb w0 W') b o (h:b<Bb)=>(bcell hb).1 b o h
  replace hG:=Lib.hid hG
  replace hU:=Lib.hid hU
  replace hO:=Lib.hid hO
  replace hT:=Lib.hid hT
  replace wG:=Lib.hid wG
  replace wU:=Lib.hid wU
  replace wO:=Lib.hid wO
  replace wT:=Lib.hid wT
  replace hE:=Lib.hid hE
  have g1:¬ 9223372036854775807<4+x.name.size:=by omega
  have hnp:w.heap.size≠pb:=by omega
  have hlen':=Lib.hid hlen
  obtain ⟨L1,hL1⟩:∃ L1,L1=l++((⟨#[98,111,120,32]⟩++x.name).data.toList++[10]):=⟨_,rfl⟩
  rw [← hL1] at cl
  have hL1l:Hid (L1.length=l.length+((⟨#[98,111,120,32]⟩++x.name).data.toList.length+1)):=Lib.hid (by rw [hL1];simp)
  replace hX:=Lib.hid hX
  replace hKW:=Lib.hid hKW
  clear h hP hlen
  go_enter Tryz.func79,Tryz.ntmps79
  go_wp2_with (first
    | (go_at_call 83;refine (cn.out _).mono ?_;rintro e w2 ⟨rfl,rfl⟩;clear cn)
    | (go_at_call 82;refine cl.out.mono ?_;rintro e w3 ⟨⟨v3,rfl⟩,hP,hK⟩;have hP3:=Lib.hid hP;have hX3:=Lib.hid (kept hK hnp (by decide) hX.out);have hK3:=Lib.hid (hKW.out.trans hK);obtain ⟨y0,y1,y2,y3,_,_,_⟩:=cells7 hX3.out;clear hP hK cl))
  clear hW hzW x0 x1 x2 g1 y0 y1 y2 y3
  have hs0:Hid (PS Bb pb w0 (L1++linesL lineT (x.guards.take 0)) w3):=Lib.hid (by simpa [linesL] using hP3.out)
  go_loopw [42] (fun i wr=>∃ k:Nat,k≤x.guards.length∧i=.int .i64 k∧Hid (PS Bb pb w0 (L1++linesL lineT (x.guards.take k)) wr)∧Hid (wr.heap[w.heap.size]?=some (.cells (boxF x Ai Ao ci co Ag Ar Aw Au cg cr cw cu) 43 (0,0)))∧Hid (KeepB pb w wr)) (fun i _=>x.guards.length-(intOf i).toNat)
  case atStart=>exact ⟨0,Nat.zero_le _,rfl,hs0,hX3,hK3⟩
  case round=>
    obtain ⟨k,hk',rfl,hP,hXr,hKr⟩:=hrel
    obtain ⟨wo,rfl⟩:∃ wo,wo=wr:=⟨_,rfl⟩
    clear hs0 hX3 hK3 hP3
    have hzo:Hid (w.heap.size<wo.heap.size):=Lib.hid (Array.getElem?_eq_some_iff.1 hXr.out).1
    by_cases hlt:k<x.guards.length
    · have hvw:=hG.out.keep (w':=wo) (Nat.le_refl _) (fun b o hb=>hk.out _ hP.out.b b o hb) fun _ _ h=>h.keep (Nat.le_refl _) (fun b o hb=>hk.out _ hP.out.b b o hb)
      obtain ⟨b,off,rfl⟩:=SlOf.addr hvw (by omega)
      obtain ⟨_,c9,s,hs,hc,hj⟩:=SlOf.el hvw hlt
      obtain ⟨Am,cm,rfl,hsp,hm⟩:=line_form hc
      have e0:wo.cell? ⟨b,off+k*3,none⟩=some (.string s.port):=hj 0 _ rfl
      have e1:wo.cell? ⟨b,off+k*3+1,none⟩=some (.bool s.permit):=hj 1 _ rfl
      have e2:wo.cell? ⟨b,off+k*3+2,none⟩=some (.slice Am s.mat.length cm):=hj 2 _ rfl
      obtain ⟨hw1,hw2⟩:=wG.out s (List.mem_of_getElem? hs)
      have hF:Hid (∀ W',PS Bb pb w0 (L1++linesL lineT (x.guards.take k)++((lineT s).data.toList++[10])) W'→PS Bb pb w0 (L1++linesL lineT (x.guards.take (k+1))) W'):=Lib.hid fun W' h=>by rw [linesL_snoc lineT hs,← List.append_assoc];exact h
      have hle:=linesL_le lineT x.guards k
      have hls:=lineT_le ⟨hw1,hw2⟩
      obtain ⟨wa,hwa⟩:∃ wa,wo.alloc (.cells #[.string s.port, .bool s.permit, .slice Am s.mat.length cm] 116 (0,0))=wa:=⟨_,rfl⟩
      have hba:Below wo.heap.size wo wa:=by rw [← hwa];exact (Below.refl _ _).alloc (Nat.le_refl _) _
      have hza:wa.heap.size=wo.heap.size+1:=by rw [← hwa];simp
      have hPa:=Lib.hid (hP.out.below (by have:=hzo.out;omega) hba)
      have hXa:wa.heap[wo.heap.size]?=some (.cells #[.string s.port, .bool s.permit, .slice Am s.mat.length cm] 116 (0,0)):=by rw [← hwa];exact heap_alloc_new wo _
      have hXb:=Lib.hid ((hba.block w.heap.size hzo.out).trans hXr.out)
      have hKa:Hid (KeepB pb w wa):=Lib.hid (hKr.out.trans fun k o hk _ _=>(hba.block _ (Array.getElem?_eq_some_iff.1 hk).1).trans hk)
      have hca:=Lib.hid fun (W':World) (h:W'.heap[wo.heap.size]?=some (.cells #[.string s.port, .bool s.permit, .slice Am s.mat.length cm] 116 (0,0)))=>cells3' h
      obtain ⟨z0,z1,z2⟩:=hca.out _ hXa
      have cN:=Lib.hid fun W'=>c_name s.port hw1 W'
      have cM:=Lib.hid fun W' (hb:Below wa.heap.size wa W')=>c_nodes s.mat (.slice Am s.mat.length cm) Bb W' (pureSl hm (Nat.le_refl _) fun b o h=>(keepB (B:=Bb) (hba.trans (hb.mono (by omega))) (by have:=hzo.out;omega) b o h)) (by have:=hb.size;have:=hzo.out;omega) hw2 (hE.out _ ((hPa.out.below (by have:=hzo.out;omega) hb).b))
      have hnp2:wo.heap.size≠pb:=by have:=hzo.out;omega
      have hla:wo.heap.size<wa.heap.size:=by omega
      have zp:=goodN_le hw1
      have zm:=nodesT_le hw2
      have hBa:Bb≤wa.heap.size:=by have:=hzo.out;omega
      obtain ⟨PT,hPT⟩:∃ PT,PT=(if s.permit then ba [32,112,101,114,109,105,116,32] else ba [32,100,101,110,121,32]):=⟨_,rfl⟩
      have zPT:PT.size≤8:=by rw [hPT];split<;>simp [ba_size]
      obtain ⟨NT,hNT⟩:∃ NT,NT=nodesT s.mat:=⟨_,rfl⟩
      have hlt9:lineT s=((⟨#[32,32,103,117,97,114,100,32]⟩++s.port)++PT)++NT:=by unfold lineT;rw [← hPT,← hNT];rfl
      rw [← hNT] at cM zm
      rw [hlt9] at hF hls
      have hln:=hlen'.out
      have hL1n:=hL1l.out
      have cL:=Lib.hid fun W' (hb:Below wa.heap.size wa W')=>ps_line (((⟨#[32,32,103,117,97,114,100,32]⟩++s.port)++PT)++NT) (hPa.out.below hBa hb) (Nat.le_trans hBa hb.size) (by rw [List.length_append];omega)
      have hPT':=Lib.hid hPT
      have hd:=Lib.hid (Below.refl wa.heap.size wa).drew
      clear hvw hc hj hs hP hXr hKr hba hm hPT hNT hlt9 hln hL1n
      go_upto_region 9 with fail
      clear hwa
      go_upto_if 47 with fail
      go_cut [6] (fun s wx=>s=.string PT∧wx=wa)
      case first=>
        cases hpm:s.permit
        · have hE2:=Lib.hid (hPT'.out.trans (by rw [hpm,if_neg (by simp)]))
          rw [hpm] at z1
          go_wp2_with fail
          go_meet
          exact ⟨by rw [hE2.out];rfl,rfl⟩
        · have hE2:=Lib.hid (hPT'.out.trans (by rw [hpm,if_pos rfl]))
          rw [hpm] at z1
          go_wp2_with fail
          go_meet
          exact ⟨by rw [hE2.out];rfl,rfl⟩
      case rest=>
      obtain ⟨rfl,rfl⟩:=hcut
      have g1:¬ 9223372036854775807<8+s.port.size:=by omega
      have g2:¬ 9223372036854775807<8+s.port.size+PT.size:=by omega
      have g3:¬ 9223372036854775807<8+s.port.size+PT.size+NT.size:=by omega
      go_upto_region 12 with fail
      go_region_held3 (fun W'=>W'.cell? ⟨wo.heap.size,0,none⟩=some (.string s.port)∧W'.cell? ⟨wo.heap.size,2,none⟩=some (.slice Am s.mat.length cm))
        (first|exact hHeld|go_keep|exact ⟨(hca.out _ hXl).1,(hca.out _ hXl).2.2⟩|exact ⟨(hbk.cell (p:=⟨wo.heap.size,0,none⟩) hla).trans z0,(hbk.cell (p:=⟨wo.heap.size,2,none⟩) hla).trans z2⟩)
        ((first
          | (go_at_call 82;(with_reducible refine (cL.out _ hbk).mono ?_);rintro e wy ⟨⟨vy,rfl⟩,hPy,hKy⟩;have hXl:=kept hKy hnp2 (by decide) ((hbk.block _ hla).trans hXa);have hPl:=Lib.hid (hF.out _ hPy);have hXbl:=Lib.hid (kept hKy hnp (by decide) ((hbk.block w.heap.size (by have:=hzo.out;omega)).trans hXb.out));have hKl:Hid (KeepB pb w wy):=Lib.hid (hKa.out.trans (Lib.OthersKept.trans (fun k o hk _ _=>(hbk.block _ (Array.getElem?_eq_some_iff.1 hk).1).trans hk) hKy));clear hPy hKy)
          | (go_at_call 84;(with_reducible refine (cM.out _ hd.out).mono ?_);rintro e wz ⟨rfl,hbA⟩;have hbk:=hd.out.trans (hbA.mono hd.out.size))
          | (go_at_call 83;(with_reducible refine (cN.out _).mono ?_);rintro e wn ⟨rfl,rfl⟩)))
      all_goals
        go_wp2_with fail
        go_roundw
        case rel=>exact ⟨k+1,by omega,by go_num,hPl,hXbl,hKl⟩
        case measure=>simp [intOf];omega
    have hge:x.guards.take k=x.guards:=List.take_of_length_le (by omega)
    rw [hge] at hP
    obtain ⟨L2,hL2⟩:∃ L2,L2=L1++linesL lineT x.guards:=⟨_,rfl⟩
    rw [← hL2] at hP
    have hL2l:Hid (L2.length=L1.length+(linesL lineT x.guards).length):=Lib.hid (by rw [hL2];simp)
    have hs0:Hid (PS Bb pb w0 (L2++linesL (fun u=>ba [32,32]++ruleT u) (x.rules.take 0)) wo):=Lib.hid (by simpa [linesL] using hP.out)
    obtain ⟨_,_,_,_,y4,_,_⟩:=cells7 hXr.out
    have hL2h:=Lib.hid hL2
    clear hL2
    go_wp2_with fail
    clear y4
    go_loopw [64] (fun i wr=>∃ k:Nat,k≤x.rules.length∧i=.int .i64 k∧Hid (PS Bb pb w0 (L2++linesL (fun u=>ba [32,32]++ruleT u) (x.rules.take k)) wr)∧Hid (wr.heap[w.heap.size]?=some (.cells (boxF x Ai Ao ci co Ag Ar Aw Au cg cr cw cu) 43 (0,0)))∧Hid (KeepB pb w wr)) (fun i _=>x.rules.length-(intOf i).toNat)
    case atStart=>exact ⟨0,Nat.zero_le _,rfl,hs0,hXr,hKr⟩
    case round=>
      obtain ⟨k,hk',rfl,hP,hXr,hKr⟩:=hrel
      obtain ⟨wo,rfl⟩:∃ wo,wo=wr:=⟨_,rfl⟩
      clear hs0
      have hzo:Hid (w.heap.size<wo.heap.size):=Lib.hid (Array.getElem?_eq_some_iff.1 hXr.out).1
      by_cases hlt:k<x.rules.length
      · have hvw:=hU.out.keep (w':=wo) (Nat.le_refl _) (fun b o hb=>hk.out _ hP.out.b b o hb) fun _ _ h=>h.keep (Nat.le_refl _) (fun b o hb=>hk.out _ hP.out.b b o hb)
        obtain ⟨b,off,rfl⟩:=SlOf.addr hvw (by omega)
        obtain ⟨_,c9,s,hs,hc,hj⟩:=SlOf.el hvw hlt
        have hc':=hc
        obtain ⟨Bf,bf,Bm,bm,Bs,bs,Bt,bt,rfl,_,_,_,_⟩:=rule_form hc
        have e0:wo.cell? ⟨b,off+k*5,none⟩=some (.int .i64 s.prio):=hj 0 _ rfl
        have e1:=hj 1 _ rfl
        have e2:=hj 2 _ rfl
        have e3:=hj 3 _ rfl
        have e4:=hj 4 _ rfl
        have hwr:=wU.out s (List.mem_of_getElem? hs)
        have hF:Hid (∀ W',PS Bb pb w0 (L2++linesL (fun u=>ba [32,32]++ruleT u) (x.rules.take k)++((⟨#[32,32]⟩++ruleT s).data.toList++[10])) W'→PS Bb pb w0 (L2++linesL (fun u=>ba [32,32]++ruleT u) (x.rules.take (k+1))) W'):=Lib.hid fun W' h=>by rw [linesL_snoc (fun u=>ba [32,32]++ruleT u) hs,← List.append_assoc];exact h
        have hle:=linesL_le (fun u=>ba [32,32]++ruleT u) x.rules k
        have hls:=ruleT_le hwr
        obtain ⟨wa,hwa⟩:∃ wa,wo.alloc (.cells #[.int .i64 s.prio, .slice Bf s.frm.length bf, .slice Bm s.mat.length bm, .slice Bs s.sets.length bs, .slice Bt s.dst.length bt] 51 (0,0))=wa:=⟨_,rfl⟩
        have hba:Below wo.heap.size wo wa:=by rw [← hwa];exact (Below.refl _ _).alloc (Nat.le_refl _) _
        have hza:wa.heap.size=wo.heap.size+1:=by rw [← hwa];simp
        have hPa:=Lib.hid (hP.out.below (by have:=hzo.out;omega) hba)
        have hXa:wa.heap[wo.heap.size]?=some (.cells #[.int .i64 s.prio, .slice Bf s.frm.length bf, .slice Bm s.mat.length bm, .slice Bs s.sets.length bs, .slice Bt s.dst.length bt] 51 (0,0)):=by rw [← hwa];exact heap_alloc_new wo _
        have hXb:=Lib.hid ((hba.block w.heap.size hzo.out).trans hXr.out)
        have hKa:Hid (KeepB pb w wa):=Lib.hid (hKr.out.trans fun k o hk _ _=>(hba.block _ (Array.getElem?_eq_some_iff.1 hk).1).trans hk)
        obtain ⟨z0,z1,z2,z3,z4⟩:=cells5 hXa
        have hBa:Bb≤wa.heap.size:=by have:=hzo.out;omega
        obtain ⟨TT,hTT⟩:∃ TT,TT=ruleT s:=⟨_,rfl⟩
        have cU:=Lib.hid (c_rule s _ Bb wa (hc'.keep (Nat.le_refl _) (fun b o h=>keepB (B:=Bb) hba (by have:=hzo.out;omega) b o h)) hBa hwr (hE.out _ hPa.out.b))
        rw [← hTT] at cU hF hls
        have hln:=hlen'.out
        have h1n:=hL1l.out
        have h2n:=hL2l.out
        have cL:=Lib.hid fun W' (hb:Below wa.heap.size wa W')=>ps_line (⟨#[32,32]⟩++TT) (hPa.out.below hBa hb) (Nat.le_trans hBa hb.size) (by rw [List.length_append,ByteArray.size_append,show (⟨#[32,32]⟩:ByteArray).size=2 from rfl];omega)
        have g1:¬ 9223372036854775807<2+TT.size:=by omega
        have hnpz:=hzo.out
        clear hvw hj hs hP hXr hKr hTT hln
        go_wp2_with (first
          | (go_at_call 110;refine cU.out.mono ?_;rintro e wz ⟨rfl,hbA⟩;have hbk:=Lib.hid hbA;have cL2:=Lib.hid (cL.out _ hbA);clear hbA cU cL)
          | (go_at_call 82;refine cL2.out.mono ?_;rintro e wy ⟨⟨vy,rfl⟩,hPy,hKy⟩;have hPl:=Lib.hid (hF.out _ hPy);have hXbl:=Lib.hid (kept hKy hnp (by decide) ((hbk.out.block w.heap.size (by omega)).trans hXb.out));have hKl:Hid (KeepB pb w wy):=Lib.hid (hKa.out.trans (Lib.OthersKept.trans (fun k o hk _ _=>(hbk.out.block _ (Array.getElem?_eq_some_iff.1 hk).1).trans hk) hKy));clear hPy hKy cL2))
        go_roundw
        case rel=>exact ⟨k+1,by omega,by go_num,hPl,hXbl,hKl⟩
        case measure=>simp [intOf];omega
      have hge:x.rules.take k=x.rules:=List.take_of_length_le (by omega)
      rw [hge] at hP
      obtain ⟨L3,hLO⟩:∃ L,L=L2++linesL (fun u=>ba [32,32]++ruleT u) x.rules:=⟨_,rfl⟩
      rw [← hLO] at hP
      have hL3l:Hid (L3.length=L2.length+(linesL (fun u=>ba [32,32]++ruleT u) x.rules).length):=Lib.hid (by rw [hLO];simp)
      have hs0:Hid (PS Bb pb w0 (L3++linesL (fun o=>ba [32,32,111,119,110,32]++prefT o) (x.owns.take 0)) wo):=Lib.hid (by simpa [linesL] using hP.out)
      obtain ⟨_,_,_,_,_,y5,_⟩:=cells7 hXr.out
      have hL3h:=Lib.hid hLO
      clear hLO
      go_wp2_with fail
      clear y5
      go_loopw [77] (fun i wr=>∃ k:Nat,k≤x.owns.length∧i=.int .i64 k∧Hid (PS Bb pb w0 (L3++linesL (fun o=>ba [32,32,111,119,110,32]++prefT o) (x.owns.take k)) wr)∧Hid (wr.heap[w.heap.size]?=some (.cells (boxF x Ai Ao ci co Ag Ar Aw Au cg cr cw cu) 43 (0,0)))∧Hid (KeepB pb w wr)) (fun i _=>x.owns.length-(intOf i).toNat)
      case atStart=>exact ⟨0,Nat.zero_le _,rfl,hs0,hXr,hKr⟩
      case round=>
        obtain ⟨k,hk',rfl,hP,hXr,hKr⟩:=hrel
        obtain ⟨wo,rfl⟩:∃ wo,wo=wr:=⟨_,rfl⟩
        clear hs0
        have hzo:Hid (w.heap.size<wo.heap.size):=Lib.hid (Array.getElem?_eq_some_iff.1 hXr.out).1
        by_cases hlt:k<x.owns.length
        · have hvw:=pureSl (w':=wo) hO.out (Nat.le_refl _) (fun b o hb=>hk.out _ hP.out.b b o hb)
          obtain ⟨b,off,rfl⟩:=SlOf.addr hvw (by omega)
          obtain ⟨_,c9,s,hs,⟨hc,hsd⟩,hj⟩:=SlOf.el hvw hlt
          subst hc
          have e0:wo.cell? ⟨b,off+k*3,none⟩=some (.int .i64 s.value):=hj 0 _ rfl
          have e1:wo.cell? ⟨b,off+k*3+1,none⟩=some (.int .i64 s.len):=hj 1 _ rfl
          have e2:wo.cell? ⟨b,off+k*3+2,none⟩=some (.string s.dst):=hj 2 _ rfl
          have hwr:=wO.out s (List.mem_of_getElem? hs)
          have hF:Hid (∀ W',PS Bb pb w0 (L3++linesL (fun o=>ba [32,32,111,119,110,32]++prefT o) (x.owns.take k)++((⟨#[32,32,111,119,110,32]⟩++prefT s).data.toList++[10])) W'→PS Bb pb w0 (L3++linesL (fun o=>ba [32,32,111,119,110,32]++prefT o) (x.owns.take (k+1))) W'):=Lib.hid fun W' h=>by rw [linesL_snoc (fun o=>ba [32,32,111,119,110,32]++prefT o) hs,← List.append_assoc];exact h
          have hle:=linesL_le (fun o=>ba [32,32,111,119,110,32]++prefT o) x.owns k
          have hls:=prefT_le hwr
          obtain ⟨wa,hwa⟩:∃ wa,wo.alloc (.cells #[.int .i64 s.value, .int .i64 s.len, .string s.dst] 79 (0,0))=wa:=⟨_,rfl⟩
          have hba:Below wo.heap.size wo wa:=by rw [← hwa];exact (Below.refl _ _).alloc (Nat.le_refl _) _
          have hza:wa.heap.size=wo.heap.size+1:=by rw [← hwa];simp
          have hPa:=Lib.hid (hP.out.below (by have:=hzo.out;omega) hba)
          have hXa:wa.heap[wo.heap.size]?=some (.cells #[.int .i64 s.value, .int .i64 s.len, .string s.dst] 79 (0,0)):=by rw [← hwa];exact heap_alloc_new wo _
          have hXb:=Lib.hid ((hba.block w.heap.size hzo.out).trans hXr.out)
          have hKa:Hid (KeepB pb w wa):=Lib.hid (hKr.out.trans fun k o hk _ _=>(hba.block _ (Array.getElem?_eq_some_iff.1 hk).1).trans hk)
          obtain ⟨z0,z1,z2⟩:=cells3' hXa
          have hBa:Bb≤wa.heap.size:=by have:=hzo.out;omega
          obtain ⟨TT,hTT⟩:∃ TT,TT=prefT s:=⟨_,rfl⟩
          have cU:=Lib.hid (c_prefix s hwr wa (hE.out _ hPa.out.b))
          rw [← hTT] at cU hF hls
          have hln:=hlen'.out
          have h1n:=hL1l.out
          have h2n:=hL2l.out
          have h3n:=hL3l.out
          have cL:=Lib.hid fun W' (hb:Below wa.heap.size wa W')=>ps_line (⟨#[32,32,111,119,110,32]⟩++TT) (hPa.out.below hBa hb) (Nat.le_trans hBa hb.size) (by rw [List.length_append,ByteArray.size_append,show (⟨#[32,32,111,119,110,32]⟩:ByteArray).size=6 from rfl];omega)
          have g1:¬ 9223372036854775807<6+TT.size:=by omega
          have hnpz:=hzo.out
          clear hvw hj hs hP hXr hKr hTT hln
          go_wp2_with (first
            | (go_at_call 111;refine cU.out.mono ?_;rintro e wz ⟨rfl,hbA⟩;have hbk:=Lib.hid hbA;have cL2:=Lib.hid (cL.out _ hbA);clear hbA cU cL)
            | (go_at_call 82;refine cL2.out.mono ?_;rintro e wy ⟨⟨vy,rfl⟩,hPy,hKy⟩;have hPl:=Lib.hid (hF.out _ hPy);have hXbl:=Lib.hid (kept hKy hnp (by decide) ((hbk.out.block w.heap.size (by omega)).trans hXb.out));have hKl:Hid (KeepB pb w wy):=Lib.hid (hKa.out.trans (Lib.OthersKept.trans (fun k o hk _ _=>(hbk.out.block _ (Array.getElem?_eq_some_iff.1 hk).1).trans hk) hKy));clear hPy hKy cL2))
          go_roundw
          case rel=>exact ⟨k+1,by omega,by go_num,hPl,hXbl,hKl⟩
          case measure=>simp [intOf];omega
        have hge:x.owns.take k=x.owns:=List.take_of_length_le (by omega)
        rw [hge] at hP
        obtain ⟨L4,hLO⟩:∃ L,L=L3++linesL (fun o=>ba [32,32,111,119,110,32]++prefT o) x.owns:=⟨_,rfl⟩
        rw [← hLO] at hP
        have hL4l:Hid (L4.length=L3.length+(linesL (fun o=>ba [32,32,111,119,110,32]++prefT o) x.owns).length):=Lib.hid (by rw [hLO];simp)
        have hs0:Hid (PS Bb pb w0 (L4++linesL (fun o=>ba [32,32,114,111,117,116,101,32]++prefT o) (x.routes.take 0)) wo):=Lib.hid (by simpa [linesL] using hP.out)
        obtain ⟨_,_,_,_,_,_,y6⟩:=cells7 hXr.out
        have hL4h:=Lib.hid hLO
        clear hLO
        go_wp2_with fail
        clear y6
        go_loopw [90] (fun i wr=>∃ k:Nat,k≤x.routes.length∧i=.int .i64 k∧Hid (PS Bb pb w0 (L4++linesL (fun o=>ba [32,32,114,111,117,116,101,32]++prefT o) (x.routes.take k)) wr)∧Hid (wr.heap[w.heap.size]?=some (.cells (boxF x Ai Ao ci co Ag Ar Aw Au cg cr cw cu) 43 (0,0)))∧Hid (KeepB pb w wr)) (fun i _=>x.routes.length-(intOf i).toNat)
        case atStart=>exact ⟨0,Nat.zero_le _,rfl,hs0,hXr,hKr⟩
        case round=>
          obtain ⟨k,hk',rfl,hP,hXr,hKr⟩:=hrel
          obtain ⟨wo,rfl⟩:∃ wo,wo=wr:=⟨_,rfl⟩
          clear hs0
          have hzo:Hid (w.heap.size<wo.heap.size):=Lib.hid (Array.getElem?_eq_some_iff.1 hXr.out).1
          by_cases hlt:k<x.routes.length
          · have hvw:=pureSl (w':=wo) hT.out (Nat.le_refl _) (fun b o hb=>hk.out _ hP.out.b b o hb)
            obtain ⟨b,off,rfl⟩:=SlOf.addr hvw (by omega)
            obtain ⟨_,c9,s,hs,⟨hc,hsd⟩,hj⟩:=SlOf.el hvw hlt
            subst hc
            have e0:wo.cell? ⟨b,off+k*3,none⟩=some (.int .i64 s.value):=hj 0 _ rfl
            have e1:wo.cell? ⟨b,off+k*3+1,none⟩=some (.int .i64 s.len):=hj 1 _ rfl
            have e2:wo.cell? ⟨b,off+k*3+2,none⟩=some (.string s.dst):=hj 2 _ rfl
            have hwr:=wT.out s (List.mem_of_getElem? hs)
            have hF:Hid (∀ W',PS Bb pb w0 (L4++linesL (fun o=>ba [32,32,114,111,117,116,101,32]++prefT o) (x.routes.take k)++((⟨#[32,32,114,111,117,116,101,32]⟩++prefT s).data.toList++[10])) W'→PS Bb pb w0 (L4++linesL (fun o=>ba [32,32,114,111,117,116,101,32]++prefT o) (x.routes.take (k+1))) W'):=Lib.hid fun W' h=>by rw [linesL_snoc (fun o=>ba [32,32,114,111,117,116,101,32]++prefT o) hs,← List.append_assoc];exact h
            have hle:=linesL_le (fun o=>ba [32,32,114,111,117,116,101,32]++prefT o) x.routes k
            have hls:=prefT_le hwr
            obtain ⟨wa,hwa⟩:∃ wa,wo.alloc (.cells #[.int .i64 s.value, .int .i64 s.len, .string s.dst] 79 (0,0))=wa:=⟨_,rfl⟩
            have hba:Below wo.heap.size wo wa:=by rw [← hwa];exact (Below.refl _ _).alloc (Nat.le_refl _) _
            have hza:wa.heap.size=wo.heap.size+1:=by rw [← hwa];simp
            have hPa:=Lib.hid (hP.out.below (by have:=hzo.out;omega) hba)
            have hXa:wa.heap[wo.heap.size]?=some (.cells #[.int .i64 s.value, .int .i64 s.len, .string s.dst] 79 (0,0)):=by rw [← hwa];exact heap_alloc_new wo _
            have hXb:=Lib.hid ((hba.block w.heap.size hzo.out).trans hXr.out)
            have hKa:Hid (KeepB pb w wa):=Lib.hid (hKr.out.trans fun k o hk _ _=>(hba.block _ (Array.getElem?_eq_some_iff.1 hk).1).trans hk)
            obtain ⟨z0,z1,z2⟩:=cells3' hXa
            have hBa:Bb≤wa.heap.size:=by have:=hzo.out;omega
            obtain ⟨TT,hTT⟩:∃ TT,TT=prefT s:=⟨_,rfl⟩
            have cU:=Lib.hid (c_prefix s hwr wa (hE.out _ hPa.out.b))
            rw [← hTT] at cU hF hls
            have hln:=hlen'.out
            have h1n:=hL1l.out
            have h2n:=hL2l.out
            have h3n:=hL3l.out
            have h4n:=hL4l.out
            have cL:=Lib.hid fun W' (hb:Below wa.heap.size wa W')=>ps_line (⟨#[32,32,114,111,117,116,101,32]⟩++TT) (hPa.out.below hBa hb) (Nat.le_trans hBa hb.size) (by rw [List.length_append,ByteArray.size_append,show (⟨#[32,32,114,111,117,116,101,32]⟩:ByteArray).size=8 from rfl];omega)
            have g1:¬ 9223372036854775807<8+TT.size:=by omega
            have hnpz:=hzo.out
            clear hvw hj hs hP hXr hKr hTT hln
            go_wp2_with (first
              | (go_at_call 111;refine cU.out.mono ?_;rintro e wz ⟨rfl,hbA⟩;have hbk:=Lib.hid hbA;have cL2:=Lib.hid (cL.out _ hbA);clear hbA cU cL)
              | (go_at_call 82;refine cL2.out.mono ?_;rintro e wy ⟨⟨vy,rfl⟩,hPy,hKy⟩;have hPl:=Lib.hid (hF.out _ hPy);have hXbl:=Lib.hid (kept hKy hnp (by decide) ((hbk.out.block w.heap.size (by omega)).trans hXb.out));have hKl:Hid (KeepB pb w wy):=Lib.hid (hKa.out.trans (Lib.OthersKept.trans (fun k o hk _ _=>(hbk.out.block _ (Array.getElem?_eq_some_iff.1 hk).1).trans hk) hKy));clear hPy hKy cL2))
            go_roundw
            case rel=>exact ⟨k+1,by omega,by go_num,hPl,hXbl,hKl⟩
            case measure=>simp [intOf];omega
          have hge:x.routes.take k=x.routes:=List.take_of_length_le (by omega)
          rw [hge] at hP
          have hfin:Hid (PS Bb pb w0 (l++(((((⟨#[98,111,120,32]⟩++x.name).data.toList++[10])++linesL lineT x.guards)++linesL (fun u=>ba [32,32]++ruleT u) x.rules++linesL (fun o=>ba [32,32,111,119,110,32]++prefT o) x.owns)++linesL (fun o=>ba [32,32,114,111,117,116,101,32]++prefT o) x.routes)) wo):=Lib.hid (by
            have h:=hP.out
            rw [hL4h.out,hL3h.out,hL2h.out,hL1] at h
            simp only [List.append_assoc] at h ⊢
            exact h)
          have hz9:=Nat.le_of_lt hzo.out
          go_wp2_with fail
          go_end0
          exact ⟨⟨_,rfl⟩,hfin.out,hKr.out,hz9⟩
end Go.Proofs.YtdhehcobnbcmdaaGreatDoor
