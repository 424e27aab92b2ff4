import Derived.Test.YtfmpphplbdojbaaGreatDoorQAM
namespace Go.Proofs.YtfmpphplbdojbaaGreatDoor
open Lib(hid)
set_option linter.all false
set_option maxHeartbeats 40000000
set_option maxRecDepth 100000
section
open Go.RowKit
variable {E:Ev}{S:AB}{c n k:Nat}{g:Bool}{w w0 w1 w2:World}{v:Value}{ps:List Nat}{ts:List Tr}{rs:List Nat}{us:List Tr}{T X:R Tr}
def Ev.guard (E:Ev) (b:Nat) (o:Obj):Ev:={ E with zb:=b,zo:=some o }
theorem Rd.guard {b:Nat}{o:Obj} (h:Rd E c n g w) (hb:b≠c) (ho:w.heap[b]?=some o):Rd (E.guard b o) c n g w :=
 ⟨h.blk,⟨h.lie.toks,h.lie.fits,h.lie.small⟩,⟨h.prs.pairs,h.prs.same,h.prs.within⟩,h.at_,fun o' e=>by cases e;exact⟨hb,ho⟩⟩
theorem Rd.unguard {b:Nat}{o:Obj}{wB:World}{m:Nat}{g':Bool} (h:Rd (E.guard b o) c n g w) (hB:Rd E c m g' wB) (hf:Fr [c] wB w):Rd E c n g w :=
 ⟨h.blk,⟨h.lie.toks,h.lie.fits,h.lie.small⟩,⟨h.prs.pairs,h.prs.same,h.prs.within⟩,h.at_,fun o' e=>⟨(hB.z o' e).1,hf.at_ (by simpa using (hB.z o' e).1) (hB.z o' e).2⟩⟩
theorem Rd.stands {b:Nat}{o:Obj} (h:Rd (E.guard b o) c n g w):w.heap[b]?=some o:=(h.z o rfl).2
theorem Nd.guard {b:Nat}{o:Obj}{p:Nat}{kd:UInt8}{wd:Int}{f t:Nat}{kv:Value}{ps0:List Nat}{ts0:List Tr} (h:Nd E c w1 p kd wd f t kv ps0 ts0 ps ts w) (h1:b≠p) (h2:kv.ownBlock≠some b):Nd (E.guard b o) c w1 p kd wd f t kv ps0 ts0 ps ts w :=
 ⟨h.fr,h.cw,h.opn,h.old,h.kids,.inr ⟨h1,h2⟩⟩
theorem UU (h:Hid (Sx E c n g w0 (Rw E c w1 v ps ts [] []) T X w)) (k:UInt8) (wd:Int) (f t:Nat) :
  Hid (Sx E c n g w0 (Nd E c w1 w.heap.size k wd f t v ps ts [] []) T X (w.alloc (.cells #[.int .u8 (k.toNat:Int),.int .i64 wd,.int .i64 (f:Int),.int .i64 (t:Int),v] 61))):=by
 have hh:=h.out;have hB:=(J' w.heap.size w).alloc (C' _) (Obj.cells #[.int .u8 (k.toNat:Int),.int .i64 wd,.int .i64 (f:Int),.int .i64 (t:Int),v] 61);have hn:=heap_alloc_new w (Obj.cells #[.int .u8 (k.toNat:Int),.int .i64 wd,.int .i64 (f:Int),.int .i64 (t:Int),v] 61);have hz:=hh.ex.fr.size;have hsep:v.ownBlock≠some w.heap.size:=fun e=>by have:=(hh.ex.own.lt _ e).2;omega
 refine (hh.below hB).with ⟨hh.ex.fr.trans (lA c hB),hh.ex.cw,⟨hn,hh.ex.own.alloc _,hz,hsep⟩,?_,trivial,?_⟩ Nd.later
 ·exact fA.kept (fun b hb=>hB.block b hb.2.1) (fun b hb=>⟨hb.1,by have:=hb.2.1;simp;omega,Ja,hb.2.2⟩) _ _ hh.ex.old
 ·rcases hh.ex.z with z|z
  ·exact .inl z
  ·exact hh.rd.zlt.imp id (fun h=>⟨Cf,z⟩)
theorem uR {K:Tr->Nat->R Tr}{F:F}{Q:Ending->World->Prop} (h:Hid (Sx E c n g w0 (Rw E c w1 v ps ts rs us) T ((S.t F n g).andThen K) w)) (hD:Hid (aB E S)) (hf:xD F≠0) (hs:NF F=false/\okF F=true)
  (hB:∀ k w',Ans E c g T w0 (Up k) w'->Q (Up k) w')
  (hQ:∀ q u n' w',S.t F n g=.ok u n'->Hid (Sx E c n' g w0 (Rw E c w1 v ps ts (rs++[q]) (us++[u])) T (K u n') w')->Q (.returned (.pointer (some ⟨q,0,none⟩))) w') :
  Calls Tryz.prog (xD F) #[.pointer (some ⟨c,0,none⟩)] w Q:=by
 refine (hD.out.t F c n g w hf (DA hs.1 h.out.rd.at_ hs.2) h.out.rd (fun e=>h.out.ne Dq)).mono ?_;intro e w' hA;have hh:=h.out;cases hr:S.t F n g with
 | out=>rw [hr] at hA;exact hA.elim
 | bad m=>rw [hr] at hA hh;obtain⟨rfl,q1,q2⟩:=hA;exact hB m w' (hh.bad rfl q1 q2)
 | ok u m=>rw [hr] at hA hh;obtain⟨q,rfl,q1,q2,q3⟩:=hA;exact hQ q u m w' hr ((hh.step q3 q1 rfl).with (hh.ex.kid q3 q2) Rw.later)
theorem cZ {o:Obj}{Bn p n0:Nat}{g0:Bool}{P:World->Prop}{r:R Tr}{K:Tr->Nat->R Tr}{fn:FuncId}{args:Array Value}{Q:Ending->World->Prop} (HRB:Hid (Rd E c n0 g0 w0)) (h:Hid (Sx E c n g w0 P T (r.andThen K) w))
  (hC:r≠.out->Calls Tryz.prog fn args w (cJ (E.guard Bn o) c g r w0 p)) (hB:∀ k w',Ans E c g T w0 (Up k) w'->Q (Up k) w')
  (hQ:∀ u n' w',w'.heap[Bn]?=some o->r=.ok u n'->Hid (Sx E c n' g w0 (Rw E c w0 OE [] [] [p] [u]) T (K u n') w')->Q (.returned (.tuple #[])) w'):Calls Tryz.prog fn args w Q:=by
 refine (hC (fun e=>h.out.ne Dq)).mono ?_;intro e w' hA;have hh:=h.out;cases r with
 | out=>exact hA.elim
 | bad k=>obtain⟨rfl,⟨g',q1⟩,q2⟩:=hA;exact hB k w' Fi
 | ok u m =>
  obtain⟨rfl,q1,q2,q3⟩:=hA;exact hQ u m w' q1.stands rfl ⟨q1.unguard HRB.out q3,q3,hh.cw,⟨q3,hh.cw,As _ _ _ _,trivial,⟨nA.kept (fun _ _=>rfl) (fun b hb=>⟨hb.1,hb.2,Cz⟩) p u q2,trivial⟩,.inr Cz⟩,Rw.later,hh.eq,hh.ne⟩
theorem UY {o:Obj}{Bn p n0:Nat}{g0:Bool}{P:World->Prop}{r:R Tr}{K:Tr->Nat->R Tr}{fn:FuncId}{args:Array Value}{Q:Ending->World->Prop} (HRB:Hid (Rd E c n0 g0 w0)) (h:Hid (Sx E c n g w0 P T (r.andThen K) w))
  (hC:r≠.out->Calls Tryz.prog fn args w (XJ (fun q=>q=p) (E.guard Bn o) c g r w0)) (hB:∀ k w',Ans E c g T w0 (Up k) w'->Q (Up k) w')
  (hQ:∀ u n' w',w'.heap[Bn]?=some o->r=.ok u n'->Hid (Sx E c n' g w0 (Rw E c w0 OE [] [] [p] [u]) T (K u n') w')->Q (.returned (.pointer (some ⟨p,0,none⟩))) w'):Calls Tryz.prog fn args w Q:=by
 refine (hC (fun e=>h.out.ne Dq)).mono ?_;rintro e w' ⟨hp,hA⟩;have hh:=h.out;cases r with
 | out=>exact hA.elim
 | bad k=>obtain⟨rfl,⟨g',q1⟩,q2⟩:=hA;exact hB k w' Fi
 | ok u m =>
  obtain⟨q,rfl,q1,q2,q3⟩:=hA;have:=hp q rfl;subst this;exact hQ u m w' q1.stands rfl ⟨q1.unguard HRB.out q3,q3,hh.cw,⟨q3,hh.cw,As _ _ _ _,trivial,⟨nA.kept (fun _ _=>rfl) (fun b hb=>⟨hb.1,hb.2,Cz⟩) _ u q2,trivial⟩,.inr Cz⟩,Rw.later,hh.eq,hh.ne⟩
theorem AY {B Bn p:Nat}{φ:Nat->Prop}{r:R Tr} (hr:w.cell? ⟨B,0,none⟩=some (.pointer (some ⟨c,0,none⟩))) (hn:w.cell? ⟨Bn,0,none⟩=some (.pointer (some ⟨p,0,none⟩)))
  (H:Calls Tryz.prog 214 #[.pointer (some ⟨c,0,none⟩),.pointer (some ⟨p,0,none⟩)] w (XJ φ E c g r w0)) :
  Calls Tryz.prog 213 #[.pointer (some ⟨B,0,none⟩),.pointer (some ⟨Bn,0,none⟩)] w (XJ φ E c g r w0):=by
 have HH:=hid H;clear H;go_enter Tryz.func213,Tryz.ntmps213;go_wp2_with fail;refine HH.out.mono ?_;rintro e w' ⟨hq,hA⟩;rcases hA.shape with ⟨q,rfl⟩|⟨m,rfl⟩
 ·exact Bf
 ·exact⟨rfl,hq,hA⟩
theorem ZX {B Bn p:Nat}{φ:Nat->Prop}{r:R Tr} (hr:w.cell? ⟨B,0,none⟩=some (.pointer (some ⟨c,0,none⟩))) (hn:w.cell? ⟨Bn,0,none⟩=some (.pointer (some ⟨p,0,none⟩)))
  (H:Calls Tryz.prog 216 #[.pointer (some ⟨c,0,none⟩),.pointer (some ⟨p,0,none⟩)] w (XJ φ E c g r w0)) :
  Calls Tryz.prog 215 #[.pointer (some ⟨B,0,none⟩),.pointer (some ⟨Bn,0,none⟩)] w (XJ φ E c g r w0):=by
 have HH:=hid H;clear H;go_enter Tryz.func215,Tryz.ntmps215;go_wp2_with fail;refine HH.out.mono ?_;rintro e w' ⟨hq,hA⟩;rcases hA.shape with ⟨q,rfl⟩|⟨m,rfl⟩
 ·exact Bf
 ·exact⟨rfl,hq,hA⟩
theorem LW {o:Obj}{Bn p:Nat}{kd:UInt8}{wd:Int}{f t:Nat}{kv:Value}{ps0:List Nat}{ts0:List Tr}{K:Tr->Nat->R Tr}{F:F}{Q:Ending->World->Prop} (h:Hid (Sx E c n g w0 (Nd E c w1 p kd wd f t kv ps0 ts0 ps ts) T ((S.t F n g).andThen K) w)) (hD:Hid (aB E S)) (hf:xD F≠0) (hs:NF F=false/\okF F=true)
  (hbc:Hid (Bn≠c)) (hbo:Hid (w.heap[Bn]?=some o)) (hB:∀ k w',Ans E c g T w0 (Up k) w'->Q (Up k) w')
  (hQ:∀ q u n' w',Hid (w'.heap[Bn]?=some o)->Hid (S.t F n g=.ok u n')->Hid (Sx E c n' g w0 (Nd E c w1 p kd wd f t kv ps0 ts0 (ps++[q]) (ts++[u])) T (K u n') w')->Q (.returned (.pointer (some ⟨q,0,none⟩))) w') :
  Calls Tryz.prog (xD F) #[.pointer (some ⟨c,0,none⟩)] w Q:=by
 refine (hD.out.t F c n g w hf (DA hs.1 h.out.rd.at_ hs.2) h.out.rd (fun e=>h.out.ne Dq)).mono ?_;intro e w' hA;have hh:=h.out;cases hr:S.t F n g with
 | out=>rw [hr] at hA;exact hA.elim
 | bad m=>rw [hr] at hA hh;obtain⟨rfl,q1,q2⟩:=hA;exact hB m w' (hh.bad rfl q1 q2)
 | ok u m=>rw [hr] at hA hh;obtain⟨q,rfl,q1,q2,q3⟩:=hA;exact hQ q u m w' (q3.at_ (by simpa using hbc.out) hbo.out) hr ((hh.step q3 q1 rfl).with (hh.ex.kid q3 q2) Nd.later)
theorem TV {o:Obj}{Bn p n0:Nat}{g0:Bool}{kd:UInt8}{wd:Int}{f t:Nat}{kv:Value}{ps0:List Nat}{ts0:List Tr} (HRB:Hid (Rd E c n0 g0 w0)) (h:Hid (Sx E c n g w0 (Nd E c w0 p kd wd f t kv ps0 ts0 ps ts) T X w)) (hb:Hid (Bn≠c/\Bn≠p/\kv.ownBlock≠some Bn)) (hbo:Hid (w.heap[Bn]?=some o)) (hsm:ps0.length+ps.length<=1000000) :
  Calls Tryz.prog 113 #[.pointer (some ⟨c,0,none⟩),.pointer (some ⟨p,0,none⟩),.slice (some ⟨w.heap.size,0,none⟩) ps.length ps.length] (w.alloc (.cells (GB ps).toArray 51))
   fun e w'=>e=.returned (.pointer (some ⟨p,0,none⟩))/\Hid (w'.heap[Bn]?=some o)/\Hid (Sx E c n g w0 (Rw E c w0 OE [] [] [p] [.mk kd wd f n (ts0++ts)]) T X w'):=by
 have hh:=h.out;refine (AJ (hh.rd.guard hb.out.1 hbo.out) (hh.ex.guard (o:=o) hb.out.2.1 hb.out.2.2) hsm).mono ?_;rintro e w' ⟨rfl,q,hq,q1,q2,q3⟩;cases hq;exact⟨rfl,q1.stands,q1.unguard HRB.out q3,q3,hh.cw,⟨q3,hh.cw,As _ _ _ _,trivial,⟨nA.kept (fun _ _=>rfl) (fun b hb=>⟨hb.1,hb.2,Cz⟩) p _ q2,trivial⟩,.inr Cz⟩,Rw.later,hh.eq,hh.ne⟩
def lY (E:Ev) (c:Nat) (g:Bool) (wB:World) (T:R Tr) (fr j:Nat) (v:Value) (wr:World):Prop :=
 ∃ n q u,v=.pointer (some ⟨q,0,none⟩)/\Sh u/\Hid (Sx E c n g wB (Rw E c wB OE [] [] [q] [u]) T ((kA E.toEnv j).t (.primMore fr u) n g) wr)
theorem NN (H:∀ (E':Ev) j,E'.toEnv=E.toEnv->j<=k->aB E' (kA E.toEnv j)) (h:Rd E c n g w) (hr:(((kA E.toEnv k).t .operand n g).andThen fun x n1=>(kA E.toEnv k).t (.primMore n x) n1 g)≠.out) :
  Calls Tryz.prog 186 #[.pointer (some ⟨c,0,none⟩)] w (Ans E c g (((kA E.toEnv k).t .operand n g).andThen fun x n1=>(kA E.toEnv k).t (.primMore n x) n1 g) w):=by
 have HG:=hid H;have hB:=(J' w.heap.size w).alloc (C' _) (Obj.cells #[.pointer (some ⟨c,0,none⟩)] 54);have hbx:=nE w (.pointer (some ⟨c,0,none⟩)) 54;have HX:=hid (And.intro hbx h.lt);have HFB:=hid (lA c hB);have HRB:=hid (h.below hB);have H0:=iK (Sx.start (h.below hB) hr rfl);obtain⟨_,_,_,hat,_⟩:=(h.below hB).cells;clear h hr hB H;go_enter Tryz.func186,Tryz.ntmps186;go_wp2_with fail;generalize w.alloc (.cells #[.pointer (some ⟨c,0,none⟩)] 54)=wB at *;generalize w.heap.size=B at *;clear hbx hat;refine uR (F:=.operand) H0 (hid (HG.out E k rfl (C' _))) Ch ⟨rfl,rfl⟩ (fun _ _ h=>⟨rfl,h.behind HFB.out⟩) ?_;intro q1 u1 n1 w1 hop H1;clear H0;have HS1:=hid ((ZF E.toEnv k).t .operand n g trivial u1 n1 hop);clear hop;go_wp2_with fail
 go_loopg [4] k (fun j v wr=>j<=k/\lY E c g wB (((kA E.toEnv k).t .operand n g).andThen fun x n1=>(kA E.toEnv k).t (.primMore n x) n1 g) n j v wr)
 case atStart=>exact⟨C' _,n1,q1,u1,rfl,HS1.out,H1⟩
 case round =>
  clear H1 HS1;obtain⟨hj,n2,q2,u2,rfl,hs,H3⟩:=hrel;have HJ:=hid (And.intro hj hs);clear hj hs;rcases gk with _|j
  ·exact Bc
  ·replace H3:Hid (Sx _ _ _ _ _ _ _ (DC E.toEnv (kA E.toEnv j) n u2 n2 g) _):=H3
   conv at H3=>arg 1;arg 8;unfold DC
   have hBr:wB.heap.size<=wr.heap.size/\c < wB.heap.size:=⟨H3.out.fr.size,H3.out.cw⟩;have H4:=pL H3 Cm;clear H3;have H5:=UU H4 0 (-1) n 0;clear H4;have H6:=FF H5 (.cells #[.pointer (some ⟨(wr.alloc (.cells (GB [q2]).toArray 51)).heap.size,0,none⟩)] 51);have hbn:=heap_alloc_new ((wr.alloc (.cells (GB [q2]).toArray 51)).alloc (.cells #[.int .u8 ((0:UInt8).toNat:Int),.int .i64 (-1),.int .i64 (n:Int),.int .i64 ((0:Nat):Int),.slice (some ⟨wr.heap.size,0,none⟩) [q2].length [q2].length] 61)) (.cells #[.pointer (some ⟨(wr.alloc (.cells (GB [q2]).toArray 51)).heap.size,0,none⟩)] 51);clear H5;simp only [World.size_alloc,Ao,Al] at H6 hbn;replace H6:Hid (Sx E c n2 g wB (Nd E c wB (wr.heap.size+1) 0 (-1) n 0 (.slice (some ⟨wr.heap.size,0,none⟩) 1 1) [q2] [u2] [] []) _ _ (((wr.alloc (.cells #[.pointer (some ⟨q2,0,none⟩)] 51)).alloc (.cells #[.int .u8 0,.int .i64 (-1),.int .i64 (n:Int),.int .i64 0,.slice (some ⟨wr.heap.size,0,none⟩) 1 1] 61)).alloc (.cells #[.pointer (some ⟨wr.heap.size+1,0,none⟩)] 51))):=H6;replace hbn:(((wr.alloc (.cells #[.pointer (some ⟨q2,0,none⟩)] 51)).alloc (.cells #[.int .u8 0,.int .i64 (-1),.int .i64 (n:Int),.int .i64 0,.slice (some ⟨wr.heap.size,0,none⟩) 1 1] 61)).alloc (.cells #[.pointer (some ⟨wr.heap.size+1,0,none⟩)] 51)).heap[wr.heap.size+1+1]?=some (.cells #[.pointer (some ⟨wr.heap.size+1,0,none⟩)] 51):=hbn;have hbr:=H6.out.fr.cell (a:=⟨B,0,none⟩) Cg HX.out.1;go_wp2_with fail;have hBl:=World.block_lt_of_cell? _ _ HX.out.1;simp only [] at hBl;have HN:=hid (And.intro hBl (And.intro hBr.1 (And.intro hBr.2 HX.out.2)));have hnl:wr.heap.size+1+1 < (((wr.alloc (.cells #[.pointer (some ⟨q2,0,none⟩)] 51)).alloc (.cells #[.int .u8 0,.int .i64 (-1),.int .i64 (n:Int),.int .i64 0,.slice (some ⟨wr.heap.size,0,none⟩) 1 1] 61)).alloc (.cells #[.pointer (some ⟨wr.heap.size+1,0,none⟩)] 51)).heap.size:=Cm
   refine (pE H6.out.rd).mono ?_;rintro e w4 ⟨rfl,hb⟩;have H7:=hid (H6.out.below hb);have hbr4:=aA hb hbr;have hbn4:w4.heap[wr.heap.size+1+1]?=some (.cells #[.pointer (some ⟨wr.heap.size+1,0,none⟩)] 51):=(hb.block _ hnl).trans hbn;have hbc4:w4.cell? ⟨wr.heap.size+1+1,0,none⟩=some (.pointer (some ⟨wr.heap.size+1,0,none⟩)):=by simp [World.cell?,hbn4]
   have HGR:=hid (H7.out.rd.guard Cf hbn4);have HND:=hid (H7.out.ex.guard (o:=(.cells #[.pointer (some ⟨wr.heap.size+1,0,none⟩)] 51)) (b:=wr.heap.size+1+1) Cf (by intro e;have e2:wr.heap.size=wr.heap.size+1+1:=Option.some.inj e;omega));have HB4:=hid hbn4;clear H6 hb hbr hbn hbn4 hnl hBl hBr;cases h46:E.is n2 [46] with
   | true =>
    have d46:(E.word (n2:Nat)==[46])=true:=h46;simp only [h46,if_true] at H7;have HL:=hid (gA h46);clear h46;go_wp2_with fail;refine cZ (Bn:=wr.heap.size+1+1) (o:=(.cells #[.pointer (some ⟨wr.heap.size+1,0,none⟩)] 51)) HRB H7 (fun hr=>(HG.out (E.guard _ _) j rfl Dw).dot n u2 c n2 g wB w4 _ 0 _ q2 HL.out HGR.out HND.out hr) (fun _ _ h=>⟨rfl,h.behind HFB.out⟩) ?_;intro u8 n8 w8 hb8 he H8;have HS8:=hid ((ZF E.toEnv j).t (.dot n u2) n2 g HJ.out.2 u8 n8 he);have hbc8:w8.cell? ⟨wr.heap.size+1+1,0,none⟩=some (.pointer (some ⟨wr.heap.size+1,0,none⟩)):=Il
    clear H7 HGR HND HB4 hbr4 hbc4 he hb8 d46;go_wp2_with fail;go_roundg j
    case measure=>omega
    case rel=>exact⟨Dw,n8,_,u8,rfl,HS8.out,H8⟩
   | false =>
    have d46:(E.word (n2:Nat)==[46])=false:=h46;simp only [h46,Bool.false_eq_true,if_false] at H7;clear h46;cases h40:E.is n2 [40] with
    | true =>
     have d40:(E.word (n2:Nat)==[40])=true:=h40;simp only [h40,if_true] at H7;have HL:=hid (gA h40);clear h40;go_wp2_with fail;refine UY (Bn:=wr.heap.size+1+1) (o:=(.cells #[.pointer (some ⟨wr.heap.size+1,0,none⟩)] 51)) HRB H7 (fun hr=>GG HGR.out 213 #[] #[.pointer (some ⟨B,0,none⟩),.pointer (some ⟨wr.heap.size+1+1,0,none⟩)] (fun _=>cF Ci _ _) _ (fun q=>q=wr.heap.size+1) wB H7.out.fr H7.out.cw
      (fun wq hR hF=>AY (hF.cell (a:=⟨B,0,none⟩) F6 hbr4) (hF.cell (a:=⟨wr.heap.size+1+1,0,none⟩) F6 hbc4) ((HG.out (E.guard _ _) j rfl Dw).call n u2 c n2 false wB wq _ 0 _ q2 HL.out hR (Nd.later _ _ HND.out hF) hr))) (fun _ _ h=>⟨rfl,h.behind HFB.out⟩) ?_
     intro u8 n8 w8 hb8 he H8;have HS8:=hid ((ZF E.toEnv j).t (.call n u2) n2 false HJ.out.2 u8 n8 he);have hbc8:w8.cell? ⟨wr.heap.size+1+1,0,none⟩=some (.pointer (some ⟨wr.heap.size+1,0,none⟩)):=Il
     clear H7 HGR HND HB4 hbr4 hbc4 he hb8 d46 d40;go_wp2_with fail;go_roundg j
     case measure=>omega
     case rel=>exact⟨Dw,n8,_,u8,rfl,HS8.out,H8⟩
    | false =>
     have d40:(E.word (n2:Nat)==[40])=false:=h40;simp only [h40,Bool.false_eq_true,if_false] at H7;clear h40;cases h91:E.is n2 [91] with
     | true =>
      have d91:(E.word (n2:Nat)==[91])=true:=h91;simp only [h91,if_true] at H7;have HL:=hid (gA h91);clear h91;go_wp2_with fail;refine UY (Bn:=wr.heap.size+1+1) (o:=(.cells #[.pointer (some ⟨wr.heap.size+1,0,none⟩)] 51)) HRB H7 (fun hr=>GG HGR.out 215 #[] #[.pointer (some ⟨B,0,none⟩),.pointer (some ⟨wr.heap.size+1+1,0,none⟩)] (fun _=>cF Ci _ _) _ (fun q=>q=wr.heap.size+1) wB H7.out.fr H7.out.cw
       (fun wq hR hF=>ZX (hF.cell (a:=⟨B,0,none⟩) F6 hbr4) (hF.cell (a:=⟨wr.heap.size+1+1,0,none⟩) F6 hbc4) ((HG.out (E.guard _ _) j rfl Dw).index n u2 c n2 false wB wq _ 0 _ q2 HL.out hR (Nd.later _ _ HND.out hF) hr))) (fun _ _ h=>⟨rfl,h.behind HFB.out⟩) ?_
      intro u8 n8 w8 hb8 he H8;have HS8:=hid ((ZF E.toEnv j).t (.index n u2) n2 false HJ.out.2 u8 n8 he);have hbc8:w8.cell? ⟨wr.heap.size+1+1,0,none⟩=some (.pointer (some ⟨wr.heap.size+1,0,none⟩)):=Il
      clear H7 HGR HND HB4 hbr4 hbc4 he hb8 d46 d40 d91;go_wp2_with fail;go_roundg j
      case measure=>omega
      case rel=>exact⟨Dw,n8,_,u8,rfl,HS8.out,H8⟩
     | false =>
      have d91:(E.word (n2:Nat)==[91])=false:=h91;simp only [h91,Bool.false_eq_true,if_false] at H7;clear h91;clear HGR HND;cases h123:E.is n2 [123] with
      | false =>
       have d123:(E.word (n2:Nat)==[123])=false:=h123;simp only [h123,Bool.false_and,Bool.false_eq_true,if_false] at H7;clear h123;go_wp2_with fail;go_ret;exact (IV (ZQ (ps':=[]++[q2]) (ts':=[]++[u2]) H7 H7.out.ex.old)).behind HFB.out
      | true =>
       have d123:(E.word (n2:Nat)==[123])=true:=h123;simp only [h123,Bool.true_and] at H7;clear h123;have HFL:=hid (XQ H7.out.rd H7.out.ex.old.1 HJ.out.2);cases hff:filled g u2 with
       | false =>
        simp only [hff,Bool.false_eq_true,if_false] at H7;rw [hff] at HFL;clear hff;go_wp2_with fail;refine HFL.out.mono ?_;rintro e w5 ⟨rfl,rfl⟩;clear HFL;go_wp2_with fail;go_ret;exact (IV (ZQ (ps':=[]++[q2]) (ts':=[]++[u2]) H7 H7.out.ex.old)).behind HFB.out
       | true =>
        simp only [hff,if_true] at H7;rw [hff] at HFL;clear hff;have hne:B≠wr.heap.size+1:=Hi
        have hne2:wr.heap.size+1+1≠wr.heap.size+1:=Cf
        have hfz:=H7.out.ex.opn.blk.free 0;obtain⟨hk0,_,_,_,_⟩:=H7.out.ex.opn.blk.cells;have H8:Hid (Sx _ _ _ _ _ _ _ _ (w4.setCell ⟨wr.heap.size+1,0,none⟩ (.int .u8 39))):=dB H7 39;clear H7;have hbr5:=kH (N:=wr.heap.size+1) (j:=0) (x:=.int .u8 39) (a:=⟨B,0,none⟩) hne hbr4;have hbc5:=kH (N:=wr.heap.size+1) (j:=0) (x:=.int .u8 39) (a:=⟨wr.heap.size+1+1,0,none⟩) hne2 hbc4;have HB5:Hid ((w4.setCell ⟨wr.heap.size+1,0,none⟩ (.int .u8 39)).heap[wr.heap.size+1+1]?=some (.cells #[.pointer (some ⟨wr.heap.size+1,0,none⟩)] 51)):=hid ((Ad _ _ _ _ hne2).trans HB4.out);have HHC:=hid (And.intro (show wr.heap.size+1+1≠c by have:=HN.out;omega) (And.intro hne2 (show (Value.slice (some ⟨wr.heap.size,0,none⟩) 1 1).ownBlock≠some (wr.heap.size+1+1) by intro e;have e2:wr.heap.size=wr.heap.size+1+1:=Option.some.inj e;omega)));clear HB4;go_wp2_with fail;refine HFL.out.mono ?_;rintro e w5 ⟨rfl,rfl⟩;clear HFL;go_wp2_with fail;have H9:=yC H8;clear H8;have HB9:Hid ((w4.setCell ⟨wr.heap.size+1,0,none⟩ (.int .u8 39)).drew.heap[wr.heap.size+1+1]?=some (.cells #[.pointer (some ⟨wr.heap.size+1,0,none⟩)] 51)):=HB5;clear HB5;have HDJ:=hid (HG.out E j rfl Dw);have HHC1:=hid HHC.out.1;clear hne hne2 hfz hk0 hbr4 hbc4
        go_region_held (fun w'=>w'.cell? ⟨B,0,none⟩=some (.pointer (some ⟨c,0,none⟩))/\w'.cell? ⟨wr.heap.size+1+1,0,none⟩=some (.pointer (some ⟨wr.heap.size+1,0,none⟩))) (first|(refine⟨?_,?_⟩;all_goals (first|assumption|exact aA ((J' _ _).alloc (C' _) _) ‹_›))|(go_split_ands;refine⟨?_,?_⟩;all_goals (first|assumption|exact aA ((J' _ _).alloc (C' _) _) ‹_›))) (first|(go_at_call 218;refine LW (F:=.elements) H9 HDJ Ch ⟨rfl,rfl⟩ HHC1 HB9 (fun _ _ h=>⟨rfl,h.behind HFB.out⟩) ?_;intro q10 u10 n10 w10 HB10 HE10 H10;have hbr10:=H10.out.fr.cell (a:=⟨B,0,none⟩) Cg HX.out.1;have hbc10:w10.cell? ⟨wr.heap.size+1+1,0,none⟩=some (.pointer (some ⟨wr.heap.size+1,0,none⟩)):=by simp [World.cell?,HB10.out])|(go_at_call 113;refine (TV HRB H10 HHC HB10 Cm).mono ?_;rintro e wz ⟨rfl,HBz,HZ⟩;clear H10;have hbrz:=HZ.out.fr.cell (a:=⟨B,0,none⟩) Cg HX.out.1;have hbcz:wz.cell? ⟨wr.heap.size+1+1,0,none⟩=some (.pointer (some ⟨wr.heap.size+1,0,none⟩)):=by simp [World.cell?,HBz.out]))
        go_wp2_with fail;go_roundg j
        case measure=>omega
        case rel=>exact⟨Dw,n10,_,.mk 39 (-1) n n10 [u2,u10],rfl,⟨Ct,HJ.out.2,(ZF E.toEnv j).t .elements n2 g trivial u10 n10 HE10.out,trivial⟩,HZ⟩
end
