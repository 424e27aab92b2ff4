import Derived.Test.YtjdllofmhglmiaaGreatDoorQBJ
namespace Go.Proofs.YtjdllofmhglmiaaGreatDoor
open Lib(hid)
set_option linter.all false
set_option maxHeartbeats 40000000
set_option maxRecDepth 100000
section
open Go.RowKit
variable {E:Ev}{S:AB}{c n k:Nat}{g:Bool}{w w0 w1 w2:World}{v:Value}{ps:List Nat}{ts:List Tr}{rs:List Nat}{us:List Tr}{T X:R Tr}
def Ev.guard (E:Ev) (b:Nat) (o:Obj):Ev:={ E with zb:=b,zo:=some o }
theorem Rd.guard {b:Nat}{o:Obj} (h:Rd E c n g w) (hb:b≠c) (ho:w.heap[b]?=some o):Rd (E.guard b o) c n g w :=
 ⟨h.blk,⟨h.lie.toks,h.lie.fits,h.lie.small⟩,⟨h.prs.pairs,h.prs.same,h.prs.within⟩,h.at_,fun o' e=>by cases e;exact⟨hb,ho⟩⟩
theorem Rd.unguard {b:Nat}{o:Obj}{wB:World}{m:Nat}{g':Bool} (h:Rd (E.guard b o) c n g w) (hB:Rd E c m g' wB) (hf:Fr [c] wB w):Rd E c n g w :=
 ⟨h.blk,⟨h.lie.toks,h.lie.fits,h.lie.small⟩,⟨h.prs.pairs,h.prs.same,h.prs.within⟩,h.at_,fun o' e=>⟨(hB.z o' e).1,hf.at_ (by simpa using (hB.z o' e).1) (hB.z o' e).2⟩⟩
theorem Rd.stands {b:Nat}{o:Obj} (h:Rd (E.guard b o) c n g w):w.heap[b]?=some o:=(h.z o rfl).2
theorem Nd.guard {b:Nat}{o:Obj}{p:Nat}{kd:UInt8}{wd:Int}{f t:Nat}{kv:Value}{ps0:List Nat}{ts0:List Tr} (h:Nd E c w1 p kd wd f t kv ps0 ts0 ps ts w) (h1:b≠p) (h2:kv.ownBlock≠some b):Nd (E.guard b o) c w1 p kd wd f t kv ps0 ts0 ps ts w :=
 ⟨h.fr,h.cw,h.opn,h.old,h.kids,.inr ⟨h1,h2⟩⟩
theorem UU (h:Hid (Sx E c n g w0 (Rw E c w1 v ps ts [] []) T X w)) (k:UInt8) (wd:Int) (f t:Nat) :
  Hid (Sx E c n g w0 (Nd E c w1 w.heap.size k wd f t v ps ts [] []) T X (w.alloc (.cells #[.int .u8 (k.toNat:Int),i8 wd,i8 (f:Int),i8 (t:Int),v] 54))):=by
 have hh:=h.out;have hB:=(N' w.heap.size w).alloc (C' _) (Obj.cells #[.int .u8 (k.toNat:Int),i8 wd,i8 (f:Int),i8 (t:Int),v] 54);have hn:=B8 w (Obj.cells #[.int .u8 (k.toNat:Int),i8 wd,i8 (f:Int),i8 (t:Int),v] 54);have hz:=hh.ex.fr.size;have hsep:v.ownBlock≠some w.heap.size:=fun e=>by have:=(hh.ex.own.lt _ e).2;omega
 refine (hh.below hB).with ⟨hh.ex.fr.trans (lA c hB),hh.ex.cw,⟨hn,hh.ex.own.alloc _,hz,hsep⟩,?_,trivial,?_⟩ Nd.later
 ·exact fA.kept (fun b hb=>hB.block b hb.2.1) (fun b hb=>⟨hb.1,by have:=hb.2.1;simp;omega,Fc,hb.2.2⟩) _ _ hh.ex.old
 ·rcases hh.ex.z with z|z
  ·exact .inl z
  ·exact hh.rd.zlt.imp id (fun h=>⟨Cs,z⟩)
theorem uR {K:Tr->Nat->R Tr}{F:F}{Q:Ending->World->Prop} (h:Hid (Sx E c n g w0 (Rw E c w1 v ps ts rs us) T ((S.t F n g).andThen K) w)) (hD:Hid (aB E S)) (hf:xD F≠0) (hs:NF F=false/\okF F=true)
  (hB:∀ k w',Ans E c g T w0 (Up k) w'->Q (Up k) w')
  (hQ:∀ q u n' w',S.t F n g=.ok u n'->Hid (Sx E c n' g w0 (Rw E c w1 v ps ts (rs++[q]) (us++[u])) T (K u n') w')->Q (.returned (p8 q)) w') :
  Calls Tryz.prog (xD F) #[p8 c] w Q:=by
 refine (hD.out.t F c n g w hf (DA hs.1 h.out.rd.at_ hs.2) h.out.rd (fun e=>h.out.ne Eo)).mono ?_;intro e w' hA;have hh:=h.out;cases hr:S.t F n g with
 | out=>rw [hr] at hA;exact hA.elim
 | bad m=>rw [hr] at hA hh;obtain⟨rfl,q1,q2⟩:=hA;exact hB m w' (hh.bad rfl q1 q2)
 | ok u m=>rw [hr] at hA hh;obtain⟨q,rfl,q1,q2,q3⟩:=hA;exact hQ q u m w' hr ((hh.step q3 q1 rfl).with (hh.ex.kid q3 q2) Rw.later)
theorem cZ {o:Obj}{Bn p n0:Nat}{g0:Bool}{P:World->Prop}{r:R Tr}{K:Tr->Nat->R Tr}{fn:FuncId}{args:Array Value}{Q:Ending->World->Prop} (HRB:Hid (Rd E c n0 g0 w0)) (h:Hid (Sx E c n g w0 P T (r.andThen K) w))
  (hC:r≠.out->Calls Tryz.prog fn args w (cJ (E.guard Bn o) c g r w0 p)) (hB:∀ k w',Ans E c g T w0 (Up k) w'->Q (Up k) w')
  (hQ:∀ u n' w',w'.heap[Bn]?=some o->r=.ok u n'->Hid (Sx E c n' g w0 (Rw E c w0 OE [] [] [p] [u]) T (K u n') w')->Q (.returned (.tuple #[])) w'):Calls Tryz.prog fn args w Q:=by
 refine (hC (fun e=>h.out.ne Eo)).mono ?_;intro e w' hA;have hh:=h.out;cases r with
 | out=>exact hA.elim
 | bad k=>obtain⟨rfl,⟨g',q1⟩,q2⟩:=hA;exact hB k w' F7
 | ok u m =>
  obtain⟨rfl,q1,q2,q3⟩:=hA;exact hQ u m w' q1.stands rfl ⟨q1.unguard HRB.out q3,q3,hh.cw,⟨q3,hh.cw,Av _ _ _ _,trivial,⟨nA.kept (fun _ _=>rfl) (fun b hb=>⟨hb.1,hb.2,Dl⟩) p u q2,trivial⟩,.inr Dl⟩,Rw.later,hh.eq,hh.ne⟩
theorem UY {o:Obj}{Bn p n0:Nat}{g0:Bool}{P:World->Prop}{r:R Tr}{K:Tr->Nat->R Tr}{fn:FuncId}{args:Array Value}{Q:Ending->World->Prop} (HRB:Hid (Rd E c n0 g0 w0)) (h:Hid (Sx E c n g w0 P T (r.andThen K) w))
  (hC:r≠.out->Calls Tryz.prog fn args w (XJ (fun q=>q=p) (E.guard Bn o) c g r w0)) (hB:∀ k w',Ans E c g T w0 (Up k) w'->Q (Up k) w')
  (hQ:∀ u n' w',w'.heap[Bn]?=some o->r=.ok u n'->Hid (Sx E c n' g w0 (Rw E c w0 OE [] [] [p] [u]) T (K u n') w')->Q (.returned (p8 p)) w'):Calls Tryz.prog fn args w Q:=by
 refine (hC (fun e=>h.out.ne Eo)).mono ?_;rintro e w' ⟨hp,hA⟩;have hh:=h.out;cases r with
 | out=>exact hA.elim
 | bad k=>obtain⟨rfl,⟨g',q1⟩,q2⟩:=hA;exact hB k w' F7
 | ok u m =>
  obtain⟨q,rfl,q1,q2,q3⟩:=hA;have:=hp q rfl;subst this;exact hQ u m w' q1.stands rfl ⟨q1.unguard HRB.out q3,q3,hh.cw,⟨q3,hh.cw,Av _ _ _ _,trivial,⟨nA.kept (fun _ _=>rfl) (fun b hb=>⟨hb.1,hb.2,Dl⟩) _ u q2,trivial⟩,.inr Dl⟩,Rw.later,hh.eq,hh.ne⟩
theorem AY {B Bn p:Nat}{φ:Nat->Prop}{r:R Tr} (hr:w.cell? (y8 B 0)=some (p8 c)) (hn:w.cell? (y8 Bn 0)=some (p8 p))
  (H:Calls Tryz.prog 191 #[p8 c,p8 p] w (XJ φ E c g r w0)) :
  Calls Tryz.prog 190 #[p8 B,p8 Bn] w (XJ φ E c g r w0):=by
 have HH:=hid H;clear H
 go_in
 go_wp2_with fail;refine HH.out.mono ?_;rintro e w' ⟨hq,hA⟩;rcases hA.shape with ⟨q,rfl⟩|⟨m,rfl⟩
 ·clear HH hr hn;exact zcb
 ·exact⟨rfl,hq,hA⟩
theorem ZX {B Bn p:Nat}{φ:Nat->Prop}{r:R Tr} (hr:w.cell? (y8 B 0)=some (p8 c)) (hn:w.cell? (y8 Bn 0)=some (p8 p))
  (H:Calls Tryz.prog 193 #[p8 c,p8 p] w (XJ φ E c g r w0)) :
  Calls Tryz.prog 192 #[p8 B,p8 Bn] w (XJ φ E c g r w0):=by
 have HH:=hid H;clear H
 go_in
 go_wp2_with fail;refine HH.out.mono ?_;rintro e w' ⟨hq,hA⟩;rcases hA.shape with ⟨q,rfl⟩|⟨m,rfl⟩
 ·clear HH hr hn;exact zcb
 ·exact⟨rfl,hq,hA⟩
theorem LW {o:Obj}{Bn p:Nat}{kd:UInt8}{wd:Int}{f t:Nat}{kv:Value}{ps0:List Nat}{ts0:List Tr}{K:Tr->Nat->R Tr}{F:F}{Q:Ending->World->Prop} (h:Hid (Sx E c n g w0 (Nd E c w1 p kd wd f t kv ps0 ts0 ps ts) T ((S.t F n g).andThen K) w)) (hD:Hid (aB E S)) (hf:xD F≠0) (hs:NF F=false/\okF F=true)
  (hbc:Hid (Bn≠c)) (hbo:Hid (w.heap[Bn]?=some o)) (hB:∀ k w',Ans E c g T w0 (Up k) w'->Q (Up k) w')
  (hQ:∀ q u n' w',Hid (w'.heap[Bn]?=some o)->Hid (S.t F n g=.ok u n')->Hid (Sx E c n' g w0 (Nd E c w1 p kd wd f t kv ps0 ts0 (ps++[q]) (ts++[u])) T (K u n') w')->Q (.returned (p8 q)) w') :
  Calls Tryz.prog (xD F) #[p8 c] w Q:=by
 refine (hD.out.t F c n g w hf (DA hs.1 h.out.rd.at_ hs.2) h.out.rd (fun e=>h.out.ne Eo)).mono ?_;intro e w' hA;have hh:=h.out;cases hr:S.t F n g with
 | out=>rw [hr] at hA;exact hA.elim
 | bad m=>rw [hr] at hA hh;obtain⟨rfl,q1,q2⟩:=hA;exact hB m w' (hh.bad rfl q1 q2)
 | ok u m=>rw [hr] at hA hh;obtain⟨q,rfl,q1,q2,q3⟩:=hA;exact hQ q u m w' (q3.at_ (by simpa using hbc.out) hbo.out) hr ((hh.step q3 q1 rfl).with (hh.ex.kid q3 q2) Nd.later)
theorem TV {o:Obj}{Bn p n0:Nat}{g0:Bool}{kd:UInt8}{wd:Int}{f t:Nat}{kv:Value}{ps0:List Nat}{ts0:List Tr} (HRB:Hid (Rd E c n0 g0 w0)) (h:Hid (Sx E c n g w0 (Nd E c w0 p kd wd f t kv ps0 ts0 ps ts) T X w)) (hb:Hid (Bn≠c/\Bn≠p/\kv.ownBlock≠some Bn)) (hbo:Hid (w.heap[Bn]?=some o)) (hsm:ps0.length+ps.length<=1000000) :
  Calls Tryz.prog 80 #[p8 c,p8 p,.slice (some (y8 w.heap.size 0)) ps.length ps.length] (w.alloc (.cells (GB ps).toArray 44))
   fun e w'=>e=.returned (p8 p)/\Hid (w'.heap[Bn]?=some o)/\Hid (Sx E c n g w0 (Rw E c w0 OE [] [] [p] [.mk kd wd f n (ts0++ts)]) T X w'):=by
 have hh:=h.out;refine (AJ (hh.rd.guard hb.out.1 hbo.out) (hh.ex.guard (o:=o) hb.out.2.1 hb.out.2.2) hsm).mono ?_;rintro e w' ⟨rfl,q,hq,q1,q2,q3⟩;cases hq;exact⟨rfl,q1.stands,q1.unguard HRB.out q3,q3,hh.cw,⟨q3,hh.cw,Av _ _ _ _,trivial,⟨nA.kept (fun _ _=>rfl) (fun b hb=>⟨hb.1,hb.2,Dl⟩) p _ q2,trivial⟩,.inr Dl⟩,Rw.later,hh.eq,hh.ne⟩
def lY (E:Ev) (c:Nat) (g:Bool) (wB:World) (T:R Tr) (fr j:Nat) (v:Value) (wr:World):Prop :=
 ∃ n q u,v=p8 q/\Sh u/\Hid (Sx E c n g wB (Rw E c wB OE [] [] [q] [u]) T ((spec E.toEnv j).t (.primMore fr u) n g) wr)
theorem NN (H:∀ (E':Ev) j,E'.toEnv=E.toEnv->j<=k->aB E' (spec E.toEnv j)) (h:Rd E c n g w) (hr:(((spec E.toEnv k).t .operand n g).andThen fun x n1=>(spec E.toEnv k).t (.primMore n x) n1 g)≠.out) :
  Calls Tryz.prog 154 #[p8 c] w (Ans E c g (((spec E.toEnv k).t .operand n g).andThen fun x n1=>(spec E.toEnv k).t (.primMore n x) n1 g) w):=by
 have HG:=hid H;have hB:=(N' w.heap.size w).alloc (C' _) (Obj.cells #[p8 c] 47);have hbx:=nE w (p8 c) 47;have HX:=hid (Az hbx h.lt);have HFB:=hid (lA c hB);have HRB:=hid (h.below hB);have H0:=iK (Sx.start (h.below hB) hr rfl);obtain⟨_,_,_,hat,_⟩:=(h.below hB).cells;clear h hr hB H
 go_in
 go_wp2_with fail;generalize w.alloc (.cells #[p8 c] 47)=wB at *;generalize w.heap.size=B at *;clear hbx hat;refine uR (F:=.operand) H0 (hid (HG.out E k rfl (C' _))) Ct ⟨rfl,rfl⟩ (fun _ _ h=>⟨rfl,h.behind HFB.out⟩) ?_;intro q1 u1 n1 w1 hop H1;clear H0;have HS1:=hid ((ZF E.toEnv k).t .operand n g trivial u1 n1 hop);clear hop;go_wp2_with fail
 go_loopg [4] k (fun j v wr=>j<=k/\lY E c g wB (((spec E.toEnv k).t .operand n g).andThen fun x n1=>(spec E.toEnv k).t (.primMore n x) n1 g) n j v wr)
 case atStart=>exact⟨C' _,n1,q1,u1,rfl,HS1.out,H1⟩
 case round =>
  clear H1 HS1;obtain⟨hj,n2,q2,u2,rfl,hs,H3⟩:=hrel;have HJ:=hid (Az hj hs);clear hj hs;rcases gk with _|j
  ·exact Cq
  ·replace H3:Hid (Sx _ _ _ _ _ _ _ (DC E.toEnv (spec E.toEnv j) n u2 n2 g) _):=H3
   conv at H3=>arg 1;arg 8;unfold DC
   have hBr:wB.heap.size<=wr.heap.size/\c < wB.heap.size:=⟨H3.out.fr.size,H3.out.cw⟩;have H4:=pL H3 Cu;clear H3;have H5:=UU H4 0 (-1) n 0;clear H4;have H6:=FF H5 (.cells #[.pointer (some ⟨(wr.alloc (.cells (GB [q2]).toArray 44)).heap.size,0,none⟩)] 44);have hbn:=B8 ((wr.alloc (.cells (GB [q2]).toArray 44)).alloc (.cells #[.int .u8 ((0:UInt8).toNat:Int),i8 (-1),i8 (n:Int),i8 ((0:Nat):Int),.slice (some (y8 wr.heap.size 0)) [q2].length [q2].length] 54)) (.cells #[.pointer (some ⟨(wr.alloc (.cells (GB [q2]).toArray 44)).heap.size,0,none⟩)] 44);clear H5;simp only [World.size_alloc,Ar,Ao] at H6 hbn;replace H6:Hid (Sx E c n2 g wB (Nd E c wB (wr.heap.size+1) 0 (-1) n 0 (.slice (some (y8 wr.heap.size 0)) 1 1) [q2] [u2] [] []) _ _ (((wr.alloc (.cells #[p8 q2] 44)).alloc (.cells #[.int .u8 0,i8 (-1),i8 (n:Int),i8 0,.slice (some (y8 wr.heap.size 0)) 1 1] 54)).alloc (.cells #[.pointer (some (y8 (wr.heap.size+1) 0))] 44))):=H6;replace hbn:(((wr.alloc (.cells #[p8 q2] 44)).alloc (.cells #[.int .u8 0,i8 (-1),i8 (n:Int),i8 0,.slice (some (y8 wr.heap.size 0)) 1 1] 54)).alloc (.cells #[.pointer (some (y8 (wr.heap.size+1) 0))] 44)).heap[wr.heap.size+1+1]?=some (.cells #[.pointer (some (y8 (wr.heap.size+1) 0))] 44):=hbn;have hbr:=H6.out.fr.cell (a:=(y8 B 0)) Cx HX.out.1;go_wp2_with fail;have hBl:=World.block_lt_of_cell? _ _ HX.out.1;simp only [] at hBl;have HN:=hid (Az hBl (Az hBr.1 (Az hBr.2 HX.out.2)));have hnl:wr.heap.size+1+1 < (((wr.alloc (.cells #[p8 q2] 44)).alloc (.cells #[.int .u8 0,i8 (-1),i8 (n:Int),i8 0,.slice (some (y8 wr.heap.size 0)) 1 1] 54)).alloc (.cells #[.pointer (some (y8 (wr.heap.size+1) 0))] 44)).heap.size:=Cu
   refine (pE H6.out.rd).mono ?_;rintro e w4 ⟨rfl,hb⟩;have H7:=hid (H6.out.below hb);have hbr4:=aA hb hbr;have hbn4:w4.heap[wr.heap.size+1+1]?=some (.cells #[.pointer (some (y8 (wr.heap.size+1) 0))] 44):=(hb.block _ hnl).trans hbn;have hbc4:w4.cell? ⟨wr.heap.size+1+1,0,none⟩=some (.pointer (some (y8 (wr.heap.size+1) 0))):=by simp [World.cell?,hbn4]
   have HGR:=hid (H7.out.rd.guard Cs hbn4);have HND:=hid (H7.out.ex.guard (o:=(.cells #[.pointer (some (y8 (wr.heap.size+1) 0))] 44)) (b:=wr.heap.size+1+1) Cs (by intro e;have e2:wr.heap.size=wr.heap.size+1+1:=Option.some.inj e;omega));have HB4:=hid hbn4;clear H6 hb hbr hbn hbn4 hnl hBl hBr;cases h46:E.is n2 [46] with
   | true =>
    have d46:(E.word (n2:Nat)==[46])=true:=h46;simp only [h46,Be] at H7;have HL:=hid (gA h46);clear h46;go_wp2_with fail;refine cZ (Bn:=wr.heap.size+1+1) (o:=(.cells #[.pointer (some (y8 (wr.heap.size+1) 0))] 44)) HRB H7 (fun hr=>(HG.out (E.guard _ _) j rfl Ep).dot n u2 c n2 g wB w4 _ 0 _ q2 HL.out HGR.out HND.out hr) (fun _ _ h=>⟨rfl,h.behind HFB.out⟩) ?_;intro u8 n8 w8 hb8 he H8;have HS8:=hid ((ZF E.toEnv j).t (.dot n u2) n2 g HJ.out.2 u8 n8 he);have hbc8:w8.cell? ⟨wr.heap.size+1+1,0,none⟩=some (.pointer (some (y8 (wr.heap.size+1) 0))):=Jv
    clear H7 HGR HND HB4 hbr4 hbc4 he hb8 d46;go_wp2_with fail;go_roundg j
    case measure=>omega
    case rel=>exact⟨Ep,n8,_,u8,rfl,HS8.out,H8⟩
   | false =>
    have d46:(E.word (n2:Nat)==[46])=false:=h46;simp only [h46,Ba,Bf] at H7;clear h46;cases h40:E.is n2 [40] with
    | true =>
     have d40:(E.word (n2:Nat)==[40])=true:=h40;simp only [h40,Be] at H7;have HL:=hid (gA h40);clear h40;go_wp2_with fail;refine UY (Bn:=wr.heap.size+1+1) (o:=(.cells #[.pointer (some (y8 (wr.heap.size+1) 0))] 44)) HRB H7 (fun hr=>GG HGR.out 190 #[] #[p8 B,.pointer (some ⟨wr.heap.size+1+1,0,none⟩)] (fun _=>cF Cw _ _) _ (fun q=>q=wr.heap.size+1) wB H7.out.fr H7.out.cw
      (fun wq hR hF=>AY (hF.cell (a:=(y8 B 0)) Gz hbr4) (hF.cell (a:=⟨wr.heap.size+1+1,0,none⟩) Gz hbc4) ((HG.out (E.guard _ _) j rfl Ep).call n u2 c n2 false wB wq _ 0 _ q2 HL.out hR (Nd.later _ _ HND.out hF) hr))) (fun _ _ h=>⟨rfl,h.behind HFB.out⟩) ?_
     intro u8 n8 w8 hb8 he H8;have HS8:=hid ((ZF E.toEnv j).t (.call n u2) n2 false HJ.out.2 u8 n8 he);have hbc8:w8.cell? ⟨wr.heap.size+1+1,0,none⟩=some (.pointer (some (y8 (wr.heap.size+1) 0))):=Jv
     clear H7 HGR HND HB4 hbr4 hbc4 he hb8 d46 d40;go_wp2_with fail;go_roundg j
     case measure=>omega
     case rel=>exact⟨Ep,n8,_,u8,rfl,HS8.out,H8⟩
    | false =>
     have d40:(E.word (n2:Nat)==[40])=false:=h40;simp only [h40,Ba,Bf] at H7;clear h40;cases h91:E.is n2 [91] with
     | true =>
      have d91:(E.word (n2:Nat)==[91])=true:=h91;simp only [h91,Be] at H7;have HL:=hid (gA h91);clear h91;go_wp2_with fail;refine UY (Bn:=wr.heap.size+1+1) (o:=(.cells #[.pointer (some (y8 (wr.heap.size+1) 0))] 44)) HRB H7 (fun hr=>GG HGR.out 192 #[] #[p8 B,.pointer (some ⟨wr.heap.size+1+1,0,none⟩)] (fun _=>cF Cw _ _) _ (fun q=>q=wr.heap.size+1) wB H7.out.fr H7.out.cw
       (fun wq hR hF=>ZX (hF.cell (a:=(y8 B 0)) Gz hbr4) (hF.cell (a:=⟨wr.heap.size+1+1,0,none⟩) Gz hbc4) ((HG.out (E.guard _ _) j rfl Ep).index n u2 c n2 false wB wq _ 0 _ q2 HL.out hR (Nd.later _ _ HND.out hF) hr))) (fun _ _ h=>⟨rfl,h.behind HFB.out⟩) ?_
      intro u8 n8 w8 hb8 he H8;have HS8:=hid ((ZF E.toEnv j).t (.index n u2) n2 false HJ.out.2 u8 n8 he);have hbc8:w8.cell? ⟨wr.heap.size+1+1,0,none⟩=some (.pointer (some (y8 (wr.heap.size+1) 0))):=Jv
      clear H7 HGR HND HB4 hbr4 hbc4 he hb8 d46 d40 d91;go_wp2_with fail;go_roundg j
      case measure=>omega
      case rel=>exact⟨Ep,n8,_,u8,rfl,HS8.out,H8⟩
     | false =>
      have d91:(E.word (n2:Nat)==[91])=false:=h91;simp only [h91,Ba,Bf] at H7;clear h91;clear HGR HND;cases h123:E.is n2 [123] with
      | false =>
       have d123:(E.word (n2:Nat)==[123])=false:=h123;simp only [h123,Bool.false_and,Ba,Bf] at H7;clear h123;exact zc5
      | true =>
       have d123:(E.word (n2:Nat)==[123])=true:=h123;simp only [h123,Bool.true_and] at H7;clear h123;have HFL:=hid (XQ H7.out.rd H7.out.ex.old.1 HJ.out.2);cases hff:filled g u2 with
       | false =>
        simp only [hff,Ba,Bf] at H7;rw [hff] at HFL;clear hff;go_wp2_with fail;refine HFL.out.mono ?_;rintro e w5 ⟨rfl,rfl⟩;clear HFL;exact zc5
       | true =>
        simp only [hff,Be] at H7;rw [hff] at HFL;clear hff;have hne:B≠wr.heap.size+1:=Dz
        have hne2:wr.heap.size+1+1≠wr.heap.size+1:=Cs
        have hfz:=H7.out.ex.opn.blk.free 0;obtain⟨hk0,_,_,_,_⟩:=H7.out.ex.opn.blk.cells;have H8:Hid (Sx _ _ _ _ _ _ _ _ (w4.setCell (y8 (wr.heap.size+1) 0) (.int .u8 39))):=dB H7 39;clear H7;have hbr5:=kH (N:=wr.heap.size+1) (j:=0) (x:=.int .u8 39) (a:=(y8 B 0)) hne hbr4;have hbc5:=kH (N:=wr.heap.size+1) (j:=0) (x:=.int .u8 39) (a:=⟨wr.heap.size+1+1,0,none⟩) hne2 hbc4;have HB5:Hid ((w4.setCell (y8 (wr.heap.size+1) 0) (.int .u8 39)).heap[wr.heap.size+1+1]?=some (.cells #[.pointer (some (y8 (wr.heap.size+1) 0))] 44)):=hid ((Ah _ _ _ _ hne2).trans HB4.out);have HHC:=hid (Az (show wr.heap.size+1+1≠c by have:=HN.out;omega) (Az hne2 (show (Value.slice (some (y8 wr.heap.size 0)) 1 1).ownBlock≠some (wr.heap.size+1+1) by intro e;have e2:wr.heap.size=wr.heap.size+1+1:=Option.some.inj e;omega)));clear HB4;go_wp2_with fail;refine HFL.out.mono ?_;rintro e w5 ⟨rfl,rfl⟩;clear HFL;go_wp2_with fail;have H9:=yC H8;clear H8;have HB9:Hid ((w4.setCell (y8 (wr.heap.size+1) 0) (.int .u8 39)).drew.heap[wr.heap.size+1+1]?=some (.cells #[.pointer (some (y8 (wr.heap.size+1) 0))] 44)):=HB5;clear HB5;have HDJ:=hid (HG.out E j rfl Ep);have HHC1:=hid HHC.out.1;clear hne hne2 hfz hk0 hbr4 hbc4
        go_region_held (fun w'=>w'.cell? ⟨B,0,none⟩=some (p8 c)/\w'.cell? ⟨wr.heap.size+1+1,0,none⟩=some (.pointer (some ⟨wr.heap.size+1,0,none⟩))) (first|(refine⟨?_,?_⟩;all_goals (first|assumption|exact aA ((N' _ _).alloc (C' _) _) ‹_›))|(go_split_ands;refine⟨?_,?_⟩;all_goals (first|assumption|exact aA ((N' _ _).alloc (C' _) _) ‹_›))) (first|(go_at_call 195;refine LW (F:=.elements) H9 HDJ Ct ⟨rfl,rfl⟩ HHC1 HB9 (fun _ _ h=>⟨rfl,h.behind HFB.out⟩) ?_;intro q10 u10 n10 w10 HB10 HE10 H10;have hbr10:=H10.out.fr.cell (a:=⟨B,0,none⟩) Cx HX.out.1;have hbc10:w10.cell? ⟨wr.heap.size+1+1,0,none⟩=some (.pointer (some ⟨wr.heap.size+1,0,none⟩)):=by simp [World.cell?,HB10.out])|(go_at_call 80;refine (TV HRB H10 HHC HB10 Cu).mono ?_;rintro e wz ⟨rfl,HBz,HZ⟩;clear H10;have hbrz:=HZ.out.fr.cell (a:=⟨B,0,none⟩) Cx HX.out.1;have hbcz:wz.cell? ⟨wr.heap.size+1+1,0,none⟩=some (.pointer (some ⟨wr.heap.size+1,0,none⟩)):=by simp [World.cell?,HBz.out]))
        go_wp2_with fail;go_roundg j
        case measure=>omega
        case rel=>exact⟨Ep,n10,_,.mk 39 (-1) n n10 [u2,u10],rfl,⟨Db,HJ.out.2,(ZF E.toEnv j).t .elements n2 g trivial u10 n10 HE10.out,trivial⟩,HZ⟩
end
section
open Go.RowKit
variable {E:Ev}{S:AB}{c n k:Nat}{g:Bool}{w w0 w1 w2:World}{v:Value}{ps:List Nat}{ts:List Tr}{rs:List Nat}{us:List Tr}{T X:R Tr}
theorem xJ {ops:Array Oper}{o:Oper}{a:Act}{K:Act->World->Prop}{Q:Exit->Act->World->Prop}{E':Prop} (hgd:o.guard=none) (s x:Operand)
  (ho:o.op=.call { callee:=.builtin .append,args:=#[s,x],argTypes:=#[52,52] }) {q:Nat}{u:Tr}
  (h:Hid (Sx E c n g w0 (Rw E c w1 v ps ts [q] [u]) T X w)) (h01:w0.heap.size<=w1.heap.size) (hs:a.eval s=v) (hx:a.eval x=.slice (some (y8 w.heap.size 0)) 1 1) (hsm:ps.length<=1099511627776)
  (hQ:∀ va vc w',Hid (Sx E c n g w0 (Rw E c w1 (.slice va (ps.length+1) vc) (ps++[q]) (ts++[u]) [] []) T X w')->K (a.put o.dst (.slice va (ps.length+1) vc)) w') :
  if Region.wanted o (yielded ops a.tmps)=true then Oper.wp Tryz.prog o a (w.alloc (.cells #[p8 q] 44)) K Q else E':=by
 obtain⟨iP,hiP,hz0,hz1,hz2⟩:=info_parts Tryz.infoP;have hh:=h.out;have hz:=hh.ex.fr.size;have hB:=(N' w.heap.size w).alloc (C' _) (Obj.cells #[p8 q] 44);have ha5:(w.alloc (Obj.cells #[p8 q] 44)).heap.size=w.heap.size+1:=Cu
 refine step_append_lies _ hgd s x 52 ho w1.heap.size 44 iP _ 1 8 Tryz.underlying52 hiP hz0 hz1 hz2 rfl Ct v ps.length (GB ps) hs (hh.ex.own.alloc _) (y8 w.heap.size 0) 1 1 (GB [q]) hx rfl
  (At (cs:=#[p8 q]) (t:=44) (fr:=(0,0)) (B8 w _)) (zG _) Ct Da Cs Cs _ rfl ?_
 intro g' cap w' hown hgrow hat _;have hg5:=hgrow.size;have hX:Fr (YD v) (w.alloc (Obj.cells #[p8 q] 44)) w':=Fr.grown hgrow (fun k hk=>Gl);have hXm:∀ i∈YD v,w1.heap.size<=i:=by
  exact zcz
 have hcw:=hh.ex.cw;have hF1:=(hh.ex.fr.trans (lA c hB)).trans' hX (fun i hi=>.inr (hXm i hi));have hF0:=(hh.fr.trans (lA c hB)).trans' hX (fun i hi=>.inr F5);refine hQ _ _ w' ⟨(hh.rd.below hB).later hX (fun i hi=>F5) (hh.ex.z.imp id (fun h m=>by
  unfold YD at m;split at m
  ·rename_i b2 hb2;simp at m;exact h (m ▸ hb2)
  ·simp at m)),hF0,hh.cw,?_,Rw.later,hh.eq,hh.ne⟩
 exact hh.ex.more hF1 hown (fun b hb hne=>Eg) Cs (hat.imp (fun e=>Eu) (fun e=>⟨g',rfl,Cs⟩)) hh.rd.zlt
theorem vM {B Bk Bo:Nat}{kd:UInt8}{sort:Nat}{f:FuncId}{first cap:Array Value} (H:∀ j,j<=k->aB E (spec E.toEnv j)) (hkk:k<=1000000000000) (h:Rd E c n g w)
  (hcf:∀ w1,Sem.run Tryz.prog (callFunc f (first++cap)) w1=.ok (.enter f (first++cap)) w1)
  (hC:∀ j,j<=k->∀ n1 w1,Rd E c n1 g w1->(spec E.toEnv j).t (.cased sort) n1 g≠.out->Calls Tryz.prog f (first++cap) w1 (Ans E c g ((spec E.toEnv j).t (.cased sort) n1 g) w1))
  (hX:(w.cell? (y8 B 0)=some (p8 c)/\w.cell? (y8 Bk 0)=some (.int .u8 (kd.toNat:Int))/\w.cell? (y8 Bo 0)=some (.func (.func f) first cap))/\c < B/\c < Bk/\c < Bo)
  (hr:((want E.toEnv [123] n).andThen fun _ n1=>(spec E.toEnv k).t (.clausesMore kd sort []) n1 g)≠.out) :
  Calls Tryz.prog 269 #[p8 B,p8 Bk,p8 Bo] w (Ans E c g ((want E.toEnv [123] n).andThen fun _ n1=>(spec E.toEnv k).t (.clausesMore kd sort []) n1 g) w):=by
 have HA:=hid H;clear H;have HC0:=hid hC;clear hC;have HCF:=hid hcf;clear hcf;have HX:=hid hX;clear hX;have H0:=iK (Sx.start h hr rfl);clear h hr
 go_in
 have hbr:=H0.out.fr.cell (a:=(y8 B 0)) Cx HX.out.1.1;go_wp2_with fail;clear hbr;refine FA H0 (fun _ _ h=>⟨rfl,h⟩) ?_;intro n1 w1 H1;clear H0;go_wp2_with fail
 go_loopg [4] k (fun j v wr=>tL E c g w ((want E.toEnv [123] n).andThen fun _ n1=>(spec E.toEnv k).t (.clausesMore kd sort []) n1 g) (F.clausesMore kd sort) k j v wr)
 case atStart=>exact⟨n1,[],[],Cu,H1⟩
 case round =>
  clear H1;obtain⟨n2,acc,ps,hl,H3⟩:=hrel;have HL:=hid hl;clear hl;rcases gk with _|j
  ·exact Cq
  ·replace H3:Hid (Sx _ _ _ _ _ _ _ (mB E.toEnv (spec E.toEnv j) kd sort acc n2 g) _):=H3
   conv at H3=>arg 1;arg 8;unfold mB
   have HDJ:=hid (HA.out j Fl);have hbr:=H3.out.fr.cell (a:=(y8 B 0)) Cx HX.out.1.1;go_wp2_with fail;clear hbr;cases h1:E.is n2 [125] with
   | true =>
    have d1:(E.word (n2:Nat)==[125])=true:=h1;simp only [h1,Be] at H3;have HY:=hid h1;clear h1;refine cA H3 ?_;intro w4 H4;clear H3;have hbr:=H4.out.fr.cell (a:=(y8 B 0)) Cx HX.out.1.1;go_wp2_with fail;clear hbr;refine LE (k2:=25) H4 Fl ?_;intro q6 w6 H6;clear H4;have hbr:=H6.out.fr.cell (a:=(y8 B 0)) Cx HX.out.1.1;go_wp2_with fail;clear hbr;refine IJ H6 HY ?_;intro n7 w7 hm H7;clear H6;simp only [<- hm] at H7;clear hm;go_wp2_with fail;go_ret;exact RE (rs:=[]) (us:=[]) H7
   | false =>
    have d1:(E.word (n2:Nat)==[125])=false:=h1;simp only [h1,Ba,Bf] at H3;clear h1;refine cA H3 ?_;intro w4 H4;clear H3;have hbr:=H4.out.fr.cell (a:=(y8 B 0)) Cx HX.out.1.1;have hbk:=H4.out.fr.cell (a:=(y8 Bk 0)) Cx HX.out.1.2.1;go_wp2_with fail;clear hbr hbk;refine TK H4 kd ?_;intro p5 w5 H5;have hbr:=H5.out.fr.cell (a:=(y8 B 0)) Cx HX.out.1.1;go_wp2_with fail;clear hbr;cases h2:E.is n2 [100,101,102,97,117,108,116] with
    | true =>
     simp only [h2,Be] at H5;refine vE H5 h2 ?_;intro n6 w6 hm H6;clear H5 h2;simp only [<- hm,mA] at H6;clear hm;have hbr:=H6.out.fr.cell (a:=(y8 B 0)) Cx HX.out.1.1;go_wp2_with fail;clear hbr;refine IA H6 0 ?_;intro q7 w7 H7;clear H6;have hbr:=H7.out.fr.cell (a:=(y8 B 0)) Cx HX.out.1.1;go_wp2_with fail;refine FA H7 (fun _ _ h=>⟨rfl,h⟩) ?_;intro n8 w8 H8;clear H7;have hbr:=H8.out.fr.cell (a:=(y8 B 0)) Cx HX.out.1.1;go_wp2_with fail;have HR8:=yC H8;clear H8
     go_region_law ((first|(go_simp;go_at_call 41;refine jA (F:=.stmts) HR8 HDJ Ct ⟨rfl,rfl⟩ (fun _ _ h=>⟨rfl,h⟩) ?_;intro qs us ns ws HS;clear HR8;have hbr:=HS.out.fr.cell (a:=⟨B,0,none⟩) Cx HX.out.1.1;have hbs:=fun o=>aA ((N' ws.heap.size ws).alloc (C' _) o) hbr)|(go_simp;go_at_call 80;refine (NL H4 HS Cu).mono ?_;rintro e wc ⟨rfl,HC⟩;clear HS H4;have hbr:=HC.out.fr.cell (a:=⟨B,0,none⟩) Cx HX.out.1.1;have hbt:=fun o=>aA ((N' wc.heap.size wc).alloc (C' _) o) hbr)|(refine xJ Db _ _ Db HC (C' _) Db Db Fl ?_;intro va vc wz HZ;clear HC;have hbr:=HZ.out.fr.cell (a:=⟨B,0,none⟩) Cx HX.out.1.1)))
     all_goals
      go_wp2_with fail;go_roundg j
      case measure=>omega
      case rel=>exact⟨ns,_,_,Jh,HZ⟩
    | false =>
     simp only [h2,Ba,Bf,zA] at H5;refine gH H5 h2 ?_;intro w6 H6;clear H5 h2;have hbr:=H6.out.fr.cell (a:=(y8 B 0)) Cx HX.out.1.1;go_wp2_with fail;clear hbr;refine FA H6 (fun _ _ h=>⟨rfl,h⟩) ?_;intro n7 w7 H7;clear H6;have hbr:=H7.out.fr.cell (a:=(y8 B 0)) Cx HX.out.1.1;have hbo:=H7.out.fr.cell (a:=(y8 Bo 0)) Cx HX.out.1.2.2;have hcf:=HCF.out;go_wp2_with fail;clear hbr hbo hcf;refine TB H7 (fun hr=>HC0.out j Fl _ _ H7.out.rd hr) (fun _ _ h=>⟨rfl,h⟩) ?_;intro q8 u8 n8 w8 H8;clear H7;have hbr:=H8.out.fr.cell (a:=(y8 B 0)) Cx HX.out.1.1;go_wp2_with fail;refine FA H8 (fun _ _ h=>⟨rfl,h⟩) ?_;intro n9 w9 H9;clear H8;have hbr:=H9.out.fr.cell (a:=(y8 B 0)) Cx HX.out.1.1;go_wp2_with fail;have HR9:=yC H9;clear H9
     go_region_law ((first|(go_simp;go_at_call 41;refine jA (F:=.stmts) HR9 HDJ Ct ⟨rfl,rfl⟩ (fun _ _ h=>⟨rfl,h⟩) ?_;intro qs us ns ws HS;clear HR9;have hbr:=HS.out.fr.cell (a:=⟨B,0,none⟩) Cx HX.out.1.1;have hbs:=fun o=>aA ((N' ws.heap.size ws).alloc (C' _) o) hbr)|(go_simp;go_at_call 80;refine (NL H4 HS Cu).mono ?_;rintro e wc ⟨rfl,HC⟩;clear HS H4;have hbr:=HC.out.fr.cell (a:=⟨B,0,none⟩) Cx HX.out.1.1;have hbt:=fun o=>aA ((N' wc.heap.size wc).alloc (C' _) o) hbr)|(refine xJ Db _ _ Db HC (C' _) Db Db Fl ?_;intro va vc wz HZ;clear HC;have hbr:=HZ.out.fr.cell (a:=⟨B,0,none⟩) Cx HX.out.1.1)))
     all_goals
      go_wp2_with fail;go_roundg j
      case measure=>omega
      case rel=>exact⟨ns,_,_,Jh,HZ⟩
end
