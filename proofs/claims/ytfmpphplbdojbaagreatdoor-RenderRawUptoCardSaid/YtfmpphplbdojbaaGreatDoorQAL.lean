import Derived.Test.YtfmpphplbdojbaaGreatDoorQAK
namespace Go.Proofs.YtfmpphplbdojbaaGreatDoor
open Lib(hid)
set_option linter.all false
set_option maxHeartbeats 40000000
set_option maxRecDepth 100000
section
open Go.RowKit
variable {E:Ev}{S:AB}{c n:Nat}{g:Bool}{w:World}
def XO (E:Env) (S:AB) (n:Nat) (g:Bool):R Tr :=
 if E.is (n+1) [93] then .bad (n+1)
 else (rows E S [91] [44] [93] .typ n g).andThen fun p n3=>(want E [93] n3).andThen fun _ n4=>.ok (xC 11 p.1 n3) n4
theorem dM {E:Env}{S:AB}{n:Nat}{g:Bool}{K:Tr→Nat→R Tr}:(XO E S n g).andThen K =
  if E.is (n+1) [93] then .bad (n+1) else (rows E S [91] [44] [93] .typ n g).andThen fun p n3=>(want E [93] n3).andThen fun _ n4=>K (xC 11 p.1 n3) n4:=by
 unfold XO;simp only [oA,zA,PA,mA]
variable {k:Nat}
theorem WP (H:∀ j,j≤k→aB E (kA E.toEnv j)) (hkk:k≤1099511627776) (h:Rd E c n g w) (hr:XD E.toEnv (kA E.toEnv k) n g≠.out) :
  Calls Tryz.prog 161 #[.pointer (some ⟨c,0,none⟩)] w (Ans E c g (XD E.toEnv (kA E.toEnv k) n g) w):=by
 have HA:=hid H;have HD:=hid (H k (Nat.le_refl _));clear H;have H0:=Sx.start h hr rfl
 conv at H0=>arg 1;arg 8;unfold XD
 try simp only [bs,reduceCtorEq] at H0
 clear h hr;go_enter Tryz.func161,Tryz.ntmps161;go_wp2_with fail;refine yB H0 14 ?_;intro p w1 H2;clear H0;go_wp2_with fail;refine xG H2 hkk (El.meth HA.out .param (by decide) (by simp) (by kernel_rfl)) (fun _ _ h=>⟨rfl,h⟩) ?_;intro v5 r6 t7 n4 w3 hl H8;have HLH8:=hid (Nat.le_trans hl hkk);clear hl;go_wp2_with fail;refine FA H8 (fun _ _ h=>⟨rfl,h⟩) ?_;intro n10 w9 H11;clear H8;go_wp2_with fail;refine (NG H2 H11 (by have:=HLH8.out;simp;omega)).mono ?_;rintro e wz ⟨rfl,HA⟩;clear H11;go_wp2_with fail;go_ret;exact HA.out
theorem UH (H:∀ j,j≤k→aB E (kA E.toEnv j)) (hkk:k≤1099511627776) (h:Rd E c n g w) (hr:XO E.toEnv (kA E.toEnv k) n g≠.out) :
  Calls Tryz.prog 181 #[.pointer (some ⟨c,0,none⟩),.func (.func (xD .typ)) #[.pointer (some ⟨c,0,none⟩)] #[]] w (Ans E c g (XO E.toEnv (kA E.toEnv k) n g) w):=by
 have HA:=hid H;have HD:=hid (H k (Nat.le_refl _));clear H;have H0:=Sx.start h hr rfl
 conv at H0=>arg 1;arg 8;unfold XO
 try simp only [bs,reduceCtorEq] at H0
 clear h hr;go_enter Tryz.func181,Tryz.ntmps181;obtain⟨_,_,_,hat2,_⟩:=H0.out.rd.cells;have hsm3:((n:Nat):Int)≤1099511627776:=by have:=H0.out.rd.at_;have:=H0.out.rd.lie.small;omega
 go_wp2_with fail;cases h1:E.is (n+1) [93] with
 | true =>
  simp only [h1,bs,reduceCtorEq] at H0;have d5:(E.word (((n:Nat):Int)+1)==[93])=true:=by rw [show (((n:Nat):Int)+1)=((n+1:Nat):Int) from by omega];exact h1
  refine OA H0 _ ?_;intro w4 H6;clear H0 hat2 hsm3;have HLTh1:Hid (n < E.l.length):=hid (by have:=gA h1;omega);have HYh1:=hid h1;clear h1;obtain⟨_,_,_,hat9,_⟩:=H6.out.rd.cells;have hsm10:((n:Nat):Int)≤1099511627776:=by have:=H6.out.rd.at_;have:=H6.out.rd.lie.small;omega
  have hfz8:=H6.out.rd.free 3;have H7:=ZA H6 HLTh1;clear H6;obtain⟨n11,hm⟩:∃ m,m=n+1:=⟨_,rfl⟩;simp only [← hm] at H7;have HMn11:=hid hm;clear hm;go_wp2_with fail;generalize (w4.setCell ⟨c,3,none⟩ (.int .i64 (((n:Nat):Int)+1)))=w12 at *;clear hat9 hsm10 hfz8
  try simp only [show (((n:Nat):Int)+1)=((n11:Nat):Int) from by have:=HMn11.out;omega] at H7
  exact rG H7 (fun _ _ h=>⟨rfl,h⟩)
 | false =>
  simp only [h1,bs,reduceCtorEq] at H0;have d14:(E.word (((n:Nat):Int)+1)==[93])=false:=by rw [show (((n:Nat):Int)+1)=((n+1:Nat):Int) from by omega];exact h1
  refine OA H0 _ ?_;intro w13 H15;clear H0 hat2 hsm3;clear h1;go_wp2_with fail;refine xG H15 hkk (El.meth HA.out .typ (by decide) (by simp) (by kernel_rfl)) (fun _ _ h=>⟨rfl,h⟩) ?_;intro v18 r19 t20 n17 w16 hl H21;have HLH21:=hid (Nat.le_trans hl hkk);clear hl;go_wp2_with fail;refine LE (k2:=11) H21 (by have:=HLH21.out;simpa using this) ?_;intro q23 w22 H24;clear H21;go_wp2_with fail;refine FA H24 (fun _ _ h=>⟨rfl,h⟩) ?_;intro n26 w25 H27;clear H24;go_wp2_with fail;go_ret;exact (RE (rs:=[]) (us:=[]) H27 H15.out.fr.size)
theorem sM (H:∀ j,j≤k→aB E (kA E.toEnv j)) (hkk:k≤1099511627776) (h:Rd E c n g w) (hr:nC E.toEnv (kA E.toEnv k) n g≠.out) :
  Calls Tryz.prog 144 #[.pointer (some ⟨c,0,none⟩)] w (Ans E c g (nC E.toEnv (kA E.toEnv k) n g) w):=by
 have HA:=hid H;have HD:=hid (H k (Nat.le_refl _));clear H;have H0:=Sx.start h hr rfl
 conv at H0=>arg 1;arg 8;unfold nC
 try simp only [bs,reduceCtorEq] at H0
 clear h hr;go_enter Tryz.func144,Tryz.ntmps144;go_wp2_with fail;refine yB H0 30 ?_;intro p w1 H2;clear H0;have H3:=gX H2;go_wp2_with fail;refine RK H3 (fun _ _ h=>⟨rfl,h⟩) ?_;intro q6 t7 n5 w4 H8;clear H3;go_wp2_with fail;cases h9:E.is n5 [46] with
 | true =>
  have d10:(E.word (n5:Nat)==[46])=true:=h9;simp only [h9,bs,reduceCtorEq] at H8;have HLTh9:=hid (gA h9);have HYh9:=hid h9;clear h9;refine cA H8 ?_;intro w11 H12;clear H8;obtain⟨_,_,_,hat15,_⟩:=H12.out.rd.cells;have hsm16:((n5:Nat):Int)≤1099511627776:=by have:=H12.out.rd.at_;have:=H12.out.rd.lie.small;omega
  have hfz14:=H12.out.rd.free 3;have H13:=ZA H12 HLTh9;clear H12;obtain⟨n17,hm⟩:∃ m,m=n5+1:=⟨_,rfl⟩;simp only [← hm] at H13;have HMn17:=hid hm;clear hm;go_wp2_with fail;generalize (w11.setCell ⟨c,3,none⟩ (.int .i64 (((n5:Nat):Int)+1)))=w18 at *;clear hat15 hsm16 hfz14
  try simp only [show (((n5:Nat):Int)+1)=((n17:Nat):Int) from by have:=HMn17.out;omega] at H13
  refine RK H13 (fun _ _ h=>⟨rfl,h⟩) ?_;intro q21 t22 n20 w19 H23;clear H13;obtain⟨_,_,hf25,_,_⟩:=(Nd.later _ _ H2.out.ex H23.out.ex.fr).opn.blk.cells;obtain⟨_,_,_,hat26,_⟩:=H23.out.rd.cells;have ha27:=fun o=>aA ((Below.refl w19.heap.size w19).alloc (Nat.le_refl _) o) hf25
  have ha28:=fun o=>aA ((Below.refl w19.heap.size w19).alloc (Nat.le_refl _) o) hat26
  have H29:=pL H23 (by simp);clear H23;have H30:=yC (jP H29 29 (-1) n n20);clear H29;simp only [World.size_alloc,List.nil_append,List.cons_append] at H30;go_wp2_with fail;go_region
  all_goals (clear hf25 hat26 ha27 ha28;go_wp2_with fail)
  cases h32:E.is n20 [91] with
  | true =>
   have d33:(E.word (n20:Nat)==[91])=true:=h32;simp only [h32,bs,reduceCtorEq] at H30;have HLTh32:=hid (gA h32);have HYh32:=hid h32;clear h32;refine cA H30 ?_;intro w34 H35;clear H30;have H36:=PN H2 H35;clear H35;have H37:=Sx.re H36 (dM (K:=fun u n4=>.ok (.mk 30 (-1) n n4 [_,u]) n4)).symm;clear H36;go_wp2_with fail;refine TB H37 (UH HA.out hkk H37.out.rd) (fun _ _ h=>⟨rfl,h⟩) ?_;intro q40 t41 n39 w38 H42;clear H37;go_wp2_with fail;refine (eA H42 (by simp)).mono ?_;rintro e wz ⟨rfl,HA⟩;clear H42;go_wp2_with fail;go_ret;exact HA.out
  | false =>
   have d33:(E.word (n20:Nat)==[91])=false:=h32;simp only [h32,bs,reduceCtorEq] at H30;clear h32;refine cA H30 ?_;intro w43 H44;clear H30;go_wp2_with fail;go_ret;exact (RE (rs:=[]) (us:=[]) H44 H2.out.fr.size)
 | false =>
  have d10:(E.word (n5:Nat)==[46])=false:=h9;simp only [h9,bs,reduceCtorEq] at H8;clear h9;refine cA H8 ?_;intro w45 H46;clear H8;go_wp2_with fail;cases h47:E.is n5 [91] with
  | true =>
   have d48:(E.word (n5:Nat)==[91])=true:=h47;simp only [h47,bs,reduceCtorEq] at H46;have HLTh47:=hid (gA h47);have HYh47:=hid h47;clear h47;refine cA H46 ?_;intro w49 H50;clear H46;have H51:=PN H2 H50;clear H50;have H52:=Sx.re H51 (dM (K:=fun u n4=>.ok (.mk 30 (-1) n n4 [_,u]) n4)).symm;clear H51;go_wp2_with fail;refine TB H52 (UH HA.out hkk H52.out.rd) (fun _ _ h=>⟨rfl,h⟩) ?_;intro q55 t56 n54 w53 H57;clear H52;go_wp2_with fail;refine (eA H57 (by simp)).mono ?_;rintro e wz ⟨rfl,HA⟩;clear H57;go_wp2_with fail;go_ret;exact HA.out
  | false =>
   have d48:(E.word (n5:Nat)==[91])=false:=h47;simp only [h47,bs,reduceCtorEq] at H46;clear h47;refine cA H46 ?_;intro w58 H59;clear H46;go_wp2_with fail;go_ret;exact (RE H59 H2.out.fr.size)
end
section
open Go.RowKit
variable {E:Ev}{S:AB}{c n:Nat}{g:Bool}{w:World}
theorem eT (h:Rd E c n g w) (i:Int):Calls Tryz.prog 180 #[.pointer (some ⟨c,0,none⟩),.int .i64 i] w (xF E c n g (.int .u8 ((E.kind i).toNat:Int)) w) :=
 (ZD E c i w h.cells.2.1 h.lie).mono fun e w' hb=>⟨hb.1,h.below hb.2,lA c hb.2⟩
theorem vJ (h:Rd E c n g w) (i:Int):Calls Tryz.prog 242 #[.pointer (some ⟨c,0,none⟩),.int .i64 i] w (xF E c n g (.bool (E.literal i)) w):=by
 obtain⟨m,hm⟩:∃ m,(E.kind i).toNat=m:=⟨_,rfl⟩;have hK:∀ (w':World),Rd E c n g w'→Calls Tryz.prog 180 #[.pointer (some ⟨c,0,none⟩),.int .i64 i] w' (xF E c n g (.int .u8 (m:Int)) w'):=fun w' h'=>by rw [← hm];exact eT h' i
 have HK:=hid hK;have H0:=Sx.start (T:=bR false) h QL rfl;have hl:E.literal i=(decide ((3:Int)≤(m:Int))&&decide ((m:Int)≤7)):=by
  unfold Env.literal;rw [hm]
  congr 1 <;> exact decide_eq_decide.2 (by omega)
 rw [hl];clear hl h hm hK;cases d1:decide ((3:Int)≤(m:Int)) with
 | true =>
  cases d2:decide ((m:Int)≤7) with
  | true =>
   go_enter Tryz.func242,Tryz.ntmps242;go_wp2_with fail;refine kB H0 (HK.out _ H0.out.rd) ?_;intro w1 H1;clear H0;go_wp2_with fail;refine kB H1 (HK.out _ H1.out.rd) ?_;intro w2 H2;clear H1;go_wp2_with fail;go_ret;exact⟨rfl,H2.out.rd,H2.out.fr⟩
  | false =>
   go_enter Tryz.func242,Tryz.ntmps242;go_wp2_with fail;refine kB H0 (HK.out _ H0.out.rd) ?_;intro w1 H1;clear H0;go_wp2_with fail;refine kB H1 (HK.out _ H1.out.rd) ?_;intro w2 H2;clear H1;go_wp2_with fail;go_ret;exact⟨rfl,H2.out.rd,H2.out.fr⟩
 | false =>
   show Calls _ _ _ _ (xF E c n g (.bool false) w)
   go_enter Tryz.func242,Tryz.ntmps242;go_wp2_with fail;refine kB H0 (HK.out _ H0.out.rd) ?_;intro w1 H1;clear H0;go_wp2_with fail;go_ret;exact⟨rfl,H1.out.rd,H1.out.fr⟩
theorem UX {E:Env}{n:Nat} (h:E.literal n=true):n < E.l.length:=by
 apply Decidable.byContradiction;intro hn;rw [Env.literal,FG (by omega)] at h;cases h
variable {k:Nat}{w0:World}{p ql q:Nat}{kd0 kd:UInt8}{wd:Int}{fr t0:Nat}{kv:Value}{x lo left:Tr}
theorem FI (H:∀ j,j≤k→aB E (kA E.toEnv j)) (hkk:k≤1099511627776) (h:Rd E c n g w) (hnd:Nd E c w0 p kd0 wd fr t0 OE [] [] [] [] w) (hr:((CB E.toEnv (kA E.toEnv k) kd .field n g).andThen fun m n1=>(.ok (.mk kd0 wd fr n1 [m]) n1:R Tr))≠.out) :
  Calls Tryz.prog 147 #[.pointer (some ⟨c,0,none⟩),.pointer (some ⟨p,0,none⟩),.int .u8 (kd.toNat:Int),.func (.func (eY .field)) #[.pointer (some ⟨c,0,none⟩)] #[]] w (Ans E c g ((CB E.toEnv (kA E.toEnv k) kd .field n g).andThen fun m n1=>(.ok (.mk kd0 wd fr n1 [m]) n1:R Tr)) w0):=by
 have HA:=hid H;have HD:=hid (H k (Nat.le_refl _));clear H;have H0:=Sx.startN h hnd hr rfl;clear hnd
 conv at H0=>arg 1;arg 8;unfold CB
 try simp only [bs,reduceCtorEq] at H0
 clear h hr;go_enter Tryz.func147,Tryz.ntmps147;go_wp2_with fail;refine xG H0 hkk (El.meth HA.out .field (by decide) (by simp) (by kernel_rfl)) (fun _ _ h=>⟨rfl,h⟩) ?_;intro v3 r4 t5 n2 w1 hl H6;have HLH6:=hid (Nat.le_trans hl hkk);clear hl;go_wp2_with fail;refine VJ H0 (k2:=kd) H6 (by have:=HLH6.out;simpa using this) ?_;intro q8 w7 H9;clear H6 H0;go_wp2_with fail;refine FA H9 (fun _ _ h=>⟨rfl,h⟩) ?_;intro n11 w10 H12;clear H9;go_wp2_with fail;refine (eA H12 (by simp)).mono ?_;rintro e wz ⟨rfl,HA⟩;clear H12;go_wp2_with fail;go_ret;exact HA.out
theorem mJ (H:∀ j,j≤k→aB E (kA E.toEnv j)) (hkk:k≤1099511627776) (h:Rd E c n g w) (hnd:Nd E c w0 p kd0 wd fr t0 OE [] [] [] [] w) (hr:((CB E.toEnv (kA E.toEnv k) kd .elem n g).andThen fun m n1=>(.ok (.mk kd0 wd fr n1 [m]) n1:R Tr))≠.out) :
  Calls Tryz.prog 147 #[.pointer (some ⟨c,0,none⟩),.pointer (some ⟨p,0,none⟩),.int .u8 (kd.toNat:Int),.func (.func (eY .elem)) #[.pointer (some ⟨c,0,none⟩)] #[]] w (Ans E c g ((CB E.toEnv (kA E.toEnv k) kd .elem n g).andThen fun m n1=>(.ok (.mk kd0 wd fr n1 [m]) n1:R Tr)) w0):=by
 have HA:=hid H;have HD:=hid (H k (Nat.le_refl _));clear H;have H0:=Sx.startN h hnd hr rfl;clear hnd
 conv at H0=>arg 1;arg 8;unfold CB
 try simp only [bs,reduceCtorEq] at H0
 clear h hr;go_enter Tryz.func147,Tryz.ntmps147;go_wp2_with fail;refine xG H0 hkk (El.meth HA.out .elem (by decide) (by simp) (by kernel_rfl)) (fun _ _ h=>⟨rfl,h⟩) ?_;intro v3 r4 t5 n2 w1 hl H6;have HLH6:=hid (Nat.le_trans hl hkk);clear hl;go_wp2_with fail;refine VJ H0 (k2:=kd) H6 (by have:=HLH6.out;simpa using this) ?_;intro q8 w7 H9;clear H6 H0;go_wp2_with fail;refine FA H9 (fun _ _ h=>⟨rfl,h⟩) ?_;intro n11 w10 H12;clear H9;go_wp2_with fail;refine (eA H12 (by simp)).mono ?_;rintro e wz ⟨rfl,HA⟩;clear H12;go_wp2_with fail;go_ret;exact HA.out
theorem VN (H:aB E S) (h:Rd E c n g w) (hnd:Nd E c w0 p kd0 wd fr t0 OE [] [] [ql] [left] w) (hr:cD E.toEnv S fr wd left n g≠.out) :
  Calls Tryz.prog 253 #[.pointer (some ⟨c,0,none⟩),.pointer (some ⟨p,0,none⟩),.pointer (some ⟨ql,0,none⟩)] w (Ans E c g (cD E.toEnv S fr wd left n g) w0):=by
 have HD:=hid H;clear H;have H0:=Sx.startN h hnd hr rfl;clear hnd
 conv at H0=>arg 1;arg 8;unfold cD
 try simp only [bs,reduceCtorEq] at H0
 clear h hr;go_enter Tryz.func253,Tryz.ntmps253;obtain⟨hk3,_,hf4,_,_⟩:=H0.out.ex.opn.blk.cells;have hfz2:=H0.out.ex.opn.blk.free 0;have H1:Hid (Sx _ _ _ _ _ _ _ _ (w.setCell ⟨p,0,none⟩ (.int .u8 66))):=dB H0 66;clear H0;go_wp2_with fail;generalize (w.setCell ⟨p,0,none⟩ (.int .u8 66))=w5 at *;clear hfz2 hk3 hf4;refine FA H1 (fun _ _ h=>⟨rfl,h⟩) ?_;intro n7 w6 H8;clear H1;go_wp2_with fail;refine TB H8 (fun hr=>SE H8.out.rd HD.out .expr (by decide) ⟨rfl,rfl⟩ (by kernel_rfl) hr) (fun _ _ h=>⟨rfl,h⟩) ?_;intro q11 t12 n10 w9 H13;clear H8;go_wp2_with fail;refine jA (F:=.block) H13 HD (by decide) ⟨rfl,rfl⟩ (fun _ _ h=>⟨rfl,h⟩) ?_;intro q16 t17 n15 w14 H18;clear H13;go_wp2_with fail;refine (eA H18 (by simp)).mono ?_;rintro e wz ⟨rfl,HA⟩;clear H18;go_wp2_with fail;go_ret;exact HA.out
theorem RQ (H:aB E S) (h:Rd E c n g w) (hnd:Nd E c w0 p kd0 (-1) fr t0 kv [q] [x] [ql] [lo] w) (hr:UE E.toEnv S fr x lo n g≠.out) :
  Calls Tryz.prog 244 #[.pointer (some ⟨c,0,none⟩),.pointer (some ⟨p,0,none⟩),.pointer (some ⟨ql,0,none⟩)] w (fE E c g (UE E.toEnv S fr x lo n g) w0 p):=by
 have HD:=hid H;clear H;have H0:=Sx.startN h hnd hr rfl;clear hnd
 conv at H0=>arg 1;arg 8;unfold UE
 try simp only [bs,reduceCtorEq] at H0
 clear h hr;go_enter Tryz.func244,Tryz.ntmps244;obtain⟨hk3,_,hf4,_,_⟩:=H0.out.ex.opn.blk.cells;have hfz2:=H0.out.ex.opn.blk.free 0;have H1:Hid (Sx _ _ _ _ _ _ _ _ (w.setCell ⟨p,0,none⟩ (.int .u8 31))):=dB H0 31;clear H0;go_wp2_with fail;generalize (w.setCell ⟨p,0,none⟩ (.int .u8 31))=w5 at *;clear hfz2 hk3 hf4;refine IA H1 0 ?_;intro q7 w6 H8;clear H1;go_wp2_with fail;refine IA H8 0 ?_;intro q10 w9 H11;clear H8;go_wp2_with fail;cases h12:E.is n [93] with
 | true =>
  have d13:(E.word (n:Nat)==[93])=true:=h12;simp only [h12,bs,reduceCtorEq] at H11;have HLTh12:=hid (gA h12);have HYh12:=hid h12;clear h12;refine cA H11 ?_;intro w14 H15;clear H11;go_wp2_with fail;refine IJ H15 HYh12 ?_;intro n16 w18 hm H17;clear H15;simp only [← hm] at H17;have HMn16:=hid hm;clear hm;go_wp2_with fail;refine (eA H17 (by simp)).mono ?_;rintro e wz ⟨rfl,HA⟩;clear H17;go_wp2_with fail;go_ret;exact fE.mk HA.out
 | false =>
  have d13:(E.word (n:Nat)==[93])=false:=h12;simp only [h12,bs,reduceCtorEq] at H11;clear h12;refine cA H11 ?_;intro w19 H20;clear H11;have H21:=gG (ps':=[ql]) (ts':=[lo]) H20 (fun _ h=>⟨h.1,trivial⟩);clear H20;go_wp2_with fail;refine jA (F:=.expr) H21 HD (by decide) ⟨rfl,rfl⟩ (fun _ _ h=>⟨rfl,fun _ hq=>(by cases hq),h⟩) ?_;intro q24 t25 n23 w22 H26;clear H21;go_wp2_with fail;refine IA H26 0 ?_;intro q28 w27 H29;clear H26;go_wp2_with fail;cases h30:E.is n23 [58] with
  | true =>
   simp only [h30,bs,reduceCtorEq] at H29;refine vE H29 h30 ?_;intro n32 w31 hm H33;clear H29;simp only [← hm] at H33;have HMn32:=hid hm;clear hm;have HYh30:=hid h30;clear h30;have H34:=pB H33;clear H33;go_wp2_with fail;refine jA (F:=.expr) H34 HD (by decide) ⟨rfl,rfl⟩ (fun _ _ h=>⟨rfl,fun _ hq=>(by cases hq),h⟩) ?_;intro q37 t38 n36 w35 H39;clear H34;go_wp2_with fail;refine FA H39 (fun _ _ h=>⟨rfl,fun _ hq=>(by cases hq),h⟩) ?_;intro n41 w40 H42;clear H39;go_wp2_with fail;refine (eA H42 (by simp)).mono ?_;rintro e wz ⟨rfl,HA⟩;clear H42;go_wp2_with fail;go_ret;exact fE.mk HA.out
  | false =>
   simp only [h30,bs,reduceCtorEq] at H29;refine gH H29 h30 ?_;intro w43 H44;clear H29;clear h30;go_wp2_with fail;refine FA H44 (fun _ _ h=>⟨rfl,fun _ hq=>(by cases hq),h⟩) ?_;intro n46 w45 H47;clear H44;go_wp2_with fail;refine (eA H47 (by simp)).mono ?_;rintro e wz ⟨rfl,HA⟩;clear H47;go_wp2_with fail;go_ret;exact fE.mk HA.out
theorem jO (H:aB E S) (h:Rd E c n g w) (hn:n < E.l.length) (hr:dD S n g≠.out) :
  Calls Tryz.prog 225 #[.pointer (some ⟨c,0,none⟩)] w (Ans E c g (dD S n g) w):=by
 have HLT:=hid hn;clear hn;have HD:=hid H;clear H;have H0:=Sx.start h hr rfl
 conv at H0=>arg 1;arg 8;unfold dD
 try simp only [bs,reduceCtorEq] at H0
 clear h hr;go_enter Tryz.func225,Tryz.ntmps225;go_wp2_with fail;refine yB H0 63 ?_;intro p w1 H2;clear H0;obtain⟨_,_,_,hat5,_⟩:=H2.out.rd.cells;have hsm6:((n:Nat):Int)≤1099511627776:=by have:=H2.out.rd.at_;have:=H2.out.rd.lie.small;omega
 have hfz4:=H2.out.rd.free 3;have H3:=ZA H2 HLT;clear H2;obtain⟨n7,hm⟩:∃ m,m=n+1:=⟨_,rfl⟩;simp only [← hm] at H3;have HMn7:=hid hm;clear hm;go_wp2_with fail;generalize (w1.setCell ⟨c,3,none⟩ (.int .i64 (((n:Nat):Int)+1)))=w8 at *;clear hat5 hsm6 hfz4
 try simp only [show (((n:Nat):Int)+1)=((n7:Nat):Int) from by have:=HMn7.out;omega] at H3
 refine TB H3 (fun hr=>HD.out.clauses 64 3 c _ g _ (by simp) H3.out.rd hr) (fun _ _ h=>⟨rfl,h⟩) ?_;intro q11 t12 n10 w9 H13;clear H3;go_wp2_with fail;refine (eA H13 (by simp)).mono ?_;rintro e wz ⟨rfl,HA⟩;clear H13;go_wp2_with fail;go_ret;exact HA.out
theorem kO (H:aB E S) (h:Rd E c n g w) (hr:PC E.toEnv S n g≠.out) :
  Calls Tryz.prog 211 #[.pointer (some ⟨c,0,none⟩)] w (Ans E c g (PC E.toEnv S n g) w):=by
 have HD:=hid H;clear H;have H0:=Sx.start h hr rfl
 conv at H0=>arg 1;arg 8;unfold PC
 try simp only [bs,reduceCtorEq] at H0
 clear h hr;go_enter Tryz.func211,Tryz.ntmps211;go_wp2_with fail;refine yB H0 28 ?_;intro p w1 H2;clear H0;obtain⟨_,_,_,hat4,_⟩:=H2.out.rd.cells;have hsm5:((n:Nat):Int)≤1099511627776:=by have:=H2.out.rd.at_;have:=H2.out.rd.lie.small;omega
 go_wp2_with fail;cases h3:E.literal (n:Nat) with
 | true =>
  simp only [h3,bs,reduceCtorEq] at H2;refine kB H2 (by have hq:=vJ H2.out.rd (n:Nat);rw [h3] at hq;exact hq) ?_;intro w6 H7;clear H2 hat4 hsm5;have HYh3:=hid h3;clear h3;go_wp2_with fail;refine pG H7 (fun _=>IL H7.out.rd 27 true (fun _=>UX HYh3.out)) (fun _ _ h=>⟨rfl,h⟩) ?_;intro q wz HA;clear H7;go_wp2_with fail;go_ret;exact HA.out
 | false =>
  simp only [h3,bs,reduceCtorEq] at H2;refine kB H2 (by have hq:=vJ H2.out.rd (n:Nat);rw [h3] at hq;exact hq) ?_;intro w8 H9;clear H2 hat4 hsm5;clear h3;go_wp2_with fail;cases h10:E.is n [40] with
  | true =>
   have d11:(E.word (n:Nat)==[40])=true:=h10;simp only [h10,bs,reduceCtorEq] at H9;have HLTh10:=hid (gA h10);have HYh10:=hid h10;clear h10;refine cA H9 ?_;intro w12 H13;clear H9;obtain⟨_,_,_,hat16,_⟩:=H13.out.rd.cells;have hsm17:((n:Nat):Int)≤1099511627776:=by have:=H13.out.rd.at_;have:=H13.out.rd.lie.small;omega
   have hfz15:=H13.out.rd.free 3;have H14:=ZA H13 HLTh10;clear H13;obtain⟨n18,hm⟩:∃ m,m=n+1:=⟨_,rfl⟩;simp only [← hm] at H14;have HMn18:=hid hm;clear hm;go_wp2_with fail;generalize (w12.setCell ⟨c,3,none⟩ (.int .i64 (((n:Nat):Int)+1)))=w19 at *;clear hat16 hsm17 hfz15
   try simp only [show (((n:Nat):Int)+1)=((n18:Nat):Int) from by have:=HMn18.out;omega] at H14
   refine TB H14 (fun hr=>PK H14.out.rd HD.out .expr (by decide) ⟨rfl,rfl⟩ (by kernel_rfl) hr) (fun _ _ h=>⟨rfl,h⟩) ?_;intro q22 t23 n21 w20 H24;clear H14;go_wp2_with fail;refine FA H24 (fun _ _ h=>⟨rfl,h⟩) ?_;intro n26 w25 H27;clear H24;go_wp2_with fail;refine (eA H27 (by simp)).mono ?_;rintro e wz ⟨rfl,HA⟩;clear H27;go_wp2_with fail;go_ret;exact HA.out
  | false =>
   have d11:(E.word (n:Nat)==[40])=false:=h10;simp only [h10,bs,reduceCtorEq] at H9;clear h10;cases h28:E.is n [102,117,110,99] with
   | true =>
    have d29:(E.word (n:Nat)==[102,117,110,99])=true:=h28;simp only [h28,bs,reduceCtorEq] at H9;have HLTh28:=hid (gA h28);have HYh28:=hid h28;clear h28;refine cA H9 ?_;intro w30 H31;clear H9;obtain⟨_,_,_,hat34,_⟩:=H31.out.rd.cells;have hsm35:((n:Nat):Int)≤1099511627776:=by have:=H31.out.rd.at_;have:=H31.out.rd.lie.small;omega
    have hfz33:=H31.out.rd.free 3;have H32:=ZA H31 HLTh28;clear H31;obtain⟨n36,hm⟩:∃ m,m=n+1:=⟨_,rfl⟩;simp only [← hm] at H32;have HMn36:=hid hm;clear hm;obtain⟨hk39,_,hf40,_,_⟩:=H32.out.ex.opn.blk.cells;have hfz38:=H32.out.ex.opn.blk.free 0;have H37:Hid (Sx _ _ _ _ _ _ _ _ ((w30.setCell ⟨c,3,none⟩ (.int .i64 (((n:Nat):Int)+1))).setCell ⟨p,0,none⟩ (.int .u8 46))):=dB H32 46;clear H32;go_wp2_with fail;generalize ((w30.setCell ⟨c,3,none⟩ (.int .i64 (((n:Nat):Int)+1))).setCell ⟨p,0,none⟩ (.int .u8 46))=w41 at *;clear hat34 hsm35 hfz33 hfz38 hk39 hf40
    try simp only [show (((n:Nat):Int)+1)=((n36:Nat):Int) from by have:=HMn36.out;omega] at H37
    refine TB H37 (fun hr=>PK H37.out.rd HD.out .signature (by decide) ⟨rfl,rfl⟩ (by kernel_rfl) hr) (fun _ _ h=>⟨rfl,h⟩) ?_;intro q44 t45 n43 w42 H46;clear H37;go_wp2_with fail;cases h47:E.is n43 [123] with
    | true =>
     have d48:(E.word (n43:Nat)==[123])=true:=h47;simp only [h47,bs,reduceCtorEq] at H46;have HLTh47:=hid (gA h47);have HYh47:=hid h47;clear h47;refine cA H46 ?_;intro w49 H50;clear H46;obtain⟨hk53,_,hf54,_,_⟩:=H50.out.ex.opn.blk.cells;have hfz52:=H50.out.ex.opn.blk.free 0;have H51:Hid (Sx _ _ _ _ _ _ _ _ (w49.setCell ⟨p,0,none⟩ (.int .u8 40))):=dB H50 40;clear H50;go_wp2_with fail;generalize (w49.setCell ⟨p,0,none⟩ (.int .u8 40))=w55 at *;clear hfz52 hk53 hf54;refine TB H51 (fun hr=>PK H51.out.rd HD.out .block (by decide) ⟨rfl,rfl⟩ (by kernel_rfl) hr) (fun _ _ h=>⟨rfl,h⟩) ?_;intro q58 t59 n57 w56 H60;clear H51;go_wp2_with fail;refine (eA H60 (by simp)).mono ?_;rintro e wz ⟨rfl,HA⟩;clear H60;go_wp2_with fail;go_ret;exact HA.out
    | false =>
     have d48:(E.word (n43:Nat)==[123])=false:=h47;simp only [h47,bs,reduceCtorEq] at H46;clear h47;refine cA H46 ?_;intro w61 H62;clear H46;go_wp2_with fail;refine (eA H62 (by simp)).mono ?_;rintro e wz ⟨rfl,HA⟩;clear H62;go_wp2_with fail;go_ret;exact HA.out
   | false =>
    have d29:(E.word (n:Nat)==[102,117,110,99])=false:=h28;simp only [h28,bs,reduceCtorEq] at H9;clear h28;cases h63:E.is n [91] with
    | true =>
     have d64:(E.word (n:Nat)==[91])=true:=h63;simp only [h63,bs,reduceCtorEq] at H9;have HLTh63:=hid (gA h63);have HYh63:=hid h63;clear h63;refine cA H9 ?_;intro w65 H66;clear H9;have d67:(E.word (n:Nat)==[60,45])=false:=by rw [eq_of_beq d64];rfl
     go_wp2_with fail;refine cA H66 ?_;intro w68 H69;clear H66;go_wp2_with fail;refine aE (F:=.typ) H69 HD (by decide) ⟨rfl,rfl⟩ (fun _ _ h=>⟨rfl,h⟩) ?_;intro q wz HA;clear H69;go_wp2_with fail;go_ret;exact HA.out
    | false =>
     have d64:(E.word (n:Nat)==[91])=false:=h63;simp only [h63,bs,reduceCtorEq] at H9;clear h63;cases h70:E.is n [115,116,114,117,99,116] with
     | true =>
      have d71:(E.word (n:Nat)==[115,116,114,117,99,116])=true:=h70;simp only [h70,bs,reduceCtorEq] at H9;have HLTh70:=hid (gA h70);have HYh70:=hid h70;clear h70;refine cA H9 ?_;intro w72 H73;clear H9;have d74:(E.word (n:Nat)==[60,45])=false:=by rw [eq_of_beq d71];rfl
      go_wp2_with fail;refine cA H73 ?_;intro w75 H76;clear H73;go_wp2_with fail;refine aE (F:=.typ) H76 HD (by decide) ⟨rfl,rfl⟩ (fun _ _ h=>⟨rfl,h⟩) ?_;intro q wz HA;clear H76;go_wp2_with fail;go_ret;exact HA.out
     | false =>
      have d71:(E.word (n:Nat)==[115,116,114,117,99,116])=false:=h70;simp only [h70,bs,reduceCtorEq] at H9;clear h70;cases h77:E.is n [109,97,112] with
      | true =>
       have d78:(E.word (n:Nat)==[109,97,112])=true:=h77;simp only [h77,bs,reduceCtorEq] at H9;have HLTh77:=hid (gA h77);have HYh77:=hid h77;clear h77;refine cA H9 ?_;intro w79 H80;clear H9;have d81:(E.word (n:Nat)==[60,45])=false:=by rw [eq_of_beq d78];rfl
       go_wp2_with fail;refine cA H80 ?_;intro w82 H83;clear H80;go_wp2_with fail;refine aE (F:=.typ) H83 HD (by decide) ⟨rfl,rfl⟩ (fun _ _ h=>⟨rfl,h⟩) ?_;intro q wz HA;clear H83;go_wp2_with fail;go_ret;exact HA.out
      | false =>
       have d78:(E.word (n:Nat)==[109,97,112])=false:=h77;simp only [h77,bs,reduceCtorEq] at H9;clear h77;cases h84:E.is n [99,104,97,110] with
       | true =>
        have d85:(E.word (n:Nat)==[99,104,97,110])=true:=h84;simp only [h84,bs,reduceCtorEq] at H9;have HLTh84:=hid (gA h84);have HYh84:=hid h84;clear h84;refine cA H9 ?_;intro w86 H87;clear H9;have d88:(E.word (n:Nat)==[60,45])=false:=by rw [eq_of_beq d85];rfl
        go_wp2_with fail;refine cA H87 ?_;intro w89 H90;clear H87;go_wp2_with fail;refine aE (F:=.typ) H90 HD (by decide) ⟨rfl,rfl⟩ (fun _ _ h=>⟨rfl,h⟩) ?_;intro q wz HA;clear H90;go_wp2_with fail;go_ret;exact HA.out
       | false =>
        have d85:(E.word (n:Nat)==[99,104,97,110])=false:=h84;simp only [h84,bs,reduceCtorEq] at H9;clear h84;cases h91:E.is n [105,110,116,101,114,102,97,99,101] with
        | true =>
         have d92:(E.word (n:Nat)==[105,110,116,101,114,102,97,99,101])=true:=h91;simp only [h91,bs,reduceCtorEq] at H9;have HLTh91:=hid (gA h91);have HYh91:=hid h91;clear h91;refine cA H9 ?_;intro w93 H94;clear H9;have d95:(E.word (n:Nat)==[60,45])=false:=by rw [eq_of_beq d92];rfl
         go_wp2_with fail;refine cA H94 ?_;intro w96 H97;clear H94;go_wp2_with fail;refine aE (F:=.typ) H97 HD (by decide) ⟨rfl,rfl⟩ (fun _ _ h=>⟨rfl,h⟩) ?_;intro q wz HA;clear H97;go_wp2_with fail;go_ret;exact HA.out
        | false =>
         have d92:(E.word (n:Nat)==[105,110,116,101,114,102,97,99,101])=false:=h91;simp only [h91,bs,reduceCtorEq] at H9;clear h91;cases h98:E.is n [60,45] with
         | true =>
          have d99:(E.word (n:Nat)==[60,45])=true:=h98;simp only [h98,bs,reduceCtorEq] at H9;have HLTh98:=hid (gA h98);have HYh98:=hid h98;clear h98;refine cA H9 ?_;intro w100 H101;clear H9;go_wp2_with fail;refine cA H101 ?_;intro w102 H103;clear H101;obtain⟨_,_,_,hat105,_⟩:=H103.out.rd.cells;have hsm106:((n:Nat):Int)≤1099511627776:=by have:=H103.out.rd.at_;have:=H103.out.rd.lie.small;omega
          go_wp2_with fail;cases h104:E.is (n+1) [99,104,97,110] with
          | true =>
           simp only [h104,bs,reduceCtorEq] at H103;have d108:(E.word (((n:Nat):Int)+1)==[99,104,97,110])=true:=by rw [show (((n:Nat):Int)+1)=((n+1:Nat):Int) from by omega];exact h104
           refine OA H103 _ ?_;intro w107 H109;clear H103 hat105 hsm106;have HLTh104:Hid (n < E.l.length):=hid (by have:=gA h104;omega);have HYh104:=hid h104;clear h104;go_wp2_with fail;refine aE (F:=.typ) H109 HD (by decide) ⟨rfl,rfl⟩ (fun _ _ h=>⟨rfl,h⟩) ?_;intro q wz HA;clear H109;go_wp2_with fail;go_ret;exact HA.out
          | false =>
           simp only [h104,bs,reduceCtorEq] at H103;have d111:(E.word (((n:Nat):Int)+1)==[99,104,97,110])=false:=by rw [show (((n:Nat):Int)+1)=((n+1:Nat):Int) from by omega];exact h104
           refine OA H103 _ ?_;intro w110 H112;clear H103 hat105 hsm106;clear h104;go_wp2_with fail;exact rG H112 (fun _ _ h=>⟨rfl,h⟩)
         | false =>
          have d99:(E.word (n:Nat)==[60,45])=false:=h98;simp only [h98,bs,reduceCtorEq] at H9;clear h98;refine cA H9 ?_;intro w113 H114;clear H9;go_wp2_with fail;refine pG H114 (fun _=>yJ H114.out.rd) (fun _ _ h=>⟨rfl,h⟩) ?_;intro q wz HA;clear H114;go_wp2_with fail;go_ret;exact HA.out
end
end Go.Proofs.YtfmpphplbdojbaaGreatDoor
