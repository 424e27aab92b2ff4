import Derived.Test.YtjdllofmhglmiaaGreatDoorQBG
namespace Go.Proofs.YtjdllofmhglmiaaGreatDoor
open Lib(hid)
set_option linter.all false
set_option maxHeartbeats 40000000
set_option maxRecDepth 100000
section
open Go.RowKit
variable {E:Ev}{S:AB}{c n:Nat}{g:Bool}{w:World}
set_option maxRecDepth 100000
set_option maxHeartbeats 40000000
section
theorem eT (h:Rd E c n g w) (i:Int):Calls Tryz.prog 148 #[p8 c,i8 i] w (xF E c n g (.int .u8 ((E.kind i).toNat:Int)) w) :=
 (ZD E c i w h.cells.2.1 h.lie).mono fun e w' hb=>⟨hb.1,h.below hb.2,lA c hb.2⟩
theorem vJ (h:Rd E c n g w) (i:Int):Calls Tryz.prog 231 #[p8 c,i8 i] w (xF E c n g (.bool (E.literal i)) w):=by
 obtain⟨m,hm⟩:∃ m,(E.kind i).toNat=m:=⟨_,rfl⟩;have hK:∀ (w':World),Rd E c n g w'->Calls Tryz.prog 148 #[p8 c,i8 i] w' (xF E c n g (.int .u8 (m:Int)) w'):=fun w' h'=>by rw [<- hm];exact eT h' i
 have HK:=hid hK;have H0:=Sx.start (T:=bR false) h QL rfl;have hl:E.literal i=(decide ((3:Int)<=(m:Int))&&decide ((m:Int)<=7)):=by
  unfold Env.literal;rw [hm]
  congr 1 <;> exact decide_eq_decide.2 Cs
 rw [hl];clear hl h hm hK;cases d1:decide ((3:Int)<=(m:Int)) with
 | true =>
  cases d2:decide ((m:Int)<=7) with
  | true =>
   go_in
   exact zbx
  | false =>
   go_in
   exact zbx
 | false =>
   show Calls _ _ _ _ (xF E c n g (.bool false) w)
   go_in
   go_wp2_with fail;refine kB H0 (HK.out _ H0.out.rd) ?_;intro w1 H1;clear H0;go_wp2_with fail;go_ret;exact⟨rfl,H1.out.rd,H1.out.fr⟩
theorem UX {E:Env}{n:Nat} (h:E.literal n=true):n < E.l.length:=by
 exact zdi
variable {k:Nat}{w0:World}{p ql q:Nat}{kd0 kd:UInt8}{wd:Int}{fr t0:Nat}{kv:Value}{x lo left:Tr}
theorem FI (H:∀ j,j<=k->aB E (spec E.toEnv j)) (hkk:k<=1099511627776) (h:Rd E c n g w) (hnd:Nd E c w0 p kd0 wd fr t0 OE [] [] [] [] w) (hr:((CB E.toEnv (spec E.toEnv k) kd .field n g).andThen fun m n1=>(.ok (.mk kd0 wd fr n1 [m]) n1:R Tr))≠.out) :
  Calls Tryz.prog 112 #[p8 c,p8 p,.int .u8 (kd.toNat:Int),.func (.func (eY .field)) #[p8 c] #[]] w (Ans E c g ((CB E.toEnv (spec E.toEnv k) kd .field n g).andThen fun m n1=>(.ok (.mk kd0 wd fr n1 [m]) n1:R Tr)) w0):=by
 have HA:=hid H;have HD:=hid (H k (C' _));clear H;have H:=Sx.startN h hnd hr rfl;clear hnd
 conv at H=>arg 1;arg 8;unfold CB
 try simp only [bs,reduceCtorEq] at H
 have KL:Kd kd kd.toNat:=rfl;clear h hr
 go_in
 exact dr
theorem mJ (H:∀ j,j<=k->aB E (spec E.toEnv j)) (hkk:k<=1099511627776) (h:Rd E c n g w) (hnd:Nd E c w0 p kd0 wd fr t0 OE [] [] [] [] w) (hr:((CB E.toEnv (spec E.toEnv k) kd .elem n g).andThen fun m n1=>(.ok (.mk kd0 wd fr n1 [m]) n1:R Tr))≠.out) :
  Calls Tryz.prog 112 #[p8 c,p8 p,.int .u8 (kd.toNat:Int),.func (.func (eY .elem)) #[p8 c] #[]] w (Ans E c g ((CB E.toEnv (spec E.toEnv k) kd .elem n g).andThen fun m n1=>(.ok (.mk kd0 wd fr n1 [m]) n1:R Tr)) w0):=by
 have HA:=hid H;have HD:=hid (H k (C' _));clear H;have H:=Sx.startN h hnd hr rfl;clear hnd
 conv at H=>arg 1;arg 8;unfold CB
 try simp only [bs,reduceCtorEq] at H
 have KL:Kd kd kd.toNat:=rfl;clear h hr
 go_in
 exact dr
theorem VN (H:aB E S) (h:Rd E c n g w) (hnd:Nd E c w0 p kd0 wd fr t0 OE [] [] [ql] [left] w) (hr:cD E.toEnv S fr wd left n g≠.out) :
  Calls Tryz.prog 242 #[p8 c,p8 p,p8 ql] w (Ans E c g (cD E.toEnv S fr wd left n g) w0):=by
 have HD:=hid H;clear H;have H:=Sx.startN h hnd hr rfl;clear hnd
 conv at H=>arg 1;arg 8;unfold cD
 try simp only [bs,reduceCtorEq] at H
 have K1:Kd 66 66:=rfl;clear h hr
 go_in
 exact dr
theorem RQ (H:aB E S) (h:Rd E c n g w) (hnd:Nd E c w0 p kd0 (-1) fr t0 kv [q] [x] [ql] [lo] w) (hr:UE E.toEnv S fr x lo n g≠.out) :
  Calls Tryz.prog 233 #[p8 c,p8 p,p8 ql] w (fE E c g (UE E.toEnv S fr x lo n g) w0 p):=by
 have HD:=hid H;clear H;have H:=Sx.startN h hnd hr rfl;clear hnd
 conv at H=>arg 1;arg 8;unfold UE
 try simp only [bs,reduceCtorEq] at H
 have K1:Kd 31 31:=rfl;clear h hr
 go_in
 exact dr
theorem jO (H:aB E S) (h:Rd E c n g w) (hn:n < E.l.length) (hr:dD S n g≠.out) :
  Calls Tryz.prog 202 #[p8 c] w (Ans E c g (dD S n g) w):=by
 have L:=hid hn;clear hn;have HD:=hid H;clear H;have H:=Sx.start h hr rfl
 conv at H=>arg 1;arg 8;unfold dD
 try simp only [bs,reduceCtorEq] at H
 have KO:Kd 63 63:=rfl;clear h hr
 go_in
 exact dr
theorem kO (H:aB E S) (h:Rd E c n g w) (hr:PC E.toEnv S n g≠.out) :
  Calls Tryz.prog 188 #[p8 c] w (Ans E c g (PC E.toEnv S n g) w):=by
 have HD:=hid H;clear H;have H:=Sx.start h hr rfl
 conv at H=>arg 1;arg 8;unfold PC
 try simp only [bs,reduceCtorEq] at H
 have KO:Kd 28 28:=rfl;have K1:Kd 46 46:=rfl;have K2:Kd 40 40:=rfl;clear h hr
 go_in
 exact dr
end
section
theorem nA.cells {w:World}{D:Nat->Prop}{q:Nat}{u:Tr} (h:nA w D q u):D q/\w.cell? (y8 q 0)=some (.int .u8 (u.kind.toNat:Int))/\w.cell? (y8 q 1)=some (i8 u.word)/\w.cell? (y8 q 2)=some (i8 (u.fr:Int))/\w.cell? (y8 q 3)=some (i8 (u.to:Int)) /\
  ∃ (ka:Option Addr) (cap:Nat) (ps:List Nat),w.cell? (y8 q 4)=some (.slice ka u.kids.length cap)/\nJ w D ka ps/\fA w D ps u.kids:=by
 obtain⟨k,wd,f,t',ks⟩:=u;obtain⟨h0,ka,cap,ps,hb,h1,h2⟩:=h;refine⟨h0,?_,?_,?_,?_,ka,cap,ps,?_,h1,h2⟩ <;> simp [World.cell?,hb,Tr.kind,Tr.word,Tr.fr,Tr.to,Tr.kids]
theorem nA.nth {w:World}{D:Nat->Prop}{q:Nat}{u:Tr} (h:nA w D q u) (hk:u.kids≠[]):∃ b o cap,w.cell? (y8 q 4)=some (.slice (some (y8 b o)) u.kids.length cap)/\∀ (j:Nat) (x:Tr),u.kids[j]?=some x->∃ px,w.cell? (y8 b (o+j))=some (p8 px)/\nA w D px x:=by
 obtain⟨_,_,_,_,_,ka,cap,ps,h4,hP,hT⟩:=nA.cells h;have hl:=fA.len hT;rcases hP with h0|⟨b,o,rfl,_,hc⟩
 ·subst h0;exact absurd (Ac (by simpa using hl.symm)) hk
 ·refine⟨b,o,cap,h4,fun j x hx=>?_⟩;obtain⟨px,hp,hn⟩:=fA.get j x hT hx;exact⟨px,hc j px hp,hn⟩
theorem nA.first {w:World}{D:Nat->Prop}{q:Nat}{u x:Tr}{r:List Tr} (h:nA w D q u) (hk:u.kids=x::r) :
  ∃ b o cap px,w.cell? (y8 q 4)=some (.slice (some (y8 b o)) (r.length+1) cap)/\w.cell? (y8 b o)=some (p8 px)/\nA w D px x:=by
 obtain⟨b,o,cap,h4,hn⟩:=nA.nth h Ew;obtain⟨px,h5,h6⟩:=hn 0 x Ks;rw [hk] at h4;exact⟨b,o,cap,px,h4,h5,h6⟩
theorem SR {E:Env}{n:Nat} (h:assigns (E.word n)=true):n < E.l.length:=by
 exact zdz
variable {w0 w1:World}{p ql:Nat}{k:UInt8}{wd:Int}{fr f t t0:Nat}{kv:Value}{ps0:List Nat}{ts0:List Tr}{ps:List Nat}{ts:List Tr}{T X:R Tr}{left:Tr}
theorem ZQ {ps':List Nat}{ts':List Tr} (h:Hid (Sx E c n g w0 (Nd E c w1 p k wd f t kv ps0 ts0 ps ts) T X w)) (hs:fA w (ndD w1 p kv w) ps' ts'):Hid (Sx E c n g w0 (Nd E c w1 p k wd f t kv ps0 ts0 ps' ts') T X w):=by
 obtain⟨a,b,d,e,f,z⟩:=h.out.ex;exact h.out.with ⟨a,b,d,e,hs,z⟩ Nd.later
theorem PT (H:aB E S) (h:Rd E c n g w) (hnd:Nd E c w0 p 0 (-1) fr t0 OE [] [] [ql] [left] w) (hr:WF E.toEnv S fr left n g≠.out) :
  Calls Tryz.prog 204 #[p8 c,p8 p,p8 ql] w (fE E c g (WF E.toEnv S fr left n g) w0 p):=by
 have HD:=hid H;clear H;have H0:=Sx.startN h hnd hr rfl;clear hnd
 conv at H0=>arg 1;arg 8;unfold WF
 try simp only [reduceCtorEq,bs] at H0
 clear h hr
 go_in
 go_wp2_with fail;refine cA H0 ?_;intro w1 H2;clear H0;go_wp2_with fail;have hq:=pP (E.word (n:Nat)) w1;cases h3:assigns (E.word (n:Nat)) with
 | true =>
  simp only [h3,reduceCtorEq,bs] at H2;rw [h3] at hq;have HQ:=hid hq;clear hq;refine HQ.out.mono ?_;rintro e wq ⟨rfl,rfl⟩;clear HQ;have HYh3:=hid h3;clear h3;have HLA:=hid (SR HYh3.out);obtain⟨_,_,_,hat4,_⟩:=H2.out.rd.cells;have hsm5:((n:Nat):Int)<=1099511627776:=Gw
  obtain⟨hk8,_,hf9,_,_⟩:=H2.out.ex.opn.blk.cells;have hfz7:=H2.out.ex.opn.blk.free 0;have H6:Hid (Sx _ _ _ _ _ _ _ _ (w1.setCell (y8 p 0) (.int .u8 53))):=dB H2 53;clear H2;obtain⟨_,_,_,hat11,_⟩:=H6.out.rd.cells;have hsm12:((n:Nat):Int)<=1099511627776:=by have:=H6.out.rd.at_;have:=H6.out.rd.lie.small;omega
  obtain⟨_,hk14,hf15,_,_⟩:=H6.out.ex.opn.blk.cells;have hfz13:=H6.out.ex.opn.blk.free 1;have H10:=oD H6 ((n:Nat):Int);clear H6;obtain⟨_,_,_,hat18,_⟩:=H10.out.rd.cells;have hsm19:((n:Nat):Int)<=1099511627776:=Gn
  have hfz17:=H10.out.rd.free 3;have H16:=ZA H10 HLA;clear H10;obtain⟨n20,hm⟩:∃ m,m=n+1:=⟨_,rfl⟩;simp only [<- hm] at H16;have HMn20:=hid hm;clear hm;go_wp2_with fail;generalize (((w1.setCell (y8 p 0) (.int .u8 53)).setCell (y8 p 1) (i8 ((n:Nat):Int))).setCell (y8 c 3) (i8 (((n:Nat):Int)+1)))=w21 at *;clear hat4 hsm5 hfz7 hk8 hf9 hat11 hsm12 hfz13 hk14 hf15 hat18 hsm19 hfz17
  try simp only [show (((n:Nat):Int)+1)=((n20:Nat):Int) from by have:=HMn20.out;omega] at H16
  refine jA (F:=.exprs) H16 HD Ct ⟨rfl,rfl⟩ (fun _ _ h=>⟨rfl,fun _ hq=>Km,h⟩) ?_;intro q24 t25 n23 w22 H26;clear H16;go_wp2_with fail;refine (eA H26 Cu).mono ?_;rintro e wz ⟨rfl,HA⟩;clear H26;exact zci
 | false =>
  simp only [h3,reduceCtorEq,bs] at H2;rw [h3] at hq;have HQ:=hid hq;clear hq;refine HQ.out.mono ?_;rintro e wq ⟨rfl,rfl⟩;clear HQ;clear h3;rcases hk:left.kids with _|⟨x,_|⟨y,r⟩⟩
  ·simp only [hk] at H2;obtain⟨_,_,_,_,_,ka9,cap9,ps9,k9,_,_⟩:=nA.cells H2.out.ex.kids.1;rw [hk] at k9;exact zdj
  ·simp only [hk] at H2;obtain⟨b9,o9,c9,px27,k9,k8,ht⟩:=nA.first H2.out.ex.kids.1 hk;have ht:=hid ht;have H28:=ZQ H2 (ps':=[px27]) (ts':=[x]) ⟨ht.out,trivial⟩;clear H2 ht;clear hk;cases h29:E.is n [43,43] with
   | true =>
    have d30:(E.word (n:Nat)==[43,43])=true:=h29;simp only [h29,reduceCtorEq,bs] at H28;have HLTh29:=hid (gA h29);clear h29;obtain⟨_,_,_,hat31,_⟩:=H28.out.rd.cells;have hsm32:((n:Nat):Int)<=1099511627776:=Gp
    obtain⟨hk35,_,hf36,_,_⟩:=H28.out.ex.opn.blk.cells;have hfz34:=H28.out.ex.opn.blk.free 0;have H33:Hid (Sx _ _ _ _ _ _ _ _ (w1.setCell (y8 p 0) (.int .u8 52))):=dB H28 52;clear H28;obtain⟨_,_,_,hat38,_⟩:=H33.out.rd.cells;have hsm39:((n:Nat):Int)<=1099511627776:=by have:=H33.out.rd.at_;have:=H33.out.rd.lie.small;omega
    obtain⟨_,hk41,hf42,_,_⟩:=H33.out.ex.opn.blk.cells;have hfz40:=H33.out.ex.opn.blk.free 1;have H37:=oD H33 ((n:Nat):Int);clear H33;obtain⟨_,_,_,hat45,_⟩:=H37.out.rd.cells;have hsm46:((n:Nat):Int)<=1099511627776:=by have:=H37.out.rd.at_;have:=H37.out.rd.lie.small;omega
    have hfz44:=H37.out.rd.free 3;have H43:=ZA H37 HLTh29;clear H37;obtain⟨n47,hm⟩:∃ m,m=n+1:=⟨_,rfl⟩;simp only [<- hm] at H43;have HMn47:=hid hm;clear hm;have hsz:(((w1.setCell (y8 p 0) (.int .u8 52)).setCell (y8 p 1) (i8 ((n:Nat):Int))).setCell (y8 c 3) (i8 (((n:Nat):Int)+1))).heap.size=w1.heap.size:=Cu
    have HSZ:=hid hsz;clear hsz;go_wp2_with fail;generalize (((w1.setCell (y8 p 0) (.int .u8 52)).setCell (y8 p 1) (i8 ((n:Nat):Int))).setCell (y8 c 3) (i8 (((n:Nat):Int)+1)))=w48 at *;clear hat31 hsm32 hfz34 hk35 hf36 hat38 hsm39 hfz40 hk41 hf42 hat45 hsm46 hfz44 k9 k8;rw [<- HSZ.out]
    try simp only [show (((n:Nat):Int)+1)=((n47:Nat):Int) from by have:=HMn47.out;omega] at H43
    refine (eA H43 Cu).mono ?_;rintro e wz ⟨rfl,HA⟩;clear H43;exact zci
   | false =>
    have d30:(E.word (n:Nat)==[43,43])=false:=h29;simp only [h29,reduceCtorEq,bs] at H28;clear h29;cases h49:E.is n [45,45] with
    | true =>
     have d50:(E.word (n:Nat)==[45,45])=true:=h49;simp only [h49,reduceCtorEq,bs] at H28;have HLTh49:=hid (gA h49);clear h49;obtain⟨_,_,_,hat51,_⟩:=H28.out.rd.cells;have hsm52:((n:Nat):Int)<=1099511627776:=Gp
     obtain⟨hk55,_,hf56,_,_⟩:=H28.out.ex.opn.blk.cells;have hfz54:=H28.out.ex.opn.blk.free 0;have H53:Hid (Sx _ _ _ _ _ _ _ _ (w1.setCell (y8 p 0) (.int .u8 52))):=dB H28 52;clear H28;obtain⟨_,_,_,hat58,_⟩:=H53.out.rd.cells;have hsm59:((n:Nat):Int)<=1099511627776:=by have:=H53.out.rd.at_;have:=H53.out.rd.lie.small;omega
     obtain⟨_,hk61,hf62,_,_⟩:=H53.out.ex.opn.blk.cells;have hfz60:=H53.out.ex.opn.blk.free 1;have H57:=oD H53 ((n:Nat):Int);clear H53;obtain⟨_,_,_,hat65,_⟩:=H57.out.rd.cells;have hsm66:((n:Nat):Int)<=1099511627776:=by have:=H57.out.rd.at_;have:=H57.out.rd.lie.small;omega
     have hfz64:=H57.out.rd.free 3;have H63:=ZA H57 HLTh49;clear H57;obtain⟨n67,hm⟩:∃ m,m=n+1:=⟨_,rfl⟩;simp only [<- hm] at H63;have HMn67:=hid hm;clear hm;have hsz:(((w1.setCell (y8 p 0) (.int .u8 52)).setCell (y8 p 1) (i8 ((n:Nat):Int))).setCell (y8 c 3) (i8 (((n:Nat):Int)+1))).heap.size=w1.heap.size:=Cu
     have HSZ:=hid hsz;clear hsz;go_wp2_with fail;generalize (((w1.setCell (y8 p 0) (.int .u8 52)).setCell (y8 p 1) (i8 ((n:Nat):Int))).setCell (y8 c 3) (i8 (((n:Nat):Int)+1)))=w68 at *;clear hat51 hsm52 hfz54 hk55 hf56 hat58 hsm59 hfz60 hk61 hf62 hat65 hsm66 hfz64 k9 k8;rw [<- HSZ.out]
     try simp only [show (((n:Nat):Int)+1)=((n67:Nat):Int) from by have:=HMn67.out;omega] at H63
     refine (eA H63 Cu).mono ?_;rintro e wz ⟨rfl,HA⟩;clear H63;exact zci
    | false =>
     have d50:(E.word (n:Nat)==[45,45])=false:=h49;simp only [h49,reduceCtorEq,bs] at H28;clear h49;cases h69:E.is n [60,45] with
     | true =>
      have d70:(E.word (n:Nat)==[60,45])=true:=h69;simp only [h69,reduceCtorEq,bs] at H28;have HLTh69:=hid (gA h69);clear h69;obtain⟨hk73,_,hf74,_,_⟩:=H28.out.ex.opn.blk.cells;have hfz72:=H28.out.ex.opn.blk.free 0;have H71:Hid (Sx _ _ _ _ _ _ _ _ (w1.setCell (y8 p 0) (.int .u8 51))):=dB H28 51;clear H28;obtain⟨_,_,_,hat77,_⟩:=H71.out.rd.cells;have hsm78:((n:Nat):Int)<=1099511627776:=by have:=H71.out.rd.at_;have:=H71.out.rd.lie.small;omega
      have hfz76:=H71.out.rd.free 3;have H75:=ZA H71 HLTh69;clear H71;obtain⟨n79,hm⟩:∃ m,m=n+1:=⟨_,rfl⟩;simp only [<- hm] at H75;have HMn79:=hid hm;clear hm;go_wp2_with fail;generalize ((w1.setCell (y8 p 0) (.int .u8 51)).setCell (y8 c 3) (i8 (((n:Nat):Int)+1)))=w80 at *;clear hfz72 hk73 hf74 hat77 hsm78 hfz76 k9 k8
      try simp only [show (((n:Nat):Int)+1)=((n79:Nat):Int) from by have:=HMn79.out;omega] at H75
      refine jA (F:=.expr) H75 HD Ct ⟨rfl,rfl⟩ (fun _ _ h=>⟨rfl,fun _ hq=>Km,h⟩) ?_;intro q83 t84 n82 w81 H85;clear H75;go_wp2_with fail;refine (eA H85 Cu).mono ?_;rintro e wz ⟨rfl,HA⟩;clear H85;exact zci
     | false =>
      have d70:(E.word (n:Nat)==[60,45])=false:=h69;simp only [h69,reduceCtorEq,bs] at H28;clear h69;obtain⟨hk88,_,hf89,_,_⟩:=H28.out.ex.opn.blk.cells;have hfz87:=H28.out.ex.opn.blk.free 0;have H86:Hid (Sx _ _ _ _ _ _ _ _ (w1.setCell (y8 p 0) (.int .u8 50))):=dB H28 50;clear H28;have hsz:(w1.setCell (y8 p 0) (.int .u8 50)).heap.size=w1.heap.size:=Cu
      have HSZ:=hid hsz;clear hsz;go_wp2_with fail;generalize (w1.setCell (y8 p 0) (.int .u8 50))=w90 at *;clear hfz87 hk88 hf89 k9 k8;rw [<- HSZ.out];refine (eA H86 Cu).mono ?_;rintro e wz ⟨rfl,HA⟩;clear H86;exact zci
  ·simp only [hk] at H2;obtain⟨_,_,_,_,_,ka9,cap9,ps9,k9,_,_⟩:=nA.cells H2.out.ex.kids.1;rw [hk] at k9;have d9:((((x::y::r).length:Nat):Int) != 1)=true:=by simp;omega
   generalize (x::y::r).length=len9 at k9 d9;exact zdj
theorem dQ (H:aB E S) (h:Rd E c n g w) (hr:((S.t .exprs n g).andThen fun left n1=>S.t (.rest n left) n1 g)≠.out) :
  Calls Tryz.prog 157 #[p8 c] w (Ans E c g (((S.t .exprs n g).andThen fun left n1=>S.t (.rest n left) n1 g)) w):=by
 have HD:=hid H;clear H;have H:=Sx.start h hr rfl
 try simp only [bs,reduceCtorEq] at H
 have KO:Kd 0 0:=rfl;clear h hr
 go_in
 exact dr
end
end
section
open Go.RowKit
variable {E:Ev}{S:AB}{c n k:Nat}{g:Bool}{w:World}
def tL (E:Ev) (c:Nat) (g:Bool) (w:World) (T:R Tr) (mk:List Tr->F) (k j:Nat) (v:Value) (wr:World):Prop :=
 ∃ n acc ps,ps.length+j<=k+1/\Hid (Sx E c n g w (Rw E c w v ps acc [] []) T ((spec E.toEnv j).t (mk acc) n g) wr)
theorem ZG (H:∀ j,j<=k->aB E (spec E.toEnv j)) (hkk:k<=1000000000000) (h:Rd E c n g w) (hr:OD E.toEnv (spec E.toEnv k) n g≠.out) :
  Calls Tryz.prog 152 #[p8 c] w (Ans E c g (OD E.toEnv (spec E.toEnv k) n g) w):=by
 have HA:=hid H;clear H;have H:=iK (Sx.start h hr rfl)
 conv at H=>arg 1;arg 8;unfold OD
 clear h hr
 go_in
 go_wp2_with fail;refine RK H up ?_;intro q u n1 w1 H;have H:=pL H Cu;go_wp2_with fail
 go_loopg [3] k (fun j v wr=>tL E c g w (OD E.toEnv (spec E.toEnv k) n g) F.namesMore k j v wr)
 case atStart=>exact⟨n1,[u],[q],Cv,H⟩
 case round =>
  clear H;obtain⟨n,acc,ps,hl,H⟩:=hrel;have HL:=hid hl;clear hl;rcases gk with _|j
  ·exact zcd
  replace H:Hid (Sx _ _ _ _ _ _ _ (XB E.toEnv (spec E.toEnv j) acc n g) _):=H
  conv at H=>arg 1;arg 8;unfold XB
  have HD:=hid (HA.out j ol);have KL:Kd 10 10:=rfl;exact dr
theorem AQ (H:∀ j,j<=k->aB E (spec E.toEnv j)) (hkk:k<=1000000000000) (h:Rd E c n g w) (hr:(((spec E.toEnv k).t .expr n g).andThen fun x n1=>(spec E.toEnv k).t (.exprsMore [x]) n1 g)≠.out) :
  Calls Tryz.prog 205 #[p8 c] w (Ans E c g ((((spec E.toEnv k).t .expr n g).andThen fun x n1=>(spec E.toEnv k).t (.exprsMore [x]) n1 g)) w):=by
 have HA:=hid H;clear H;have H:=iK (Sx.start h hr rfl);clear h hr
 go_in
 go_wp2_with fail;refine iF (F:=.expr) H (hid (HA.out k (C' _))) Ct ⟨rfl,rfl⟩ up ?_;intro q u n1 w1 H;have H:=pL H Cu;go_wp2_with fail
 go_loopg [3] k (fun j v wr=>tL E c g w ((((spec E.toEnv k).t .expr n g).andThen fun x n1=>(spec E.toEnv k).t (.exprsMore [x]) n1 g)) F.exprsMore k j v wr)
 case atStart=>exact⟨n1,[u],[q],Cv,H⟩
 case round =>
  clear H;obtain⟨n,acc,ps,hl,H⟩:=hrel;have HL:=hid hl;clear hl;rcases gk with _|j
  ·exact zcd
  replace H:Hid (Sx _ _ _ _ _ _ _ (ZB E.toEnv (spec E.toEnv j) acc n g) _):=H
  conv at H=>arg 1;arg 8;unfold ZB
  have HD:=hid (HA.out j ol);have KL:Kd 11 11:=rfl;exact dr
theorem VQ (H:∀ j,j<=k->aB E (spec E.toEnv j)) (hkk:k<=1000000000000) (h:Rd E c n g w) (hr:(((spec E.toEnv k).t .typ n g).andThen fun x n1=>(spec E.toEnv k).t (.typesMore [x]) n1 g)≠.out) :
  Calls Tryz.prog 241 #[p8 c] w (Ans E c g ((((spec E.toEnv k).t .typ n g).andThen fun x n1=>(spec E.toEnv k).t (.typesMore [x]) n1 g)) w):=by
 have HA:=hid H;clear H;have H:=iK (Sx.start h hr rfl);clear h hr
 go_in
 go_wp2_with fail;refine iF (F:=.typ) H (hid (HA.out k (C' _))) Ct ⟨rfl,rfl⟩ up ?_;intro q u n1 w1 H;have H:=pL H Cu;go_wp2_with fail
 go_loopg [3] k (fun j v wr=>tL E c g w ((((spec E.toEnv k).t .typ n g).andThen fun x n1=>(spec E.toEnv k).t (.typesMore [x]) n1 g)) F.typesMore k j v wr)
 case atStart=>exact⟨n1,[u],[q],Cv,H⟩
 case round =>
  clear H;obtain⟨n,acc,ps,hl,H⟩:=hrel;have HL:=hid hl;clear hl;rcases gk with _|j
  ·exact zcd
  replace H:Hid (Sx _ _ _ _ _ _ _ (cC E.toEnv (spec E.toEnv j) acc n g) _):=H
  conv at H=>arg 1;arg 8;unfold cC
  have HD:=hid (HA.out j ol);have KL:Kd 11 11:=rfl;exact dr
end
section
open Go.RowKit
variable {E:Ev}{S:AB}{c n k:Nat}{g:Bool}{w w0 w1 w2:World}{v:Value}{ps:List Nat}{ts:List Tr}{rs:List Nat}{us:List Tr}{T X:R Tr}
theorem nU {n2:Nat}{X2:R Tr}{p2:Nat}{k2:UInt8}{wd2:Int}{f2 t2:Nat}{kv2:Value}{ps2:List Nat}{ts2:List Tr}{rs2:List Nat}{us2:List Tr}
  (h2:Hid (Sx E c n2 g w0 (Rw E c w1 v ps ts rs us) T X2 w2)) (h:Hid (Sx E c n g w0 (Nd E c w2 p2 k2 wd2 f2 t2 kv2 ps2 ts2 rs2 us2) T X w)):Hid (Sx E c n g w0 (Rw E c w1 v ps ts rs us) T X w) :=
 h.out.with (Rw.later _ _ h2.out.ex h.out.ex.fr) Rw.later
def EW (E:Ev) (c:Nat) (g:Bool) (w:World) (T:R Tr) (k j:Nat) (v m:Value) (wr:World):Prop :=
 ∃ n acc ps b,m=.bool b/\ps.length+j<=k+1/\Hid (Sx E c n g w (Rw E c w v ps acc [] []) T (if b then (spec E.toEnv j).t (.unionMore acc) n g else .ok (xC 18 acc n) n) wr)
theorem GQ (H:∀ j,j<=k->aB E (spec E.toEnv j)) (hkk:k<=1000000000000) (h:Rd E c n g w) (hr:jB E.toEnv (spec E.toEnv k) [] n g≠.out) :
  Calls Tryz.prog 153 #[p8 c] w (Ans E c g (jB E.toEnv (spec E.toEnv k) [] n g) w):=by
 have HA:=hid H;clear H;have H:=iK (Sx.start h hr rfl);clear h hr
 go_in
 go_wp2_with fail
 go_loopg [3,4] (k+1) (fun j v m wr=>EW E c g w (jB E.toEnv (spec E.toEnv k) [] n g) k j v m wr)
 case atStart=>exact⟨n,[],[],true,rfl,Cu,H⟩
 case round =>
  clear H;obtain⟨n,acc,ps,b,rfl,hl,H⟩:=hrel;have HL:=hid hl;clear hl;have KL:Kd 18 18:=rfl;cases b with
  | false =>
   simp only [bs,reduceCtorEq] at H;exact dr
  | true =>
   simp only [Be] at H;rcases gk with _|j
   ·exact zcd
   replace H:Hid (Sx _ _ _ _ _ _ _ (jB E.toEnv (spec E.toEnv j) acc n g) _):=H
   conv at H=>arg 1;arg 8;unfold jB nH
   have HD:=hid (HA.out j ol);go_wp2_with fail;have HO:=H;refine TK H 19 ?_;intro p w H;go_wp2_with fail;cases h1:E.is n [126] with
   | true =>
    simp only [h1,bs,reduceCtorEq] at H;refine vE H h1 ?_;intro n w hm H;simp only [<- hm] at H;clear hm h1;exact dr
   | false =>
    simp only [h1,bs,reduceCtorEq] at H;refine gH H h1 ?_;intro w H;clear h1;have H:=nU HO H;exact dr
def JY (E:Ev) (c:Nat) (g:Bool) (w:World) (T:R Tr) (least fr j:Nat) (v:Value) (wr:World):Prop :=
 ∃ n q u,v=p8 q/\Hid (Sx E c n g w (Rw E c w OE [] [] [q] [u]) T ((spec E.toEnv j).t (.binMore least fr u) n g) wr)
theorem dV (ws:List UInt8):DD ws<=5:=by
 unfold DD
 repeat' (split;first|omega|skip)
 all_goals omega
theorem OV {E:Env}{n:Nat} (h:1<=DD (E.word n)):n < E.l.length:=by
 apply Ap;intro hn;rw [AG Cs] at h
 revert h;decide
theorem iZ (H:aB E S) {L:Nat} (h1:1<=L+1) (h2:L+1<=100) (h:Rd E c n g w) (hr:S.t (.binary (L+1)) n g≠.out):Calls Tryz.prog 71 #[p8 c,i8 ((L:Int)+1)] w (Ans E c g (S.t (.binary (L+1)) n g) w):=H.b (L+1) c n g w h1 h2 h hr
theorem CO (H:∀ j,j<=k->aB E (spec E.toEnv j)) (least:Nat) (hl1:1<=least) (hl2:least<=100) (h:Rd E c n g w) (hr:(((spec E.toEnv k).t .unary n g).andThen fun x n1=>(spec E.toEnv k).t (.binMore least n x) n1 g)≠.out) :
  Calls Tryz.prog 71 #[p8 c,i8 (least:Int)] w (Ans E c g (((spec E.toEnv k).t .unary n g).andThen fun x n1=>(spec E.toEnv k).t (.binMore least n x) n1 g) w):=by
 have HA:=hid H;clear H;have H0:=iK (Sx.start h hr rfl);obtain⟨_,_,_,hat,_⟩:=h.cells;clear h hr
 go_in
 go_wp2_with fail;refine iF (F:=.unary) H0 (hid (HA.out k (C' _))) Ct ⟨rfl,rfl⟩ (fun _ _ h=>⟨rfl,h⟩) ?_;intro q u n1 w1 H1;clear H0 hat;go_wp2_with fail
 go_loopg [6] k (fun j v wr=>j<=k/\JY E c g w (((spec E.toEnv k).t .unary n g).andThen fun x n1=>(spec E.toEnv k).t (.binMore least n x) n1 g) least n j v wr)
 case atStart=>exact⟨C' _,n1,q,u,rfl,H1⟩
 case round =>
  clear H1;obtain⟨hj,n2,q2,u2,rfl,H3⟩:=hrel;have HJ:=hid hj;clear hj;rcases gk with _|j
  ·exact Cq
  ·replace H3:Hid (Sx _ _ _ _ _ _ _ (uD E.toEnv (spec E.toEnv j) least n u2 n2 g) _):=H3
   conv at H3=>arg 1;arg 8;unfold uD
   have hlv:=WT (E.word (n2:Nat));have hle:=dV (E.word (n2:Nat));have hla:=@OV E.toEnv n2;generalize DD (E.word (n2:Nat))=L at H3 hlv hle hla;have HLV:=hid hlv;clear hlv;by_cases h1:L < least
   ·have d1:decide (L < least)=true:=decide_eq_true h1;simp only [h1,Be] at H3;clear h1 hla hle;go_wp2_with fail;refine cA H3 ?_;intro w4 H4;clear H3;go_wp2_with fail;refine (HLV.out _).mono ?_;rintro e w5 ⟨rfl,rfl⟩;go_wp2_with fail;go_ret;exact RE (rs:=[]) (us:=[]) H4
   ·have d1:decide (L < least)=false:=decide_eq_false h1;have HLA:=hid (hla Cs);have b1:(0:Int)<=(L:Int):=by omega
    have b2:(L:Int)<=5:=Cs
    have HLL:=hid (Az h1 hle);rw [Bc h1] at H3;clear h1 hla hle;go_wp2_with fail;refine cA H3 ?_;intro w4 H4;clear H3;go_wp2_with fail;refine (HLV.out _).mono ?_;rintro e w5 ⟨rfl,rfl⟩;obtain⟨_,_,_,hat,_⟩:=H4.out.rd.cells;have hsm:((n2:Nat):Int)<=1099511627776:=by have:=H4.out.rd.at_;have:=H4.out.rd.lie.small;omega
    have hfz:=H4.out.rd.free 3;have H5:=ZA H4 HLA;clear H4;obtain⟨n5,hm⟩:∃ m,m=n2+1:=⟨_,rfl⟩;simp only [<- hm] at H5;clear hm;go_wp2_with fail;generalize w4.setCell (y8 c 3) (i8 (((n2:Nat):Int)+1))=w5 at *;clear hat hsm hfz;refine lL H5 (fun hr=>iZ (HA.out j Kr) (L:=L) (by have:=HLL.out;omega) (by have:=HLL.out;omega) H5.out.rd hr) (fun _ _ h=>⟨rfl,h⟩) ?_;intro q6 u6 n6 w6 H6;clear H5;obtain⟨_,_,_,hat,_⟩:=H6.out.rd.cells;have hat2:=aA ((N' w6.heap.size w6).alloc (C' _) (Obj.cells #[p8 q2,p8 q6] 44)) hat;have H7:=pL H6 Cu;clear H6;have H8:=jP H7 37 (n2:Nat) n n6;clear H7;simp only [World.size_alloc,Ar,Ao] at H8;go_wp2_with fail;go_roundg j
    case measure=>omega
    case rel=>exact⟨Kr,n6,_,_,rfl,H8⟩
end
