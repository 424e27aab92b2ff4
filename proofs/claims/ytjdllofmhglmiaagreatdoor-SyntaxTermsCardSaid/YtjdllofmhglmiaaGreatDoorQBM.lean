import Derived.Test.YtjdllofmhglmiaaGreatDoorQBL
namespace Go.Proofs.YtjdllofmhglmiaaGreatDoor
open Lib(hid)
set_option linter.all false
set_option maxHeartbeats 40000000
set_option maxRecDepth 100000
section
open Go.RowKit
variable {E:Ev}{S:AB}{c n k:Nat}{g:Bool}{w w0 w1 w2:World}{v:Value}{ps:List Nat}{ts:List Tr}{rs:List Nat}{us:List Tr}{T X:R Tr}
theorem ZN {kd:UInt8}{sort:Nat} (H:∀ j,j<=k->aB E (spec E.toEnv j)) (hkk:k<=1000000000000) (hs:sort=1∨sort=2∨sort=3) (h:Rd E c n g w) (hr:rD E.toEnv (spec E.toEnv k) kd sort n≠.out) :
  Calls Tryz.prog 239 #[p8 c,.int .u8 (kd.toNat:Int),.func (.func (xD (.cased sort))) #[p8 c] #[]] w (Ans E c g (rD E.toEnv (spec E.toEnv k) kd sort n) w):=by
 have hcf:∀ w1,Sem.run Tryz.prog (callFunc (xD (.cased sort)) (#[p8 c]++#[])) w1=.ok (.enter (xD (.cased sort)) (#[p8 c]++#[])) w1:=by
  rcases hs with rfl|rfl|rfl <;> exact fun _=>cF Cw _ _
 have hC:∀ j,j<=k->∀ n1 w1,Rd E c n1 false w1->(spec E.toEnv j).t (.cased sort) n1 false≠.out->Calls Tryz.prog (xD (.cased sort)) (#[p8 c]++#[]) w1 (Ans E c false ((spec E.toEnv j).t (.cased sort) n1 false) w1) :=
  fun j hj n1 w1 hR hr=>(H j hj).t (.cased sort) c n1 false w1 (by rcases hs with rfl|rfl|rfl <;> decide) (DA Db hR.at_ Db) hR hr
 have HA:=hid H;clear H;have HCF:=hid hcf;clear hcf;have HC:=hid hC;clear hC;generalize xD (.cased sort)=f at *;have b1:=nE w (p8 c) 47;have b2:=nE (w.alloc (.cells #[p8 c] 47)) (.int .u8 (kd.toNat:Int)) 5;have b3:=nE ((w.alloc (.cells #[p8 c] 47)).alloc (.cells #[.int .u8 (kd.toNat:Int)] 5)) (.func (.func f) #[p8 c] #[]) 80;have e1:=aA ((N' _ _).alloc (C' _) (.cells #[.func (.func f) #[p8 c] #[]] 80)) (aA ((N' _ _).alloc (C' _) (.cells #[.int .u8 (kd.toNat:Int)] 5)) b1);have e2:=aA ((N' _ _).alloc (C' _) (.cells #[.func (.func f) #[p8 c] #[]] 80)) b2;have H0:=FF (FF (FF (Sx.start h hr rfl) (.cells #[p8 c] 47)) (.cells #[.int .u8 (kd.toNat:Int)] 5)) (.cells #[.func (.func f) #[p8 c] #[]] 80);simp only [World.size_alloc] at e1 e2 b3;have HX:=hid (Az (Az e1 (Az e2 b3)) h.lt);clear b1 b2 b3 e1 e2 h hr hs
 go_in
 obtain⟨⟨hb1,hb2,hb3⟩,_⟩:=HX.out;go_wp2_with fail;clear hb1 hb2 hb3;refine pG H0 (fun hr=>nS H0.out.rd 269 #[p8 w.heap.size,.pointer (some (y8 (w.heap.size+1) 0)),.pointer (some ⟨w.heap.size+1+1,0,none⟩)] (fun _=>cF Cw _ _)
  (fun w1 hR hF=>vM HA.out hkk hR HCF.out HC.out ⟨⟨hF.cell (a:=(y8 w.heap.size 0)) Cx HX.out.1.1,hF.cell (a:=(y8 (w.heap.size+1) 0)) Cx HX.out.1.2.1,hF.cell (a:=⟨w.heap.size+1+1,0,none⟩) Cx HX.out.1.2.2⟩,Ko,Ko,Ko⟩ hr)) (fun _ _ h=>⟨rfl,h⟩) ?_
 intro q wz HA;clear H0;go_wp2_with fail;go_ret;exact HA.out
end
section
open Go.RowKit
variable {E:Ev}{S:AB}{c n:Nat}{g:Bool}{w:World}
variable {k:Nat}{w0 w1 w2:World}{p:Nat}{kd:UInt8}{wd:Int}{f t:Nat}{kv v:Value}{ps0:List Nat}{ts0:List Tr}{ps:List Nat}{ts:List Tr}{rs:List Nat}{us:List Tr}{T X:R Tr}
theorem DL {fn:FuncId}{args:Array Value}{r:R Tr}{K:Tr->Nat->R Tr}{Q:Ending->World->Prop} (h:Hid (Sx E c n g w0 (Nd E c w1 p kd wd f t kv ps0 ts0 ps ts) T (r.andThen K) w)) (hC:r≠.out->Calls Tryz.prog fn args w (Ans E c g r w))
  (hB:∀ k w',Ans E c g T w0 (Up k) w'->Q (Up k) w')
  (hQ:∀ q u n' w',Hid (r=.ok u n')->Hid (Sx E c n' g w0 (Nd E c w1 p kd wd f t kv ps0 ts0 (ps++[q]) (ts++[u])) T (K u n') w')->Q (.returned (p8 q)) w'):Calls Tryz.prog fn args w Q:=by
 refine (hC (fun e=>h.out.ne Eo)).mono ?_;intro e w' hA;have hh:=h.out;cases r with
 | out=>exact hA.elim
 | bad m=>obtain⟨rfl,q1,q2⟩:=hA;exact hB m w' (hh.bad rfl q1 q2)
 | ok u m=>obtain⟨q,rfl,q1,q2,q3⟩:=hA;exact hQ q u m w' rfl ((hh.step q3 q1 rfl).with (hh.ex.kid q3 q2) Nd.later)
theorem xX {u:Tr}{n m:Nat} (h:only u n=.bad m):m=n:=by
 unfold only at h;split at h
 ·split at h <;> cases h;rfl
 ·cases h;rfl
theorem uW {u x:Tr}{n m:Nat} (h:only u n=.ok x m):m=n:=by
 unfold only at h;split at h
 ·split at h <;> cases h;rfl
 ·cases h
theorem WL {q:Nat}{u:Tr}{K:Tr->Nat->R Tr}{Q:Ending->World->Prop} (h:Hid (Sx E c n g w0 (Nd E c w1 p kd wd f t kv ps0 ts0 ps ts) T ((only u n).andThen K) w)) (ht:nA w (ndD w1 p kv w) q u) (hs:Hid (Sh u))
  (hB:∀ k w',Ans E c g T w0 (Up k) w'->Q (Up k) w')
  (hQ:∀ px x n' w',Hid (Sx E c n' g w0 (Nd E c w1 p kd wd f t kv ps0 ts0 (ps++[px]) (ts++[x])) T (K x n') w')->Q (.returned (p8 px)) w') :
  Calls Tryz.prog 238 #[p8 c,p8 q] w Q:=by
 refine (fW h.out.rd ht hs.out).mono ?_;intro e w' hA;have hh:=h.out;cases ho:only u n with
 | out=>exact absurd (by rw [hh.eq,ho];rfl) hh.ne
 | bad m =>
  rw [ho] at hA hh;obtain⟨rfl,rfl⟩:=hA;have:=xX ho;subst this;exact hB m w (hh.bad rfl ⟨g,hh.rd⟩ (Fr.refl _ _))
 | ok x m =>
  rw [ho] at hA hh;obtain⟨px,rfl,hx,rfl⟩:=hA;have:=uW ho;subst this;exact hQ px x m w (hh.with ⟨hh.ex.fr,hh.ex.cw,hh.ex.opn,hh.ex.old,fA.append hh.ex.kids ⟨hx,trivial⟩,hh.ex.z⟩ Nd.later)
theorem EV (H:aB E S) (hso:SOk E.toEnv S) (h:Rd E c n g w) (hn:n < E.l.length) (hr:XI E.toEnv S n g≠.out) :
  Calls Tryz.prog 200 #[p8 c] w (Ans E c g (XI E.toEnv S n g) w):=by
 have L:=hid hn;clear hn;have HD:=hid H;clear H;have H:=Sx.start h hr rfl
 conv at H=>arg 1;arg 8;unfold XI SD
 try simp only [show n+2=n+1+1 from rfl,bs,reduceCtorEq] at H
 have HSO:=hid hso;clear hso;have KO:Kd 59 59:=rfl;clear h hr
 go_in
 exact dr
end
section
open Go.RowKit
variable {E:Ev}{S:AB}{c n k:Nat}{g:Bool}{w w0 w1 w2:World}{p:Nat}{kd:UInt8}{wd:Int}{f t:Nat}{kv v:Value}{ps0:List Nat}{ts0:List Tr}{ps:List Nat}{ts:List Tr}{rs:List Nat}{us:List Tr}{T X:R Tr}
def YY (E:Ev) (D:Nat->Prop) (u:Tr) (w:World) (e:Ending) (w':World):Prop :=
 Below w.heap.size w w'/\match asked E.toEnv u with
 | some (a,y)=>∃ pa py,e=.returned (.tuple #[p8 pa,p8 py])/\nA w' (fun b=>D b∨within w.heap.size w'.heap.size b) pa a/\nA w' (fun b=>D b∨within w.heap.size w'.heap.size b) py y
 | none=>e=.returned (.tuple #[.pointer none,.pointer none])
theorem ST {E:Env}{u x:Tr} (h1:u.kind=50) (hk:u.kids=[x]) (h2:x.kind≠33):asked E u=none:=by
 unfold asked;rw [h1,hk]
 show (match x.kind,x.kids with|33,[y]=>some (Tr.mk 0 (-1) u.fr u.fr [],y)|_,_=>none)=none
 split
 ·rename_i h _;exact absurd h h2
 ·rfl
theorem FR {E:Env}{u x y:Tr} (h1:u.kind=50) (hk:u.kids=[x]) (h2:x.kind=33) (h3:x.kids=[y]):asked E u=some (.mk 0 (-1) u.fr u.fr [],y):=by
 unfold asked;rw [h1,hk]
 show (match x.kind,x.kids with|33,[y]=>some (Tr.mk 0 (-1) u.fr u.fr [],y)|_,_=>none)=_
 rw [h2,h3]
 rfl
theorem aW {E:Env}{u:Tr} (h1:u.kind≠50) (h2:u.kind≠53):asked E u=none:=by
 unfold asked;split
 ·rename_i h _;exact absurd h h1
 ·rename_i h _;exact absurd h h2
 ·rfl
theorem OS {E:Env}{u l r:Tr} (h1:u.kind=53) (hk:u.kids=[l,r]):asked E u=if E.word u.word=[58,61] then (match l.kids,r.kids with
    | [a],[b]=>if a.kind=26/\b.kind=33 then (match b.kids with|[y]=>some (a,y)|_=>none) else none
    | _,_=>none) else none:=by
 unfold asked;rw [h1,hk]
 rfl
theorem WM {D:Nat->Prop}{q:Nat}{u:Tr} (hr:Rd E c n g w) (hD:∀ b,D b->b < w.heap.size) (h:nA w D q u) (hs:Sh u):Calls Tryz.prog 240 #[p8 c,p8 q] w (YY E D u w):=by
 obtain⟨_,h0,h1,h2,_,_⟩:=nA.cells h;cases a50:(u.kind==50) with
 | true =>
  have d50:((u.kind.toNat:Int)==50)=true:=by rw [gS];exact a50
  have d53:((u.kind.toNat:Int)==53)=false:=by rw [qV,B7 a50];rfl
  obtain⟨x,hk⟩:=Sh.one hs (by rw [B7 a50]);obtain⟨b9,o9,c9,px,k4,k5,ht⟩:=nA.first h hk;obtain⟨_,x0,_,_,_,_⟩:=nA.cells ht;cases a33:(x.kind==33) with
  | false =>
   have d33:((x.kind.toNat:Int)==33)=false:=by rw [MS];exact a33
   have HP:=hid (ST (E:=E.toEnv) (B7 a50) hk (by simpa using a33));clear a50 a33 hs h ht hk hr hD
   go_in
   exact zdw
  | true =>
   have d33:((x.kind.toNat:Int)==33)=true:=by rw [MS];exact a33
   obtain⟨y,hk2⟩:=Sh.one (Shs.mem (t:=x) hs.kids Ew) (by rw [B7 a33];rfl);obtain⟨b8,o8,c8,py,k6,k7,ht2⟩:=nA.first ht hk2;have HP:=hid (FR (E:=E.toEnv) (B7 a50) hk (B7 a33) hk2);have HT:=hid (Az hD ht2);clear a50 a33 hs h ht ht2 hk hk2 hr hD
   go_in
   go_wp2_with fail
   go_region_held3 (fun w'=>w'.cell? (y8 q 2)=some (i8 (u.fr:Int))/\w'.cell? (y8 q 4)=some (.slice (some (y8 b9 o9)) (0+1) c9)/\w'.cell? (y8 b9 o9)=some (p8 px)/\w'.cell? (y8 px 4)=some (.slice (some (y8 b8 o8)) (0+1) c8)/\w'.cell? (y8 b8 o8)=some (p8 py)) (first|(refine⟨?_,?_,?_,?_,?_⟩;all_goals (first|assumption|exact aA ((N' _ _).alloc (C' _) _) ‹_›))|(go_split_ands;refine⟨?_,?_,?_,?_,?_⟩;all_goals (first|assumption|exact aA ((N' _ _).alloc (C' _) _) ‹_›))) (fail)
   go_wp2_with fail;go_ret2;obtain⟨hD,ht2⟩:=HT.out;have hB:=(N' w.heap.size w).alloc (C' _) (Obj.cells #[.int .u8 0,i8 (-1),i8 (u.fr:Int),i8 (u.fr:Int),.slice none 0 0] 54);refine⟨hB.drew,?_⟩;rw [HP.out];refine⟨w.heap.size,py,rfl,⟨.inr ⟨C' _,Cu⟩,none,0,[],B8 w _,.inl rfl,trivial⟩,?_⟩;exact nA.kept (fun b hb=>hB.drew.block b (hD b hb)) (fun b hb=>Or.inl hb) py y ht2
 | false =>
  have d50:((u.kind.toNat:Int)==50)=false:=by rw [gS];exact a50
  cases a53:(u.kind==53) with
  | false =>
   have d53:((u.kind.toNat:Int)==53)=false:=by rw [qV];exact a53
   have HP:=hid (aW (E:=E.toEnv) (u:=u) (by simpa using a50) (by simpa using a53));clear a50 a53 hs h hr hD
   go_in
   exact zdw
  | true =>
   have d53:((u.kind.toNat:Int)==53)=true:=by rw [qV];exact a53
   obtain⟨l,r,hk⟩:=Sh.two hs (by rw [B7 a53];rfl);have has:=OS (E:=E.toEnv) (B7 a53) hk;have HW:=hid (BH E c u.word w hr.cells.1 hr.cells.2.1 hr.lie);cases hw:(E.word u.word==[58,61]) with
   | false =>
    rw [Bc (by intro e;rw [e] at hw;exact absurd hw Ct)] at has;have HP:=hid has;clear a50 a53 hs h hr hD has hk
    go_in
    go_wp2_with fail;refine HW.out.mono ?_;rintro e w2 ⟨rfl,hb⟩;have HB:=hid hb;clear hb;exact zbs
   | true =>
    rw [Bb (B7 hw)] at has;have hls:=Shs.mem (t:=l) hs.kids Ew;have hrs:=Shs.mem (t:=r) hs.kids Ew;have HH:=hid (Az h (Az hD (Az hk (Az hls (Az hrs has)))));clear a50 a53 hs h hr hD hk hls hrs has
    go_in
    go_wp2_with fail;refine HW.out.mono ?_;rintro e w2 ⟨rfl,hb⟩;have HB:=hid hb;obtain⟨h,hD,hk,hls,hrs,has⟩:=HH.out;have hT:=nA.kept (fun b hd=>hb.block b (hD b hd)) (fun b hd=>hd) q u h;clear h;obtain⟨b9,o9,c9,k4,hn⟩:=nA.nth hT Ew;rw [hk] at k4 hn;obtain⟨pl,k5,hl⟩:=hn 0 l rfl;obtain⟨pr,k6,hrr⟩:=hn 1 r rfl;simp only [Ae,Am,Nat.zero_add,Nat.add_zero] at k4 k5;clear hn hT hb;obtain⟨_,_,_,_,_,kl,cl,psl,l4,_,_⟩:=nA.cells hl;obtain⟨_,_,_,_,_,kr,cr,psr,r4,_,_⟩:=nA.cells hrr;rcases hlk:l.kids with _|⟨a,_|⟨a2,ra⟩⟩
    ·rw [hlk] at l4 has;have HP:=hid (has.trans (by rfl:_=none));clear hk hls hrs hD hl hrr has hlk;exact zbs
    ·rw [hlk] at has;rcases hrk:r.kids with _|⟨b,_|⟨b2,rb⟩⟩
     ·rw [hrk] at r4 has;rw [hlk] at l4;have HP:=hid (has.trans (by rfl:_=none));exact zfe
     ·rw [hrk] at has;obtain⟨b8,o8,c8,pa,l5,l6,ha⟩:=nA.first hl hlk;obtain⟨b7,o7,c7,pb,r5,r6,hb⟩:=nA.first hrr hrk;simp only [Am,Nat.zero_add] at l5 r5;clear l4 r4;obtain⟨_,a0,_,_,_,_⟩:=nA.cells ha;obtain⟨_,b0,_,_,_,_⟩:=nA.cells hb;have hbs:=Shs.mem (t:=b) hrs.kids (by rw [hrk];simp);change asked E.toEnv u=(if a.kind=26/\b.kind=33 then (match b.kids with|[y]=>some (a,y)|_=>none) else none) at has;cases a26:(a.kind==26) with
      | false =>
       have d26:((a.kind.toNat:Int)==26)=false:=by rw [xN];exact a26
       rw [Bc (by intro e;rw [e.1] at a26;exact absurd a26 Ct)] at has;have HP:=hid has;clear hbs ha hb a26 hk hls hrs hD hl hrr has hlk hrk;exact zaz
      | true =>
       have d26:((a.kind.toNat:Int)==26)=true:=by rw [xN];exact a26
       cases b33:(b.kind==33) with
       | false =>
        have d33:((b.kind.toNat:Int)==33)=false:=by rw [MS];exact b33
        rw [Bc (by intro e;rw [e.2] at b33;exact absurd b33 Ct)] at has;have HP:=hid has;clear hbs ha hb a26 b33 hk hls hrs hD hl hrr has hlk hrk;exact zaz
       | true =>
        have d33:((b.kind.toNat:Int)==33)=true:=by rw [MS];exact b33
        rw [Bb ⟨B7 a26,B7 b33⟩] at has;obtain⟨y,hbk⟩:=Sh.one hbs (by rw [B7 b33];rfl);rw [hbk] at has;obtain⟨b6,o6,c6,py,b5,b66,hy⟩:=nA.first hb hbk;simp only [Am,Nat.zero_add] at b5;have HP:=hid (Az has (Az ha hy));clear hbs ha hb hy hbk a26 b33 hk hls hrs hD hl hrr has hlk hrk;go_wp2_with fail
        go_region_held3 (fun w'=>w'.cell? (y8 q 4)=some (.slice (some (y8 b9 o9)) 2 c9)/\w'.cell? (y8 b9 o9)=some (p8 pl)/\w'.cell? (y8 b9 (o9+1))=some (p8 pr)/\w'.cell? (y8 pl 4)=some (.slice (some (y8 b8 o8)) 1 c8)/\w'.cell? (y8 b8 o8)=some (p8 pa)/\w'.cell? (y8 pr 4)=some (.slice (some (y8 b7 o7)) 1 c7)/\w'.cell? (y8 b7 o7)=some (p8 pb)) (first|(refine⟨?_,?_,?_,?_,?_,?_,?_⟩;all_goals assumption)|(go_split_ands;refine⟨?_,?_,?_,?_,?_,?_,?_⟩;all_goals assumption)) (fail)
        go_wp2_with fail
        go_region_held3 (fun w'=>w'.cell? (y8 pb 4)=some (.slice (some (y8 b6 o6)) 1 c6)/\w'.cell? (y8 b6 o6)=some (p8 py)) (first|(refine⟨?_,?_⟩;all_goals assumption)|(go_split_ands;refine⟨?_,?_⟩;all_goals assumption)) (fail)
        go_wp2_with fail;go_ret2;refine⟨HB.out.drew.drew,?_⟩;rw [HP.out.1];exact⟨pa,py,rfl,nA.kept (w:=w2) (w':=w2.drew.drew) (fun _ _=>rfl) (fun b hb=>Or.inl hb) pa a HP.out.2.1,nA.kept (w:=w2) (w':=w2.drew.drew) (fun _ _=>rfl) (fun b hb=>Or.inl hb) py y HP.out.2.2⟩
     ·rw [hrk] at r4 has;rw [hlk] at l4;have HP:=hid (has.trans (by rfl:_=none));have d9:((((b::b2::rb).length:Nat):Int)==1)=false:=by simp;omega
      generalize (b::b2::rb).length=len9 at r4 d9;exact zfe
    ·rw [hlk] at l4 has;have HP:=hid (has.trans (by rfl:_=none));have d9:((((a::a2::ra).length:Nat):Int)==1)=false:=by simp;omega
     generalize (a::a2::ra).length=len9 at l4 d9;clear hk hls hrs hD hl hrr has hlk;exact zbs
end
