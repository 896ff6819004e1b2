/- A part of the proof: WbD, WcD, Wd, P6, P8, Pv. -/
import Derived.BigQuiet
import Derived.Deep.QuietTactic
import Derived.Deep.DrawnRows
import Derived.Test.YtabhpdhajajoiaaGreatDoorEb7
namespace Go.Proofs.YtabhpdhajajoiaaGreatDoor
open Go.RowKit
open _root_.Go.Proofs.Tryz
set_option linter.all false
set_option maxHeartbeats 16000000
set_option maxRecDepth 100000
open List renaming getElem?_eq_getElem→Lg',append_assoc→Ls'
open Nat renaming lt_of_lt_of_le→Nl'
section
attribute [local go_sem ↓] Go.wp_at_zero Go.wp_at_succ
def PTD(pm pa pf:Nat)(most:Int)(lo N:Nat):Prop:=∀ (k a:Int)(nm:LB)(n:Int)(s:LB)(ls:List LB)(args:List Ak)(v5 v6:Value)(d:Nat)(D:Int)(w:World)(σ:(Int×Bool)),szP (.mk k a nm n s ls args)<N→D=d→d+szP (.mk k a nm n s ls args)≤1099511627776→lo≤w.heap.size →
  Bd w (fun b=>b<lo) (.mk k a nm n s ls args) [vI k,vI a,vS nm,vI n,vS s,v5,v6]→DS pm pa pf most σ w→σ.2=false →
  Calls prog 95 #[.agg #[vI k,vI a,vS nm,vI n,vS s,v5,v6],vI D,.func (.func 54) #[] #[.pointer (some ⟨pm,0,none⟩),.pointer (some ⟨pa,0,none⟩),.pointer (some ⟨pf,0,none⟩)]] w fun e w'=>e = .returned (.bool (goL (Bm most) σ (Bz (.mk k a nm n s ls args) d)).2)∧DS pm pa pf most (goL (Bm most) σ (Bz (.mk k a nm n s ls args) d)).1 w'∧Fr [pa,pf] w w'
theorem Xo(pm pa pf:Nat)(most:Int)(lo:Nat)(hl:lo≤pa)(hl2:lo≤pf)(N:Nat)(ih:PTD pm pa pf most lo N):PTD pm pa pf most lo (N+1):=by
 intro k a nm n s ls args v5 v6 d D w σ hN hD hb hlo hx hs hok;have hx0:=hx
 cases hx with
 | mk c5 c6 h5 e5 h6 e6 =>
 have hsz:szP (.mk k a nm n s ls args)=1+Ey args:=by simp[szP]
 rw[hsz] at hN hb;rw[Kf,goL]
 have hform:∃ A6 m6 cc6,v6 = .slice A6 m6 cc6∧m6=args.length:=by
  obtain⟨_,_,hv⟩:=h6.form;exact⟨_,_,_,hv,rfl⟩
 obtain⟨A6,m6,cc6,rfl,rfl⟩:=hform;have IH:=Hz ih;have H6:=Hz h6;have E6:Hid (∀ (i:Nat) (x:Ak),args[i]?=some x→Bd w (fun b=>b<lo) x (c6 i)):=Hz e6;have HD:=Hz hD;have HS:=Hz hs;have hpn:=Aa hs.a;have hpn2:=Aa hs.f;have HOK:=Hz hok;have HN:=Hz hN;have HSZ:=Hz hsz;have hdn:(0:Int)≤D:=by omega
 have hdx:D≤1099511627776:=by omega
 have HDQ:Hid (IntKind.i64.wrap (D+1)=D+1):=Hz (IntWalk.i64_in _ (by omega));have hm6:(args.length:Int)≤4611686018427387903:=by have:args.length≤Ey args:=Tf args;omega
 clear ih h5 e5 h6 e6 hs hok hD hN hsz hx0;generalize hR:(if ((Bm most) σ (a,d)).2=true then goL (Bm most) ((Bm most) σ (a,d)).1 (C6 args (d+1))else (((Bm most) σ (a,d)).1,false))=R;have HR:=Hz hR;clear hR;go_enter func95,ntmps95;go_wp2_with fail;have f0:Fr [] w (w.alloc (.cells #[vI k,vI a,vS nm,vI n,vS s,v5,.slice A6 args.length cc6] 25)):=(Fr.refl [] w).alloc _;have q0:=Ad w (.cells #[vI k,vI a,vS nm,vI n,vS s,v5,.slice A6 args.length cc6] 25)
 generalize w.alloc (.cells #[vI k,vI a,vS nm,vI n,vS s,v5,.slice A6 args.length cc6] 25)=w1 at *
 have hT1:=Aa q0
 generalize hT:w.heap.size=T at *
 refine(eachD pm pa pf most σ a D d HD.out w1 (HS.out.fr f0) HOK.out).mono ?_;rintro e w2 ⟨rfl,hs2,f2⟩;have hl0:=Aa hs2.a;have q0:=f2.keep q0 (by simp;omega);have f2:=(f0.mono (L':=[pa,pf]) (fun x hx=>by cases hx)).trans f2
 cases hb1:((Bm most) σ (a,d)).2 with
 | false =>
  go_wp2_with fail;go_ret;have e:R=(((Bm most) σ (a,d)).1,false):=by rw[← HR.out,if_neg (by rw[hb1];decide)]
  rw[e]
  exact⟨rfl,hs2,f2⟩
 | true =>
  have HG:Hid (R=goL (Bm most) ((Bm most) σ (a,d)).1 (C6 (args.drop 0) (d+1))):=Hz (by rw[← HR.out,if_pos hb1];rfl);have hok2:Hid (((Bm most) σ (a,d)).1.2=false):=Hz (Ug HOK.out hb1);clear hb1 HR;have hTx:=Aa q0;obtain⟨⟨l0,l1,l2,l3,l4,l5,l6⟩,_⟩:=Aq q0;go_wp2_with fail;clear l0 l1 l2 l3 l4 l5 l6
  go_loopw [18] (fun iv wr=>∃ (i:Nat) (τ:(Int×Bool)),iv=vI i∧i≤args.length∧DS pm pa pf most τ wr∧Hid (τ.2=false)∧Fr [pa,pf] w wr∧Hid (R=goL (Bm most) τ (C6 (args.drop i) (d+1)))) (fun iv wr=>args.length-(intOf iv).toNat)
  case atStart=>exact⟨0,_,rfl,by omega,hs2,hok2,f2,HG⟩
  case round =>
   obtain⟨i,τ,rfl,hi,hs,hok,f,HG⟩:=hrel;clear hok2 hs2 f2 q0 hTx hl0;by_cases hlt:i<args.length
   ·obtain⟨y,hy⟩:∃ y,args[i]?=some y:=⟨args[i],Lg' hlt⟩
    have HY:=Hz hy;clear hy;have hyx:=E6.out i y HY.out
    rcases H6.out with⟨_,_,_,hl⟩| ⟨g,og,c',hv,hg,hgs,_,hcs⟩
    ·omega
    ·cases hv;obtain⟨hcl,hcc⟩:=hcs i hlt;have hcell:∀ (j:Nat) (v:Value),(c6 i)[j]?=some v→wr.cell? ⟨g,og+i * 7+j,none⟩=some v:=fun j v hj=>(f.cell (p:=⟨g,og+i * 7+j,none⟩) hgs (by simp;omega)).trans (hcc j v hj)
     have hgw:g<wr.heap.size:=Nl' hgs (by have:=f.size;omega)
     generalize hci:c6 i=ci at *
     have hyw:=hyx.keep (w':=wr) (ok':=fun b=>b<lo) (Sh.of_fr f (fun b hb hlt=>⟨hb,by simp;omega⟩))
     cases hyx with
     | @mk k2 a2 nm2 n2 s2 ls2 args2 v52 v62 c52 c62 h52 e52 h62 e62 =>
     have hf5:∃ A m cc,v52 = .slice A m cc:=by obtain⟨_,_,hv⟩:=h52.form;exact⟨_,_,_,hv⟩
     have hf6:∃ A m cc,v62 = .slice A m cc:=by obtain⟨_,_,hv⟩:=h62.form;exact⟨_,_,_,hv⟩
     clear h52 e52 h62 e62;obtain⟨A52,m52,cc52,rfl⟩:=hf5;obtain⟨A62,m62,cc62,rfl⟩:=hf6;have x0:wr.cell? ⟨g,og+i * 7,none⟩=some (vI k2):=hcell 0 _ rfl;have x1:wr.cell? ⟨g,og+i * 7+1,none⟩=some (vI a2):=hcell 1 _ rfl;have x2:wr.cell? ⟨g,og+i * 7+2,none⟩=some (vS nm2):=hcell 2 _ rfl;have x3:wr.cell? ⟨g,og+i * 7+3,none⟩=some (vI n2):=hcell 3 _ rfl;have x4:wr.cell? ⟨g,og+i * 7+4,none⟩=some (vS s2):=hcell 4 _ rfl;have x5:wr.cell? ⟨g,og+i * 7+5,none⟩=some (.slice A52 m52 cc52):=hcell 5 _ rfl;have x6:wr.cell? ⟨g,og+i * 7+6,none⟩=some (.slice A62 m62 cc62):=hcell 6 _ rfl;have hsz2:=Gz HY.out;have cP:=fun W (hW:Fr [] wr W)=>Hz (IH.out k2 a2 nm2 n2 s2 ls2 args2 (.slice A52 m52 cc52) (.slice A62 m62 cc62) (d+1) (D+1) W τ (by have:=HN.out;omega) (by rw[HD.out];simp) (by omega) (by have:=f.size;have:=hW.size;omega) (hyw.keep (Sh.of_fr hW (fun b hb hlt=>⟨hb,fun x=>by cases x⟩))) (hs.fr hW) hok.out)
     have hDQ:=HDQ.out;clear hcell hci hcc hcs hcl hyw hg;have q1:(0:Int)≤(i:Int):=by omega
     have q2:(i:Int)<(args.length:Int):=by omega
     go_wp2_with fail;have fb:Fr [] wr (wr.alloc (.cells #[vI k2,vI a2,vS nm2,vI n2,vS s2,.slice A52 m52 cc52,.slice A62 m62 cc62] 25)):=(Fr.refl [] wr).alloc _;refine(cP _ fb).out.mono ?_;rintro e w3 ⟨rfl,hs3,f3⟩;clear x0 x1 x2 x3 x4 x5 x6 cP hDQ;have f3:=(fb.mono (L':=[pa,pf]) (fun x hx=>by cases hx)).trans f3;have f4:=f.trans f3
     cases hb2:(goL (Bm most) τ (Bz (.mk k2 a2 nm2 n2 s2 ls2 args2) (d+1))).2 with
     | false =>
      go_wp2_with fail;go_ret;have e:R=((goL (Bm most) τ (Bz (.mk k2 a2 nm2 n2 s2 ls2 args2) (d+1))).1,false):=by rw[HG.out,Hg HY.out,Eo,if_neg (by rw[hb2];decide)]
      rw[e]
      exact⟨rfl,hs3,f4⟩
     | true =>
      have HG2:Hid (R=goL (Bm most) (goL (Bm most) τ (Bz (.mk k2 a2 nm2 n2 s2 ls2 args2) (d+1))).1 (C6 (args.drop (i+1)) (d+1))):=Hz (by rw[HG.out,Hg HY.out,Eo,if_pos hb2]);have hok3:Hid ((goL (Bm most) τ (Bz (.mk k2 a2 nm2 n2 s2 ls2 args2) (d+1))).1.2=false):=Hz (Oh hok.out hb2);clear hb2 HG hok;go_wp2_with fail
      go_roundw
      case rel=>exact⟨i+1,_,by simp,by omega,hs3,hok3,f4,HG2⟩
      case measure=>simp[intOf];omega
   ·have ei:i=args.length:=by omega
    subst ei;go_wp2_with fail;go_ret;have e:R=(τ,true):=by rw[HG.out,List.drop_length];simp[C6,goL]
    rw[e];exact⟨rfl,hs,f⟩
theorem Rt(pm pa pf:Nat)(most:Int)(lo:Nat)(hl:lo≤pa)(hl2:lo≤pf):∀ N,PTD pm pa pf most lo N
 | 0=>fun _ _ _ _ _ _ _ _ _ _ _ _ _ h=>absurd h (Nat.not_lt_zero _)
 | N+1=>Xo pm pa pf most lo hl hl2 N (Rt pm pa pf most lo hl hl2 N)
def WTD(pm pa pf:Nat)(most:Int)(lo N:Nat):Prop:=∀ (k a:Int)(nm:LB)(n:Int)(s:LB)(ls:List LB)(args:List Ab)(arms:List (Ak×Ab))(v5 v6 v7:Value)(d:Nat)(D:Int)(w:World)(σ:(Int×Bool)),szE (.mk k a nm n s ls args arms)<N→D=d→d+szE (.mk k a nm n s ls args arms)≤1099511627776→lo≤w.heap.size →
  Aj w (fun b=>b<lo) (.mk k a nm n s ls args arms) [vI k,vI a,vS nm,vI n,vS s,v5,v6,v7]→DS pm pa pf most σ w→σ.2=false →
  Calls prog 52 #[.agg #[vI k,vI a,vS nm,vI n,vS s,v5,v6,v7],vI D,.func (.func 54) #[] #[.pointer (some ⟨pm,0,none⟩),.pointer (some ⟨pa,0,none⟩),.pointer (some ⟨pf,0,none⟩)]] w fun e w'=>e = .returned (.bool (goL (Bm most) σ (Bw (.mk k a nm n s ls args arms) d)).2)∧DS pm pa pf most (goL (Bm most) σ (Bw (.mk k a nm n s ls args arms) d)).1 w'∧Fr [pa,pf] w w'
theorem X4(pm pa pf:Nat)(most:Int)(lo:Nat)(hl:lo≤pa)(hl2:lo≤pf)(N:Nat)(ih:WTD pm pa pf most lo N):WTD pm pa pf most lo (N+1):=by
 intro k a nm n s ls args arms v5 v6 v7 d D w σ hN hD hb hlo hx hs hok
 cases hx with
 | mk c5 c6 cp ce h5 e5 h6 e6 h7 e7 e8 =>
 have hsz:szE (.mk k a nm n s ls args arms)=1+(B1 args+Cd arms):=by simp[szE]
 rw[hsz] at hN hb;rw[Ke,goL]
 have hform:∃ A6 m6 cc6,v6 = .slice A6 m6 cc6∧m6=args.length:=by
  obtain⟨_,_,hv⟩:=h6.form;exact⟨_,_,_,hv,rfl⟩
 obtain⟨A6,m6,cc6,rfl,rfl⟩:=hform
 have hform:∃ A7 m7 cc7,v7 = .slice A7 m7 cc7∧m7=arms.length:=by
  obtain⟨_,_,hv⟩:=h7.form;exact⟨_,_,_,hv,rfl⟩
 obtain⟨A7,m7,cc7,rfl,rfl⟩:=hform;have IH:=Hz ih;have H6:=Hz h6;have H7:=Hz h7;have E6:Hid (∀ (i:Nat) (x:Ab),args[i]?=some x→Aj w (fun b=>b<lo) x (c6 i)):=Hz e6;have E7:Hid (∀ (i:Nat) (p:Ak) (x:Ab),arms[i]?=some (p,x)→Bd w (fun b=>b<lo) p (cp i)):=Hz e7;have E8:Hid (∀ (i:Nat) (p:Ak) (x:Ab),arms[i]?=some (p,x)→Aj w (fun b=>b<lo) x (ce i)):=Hz e8;have HD:=Hz hD;have HS:=Hz hs;have hpn:=Aa hs.a;have hpn2:=Aa hs.f;have HOK:=Hz hok;have HN:=Hz hN;have hdn:(0:Int)≤D:=by omega
 have hdx:D≤1099511627776:=by omega
 have HDQ:Hid (IntKind.i64.wrap (D+1)=D+1):=Hz (IntWalk.i64_in _ (by omega));have hm6:(args.length:Int)≤4611686018427387903:=by have:args.length≤B1 args:=Te args;omega
 have hm7:(arms.length:Int)≤4611686018427387903:=by have:arms.length≤Cd arms:=Td arms;omega
 clear ih h5 e5 h6 e6 h7 e7 e8 hs hok hD hN hsz;generalize hR:(if ((Bm most) σ (a,d)).2=true then goL (Bm most) ((Bm most) σ (a,d)).1 (C5 args (d+1)++B9 arms (d+1))else (((Bm most) σ (a,d)).1,false))=R;have HR:=Hz hR;clear hR;go_enter func52,ntmps52;go_wp2_with fail;have f0:Fr [] w (w.alloc (.cells #[vI k,vI a,vS nm,vI n,vS s,v5,.slice A6 args.length cc6,.slice A7 arms.length cc7] 35)):=(Fr.refl [] w).alloc _;have q0:=Ad w (.cells #[vI k,vI a,vS nm,vI n,vS s,v5,.slice A6 args.length cc6,.slice A7 arms.length cc7] 35)
 generalize w.alloc (.cells #[vI k,vI a,vS nm,vI n,vS s,v5,.slice A6 args.length cc6,.slice A7 arms.length cc7] 35)=w1 at *
 have hT1:=Aa q0
 generalize hT:w.heap.size=T at *
 refine(eachD pm pa pf most σ a D d HD.out w1 (HS.out.fr f0) HOK.out).mono ?_;rintro e w2 ⟨rfl,hs2,f2⟩;have q0:=f2.keep q0 (by simp;omega);have f2:=(f0.mono (L':=[pa,pf]) (fun x hx=>by cases hx)).trans f2
 cases hb1:((Bm most) σ (a,d)).2 with
 | false =>
  go_wp2_with fail;go_ret;have e:R=(((Bm most) σ (a,d)).1,false):=by rw[← HR.out,if_neg (by rw[hb1];decide)]
  rw[e]
  exact⟨rfl,hs2,f2⟩
 | true =>
  have HG:Hid (R=goL (Bm most) ((Bm most) σ (a,d)).1 (C5 (args.drop 0) (d+1)++B9 arms (d+1))):=Hz (by rw[← HR.out,if_pos hb1];rfl);have hok2:Hid (((Bm most) σ (a,d)).1.2=false):=Hz (Ug HOK.out hb1);clear hb1 HR;have hTx:=Aa q0;obtain⟨⟨l0,l1,l2,l3,l4,l5,l6,l7⟩,_⟩:=Ac q0;go_wp2_with fail;clear l0 l1 l2 l3 l4 l5 l6 l7
  go_loopw [20] (fun iv wr=>∃ (i:Nat) (τ:(Int×Bool)),iv=vI i∧i≤args.length∧DS pm pa pf most τ wr∧Hid (τ.2=false)∧Fr [pa,pf] w wr∧wr.heap[T]?=some (.cells #[vI k,vI a,vS nm,vI n,vS s,v5,.slice A6 args.length cc6,.slice A7 arms.length cc7] 35 (0,0))∧Hid (R=goL (Bm most) τ (C5 (args.drop i) (d+1)++B9 arms (d+1)))) (fun iv wr=>args.length-(intOf iv).toNat)
  case atStart=>exact⟨0,_,rfl,by omega,hs2,hok2,f2,q0,HG⟩
  case round =>
   obtain⟨i,τ,rfl,hi,hs,hok,f,q0',HG⟩:=hrel;clear hok2 hs2 f2 q0 hTx;have q0:=q0';clear q0';have hTw:=Aa q0;by_cases hlt:i<args.length
   ·obtain⟨y,hy⟩:∃ y,args[i]?=some y:=⟨args[i],Lg' hlt⟩
    have HY:=Hz hy;clear hy;have hyx:=E6.out i y HY.out
    rcases H6.out with⟨_,_,_,hl⟩| ⟨g,og,c',hv,hg,hgs,_,hcs⟩
    ·omega
    ·cases hv;obtain⟨hcl,hcc⟩:=hcs i hlt;have hcell:∀ (j:Nat) (v:Value),(c6 i)[j]?=some v→wr.cell? ⟨g,og+i * 8+j,none⟩=some v:=fun j v hj=>(f.cell (p:=⟨g,og+i * 8+j,none⟩) hgs (by simp;omega)).trans (hcc j v hj)
     have hgw:g<wr.heap.size:=Nl' hgs (by have:=f.size;omega)
     generalize hci:c6 i=ci at *
     have hyw:=hyx.keep (w':=wr) (ok':=fun b=>b<lo) (Sh.of_fr f (fun b hb hlt=>⟨hb,by simp;omega⟩))
     cases hyx with
     | @mk k2 a2 nm2 n2 s2 ls2 args2 arms2 v52 v62 v72 c52 c62 cp2 ce2 h52 e52 h62 e62 h72 e72 e82 =>
     have hf:∃ A m cc,v52 = .slice A m cc:=by obtain⟨_,_,hv⟩:=h52.form;exact⟨_,_,_,hv⟩
     obtain⟨A52,m52,cc52,rfl⟩:=hf;have hf:∃ A m cc,v62 = .slice A m cc:=by obtain⟨_,_,hv⟩:=h62.form;exact⟨_,_,_,hv⟩
     obtain⟨A62,m62,cc62,rfl⟩:=hf;have hf:∃ A m cc,v72 = .slice A m cc:=by obtain⟨_,_,hv⟩:=h72.form;exact⟨_,_,_,hv⟩
     obtain⟨A72,m72,cc72,rfl⟩:=hf;clear h52 e52 h62 e62 h72 e72 e82;have x0:wr.cell? ⟨g,og+i * 8,none⟩=some (vI k2):=hcell 0 _ rfl;have x1:wr.cell? ⟨g,og+i * 8+1,none⟩=some (vI a2):=hcell 1 _ rfl;have x2:wr.cell? ⟨g,og+i * 8+2,none⟩=some (vS nm2):=hcell 2 _ rfl;have x3:wr.cell? ⟨g,og+i * 8+3,none⟩=some (vI n2):=hcell 3 _ rfl;have x4:wr.cell? ⟨g,og+i * 8+4,none⟩=some (vS s2):=hcell 4 _ rfl;have x5:wr.cell? ⟨g,og+i * 8+5,none⟩=some (.slice A52 m52 cc52):=hcell 5 _ rfl;have x6:wr.cell? ⟨g,og+i * 8+6,none⟩=some (.slice A62 m62 cc62):=hcell 6 _ rfl;have x7:wr.cell? ⟨g,og+i * 8+7,none⟩=some (.slice A72 m72 cc72):=hcell 7 _ rfl;have hsz2:=Et HY.out;have cP:=fun W (hW:Fr [] wr W)=>Hz (IH.out k2 a2 nm2 n2 s2 ls2 args2 arms2 (.slice A52 m52 cc52) (.slice A62 m62 cc62) (.slice A72 m72 cc72) (d+1) (D+1) W τ (by have:=HN.out;omega) (by rw[HD.out];simp) (by omega) (by have:=f.size;have:=hW.size;omega) (hyw.keep (Sh.of_fr hW (fun b hb hlt=>⟨hb,fun x=>by cases x⟩))) (hs.fr hW) hok.out)
     have hDQ:=HDQ.out;clear hcell hci hcc hcs hcl hyw hg;have q1:(0:Int)≤(i:Int):=by omega
     have q2:(i:Int)<(args.length:Int):=by omega
     have q0:=Hz q0;go_wp2_with fail;have fb:Fr [] wr (wr.alloc (.cells #[vI k2,vI a2,vS nm2,vI n2,vS s2,.slice A52 m52 cc52,.slice A62 m62 cc62,.slice A72 m72 cc72] 35)):=(Fr.refl [] wr).alloc _;refine(cP _ fb).out.mono ?_;rintro e w3 ⟨rfl,hs3,f3⟩;clear x0 x1 x2 x3 x4 x5 x6 x7 cP hDQ;have q0:=f3.keep (Af q0.out (.cells #[vI k2,vI a2,vS nm2,vI n2,vS s2,.slice A52 m52 cc52,.slice A62 m62 cc62,.slice A72 m72 cc72] 35)) (by simp;omega);have f3:=(fb.mono (L':=[pa,pf]) (fun x hx=>by cases hx)).trans f3;have f4:=f.trans f3
     cases hb2:(goL (Bm most) τ (Bw (.mk k2 a2 nm2 n2 s2 ls2 args2 arms2) (d+1))).2 with
     | false =>
      go_wp2_with fail;go_ret;have e:R=((goL (Bm most) τ (Bw (.mk k2 a2 nm2 n2 s2 ls2 args2 arms2) (d+1))).1,false):=by rw[HG.out,Hf HY.out,Ls',Eo,if_neg (by rw[hb2];decide)]
      rw[e]
      exact⟨rfl,hs3,f4⟩
     | true =>
      have HG2:Hid (R=goL (Bm most) (goL (Bm most) τ (Bw (.mk k2 a2 nm2 n2 s2 ls2 args2 arms2) (d+1))).1 (C5 (args.drop (i+1)) (d+1)++B9 arms (d+1))):=Hz (by rw[HG.out,Hf HY.out,Ls',Eo,if_pos hb2]);have hok3:Hid ((goL (Bm most) τ (Bw (.mk k2 a2 nm2 n2 s2 ls2 args2 arms2) (d+1))).1.2=false):=Hz (Oh hok.out hb2);clear hb2 HG hok;have q0:=Hz q0;go_wp2_with fail
      go_roundw
      case rel=>exact⟨i+1,_,by simp,by omega,hs3,hok3,f4,q0.out,HG2⟩
      case measure=>simp[intOf];omega
   ·have ei:i=args.length:=by omega
    subst ei;obtain⟨⟨l0,l1,l2,l3,l4,l5,l6,l7⟩,_⟩:=Ac q0;have HG2:Hid (R=goL (Bm most) τ (B9 (arms.drop 0) (d+1))):=Hz (by rw[HG.out,List.drop_length];simp[C5]);clear HG q0;go_wp2_with fail;clear l0 l1 l2 l3 l4 l5 l6 l7
    go_loopw [34] (fun iv wr=>∃ (i:Nat) (τ:(Int×Bool)),iv=vI i∧i≤arms.length∧DS pm pa pf most τ wr∧Hid (τ.2=false)∧Fr [pa,pf] w wr∧Hid (R=goL (Bm most) τ (B9 (arms.drop i) (d+1)))) (fun iv wr=>arms.length-(intOf iv).toNat)
    case atStart=>exact⟨0,_,rfl,by omega,hs,hok,f,HG2⟩
    case round =>
     clear HG2 hs hok hTw f;obtain⟨i,τ',rfl,hi',hs,hok,f,HG⟩:=hrel;by_cases hlt:i<arms.length
     ·obtain⟨p,y,hy⟩:∃ p y,arms[i]?=some (p,y):=⟨(arms[i]).1,(arms[i]).2,Lg' hlt⟩
      have HY:=Hz hy;clear hy;have hpx:=E7.out i p y HY.out;have hyx:=E8.out i p y HY.out
      rcases H7.out with⟨_,_,_,hl⟩| ⟨g,og,c',hv,hg,hgs,_,hcs⟩
      ·omega
      ·cases hv;obtain⟨hcl,hcc⟩:=hcs i hlt;have hcell:∀ (j:Nat) (v:Value),(cp i++ce i)[j]?=some v→wr.cell? ⟨g,og+i * 15+j,none⟩=some v:=fun j v hj=>(f.cell (p:=⟨g,og+i * 15+j,none⟩) hgs (by simp;omega)).trans (hcc j v hj)
       have hgw:g<wr.heap.size:=Nl' hgs (by have:=f.size;omega);clear hcc hcs
       generalize hci:cp i=ci at *
       generalize hce:ce i=cj at *
       have hyw:=hyx.keep (w':=wr) (ok':=fun b=>b<lo) (Sh.of_fr f (fun b hb hlt=>⟨hb,by simp;omega⟩));have hpw:=hpx.keep (w':=wr) (ok':=fun b=>b<lo) (Sh.of_fr f (fun b hb hlt=>⟨hb,by simp;omega⟩))
       cases hpx with
       | @mk k3 a3 nm3 n3 s3 ls3 args3 v53 v63 c53 c63 h53 e53 h63 e63 =>
       cases hyx with
       | @mk k2 a2 nm2 n2 s2 ls2 args2 arms2 v52 v62 v72 c52 c62 cp2 ce2 h52 e52 h62 e62 h72 e72 e82 =>
       have hf:∃ A m cc,v53 = .slice A m cc:=by obtain⟨_,_,hv⟩:=h53.form;exact⟨_,_,_,hv⟩
       obtain⟨A53,m53,cc53,rfl⟩:=hf;have hf:∃ A m cc,v63 = .slice A m cc:=by obtain⟨_,_,hv⟩:=h63.form;exact⟨_,_,_,hv⟩
       obtain⟨A63,m63,cc63,rfl⟩:=hf;have hf:∃ A m cc,v52 = .slice A m cc:=by obtain⟨_,_,hv⟩:=h52.form;exact⟨_,_,_,hv⟩
       obtain⟨A52,m52,cc52,rfl⟩:=hf;have hf:∃ A m cc,v62 = .slice A m cc:=by obtain⟨_,_,hv⟩:=h62.form;exact⟨_,_,_,hv⟩
       obtain⟨A62,m62,cc62,rfl⟩:=hf;have hf:∃ A m cc,v72 = .slice A m cc:=by obtain⟨_,_,hv⟩:=h72.form;exact⟨_,_,_,hv⟩
       obtain⟨A72,m72,cc72,rfl⟩:=hf;clear h52 e52 h62 e62 h72 e72 e82 h53 e53 h63 e63;have x0:wr.cell? ⟨g,og+i * 15,none⟩=some (vI k3):=hcell 0 _ rfl;have x1:wr.cell? ⟨g,og+i * 15+1,none⟩=some (vI a3):=hcell 1 _ rfl;have x2:wr.cell? ⟨g,og+i * 15+2,none⟩=some (vS nm3):=hcell 2 _ rfl;have x3:wr.cell? ⟨g,og+i * 15+3,none⟩=some (vI n3):=hcell 3 _ rfl;have x4:wr.cell? ⟨g,og+i * 15+4,none⟩=some (vS s3):=hcell 4 _ rfl;have x5:wr.cell? ⟨g,og+i * 15+5,none⟩=some (.slice A53 m53 cc53):=hcell 5 _ rfl;have x6:wr.cell? ⟨g,og+i * 15+6,none⟩=some (.slice A63 m63 cc63):=hcell 6 _ rfl;have x7:wr.cell? ⟨g,og+i * 15+7,none⟩=some (vI k2):=hcell 7 _ rfl;have x8:wr.cell? ⟨g,og+i * 15+8,none⟩=some (vI a2):=hcell 8 _ rfl;have x9:wr.cell? ⟨g,og+i * 15+9,none⟩=some (vS nm2):=hcell 9 _ rfl;have x10:wr.cell? ⟨g,og+i * 15+10,none⟩=some (vI n2):=hcell 10 _ rfl;have x11:wr.cell? ⟨g,og+i * 15+11,none⟩=some (vS s2):=hcell 11 _ rfl;have x12:wr.cell? ⟨g,og+i * 15+12,none⟩=some (.slice A52 m52 cc52):=hcell 12 _ rfl;have x13:wr.cell? ⟨g,og+i * 15+13,none⟩=some (.slice A62 m62 cc62):=hcell 13 _ rfl;have x14:wr.cell? ⟨g,og+i * 15+14,none⟩=some (.slice A72 m72 cc72):=hcell 14 _ rfl;have hsz2:=Fd HY.out;have cP:=fun W (hW:Fr [] wr W)=>Hz (Rt pm pa pf most lo hl hl2 (szP (.mk k3 a3 nm3 n3 s3 ls3 args3)+1) k3 a3 nm3 n3 s3 ls3 args3 (.slice A53 m53 cc53) (.slice A63 m63 cc63) (d+1) (D+1) W τ' (by omega) (by rw[HD.out];simp) (by omega) (by have:=f.size;have:=hW.size;omega) (hpw.keep (Sh.of_fr hW (fun b hb hlt=>⟨hb,fun x=>by cases x⟩))) (hs.fr hW) hok.out)
       have cE:=fun W (hW:Fr [pa,pf] wr W) τ2 (hs2:DS pm pa pf most τ2 W) (hok2:τ2.2=false)=>Hz (IH.out k2 a2 nm2 n2 s2 ls2 args2 arms2 (.slice A52 m52 cc52) (.slice A62 m62 cc62) (.slice A72 m72 cc72) (d+1) (D+1) W τ2 (by have:=HN.out;omega) (by rw[HD.out];simp) (by omega) (by have:=f.size;have:=hW.size;omega) (hyw.keep (Sh.of_fr hW (fun b hb hlt=>⟨hb,by simp;omega⟩))) hs2 hok2)
       have hDQ:=HDQ.out;clear hcell hci hce hcl hyw hpw hg;have q1:(0:Int)≤(i:Int):=by omega
       have q2:(i:Int)<(arms.length:Int):=by omega
       go_wp2_with fail;have fb:Fr [] wr (wr.alloc (.cells #[vI k3,vI a3,vS nm3,vI n3,vS s3,.slice A53 m53 cc53,.slice A63 m63 cc63,vI k2,vI a2,vS nm2,vI n2,vS s2,.slice A52 m52 cc52,.slice A62 m62 cc62,.slice A72 m72 cc72] 46)):=(Fr.refl [] wr).alloc _;have qb:=Ad wr (.cells #[vI k3,vI a3,vS nm3,vI n3,vS s3,.slice A53 m53 cc53,.slice A63 m63 cc63,vI k2,vI a2,vS nm2,vI n2,vS s2,.slice A52 m52 cc52,.slice A62 m62 cc62,.slice A72 m72 cc72] 46);have hTb:wr.heap.size<(wr.alloc (.cells #[vI k3,vI a3,vS nm3,vI n3,vS s3,.slice A53 m53 cc53,.slice A63 m63 cc63,vI k2,vI a2,vS nm2,vI n2,vS s2,.slice A52 m52 cc52,.slice A62 m62 cc62,.slice A72 m72 cc72] 46)).heap.size:=Aa qb;refine(cP _ fb).out.mono ?_;rintro e w3 ⟨rfl,hs3,f3⟩;clear cP x0 x1 x2 x3 x4 x5 x6 x7 x8 x9 x10 x11 x12 x13 x14;have qb:=f3.keep qb (by simp;have:=f.size;omega);have f3:=(fb.mono (L':=[pa,pf]) (fun x hx=>by cases hx)).trans f3;have f4:=f.trans f3;have hTb3:=Aa qb
       have M15:w3.cell? ⟨wr.heap.size,0,none⟩=some (vI k3)∧w3.cell? ⟨wr.heap.size,1,none⟩=some (vI a3)∧w3.cell? ⟨wr.heap.size,2,none⟩=some (vS nm3)∧w3.cell? ⟨wr.heap.size,3,none⟩=some (vI n3)∧w3.cell? ⟨wr.heap.size,4,none⟩=some (vS s3)∧w3.cell? ⟨wr.heap.size,5,none⟩=some (.slice A53 m53 cc53)∧w3.cell? ⟨wr.heap.size,6,none⟩=some (.slice A63 m63 cc63)∧w3.cell? ⟨wr.heap.size,7,none⟩=some (vI k2)∧w3.cell? ⟨wr.heap.size,8,none⟩=some (vI a2)∧w3.cell? ⟨wr.heap.size,9,none⟩=some (vS nm2)∧w3.cell? ⟨wr.heap.size,10,none⟩=some (vI n2)∧w3.cell? ⟨wr.heap.size,11,none⟩=some (vS s2)∧w3.cell? ⟨wr.heap.size,12,none⟩=some (.slice A52 m52 cc52)∧w3.cell? ⟨wr.heap.size,13,none⟩=some (.slice A62 m62 cc62)∧w3.cell? ⟨wr.heap.size,14,none⟩=some (.slice A72 m72 cc72):=⟨Ae qb 0,Ae qb 1,Ae qb 2,Ae qb 3,Ae qb 4,Ae qb 5,Ae qb 6,Ae qb 7,Ae qb 8,Ae qb 9,Ae qb 10,Ae qb 11,Ae qb 12,Ae qb 13,Ae qb 14⟩
       obtain⟨m0,m1,m2,m3,m4,m5,m6,m7,m8,m9,m10,m11,m12,m13,m14⟩:=M15
       cases hb2:(goL (Bm most) τ' (Bz (.mk k3 a3 nm3 n3 s3 ls3 args3) (d+1))).2 with
       | false =>
        go_wp2_with fail;go_ret;have e:R=((goL (Bm most) τ' (Bz (.mk k3 a3 nm3 n3 s3 ls3 args3) (d+1))).1,false):=by rw[HG.out,He HY.out,Eo,if_neg (by rw[hb2];decide)]
        rw[e]
        exact⟨rfl,hs3,f4⟩
       | true =>
        have hok3:Hid ((goL (Bm most) τ' (Bz (.mk k3 a3 nm3 n3 s3 ls3 args3) (d+1))).1.2=false):=Hz (Oh hok.out hb2);have HG2:Hid (R=goL (Bm most) (goL (Bm most) τ' (Bz (.mk k3 a3 nm3 n3 s3 ls3 args3) (d+1))).1 (Bw (.mk k2 a2 nm2 n2 s2 ls2 args2 arms2) (d+1)++B9 (arms.drop (i+1)) (d+1))):=Hz (by rw[HG.out,He HY.out,Eo,if_pos hb2]);clear hb2;go_wp2_with fail;refine(cE _ f3 _ hs3 hok3.out).out.mono ?_;rintro e w4 ⟨rfl,hs4,f5⟩;clear m0 m1 m2 m3 m4 m5 m6 m7 m8 m9 m10 m11 m12 m13 m14 cE hDQ;have f6:=f4.trans f5
        cases hb3:(goL (Bm most) (goL (Bm most) τ' (Bz (.mk k3 a3 nm3 n3 s3 ls3 args3) (d+1))).1 (Bw (.mk k2 a2 nm2 n2 s2 ls2 args2 arms2) (d+1))).2 with
        | false =>
         go_wp2_with fail;go_ret;have e:R=((goL (Bm most) (goL (Bm most) τ' (Bz (.mk k3 a3 nm3 n3 s3 ls3 args3) (d+1))).1 (Bw (.mk k2 a2 nm2 n2 s2 ls2 args2 arms2) (d+1))).1,false):=by rw[HG2.out,Eo,if_neg (by rw[hb3];decide)]
         rw[e]
         exact⟨rfl,hs4,f6⟩
        | true =>
         have hok4:Hid ((goL (Bm most) (goL (Bm most) τ' (Bz (.mk k3 a3 nm3 n3 s3 ls3 args3) (d+1))).1 (Bw (.mk k2 a2 nm2 n2 s2 ls2 args2 arms2) (d+1))).1.2=false):=Hz (Oh hok3.out hb3);have HG3:Hid (R=goL (Bm most) (goL (Bm most) (goL (Bm most) τ' (Bz (.mk k3 a3 nm3 n3 s3 ls3 args3) (d+1))).1 (Bw (.mk k2 a2 nm2 n2 s2 ls2 args2 arms2) (d+1))).1 (B9 (arms.drop (i+1)) (d+1))):=Hz (by rw[HG2.out,Eo,if_pos hb3]);clear hb3 HG2 HG hok3 hok;go_wp2_with fail
         go_roundw
         case rel=>exact⟨i+1,_,by simp,by omega,hs4,hok4,f6,HG3⟩
         case measure=>simp[intOf];omega
     ·have ei:i=arms.length:=by omega
      subst ei;go_wp2_with fail;go_ret;have e:R=(τ',true):=by rw[HG.out,List.drop_length];simp[B9,goL]
      rw[e];exact⟨rfl,hs,f⟩
theorem R8(pm pa pf:Nat)(most:Int)(lo:Nat)(hl:lo≤pa)(hl2:lo≤pf):∀ N,WTD pm pa pf most lo N
 | 0=>fun _ _ _ _ _ _ _ _ _ _ _ _ _ _ _ h=>absurd h (Nat.not_lt_zero _)
 | N+1=>X4 pm pa pf most lo hl hl2 N (R8 pm pa pf most lo hl hl2 N)
theorem Mg(k a:Int)(nm:LB)(n:Int)(s:LB)(ls:List LB)(args:List Ab)(arms:List (Ak×Ab))(A5:Option Addr)(m5 cc5:Nat)(A6:Option Addr)(m6 cc6:Nat)(A7:Option Addr)(m7 cc7:Nat)(most:Int)(hm0:0≤most)(hm1:most≤1099511627776)(w:World)(hx:Aj w (fun b=>b<w.heap.size) (.mk k a nm n s ls args arms) [vI k,vI a,vS nm,vI n,vS s,.slice A5 m5 cc5,.slice A6 m6 cc6,.slice A7 m7 cc7])(hsz:szE (.mk k a nm n s ls args arms)≤1099511627775):
  Calls prog 27 #[.agg #[vI k,vI a,vS nm,vI n,vS s,.slice A5 m5 cc5,.slice A6 m6 cc6,.slice A7 m7 cc7],vI most] w fun e w'=>e = .returned (vI (min (szE (.mk k a nm n s ls args arms):Int) (most+1)))∧Fr [] w w':=by
 have hG:goL (C1 most) 0 (Bw (.mk k a nm n s ls args arms) 1)=(min (szE (.mk k a nm n s ls args arms):Int) (most+1),decide ((szE (.mk k a nm n s ls args arms):Int)≤most)):=by
  rw[cnt_go most _ 0 hm0,Hx];simp
 have HX:=Hz hx;have HSZ:=Hz hsz;have HG:=Hz hG;have cW:=fun lo N pn pm hl=>Hz (R7 pn pm most lo hl N k a nm n s ls args arms (.slice A5 m5 cc5) (.slice A6 m6 cc6) (.slice A7 m7 cc7) 1 1)
 generalize min (szE (.mk k a nm n s ls args arms):Int) (most+1)=R at *
 clear hx hsz hG;go_enter func27,ntmps27;go_wp2_with fail
 have f0:Fr [] w (((w.alloc (.cells #[vI k,vI a,vS nm,vI n,vS s,.slice A5 m5 cc5,.slice A6 m6 cc6,.slice A7 m7 cc7] 35)).alloc (.cells #[vI most] 3)).alloc (.cells #[vI 0] 3)):=((((Fr.refl [] w).alloc _).alloc _).alloc _)
 have s1:(w.alloc (.cells #[vI k,vI a,vS nm,vI n,vS s,.slice A5 m5 cc5,.slice A6 m6 cc6,.slice A7 m7 cc7] 35)).heap.size=w.heap.size+1:=by simp
 have s2:((w.alloc (.cells #[vI k,vI a,vS nm,vI n,vS s,.slice A5 m5 cc5,.slice A6 m6 cc6,.slice A7 m7 cc7] 35)).alloc (.cells #[vI most] 3)).heap.size=w.heap.size+2:=by simp
 have hpm:=Af (Ad (w.alloc (.cells #[vI k,vI a,vS nm,vI n,vS s,.slice A5 m5 cc5,.slice A6 m6 cc6,.slice A7 m7 cc7] 35)) (.cells #[vI most] 3)) (.cells #[vI 0] 3);have hpn:=Ad ((w.alloc (.cells #[vI k,vI a,vS nm,vI n,vS s,.slice A5 m5 cc5,.slice A6 m6 cc6,.slice A7 m7 cc7] 35)).alloc (.cells #[vI most] 3)) (.cells #[vI 0] 3);rw[s1] at hpm;rw[s2] at hpn
 have hCS:CS (w.heap.size+2) (w.heap.size+1) most 0 (((w.alloc (.cells #[vI k,vI a,vS nm,vI n,vS s,.slice A5 m5 cc5,.slice A6 m6 cc6,.slice A7 m7 cc7] 35)).alloc (.cells #[vI most] 3)).alloc (.cells #[vI 0] 3)):=⟨hpn,hpm,by omega,hm1,by omega⟩
 have hxx:=HX.out.keep (w':=((w.alloc (.cells #[vI k,vI a,vS nm,vI n,vS s,.slice A5 m5 cc5,.slice A6 m6 cc6,.slice A7 m7 cc7] 35)).alloc (.cells #[vI most] 3)).alloc (.cells #[vI 0] 3)) (ok':=fun b=>b<w.heap.size) (Sh.of_fr f0 (fun b hb hlt=>⟨hb,fun x=>by cases x⟩));refine(cW w.heap.size (szE (.mk k a nm n s ls args arms)+1) (w.heap.size+2) (w.heap.size+1) (by omega)).out _ 0 (by omega) rfl (by have:=HSZ.out;omega) f0.size hxx hCS hm0 |>.mono ?_
 rintro e w2 ⟨rfl,hs2,f2⟩;rw[HG.out] at hs2;have c0:=Ae hs2.n 0;have hl2:=Aa hs2.n;go_wp2_with fail;go_ret;exact⟨rfl,f0.step f2 (fun x hx => .inr (by simp at hx;omega))⟩
def Dz(most:Int)(x:Ab):Option (Int×Nat):=(Bw x 1).find? (fun p=>decide (most<(p.2:Int)))
theorem Oq(k a:Int)(nm:LB)(n:Int)(s:LB)(ls:List LB)(args:List Ab)(arms:List (Ak×Ab))(A5:Option Addr)(m5 cc5:Nat)(A6:Option Addr)(m6 cc6:Nat)(A7:Option Addr)(m7 cc7:Nat)(most:Int)(w:World)(hx:Aj w (fun b=>b<w.heap.size) (.mk k a nm n s ls args arms) [vI k,vI a,vS nm,vI n,vS s,.slice A5 m5 cc5,.slice A6 m6 cc6,.slice A7 m7 cc7])(hsz:szE (.mk k a nm n s ls args arms)≤1099511627775):
  Calls prog 28 #[.agg #[vI k,vI a,vS nm,vI n,vS s,.slice A5 m5 cc5,.slice A6 m6 cc6,.slice A7 m7 cc7],vI most] w fun e w'=>(e=match Dz most (.mk k a nm n s ls args arms)with
   | some p => .returned (.tuple #[vI p.1,.bool true])
   | none => .returned (.tuple #[vI 0,.bool false]))∧Fr [] w w':=by
 have hG0:=Yg most (Bw (.mk k a nm n s ls args arms) 1) 0;have HX:=Hz hx;have HSZ:=Hz hsz;have cW:=fun lo N pm pa pf hl hl2=>Hz (R8 pm pa pf most lo hl hl2 N k a nm n s ls args arms (.slice A5 m5 cc5) (.slice A6 m6 cc6) (.slice A7 m7 cc7) 1 1)
 have key:∃ (ra:Int) (rf:Bool),(goL (Bm most) (0,false) (Bw (.mk k a nm n s ls args arms) 1)).1=(ra,rf)∧(match Dz most (.mk k a nm n s ls args arms)with
   | some p=>Ending.returned (.tuple #[vI p.1,.bool true])
   | none => .returned (.tuple #[vI 0,.bool false]))= .returned (.tuple #[vI ra,.bool rf]):=by
  unfold Dz;rw[hG0]
  cases (Bw (.mk k a nm n s ls args arms) 1).find? (fun p=>decide (most<(p.2:Int)))with
  | none=>exact⟨_,_,rfl,rfl⟩
  | some p=>exact⟨_,_,rfl,rfl⟩
 obtain⟨ra,rf,hG,hM⟩:=key;rw[hM];have HG:=Hz hG;clear hx hsz hG hM hG0;go_enter func28,ntmps28;go_wp2_with fail;have f0:Fr [] w ((((w.alloc (.cells #[vI k,vI a,vS nm,vI n,vS s,.slice A5 m5 cc5,.slice A6 m6 cc6,.slice A7 m7 cc7] 35)).alloc (.cells #[vI most] 3)).alloc (.cells #[vI 0] 3)).alloc (.cells #[.bool false] 4)):=((((Fr.refl [] w).alloc _).alloc _).alloc _).alloc _;have s1:(w.alloc (.cells #[vI k,vI a,vS nm,vI n,vS s,.slice A5 m5 cc5,.slice A6 m6 cc6,.slice A7 m7 cc7] 35)).heap.size=w.heap.size+1:=by simp
 have s2:((w.alloc (.cells #[vI k,vI a,vS nm,vI n,vS s,.slice A5 m5 cc5,.slice A6 m6 cc6,.slice A7 m7 cc7] 35)).alloc (.cells #[vI most] 3)).heap.size=w.heap.size+2:=by simp
 have s3:(((w.alloc (.cells #[vI k,vI a,vS nm,vI n,vS s,.slice A5 m5 cc5,.slice A6 m6 cc6,.slice A7 m7 cc7] 35)).alloc (.cells #[vI most] 3)).alloc (.cells #[vI 0] 3)).heap.size=w.heap.size+3:=by simp
 have hpm:=Af (Af (Ad (w.alloc (.cells #[vI k,vI a,vS nm,vI n,vS s,.slice A5 m5 cc5,.slice A6 m6 cc6,.slice A7 m7 cc7] 35)) (.cells #[vI most] 3)) (.cells #[vI 0] 3)) (.cells #[.bool false] 4);have hpa:=Af (Ad ((w.alloc (.cells #[vI k,vI a,vS nm,vI n,vS s,.slice A5 m5 cc5,.slice A6 m6 cc6,.slice A7 m7 cc7] 35)).alloc (.cells #[vI most] 3)) (.cells #[vI 0] 3)) (.cells #[.bool false] 4);have hpf:=Ad (((w.alloc (.cells #[vI k,vI a,vS nm,vI n,vS s,.slice A5 m5 cc5,.slice A6 m6 cc6,.slice A7 m7 cc7] 35)).alloc (.cells #[vI most] 3)).alloc (.cells #[vI 0] 3)) (.cells #[.bool false] 4);rw[s1] at hpm;rw[s2] at hpa;rw[s3] at hpf
 have hDS:DS (w.heap.size+1) (w.heap.size+2) (w.heap.size+3) most (0,false) ((((w.alloc (.cells #[vI k,vI a,vS nm,vI n,vS s,.slice A5 m5 cc5,.slice A6 m6 cc6,.slice A7 m7 cc7] 35)).alloc (.cells #[vI most] 3)).alloc (.cells #[vI 0] 3)).alloc (.cells #[.bool false] 4)):=⟨hpm,hpa,hpf,by omega,by omega,by omega⟩
 have hxx:=HX.out.keep (w':=(((w.alloc (.cells #[vI k,vI a,vS nm,vI n,vS s,.slice A5 m5 cc5,.slice A6 m6 cc6,.slice A7 m7 cc7] 35)).alloc (.cells #[vI most] 3)).alloc (.cells #[vI 0] 3)).alloc (.cells #[.bool false] 4)) (ok':=fun b=>b<w.heap.size) (Sh.of_fr f0 (fun b hb hlt=>⟨hb,fun x=>by cases x⟩));refine(cW w.heap.size (szE (.mk k a nm n s ls args arms)+1) (w.heap.size+1) (w.heap.size+2) (w.heap.size+3) (by omega) (by omega)).out _ (0,false) (by omega) rfl (by have:=HSZ.out;omega) f0.size hxx hDS rfl |>.mono ?_
 rintro e w2 ⟨rfl,hs2,f2⟩;rw[HG.out] at hs2
 generalize (goL (Bm most) (0,false) (Bw (.mk k a nm n s ls args arms) 1)).2=RB at *
 have c0:w2.cell? ⟨w.heap.size+2,0,none⟩=some (vI ra):=Ae hs2.a 0;have c1:w2.cell? ⟨w.heap.size+3,0,none⟩=some (.bool rf):=Ae hs2.f 0;have hl2:=Aa hs2.a;have hl3:=Aa hs2.f;go_wp2_with fail;go_quiet (fail);go_wp2_with fail;go_ret2;exact⟨rfl,(f0.step f2 (fun x hx => .inr (by simp at hx;omega))).drewN _⟩
theorem and_step(ts:List Tok)(hE:B8 ts)(N:Nat)(ih:Fo ts N):GE ts (N+1) 10 .and 149:=by
 intro P g c st w h hm;have H:=Hz h;have hP:=Aa h.blk;have hgl:=h.lt;have hin:=h.inb;have HN:=Hz hm;have HE:=Hz hE;have IH:=Hz ih;clear h hm hE ih;go_enter func149,ntmps149;go_wp2_with fail;have f0:Fr [] w (w.alloc (.cells #[vI 0,vI 0,vE,vI 0,vE,vZ,vZ,vZ] 35)):=(Fr.refl [] w).alloc _;have g0:=Ad w (.cells #[vI 0,vI 0,vE,vI 0,vE,vZ,vZ,vZ] 35)
 generalize w.alloc (.cells #[vI 0,vI 0,vE,vI 0,vE,vZ,vZ,vZ] 35)=w1 at *
 generalize hB:w.heap.size=B at *
 have hB1:=Aa g0;have nP:¬ P=B:=by omega
 have nB:¬ B=P:=by omega
 have ng:¬ g=B:=by omega
 refine(IH.out.cmp P g c st w1 (H.out.fr f0) (by have:=HN.out;omega)).mono ?_;rintro e x1 ⟨k1,a1,nm1,n1,s1,ls1,args1,arms1,A51,n51,c51,A61,n61,c61,A71,n71,c71,st1,rfl,hx1,hr1,hst1,f1⟩;have g0:=f1.keep g0 (by simpa using nB);have hs1:=f1.size;have F1:Fr [P] w x1:=(f0.mono (fun x hx=>by cases hx)).trans f1;go_wp2_with fail;have q1:=Ad x1 (.cells #[vI k1,vI a1,vS nm1,vI n1,vS s1,.slice A51 n51 c51,.slice A61 n61 c61,.slice A71 n71 c71] 35);have fb1:Fr [] x1 (x1.alloc (.cells #[vI k1,vI a1,vS nm1,vI n1,vS s1,.slice A51 n51 c51,.slice A61 n61 c61,.slice A71 n71 c71] 35)):=(Fr.refl [] x1).alloc _
 generalize hY1:x1.alloc (.cells #[vI k1,vI a1,vS nm1,vI n1,vS s1,.slice A51 n51 c51,.slice A61 n61 c61,.slice A71 n71 c71] 35)=x2 at *
 have hT1:=Aa q1
 generalize hTT1:x1.heap.size=T3 at *
 have g0:=fb1.keep g0 nE;have h2:=hst1.fr fb1;have F2:=F1.trans0 fb1;have hx1:=hx1.keep (ok':=fun b=>B<b∧¬ b=T3) (Sh.of_fr fb1 (fun b hb hlt=>⟨⟨by omega,by omega⟩,fun x=>by cases x⟩));obtain⟨t,ht⟩:=A4 hst1.inb;refine(B7 P g c ts st1 t ht x2 h2 HE.out).mono ?_;rintro e x3 ⟨rfl,f3⟩;go_wp2_with fail;have q4:=Ad x3 (.cells #[vI t.k,vI t.at',.string ⟨t.text.toArray⟩,vI t.n] 79);have fb4:Fr [] x3 (x3.alloc (.cells #[vI t.k,vI t.at',.string ⟨t.text.toArray⟩,vI t.n] 79)):=(Fr.refl [] x3).alloc _
 generalize hY4:x3.alloc (.cells #[vI t.k,vI t.at',.string ⟨t.text.toArray⟩,vI t.n] 79)=x4 at *
 have hT4:=Aa q4
 generalize hTT4:x3.heap.size=T4 at *
 have f4:=f3.trans fb4;have g0:=f4.keep g0 nE;have q1:=f4.keep q1 nE;have h4:=h2.fr f4;have F4:=F2.trans0 f4;have hs3:=f3.size;have hx1:=hx1.keep (ok':=fun b=>B<b∧¬ b=T3∧¬ b=T4) (Sh.of_fr f4 (fun b hb hlt=>⟨⟨hb.1,hb.2,by omega⟩,fun x=>by cases x⟩))
 cases hb:isB t st1.ok [[38,38]] with
 | false =>
  refine(may_no [38,38] P g c ts st1 t ht hb x4 h4 HE.out).mono ?_;rintro e x5 ⟨rfl,f5⟩;have g0:=f5.keep g0 nE;obtain⟨⟨l0,l1,l2,l3,l4,l5,l6,l7⟩,_⟩:=Ac (f5.keep q1 nE);have h5:=h4.fr f5;have hx1:=hx1.keep (ok':=fun b=>B<b) (Sh.of_fr f5 (fun b hb hlt=>⟨hb.1,fun x=>by cases x⟩));have HG:=Hz (Ar g0 (vI k1) (vI a1) (vS nm1) (vI n1) (vS s1) (.slice A51 n51 c51) (.slice A61 n61 c61) (.slice A71 n71 c71));have HF:=Hz ((F4.trans0 f5).step (Ai x5 B (vI k1) (vI a1) (vS nm1) (vI n1) (vS s1) (.slice A51 n51 c51) (.slice A61 n61 c61) (.slice A71 n71 c71)) (fun x hx => .inr (by simp at hx;omega)));have HP:=Hz ((h5).frL (Ai x5 B (vI k1) (vI a1) (vS nm1) (vI n1) (vS s1) (.slice A51 n51 c51) (.slice A61 n61 c61) (.slice A71 n71 c71)) (by simpa using nP) (by simpa using ng));have HX:Hid (Aj (st8 x5 B (vI k1) (vI a1) (vS nm1) (vI n1) (vS s1) (.slice A51 n51 c51) (.slice A61 n61 c61) (.slice A71 n71 c71)) (fun b=>B≤b) (.mk k1 a1 nm1 n1 s1 ls1 args1 arms1) [vI k1,vI a1,vS nm1,vI n1,vS s1,.slice A51 n51 c51,.slice A61 n61 c61,.slice A71 n71 c71]):=Hz ((hx1).keep (Sh.of_fr (Ai x5 B (vI k1) (vI a1) (vS nm1) (vI n1) (vS s1) (.slice A51 n51 c51) (.slice A61 n61 c61) (.slice A71 n71 c71)) (fun b hb hlt=>⟨by omega,by simp;omega⟩)));unfold st8 at HG HF HP HX;obtain⟨⟨u0,u1,u2,u3,u4,u5,u6,u7⟩,z0,z1,z2,z3,z4,z5,z6,z7⟩:=Ac g0;go_wp2_with fail;generalize (((((((x5.setCell ⟨B,0,none⟩ (vI k1)).setCell ⟨B,1,none⟩ (vI a1)).setCell ⟨B,2,none⟩ (vS nm1)).setCell ⟨B,3,none⟩ (vI n1)).setCell ⟨B,4,none⟩ (vS s1)).setCell ⟨B,5,none⟩ (.slice A51 n51 c51)).setCell ⟨B,6,none⟩ (.slice A61 n61 c61)).setCell ⟨B,7,none⟩ (.slice A71 n71 c71)=Z at HG HF HP HX ⊢;obtain⟨⟨d0,d1,d2,d3,d4,d5,d6,d7⟩,_⟩:=Ac HG.out;refine bodyPost_ret (v:=.agg #[vI k1,vI a1,vS nm1,vI n1,vS s1,.slice A51 n51 c51,.slice A61 n61 c61,.slice A71 n71 c71]) ?_ rfl ?_
  ·simp[results,Tryz.f149,go_sem,d0,d1,d2,d3,d4,d5,d6,d7]
  ·exact⟨_,_,_,_,_,_,_,_,_,_,_,_,_,_,_,_,_,_,rfl,by rw[hB];exact HX.out,.callE hr1 (.look ht (.may_no ht hb .retE)),HP.out,HF.out⟩
 | true =>
  refine(may_yes [38,38] P g c ts st1 t ht hb x4 h4 HE.out).mono ?_;rintro e x5 ⟨rfl,h5,f5⟩;have g0:=f5.keep g0 (by simpa using nB);have q1:=f5.keep q1 (by simp;omega);have q4:=f5.keep q4 (by simp;omega);have hs5:=f5.size;have F5:=F4.trans f5;have hx1:=hx1.keep (ok':=fun b=>B<b∧¬ b=T3∧¬ b=T4∧¬ b=P∧b<x5.heap.size) (Sh.of_fr f5 (fun b hb hlt=>⟨⟨hb.1,hb.2.1,hb.2.2,by omega,by omega⟩,by simp;omega⟩));have hle:=hr1.le;obtain⟨⟨l0,l1,l2,l3,l4,l5,l6,l7⟩,_⟩:=Ac q1;obtain⟨m0,m1,m2,m3,_⟩:=Ao q4;have cS:=fun W hW=>Hz (IH.out.and P g c ⟨st1.i+1,st1.ok⟩ W hW (by have:=HN.out;have:=h5.inb;simp only at this ⊢;omega))
  go_wp2_with fail;have n34:¬ T3=T4:=by omega
  have n3B:¬ T3=B:=by omega
  have nB3:¬ B=T3:=by omega
  have n4B:¬ T4=B:=by omega
  have nB4:¬ B=T4:=by omega
  clear fb1 fb4 f1 f3 f4 h2 h4 F1 F2 F4 hst1 IH HN H
  go_region_held3 (fun w'=>w'.cell? ⟨T4,1,none⟩=some (vI t.at')∧(w'.cell? ⟨T3,0,none⟩=some (vI k1)∧w'.cell? ⟨T3,1,none⟩=some (vI a1)∧w'.cell? ⟨T3,2,none⟩=some (vS nm1)∧w'.cell? ⟨T3,3,none⟩=some (vI n1)∧w'.cell? ⟨T3,4,none⟩=some (vS s1)∧w'.cell? ⟨T3,5,none⟩=some (.slice A51 n51 c51)∧w'.cell? ⟨T3,6,none⟩=some (.slice A61 n61 c61)∧w'.cell? ⟨T3,7,none⟩=some (.slice A71 n71 c71))) (first|go_keep|exact⟨M4.2.1,M3.1⟩) ((refine(cS _ (h5.fr (Fr.refl [] x5).drew)).out.mono ?_;rintro e x6 ⟨k2,a2,nm2,n2,s2,ls2,args2,arms2,A52,n52,c52,A62,n62,c62,A72,n72,c72,st2,rfl,hx2,hr2,hst2,f6⟩;have Q1:=f6.keep (w:=x5.drew) q1 (by simp;omega);have Q4:=f6.keep (w:=x5.drew) q4 (by simp;omega);have hT36:=Aa Q1;have hT46:=Aa Q4;have M3:=Ac Q1;have M4:=Ao Q4;have G6:=f6.keep (w:=x5.drew) g0 (by simpa using nB);have hB6:=Aa G6;obtain⟨⟨u0,u1,u2,u3,u4,u5,u6,u7⟩,z0,z1,z2,z3,z4,z5,z6,z7⟩:=Ac G6))
  clear M3 M4 Q1 Q4 u0 u1 u2 u3 u4 u5 u6 u7 z0 z1 z2 z3 z4 z5 z6 z7 l0 l1 l2 l3 l4 l5 l6 l7 m0 m1 m2 m3;have f6:Fr [P] x5 x6:=((Fr.refl [P] x5).drew).trans f6;have hx1:=hx1.keep (ok':=fun b=>B<b) (Sh.of_fr f6 (fun b hb hlt=>⟨hb.1,by simp;omega⟩));have hx2:=hx2.keep (ok':=fun b=>B<b) (Sh.of_fr (Fr.refl [] x6) (fun b hb hlt=>⟨by have:x5.heap.size≤b:=hb;omega,fun x=>by cases x⟩));have HG:=Hz (Ar G6 (vI 21) (vI t.at') (vE) (vI 0) (vE) (vZ) (.slice (some ⟨x6.heap.size,0,none⟩) 2 2) (vZ));have HF:=Hz ((F5.trans f6).step (Ai x6 B (vI 21) (vI t.at') (vE) (vI 0) (vE) (vZ) (.slice (some ⟨x6.heap.size,0,none⟩) 2 2) (vZ)) (fun x hx => .inr (by simp at hx;omega)));have HP:=Hz ((hst2).frL (Ai x6 B (vI 21) (vI t.at') (vE) (vI 0) (vE) (vZ) (.slice (some ⟨x6.heap.size,0,none⟩) 2 2) (vZ)) (by simpa using nP) (by simpa using ng));have HS:=Hz (Es x6 B (vI 21) (vI t.at') (vE) (vI 0) (vE) (vZ) (.slice (some ⟨x6.heap.size,0,none⟩) 2 2) (vZ));have HX1:Hid (Aj (st8 x6 B (vI 21) (vI t.at') (vE) (vI 0) (vE) (vZ) (.slice (some ⟨x6.heap.size,0,none⟩) 2 2) (vZ)) (fun b=>B≤b) (.mk k1 a1 nm1 n1 s1 ls1 args1 arms1) [vI k1,vI a1,vS nm1,vI n1,vS s1,.slice A51 n51 c51,.slice A61 n61 c61,.slice A71 n71 c71]):=Hz ((hx1).keep (Sh.of_fr (Ai x6 B (vI 21) (vI t.at') (vE) (vI 0) (vE) (vZ) (.slice (some ⟨x6.heap.size,0,none⟩) 2 2) (vZ)) (fun b hb hlt=>⟨by omega,by simp;omega⟩)));have HX2:Hid (Aj (st8 x6 B (vI 21) (vI t.at') (vE) (vI 0) (vE) (vZ) (.slice (some ⟨x6.heap.size,0,none⟩) 2 2) (vZ)) (fun b=>B≤b) (.mk k2 a2 nm2 n2 s2 ls2 args2 arms2) [vI k2,vI a2,vS nm2,vI n2,vS s2,.slice A52 n52 c52,.slice A62 n62 c62,.slice A72 n72 c72]):=Hz ((hx2).keep (Sh.of_fr (Ai x6 B (vI 21) (vI t.at') (vE) (vI 0) (vE) (vZ) (.slice (some ⟨x6.heap.size,0,none⟩) 2 2) (vZ)) (fun b hb hlt=>⟨by omega,by simp;omega⟩)));unfold st8 at HG HF HP HS HX1 HX2;go_wp2_with fail;generalize (((((((x6.setCell ⟨B,0,none⟩ (vI 21)).setCell ⟨B,1,none⟩ (vI t.at')).setCell ⟨B,2,none⟩ (vE)).setCell ⟨B,3,none⟩ (vI 0)).setCell ⟨B,4,none⟩ (vE)).setCell ⟨B,5,none⟩ (vZ)).setCell ⟨B,6,none⟩ (.slice (some ⟨x6.heap.size,0,none⟩) 2 2)).setCell ⟨B,7,none⟩ (vZ)=Z at HG HF HP HS HX1 HX2 ⊢;obtain⟨⟨d0,d1,d2,d3,d4,d5,d6,d7⟩,_⟩:=Ac (Af HG.out (.cells #[vI k1,vI a1,vS nm1,vI n1,vS s1,.slice A51 n51 c51,.slice A61 n61 c61,.slice A71 n71 c71,vI k2,vI a2,vS nm2,vI n2,vS s2,.slice A52 n52 c52,.slice A62 n62 c62,.slice A72 n72 c72] 35));have hBZ:B≤Z.heap.size:=by have:=Aa HG.out;omega
  have row:=Al.lit2 An (T:=35) (size:=8) HX1.out HX2.out rfl rfl (ok:=fun b=>B≤b) hBZ;rw[HS.out] at row;have hxx:=Aj.of_rows (k:=21) (a:=t.at') (nm:=[]) (n:=0) (s:=[]) (c5:=fun _=>[]) (c7:=fun _=>[]) Al.nil_ row Al.nil_;refine bodyPost_ret (v:=.agg #[vI 21,vI t.at',vE,vI 0,vE,vZ,.slice (some ⟨x6.heap.size,0,none⟩) 2 2,vZ]) ?_ rfl ?_
  ·simp[results,Tryz.f149,go_sem,d0,d1,d2,d3,d4,d5,d6,d7]
  ·exact⟨_,_,_,_,_,_,_,_,_,_,_,_,_,_,_,_,_,_,rfl,by rw[hB];exact hxx,.callE hr1 (.look ht (.may_yes ht hb (.callE hr2 .retE))),HP.out.fr ((Fr.refl [] Z).alloc _),HF.out.alloc _⟩
theorem X2(ts:List Tok)(hE:B8 ts)(N:Nat)(ih:Fo ts N):GE ts (N+1) 6 .unary 220:=by
 intro P g c st w h hm;have H:=Hz h;have hP:=Aa h.blk;have hgl:=h.lt;have hin:=h.inb;have HN:=Hz hm;have HE:=Hz hE;have IH:=Hz ih;clear h hm hE ih;go_enter func220,ntmps220;go_wp2_with fail;have f0:Fr [] w (w.alloc (.cells #[vI 0,vI 0,vE,vI 0,vE,vZ,vZ,vZ] 35)):=(Fr.refl [] w).alloc _;have g0:=Ad w (.cells #[vI 0,vI 0,vE,vI 0,vE,vZ,vZ,vZ] 35)
 generalize w.alloc (.cells #[vI 0,vI 0,vE,vI 0,vE,vZ,vZ,vZ] 35)=w1 at *
 generalize hB:w.heap.size=B at *
 have hB1:=Aa g0;have nP:¬ P=B:=by omega
 have nB:¬ B=P:=by omega
 have ng:¬ g=B:=by omega
 obtain⟨t,ht⟩:=A4 hin;refine(B7 P g c ts st t ht w1 (H.out.fr f0) HE.out).mono ?_;rintro e x3 ⟨rfl,f3⟩;go_wp2_with fail;have q3:=Ad x3 (.cells #[vI t.k,vI t.at',.string ⟨t.text.toArray⟩,vI t.n] 79);have fb4:Fr [] x3 (x3.alloc (.cells #[vI t.k,vI t.at',.string ⟨t.text.toArray⟩,vI t.n] 79)):=(Fr.refl [] x3).alloc _
 generalize x3.alloc (.cells #[vI t.k,vI t.at',.string ⟨t.text.toArray⟩,vI t.n] 79)=x4 at *
 have hT4:=Aa q3;have hs3:=f3.size
 generalize x3.heap.size=T3 at *
 have f4:=(f0.trans f3).trans fb4;have g0:=(f3.trans fb4).keep g0 nE;have h4:=H.out.fr f4
 cases hb:isB t st.ok [[45]] with
 | true =>
  refine(may_yes [45] P g c ts st t ht hb x4 h4 HE.out).mono ?_;rintro e x5 ⟨rfl,h5,f5⟩;have g0:=f5.keep g0 (by simpa using nB);have q3:=f5.keep q3 (by simp;omega);have hs5:=f5.size;have F5:Fr [P] w x5:=(f4.mono (fun x hx=>by cases hx)).trans f5;have cS:=fun W hW=>Hz (IH.out.unary P g c ⟨st.i+1,st.ok⟩ W hW (by have:=HN.out;have:=h5.inb;simp only at this ⊢;omega))
  obtain⟨m0,m1,m2,m3,_⟩:=Ao q3;have n3B:¬ T3=B:=by omega
  have nB3:¬ B=T3:=by omega
  go_wp2_with fail
  go_region_held3 (fun w'=>w'.cell? ⟨T3,0,none⟩=some (vI t.k)∧w'.cell? ⟨T3,1,none⟩=some (vI t.at')∧w'.cell? ⟨T3,2,none⟩=some (.string ⟨t.text.toArray⟩)∧w'.cell? ⟨T3,3,none⟩=some (vI t.n)) (first|go_keep|exact⟨M7.1,M7.2.1,M7.2.2.1,M7.2.2.2.1⟩| exact⟨M6.1,M6.2.1,M6.2.2.1,M6.2.2.2.1⟩) ((first|(go_at_call 122;refine(Jq _ t _ _ _ _).mono ?_;rintro e x7 ⟨rfl,f7⟩;have Q7:=f7.keep (Af Q6 (.cells #[vI k2,vI a2,vS nm2,vI n2,vS s2,.slice A52 n52 c52,.slice A62 n62 c62,.slice A72 n72 c72] 35)) nE;have hT7:=Aa Q7;have M7:=Ao Q7;have G7:=f7.keep (Af G6 (.cells #[vI k2,vI a2,vS nm2,vI n2,vS s2,.slice A52 n52 c52,.slice A62 n62 c62,.slice A72 n72 c72] 35)) nE;have hB7:=Aa G7;obtain⟨⟨u0,u1,u2,u3,u4,u5,u6,u7⟩,z0,z1,z2,z3,z4,z5,z6,z7⟩:=Ac G7)| (go_at_call 220;refine(cS _ (h5.fr (Fr.refl [] x5).drew)).out.mono ?_;rintro e x6 ⟨k2,a2,nm2,n2,s2,ls2,args2,arms2,A52,n52,c52,A62,n62,c62,A72,n72,c72,st2,rfl,hx2,hr2,hst2,f6⟩;have Q6:=f6.keep (w:=x5.drew) q3 (by simp;omega);have hT6:=Aa Q6;have M6:=Ao Q6;have G6:=f6.keep (w:=x5.drew) g0 (by simpa using nB);have hB6:=Aa G6)))
  clear m0 m1 m2 m3 M6 M7;have f6:Fr [P] x5 x6:=((Fr.refl [P] x5).drew).trans f6;have f7:Fr [] (x6.alloc (.cells #[vI k2,vI a2,vS nm2,vI n2,vS s2,.slice A52 n52 c52,.slice A62 n62 c62,.slice A72 n72 c72] 35)) x7:=f7;have hs6:=f6.size;have hs5:=Aa g0;have row6:=Al.lit An (T:=35) (size:=8) (ok:=fun b=>B<b∧¬ b=P) (hx2.keep (Sh.of_fr (Fr.refl [] x6) (fun b hb hlt=>⟨by have:x5.heap.size≤b:=hb;exact⟨by omega,by omega⟩,fun x=>by cases x⟩))) rfl (by exact⟨by omega,by omega⟩);have row7:=Al.keep (ok':=fun b=>B<b) An row6 (Sh.of_fr f7 (fun b hb hlt=>⟨hb.1,fun x=>by cases x⟩));have HG:=Hz (Ar G7 (vI 19) (vI t.at') (vE) (vI 6) (vE) (vZ) (.slice (some ⟨x6.heap.size,0,none⟩) 1 1) (vZ));have HF:=Hz ((F5.trans (f6.trans0 (((Fr.refl [] x6).alloc _).trans f7))).step (Ai x7 B (vI 19) (vI t.at') (vE) (vI 6) (vE) (vZ) (.slice (some ⟨x6.heap.size,0,none⟩) 1 1) (vZ)) (fun x hx => .inr (by simp at hx;omega)));have HP:=Hz (((hst2.fr (((Fr.refl [] x6).alloc _).trans f7))).frL (Ai x7 B (vI 19) (vI t.at') (vE) (vI 6) (vE) (vZ) (.slice (some ⟨x6.heap.size,0,none⟩) 1 1) (vZ)) (by simpa using nP) (by simpa using ng));have HR:=Hz (Al.keep (ok':=fun b=>B≤b) An row7 (Sh.of_fr (Ai x7 B (vI 19) (vI t.at') (vE) (vI 6) (vE) (vZ) (.slice (some ⟨x6.heap.size,0,none⟩) 1 1) (vZ)) (fun b hb hlt=>⟨by omega,by simp;omega⟩)));unfold st8 at HG HF HP HR;go_wp2_with fail;generalize (((((((x7.setCell ⟨B,0,none⟩ (vI 19)).setCell ⟨B,1,none⟩ (vI t.at')).setCell ⟨B,2,none⟩ (vE)).setCell ⟨B,3,none⟩ (vI 6)).setCell ⟨B,4,none⟩ (vE)).setCell ⟨B,5,none⟩ (vZ)).setCell ⟨B,6,none⟩ (.slice (some ⟨x6.heap.size,0,none⟩) 1 1)).setCell ⟨B,7,none⟩ (vZ)=Z at HG HF HP HR ⊢;obtain⟨⟨d0,d1,d2,d3,d4,d5,d6,d7⟩,_⟩:=Ac HG.out;have hxx:=Aj.of_rows (k:=19) (a:=t.at') (nm:=[]) (n:=6) (s:=[]) (c5:=fun _=>[]) (c7:=fun _=>[]) Al.nil_ HR.out Al.nil_;refine bodyPost_ret (v:=.agg #[vI 19,vI t.at',vE,vI 6,vE,vZ,.slice (some ⟨x6.heap.size,0,none⟩) 1 1,vZ]) ?_ rfl ?_
  ·simp[results,Tryz.f220,go_sem,d0,d1,d2,d3,d4,d5,d6,d7]
  ·exact⟨_,_,_,_,_,_,_,_,_,_,_,_,_,_,_,_,_,_,rfl,by rw[hB];exact hxx,.look ht (.may_yes ht hb (.callE hr2 .retE)),HP.out,HF.out⟩
 | false =>
  refine(may_no [45] P g c ts st t ht hb x4 h4 HE.out).mono ?_;rintro e y4 ⟨rfl,f5⟩;go_wp2_with fail;have g0:=f5.keep g0 nE;have q3:=f5.keep q3 nE;have h4:=h4.fr f5;have f4:=f4.trans f5;have hs4:=f5.size;clear f5
  cases hb2:isB t st.ok [[110,111,116]] with
  | true =>
   refine(may_yes [110,111,116] P g c ts st t ht hb2 y4 h4 HE.out).mono ?_;rintro e x5 ⟨rfl,h5,f5⟩;have g0:=f5.keep g0 (by simpa using nB);have q3:=f5.keep q3 (by simp;omega);have hs5:=f5.size;have F5:Fr [P] w x5:=(f4.mono (fun x hx=>by cases hx)).trans f5;have cS:=fun W hW=>Hz (IH.out.unary P g c ⟨st.i+1,st.ok⟩ W hW (by have:=HN.out;have:=h5.inb;simp only at this ⊢;omega))
   obtain⟨m0,m1,m2,m3,_⟩:=Ao q3;have n3B:¬ T3=B:=by omega
   have nB3:¬ B=T3:=by omega
   go_wp2_with fail
   go_region_held3 (fun w'=>w'.cell? ⟨T3,0,none⟩=some (vI t.k)∧w'.cell? ⟨T3,1,none⟩=some (vI t.at')∧w'.cell? ⟨T3,2,none⟩=some (.string ⟨t.text.toArray⟩)∧w'.cell? ⟨T3,3,none⟩=some (vI t.n)) (first|go_keep|exact⟨M7.1,M7.2.1,M7.2.2.1,M7.2.2.2.1⟩| exact⟨M6.1,M6.2.1,M6.2.2.1,M6.2.2.2.1⟩) ((first|(go_at_call 122;refine(Jq _ t _ _ _ _).mono ?_;rintro e x7 ⟨rfl,f7⟩;have Q7:=f7.keep (Af Q6 (.cells #[vI k2,vI a2,vS nm2,vI n2,vS s2,.slice A52 n52 c52,.slice A62 n62 c62,.slice A72 n72 c72] 35)) nE;have hT7:=Aa Q7;have M7:=Ao Q7;have G7:=f7.keep (Af G6 (.cells #[vI k2,vI a2,vS nm2,vI n2,vS s2,.slice A52 n52 c52,.slice A62 n62 c62,.slice A72 n72 c72] 35)) nE;have hB7:=Aa G7;obtain⟨⟨u0,u1,u2,u3,u4,u5,u6,u7⟩,z0,z1,z2,z3,z4,z5,z6,z7⟩:=Ac G7)| (go_at_call 220;refine(cS _ (h5.fr (Fr.refl [] x5).drew)).out.mono ?_;rintro e x6 ⟨k2,a2,nm2,n2,s2,ls2,args2,arms2,A52,n52,c52,A62,n62,c62,A72,n72,c72,st2,rfl,hx2,hr2,hst2,f6⟩;have Q6:=f6.keep (w:=x5.drew) q3 (by simp;omega);have hT6:=Aa Q6;have M6:=Ao Q6;have G6:=f6.keep (w:=x5.drew) g0 (by simpa using nB);have hB6:=Aa G6)))
   clear m0 m1 m2 m3 M6 M7;have f6:Fr [P] x5 x6:=((Fr.refl [P] x5).drew).trans f6;have f7:Fr [] (x6.alloc (.cells #[vI k2,vI a2,vS nm2,vI n2,vS s2,.slice A52 n52 c52,.slice A62 n62 c62,.slice A72 n72 c72] 35)) x7:=f7;have hs6:=f6.size;have hs5:=Aa g0;have row6:=Al.lit An (T:=35) (size:=8) (ok:=fun b=>B<b∧¬ b=P) (hx2.keep (Sh.of_fr (Fr.refl [] x6) (fun b hb hlt=>⟨by have:x5.heap.size≤b:=hb;exact⟨by omega,by omega⟩,fun x=>by cases x⟩))) rfl (by exact⟨by omega,by omega⟩);have row7:=Al.keep (ok':=fun b=>B<b) An row6 (Sh.of_fr f7 (fun b hb hlt=>⟨hb.1,fun x=>by cases x⟩));have HG:=Hz (Ar G7 (vI 19) (vI t.at') (vE) (vI 9) (vE) (vZ) (.slice (some ⟨x6.heap.size,0,none⟩) 1 1) (vZ));have HF:=Hz ((F5.trans (f6.trans0 (((Fr.refl [] x6).alloc _).trans f7))).step (Ai x7 B (vI 19) (vI t.at') (vE) (vI 9) (vE) (vZ) (.slice (some ⟨x6.heap.size,0,none⟩) 1 1) (vZ)) (fun x hx => .inr (by simp at hx;omega)));have HP:=Hz (((hst2.fr (((Fr.refl [] x6).alloc _).trans f7))).frL (Ai x7 B (vI 19) (vI t.at') (vE) (vI 9) (vE) (vZ) (.slice (some ⟨x6.heap.size,0,none⟩) 1 1) (vZ)) (by simpa using nP) (by simpa using ng));have HR:=Hz (Al.keep (ok':=fun b=>B≤b) An row7 (Sh.of_fr (Ai x7 B (vI 19) (vI t.at') (vE) (vI 9) (vE) (vZ) (.slice (some ⟨x6.heap.size,0,none⟩) 1 1) (vZ)) (fun b hb hlt=>⟨by omega,by simp;omega⟩)));unfold st8 at HG HF HP HR;go_wp2_with fail;generalize (((((((x7.setCell ⟨B,0,none⟩ (vI 19)).setCell ⟨B,1,none⟩ (vI t.at')).setCell ⟨B,2,none⟩ (vE)).setCell ⟨B,3,none⟩ (vI 9)).setCell ⟨B,4,none⟩ (vE)).setCell ⟨B,5,none⟩ (vZ)).setCell ⟨B,6,none⟩ (.slice (some ⟨x6.heap.size,0,none⟩) 1 1)).setCell ⟨B,7,none⟩ (vZ)=Z at HG HF HP HR ⊢;obtain⟨⟨d0,d1,d2,d3,d4,d5,d6,d7⟩,_⟩:=Ac HG.out;have hxx:=Aj.of_rows (k:=19) (a:=t.at') (nm:=[]) (n:=9) (s:=[]) (c5:=fun _=>[]) (c7:=fun _=>[]) Al.nil_ HR.out Al.nil_;refine bodyPost_ret (v:=.agg #[vI 19,vI t.at',vE,vI 9,vE,vZ,.slice (some ⟨x6.heap.size,0,none⟩) 1 1,vZ]) ?_ rfl ?_
   ·simp[results,Tryz.f220,go_sem,d0,d1,d2,d3,d4,d5,d6,d7]
   ·exact⟨_,_,_,_,_,_,_,_,_,_,_,_,_,_,_,_,_,_,rfl,by rw[hB];exact hxx,.look ht (.may_no ht hb (.els (.may_yes ht hb2 (.callE hr2 .retE)))),HP.out,HF.out⟩
  | false =>
   refine(may_no [110,111,116] P g c ts st t ht hb2 y4 h4 HE.out).mono ?_;rintro e y5 ⟨rfl,f5⟩;go_wp2_with fail;have g0:=f5.keep g0 nE;have h5:=h4.fr f5;have f5:=f4.trans f5;have hs5:=Aa g0;refine(IH.out.app P g c st y5 h5 (by have:=HN.out;omega)).mono ?_;rintro e x6 ⟨k2,a2,nm2,n2,s2,ls2,args2,arms2,A52,n52,c52,A62,n62,c62,A72,n72,c72,st2,rfl,hx2,hr2,hst2,f6⟩;have G6:=f6.keep g0 (by simpa using nB);have hx2:=hx2.keep (ok':=fun b=>B<b) (Sh.of_fr (Fr.refl [] x6) (fun b hb hlt=>⟨by omega,fun x=>by cases x⟩));have g0:=G6;have HG:=Hz (Ar g0 (vI k2) (vI a2) (vS nm2) (vI n2) (vS s2) (.slice A52 n52 c52) (.slice A62 n62 c62) (.slice A72 n72 c72));have HF:=Hz (((f5.mono (fun x hx=>by cases hx)).trans f6).step (Ai x6 B (vI k2) (vI a2) (vS nm2) (vI n2) (vS s2) (.slice A52 n52 c52) (.slice A62 n62 c62) (.slice A72 n72 c72)) (fun x hx => .inr (by simp at hx;omega)));have HP:=Hz ((hst2).frL (Ai x6 B (vI k2) (vI a2) (vS nm2) (vI n2) (vS s2) (.slice A52 n52 c52) (.slice A62 n62 c62) (.slice A72 n72 c72)) (by simpa using nP) (by simpa using ng));have HX:Hid (Aj (st8 x6 B (vI k2) (vI a2) (vS nm2) (vI n2) (vS s2) (.slice A52 n52 c52) (.slice A62 n62 c62) (.slice A72 n72 c72)) (fun b=>B≤b) (.mk k2 a2 nm2 n2 s2 ls2 args2 arms2) [vI k2,vI a2,vS nm2,vI n2,vS s2,.slice A52 n52 c52,.slice A62 n62 c62,.slice A72 n72 c72]):=Hz ((hx2).keep (Sh.of_fr (Ai x6 B (vI k2) (vI a2) (vS nm2) (vI n2) (vS s2) (.slice A52 n52 c52) (.slice A62 n62 c62) (.slice A72 n72 c72)) (fun b hb hlt=>⟨by omega,by simp;omega⟩)));unfold st8 at HG HF HP HX;obtain⟨⟨u0,u1,u2,u3,u4,u5,u6,u7⟩,z0,z1,z2,z3,z4,z5,z6,z7⟩:=Ac g0;go_wp2_with fail;generalize (((((((x6.setCell ⟨B,0,none⟩ (vI k2)).setCell ⟨B,1,none⟩ (vI a2)).setCell ⟨B,2,none⟩ (vS nm2)).setCell ⟨B,3,none⟩ (vI n2)).setCell ⟨B,4,none⟩ (vS s2)).setCell ⟨B,5,none⟩ (.slice A52 n52 c52)).setCell ⟨B,6,none⟩ (.slice A62 n62 c62)).setCell ⟨B,7,none⟩ (.slice A72 n72 c72)=Z at HG HF HP HX ⊢;obtain⟨⟨d0,d1,d2,d3,d4,d5,d6,d7⟩,_⟩:=Ac HG.out;refine bodyPost_ret (v:=.agg #[vI k2,vI a2,vS nm2,vI n2,vS s2,.slice A52 n52 c52,.slice A62 n62 c62,.slice A72 n72 c72]) ?_ rfl ?_
   ·simp[results,Tryz.f220,go_sem,d0,d1,d2,d3,d4,d5,d6,d7]
   ·exact⟨_,_,_,_,_,_,_,_,_,_,_,_,_,_,_,_,_,_,rfl,by rw[hB];exact HX.out,.look ht (.may_no ht hb (.els (.may_no ht hb2 (.callE hr2 .retE)))),HP.out,HF.out⟩
end
theorem Yj:(prog.info? 9).map (fun i=>(i.zero,i.size,i.bytes))=some (some (vE),1,16):=by kernel_rfl
theorem infoPat:(prog.info? 25).map (fun i=>(i.zero,i.size,i.bytes))=some (some (.agg #[vI 0,vI 0,vE,vI 0,vE,vZ,vZ]),7,104):=by kernel_rfl
theorem infoArm:(prog.info? 46).map (fun i=>(i.zero,i.size,i.bytes))=some (some (.agg #[vI 0,vI 0,vE,vI 0,vE,vZ,vZ,vI 0,vI 0,vE,vI 0,vE,vZ,vZ,vZ]),15,232):=by kernel_rfl
theorem Gt{α:Type}{E:World→(Nat→Prop)→α→List Value→Prop}{TT:TypeId}{size:Nat}(hK:Hp E){P g c B T fld:Nat}{ts:List Tok}{st2:St}{w wr x8 w9:World}{ZB C:Obj}{VV VV':Array Value}{TY:TypeId}{v v':Value}{acc:List α}{x:α}{cs:List Value}{c6:Nat→List Value}
  (f8:Fr [P] wr x8) (hx:E x8 (fun b=>wr.heap.size≤b) x cs) (hl:cs.length=size) (hst2:PSt P g c ts st2 x8) (g0:wr.heap[B]?=some ZB) (q0:wr.heap[T]?=some (.cells VV TY (0,0)))
  {ok:Nat→Prop} (row:Al E TT size wr ok v acc c6) (ho1:∀ b,ok b→¬ b=T∧¬ b=P∧¬ b=B∧¬ b=g) (ho2:∀ b,wr.heap.size≤b→ok b) (hwo:∀ b,ok b→w.heap.size≤b) (F:Fr [P] w wr) (hBT:¬ B=T) (hB:w.heap.size≤T) (hPB:P<B) (_hgB:g<B) (hP:P<T) (hg:g<T) (_hwB:w.heap.size≤B)
  (hown:w9.ownsRow 0 TT size v' (acc.length+1) (Do c6 acc.length++cs)) (hgrow:(x8.alloc C).grownBy w9 v.ownBlock) (hfp:Sa v v' (x8.alloc C).heap.size) (hVV:VV.setIfInBounds fld v'=VV'):
  Fr [P] w (w9.setCell ⟨T,fld,none⟩ v')∧(w9.setCell ⟨T,fld,none⟩ v').heap[B]?=some ZB∧(w9.setCell ⟨T,fld,none⟩ v').heap[T]?=some (.cells VV' TY (0,0))∧PSt P g c ts st2 (w9.setCell ⟨T,fld,none⟩ v')∧
  Al E TT size (w9.setCell ⟨T,fld,none⟩ v') ok v' (acc++[x]) (fun i=>if i=acc.length then cs else c6 i)∧
  (∀ b,b<wr.heap.size→¬ b=T→¬ b=P→v.ownBlock≠some b→(w9.setCell ⟨T,fld,none⟩ v').heap[b]?=wr.heap[b]?∧b<(w9.setCell ⟨T,fld,none⟩ v').heap.size)∧
  (∀ b,v'.ownBlock=some b→v.ownBlock=some b∨wr.heap.size≤b)∧wr.heap.size≤(w9.setCell ⟨T,fld,none⟩ v').heap.size:=by
 have hs8:=f8.size;have hTlt:=Aa q0;have hBlt:=Aa g0;have blk:=row.blk;have olt:∀ gg,v.ownBlock=some gg→gg<wr.heap.size:=fun gg hg=>row.own_lt gg hg
 have fa:Fr [] x8 (x8.alloc C):=(Fr.refl [] x8).alloc _;have hxa:=hK _ (x8.alloc C) _ (fun b=>wr.heap.size≤b∧b<x8.heap.size) x cs hx (Sh.of_fr fa (fun b hb hlt=>⟨⟨hb,hlt⟩,fun x=>by cases x⟩));have rowa:=Al.keep (w':=x8.alloc C) (ok':=ok) hK row (Sh.of_fr (f8.trans0 fa) (fun b hb hlt=>⟨hb,by simp;exact(ho1 b hb).2.1⟩));have row9:=Al.app hK rowa hxa hl (fun b hb hlt=>⟨ho2 b hb.1,fun e=>by have:=olt b e;omega⟩) hown hgrow hfp (fun b hb=>by simp only[World.size_alloc] at hb;exact ho2 b (by omega));have fg:Fr v.ownBlock.toList (x8.alloc C) w9:=(Fr.refl _ _).append hgrow (fun gg hg => .inl (by simp[hg]));have nb:∀ b,¬ ok b→b ∉ v.ownBlock.toList:=fun b hb hm=>hb (blk b (by simpa using hm))
 have nP:¬ P=T:=by omega
 have g9:=fg.keep (fa.keep (f8.keep g0 (by simp;omega)) nE) (nb B (fun h=>(ho1 B h).2.2.1 rfl));have q9:=fg.keep (fa.keep (f8.keep q0 (by simp;omega)) nE) (nb T (fun h=>(ho1 T h).1 rfl));have h9:=(hst2.fr fa).frL fg (nb P (fun h=>(ho1 P h).2.1 rfl)) (nb g (fun h=>(ho1 g h).2.2.2 rfl));have F9:Fr [P] w w9:=((F.trans f8).trans0 fa).append hgrow (fun gg hg => .inr (hwo gg (blk gg hg)));have fs:=(Fr.refl [T] w9).setCell (p:=⟨T,fld,none⟩) (.inl (by simp)) v';refine⟨F9.step fs (fun x hx => .inr (by simp at hx;omega)),fs.keep g9 (by simp;omega),by rw[← hVV];exact Bn q9 fld v',h9.frL fs (by simp;omega) (by simp;omega),Al.keep (ok':=ok) hK row9 (Sh.of_fr fs (fun b hb hlt=>⟨hb,by simp;exact(ho1 b hb).1⟩)),fun b hb h1 h2 h3=>?_,fun b hb=>?_,?_⟩
 ·have e1:=f8.block b hb (by simpa using h2);have e2:=fa.block b (by omega) (fun x=>by cases x);have e3:=fg.block b (by have:=fa.size;omega) (by simpa using fun e=>h3 e);have e4:=fs.block b (by have:=fa.size;have:=fg.size;omega) (by simpa using h1);exact⟨e4.trans (e3.trans (e2.trans e1)),by have:=fa.size;have:=fg.size;have:=fs.size;omega⟩
 ·rcases hfp b hb with h|h
  ·exact .inl h
  ·simp only[World.size_alloc] at h;exact .inr (by omega)
 ·have:=fa.size;have:=fg.size;have:=fs.size;omega
theorem Ed{α:Type}{E:World→(Nat→Prop)→α→List Value→Prop}{TT:TypeId}{size:Nat}(hK:Hp E){P g c B T fld:Nat}{ts:List Tok}{st2:St}{w wr x8 w9:World}{ZB C:Obj}{VV VV':Array Value}{TY:TypeId}{v v':Value}{acc:List α}{x:α}{cs:List Value}{c6:Nat→List Value}
  (f8:Fr [P] wr x8) (hx:E x8 (fun b=>wr.heap.size≤b) x cs) (hl:cs.length=size) (hst2:PSt P g c ts st2 x8) (g0:wr.heap[B]?=some ZB) (q0:wr.heap[T]?=some (.cells VV TY (0,0)))
  (row:Al E TT size wr (fun b=>B<b∧¬ b=T∧¬ b=P) v acc c6) (F:Fr [P] w wr) (hBT:¬ B=T) (hB:w.heap.size≤T) (hPB:P<B) (hgB:g<B) (hP:P<T) (hg:g<T) (hwB:w.heap.size≤B)
  (hown:w9.ownsRow 0 TT size v' (acc.length+1) (Do c6 acc.length++cs)) (hgrow:(x8.alloc C).grownBy w9 v.ownBlock) (hfp:Sa v v' (x8.alloc C).heap.size) (hVV:VV.setIfInBounds fld v'=VV'):
  Fr [P] w (w9.setCell ⟨T,fld,none⟩ v')∧(w9.setCell ⟨T,fld,none⟩ v').heap[B]?=some ZB∧(w9.setCell ⟨T,fld,none⟩ v').heap[T]?=some (.cells VV' TY (0,0))∧PSt P g c ts st2 (w9.setCell ⟨T,fld,none⟩ v')∧
  Al E TT size (w9.setCell ⟨T,fld,none⟩ v') (fun b=>B<b∧¬ b=T∧¬ b=P) v' (acc++[x]) (fun i=>if i=acc.length then cs else c6 i)∧
  (∀ b,b<wr.heap.size→¬ b=T→¬ b=P→v.ownBlock≠some b→(w9.setCell ⟨T,fld,none⟩ v').heap[b]?=wr.heap[b]?∧b<(w9.setCell ⟨T,fld,none⟩ v').heap.size)∧
  (∀ b,v'.ownBlock=some b→v.ownBlock=some b∨wr.heap.size≤b)∧wr.heap.size≤(w9.setCell ⟨T,fld,none⟩ v').heap.size :=
 Gt hK f8 hx hl hst2 g0 q0 row (fun b hb=>⟨hb.2.1,hb.2.2,by omega,by omega⟩) (fun b hb=>⟨by have:=Aa g0;omega,by have:=Aa q0;omega,by have:=Aa g0;omega⟩) (fun b hb=>by have:=hb.1;omega) F hBT hB hPB hgB hP hg hwB hown hgrow hfp hVV
end Go.Proofs.YtabhpdhajajoiaaGreatDoor
