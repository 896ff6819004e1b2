/- A part of the proof: Jv, Jq. -/
import Derived.Test.YtoimdiballicnaaGreatDoorHb3
import Derived.Test.YtoimdiballicnaaGreatDoorHb4
namespace Go.Proofs.YtoimdiballicnaaGreatDoor
open Go.RowKit
set_option linter.all false
set_option maxHeartbeats 16000000
set_option maxRecDepth 100000
section
attribute [local go_sem ↓] Go.wp_at_zero Go.wp_at_succ
section
variable [LoB]
attribute [local instance] Ex.no
theorem rzTs_tk{x:TyT}{l:List TyT}{i:Nat}(h:l[i]?=some x):rzTs (l.take (i+1))=rzTs (l.take i)+rzT x:=by
 have key:∀ (a b:List TyT),rzTs (a++b)=rzTs a+rzTs b:=by
  intro a
  induction a with
  | nil=>intro b;simp[rzTs]
  | cons y a ih=>intro b;rw[List.cons_append,rzTs,rzTs,ih];omega
 rw[List.take_add_one,h,key]
 simp[rzTs]
theorem rzFs_tk{x:Fd}{l:List Fd}{i:Nat}(h:l[i]?=some x):rzFs (l.take (i+1))=rzFs (l.take i)+(1+rzT x.t):=by
 have key:∀ (a b:List Fd),rzFs (a++b)=rzFs a+rzFs b:=by
  intro a
  induction a with
  | nil=>intro b;simp[rzFs]
  | cons y a ih=>intro b;rw[List.cons_append,rzFs,rzFs,ih];omega
 rw[List.take_add_one,h,key]
 obtain⟨lb,pr,p,t⟩:=x
 simp[rzFs,rzF]
theorem rzTs_tle(l:List TyT)(i:Nat):rzTs (l.take i)≤rzTs l:=by
 induction l generalizing i with
 | nil=>simp
 | cons x l ih=>cases i with
  | zero=>simp[rzTs]
  | succ i=>rw[List.take_succ_cons,rzTs,rzTs];have:=ih i;omega
theorem rzFs_tle(l:List Fd)(i:Nat):rzFs (l.take i)≤rzFs l:=by
 induction l generalizing i with
 | nil=>simp
 | cons x l ih=>cases i with
  | zero=>simp[rzFs]
  | succ i=>rw[List.take_succ_cons,rzFs,rzFs];have:=ih i;omega
theorem rzTs_len:∀ l:List TyT,l.length≤rzTs l
 | []=>Nat.le_refl _
 | x::l=>by have h1:=rzTs_len l;obtain⟨k,v,a,f,r⟩:=x;rw[rzTs,rzT,List.length_cons];omega
theorem rzFs_len:∀ l:List Fd,l.length≤rzFs l
 | []=>Nat.le_refl _
 | x::l=>by have h1:=rzFs_len l;obtain⟨lb,pr,p,t⟩:=x;rw[rzFs,rzF,List.length_cons];omega
def RCC(N:Nat):Prop:=∀ (w W:World)(ok:Nat→Prop)(P:List UInt8→Prop)(t:TyT)(A B:Option Addr)(c d:Nat)(most:Int),rzT t<N→Fr [] w W→rzT t≤1000000 →
  TyAt w ok P t [.int .i64 t.k,.int .i64 t.v,.slice A t.args.length c,.slice B t.fs.length d,.int .i64 t.rest]→-1≤most→most≤5000 →
  Calls Tryz.prog 40 #[.agg #[.int .i64 t.k,.int .i64 t.v,.slice A t.args.length c,.slice B t.fs.length d,.int .i64 t.rest],.int .i64 most] W fun e w'=>∃ n:Int,e = .returned (.int .i64 n)∧Cut (szT t) most n∧1≤n∧n≤rzT t∧Fr [] W w'
theorem count_step(N:Nat)(ih:RCC N):RCC (N+1):=by
 intro w W ok P t A B c d most hN hW hz ht hm0 hm1
 obtain⟨k,v,args,fs,rest⟩:=t
 have hR:rzT (.mk k v args fs rest)=1+rzTs args+rzFs fs:=by rw[rzT]
 rw[hR] at hN hz ⊢
 simp only[TyT.k,TyT.v,TyT.args,TyT.fs,TyT.rest] at ht ⊢
 obtain⟨v2,v3,he,har,hfs⟩:=TyAt.iff.1 ht
 cases he
 have hal:args.length≤1000000:=by have:=rzTs_len args;omega
 have hfl:fs.length≤1000000:=by have:=rzFs_len fs;omega
 have HAR:=Lib.hid har
 have HFS:=Lib.hid hfs
 have IH:=Lib.hid ih
 have HN:=Lib.hid hN
 have HW:=Lib.hid hW
 have HZZ:=Lib.hid hz
 have f0:=(Fr.refl [] W).alloc (.cells #[.int .i64 k,.int .i64 v,.slice A args.length c,.slice B fs.length d,.int .i64 rest] 27)
 have g0:=heap_new W (.cells #[.int .i64 k,.int .i64 v,.slice A args.length c,.slice B fs.length d,.int .i64 rest] 27)
 obtain⟨⟨l0,l1,l2,l3,l4⟩,_⟩:=cells5 g0
 have hgs:=lt_of_heap g0
 have hS:szT (.mk k v args fs rest)=1+szTs args+szFs fs:=by rw[szT]
 rw[hS]
 have HF0:=Lib.hid f0
 have HG0:=Lib.hid g0
 clear ih har hfs hN hW ht hS f0 g0 hR hz
 go_enter Tryz.func40,Tryz.ntmps40
 go_wp2_with fail
 generalize W.alloc (.cells #[.int .i64 k,.int .i64 v,.slice A args.length c,.slice B fs.length d,.int .i64 rest] 27)=x at *
 generalize hT:W.heap.size=T at *
 go_loopw [5,13] (fun nv iv wr=>∃ (i:Nat) (n:Int),nv = .int .i64 n∧iv = .int .i64 i∧i≤args.length∧1≤n∧Hid (Cut (1+szTs (args.take i)) most n)∧Hid (n≤1+rzTs (args.take i))∧Hid (wr.heap[T]?=some (.cells #[.int .i64 k,.int .i64 v,.slice A args.length c,.slice B fs.length d,.int .i64 rest] 27 (0,0)))∧Hid (Fr [] W wr)) (fun nv iv wr=>args.length-(intOf iv).toNat)
 case atStart=>exact⟨0,1,rfl,rfl,by omega,by omega,Lib.hid (by rw[List.take_zero];exact cut_self 1 most),Lib.hid (by simp[rzTs]),HG0,HF0⟩
 case round =>
  obtain⟨i,n,rfl,rfl,hi,hn1,HC,HR,HG,HF⟩:=hrel
  clear HG0 HF0 l0 l1 l2 l3 l4 hgs
  have q1:(0:Int)≤(i:Int):=by omega
  have hgs:=lt_of_heap HG.out
  obtain⟨⟨l0,l1,l2,l3,l4⟩,_⟩:=cells5 HG.out
  have hnn:n≤1000001:=by have h1:=HR.out;have h2:=rzTs_tle args i;have h3:=HZZ.out;omega
  by_cases hlt:i<args.length
  ·have hx:args[i]?=some args[i]:=List.getElem?_eq_getElem hlt
   generalize args[i]=z at hx
   have q2:(i:Int)<(args.length:Int):=by omega
   obtain⟨g,og,rfl,hok,hg,B2,d2,D2,e2,hty,x0,x1,x2,x3,x4⟩:=HAR.out.at hx
   have fw:=HW.out.trans HF.out
   replace x0:=(fw.cell (p:=⟨g,og+i * 5,none⟩) hg (fun x=>by cases x)).trans x0
   replace x1:=(fw.cell (p:=⟨g,og+i * 5+1,none⟩) hg (fun x=>by cases x)).trans x1
   replace x2:=(fw.cell (p:=⟨g,og+i * 5+2,none⟩) hg (fun x=>by cases x)).trans x2
   replace x3:=(fw.cell (p:=⟨g,og+i * 5+3,none⟩) hg (fun x=>by cases x)).trans x3
   replace x4:=(fw.cell (p:=⟨g,og+i * 5+4,none⟩) hg (fun x=>by cases x)).trans x4
   have hgw:g<wr.heap.size:=Nat.lt_of_lt_of_le hg fw.size
   have hzN:rzT z<N:=by have:=rzTs_at hx;have:=HN.out;omega
   have f7:=(Fr.refl [] wr).alloc (.cells #[.int .i64 z.k,.int .i64 z.v,.slice B2 z.args.length d2,.slice D2 z.fs.length e2,.int .i64 z.rest] 27)
   have HF7:=Lib.hid (HF.out.trans f7)
   have HG7:=Lib.hid (f7.keep HG.out (fun x=>by cases x))
   have hrz:rzT z≤1000000:=by have:=rzTs_at hx;have:=HZZ.out;omega
   have HC2:=Lib.hid (szTs_tk hx)
   have HR2:=Lib.hid (rzTs_tk hx)
   by_cases hc:n≤most
   ·have cS:=fun X (hX:Fr [] W X)=>Lib.hid (IH.out w X ok P z B2 D2 d2 e2 (most-n) hzN (HW.out.trans hX) hrz hty (by omega) (by omega))
    clear hx hok fw hzN hty f7
    go_wp2_with fail
    refine(cS _ HF7.out).out.mono ?_
    rintro e w6 ⟨n6,rfl,hc6,hn6,hr6,f6⟩
    have HG6:=Lib.hid (f6.keep HG7.out (fun x=>by cases x))
    have HF6:=Lib.hid (HF7.out.trans f6)
    have hcut:=cut_add HC.out (z:=szT z) (s:=n6) (fun _=>hc6)
    rw[if_pos hc,Nat.add_assoc,← HC2.out] at hcut
    have HC6:=Lib.hid hcut
    have HR6:Hid (n+n6≤1+rzTs (args.take (i+1))):=Lib.hid (by have h1:=HR.out;rw[HR2.out];omega)
    clear cS hcut f6 hc6 x0 x1 x2 x3 x4 l0 l1 l2 l3 l4
    go_wp2_with fail
    go_roundw
    case rel=>exact⟨i+1,n+n6,by first|rfl|simp|go_num,by first|rfl|simp|go_num,by omega,by omega,HC6,HR6,HG6,HF6⟩
    case measure=>simp[intOf];omega
   ·have hcut:=cut_add HC.out (z:=szT z) (s:=0) (fun c=>absurd c hc)
    rw[if_neg hc,Nat.add_assoc,← HC2.out] at hcut
    have HC6:=Lib.hid hcut
    have HR6:Hid (n≤1+rzTs (args.take (i+1))):=Lib.hid (by have h1:=HR.out;rw[HR2.out];omega)
    clear hx hok fw hzN hty f7 hcut
    go_wp2_with fail
    go_roundw
    case rel=>exact⟨i+1,n,rfl,by first|rfl|simp|go_num,by omega,by omega,HC6,HR6,HG7,HF7⟩
    case measure=>simp[intOf];omega
  ·have q2:¬ (i:Int)<(args.length:Int):=by omega
   rw[List.take_of_length_le (by omega)] at HC HR
   clear hlt
   go_wp2_with fail
   have hw5:∃ w5,w5=wr:=⟨_,rfl⟩
   obtain⟨w5,hw5⟩:=hw5
   subst hw5
   go_loopw [5,32] (fun nv iv wr=>∃ (i:Nat) (n:Int),nv = .int .i64 n∧iv = .int .i64 i∧i≤fs.length∧1≤n∧Hid (Cut (1+szTs args+szFs (fs.take i)) most n)∧Hid (n≤1+rzTs args+rzFs (fs.take i))∧Hid (Fr [] W wr)) (fun nv iv wr=>fs.length-(intOf iv).toNat)
   case atStart=>exact⟨0,n,rfl,rfl,by omega,hn1,Lib.hid (by rw[List.take_zero,szFs];exact HC.out),Lib.hid (by have:=HR.out;simp[rzFs];omega),HF⟩
   case round =>
    clear HC HR HF HG l0 l1 l2 l3 l4 hgs hn1 hnn
    obtain⟨i,n,rfl,rfl,hi,hn1,HC,HR,HF⟩:=hrel
    have q1:(0:Int)≤(i:Int):=by omega
    have hnn:n≤1000001:=by have h1:=HR.out;have h2:=rzFs_tle fs i;have h3:=HZZ.out;omega
    by_cases hlt:i<fs.length
    ·have hx:fs[i]?=some fs[i]:=List.getElem?_eq_getElem hlt
     generalize fs[i]=f at hx
     have q2:(i:Int)<(fs.length:Int):=by omega
     obtain⟨g,og,rfl,hok,hg,Bf,df,Df,ef,hty,x0,x1,x2,x3,x4,x5,x6,x7⟩:=HFS.out.at hx
     have fw:=HW.out.trans HF.out
     replace x0:=(fw.cell (p:=⟨g,og+i * 8,none⟩) hg (fun x=>by cases x)).trans x0
     replace x1:=(fw.cell (p:=⟨g,og+i * 8+1,none⟩) hg (fun x=>by cases x)).trans x1
     replace x2:=(fw.cell (p:=⟨g,og+i * 8+2,none⟩) hg (fun x=>by cases x)).trans x2
     replace x3:=(fw.cell (p:=⟨g,og+i * 8+3,none⟩) hg (fun x=>by cases x)).trans x3
     replace x4:=(fw.cell (p:=⟨g,og+i * 8+4,none⟩) hg (fun x=>by cases x)).trans x4
     replace x5:=(fw.cell (p:=⟨g,og+i * 8+5,none⟩) hg (fun x=>by cases x)).trans x5
     replace x6:=(fw.cell (p:=⟨g,og+i * 8+6,none⟩) hg (fun x=>by cases x)).trans x6
     replace x7:=(fw.cell (p:=⟨g,og+i * 8+7,none⟩) hg (fun x=>by cases x)).trans x7
     have hgw:g<wr.heap.size:=Nat.lt_of_lt_of_le hg fw.size
     have hzN:rzT f.t<N:=by have:=rzFs_at hx;have:=HN.out;omega
     have hrz:rzT f.t≤1000000:=by have:=rzFs_at hx;have:=HZZ.out;omega
     have f7:=(Fr.refl [] wr).alloc (.cells #[.string ⟨f.lb.toArray⟩,.int .i64 f.pr,.int .i64 f.p,.int .i64 f.t.k,.int .i64 f.t.v,.slice Bf f.t.args.length df,.slice Df f.t.fs.length ef,.int .i64 f.t.rest] 44)
     have HF7:=Lib.hid (HF.out.trans f7)
     have hsz:szF f=1+if f.pr=0 then 0 else szT f.t:=by obtain⟨lb,pr,p,t⟩:=f;rw[szF]
     have HR2:=Lib.hid (rzFs_tk hx)
     by_cases hc:n+1≤most∧f.pr≠0
     ·obtain⟨hc1,hc2⟩:=hc
      have hc3:(f.pr==0)=false:=beq_eq_false_iff_ne.2 hc2
      have hc4:(f.pr != 0)=true:=by simp[hc2]
      rw[if_neg hc2] at hsz
      have cS:=fun X (hX:Fr [] W X)=>Lib.hid (IH.out w X ok P f.t Bf Df df ef (most-(n+1)) hzN (HW.out.trans hX) hrz hty (by omega) (by omega))
      have HC2:=Lib.hid (show 1+szTs args+szFs (fs.take (i+1))=1+szTs args+szFs (fs.take i)+1+szT f.t by rw[szFs_tk hx,hsz];omega)
      clear hx hok fw hzN hty f7 hsz hc2
      go_wp2_with fail
      refine(cS _ HF7.out).out.mono ?_
      rintro e w6 ⟨n6,rfl,hc6,hn6,hr6,f6⟩
      have HF6:=Lib.hid (HF7.out.trans f6)
      have hcut:=cut_add (cut_one HC.out) (z:=szT f.t) (s:=n6) (fun _=>hc6)
      rw[if_pos hc1,← HC2.out] at hcut
      have HC6:=Lib.hid hcut
      have HR6:Hid (n+1+n6≤1+rzTs args+rzFs (fs.take (i+1))):=Lib.hid (by have h1:=HR.out;rw[HR2.out];omega)
      clear cS hcut f6 hc6 x0 x1 x2 x3 x4 x5 x6 x7
      go_wp2_with fail
      go_roundw
      case rel=>exact⟨i+1,n+1+n6,by first|rfl|simp|go_num,by first|rfl|simp|go_num,by omega,by omega,HC6,HR6,HF6⟩
      case measure=>simp[intOf];omega
     ·have hcut2:Cut (1+szTs args+szFs (fs.take (i+1))) most (n+1):=by
       rw[szFs_tk hx,hsz]
       by_cases h0:f.pr=0
       ·rw[if_pos h0,← Nat.add_assoc];exact cut_one HC.out
       ·rw[if_neg h0]
        have hcut:=cut_add (cut_one HC.out) (z:=szT f.t) (s:=0) (fun c=>absurd ⟨c,h0⟩ hc)
        rw[if_neg (fun c=>hc ⟨c,h0⟩)] at hcut
        rw[← Nat.add_assoc,← Nat.add_assoc];exact hcut
      have HC6:=Lib.hid hcut2
      have HR6:Hid (n+1≤1+rzTs args+rzFs (fs.take (i+1))):=Lib.hid (by have h1:=HR.out;rw[HR2.out];omega)
      have hcc:¬ (n+1≤most)∨((n+1≤most)∧f.pr=0):=by
       by_cases h1:n+1≤most
       ·exact .inr ⟨h1,Classical.byContradiction (fun h2=>hc ⟨h1,h2⟩)⟩
       ·exact .inl h1
      clear hx hok fw hzN hty f7 hsz hcut2 hc
      rcases hcc with h1|⟨h1,h2⟩
      ·go_wp2_with fail
       go_roundw
       case rel=>exact⟨i+1,n+1,by first|rfl|simp|go_num,by first|rfl|simp|go_num,by omega,by omega,HC6,HR6,HF7⟩
       case measure=>simp[intOf];omega
      ·have hc3:(f.pr==0)=true:=by simp[h2]
       have hc4:(f.pr != 0)=false:=by simp[h2]
       clear h2
       go_wp2_with fail
       go_roundw
       case rel=>exact⟨i+1,n+1,by first|rfl|simp|go_num,by first|rfl|simp|go_num,by omega,by omega,HC6,HR6,HF7⟩
       case measure=>simp[intOf];omega
    ·have q2:¬ (i:Int)<(fs.length:Int):=by omega
     rw[List.take_of_length_le (by omega)] at HC HR
     go_wp2_with fail
     go_ret
     exact⟨n,rfl,HC.out,hn1,by have:=HR.out;omega,HF.out⟩
theorem count_all:∀ N,RCC N
 | 0=>by intro _ _ _ _ _ _ _ _ _ _ h;exact absurd h (Nat.not_lt_zero _)
 | N+1=>count_step N (count_all N)
end
section
variable [LoB]
attribute [local instance] Ex.no
theorem lty_any(W:World)(k:Int):Calls Tryz.prog 21 #[.int .i64 k] W fun e w'=>e = .returned (.agg #[.int .i64 k,.int .i64 0,.slice none 0 0,.slice none 0 0,.int .i64 0])∧Fr [] W w':=by
 have HF:=Lib.hid ((Fr.refl [] W).alloc (.cells #[.int .i64 k,.int .i64 0,.slice none 0 0,.slice none 0 0,.int .i64 0] 27))
 have g0:=heap_new W (.cells #[.int .i64 k,.int .i64 0,.slice none 0 0,.slice none 0 0,.int .i64 0] 27)
 have HR:=Lib.hid (cells5 g0).1
 clear g0
 go_enter Tryz.func21,Tryz.ntmps21
 go_wp2_with fail
 obtain⟨r0,r1,r2,r3,r4⟩:=HR.out
 refine bodyPost_ret (v:=.agg #[.int .i64 k,.int .i64 0,.slice none 0 0,.slice none 0 0,.int .i64 0]) ?_ rfl ?_
 ·simp[results,Tryz.f21,go_sem,r0,r1,r2,r3,r4]
 ·exact⟨rfl,HF.out⟩
theorem lv_any(W:World)(n:Int):Calls Tryz.prog 22 #[.int .i64 n] W fun e w'=>e = .returned (.agg #[.int .i64 1,.int .i64 n,.slice none 0 0,.slice none 0 0,.int .i64 0])∧Fr [] W w':=by
 have HF:=Lib.hid ((Fr.refl [] W).alloc (.cells #[.int .i64 1,.int .i64 n,.slice none 0 0,.slice none 0 0,.int .i64 0] 27))
 have g0:=heap_new W (.cells #[.int .i64 1,.int .i64 n,.slice none 0 0,.slice none 0 0,.int .i64 0] 27)
 have HR:=Lib.hid (cells5 g0).1
 clear g0
 go_enter Tryz.func22,Tryz.ntmps22
 go_wp2_with fail
 obtain⟨r0,r1,r2,r3,r4⟩:=HR.out
 refine bodyPost_ret (v:=.agg #[.int .i64 1,.int .i64 n,.slice none 0 0,.slice none 0 0,.int .i64 0]) ?_ rfl ?_
 ·simp[results,Tryz.f22,go_sem,r0,r1,r2,r3,r4]
 ·exact⟨rfl,HF.out⟩
theorem lrec_any(W:World)(r:Int)(A:Option Addr)(n c:Nat):Calls Tryz.prog 20 #[.int .i64 r,.slice A n c] W fun e w'=>e = .returned (.agg #[.int .i64 10,.int .i64 0,.slice none 0 0,.slice A n c,.int .i64 r])∧Fr [] W w':=by
 have HF:=Lib.hid ((Fr.refl [] W).alloc (.cells #[.int .i64 10,.int .i64 0,.slice none 0 0,.slice A n c,.int .i64 r] 27))
 have g0:=heap_new W (.cells #[.int .i64 10,.int .i64 0,.slice none 0 0,.slice A n c,.int .i64 r] 27)
 have HR:=Lib.hid (cells5 g0).1
 clear g0
 go_enter Tryz.func20,Tryz.ntmps20
 go_wp2_with fail
 obtain⟨r0,r1,r2,r3,r4⟩:=HR.out
 refine bodyPost_ret (v:=.agg #[.int .i64 10,.int .i64 0,.slice none 0 0,.slice A n c,.int .i64 r]) ?_ rfl ?_
 ·simp[results,Tryz.f20,go_sem,r0,r1,r2,r3,r4]
 ·exact⟨rfl,HF.out⟩
theorem psize_any{w W:World}{ok:Nat→Prop}{P:List UInt8→Prop}{t:TyT}{A B:Option Addr}{c d:Nat}{most:Int}(hW:Fr [] w W)(hz:rzT t≤1000000)(ht:TyAt w ok P t [.int .i64 t.k,.int .i64 t.v,.slice A t.args.length c,.slice B t.fs.length d,.int .i64 t.rest])(hm:(szT t:Int)≤most)(hm2:most≤5000):
  Calls Tryz.prog 25 #[.agg #[.int .i64 t.k,.int .i64 t.v,.slice A t.args.length c,.slice B t.fs.length d,.int .i64 t.rest],.int .i64 most] W fun e w'=>e = .returned (.int .i64 (szT t))∧Fr [] W w':=by
 have f0:=(Fr.refl [] W).alloc (.cells #[.int .i64 t.k,.int .i64 t.v,.slice A t.args.length c,.slice B t.fs.length d,.int .i64 t.rest] 27)
 have g0:=heap_new W (.cells #[.int .i64 t.k,.int .i64 t.v,.slice A t.args.length c,.slice B t.fs.length d,.int .i64 t.rest] 27)
 obtain⟨⟨l0,l1,l2,l3,l4⟩,_⟩:=cells5 g0
 have hgs:=lt_of_heap g0
 have h1:1≤szT t:=by obtain⟨k,v,a,f,r⟩:=t;rw[szT];omega
 have q0:¬ most<0:=by omega
 have cC:=Lib.hid (count_all _ w _ ok P t A B c d most (Nat.lt_succ_self _) (hW.trans f0) hz ht (by omega) hm2)
 have HF:=Lib.hid f0
 clear f0 g0 ht hW hz
 obtain⟨S,hS⟩:∃ S:Int,S=szT t:=⟨_,rfl⟩
 rw[← hS] at hm ⊢
 have HS:=Lib.hid hS
 clear hS h1
 go_enter Tryz.func25,Tryz.ntmps25
 go_wp2_with fail
 refine cC.out.mono ?_
 rintro e w6 ⟨n,rfl,hc,hn1,hn2,f6⟩
 have hn:n=S:=by rw[HS.out];exact hc.1 (by rw[← HS.out];exact hm)
 have HF6:=Lib.hid (HF.out.trans f6)
 subst hn
 clear hc f6 cC hn2
 have q1:¬ most+1<n:=by omega
 have q2:n<most+1:=by omega
 have q3:n≤most+1:=by omega
 go_wp2_with fail
 go_ret
 exact⟨by first|rfl|simp,HF6.out⟩
end
end
end Go.Proofs.YtoimdiballicnaaGreatDoor
