/- Printed by a changed copy of the kit's print.py for all laws of the seat at once (one namespace): functions and their contracts; some parts by hand. -/
import Derived.Test.YtcbimnmpdpkefaaDoorAx0
namespace Go.Proofs.YtcbimnmpdpkefaaDoor.A
open Go.RowKit Go.Proofs.YtcbimnmpdpkefaaDoorW.PrintWords Go.Proofs.YtcbimnmpdpkefaaDoorW.PrintLast Go.Proofs.YtcbimnmpdpkefaaDoorW.PrintMore
attribute [local go_sem] max2_int min2_int max_two min_two max_three min_three max_four min_four   -- for this text's walks alone
set_option linter.unusedVariables false
set_option linter.unusedSimpArgs false

/-! ### scholiastref20_Name: function 17 -/
def scholiastref20_Name.f (a0 : Int) : Option (ByteArray) := if a0 = 101 then (some (⟨#[98, 121, 116, 101, 115, 32, 116, 104, 97, 116, 32, 97, 114, 101, 32, 110, 111, 32, 85, 84, 70, 45, 56]⟩ : ByteArray)) else (if a0 = 102 then (some (⟨#[97, 32, 98, 121, 116, 101, 32, 48]⟩ : ByteArray)) else (if a0 = 103 then (some (⟨#[97, 32, 98, 121, 116, 101, 32, 111, 114, 100, 101, 114, 32, 109, 97, 114, 107]⟩ : ByteArray)) else (if a0 = 104 then (some (⟨#[97, 32, 99, 104, 97, 114, 97, 99, 116, 101, 114, 32, 111, 102, 32, 110, 111, 32, 116, 111, 107, 101, 110]⟩ : ByteArray)) else (if a0 = 105 then (some (⟨#[97, 32, 99, 111, 109, 109, 101, 110, 116, 32, 119, 105, 116, 104, 111, 117, 116, 32, 97, 110, 32, 101, 110, 100]⟩ : ByteArray)) else (if a0 = 106 then (some (⟨#[97, 32, 116, 101, 120, 116, 32, 119, 105, 116, 104, 111, 117, 116, 32, 97, 110, 32, 101, 110, 100]⟩ : ByteArray)) else (if a0 = 107 then (some (⟨#[110, 111, 32, 114, 117, 110, 101]⟩ : ByteArray)) else (if a0 = 108 then (some (⟨#[110, 111, 32, 101, 115, 99, 97, 112, 101]⟩ : ByteArray)) else (if a0 = 109 then (some (⟨#[110, 111, 32, 110, 117, 109, 98, 101, 114]⟩ : ByteArray)) else (if a0 = 201 then (some (⟨#[115, 121, 110, 116, 97, 120]⟩ : ByteArray)) else (if a0 = 202 then (some (⟨#[116, 111, 111, 32, 100, 101, 101, 112]⟩ : ByteArray)) else (if a0 = 203 then (some (⟨#[112, 97, 99, 107, 97, 103, 101, 32, 99, 108, 97, 117, 115, 101]⟩ : ByteArray)) else (if a0 = 204 then (some (⟨#[97, 110, 32, 105, 109, 112, 111, 114, 116, 32, 98, 101, 104, 105, 110, 100, 32, 97, 32, 100, 101, 99, 108, 97, 114, 97, 116, 105, 111, 110]⟩ : ByteArray)) else (if a0 = 301 then (some (⟨#[110, 111, 32, 115, 117, 99, 104, 32, 112, 97, 99, 107, 97, 103, 101]⟩ : ByteArray)) else (if a0 = 302 then (some (⟨#[97, 110, 32, 105, 109, 112, 111, 114, 116, 32, 105, 110, 32, 97, 32, 114, 105, 110, 103]⟩ : ByteArray)) else (if a0 = 303 then (some (⟨#[97, 110, 111, 116, 104, 101, 114, 32, 112, 97, 99, 107, 97, 103, 101, 32, 110, 97, 109, 101]⟩ : ByteArray)) else (if a0 = 304 then (some (⟨#[97, 110, 32, 105, 109, 112, 111, 114, 116, 32, 111, 102, 32, 97, 32, 112, 97, 99, 107, 97, 103, 101, 32, 119, 105, 116, 104, 32, 101, 114, 114, 111, 114, 115]⟩ : ByteArray)) else (if a0 = 401 then (some (⟨#[100, 101, 99, 108, 97, 114, 101, 100, 32, 97, 108, 114, 101, 97, 100, 121]⟩ : ByteArray)) else (if a0 = 402 then (some (⟨#[110, 111, 116, 32, 100, 101, 99, 108, 97, 114, 101, 100]⟩ : ByteArray)) else (if a0 = 403 then (some (⟨#[97, 32, 118, 97, 114, 105, 97, 98, 108, 101, 32, 116, 104, 97, 116, 32, 105, 115, 32, 110, 111, 116, 32, 117, 115, 101, 100]⟩ : ByteArray)) else (if a0 = 404 then (some (⟨#[97, 110, 32, 105, 109, 112, 111, 114, 116, 32, 116, 104, 97, 116, 32, 105, 115, 32, 110, 111, 116, 32, 117, 115, 101, 100]⟩ : ByteArray)) else (if a0 = 405 then (some (⟨#[110, 111, 32, 115, 117, 99, 104, 32, 108, 97, 98, 101, 108]⟩ : ByteArray)) else (if a0 = 406 then (some (⟨#[97, 32, 108, 97, 98, 101, 108, 32, 116, 104, 97, 116, 32, 105, 115, 32, 110, 111, 116, 32, 117, 115, 101, 100]⟩ : ByteArray)) else (if a0 = 501 then (some (⟨#[110, 111, 32, 99, 111, 110, 115, 116, 97, 110, 116]⟩ : ByteArray)) else (if a0 = 502 then (some (⟨#[97, 32, 99, 111, 110, 115, 116, 97, 110, 116, 32, 116, 104, 97, 116, 32, 105, 115, 32, 116, 111, 111, 32, 108, 97, 114, 103, 101]⟩ : ByteArray)) else (if a0 = 503 then (some (⟨#[110, 111, 116, 32, 111, 102, 32, 116, 104, 101, 32, 116, 121, 112, 101]⟩ : ByteArray)) else (if a0 = 504 then (some (⟨#[100, 105, 118, 105, 115, 105, 111, 110, 32, 98, 121, 32, 48]⟩ : ByteArray)) else (if a0 = 505 then (some (⟨#[97, 32, 115, 104, 105, 102, 116, 32, 99, 111, 117, 110, 116]⟩ : ByteArray)) else (if a0 = 511 then (some (⟨#[110, 111, 32, 116, 121, 112, 101]⟩ : ByteArray)) else (if a0 = 512 then (some (⟨#[110, 111, 32, 118, 97, 108, 117, 101]⟩ : ByteArray)) else (if a0 = 513 then (some (⟨#[116, 121, 112, 101, 115, 32, 116, 104, 97, 116, 32, 100, 111, 32, 110, 111, 116, 32, 109, 97, 116, 99, 104]⟩ : ByteArray)) else (if a0 = 514 then (some (⟨#[110, 111, 32, 115, 117, 99, 104, 32, 111, 112, 101, 114, 97, 116, 111, 114]⟩ : ByteArray)) else (if a0 = 515 then (some (⟨#[119, 104, 97, 116, 32, 99, 97, 110, 32, 110, 111, 116, 32, 98, 101, 32, 97, 115, 115, 105, 103, 110, 101, 100, 32, 116, 111]⟩ : ByteArray)) else (if a0 = 516 then (some (⟨#[119, 104, 97, 116, 32, 99, 97, 110, 32, 110, 111, 116, 32, 98, 101, 32, 97, 115, 115, 105, 103, 110, 101, 100]⟩ : ByteArray)) else (if a0 = 517 then (some (⟨#[110, 111, 32, 102, 117, 110, 99, 116, 105, 111, 110]⟩ : ByteArray)) else (if a0 = 518 then (some (⟨#[97, 110, 111, 116, 104, 101, 114, 32, 110, 117, 109, 98, 101, 114]⟩ : ByteArray)) else (if a0 = 519 then (some (⟨#[110, 111, 32, 115, 117, 99, 104, 32, 102, 105, 101, 108, 100, 32, 111, 114, 32, 109, 101, 116, 104, 111, 100]⟩ : ByteArray)) else (if a0 = 520 then (some (⟨#[97, 110, 32, 105, 110, 100, 101, 120]⟩ : ByteArray)) else (if a0 = 521 then (some (⟨#[97, 32, 108, 105, 116, 101, 114, 97, 108]⟩ : ByteArray)) else (if a0 = 522 then (some (⟨#[97, 32, 99, 111, 110, 118, 101, 114, 115, 105, 111, 110]⟩ : ByteArray)) else (if a0 = 523 then (some (⟨#[97, 110, 32, 97, 115, 115, 101, 114, 116, 105, 111, 110]⟩ : ByteArray)) else (if a0 = 524 then (some (⟨#[97, 32, 98, 117, 105, 108, 116, 45, 105, 110, 32, 102, 117, 110, 99, 116, 105, 111, 110]⟩ : ByteArray)) else (if a0 = 525 then (some (⟨#[97, 32, 110, 105, 108, 32, 119, 105, 116, 104, 111, 117, 116, 32, 97, 32, 116, 121, 112, 101]⟩ : ByteArray)) else (if a0 = 526 then (some (⟨#[116, 121, 112, 101, 32, 97, 114, 103, 117, 109, 101, 110, 116, 115]⟩ : ByteArray)) else (if a0 = 527 then (some (⟨#[97, 32, 116, 121, 112, 101, 32, 97, 114, 103, 117, 109, 101, 110, 116, 32, 116, 104, 97, 116, 32, 99, 97, 110, 32, 110, 111, 116, 32, 98, 101, 32, 116, 111, 108, 100]⟩ : ByteArray)) else (if a0 = 528 then (some (⟨#[97, 32, 99, 111, 110, 115, 116, 114, 97, 105, 110, 116]⟩ : ByteArray)) else (if a0 = 529 then (some (⟨#[119, 104, 97, 116, 32, 99, 97, 110, 32, 110, 111, 116, 32, 98, 101, 32, 99, 111, 109, 112, 97, 114, 101, 100]⟩ : ByteArray)) else (if a0 = 530 then (some (⟨#[97, 32, 118, 97, 108, 117, 101, 32, 116, 104, 97, 116, 32, 105, 115, 32, 110, 111, 116, 32, 117, 115, 101, 100]⟩ : ByteArray)) else (if a0 = 541 then (some (⟨#[114, 101, 115, 117, 108, 116, 115]⟩ : ByteArray)) else (if a0 = 542 then (some (⟨#[97, 32, 99, 97, 115, 101]⟩ : ByteArray)) else (if a0 = 543 then (some (⟨#[97, 32, 106, 117, 109, 112]⟩ : ByteArray)) else (if a0 = 551 then (some (⟨#[97, 32, 116, 121, 112, 101, 32, 116, 104, 97, 116, 32, 99, 111, 110, 116, 97, 105, 110, 115, 32, 105, 116, 115, 101, 108, 102]⟩ : ByteArray)) else (if a0 = 552 then (some (⟨#[119, 104, 97, 116, 32, 110, 101, 101, 100, 115, 32, 105, 116, 115, 101, 108, 102]⟩ : ByteArray)) else (if a0 = 553 then (some (⟨#[97, 32, 114, 101, 99, 101, 105, 118, 101, 114]⟩ : ByteArray)) else (if a0 = 554 then (some (⟨#[97, 32, 109, 101, 116, 104, 111, 100, 32, 97, 103, 97, 105, 110]⟩ : ByteArray)) else (if a0 = 555 then (some (⟨#[105, 110, 105, 116, 32, 111, 114, 32, 109, 97, 105, 110]⟩ : ByteArray)) else (if a0 = 561 then (some (⟨#[97, 32, 108, 105, 109, 105, 116]⟩ : ByteArray)) else (some (⟨#[]⟩ : ByteArray))))))))))))))))))))))))))))))))))))))))))))))))))))))))))
set_option maxHeartbeats 8000000 in
set_option maxRecDepth 100000 in
theorem scholiastref20_Name.calls (a0 : Int) (r : ByteArray) (w : World) (h : scholiastref20_Name.f a0 = some r) :
    Calls Tryd.prog 17 #[.int .i64 a0] w fun e w' => e = .returned (.string r) ∧ Drawn0 w w' := by
  have H : (if a0 = 101 then (some (⟨#[98, 121, 116, 101, 115, 32, 116, 104, 97, 116, 32, 97, 114, 101, 32, 110, 111, 32, 85, 84, 70, 45, 56]⟩ : ByteArray)) else (if a0 = 102 then (some (⟨#[97, 32, 98, 121, 116, 101, 32, 48]⟩ : ByteArray)) else (if a0 = 103 then (some (⟨#[97, 32, 98, 121, 116, 101, 32, 111, 114, 100, 101, 114, 32, 109, 97, 114, 107]⟩ : ByteArray)) else (if a0 = 104 then (some (⟨#[97, 32, 99, 104, 97, 114, 97, 99, 116, 101, 114, 32, 111, 102, 32, 110, 111, 32, 116, 111, 107, 101, 110]⟩ : ByteArray)) else (if a0 = 105 then (some (⟨#[97, 32, 99, 111, 109, 109, 101, 110, 116, 32, 119, 105, 116, 104, 111, 117, 116, 32, 97, 110, 32, 101, 110, 100]⟩ : ByteArray)) else (if a0 = 106 then (some (⟨#[97, 32, 116, 101, 120, 116, 32, 119, 105, 116, 104, 111, 117, 116, 32, 97, 110, 32, 101, 110, 100]⟩ : ByteArray)) else (if a0 = 107 then (some (⟨#[110, 111, 32, 114, 117, 110, 101]⟩ : ByteArray)) else (if a0 = 108 then (some (⟨#[110, 111, 32, 101, 115, 99, 97, 112, 101]⟩ : ByteArray)) else (if a0 = 109 then (some (⟨#[110, 111, 32, 110, 117, 109, 98, 101, 114]⟩ : ByteArray)) else (if a0 = 201 then (some (⟨#[115, 121, 110, 116, 97, 120]⟩ : ByteArray)) else (if a0 = 202 then (some (⟨#[116, 111, 111, 32, 100, 101, 101, 112]⟩ : ByteArray)) else (if a0 = 203 then (some (⟨#[112, 97, 99, 107, 97, 103, 101, 32, 99, 108, 97, 117, 115, 101]⟩ : ByteArray)) else (if a0 = 204 then (some (⟨#[97, 110, 32, 105, 109, 112, 111, 114, 116, 32, 98, 101, 104, 105, 110, 100, 32, 97, 32, 100, 101, 99, 108, 97, 114, 97, 116, 105, 111, 110]⟩ : ByteArray)) else (if a0 = 301 then (some (⟨#[110, 111, 32, 115, 117, 99, 104, 32, 112, 97, 99, 107, 97, 103, 101]⟩ : ByteArray)) else (if a0 = 302 then (some (⟨#[97, 110, 32, 105, 109, 112, 111, 114, 116, 32, 105, 110, 32, 97, 32, 114, 105, 110, 103]⟩ : ByteArray)) else (if a0 = 303 then (some (⟨#[97, 110, 111, 116, 104, 101, 114, 32, 112, 97, 99, 107, 97, 103, 101, 32, 110, 97, 109, 101]⟩ : ByteArray)) else (if a0 = 304 then (some (⟨#[97, 110, 32, 105, 109, 112, 111, 114, 116, 32, 111, 102, 32, 97, 32, 112, 97, 99, 107, 97, 103, 101, 32, 119, 105, 116, 104, 32, 101, 114, 114, 111, 114, 115]⟩ : ByteArray)) else (if a0 = 401 then (some (⟨#[100, 101, 99, 108, 97, 114, 101, 100, 32, 97, 108, 114, 101, 97, 100, 121]⟩ : ByteArray)) else (if a0 = 402 then (some (⟨#[110, 111, 116, 32, 100, 101, 99, 108, 97, 114, 101, 100]⟩ : ByteArray)) else (if a0 = 403 then (some (⟨#[97, 32, 118, 97, 114, 105, 97, 98, 108, 101, 32, 116, 104, 97, 116, 32, 105, 115, 32, 110, 111, 116, 32, 117, 115, 101, 100]⟩ : ByteArray)) else (if a0 = 404 then (some (⟨#[97, 110, 32, 105, 109, 112, 111, 114, 116, 32, 116, 104, 97, 116, 32, 105, 115, 32, 110, 111, 116, 32, 117, 115, 101, 100]⟩ : ByteArray)) else (if a0 = 405 then (some (⟨#[110, 111, 32, 115, 117, 99, 104, 32, 108, 97, 98, 101, 108]⟩ : ByteArray)) else (if a0 = 406 then (some (⟨#[97, 32, 108, 97, 98, 101, 108, 32, 116, 104, 97, 116, 32, 105, 115, 32, 110, 111, 116, 32, 117, 115, 101, 100]⟩ : ByteArray)) else (if a0 = 501 then (some (⟨#[110, 111, 32, 99, 111, 110, 115, 116, 97, 110, 116]⟩ : ByteArray)) else (if a0 = 502 then (some (⟨#[97, 32, 99, 111, 110, 115, 116, 97, 110, 116, 32, 116, 104, 97, 116, 32, 105, 115, 32, 116, 111, 111, 32, 108, 97, 114, 103, 101]⟩ : ByteArray)) else (if a0 = 503 then (some (⟨#[110, 111, 116, 32, 111, 102, 32, 116, 104, 101, 32, 116, 121, 112, 101]⟩ : ByteArray)) else (if a0 = 504 then (some (⟨#[100, 105, 118, 105, 115, 105, 111, 110, 32, 98, 121, 32, 48]⟩ : ByteArray)) else (if a0 = 505 then (some (⟨#[97, 32, 115, 104, 105, 102, 116, 32, 99, 111, 117, 110, 116]⟩ : ByteArray)) else (if a0 = 511 then (some (⟨#[110, 111, 32, 116, 121, 112, 101]⟩ : ByteArray)) else (if a0 = 512 then (some (⟨#[110, 111, 32, 118, 97, 108, 117, 101]⟩ : ByteArray)) else (if a0 = 513 then (some (⟨#[116, 121, 112, 101, 115, 32, 116, 104, 97, 116, 32, 100, 111, 32, 110, 111, 116, 32, 109, 97, 116, 99, 104]⟩ : ByteArray)) else (if a0 = 514 then (some (⟨#[110, 111, 32, 115, 117, 99, 104, 32, 111, 112, 101, 114, 97, 116, 111, 114]⟩ : ByteArray)) else (if a0 = 515 then (some (⟨#[119, 104, 97, 116, 32, 99, 97, 110, 32, 110, 111, 116, 32, 98, 101, 32, 97, 115, 115, 105, 103, 110, 101, 100, 32, 116, 111]⟩ : ByteArray)) else (if a0 = 516 then (some (⟨#[119, 104, 97, 116, 32, 99, 97, 110, 32, 110, 111, 116, 32, 98, 101, 32, 97, 115, 115, 105, 103, 110, 101, 100]⟩ : ByteArray)) else (if a0 = 517 then (some (⟨#[110, 111, 32, 102, 117, 110, 99, 116, 105, 111, 110]⟩ : ByteArray)) else (if a0 = 518 then (some (⟨#[97, 110, 111, 116, 104, 101, 114, 32, 110, 117, 109, 98, 101, 114]⟩ : ByteArray)) else (if a0 = 519 then (some (⟨#[110, 111, 32, 115, 117, 99, 104, 32, 102, 105, 101, 108, 100, 32, 111, 114, 32, 109, 101, 116, 104, 111, 100]⟩ : ByteArray)) else (if a0 = 520 then (some (⟨#[97, 110, 32, 105, 110, 100, 101, 120]⟩ : ByteArray)) else (if a0 = 521 then (some (⟨#[97, 32, 108, 105, 116, 101, 114, 97, 108]⟩ : ByteArray)) else (if a0 = 522 then (some (⟨#[97, 32, 99, 111, 110, 118, 101, 114, 115, 105, 111, 110]⟩ : ByteArray)) else (if a0 = 523 then (some (⟨#[97, 110, 32, 97, 115, 115, 101, 114, 116, 105, 111, 110]⟩ : ByteArray)) else (if a0 = 524 then (some (⟨#[97, 32, 98, 117, 105, 108, 116, 45, 105, 110, 32, 102, 117, 110, 99, 116, 105, 111, 110]⟩ : ByteArray)) else (if a0 = 525 then (some (⟨#[97, 32, 110, 105, 108, 32, 119, 105, 116, 104, 111, 117, 116, 32, 97, 32, 116, 121, 112, 101]⟩ : ByteArray)) else (if a0 = 526 then (some (⟨#[116, 121, 112, 101, 32, 97, 114, 103, 117, 109, 101, 110, 116, 115]⟩ : ByteArray)) else (if a0 = 527 then (some (⟨#[97, 32, 116, 121, 112, 101, 32, 97, 114, 103, 117, 109, 101, 110, 116, 32, 116, 104, 97, 116, 32, 99, 97, 110, 32, 110, 111, 116, 32, 98, 101, 32, 116, 111, 108, 100]⟩ : ByteArray)) else (if a0 = 528 then (some (⟨#[97, 32, 99, 111, 110, 115, 116, 114, 97, 105, 110, 116]⟩ : ByteArray)) else (if a0 = 529 then (some (⟨#[119, 104, 97, 116, 32, 99, 97, 110, 32, 110, 111, 116, 32, 98, 101, 32, 99, 111, 109, 112, 97, 114, 101, 100]⟩ : ByteArray)) else (if a0 = 530 then (some (⟨#[97, 32, 118, 97, 108, 117, 101, 32, 116, 104, 97, 116, 32, 105, 115, 32, 110, 111, 116, 32, 117, 115, 101, 100]⟩ : ByteArray)) else (if a0 = 541 then (some (⟨#[114, 101, 115, 117, 108, 116, 115]⟩ : ByteArray)) else (if a0 = 542 then (some (⟨#[97, 32, 99, 97, 115, 101]⟩ : ByteArray)) else (if a0 = 543 then (some (⟨#[97, 32, 106, 117, 109, 112]⟩ : ByteArray)) else (if a0 = 551 then (some (⟨#[97, 32, 116, 121, 112, 101, 32, 116, 104, 97, 116, 32, 99, 111, 110, 116, 97, 105, 110, 115, 32, 105, 116, 115, 101, 108, 102]⟩ : ByteArray)) else (if a0 = 552 then (some (⟨#[119, 104, 97, 116, 32, 110, 101, 101, 100, 115, 32, 105, 116, 115, 101, 108, 102]⟩ : ByteArray)) else (if a0 = 553 then (some (⟨#[97, 32, 114, 101, 99, 101, 105, 118, 101, 114]⟩ : ByteArray)) else (if a0 = 554 then (some (⟨#[97, 32, 109, 101, 116, 104, 111, 100, 32, 97, 103, 97, 105, 110]⟩ : ByteArray)) else (if a0 = 555 then (some (⟨#[105, 110, 105, 116, 32, 111, 114, 32, 109, 97, 105, 110]⟩ : ByteArray)) else (if a0 = 561 then (some (⟨#[97, 32, 108, 105, 109, 105, 116]⟩ : ByteArray)) else (some (⟨#[]⟩ : ByteArray))))))))))))))))))))))))))))))))))))))))))))))))))))))))))) = some r := h
  clear h
  by_cases c2 : a0 = 101
  · rw [if_pos c2] at H
    have c2b0 : (a0 == 101) = true := beq_iff_eq.mpr c2
    have c2b1 : (a0 != 101) = false := bne_eq_false_iff_eq.mpr c2
    clear c2
    obtain rfl := Option.some.inj H
    go_enter Tryd.func17, Tryd.ntmps17
    go_wp2
    go_ret
    exact ⟨by first | rfl | (simp; done) | (simp [*]; done), by repeat (first | exact Drawn0.refl _ | apply Drawn0.step)⟩
  · rw [if_neg c2] at H
    have c2b0 : (a0 == 101) = false := beq_eq_false_iff_ne.mpr c2
    have c2b1 : (a0 != 101) = true := bne_iff_ne.mpr c2
    by_cases c3 : a0 = 102
    · rw [if_pos c3] at H
      have c3b0 : (a0 == 102) = true := beq_iff_eq.mpr c3
      have c3b1 : (a0 != 102) = false := bne_eq_false_iff_eq.mpr c3
      clear c3
      obtain rfl := Option.some.inj H
      go_enter Tryd.func17, Tryd.ntmps17
      go_wp2
      go_ret
      exact ⟨by first | rfl | (simp; done) | (simp [*]; done), by repeat (first | exact Drawn0.refl _ | apply Drawn0.step)⟩
    · rw [if_neg c3] at H
      have c3b0 : (a0 == 102) = false := beq_eq_false_iff_ne.mpr c3
      have c3b1 : (a0 != 102) = true := bne_iff_ne.mpr c3
      by_cases c4 : a0 = 103
      · rw [if_pos c4] at H
        have c4b0 : (a0 == 103) = true := beq_iff_eq.mpr c4
        have c4b1 : (a0 != 103) = false := bne_eq_false_iff_eq.mpr c4
        clear c4
        obtain rfl := Option.some.inj H
        go_enter Tryd.func17, Tryd.ntmps17
        go_wp2
        go_ret
        exact ⟨by first | rfl | (simp; done) | (simp [*]; done), by repeat (first | exact Drawn0.refl _ | apply Drawn0.step)⟩
      · rw [if_neg c4] at H
        have c4b0 : (a0 == 103) = false := beq_eq_false_iff_ne.mpr c4
        have c4b1 : (a0 != 103) = true := bne_iff_ne.mpr c4
        by_cases c5 : a0 = 104
        · rw [if_pos c5] at H
          have c5b0 : (a0 == 104) = true := beq_iff_eq.mpr c5
          have c5b1 : (a0 != 104) = false := bne_eq_false_iff_eq.mpr c5
          clear c5
          obtain rfl := Option.some.inj H
          go_enter Tryd.func17, Tryd.ntmps17
          go_wp2
          go_ret
          exact ⟨by first | rfl | (simp; done) | (simp [*]; done), by repeat (first | exact Drawn0.refl _ | apply Drawn0.step)⟩
        · rw [if_neg c5] at H
          have c5b0 : (a0 == 104) = false := beq_eq_false_iff_ne.mpr c5
          have c5b1 : (a0 != 104) = true := bne_iff_ne.mpr c5
          by_cases c6 : a0 = 105
          · rw [if_pos c6] at H
            have c6b0 : (a0 == 105) = true := beq_iff_eq.mpr c6
            have c6b1 : (a0 != 105) = false := bne_eq_false_iff_eq.mpr c6
            clear c6
            obtain rfl := Option.some.inj H
            go_enter Tryd.func17, Tryd.ntmps17
            go_wp2
            go_ret
            exact ⟨by first | rfl | (simp; done) | (simp [*]; done), by repeat (first | exact Drawn0.refl _ | apply Drawn0.step)⟩
          · rw [if_neg c6] at H
            have c6b0 : (a0 == 105) = false := beq_eq_false_iff_ne.mpr c6
            have c6b1 : (a0 != 105) = true := bne_iff_ne.mpr c6
            by_cases c7 : a0 = 106
            · rw [if_pos c7] at H
              have c7b0 : (a0 == 106) = true := beq_iff_eq.mpr c7
              have c7b1 : (a0 != 106) = false := bne_eq_false_iff_eq.mpr c7
              clear c7
              obtain rfl := Option.some.inj H
              go_enter Tryd.func17, Tryd.ntmps17
              go_wp2
              go_ret
              exact ⟨by first | rfl | (simp; done) | (simp [*]; done), by repeat (first | exact Drawn0.refl _ | apply Drawn0.step)⟩
            · rw [if_neg c7] at H
              have c7b0 : (a0 == 106) = false := beq_eq_false_iff_ne.mpr c7
              have c7b1 : (a0 != 106) = true := bne_iff_ne.mpr c7
              by_cases c8 : a0 = 107
              · rw [if_pos c8] at H
                have c8b0 : (a0 == 107) = true := beq_iff_eq.mpr c8
                have c8b1 : (a0 != 107) = false := bne_eq_false_iff_eq.mpr c8
                clear c8
                obtain rfl := Option.some.inj H
                go_enter Tryd.func17, Tryd.ntmps17
                go_wp2
                go_ret
                exact ⟨by first | rfl | (simp; done) | (simp [*]; done), by repeat (first | exact Drawn0.refl _ | apply Drawn0.step)⟩
              · rw [if_neg c8] at H
                have c8b0 : (a0 == 107) = false := beq_eq_false_iff_ne.mpr c8
                have c8b1 : (a0 != 107) = true := bne_iff_ne.mpr c8
                by_cases c9 : a0 = 108
                · rw [if_pos c9] at H
                  have c9b0 : (a0 == 108) = true := beq_iff_eq.mpr c9
                  have c9b1 : (a0 != 108) = false := bne_eq_false_iff_eq.mpr c9
                  clear c9
                  obtain rfl := Option.some.inj H
                  go_enter Tryd.func17, Tryd.ntmps17
                  go_wp2
                  go_ret
                  exact ⟨by first | rfl | (simp; done) | (simp [*]; done), by repeat (first | exact Drawn0.refl _ | apply Drawn0.step)⟩
                · rw [if_neg c9] at H
                  have c9b0 : (a0 == 108) = false := beq_eq_false_iff_ne.mpr c9
                  have c9b1 : (a0 != 108) = true := bne_iff_ne.mpr c9
                  by_cases c10 : a0 = 109
                  · rw [if_pos c10] at H
                    have c10b0 : (a0 == 109) = true := beq_iff_eq.mpr c10
                    have c10b1 : (a0 != 109) = false := bne_eq_false_iff_eq.mpr c10
                    clear c10
                    obtain rfl := Option.some.inj H
                    go_enter Tryd.func17, Tryd.ntmps17
                    go_wp2
                    go_ret
                    exact ⟨by first | rfl | (simp; done) | (simp [*]; done), by repeat (first | exact Drawn0.refl _ | apply Drawn0.step)⟩
                  · rw [if_neg c10] at H
                    have c10b0 : (a0 == 109) = false := beq_eq_false_iff_ne.mpr c10
                    have c10b1 : (a0 != 109) = true := bne_iff_ne.mpr c10
                    by_cases c11 : a0 = 201
                    · rw [if_pos c11] at H
                      have c11b0 : (a0 == 201) = true := beq_iff_eq.mpr c11
                      have c11b1 : (a0 != 201) = false := bne_eq_false_iff_eq.mpr c11
                      clear c11
                      obtain rfl := Option.some.inj H
                      go_enter Tryd.func17, Tryd.ntmps17
                      go_wp2
                      go_ret
                      exact ⟨by first | rfl | (simp; done) | (simp [*]; done), by repeat (first | exact Drawn0.refl _ | apply Drawn0.step)⟩
                    · rw [if_neg c11] at H
                      have c11b0 : (a0 == 201) = false := beq_eq_false_iff_ne.mpr c11
                      have c11b1 : (a0 != 201) = true := bne_iff_ne.mpr c11
                      by_cases c12 : a0 = 202
                      · rw [if_pos c12] at H
                        have c12b0 : (a0 == 202) = true := beq_iff_eq.mpr c12
                        have c12b1 : (a0 != 202) = false := bne_eq_false_iff_eq.mpr c12
                        clear c12
                        obtain rfl := Option.some.inj H
                        go_enter Tryd.func17, Tryd.ntmps17
                        go_wp2
                        go_ret
                        exact ⟨by first | rfl | (simp; done) | (simp [*]; done), by repeat (first | exact Drawn0.refl _ | apply Drawn0.step)⟩
                      · rw [if_neg c12] at H
                        have c12b0 : (a0 == 202) = false := beq_eq_false_iff_ne.mpr c12
                        have c12b1 : (a0 != 202) = true := bne_iff_ne.mpr c12
                        by_cases c13 : a0 = 203
                        · rw [if_pos c13] at H
                          have c13b0 : (a0 == 203) = true := beq_iff_eq.mpr c13
                          have c13b1 : (a0 != 203) = false := bne_eq_false_iff_eq.mpr c13
                          clear c13
                          obtain rfl := Option.some.inj H
                          go_enter Tryd.func17, Tryd.ntmps17
                          go_wp2
                          go_ret
                          exact ⟨by first | rfl | (simp; done) | (simp [*]; done), by repeat (first | exact Drawn0.refl _ | apply Drawn0.step)⟩
                        · rw [if_neg c13] at H
                          have c13b0 : (a0 == 203) = false := beq_eq_false_iff_ne.mpr c13
                          have c13b1 : (a0 != 203) = true := bne_iff_ne.mpr c13
                          by_cases c14 : a0 = 204
                          · rw [if_pos c14] at H
                            have c14b0 : (a0 == 204) = true := beq_iff_eq.mpr c14
                            have c14b1 : (a0 != 204) = false := bne_eq_false_iff_eq.mpr c14
                            clear c14
                            obtain rfl := Option.some.inj H
                            go_enter Tryd.func17, Tryd.ntmps17
                            go_wp2
                            go_ret
                            exact ⟨by first | rfl | (simp; done) | (simp [*]; done), by repeat (first | exact Drawn0.refl _ | apply Drawn0.step)⟩
                          · rw [if_neg c14] at H
                            have c14b0 : (a0 == 204) = false := beq_eq_false_iff_ne.mpr c14
                            have c14b1 : (a0 != 204) = true := bne_iff_ne.mpr c14
                            by_cases c15 : a0 = 301
                            · rw [if_pos c15] at H
                              have c15b0 : (a0 == 301) = true := beq_iff_eq.mpr c15
                              have c15b1 : (a0 != 301) = false := bne_eq_false_iff_eq.mpr c15
                              clear c15
                              obtain rfl := Option.some.inj H
                              go_enter Tryd.func17, Tryd.ntmps17
                              go_wp2
                              go_ret
                              exact ⟨by first | rfl | (simp; done) | (simp [*]; done), by repeat (first | exact Drawn0.refl _ | apply Drawn0.step)⟩
                            · rw [if_neg c15] at H
                              have c15b0 : (a0 == 301) = false := beq_eq_false_iff_ne.mpr c15
                              have c15b1 : (a0 != 301) = true := bne_iff_ne.mpr c15
                              by_cases c16 : a0 = 302
                              · rw [if_pos c16] at H
                                have c16b0 : (a0 == 302) = true := beq_iff_eq.mpr c16
                                have c16b1 : (a0 != 302) = false := bne_eq_false_iff_eq.mpr c16
                                clear c16
                                obtain rfl := Option.some.inj H
                                go_enter Tryd.func17, Tryd.ntmps17
                                go_wp2
                                go_ret
                                exact ⟨by first | rfl | (simp; done) | (simp [*]; done), by repeat (first | exact Drawn0.refl _ | apply Drawn0.step)⟩
                              · rw [if_neg c16] at H
                                have c16b0 : (a0 == 302) = false := beq_eq_false_iff_ne.mpr c16
                                have c16b1 : (a0 != 302) = true := bne_iff_ne.mpr c16
                                by_cases c17 : a0 = 303
                                · rw [if_pos c17] at H
                                  have c17b0 : (a0 == 303) = true := beq_iff_eq.mpr c17
                                  have c17b1 : (a0 != 303) = false := bne_eq_false_iff_eq.mpr c17
                                  clear c17
                                  obtain rfl := Option.some.inj H
                                  go_enter Tryd.func17, Tryd.ntmps17
                                  go_wp2
                                  go_ret
                                  exact ⟨by first | rfl | (simp; done) | (simp [*]; done), by repeat (first | exact Drawn0.refl _ | apply Drawn0.step)⟩
                                · rw [if_neg c17] at H
                                  have c17b0 : (a0 == 303) = false := beq_eq_false_iff_ne.mpr c17
                                  have c17b1 : (a0 != 303) = true := bne_iff_ne.mpr c17
                                  by_cases c18 : a0 = 304
                                  · rw [if_pos c18] at H
                                    have c18b0 : (a0 == 304) = true := beq_iff_eq.mpr c18
                                    have c18b1 : (a0 != 304) = false := bne_eq_false_iff_eq.mpr c18
                                    clear c18
                                    obtain rfl := Option.some.inj H
                                    go_enter Tryd.func17, Tryd.ntmps17
                                    go_wp2
                                    go_ret
                                    exact ⟨by first | rfl | (simp; done) | (simp [*]; done), by repeat (first | exact Drawn0.refl _ | apply Drawn0.step)⟩
                                  · rw [if_neg c18] at H
                                    have c18b0 : (a0 == 304) = false := beq_eq_false_iff_ne.mpr c18
                                    have c18b1 : (a0 != 304) = true := bne_iff_ne.mpr c18
                                    by_cases c19 : a0 = 401
                                    · rw [if_pos c19] at H
                                      have c19b0 : (a0 == 401) = true := beq_iff_eq.mpr c19
                                      have c19b1 : (a0 != 401) = false := bne_eq_false_iff_eq.mpr c19
                                      clear c19
                                      obtain rfl := Option.some.inj H
                                      go_enter Tryd.func17, Tryd.ntmps17
                                      go_wp2
                                      go_ret
                                      exact ⟨by first | rfl | (simp; done) | (simp [*]; done), by repeat (first | exact Drawn0.refl _ | apply Drawn0.step)⟩
                                    · rw [if_neg c19] at H
                                      have c19b0 : (a0 == 401) = false := beq_eq_false_iff_ne.mpr c19
                                      have c19b1 : (a0 != 401) = true := bne_iff_ne.mpr c19
                                      by_cases c20 : a0 = 402
                                      · rw [if_pos c20] at H
                                        have c20b0 : (a0 == 402) = true := beq_iff_eq.mpr c20
                                        have c20b1 : (a0 != 402) = false := bne_eq_false_iff_eq.mpr c20
                                        clear c20
                                        obtain rfl := Option.some.inj H
                                        go_enter Tryd.func17, Tryd.ntmps17
                                        go_wp2
                                        go_ret
                                        exact ⟨by first | rfl | (simp; done) | (simp [*]; done), by repeat (first | exact Drawn0.refl _ | apply Drawn0.step)⟩
                                      · rw [if_neg c20] at H
                                        have c20b0 : (a0 == 402) = false := beq_eq_false_iff_ne.mpr c20
                                        have c20b1 : (a0 != 402) = true := bne_iff_ne.mpr c20
                                        by_cases c21 : a0 = 403
                                        · rw [if_pos c21] at H
                                          have c21b0 : (a0 == 403) = true := beq_iff_eq.mpr c21
                                          have c21b1 : (a0 != 403) = false := bne_eq_false_iff_eq.mpr c21
                                          clear c21
                                          obtain rfl := Option.some.inj H
                                          go_enter Tryd.func17, Tryd.ntmps17
                                          go_wp2
                                          go_ret
                                          exact ⟨by first | rfl | (simp; done) | (simp [*]; done), by repeat (first | exact Drawn0.refl _ | apply Drawn0.step)⟩
                                        · rw [if_neg c21] at H
                                          have c21b0 : (a0 == 403) = false := beq_eq_false_iff_ne.mpr c21
                                          have c21b1 : (a0 != 403) = true := bne_iff_ne.mpr c21
                                          by_cases c22 : a0 = 404
                                          · rw [if_pos c22] at H
                                            have c22b0 : (a0 == 404) = true := beq_iff_eq.mpr c22
                                            have c22b1 : (a0 != 404) = false := bne_eq_false_iff_eq.mpr c22
                                            clear c22
                                            obtain rfl := Option.some.inj H
                                            go_enter Tryd.func17, Tryd.ntmps17
                                            go_wp2
                                            go_ret
                                            exact ⟨by first | rfl | (simp; done) | (simp [*]; done), by repeat (first | exact Drawn0.refl _ | apply Drawn0.step)⟩
                                          · rw [if_neg c22] at H
                                            have c22b0 : (a0 == 404) = false := beq_eq_false_iff_ne.mpr c22
                                            have c22b1 : (a0 != 404) = true := bne_iff_ne.mpr c22
                                            by_cases c23 : a0 = 405
                                            · rw [if_pos c23] at H
                                              have c23b0 : (a0 == 405) = true := beq_iff_eq.mpr c23
                                              have c23b1 : (a0 != 405) = false := bne_eq_false_iff_eq.mpr c23
                                              clear c23
                                              obtain rfl := Option.some.inj H
                                              go_enter Tryd.func17, Tryd.ntmps17
                                              go_wp2
                                              go_ret
                                              exact ⟨by first | rfl | (simp; done) | (simp [*]; done), by repeat (first | exact Drawn0.refl _ | apply Drawn0.step)⟩
                                            · rw [if_neg c23] at H
                                              have c23b0 : (a0 == 405) = false := beq_eq_false_iff_ne.mpr c23
                                              have c23b1 : (a0 != 405) = true := bne_iff_ne.mpr c23
                                              by_cases c24 : a0 = 406
                                              · rw [if_pos c24] at H
                                                have c24b0 : (a0 == 406) = true := beq_iff_eq.mpr c24
                                                have c24b1 : (a0 != 406) = false := bne_eq_false_iff_eq.mpr c24
                                                clear c24
                                                obtain rfl := Option.some.inj H
                                                go_enter Tryd.func17, Tryd.ntmps17
                                                go_wp2
                                                go_ret
                                                exact ⟨by first | rfl | (simp; done) | (simp [*]; done), by repeat (first | exact Drawn0.refl _ | apply Drawn0.step)⟩
                                              · rw [if_neg c24] at H
                                                have c24b0 : (a0 == 406) = false := beq_eq_false_iff_ne.mpr c24
                                                have c24b1 : (a0 != 406) = true := bne_iff_ne.mpr c24
                                                by_cases c25 : a0 = 501
                                                · rw [if_pos c25] at H
                                                  have c25b0 : (a0 == 501) = true := beq_iff_eq.mpr c25
                                                  have c25b1 : (a0 != 501) = false := bne_eq_false_iff_eq.mpr c25
                                                  clear c25
                                                  obtain rfl := Option.some.inj H
                                                  go_enter Tryd.func17, Tryd.ntmps17
                                                  go_wp2
                                                  go_ret
                                                  exact ⟨by first | rfl | (simp; done) | (simp [*]; done), by repeat (first | exact Drawn0.refl _ | apply Drawn0.step)⟩
                                                · rw [if_neg c25] at H
                                                  have c25b0 : (a0 == 501) = false := beq_eq_false_iff_ne.mpr c25
                                                  have c25b1 : (a0 != 501) = true := bne_iff_ne.mpr c25
                                                  by_cases c26 : a0 = 502
                                                  · rw [if_pos c26] at H
                                                    have c26b0 : (a0 == 502) = true := beq_iff_eq.mpr c26
                                                    have c26b1 : (a0 != 502) = false := bne_eq_false_iff_eq.mpr c26
                                                    clear c26
                                                    obtain rfl := Option.some.inj H
                                                    go_enter Tryd.func17, Tryd.ntmps17
                                                    go_wp2
                                                    go_ret
                                                    exact ⟨by first | rfl | (simp; done) | (simp [*]; done), by repeat (first | exact Drawn0.refl _ | apply Drawn0.step)⟩
                                                  · rw [if_neg c26] at H
                                                    have c26b0 : (a0 == 502) = false := beq_eq_false_iff_ne.mpr c26
                                                    have c26b1 : (a0 != 502) = true := bne_iff_ne.mpr c26
                                                    by_cases c27 : a0 = 503
                                                    · rw [if_pos c27] at H
                                                      have c27b0 : (a0 == 503) = true := beq_iff_eq.mpr c27
                                                      have c27b1 : (a0 != 503) = false := bne_eq_false_iff_eq.mpr c27
                                                      clear c27
                                                      obtain rfl := Option.some.inj H
                                                      go_enter Tryd.func17, Tryd.ntmps17
                                                      go_wp2
                                                      go_ret
                                                      exact ⟨by first | rfl | (simp; done) | (simp [*]; done), by repeat (first | exact Drawn0.refl _ | apply Drawn0.step)⟩
                                                    · rw [if_neg c27] at H
                                                      have c27b0 : (a0 == 503) = false := beq_eq_false_iff_ne.mpr c27
                                                      have c27b1 : (a0 != 503) = true := bne_iff_ne.mpr c27
                                                      by_cases c28 : a0 = 504
                                                      · rw [if_pos c28] at H
                                                        have c28b0 : (a0 == 504) = true := beq_iff_eq.mpr c28
                                                        have c28b1 : (a0 != 504) = false := bne_eq_false_iff_eq.mpr c28
                                                        clear c28
                                                        obtain rfl := Option.some.inj H
                                                        go_enter Tryd.func17, Tryd.ntmps17
                                                        go_wp2
                                                        go_ret
                                                        exact ⟨by first | rfl | (simp; done) | (simp [*]; done), by repeat (first | exact Drawn0.refl _ | apply Drawn0.step)⟩
                                                      · rw [if_neg c28] at H
                                                        have c28b0 : (a0 == 504) = false := beq_eq_false_iff_ne.mpr c28
                                                        have c28b1 : (a0 != 504) = true := bne_iff_ne.mpr c28
                                                        by_cases c29 : a0 = 505
                                                        · rw [if_pos c29] at H
                                                          have c29b0 : (a0 == 505) = true := beq_iff_eq.mpr c29
                                                          have c29b1 : (a0 != 505) = false := bne_eq_false_iff_eq.mpr c29
                                                          clear c29
                                                          obtain rfl := Option.some.inj H
                                                          go_enter Tryd.func17, Tryd.ntmps17
                                                          go_wp2
                                                          go_ret
                                                          exact ⟨by first | rfl | (simp; done) | (simp [*]; done), by repeat (first | exact Drawn0.refl _ | apply Drawn0.step)⟩
                                                        · rw [if_neg c29] at H
                                                          have c29b0 : (a0 == 505) = false := beq_eq_false_iff_ne.mpr c29
                                                          have c29b1 : (a0 != 505) = true := bne_iff_ne.mpr c29
                                                          by_cases c30 : a0 = 511
                                                          · rw [if_pos c30] at H
                                                            have c30b0 : (a0 == 511) = true := beq_iff_eq.mpr c30
                                                            have c30b1 : (a0 != 511) = false := bne_eq_false_iff_eq.mpr c30
                                                            clear c30
                                                            obtain rfl := Option.some.inj H
                                                            go_enter Tryd.func17, Tryd.ntmps17
                                                            go_wp2
                                                            go_ret
                                                            exact ⟨by first | rfl | (simp; done) | (simp [*]; done), by repeat (first | exact Drawn0.refl _ | apply Drawn0.step)⟩
                                                          · rw [if_neg c30] at H
                                                            have c30b0 : (a0 == 511) = false := beq_eq_false_iff_ne.mpr c30
                                                            have c30b1 : (a0 != 511) = true := bne_iff_ne.mpr c30
                                                            by_cases c31 : a0 = 512
                                                            · rw [if_pos c31] at H
                                                              have c31b0 : (a0 == 512) = true := beq_iff_eq.mpr c31
                                                              have c31b1 : (a0 != 512) = false := bne_eq_false_iff_eq.mpr c31
                                                              clear c31
                                                              obtain rfl := Option.some.inj H
                                                              go_enter Tryd.func17, Tryd.ntmps17
                                                              go_wp2
                                                              go_ret
                                                              exact ⟨by first | rfl | (simp; done) | (simp [*]; done), by repeat (first | exact Drawn0.refl _ | apply Drawn0.step)⟩
                                                            · rw [if_neg c31] at H
                                                              have c31b0 : (a0 == 512) = false := beq_eq_false_iff_ne.mpr c31
                                                              have c31b1 : (a0 != 512) = true := bne_iff_ne.mpr c31
                                                              by_cases c32 : a0 = 513
                                                              · rw [if_pos c32] at H
                                                                have c32b0 : (a0 == 513) = true := beq_iff_eq.mpr c32
                                                                have c32b1 : (a0 != 513) = false := bne_eq_false_iff_eq.mpr c32
                                                                clear c32
                                                                obtain rfl := Option.some.inj H
                                                                go_enter Tryd.func17, Tryd.ntmps17
                                                                go_wp2
                                                                go_ret
                                                                exact ⟨by first | rfl | (simp; done) | (simp [*]; done), by repeat (first | exact Drawn0.refl _ | apply Drawn0.step)⟩
                                                              · rw [if_neg c32] at H
                                                                have c32b0 : (a0 == 513) = false := beq_eq_false_iff_ne.mpr c32
                                                                have c32b1 : (a0 != 513) = true := bne_iff_ne.mpr c32
                                                                by_cases c33 : a0 = 514
                                                                · rw [if_pos c33] at H
                                                                  have c33b0 : (a0 == 514) = true := beq_iff_eq.mpr c33
                                                                  have c33b1 : (a0 != 514) = false := bne_eq_false_iff_eq.mpr c33
                                                                  clear c33
                                                                  obtain rfl := Option.some.inj H
                                                                  go_enter Tryd.func17, Tryd.ntmps17
                                                                  go_wp2
                                                                  go_ret
                                                                  exact ⟨by first | rfl | (simp; done) | (simp [*]; done), by repeat (first | exact Drawn0.refl _ | apply Drawn0.step)⟩
                                                                · rw [if_neg c33] at H
                                                                  have c33b0 : (a0 == 514) = false := beq_eq_false_iff_ne.mpr c33
                                                                  have c33b1 : (a0 != 514) = true := bne_iff_ne.mpr c33
                                                                  by_cases c34 : a0 = 515
                                                                  · rw [if_pos c34] at H
                                                                    have c34b0 : (a0 == 515) = true := beq_iff_eq.mpr c34
                                                                    have c34b1 : (a0 != 515) = false := bne_eq_false_iff_eq.mpr c34
                                                                    clear c34
                                                                    obtain rfl := Option.some.inj H
                                                                    go_enter Tryd.func17, Tryd.ntmps17
                                                                    go_wp2
                                                                    go_ret
                                                                    exact ⟨by first | rfl | (simp; done) | (simp [*]; done), by repeat (first | exact Drawn0.refl _ | apply Drawn0.step)⟩
                                                                  · rw [if_neg c34] at H
                                                                    have c34b0 : (a0 == 515) = false := beq_eq_false_iff_ne.mpr c34
                                                                    have c34b1 : (a0 != 515) = true := bne_iff_ne.mpr c34
                                                                    by_cases c35 : a0 = 516
                                                                    · rw [if_pos c35] at H
                                                                      have c35b0 : (a0 == 516) = true := beq_iff_eq.mpr c35
                                                                      have c35b1 : (a0 != 516) = false := bne_eq_false_iff_eq.mpr c35
                                                                      clear c35
                                                                      obtain rfl := Option.some.inj H
                                                                      go_enter Tryd.func17, Tryd.ntmps17
                                                                      go_wp2
                                                                      go_ret
                                                                      exact ⟨by first | rfl | (simp; done) | (simp [*]; done), by repeat (first | exact Drawn0.refl _ | apply Drawn0.step)⟩
                                                                    · rw [if_neg c35] at H
                                                                      have c35b0 : (a0 == 516) = false := beq_eq_false_iff_ne.mpr c35
                                                                      have c35b1 : (a0 != 516) = true := bne_iff_ne.mpr c35
                                                                      by_cases c36 : a0 = 517
                                                                      · rw [if_pos c36] at H
                                                                        have c36b0 : (a0 == 517) = true := beq_iff_eq.mpr c36
                                                                        have c36b1 : (a0 != 517) = false := bne_eq_false_iff_eq.mpr c36
                                                                        clear c36
                                                                        obtain rfl := Option.some.inj H
                                                                        go_enter Tryd.func17, Tryd.ntmps17
                                                                        go_wp2
                                                                        go_ret
                                                                        exact ⟨by first | rfl | (simp; done) | (simp [*]; done), by repeat (first | exact Drawn0.refl _ | apply Drawn0.step)⟩
                                                                      · rw [if_neg c36] at H
                                                                        have c36b0 : (a0 == 517) = false := beq_eq_false_iff_ne.mpr c36
                                                                        have c36b1 : (a0 != 517) = true := bne_iff_ne.mpr c36
                                                                        by_cases c37 : a0 = 518
                                                                        · rw [if_pos c37] at H
                                                                          have c37b0 : (a0 == 518) = true := beq_iff_eq.mpr c37
                                                                          have c37b1 : (a0 != 518) = false := bne_eq_false_iff_eq.mpr c37
                                                                          clear c37
                                                                          obtain rfl := Option.some.inj H
                                                                          go_enter Tryd.func17, Tryd.ntmps17
                                                                          go_wp2
                                                                          go_ret
                                                                          exact ⟨by first | rfl | (simp; done) | (simp [*]; done), by repeat (first | exact Drawn0.refl _ | apply Drawn0.step)⟩
                                                                        · rw [if_neg c37] at H
                                                                          have c37b0 : (a0 == 518) = false := beq_eq_false_iff_ne.mpr c37
                                                                          have c37b1 : (a0 != 518) = true := bne_iff_ne.mpr c37
                                                                          by_cases c38 : a0 = 519
                                                                          · rw [if_pos c38] at H
                                                                            have c38b0 : (a0 == 519) = true := beq_iff_eq.mpr c38
                                                                            have c38b1 : (a0 != 519) = false := bne_eq_false_iff_eq.mpr c38
                                                                            clear c38
                                                                            obtain rfl := Option.some.inj H
                                                                            go_enter Tryd.func17, Tryd.ntmps17
                                                                            go_wp2
                                                                            go_ret
                                                                            exact ⟨by first | rfl | (simp; done) | (simp [*]; done), by repeat (first | exact Drawn0.refl _ | apply Drawn0.step)⟩
                                                                          · rw [if_neg c38] at H
                                                                            have c38b0 : (a0 == 519) = false := beq_eq_false_iff_ne.mpr c38
                                                                            have c38b1 : (a0 != 519) = true := bne_iff_ne.mpr c38
                                                                            by_cases c39 : a0 = 520
                                                                            · rw [if_pos c39] at H
                                                                              have c39b0 : (a0 == 520) = true := beq_iff_eq.mpr c39
                                                                              have c39b1 : (a0 != 520) = false := bne_eq_false_iff_eq.mpr c39
                                                                              clear c39
                                                                              obtain rfl := Option.some.inj H
                                                                              go_enter Tryd.func17, Tryd.ntmps17
                                                                              go_wp2
                                                                              go_ret
                                                                              exact ⟨by first | rfl | (simp; done) | (simp [*]; done), by repeat (first | exact Drawn0.refl _ | apply Drawn0.step)⟩
                                                                            · rw [if_neg c39] at H
                                                                              have c39b0 : (a0 == 520) = false := beq_eq_false_iff_ne.mpr c39
                                                                              have c39b1 : (a0 != 520) = true := bne_iff_ne.mpr c39
                                                                              by_cases c40 : a0 = 521
                                                                              · rw [if_pos c40] at H
                                                                                have c40b0 : (a0 == 521) = true := beq_iff_eq.mpr c40
                                                                                have c40b1 : (a0 != 521) = false := bne_eq_false_iff_eq.mpr c40
                                                                                clear c40
                                                                                obtain rfl := Option.some.inj H
                                                                                go_enter Tryd.func17, Tryd.ntmps17
                                                                                go_wp2
                                                                                go_ret
                                                                                exact ⟨by first | rfl | (simp; done) | (simp [*]; done), by repeat (first | exact Drawn0.refl _ | apply Drawn0.step)⟩
                                                                              · rw [if_neg c40] at H
                                                                                have c40b0 : (a0 == 521) = false := beq_eq_false_iff_ne.mpr c40
                                                                                have c40b1 : (a0 != 521) = true := bne_iff_ne.mpr c40
                                                                                by_cases c41 : a0 = 522
                                                                                · rw [if_pos c41] at H
                                                                                  have c41b0 : (a0 == 522) = true := beq_iff_eq.mpr c41
                                                                                  have c41b1 : (a0 != 522) = false := bne_eq_false_iff_eq.mpr c41
                                                                                  clear c41
                                                                                  obtain rfl := Option.some.inj H
                                                                                  go_enter Tryd.func17, Tryd.ntmps17
                                                                                  go_wp2
                                                                                  go_ret
                                                                                  exact ⟨by first | rfl | (simp; done) | (simp [*]; done), by repeat (first | exact Drawn0.refl _ | apply Drawn0.step)⟩
                                                                                · rw [if_neg c41] at H
                                                                                  have c41b0 : (a0 == 522) = false := beq_eq_false_iff_ne.mpr c41
                                                                                  have c41b1 : (a0 != 522) = true := bne_iff_ne.mpr c41
                                                                                  by_cases c42 : a0 = 523
                                                                                  · rw [if_pos c42] at H
                                                                                    have c42b0 : (a0 == 523) = true := beq_iff_eq.mpr c42
                                                                                    have c42b1 : (a0 != 523) = false := bne_eq_false_iff_eq.mpr c42
                                                                                    clear c42
                                                                                    obtain rfl := Option.some.inj H
                                                                                    go_enter Tryd.func17, Tryd.ntmps17
                                                                                    go_wp2
                                                                                    go_ret
                                                                                    exact ⟨by first | rfl | (simp; done) | (simp [*]; done), by repeat (first | exact Drawn0.refl _ | apply Drawn0.step)⟩
                                                                                  · rw [if_neg c42] at H
                                                                                    have c42b0 : (a0 == 523) = false := beq_eq_false_iff_ne.mpr c42
                                                                                    have c42b1 : (a0 != 523) = true := bne_iff_ne.mpr c42
                                                                                    by_cases c43 : a0 = 524
                                                                                    · rw [if_pos c43] at H
                                                                                      have c43b0 : (a0 == 524) = true := beq_iff_eq.mpr c43
                                                                                      have c43b1 : (a0 != 524) = false := bne_eq_false_iff_eq.mpr c43
                                                                                      clear c43
                                                                                      obtain rfl := Option.some.inj H
                                                                                      go_enter Tryd.func17, Tryd.ntmps17
                                                                                      go_wp2
                                                                                      go_ret
                                                                                      exact ⟨by first | rfl | (simp; done) | (simp [*]; done), by repeat (first | exact Drawn0.refl _ | apply Drawn0.step)⟩
                                                                                    · rw [if_neg c43] at H
                                                                                      have c43b0 : (a0 == 524) = false := beq_eq_false_iff_ne.mpr c43
                                                                                      have c43b1 : (a0 != 524) = true := bne_iff_ne.mpr c43
                                                                                      by_cases c44 : a0 = 525
                                                                                      · rw [if_pos c44] at H
                                                                                        have c44b0 : (a0 == 525) = true := beq_iff_eq.mpr c44
                                                                                        have c44b1 : (a0 != 525) = false := bne_eq_false_iff_eq.mpr c44
                                                                                        clear c44
                                                                                        obtain rfl := Option.some.inj H
                                                                                        go_enter Tryd.func17, Tryd.ntmps17
                                                                                        go_wp2
                                                                                        go_ret
                                                                                        exact ⟨by first | rfl | (simp; done) | (simp [*]; done), by repeat (first | exact Drawn0.refl _ | apply Drawn0.step)⟩
                                                                                      · rw [if_neg c44] at H
                                                                                        have c44b0 : (a0 == 525) = false := beq_eq_false_iff_ne.mpr c44
                                                                                        have c44b1 : (a0 != 525) = true := bne_iff_ne.mpr c44
                                                                                        by_cases c45 : a0 = 526
                                                                                        · rw [if_pos c45] at H
                                                                                          have c45b0 : (a0 == 526) = true := beq_iff_eq.mpr c45
                                                                                          have c45b1 : (a0 != 526) = false := bne_eq_false_iff_eq.mpr c45
                                                                                          clear c45
                                                                                          obtain rfl := Option.some.inj H
                                                                                          go_enter Tryd.func17, Tryd.ntmps17
                                                                                          go_wp2
                                                                                          go_ret
                                                                                          exact ⟨by first | rfl | (simp; done) | (simp [*]; done), by repeat (first | exact Drawn0.refl _ | apply Drawn0.step)⟩
                                                                                        · rw [if_neg c45] at H
                                                                                          have c45b0 : (a0 == 526) = false := beq_eq_false_iff_ne.mpr c45
                                                                                          have c45b1 : (a0 != 526) = true := bne_iff_ne.mpr c45
                                                                                          by_cases c46 : a0 = 527
                                                                                          · rw [if_pos c46] at H
                                                                                            have c46b0 : (a0 == 527) = true := beq_iff_eq.mpr c46
                                                                                            have c46b1 : (a0 != 527) = false := bne_eq_false_iff_eq.mpr c46
                                                                                            clear c46
                                                                                            obtain rfl := Option.some.inj H
                                                                                            go_enter Tryd.func17, Tryd.ntmps17
                                                                                            go_wp2
                                                                                            go_ret
                                                                                            exact ⟨by first | rfl | (simp; done) | (simp [*]; done), by repeat (first | exact Drawn0.refl _ | apply Drawn0.step)⟩
                                                                                          · rw [if_neg c46] at H
                                                                                            have c46b0 : (a0 == 527) = false := beq_eq_false_iff_ne.mpr c46
                                                                                            have c46b1 : (a0 != 527) = true := bne_iff_ne.mpr c46
                                                                                            by_cases c47 : a0 = 528
                                                                                            · rw [if_pos c47] at H
                                                                                              have c47b0 : (a0 == 528) = true := beq_iff_eq.mpr c47
                                                                                              have c47b1 : (a0 != 528) = false := bne_eq_false_iff_eq.mpr c47
                                                                                              clear c47
                                                                                              obtain rfl := Option.some.inj H
                                                                                              go_enter Tryd.func17, Tryd.ntmps17
                                                                                              go_wp2
                                                                                              go_ret
                                                                                              exact ⟨by first | rfl | (simp; done) | (simp [*]; done), by repeat (first | exact Drawn0.refl _ | apply Drawn0.step)⟩
                                                                                            · rw [if_neg c47] at H
                                                                                              have c47b0 : (a0 == 528) = false := beq_eq_false_iff_ne.mpr c47
                                                                                              have c47b1 : (a0 != 528) = true := bne_iff_ne.mpr c47
                                                                                              by_cases c48 : a0 = 529
                                                                                              · rw [if_pos c48] at H
                                                                                                have c48b0 : (a0 == 529) = true := beq_iff_eq.mpr c48
                                                                                                have c48b1 : (a0 != 529) = false := bne_eq_false_iff_eq.mpr c48
                                                                                                clear c48
                                                                                                obtain rfl := Option.some.inj H
                                                                                                go_enter Tryd.func17, Tryd.ntmps17
                                                                                                go_wp2
                                                                                                go_ret
                                                                                                exact ⟨by first | rfl | (simp; done) | (simp [*]; done), by repeat (first | exact Drawn0.refl _ | apply Drawn0.step)⟩
                                                                                              · rw [if_neg c48] at H
                                                                                                have c48b0 : (a0 == 529) = false := beq_eq_false_iff_ne.mpr c48
                                                                                                have c48b1 : (a0 != 529) = true := bne_iff_ne.mpr c48
                                                                                                by_cases c49 : a0 = 530
                                                                                                · rw [if_pos c49] at H
                                                                                                  have c49b0 : (a0 == 530) = true := beq_iff_eq.mpr c49
                                                                                                  have c49b1 : (a0 != 530) = false := bne_eq_false_iff_eq.mpr c49
                                                                                                  clear c49
                                                                                                  obtain rfl := Option.some.inj H
                                                                                                  go_enter Tryd.func17, Tryd.ntmps17
                                                                                                  go_wp2
                                                                                                  go_ret
                                                                                                  exact ⟨by first | rfl | (simp; done) | (simp [*]; done), by repeat (first | exact Drawn0.refl _ | apply Drawn0.step)⟩
                                                                                                · rw [if_neg c49] at H
                                                                                                  have c49b0 : (a0 == 530) = false := beq_eq_false_iff_ne.mpr c49
                                                                                                  have c49b1 : (a0 != 530) = true := bne_iff_ne.mpr c49
                                                                                                  by_cases c50 : a0 = 541
                                                                                                  · rw [if_pos c50] at H
                                                                                                    have c50b0 : (a0 == 541) = true := beq_iff_eq.mpr c50
                                                                                                    have c50b1 : (a0 != 541) = false := bne_eq_false_iff_eq.mpr c50
                                                                                                    clear c50
                                                                                                    obtain rfl := Option.some.inj H
                                                                                                    go_enter Tryd.func17, Tryd.ntmps17
                                                                                                    go_wp2
                                                                                                    go_ret
                                                                                                    exact ⟨by first | rfl | (simp; done) | (simp [*]; done), by repeat (first | exact Drawn0.refl _ | apply Drawn0.step)⟩
                                                                                                  · rw [if_neg c50] at H
                                                                                                    have c50b0 : (a0 == 541) = false := beq_eq_false_iff_ne.mpr c50
                                                                                                    have c50b1 : (a0 != 541) = true := bne_iff_ne.mpr c50
                                                                                                    by_cases c51 : a0 = 542
                                                                                                    · rw [if_pos c51] at H
                                                                                                      have c51b0 : (a0 == 542) = true := beq_iff_eq.mpr c51
                                                                                                      have c51b1 : (a0 != 542) = false := bne_eq_false_iff_eq.mpr c51
                                                                                                      clear c51
                                                                                                      obtain rfl := Option.some.inj H
                                                                                                      go_enter Tryd.func17, Tryd.ntmps17
                                                                                                      go_wp2
                                                                                                      go_ret
                                                                                                      exact ⟨by first | rfl | (simp; done) | (simp [*]; done), by repeat (first | exact Drawn0.refl _ | apply Drawn0.step)⟩
                                                                                                    · rw [if_neg c51] at H
                                                                                                      have c51b0 : (a0 == 542) = false := beq_eq_false_iff_ne.mpr c51
                                                                                                      have c51b1 : (a0 != 542) = true := bne_iff_ne.mpr c51
                                                                                                      by_cases c52 : a0 = 543
                                                                                                      · rw [if_pos c52] at H
                                                                                                        have c52b0 : (a0 == 543) = true := beq_iff_eq.mpr c52
                                                                                                        have c52b1 : (a0 != 543) = false := bne_eq_false_iff_eq.mpr c52
                                                                                                        clear c52
                                                                                                        obtain rfl := Option.some.inj H
                                                                                                        go_enter Tryd.func17, Tryd.ntmps17
                                                                                                        go_wp2
                                                                                                        go_ret
                                                                                                        exact ⟨by first | rfl | (simp; done) | (simp [*]; done), by repeat (first | exact Drawn0.refl _ | apply Drawn0.step)⟩
                                                                                                      · rw [if_neg c52] at H
                                                                                                        have c52b0 : (a0 == 543) = false := beq_eq_false_iff_ne.mpr c52
                                                                                                        have c52b1 : (a0 != 543) = true := bne_iff_ne.mpr c52
                                                                                                        by_cases c53 : a0 = 551
                                                                                                        · rw [if_pos c53] at H
                                                                                                          have c53b0 : (a0 == 551) = true := beq_iff_eq.mpr c53
                                                                                                          have c53b1 : (a0 != 551) = false := bne_eq_false_iff_eq.mpr c53
                                                                                                          clear c53
                                                                                                          obtain rfl := Option.some.inj H
                                                                                                          go_enter Tryd.func17, Tryd.ntmps17
                                                                                                          go_wp2
                                                                                                          go_ret
                                                                                                          exact ⟨by first | rfl | (simp; done) | (simp [*]; done), by repeat (first | exact Drawn0.refl _ | apply Drawn0.step)⟩
                                                                                                        · rw [if_neg c53] at H
                                                                                                          have c53b0 : (a0 == 551) = false := beq_eq_false_iff_ne.mpr c53
                                                                                                          have c53b1 : (a0 != 551) = true := bne_iff_ne.mpr c53
                                                                                                          by_cases c54 : a0 = 552
                                                                                                          · rw [if_pos c54] at H
                                                                                                            have c54b0 : (a0 == 552) = true := beq_iff_eq.mpr c54
                                                                                                            have c54b1 : (a0 != 552) = false := bne_eq_false_iff_eq.mpr c54
                                                                                                            clear c54
                                                                                                            obtain rfl := Option.some.inj H
                                                                                                            go_enter Tryd.func17, Tryd.ntmps17
                                                                                                            go_wp2
                                                                                                            go_ret
                                                                                                            exact ⟨by first | rfl | (simp; done) | (simp [*]; done), by repeat (first | exact Drawn0.refl _ | apply Drawn0.step)⟩
                                                                                                          · rw [if_neg c54] at H
                                                                                                            have c54b0 : (a0 == 552) = false := beq_eq_false_iff_ne.mpr c54
                                                                                                            have c54b1 : (a0 != 552) = true := bne_iff_ne.mpr c54
                                                                                                            by_cases c55 : a0 = 553
                                                                                                            · rw [if_pos c55] at H
                                                                                                              have c55b0 : (a0 == 553) = true := beq_iff_eq.mpr c55
                                                                                                              have c55b1 : (a0 != 553) = false := bne_eq_false_iff_eq.mpr c55
                                                                                                              clear c55
                                                                                                              obtain rfl := Option.some.inj H
                                                                                                              go_enter Tryd.func17, Tryd.ntmps17
                                                                                                              go_wp2
                                                                                                              go_ret
                                                                                                              exact ⟨by first | rfl | (simp; done) | (simp [*]; done), by repeat (first | exact Drawn0.refl _ | apply Drawn0.step)⟩
                                                                                                            · rw [if_neg c55] at H
                                                                                                              have c55b0 : (a0 == 553) = false := beq_eq_false_iff_ne.mpr c55
                                                                                                              have c55b1 : (a0 != 553) = true := bne_iff_ne.mpr c55
                                                                                                              by_cases c56 : a0 = 554
                                                                                                              · rw [if_pos c56] at H
                                                                                                                have c56b0 : (a0 == 554) = true := beq_iff_eq.mpr c56
                                                                                                                have c56b1 : (a0 != 554) = false := bne_eq_false_iff_eq.mpr c56
                                                                                                                clear c56
                                                                                                                obtain rfl := Option.some.inj H
                                                                                                                go_enter Tryd.func17, Tryd.ntmps17
                                                                                                                go_wp2
                                                                                                                go_ret
                                                                                                                exact ⟨by first | rfl | (simp; done) | (simp [*]; done), by repeat (first | exact Drawn0.refl _ | apply Drawn0.step)⟩
                                                                                                              · rw [if_neg c56] at H
                                                                                                                have c56b0 : (a0 == 554) = false := beq_eq_false_iff_ne.mpr c56
                                                                                                                have c56b1 : (a0 != 554) = true := bne_iff_ne.mpr c56
                                                                                                                by_cases c57 : a0 = 555
                                                                                                                · rw [if_pos c57] at H
                                                                                                                  have c57b0 : (a0 == 555) = true := beq_iff_eq.mpr c57
                                                                                                                  have c57b1 : (a0 != 555) = false := bne_eq_false_iff_eq.mpr c57
                                                                                                                  clear c57
                                                                                                                  obtain rfl := Option.some.inj H
                                                                                                                  go_enter Tryd.func17, Tryd.ntmps17
                                                                                                                  go_wp2
                                                                                                                  go_ret
                                                                                                                  exact ⟨by first | rfl | (simp; done) | (simp [*]; done), by repeat (first | exact Drawn0.refl _ | apply Drawn0.step)⟩
                                                                                                                · rw [if_neg c57] at H
                                                                                                                  have c57b0 : (a0 == 555) = false := beq_eq_false_iff_ne.mpr c57
                                                                                                                  have c57b1 : (a0 != 555) = true := bne_iff_ne.mpr c57
                                                                                                                  by_cases c58 : a0 = 561
                                                                                                                  · rw [if_pos c58] at H
                                                                                                                    have c58b0 : (a0 == 561) = true := beq_iff_eq.mpr c58
                                                                                                                    have c58b1 : (a0 != 561) = false := bne_eq_false_iff_eq.mpr c58
                                                                                                                    clear c58
                                                                                                                    obtain rfl := Option.some.inj H
                                                                                                                    go_enter Tryd.func17, Tryd.ntmps17
                                                                                                                    go_wp2
                                                                                                                    go_ret
                                                                                                                    exact ⟨by first | rfl | (simp; done) | (simp [*]; done), by repeat (first | exact Drawn0.refl _ | apply Drawn0.step)⟩
                                                                                                                  · rw [if_neg c58] at H
                                                                                                                    have c58b0 : (a0 == 561) = false := beq_eq_false_iff_ne.mpr c58
                                                                                                                    have c58b1 : (a0 != 561) = true := bne_iff_ne.mpr c58
                                                                                                                    obtain rfl := Option.some.inj H
                                                                                                                    go_enter Tryd.func17, Tryd.ntmps17
                                                                                                                    go_wp2
                                                                                                                    go_ret
                                                                                                                    exact ⟨by first | rfl | (simp; done) | (simp [*]; done), by repeat (first | exact Drawn0.refl _ | apply Drawn0.step)⟩

end Go.Proofs.YtcbimnmpdpkefaaDoor.A
